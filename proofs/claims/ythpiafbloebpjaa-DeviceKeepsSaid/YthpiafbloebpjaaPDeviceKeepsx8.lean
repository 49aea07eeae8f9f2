/- This file proves, function by function, what the Go functions that one law uses compute; most of it was printed by a program (wip/tools of this session, over the kit's print). -/
import Derived.Test.YthpiafbloebpjaaPDeviceKeepsx0
import Derived.Test.YthpiafbloebpjaaPDeviceKeepsx1
import Derived.Test.YthpiafbloebpjaaPDeviceKeepsx3
import Derived.Test.YthpiafbloebpjaaPDeviceKeepsx4
import Derived.Test.YthpiafbloebpjaaPDeviceKeepsx5
import Derived.Test.YthpiafbloebpjaaPDeviceKeepsx6
import Derived.Test.YthpiafbloebpjaaPDeviceKeepsx7
namespace Go.Proofs.Ythpiafbloebpjaa.PDeviceKeeps
open Go.RowKit Go.Proofs.YthpiafbloebpjaaW.PrintWords Go.Proofs.YthpiafbloebpjaaW.PrintLast Go.Proofs.YthpiafbloebpjaaW.PrintMore
attribute [local go_sem] max2_int min2_int max_two min_two max_three min_three max_four min_four   -- for this text's walks alone
set_option linter.unusedVariables false
set_option linter.unusedSimpArgs false
set_option maxHeartbeats 8000000 in
set_option maxRecDepth 100000 in
theorem shapesearchlaw24_DeviceKeeps.calls (k : Nat) (A0 : Option Addr) (c0 : Nat) (l0 : List Int) (A1 : Option Addr) (c1 : Nat) (l1 : List Int) (a2 : Int) (a3 : Int) (r : Bool) (w : World) (hr0 : Kd.C (Kd.int .u8) w A0 l0.length l0) (hc0 : l0.length ≤ c0) (hr1 : Kd.C (Kd.int .u8) w A1 l1.length l1) (hc1 : l1.length ≤ c1) (h : shapesearchlaw24_DeviceKeeps.f k l0 l1 a2 a3 = some r) (hT_ : r = true) :
  Calls Try.prog 5 #[.slice A0 l0.length c0,.slice A1 l1.length c1,.int .i8 a2,.int .u8 a3] w fun e w'=>e = .returned (.bool r)∧Below w.heap.size w w':=by
 have HTR_:=A_ hT_
 clear hT_
 have hu25:=Try.underlying25
 have HR0:=A_ hr0
 have HC0:=A_ hc0
 clear hr0 hc0
 have HR1:=A_ hr1
 have HC1:=A_ hc1
 clear hr1 hc1
 have HB:=A_ (Below.refl w.heap.size w)
 have H : (if (l0.length : Int) > 64 then (shapesearchlaw24_DeviceKeeps.j0 k l0 l1 a2 a3 true) else (shapesearchlaw24_DeviceKeeps.j0 k l0 l1 a2 a3 (decide ((l1.length : Int) > 64)))) = some r:=h
 clear h
 have HC5:=A_ H
 clear H
 go_enter Try.func5,Try.ntmps5
 go_upto_region 1 with (fail)
 go_cut [37] (fun v37 wc=>∃ (kq : Nat) (x37_4 : Bool),v37 = .bool x37_4∧Aside0 (shapesearchlaw24_DeviceKeeps.j0 kq l0 l1 a2 a3 x37_4 = some r)∧Aside0 (kq ≤ k)∧Aside0 (Below w.heap.size w wc))
 case first=>as_aux_lemma =>
  have H:=HC5.out
  clear HC5
  by_cases c6 : (l0.length : Int) > 64
  ·
   rw [if_pos c6] at H
   have c6b0 : decide (64 < (l0.length : Int)) = true:=decide_eq_true c6
   have c6b1 : decide (64 < l0.length) = true:=decide_eq_true (by omega)
   clear c6
   (first|rw [c6b0]|(simp only [i64_w,i32_w];rw [c6b0])|skip)
   have H':=A_ H
   clear H
   go_wp2
   go_meet
   case rel=>exact ⟨_,(true),(by first|rfl|(simp;done)|(simp [*];done)),H',⟨by first|omega|exact Nat.le_refl _⟩,⟨by repeat (first|(with_reducible first|exact HB.out|apply ba|apply bb|apply bc)|exact HB.out)⟩⟩
  ·
   rw [if_neg c6] at H
   have c6b0 : decide (64 < (l0.length : Int)) = false:=decide_eq_false c6
   have c6b1 : decide (64 < l0.length) = false:=decide_eq_false (by omega)
   clear c6
   (first|rw [c6b0]|(simp only [i64_w,i32_w];rw [c6b0])|skip)
   have H':=A_ H
   clear H
   go_wp2
   go_meet
   case rel=>exact ⟨_,(decide ((l1.length : Int) > 64)),(by first|rfl|(simp;done)|(simp [*];done)),H',⟨by first|omega|exact Nat.le_refl _⟩,⟨by repeat (first|(with_reducible first|exact HB.out|apply ba|apply bb|apply bc)|exact HB.out)⟩⟩
 case rest=>as_aux_lemma =>
  clear HC5
  try clear c1
  try clear p2
  try clear c5
  try clear c6
  try clear c6b0
  try clear c6b1
  obtain ⟨kq,x37_4,rfl,HA,HJ4,HB⟩:=hcut
  cases kq with
  | zero=>exact absurd HA.out (by simp [shapesearchlaw24_DeviceKeeps.j0])
  | succ kj4 =>
   have H:=HA.out
   clear HA
   simp only [shapesearchlaw24_DeviceKeeps.j0] at H
   by_cases c7 : x37_4 = true
   ·
    subst c7
    have H1 : ((shapesearchlaw24_awake.f kj4).bind fun t199=>(some t199)) = some r:=by rw [if_pos rfl] at H;exact H
    clear H
    have H:=H1
    clear H1
    replace H:=Option.bind_eq_some_iff.mp H
    obtain ⟨t199,A80,H⟩:=H
    replace H : (some t199) = some r:=H
    have A8:=A_ A80
    clear A80
    obtain rfl:=Option.some.inj H
    go_wp2_with (first|((with_reducible refine gate_callee (f:=6) rfl ?_);refine goesL_ (some 38) rfl rfl Try.func6 (by kernel_rfl) rfl #[] rfl (by (try simp only [List.map_toArray,List.map_cons,List.map_nil]);first|done|rfl|(simp only [List.length_drop,List.length_take];rfl)) ?_;(with_reducible refine (shapesearchlaw24_awake.calls kj4  t199 _ A8.out).mono ?_);rintro e w9 ⟨rfl,hb⟩;refine ⟨_,rfl,?_⟩;have n0_:=A_ (below_step (by repeat (first|(with_reducible first|exact HB.out|apply ba|apply bb|apply bc)|exact HB.out)) hb);clear HB;have HB:=n0_;clear n0_;(try clear hb);(try clear hb2);(try clear hk);(try clear hi)))
    go_ret
    exact ⟨by first|rfl|(simp [errW_none,errW_some] <;> rfl)|(simp [*,errW_none,errW_some] <;> rfl),by repeat (first|(with_reducible first|exact HB.out|apply ba|apply bb|apply bc)|exact HB.out)⟩
   ·
    replace c7:=Bool.eq_false_iff.mpr c7
    subst c7
    have H1 : ((device_New.f kj4 3).bind fun bt200=>((device_Write.f kj4 bt200.1 bt200.2.1 1 l0).bind fun bt208=>((device_Write.f kj4 bt208.1 bt208.2.1 2 (([a3] : List Int))).bind fun bt218=>((device_Flush.f kj4 bt218.1 bt218.2.1).bind fun bt225=>((device_Write.f kj4 bt225.1 bt225.2.1 1 l1).bind fun bt232=>((device_Read.f kj4 bt232.1 bt232.2.1 1).bind fun bt239=>((device_Crash.f kj4 bt232.1 bt232.2.1 (([wrap64 (a2)] : List Int))).bind fun bt246=>((device_Crash.f kj4 bt232.1 bt232.2.1 (([64] : List Int))).bind fun bt257=>((device_Flush.f kj4 bt232.1 bt232.2.1).bind fun bt265=>((device_Read.f kj4 bt246.1 bt246.2.1 1).bind fun bt273=>((device_Read.f kj4 bt246.1 bt246.2.1 2).bind fun bt277=>(if bt200.2.2 = 0 then (if bt208.2.2 = 0 then (if bt218.2.2 = 0 then (if bt225.2.2 = 0 then (if bt232.2.2 = 0 then (if bt239.2 = 0 then (if bt246.2.2 = 0 then (if bt257.2.2 = 0 then (if bt265.2.2 = 0 then (if bt273.2 = 0 then (if bt277.2 = 0 then ((shapesearchref24_Same.f kj4 bt257.1 bt257.2.1 bt265.1 bt265.2.1).bind fun t281=>(if t281 = true then (if (bt273.1.length : Int) = 64 then (if (bt277.1.length : Int) = 64 then (if (bt239.1.length : Int) = 64 then (if 0 < (bt277.1.length : Int) then (if (rd bt277.1 0) = a3 then (shapesearchlaw24_DeviceKeeps.j1 kj4 l0 l1 a2 bt239.1 bt273.1 ((bt246.2.1.length : Int) != 0)) else (shapesearchlaw24_DeviceKeeps.j1 kj4 l0 l1 a2 bt239.1 bt273.1 true)) else (none)) else (shapesearchlaw24_DeviceKeeps.j1 kj4 l0 l1 a2 bt239.1 bt273.1 true)) else (shapesearchlaw24_DeviceKeeps.j1 kj4 l0 l1 a2 bt239.1 bt273.1 true)) else (shapesearchlaw24_DeviceKeeps.j1 kj4 l0 l1 a2 bt239.1 bt273.1 true)) else (shapesearchlaw24_DeviceKeeps.j1 kj4 l0 l1 a2 bt239.1 bt273.1 true))) else (shapesearchlaw24_DeviceKeeps.j1 kj4 l0 l1 a2 bt239.1 bt273.1 true)) else (shapesearchlaw24_DeviceKeeps.j1 kj4 l0 l1 a2 bt239.1 bt273.1 true)) else (shapesearchlaw24_DeviceKeeps.j1 kj4 l0 l1 a2 bt239.1 bt273.1 true)) else (shapesearchlaw24_DeviceKeeps.j1 kj4 l0 l1 a2 bt239.1 bt273.1 true)) else (shapesearchlaw24_DeviceKeeps.j1 kj4 l0 l1 a2 bt239.1 bt273.1 true)) else (shapesearchlaw24_DeviceKeeps.j1 kj4 l0 l1 a2 bt239.1 bt273.1 true)) else (shapesearchlaw24_DeviceKeeps.j1 kj4 l0 l1 a2 bt239.1 bt273.1 true)) else (shapesearchlaw24_DeviceKeeps.j1 kj4 l0 l1 a2 bt239.1 bt273.1 true)) else (shapesearchlaw24_DeviceKeeps.j1 kj4 l0 l1 a2 bt239.1 bt273.1 true)) else (shapesearchlaw24_DeviceKeeps.j1 kj4 l0 l1 a2 bt239.1 bt273.1 true)) else (shapesearchlaw24_DeviceKeeps.j1 kj4 l0 l1 a2 bt239.1 bt273.1 true))))))))))))) = some r:=by rw [if_neg (show ¬ (false = true) by decide)] at H;exact H
    clear H
    have H:=H1
    clear H1
    replace H:=Option.bind_eq_some_iff.mp H
    obtain ⟨⟨t200,t203,t206⟩,A100,H⟩:=H
    replace H : ((device_Write.f kj4 t200 t203 1 l0).bind fun bt208=>((device_Write.f kj4 bt208.1 bt208.2.1 2 (([a3] : List Int))).bind fun bt218=>((device_Flush.f kj4 bt218.1 bt218.2.1).bind fun bt225=>((device_Write.f kj4 bt225.1 bt225.2.1 1 l1).bind fun bt232=>((device_Read.f kj4 bt232.1 bt232.2.1 1).bind fun bt239=>((device_Crash.f kj4 bt232.1 bt232.2.1 (([wrap64 (a2)] : List Int))).bind fun bt246=>((device_Crash.f kj4 bt232.1 bt232.2.1 (([64] : List Int))).bind fun bt257=>((device_Flush.f kj4 bt232.1 bt232.2.1).bind fun bt265=>((device_Read.f kj4 bt246.1 bt246.2.1 1).bind fun bt273=>((device_Read.f kj4 bt246.1 bt246.2.1 2).bind fun bt277=>(if t206 = 0 then (if bt208.2.2 = 0 then (if bt218.2.2 = 0 then (if bt225.2.2 = 0 then (if bt232.2.2 = 0 then (if bt239.2 = 0 then (if bt246.2.2 = 0 then (if bt257.2.2 = 0 then (if bt265.2.2 = 0 then (if bt273.2 = 0 then (if bt277.2 = 0 then ((shapesearchref24_Same.f kj4 bt257.1 bt257.2.1 bt265.1 bt265.2.1).bind fun t281=>(if t281 = true then (if (bt273.1.length : Int) = 64 then (if (bt277.1.length : Int) = 64 then (if (bt239.1.length : Int) = 64 then (if 0 < (bt277.1.length : Int) then (if (rd bt277.1 0) = a3 then (shapesearchlaw24_DeviceKeeps.j1 kj4 l0 l1 a2 bt239.1 bt273.1 ((bt246.2.1.length : Int) != 0)) else (shapesearchlaw24_DeviceKeeps.j1 kj4 l0 l1 a2 bt239.1 bt273.1 true)) else (none)) else (shapesearchlaw24_DeviceKeeps.j1 kj4 l0 l1 a2 bt239.1 bt273.1 true)) else (shapesearchlaw24_DeviceKeeps.j1 kj4 l0 l1 a2 bt239.1 bt273.1 true)) else (shapesearchlaw24_DeviceKeeps.j1 kj4 l0 l1 a2 bt239.1 bt273.1 true)) else (shapesearchlaw24_DeviceKeeps.j1 kj4 l0 l1 a2 bt239.1 bt273.1 true))) else (shapesearchlaw24_DeviceKeeps.j1 kj4 l0 l1 a2 bt239.1 bt273.1 true)) else (shapesearchlaw24_DeviceKeeps.j1 kj4 l0 l1 a2 bt239.1 bt273.1 true)) else (shapesearchlaw24_DeviceKeeps.j1 kj4 l0 l1 a2 bt239.1 bt273.1 true)) else (shapesearchlaw24_DeviceKeeps.j1 kj4 l0 l1 a2 bt239.1 bt273.1 true)) else (shapesearchlaw24_DeviceKeeps.j1 kj4 l0 l1 a2 bt239.1 bt273.1 true)) else (shapesearchlaw24_DeviceKeeps.j1 kj4 l0 l1 a2 bt239.1 bt273.1 true)) else (shapesearchlaw24_DeviceKeeps.j1 kj4 l0 l1 a2 bt239.1 bt273.1 true)) else (shapesearchlaw24_DeviceKeeps.j1 kj4 l0 l1 a2 bt239.1 bt273.1 true)) else (shapesearchlaw24_DeviceKeeps.j1 kj4 l0 l1 a2 bt239.1 bt273.1 true)) else (shapesearchlaw24_DeviceKeeps.j1 kj4 l0 l1 a2 bt239.1 bt273.1 true)) else (shapesearchlaw24_DeviceKeeps.j1 kj4 l0 l1 a2 bt239.1 bt273.1 true)))))))))))) = some r:=H
    have A10:=A_ A100
    clear A100
    replace H:=Option.bind_eq_some_iff.mp H
    obtain ⟨⟨t208,t211,t214⟩,A110,H⟩:=H
    replace H : ((device_Write.f kj4 t208 t211 2 (([a3] : List Int))).bind fun bt218=>((device_Flush.f kj4 bt218.1 bt218.2.1).bind fun bt225=>((device_Write.f kj4 bt225.1 bt225.2.1 1 l1).bind fun bt232=>((device_Read.f kj4 bt232.1 bt232.2.1 1).bind fun bt239=>((device_Crash.f kj4 bt232.1 bt232.2.1 (([wrap64 (a2)] : List Int))).bind fun bt246=>((device_Crash.f kj4 bt232.1 bt232.2.1 (([64] : List Int))).bind fun bt257=>((device_Flush.f kj4 bt232.1 bt232.2.1).bind fun bt265=>((device_Read.f kj4 bt246.1 bt246.2.1 1).bind fun bt273=>((device_Read.f kj4 bt246.1 bt246.2.1 2).bind fun bt277=>(if t206 = 0 then (if t214 = 0 then (if bt218.2.2 = 0 then (if bt225.2.2 = 0 then (if bt232.2.2 = 0 then (if bt239.2 = 0 then (if bt246.2.2 = 0 then (if bt257.2.2 = 0 then (if bt265.2.2 = 0 then (if bt273.2 = 0 then (if bt277.2 = 0 then ((shapesearchref24_Same.f kj4 bt257.1 bt257.2.1 bt265.1 bt265.2.1).bind fun t281=>(if t281 = true then (if (bt273.1.length : Int) = 64 then (if (bt277.1.length : Int) = 64 then (if (bt239.1.length : Int) = 64 then (if 0 < (bt277.1.length : Int) then (if (rd bt277.1 0) = a3 then (shapesearchlaw24_DeviceKeeps.j1 kj4 l0 l1 a2 bt239.1 bt273.1 ((bt246.2.1.length : Int) != 0)) else (shapesearchlaw24_DeviceKeeps.j1 kj4 l0 l1 a2 bt239.1 bt273.1 true)) else (none)) else (shapesearchlaw24_DeviceKeeps.j1 kj4 l0 l1 a2 bt239.1 bt273.1 true)) else (shapesearchlaw24_DeviceKeeps.j1 kj4 l0 l1 a2 bt239.1 bt273.1 true)) else (shapesearchlaw24_DeviceKeeps.j1 kj4 l0 l1 a2 bt239.1 bt273.1 true)) else (shapesearchlaw24_DeviceKeeps.j1 kj4 l0 l1 a2 bt239.1 bt273.1 true))) else (shapesearchlaw24_DeviceKeeps.j1 kj4 l0 l1 a2 bt239.1 bt273.1 true)) else (shapesearchlaw24_DeviceKeeps.j1 kj4 l0 l1 a2 bt239.1 bt273.1 true)) else (shapesearchlaw24_DeviceKeeps.j1 kj4 l0 l1 a2 bt239.1 bt273.1 true)) else (shapesearchlaw24_DeviceKeeps.j1 kj4 l0 l1 a2 bt239.1 bt273.1 true)) else (shapesearchlaw24_DeviceKeeps.j1 kj4 l0 l1 a2 bt239.1 bt273.1 true)) else (shapesearchlaw24_DeviceKeeps.j1 kj4 l0 l1 a2 bt239.1 bt273.1 true)) else (shapesearchlaw24_DeviceKeeps.j1 kj4 l0 l1 a2 bt239.1 bt273.1 true)) else (shapesearchlaw24_DeviceKeeps.j1 kj4 l0 l1 a2 bt239.1 bt273.1 true)) else (shapesearchlaw24_DeviceKeeps.j1 kj4 l0 l1 a2 bt239.1 bt273.1 true)) else (shapesearchlaw24_DeviceKeeps.j1 kj4 l0 l1 a2 bt239.1 bt273.1 true)) else (shapesearchlaw24_DeviceKeeps.j1 kj4 l0 l1 a2 bt239.1 bt273.1 true))))))))))) = some r:=H
    have A11:=A_ A110
    clear A110
    obtain ⟨y215,hy215⟩ : ∃ y_ : List Int,y_ = (([a3] : List Int)):=⟨_,rfl⟩
    replace H : ((device_Write.f kj4 t208 t211 2 y215).bind fun bt218=>((device_Flush.f kj4 bt218.1 bt218.2.1).bind fun bt225=>((device_Write.f kj4 bt225.1 bt225.2.1 1 l1).bind fun bt232=>((device_Read.f kj4 bt232.1 bt232.2.1 1).bind fun bt239=>((device_Crash.f kj4 bt232.1 bt232.2.1 (([wrap64 (a2)] : List Int))).bind fun bt246=>((device_Crash.f kj4 bt232.1 bt232.2.1 (([64] : List Int))).bind fun bt257=>((device_Flush.f kj4 bt232.1 bt232.2.1).bind fun bt265=>((device_Read.f kj4 bt246.1 bt246.2.1 1).bind fun bt273=>((device_Read.f kj4 bt246.1 bt246.2.1 2).bind fun bt277=>(if t206 = 0 then (if t214 = 0 then (if bt218.2.2 = 0 then (if bt225.2.2 = 0 then (if bt232.2.2 = 0 then (if bt239.2 = 0 then (if bt246.2.2 = 0 then (if bt257.2.2 = 0 then (if bt265.2.2 = 0 then (if bt273.2 = 0 then (if bt277.2 = 0 then ((shapesearchref24_Same.f kj4 bt257.1 bt257.2.1 bt265.1 bt265.2.1).bind fun t281=>(if t281 = true then (if (bt273.1.length : Int) = 64 then (if (bt277.1.length : Int) = 64 then (if (bt239.1.length : Int) = 64 then (if 0 < (bt277.1.length : Int) then (if (rd bt277.1 0) = a3 then (shapesearchlaw24_DeviceKeeps.j1 kj4 l0 l1 a2 bt239.1 bt273.1 ((bt246.2.1.length : Int) != 0)) else (shapesearchlaw24_DeviceKeeps.j1 kj4 l0 l1 a2 bt239.1 bt273.1 true)) else (none)) else (shapesearchlaw24_DeviceKeeps.j1 kj4 l0 l1 a2 bt239.1 bt273.1 true)) else (shapesearchlaw24_DeviceKeeps.j1 kj4 l0 l1 a2 bt239.1 bt273.1 true)) else (shapesearchlaw24_DeviceKeeps.j1 kj4 l0 l1 a2 bt239.1 bt273.1 true)) else (shapesearchlaw24_DeviceKeeps.j1 kj4 l0 l1 a2 bt239.1 bt273.1 true))) else (shapesearchlaw24_DeviceKeeps.j1 kj4 l0 l1 a2 bt239.1 bt273.1 true)) else (shapesearchlaw24_DeviceKeeps.j1 kj4 l0 l1 a2 bt239.1 bt273.1 true)) else (shapesearchlaw24_DeviceKeeps.j1 kj4 l0 l1 a2 bt239.1 bt273.1 true)) else (shapesearchlaw24_DeviceKeeps.j1 kj4 l0 l1 a2 bt239.1 bt273.1 true)) else (shapesearchlaw24_DeviceKeeps.j1 kj4 l0 l1 a2 bt239.1 bt273.1 true)) else (shapesearchlaw24_DeviceKeeps.j1 kj4 l0 l1 a2 bt239.1 bt273.1 true)) else (shapesearchlaw24_DeviceKeeps.j1 kj4 l0 l1 a2 bt239.1 bt273.1 true)) else (shapesearchlaw24_DeviceKeeps.j1 kj4 l0 l1 a2 bt239.1 bt273.1 true)) else (shapesearchlaw24_DeviceKeeps.j1 kj4 l0 l1 a2 bt239.1 bt273.1 true)) else (shapesearchlaw24_DeviceKeeps.j1 kj4 l0 l1 a2 bt239.1 bt273.1 true)) else (shapesearchlaw24_DeviceKeeps.j1 kj4 l0 l1 a2 bt239.1 bt273.1 true))))))))))) = some r:=by first|(rw [hy215];with_reducible exact H)|(have H2_:=(Option.bind_some _ _).symm.trans H;rw [hy215];with_reducible exact H2_)|(have H2_:=(Option.bind_some _ _).symm.trans H;with_reducible exact H2_)|with_reducible exact H|(rw [hy215];exact H)|exact H
    have Ny215:=A_ hy215
    clear hy215
    replace H:=Option.bind_eq_some_iff.mp H
    obtain ⟨⟨t218,t221,t224⟩,A120,H⟩:=H
    replace H : ((device_Flush.f kj4 t218 t221).bind fun bt225=>((device_Write.f kj4 bt225.1 bt225.2.1 1 l1).bind fun bt232=>((device_Read.f kj4 bt232.1 bt232.2.1 1).bind fun bt239=>((device_Crash.f kj4 bt232.1 bt232.2.1 (([wrap64 (a2)] : List Int))).bind fun bt246=>((device_Crash.f kj4 bt232.1 bt232.2.1 (([64] : List Int))).bind fun bt257=>((device_Flush.f kj4 bt232.1 bt232.2.1).bind fun bt265=>((device_Read.f kj4 bt246.1 bt246.2.1 1).bind fun bt273=>((device_Read.f kj4 bt246.1 bt246.2.1 2).bind fun bt277=>(if t206 = 0 then (if t214 = 0 then (if t224 = 0 then (if bt225.2.2 = 0 then (if bt232.2.2 = 0 then (if bt239.2 = 0 then (if bt246.2.2 = 0 then (if bt257.2.2 = 0 then (if bt265.2.2 = 0 then (if bt273.2 = 0 then (if bt277.2 = 0 then ((shapesearchref24_Same.f kj4 bt257.1 bt257.2.1 bt265.1 bt265.2.1).bind fun t281=>(if t281 = true then (if (bt273.1.length : Int) = 64 then (if (bt277.1.length : Int) = 64 then (if (bt239.1.length : Int) = 64 then (if 0 < (bt277.1.length : Int) then (if (rd bt277.1 0) = a3 then (shapesearchlaw24_DeviceKeeps.j1 kj4 l0 l1 a2 bt239.1 bt273.1 ((bt246.2.1.length : Int) != 0)) else (shapesearchlaw24_DeviceKeeps.j1 kj4 l0 l1 a2 bt239.1 bt273.1 true)) else (none)) else (shapesearchlaw24_DeviceKeeps.j1 kj4 l0 l1 a2 bt239.1 bt273.1 true)) else (shapesearchlaw24_DeviceKeeps.j1 kj4 l0 l1 a2 bt239.1 bt273.1 true)) else (shapesearchlaw24_DeviceKeeps.j1 kj4 l0 l1 a2 bt239.1 bt273.1 true)) else (shapesearchlaw24_DeviceKeeps.j1 kj4 l0 l1 a2 bt239.1 bt273.1 true))) else (shapesearchlaw24_DeviceKeeps.j1 kj4 l0 l1 a2 bt239.1 bt273.1 true)) else (shapesearchlaw24_DeviceKeeps.j1 kj4 l0 l1 a2 bt239.1 bt273.1 true)) else (shapesearchlaw24_DeviceKeeps.j1 kj4 l0 l1 a2 bt239.1 bt273.1 true)) else (shapesearchlaw24_DeviceKeeps.j1 kj4 l0 l1 a2 bt239.1 bt273.1 true)) else (shapesearchlaw24_DeviceKeeps.j1 kj4 l0 l1 a2 bt239.1 bt273.1 true)) else (shapesearchlaw24_DeviceKeeps.j1 kj4 l0 l1 a2 bt239.1 bt273.1 true)) else (shapesearchlaw24_DeviceKeeps.j1 kj4 l0 l1 a2 bt239.1 bt273.1 true)) else (shapesearchlaw24_DeviceKeeps.j1 kj4 l0 l1 a2 bt239.1 bt273.1 true)) else (shapesearchlaw24_DeviceKeeps.j1 kj4 l0 l1 a2 bt239.1 bt273.1 true)) else (shapesearchlaw24_DeviceKeeps.j1 kj4 l0 l1 a2 bt239.1 bt273.1 true)) else (shapesearchlaw24_DeviceKeeps.j1 kj4 l0 l1 a2 bt239.1 bt273.1 true)))))))))) = some r:=H
    have A12:=A_ A120
    clear A120
    replace H:=Option.bind_eq_some_iff.mp H
    obtain ⟨⟨t225,t228,t231⟩,A130,H⟩:=H
    replace H : ((device_Write.f kj4 t225 t228 1 l1).bind fun bt232=>((device_Read.f kj4 bt232.1 bt232.2.1 1).bind fun bt239=>((device_Crash.f kj4 bt232.1 bt232.2.1 (([wrap64 (a2)] : List Int))).bind fun bt246=>((device_Crash.f kj4 bt232.1 bt232.2.1 (([64] : List Int))).bind fun bt257=>((device_Flush.f kj4 bt232.1 bt232.2.1).bind fun bt265=>((device_Read.f kj4 bt246.1 bt246.2.1 1).bind fun bt273=>((device_Read.f kj4 bt246.1 bt246.2.1 2).bind fun bt277=>(if t206 = 0 then (if t214 = 0 then (if t224 = 0 then (if t231 = 0 then (if bt232.2.2 = 0 then (if bt239.2 = 0 then (if bt246.2.2 = 0 then (if bt257.2.2 = 0 then (if bt265.2.2 = 0 then (if bt273.2 = 0 then (if bt277.2 = 0 then ((shapesearchref24_Same.f kj4 bt257.1 bt257.2.1 bt265.1 bt265.2.1).bind fun t281=>(if t281 = true then (if (bt273.1.length : Int) = 64 then (if (bt277.1.length : Int) = 64 then (if (bt239.1.length : Int) = 64 then (if 0 < (bt277.1.length : Int) then (if (rd bt277.1 0) = a3 then (shapesearchlaw24_DeviceKeeps.j1 kj4 l0 l1 a2 bt239.1 bt273.1 ((bt246.2.1.length : Int) != 0)) else (shapesearchlaw24_DeviceKeeps.j1 kj4 l0 l1 a2 bt239.1 bt273.1 true)) else (none)) else (shapesearchlaw24_DeviceKeeps.j1 kj4 l0 l1 a2 bt239.1 bt273.1 true)) else (shapesearchlaw24_DeviceKeeps.j1 kj4 l0 l1 a2 bt239.1 bt273.1 true)) else (shapesearchlaw24_DeviceKeeps.j1 kj4 l0 l1 a2 bt239.1 bt273.1 true)) else (shapesearchlaw24_DeviceKeeps.j1 kj4 l0 l1 a2 bt239.1 bt273.1 true))) else (shapesearchlaw24_DeviceKeeps.j1 kj4 l0 l1 a2 bt239.1 bt273.1 true)) else (shapesearchlaw24_DeviceKeeps.j1 kj4 l0 l1 a2 bt239.1 bt273.1 true)) else (shapesearchlaw24_DeviceKeeps.j1 kj4 l0 l1 a2 bt239.1 bt273.1 true)) else (shapesearchlaw24_DeviceKeeps.j1 kj4 l0 l1 a2 bt239.1 bt273.1 true)) else (shapesearchlaw24_DeviceKeeps.j1 kj4 l0 l1 a2 bt239.1 bt273.1 true)) else (shapesearchlaw24_DeviceKeeps.j1 kj4 l0 l1 a2 bt239.1 bt273.1 true)) else (shapesearchlaw24_DeviceKeeps.j1 kj4 l0 l1 a2 bt239.1 bt273.1 true)) else (shapesearchlaw24_DeviceKeeps.j1 kj4 l0 l1 a2 bt239.1 bt273.1 true)) else (shapesearchlaw24_DeviceKeeps.j1 kj4 l0 l1 a2 bt239.1 bt273.1 true)) else (shapesearchlaw24_DeviceKeeps.j1 kj4 l0 l1 a2 bt239.1 bt273.1 true)) else (shapesearchlaw24_DeviceKeeps.j1 kj4 l0 l1 a2 bt239.1 bt273.1 true))))))))) = some r:=H
    have A13:=A_ A130
    clear A130
    replace H:=Option.bind_eq_some_iff.mp H
    obtain ⟨⟨t232,t235,t238⟩,A140,H⟩:=H
    replace H : ((device_Read.f kj4 t232 t235 1).bind fun bt239=>((device_Crash.f kj4 t232 t235 (([wrap64 (a2)] : List Int))).bind fun bt246=>((device_Crash.f kj4 t232 t235 (([64] : List Int))).bind fun bt257=>((device_Flush.f kj4 t232 t235).bind fun bt265=>((device_Read.f kj4 bt246.1 bt246.2.1 1).bind fun bt273=>((device_Read.f kj4 bt246.1 bt246.2.1 2).bind fun bt277=>(if t206 = 0 then (if t214 = 0 then (if t224 = 0 then (if t231 = 0 then (if t238 = 0 then (if bt239.2 = 0 then (if bt246.2.2 = 0 then (if bt257.2.2 = 0 then (if bt265.2.2 = 0 then (if bt273.2 = 0 then (if bt277.2 = 0 then ((shapesearchref24_Same.f kj4 bt257.1 bt257.2.1 bt265.1 bt265.2.1).bind fun t281=>(if t281 = true then (if (bt273.1.length : Int) = 64 then (if (bt277.1.length : Int) = 64 then (if (bt239.1.length : Int) = 64 then (if 0 < (bt277.1.length : Int) then (if (rd bt277.1 0) = a3 then (shapesearchlaw24_DeviceKeeps.j1 kj4 l0 l1 a2 bt239.1 bt273.1 ((bt246.2.1.length : Int) != 0)) else (shapesearchlaw24_DeviceKeeps.j1 kj4 l0 l1 a2 bt239.1 bt273.1 true)) else (none)) else (shapesearchlaw24_DeviceKeeps.j1 kj4 l0 l1 a2 bt239.1 bt273.1 true)) else (shapesearchlaw24_DeviceKeeps.j1 kj4 l0 l1 a2 bt239.1 bt273.1 true)) else (shapesearchlaw24_DeviceKeeps.j1 kj4 l0 l1 a2 bt239.1 bt273.1 true)) else (shapesearchlaw24_DeviceKeeps.j1 kj4 l0 l1 a2 bt239.1 bt273.1 true))) else (shapesearchlaw24_DeviceKeeps.j1 kj4 l0 l1 a2 bt239.1 bt273.1 true)) else (shapesearchlaw24_DeviceKeeps.j1 kj4 l0 l1 a2 bt239.1 bt273.1 true)) else (shapesearchlaw24_DeviceKeeps.j1 kj4 l0 l1 a2 bt239.1 bt273.1 true)) else (shapesearchlaw24_DeviceKeeps.j1 kj4 l0 l1 a2 bt239.1 bt273.1 true)) else (shapesearchlaw24_DeviceKeeps.j1 kj4 l0 l1 a2 bt239.1 bt273.1 true)) else (shapesearchlaw24_DeviceKeeps.j1 kj4 l0 l1 a2 bt239.1 bt273.1 true)) else (shapesearchlaw24_DeviceKeeps.j1 kj4 l0 l1 a2 bt239.1 bt273.1 true)) else (shapesearchlaw24_DeviceKeeps.j1 kj4 l0 l1 a2 bt239.1 bt273.1 true)) else (shapesearchlaw24_DeviceKeeps.j1 kj4 l0 l1 a2 bt239.1 bt273.1 true)) else (shapesearchlaw24_DeviceKeeps.j1 kj4 l0 l1 a2 bt239.1 bt273.1 true)) else (shapesearchlaw24_DeviceKeeps.j1 kj4 l0 l1 a2 bt239.1 bt273.1 true)))))))) = some r:=H
    have A14:=A_ A140
    clear A140
    replace H:=Option.bind_eq_some_iff.mp H
    obtain ⟨⟨t239,t242⟩,A150,H⟩:=H
    replace H : ((device_Crash.f kj4 t232 t235 (([wrap64 (a2)] : List Int))).bind fun bt246=>((device_Crash.f kj4 t232 t235 (([64] : List Int))).bind fun bt257=>((device_Flush.f kj4 t232 t235).bind fun bt265=>((device_Read.f kj4 bt246.1 bt246.2.1 1).bind fun bt273=>((device_Read.f kj4 bt246.1 bt246.2.1 2).bind fun bt277=>(if t206 = 0 then (if t214 = 0 then (if t224 = 0 then (if t231 = 0 then (if t238 = 0 then (if t242 = 0 then (if bt246.2.2 = 0 then (if bt257.2.2 = 0 then (if bt265.2.2 = 0 then (if bt273.2 = 0 then (if bt277.2 = 0 then ((shapesearchref24_Same.f kj4 bt257.1 bt257.2.1 bt265.1 bt265.2.1).bind fun t281=>(if t281 = true then (if (bt273.1.length : Int) = 64 then (if (bt277.1.length : Int) = 64 then (if (t239.length : Int) = 64 then (if 0 < (bt277.1.length : Int) then (if (rd bt277.1 0) = a3 then (shapesearchlaw24_DeviceKeeps.j1 kj4 l0 l1 a2 t239 bt273.1 ((bt246.2.1.length : Int) != 0)) else (shapesearchlaw24_DeviceKeeps.j1 kj4 l0 l1 a2 t239 bt273.1 true)) else (none)) else (shapesearchlaw24_DeviceKeeps.j1 kj4 l0 l1 a2 t239 bt273.1 true)) else (shapesearchlaw24_DeviceKeeps.j1 kj4 l0 l1 a2 t239 bt273.1 true)) else (shapesearchlaw24_DeviceKeeps.j1 kj4 l0 l1 a2 t239 bt273.1 true)) else (shapesearchlaw24_DeviceKeeps.j1 kj4 l0 l1 a2 t239 bt273.1 true))) else (shapesearchlaw24_DeviceKeeps.j1 kj4 l0 l1 a2 t239 bt273.1 true)) else (shapesearchlaw24_DeviceKeeps.j1 kj4 l0 l1 a2 t239 bt273.1 true)) else (shapesearchlaw24_DeviceKeeps.j1 kj4 l0 l1 a2 t239 bt273.1 true)) else (shapesearchlaw24_DeviceKeeps.j1 kj4 l0 l1 a2 t239 bt273.1 true)) else (shapesearchlaw24_DeviceKeeps.j1 kj4 l0 l1 a2 t239 bt273.1 true)) else (shapesearchlaw24_DeviceKeeps.j1 kj4 l0 l1 a2 t239 bt273.1 true)) else (shapesearchlaw24_DeviceKeeps.j1 kj4 l0 l1 a2 t239 bt273.1 true)) else (shapesearchlaw24_DeviceKeeps.j1 kj4 l0 l1 a2 t239 bt273.1 true)) else (shapesearchlaw24_DeviceKeeps.j1 kj4 l0 l1 a2 t239 bt273.1 true)) else (shapesearchlaw24_DeviceKeeps.j1 kj4 l0 l1 a2 t239 bt273.1 true)) else (shapesearchlaw24_DeviceKeeps.j1 kj4 l0 l1 a2 t239 bt273.1 true))))))) = some r:=H
    have A15:=A_ A150
    clear A150
    obtain ⟨y243,hy243⟩ : ∃ y_ : List Int,y_ = (([wrap64 (a2)] : List Int)):=⟨_,rfl⟩
    replace H : ((device_Crash.f kj4 t232 t235 y243).bind fun bt246=>((device_Crash.f kj4 t232 t235 (([64] : List Int))).bind fun bt257=>((device_Flush.f kj4 t232 t235).bind fun bt265=>((device_Read.f kj4 bt246.1 bt246.2.1 1).bind fun bt273=>((device_Read.f kj4 bt246.1 bt246.2.1 2).bind fun bt277=>(if t206 = 0 then (if t214 = 0 then (if t224 = 0 then (if t231 = 0 then (if t238 = 0 then (if t242 = 0 then (if bt246.2.2 = 0 then (if bt257.2.2 = 0 then (if bt265.2.2 = 0 then (if bt273.2 = 0 then (if bt277.2 = 0 then ((shapesearchref24_Same.f kj4 bt257.1 bt257.2.1 bt265.1 bt265.2.1).bind fun t281=>(if t281 = true then (if (bt273.1.length : Int) = 64 then (if (bt277.1.length : Int) = 64 then (if (t239.length : Int) = 64 then (if 0 < (bt277.1.length : Int) then (if (rd bt277.1 0) = a3 then (shapesearchlaw24_DeviceKeeps.j1 kj4 l0 l1 a2 t239 bt273.1 ((bt246.2.1.length : Int) != 0)) else (shapesearchlaw24_DeviceKeeps.j1 kj4 l0 l1 a2 t239 bt273.1 true)) else (none)) else (shapesearchlaw24_DeviceKeeps.j1 kj4 l0 l1 a2 t239 bt273.1 true)) else (shapesearchlaw24_DeviceKeeps.j1 kj4 l0 l1 a2 t239 bt273.1 true)) else (shapesearchlaw24_DeviceKeeps.j1 kj4 l0 l1 a2 t239 bt273.1 true)) else (shapesearchlaw24_DeviceKeeps.j1 kj4 l0 l1 a2 t239 bt273.1 true))) else (shapesearchlaw24_DeviceKeeps.j1 kj4 l0 l1 a2 t239 bt273.1 true)) else (shapesearchlaw24_DeviceKeeps.j1 kj4 l0 l1 a2 t239 bt273.1 true)) else (shapesearchlaw24_DeviceKeeps.j1 kj4 l0 l1 a2 t239 bt273.1 true)) else (shapesearchlaw24_DeviceKeeps.j1 kj4 l0 l1 a2 t239 bt273.1 true)) else (shapesearchlaw24_DeviceKeeps.j1 kj4 l0 l1 a2 t239 bt273.1 true)) else (shapesearchlaw24_DeviceKeeps.j1 kj4 l0 l1 a2 t239 bt273.1 true)) else (shapesearchlaw24_DeviceKeeps.j1 kj4 l0 l1 a2 t239 bt273.1 true)) else (shapesearchlaw24_DeviceKeeps.j1 kj4 l0 l1 a2 t239 bt273.1 true)) else (shapesearchlaw24_DeviceKeeps.j1 kj4 l0 l1 a2 t239 bt273.1 true)) else (shapesearchlaw24_DeviceKeeps.j1 kj4 l0 l1 a2 t239 bt273.1 true)) else (shapesearchlaw24_DeviceKeeps.j1 kj4 l0 l1 a2 t239 bt273.1 true))))))) = some r:=by first|(rw [hy243];with_reducible exact H)|(have H2_:=(Option.bind_some _ _).symm.trans H;rw [hy243];with_reducible exact H2_)|(have H2_:=(Option.bind_some _ _).symm.trans H;with_reducible exact H2_)|with_reducible exact H|(rw [hy243];exact H)|exact H
    have Ny243:=A_ hy243
    clear hy243
    replace H:=Option.bind_eq_some_iff.mp H
    obtain ⟨⟨t246,t249,t252⟩,A160,H⟩:=H
    replace H : ((device_Crash.f kj4 t232 t235 (([64] : List Int))).bind fun bt257=>((device_Flush.f kj4 t232 t235).bind fun bt265=>((device_Read.f kj4 t246 t249 1).bind fun bt273=>((device_Read.f kj4 t246 t249 2).bind fun bt277=>(if t206 = 0 then (if t214 = 0 then (if t224 = 0 then (if t231 = 0 then (if t238 = 0 then (if t242 = 0 then (if t252 = 0 then (if bt257.2.2 = 0 then (if bt265.2.2 = 0 then (if bt273.2 = 0 then (if bt277.2 = 0 then ((shapesearchref24_Same.f kj4 bt257.1 bt257.2.1 bt265.1 bt265.2.1).bind fun t281=>(if t281 = true then (if (bt273.1.length : Int) = 64 then (if (bt277.1.length : Int) = 64 then (if (t239.length : Int) = 64 then (if 0 < (bt277.1.length : Int) then (if (rd bt277.1 0) = a3 then (shapesearchlaw24_DeviceKeeps.j1 kj4 l0 l1 a2 t239 bt273.1 ((t249.length : Int) != 0)) else (shapesearchlaw24_DeviceKeeps.j1 kj4 l0 l1 a2 t239 bt273.1 true)) else (none)) else (shapesearchlaw24_DeviceKeeps.j1 kj4 l0 l1 a2 t239 bt273.1 true)) else (shapesearchlaw24_DeviceKeeps.j1 kj4 l0 l1 a2 t239 bt273.1 true)) else (shapesearchlaw24_DeviceKeeps.j1 kj4 l0 l1 a2 t239 bt273.1 true)) else (shapesearchlaw24_DeviceKeeps.j1 kj4 l0 l1 a2 t239 bt273.1 true))) else (shapesearchlaw24_DeviceKeeps.j1 kj4 l0 l1 a2 t239 bt273.1 true)) else (shapesearchlaw24_DeviceKeeps.j1 kj4 l0 l1 a2 t239 bt273.1 true)) else (shapesearchlaw24_DeviceKeeps.j1 kj4 l0 l1 a2 t239 bt273.1 true)) else (shapesearchlaw24_DeviceKeeps.j1 kj4 l0 l1 a2 t239 bt273.1 true)) else (shapesearchlaw24_DeviceKeeps.j1 kj4 l0 l1 a2 t239 bt273.1 true)) else (shapesearchlaw24_DeviceKeeps.j1 kj4 l0 l1 a2 t239 bt273.1 true)) else (shapesearchlaw24_DeviceKeeps.j1 kj4 l0 l1 a2 t239 bt273.1 true)) else (shapesearchlaw24_DeviceKeeps.j1 kj4 l0 l1 a2 t239 bt273.1 true)) else (shapesearchlaw24_DeviceKeeps.j1 kj4 l0 l1 a2 t239 bt273.1 true)) else (shapesearchlaw24_DeviceKeeps.j1 kj4 l0 l1 a2 t239 bt273.1 true)) else (shapesearchlaw24_DeviceKeeps.j1 kj4 l0 l1 a2 t239 bt273.1 true)))))) = some r:=H
    have A16:=A_ A160
    clear A160
    obtain ⟨y254,hy254⟩ : ∃ y_ : List Int,y_ = (([64] : List Int)):=⟨_,rfl⟩
    replace H : ((device_Crash.f kj4 t232 t235 y254).bind fun bt257=>((device_Flush.f kj4 t232 t235).bind fun bt265=>((device_Read.f kj4 t246 t249 1).bind fun bt273=>((device_Read.f kj4 t246 t249 2).bind fun bt277=>(if t206 = 0 then (if t214 = 0 then (if t224 = 0 then (if t231 = 0 then (if t238 = 0 then (if t242 = 0 then (if t252 = 0 then (if bt257.2.2 = 0 then (if bt265.2.2 = 0 then (if bt273.2 = 0 then (if bt277.2 = 0 then ((shapesearchref24_Same.f kj4 bt257.1 bt257.2.1 bt265.1 bt265.2.1).bind fun t281=>(if t281 = true then (if (bt273.1.length : Int) = 64 then (if (bt277.1.length : Int) = 64 then (if (t239.length : Int) = 64 then (if 0 < (bt277.1.length : Int) then (if (rd bt277.1 0) = a3 then (shapesearchlaw24_DeviceKeeps.j1 kj4 l0 l1 a2 t239 bt273.1 ((t249.length : Int) != 0)) else (shapesearchlaw24_DeviceKeeps.j1 kj4 l0 l1 a2 t239 bt273.1 true)) else (none)) else (shapesearchlaw24_DeviceKeeps.j1 kj4 l0 l1 a2 t239 bt273.1 true)) else (shapesearchlaw24_DeviceKeeps.j1 kj4 l0 l1 a2 t239 bt273.1 true)) else (shapesearchlaw24_DeviceKeeps.j1 kj4 l0 l1 a2 t239 bt273.1 true)) else (shapesearchlaw24_DeviceKeeps.j1 kj4 l0 l1 a2 t239 bt273.1 true))) else (shapesearchlaw24_DeviceKeeps.j1 kj4 l0 l1 a2 t239 bt273.1 true)) else (shapesearchlaw24_DeviceKeeps.j1 kj4 l0 l1 a2 t239 bt273.1 true)) else (shapesearchlaw24_DeviceKeeps.j1 kj4 l0 l1 a2 t239 bt273.1 true)) else (shapesearchlaw24_DeviceKeeps.j1 kj4 l0 l1 a2 t239 bt273.1 true)) else (shapesearchlaw24_DeviceKeeps.j1 kj4 l0 l1 a2 t239 bt273.1 true)) else (shapesearchlaw24_DeviceKeeps.j1 kj4 l0 l1 a2 t239 bt273.1 true)) else (shapesearchlaw24_DeviceKeeps.j1 kj4 l0 l1 a2 t239 bt273.1 true)) else (shapesearchlaw24_DeviceKeeps.j1 kj4 l0 l1 a2 t239 bt273.1 true)) else (shapesearchlaw24_DeviceKeeps.j1 kj4 l0 l1 a2 t239 bt273.1 true)) else (shapesearchlaw24_DeviceKeeps.j1 kj4 l0 l1 a2 t239 bt273.1 true)) else (shapesearchlaw24_DeviceKeeps.j1 kj4 l0 l1 a2 t239 bt273.1 true)))))) = some r:=by first|(rw [hy254];with_reducible exact H)|(have H2_:=(Option.bind_some _ _).symm.trans H;rw [hy254];with_reducible exact H2_)|(have H2_:=(Option.bind_some _ _).symm.trans H;with_reducible exact H2_)|with_reducible exact H|(rw [hy254];exact H)|exact H
    have Ny254:=A_ hy254
    clear hy254
    replace H:=Option.bind_eq_some_iff.mp H
    obtain ⟨⟨t257,t260,t263⟩,A170,H⟩:=H
    replace H : ((device_Flush.f kj4 t232 t235).bind fun bt265=>((device_Read.f kj4 t246 t249 1).bind fun bt273=>((device_Read.f kj4 t246 t249 2).bind fun bt277=>(if t206 = 0 then (if t214 = 0 then (if t224 = 0 then (if t231 = 0 then (if t238 = 0 then (if t242 = 0 then (if t252 = 0 then (if t263 = 0 then (if bt265.2.2 = 0 then (if bt273.2 = 0 then (if bt277.2 = 0 then ((shapesearchref24_Same.f kj4 t257 t260 bt265.1 bt265.2.1).bind fun t281=>(if t281 = true then (if (bt273.1.length : Int) = 64 then (if (bt277.1.length : Int) = 64 then (if (t239.length : Int) = 64 then (if 0 < (bt277.1.length : Int) then (if (rd bt277.1 0) = a3 then (shapesearchlaw24_DeviceKeeps.j1 kj4 l0 l1 a2 t239 bt273.1 ((t249.length : Int) != 0)) else (shapesearchlaw24_DeviceKeeps.j1 kj4 l0 l1 a2 t239 bt273.1 true)) else (none)) else (shapesearchlaw24_DeviceKeeps.j1 kj4 l0 l1 a2 t239 bt273.1 true)) else (shapesearchlaw24_DeviceKeeps.j1 kj4 l0 l1 a2 t239 bt273.1 true)) else (shapesearchlaw24_DeviceKeeps.j1 kj4 l0 l1 a2 t239 bt273.1 true)) else (shapesearchlaw24_DeviceKeeps.j1 kj4 l0 l1 a2 t239 bt273.1 true))) else (shapesearchlaw24_DeviceKeeps.j1 kj4 l0 l1 a2 t239 bt273.1 true)) else (shapesearchlaw24_DeviceKeeps.j1 kj4 l0 l1 a2 t239 bt273.1 true)) else (shapesearchlaw24_DeviceKeeps.j1 kj4 l0 l1 a2 t239 bt273.1 true)) else (shapesearchlaw24_DeviceKeeps.j1 kj4 l0 l1 a2 t239 bt273.1 true)) else (shapesearchlaw24_DeviceKeeps.j1 kj4 l0 l1 a2 t239 bt273.1 true)) else (shapesearchlaw24_DeviceKeeps.j1 kj4 l0 l1 a2 t239 bt273.1 true)) else (shapesearchlaw24_DeviceKeeps.j1 kj4 l0 l1 a2 t239 bt273.1 true)) else (shapesearchlaw24_DeviceKeeps.j1 kj4 l0 l1 a2 t239 bt273.1 true)) else (shapesearchlaw24_DeviceKeeps.j1 kj4 l0 l1 a2 t239 bt273.1 true)) else (shapesearchlaw24_DeviceKeeps.j1 kj4 l0 l1 a2 t239 bt273.1 true)) else (shapesearchlaw24_DeviceKeeps.j1 kj4 l0 l1 a2 t239 bt273.1 true))))) = some r:=H
    have A17:=A_ A170
    clear A170
    replace H:=Option.bind_eq_some_iff.mp H
    obtain ⟨⟨t265,t268,t271⟩,A180,H⟩:=H
    replace H : ((device_Read.f kj4 t246 t249 1).bind fun bt273=>((device_Read.f kj4 t246 t249 2).bind fun bt277=>(if t206 = 0 then (if t214 = 0 then (if t224 = 0 then (if t231 = 0 then (if t238 = 0 then (if t242 = 0 then (if t252 = 0 then (if t263 = 0 then (if t271 = 0 then (if bt273.2 = 0 then (if bt277.2 = 0 then ((shapesearchref24_Same.f kj4 t257 t260 t265 t268).bind fun t281=>(if t281 = true then (if (bt273.1.length : Int) = 64 then (if (bt277.1.length : Int) = 64 then (if (t239.length : Int) = 64 then (if 0 < (bt277.1.length : Int) then (if (rd bt277.1 0) = a3 then (shapesearchlaw24_DeviceKeeps.j1 kj4 l0 l1 a2 t239 bt273.1 ((t249.length : Int) != 0)) else (shapesearchlaw24_DeviceKeeps.j1 kj4 l0 l1 a2 t239 bt273.1 true)) else (none)) else (shapesearchlaw24_DeviceKeeps.j1 kj4 l0 l1 a2 t239 bt273.1 true)) else (shapesearchlaw24_DeviceKeeps.j1 kj4 l0 l1 a2 t239 bt273.1 true)) else (shapesearchlaw24_DeviceKeeps.j1 kj4 l0 l1 a2 t239 bt273.1 true)) else (shapesearchlaw24_DeviceKeeps.j1 kj4 l0 l1 a2 t239 bt273.1 true))) else (shapesearchlaw24_DeviceKeeps.j1 kj4 l0 l1 a2 t239 bt273.1 true)) else (shapesearchlaw24_DeviceKeeps.j1 kj4 l0 l1 a2 t239 bt273.1 true)) else (shapesearchlaw24_DeviceKeeps.j1 kj4 l0 l1 a2 t239 bt273.1 true)) else (shapesearchlaw24_DeviceKeeps.j1 kj4 l0 l1 a2 t239 bt273.1 true)) else (shapesearchlaw24_DeviceKeeps.j1 kj4 l0 l1 a2 t239 bt273.1 true)) else (shapesearchlaw24_DeviceKeeps.j1 kj4 l0 l1 a2 t239 bt273.1 true)) else (shapesearchlaw24_DeviceKeeps.j1 kj4 l0 l1 a2 t239 bt273.1 true)) else (shapesearchlaw24_DeviceKeeps.j1 kj4 l0 l1 a2 t239 bt273.1 true)) else (shapesearchlaw24_DeviceKeeps.j1 kj4 l0 l1 a2 t239 bt273.1 true)) else (shapesearchlaw24_DeviceKeeps.j1 kj4 l0 l1 a2 t239 bt273.1 true)) else (shapesearchlaw24_DeviceKeeps.j1 kj4 l0 l1 a2 t239 bt273.1 true)))) = some r:=H
    have A18:=A_ A180
    clear A180
    replace H:=Option.bind_eq_some_iff.mp H
    obtain ⟨⟨t273,t276⟩,A190,H⟩:=H
    replace H : ((device_Read.f kj4 t246 t249 2).bind fun bt277=>(if t206 = 0 then (if t214 = 0 then (if t224 = 0 then (if t231 = 0 then (if t238 = 0 then (if t242 = 0 then (if t252 = 0 then (if t263 = 0 then (if t271 = 0 then (if t276 = 0 then (if bt277.2 = 0 then ((shapesearchref24_Same.f kj4 t257 t260 t265 t268).bind fun t281=>(if t281 = true then (if (t273.length : Int) = 64 then (if (bt277.1.length : Int) = 64 then (if (t239.length : Int) = 64 then (if 0 < (bt277.1.length : Int) then (if (rd bt277.1 0) = a3 then (shapesearchlaw24_DeviceKeeps.j1 kj4 l0 l1 a2 t239 t273 ((t249.length : Int) != 0)) else (shapesearchlaw24_DeviceKeeps.j1 kj4 l0 l1 a2 t239 t273 true)) else (none)) else (shapesearchlaw24_DeviceKeeps.j1 kj4 l0 l1 a2 t239 t273 true)) else (shapesearchlaw24_DeviceKeeps.j1 kj4 l0 l1 a2 t239 t273 true)) else (shapesearchlaw24_DeviceKeeps.j1 kj4 l0 l1 a2 t239 t273 true)) else (shapesearchlaw24_DeviceKeeps.j1 kj4 l0 l1 a2 t239 t273 true))) else (shapesearchlaw24_DeviceKeeps.j1 kj4 l0 l1 a2 t239 t273 true)) else (shapesearchlaw24_DeviceKeeps.j1 kj4 l0 l1 a2 t239 t273 true)) else (shapesearchlaw24_DeviceKeeps.j1 kj4 l0 l1 a2 t239 t273 true)) else (shapesearchlaw24_DeviceKeeps.j1 kj4 l0 l1 a2 t239 t273 true)) else (shapesearchlaw24_DeviceKeeps.j1 kj4 l0 l1 a2 t239 t273 true)) else (shapesearchlaw24_DeviceKeeps.j1 kj4 l0 l1 a2 t239 t273 true)) else (shapesearchlaw24_DeviceKeeps.j1 kj4 l0 l1 a2 t239 t273 true)) else (shapesearchlaw24_DeviceKeeps.j1 kj4 l0 l1 a2 t239 t273 true)) else (shapesearchlaw24_DeviceKeeps.j1 kj4 l0 l1 a2 t239 t273 true)) else (shapesearchlaw24_DeviceKeeps.j1 kj4 l0 l1 a2 t239 t273 true)) else (shapesearchlaw24_DeviceKeeps.j1 kj4 l0 l1 a2 t239 t273 true))) = some r:=H
    have A19:=A_ A190
    clear A190
    replace H:=Option.bind_eq_some_iff.mp H
    obtain ⟨⟨t277,t280⟩,A200,H⟩:=H
    replace H : (if t206 = 0 then (if t214 = 0 then (if t224 = 0 then (if t231 = 0 then (if t238 = 0 then (if t242 = 0 then (if t252 = 0 then (if t263 = 0 then (if t271 = 0 then (if t276 = 0 then (if t280 = 0 then ((shapesearchref24_Same.f kj4 t257 t260 t265 t268).bind fun t281=>(if t281 = true then (if (t273.length : Int) = 64 then (if (t277.length : Int) = 64 then (if (t239.length : Int) = 64 then (if 0 < (t277.length : Int) then (if (rd t277 0) = a3 then (shapesearchlaw24_DeviceKeeps.j1 kj4 l0 l1 a2 t239 t273 ((t249.length : Int) != 0)) else (shapesearchlaw24_DeviceKeeps.j1 kj4 l0 l1 a2 t239 t273 true)) else (none)) else (shapesearchlaw24_DeviceKeeps.j1 kj4 l0 l1 a2 t239 t273 true)) else (shapesearchlaw24_DeviceKeeps.j1 kj4 l0 l1 a2 t239 t273 true)) else (shapesearchlaw24_DeviceKeeps.j1 kj4 l0 l1 a2 t239 t273 true)) else (shapesearchlaw24_DeviceKeeps.j1 kj4 l0 l1 a2 t239 t273 true))) else (shapesearchlaw24_DeviceKeeps.j1 kj4 l0 l1 a2 t239 t273 true)) else (shapesearchlaw24_DeviceKeeps.j1 kj4 l0 l1 a2 t239 t273 true)) else (shapesearchlaw24_DeviceKeeps.j1 kj4 l0 l1 a2 t239 t273 true)) else (shapesearchlaw24_DeviceKeeps.j1 kj4 l0 l1 a2 t239 t273 true)) else (shapesearchlaw24_DeviceKeeps.j1 kj4 l0 l1 a2 t239 t273 true)) else (shapesearchlaw24_DeviceKeeps.j1 kj4 l0 l1 a2 t239 t273 true)) else (shapesearchlaw24_DeviceKeeps.j1 kj4 l0 l1 a2 t239 t273 true)) else (shapesearchlaw24_DeviceKeeps.j1 kj4 l0 l1 a2 t239 t273 true)) else (shapesearchlaw24_DeviceKeeps.j1 kj4 l0 l1 a2 t239 t273 true)) else (shapesearchlaw24_DeviceKeeps.j1 kj4 l0 l1 a2 t239 t273 true)) else (shapesearchlaw24_DeviceKeeps.j1 kj4 l0 l1 a2 t239 t273 true)) = some r:=H
    have A20:=A_ A200
    clear A200
    have HC21:=A_ H
    clear H
    go_upto_region 14 with (first|((with_reducible refine gate_callee (f:=7) rfl ?_);refine goesL_ (some 40) rfl rfl Try.func7 (by kernel_rfl) rfl #[.int .i64 3] rfl (by (try simp only [List.map_toArray,List.map_cons,List.map_nil]);first|done|rfl|(simp only [List.length_drop,List.length_take];rfl)) ?_;(with_reducible refine (device_New.calls kj4 3 t200 t203 t206 _ A10.out).mono ?_);rintro e w22 ⟨v201,v204,rfl,ho0,ho1,hb⟩;refine ⟨_,rfl,?_⟩;have n0_:=A_ (Kd.S_lower ho0 (below_size (by repeat (first|(with_reducible first|exact HB.out|apply ba|apply bb|apply bc)|exact HB.out))));have n1_:=A_ (Kd.S_lower ho1 (below_size (by repeat (first|(with_reducible first|exact HB.out|apply ba|apply bb|apply bc)|exact HB.out))));have n2_:=A_ (below_step (by repeat (first|(with_reducible first|exact HB.out|apply ba|apply bb|apply bc)|exact HB.out)) hb);clear HB;have HO202:=n0_;have HO205:=n1_;have HB:=n2_;clear n0_ n1_ n2_;(try clear hb);(try clear hb2);(try clear hk);(try clear hi);(try clear ho0);(try clear ho1))|((with_reducible refine gate_dst (N:=9) rfl ?_);(try (refine gate_guard (by rfl) ?_;dsimp only));refine box_event ?hg (N:=9) ?hd (cs:=#[.slice none 0 0,.slice none 0 0]) (t:=25) ?hr ?_;(case hd=>rfl);(case hg=>rfl);(case hr=>first|(go_simp;done)|(go_simp;rfl));intro gb207 hg w23 hbox hb;have n0_:=A_ (Kd.S_below (by (with_reducible repeat (first|apply Kd.S_alloc|apply Kd.S_drewN|apply Kd.S_drew));exact HO202.out) hb);have n1_:=A_ (Kd.S_below (by (with_reducible repeat (first|apply Kd.S_alloc|apply Kd.S_drewN|apply Kd.S_drew));exact HO205.out) hb);have n2_:=A_ (below_step (by repeat (first|(with_reducible first|exact HB.out|apply ba|apply bb|apply bc)|exact HB.out)) hb);have n3_:=A_ (hbox);have n4_:=A_ ((by rw [hg];exact (below_size (by repeat (first|(with_reducible first|exact HB.out|apply ba|apply bb|apply bc)|exact HB.out))) : w.heap.size ≤ gb207));have n5_:=A_ ((by rw [hg];exact (below_size (by repeat (first|(with_reducible first|exact HB.out|apply ba|apply bb|apply bc)|exact HB.out))) : w.heap.size ≤ gb207));clear HO202;clear HO205;clear HB;have HO202:=n0_;have HO205:=n1_;have HB:=n2_;have BK207:=n3_;have GW207:=n4_;have GE207:=n5_;clear n0_ n1_ n2_ n3_ n4_ n5_;clear hb hbox hg;obtain ⟨Ao24,co24,eo24⟩:=Kd.S_slice HO202.out;subst eo24;have hcz25_0 : w23.cell? ⟨gb207,0,none⟩ = some (.slice none 0 0):=(blk_cell BK207.out 0).trans rfl;have hcz25_1 : w23.cell? ⟨gb207,1,none⟩ = some (.slice none 0 0):=(blk_cell BK207.out 1).trans rfl;have hfz25_0:=blk_frozen BK207.out 0;have hfz25_1:=blk_frozen BK207.out 1;obtain ⟨Ao26,co26,eo26⟩:=Kd.S_slice HO205.out;subst eo26)|((with_reducible refine gate_callee (f:=14) rfl ?_);refine goesL_ (some 46) rfl rfl Try.func14 (by kernel_rfl) rfl #[.agg #[.slice Ao24 t200.length co24,.slice Ao26 t203.length co26],.int .i64 1,.slice A0 l0.length c0] rfl (by (try simp only [List.map_toArray,List.map_cons,List.map_nil]);first|done|rfl|(simp only [List.length_drop,List.length_take];rfl)) ?_;(with_reducible refine (device_Write.calls kj4 _ _ t200 _ _ t203 1 _ _ l0 t208 t211 t214 _ ?side1 ?side2 ?side3 ?side4 ?side5 ?side6 A11.out).mono ?_);(case side1=>refine (Kd.S_reads' (e:=26) (base:=w.heap.size) (ok:=fun k_=>True) (n:=t200.length) (c:=co24) ?_).2.2;exact (by (with_reducible repeat (first|apply Kd.S_alloc|apply Kd.S_drewN|apply Kd.S_drew));exact (Kd.S_mono (Kd.S_far (p:=⟨gb207,1,none⟩) (Kd.S_far (p:=⟨gb207,0,none⟩) (Kd.S_types HO202.out BK207.out (by decide)) (fun _ hk=>hk.2) (.slice Ao24 t200.length co24)) (fun _ hk=>hk.2) (.slice Ao26 t203.length co26)) (fun _ h_=>h_.1))));(case side2=>exact (Kd.S_reads' HO202.out).2.1);(case side3=>refine (Kd.S_reads' (e:=42) (base:=w.heap.size) (ok:=fun k_=>True) (n:=t203.length) (c:=co26) ?_).2.2;exact (by (with_reducible repeat (first|apply Kd.S_alloc|apply Kd.S_drewN|apply Kd.S_drew));exact (Kd.S_mono (Kd.S_far (p:=⟨gb207,1,none⟩) (Kd.S_far (p:=⟨gb207,0,none⟩) (Kd.S_types HO205.out BK207.out (by decide)) (fun _ hk=>hk.2) (.slice Ao24 t200.length co24)) (fun _ hk=>hk.2) (.slice Ao26 t203.length co26)) (fun _ h_=>h_.1))));(case side4=>exact (Kd.S_reads' HO205.out).2.1);(case side5=>exact cl HR0.out (by repeat (first|(with_reducible first|exact HB.out|apply ba|apply bb|apply bc|refine below_set ?_ GE207.out)|exact HB.out)));(case side6=>exact HC0.out);rintro e w27 ⟨v209,v212,rfl,ho0,ho1,hb⟩;refine ⟨_,rfl,?_⟩;have n0_:=A_ (Kd.S_elder' (by (with_reducible repeat (first|apply Kd.S_alloc|apply Kd.S_drewN|apply Kd.S_drew));exact (Kd.S_mono (Kd.S_far (p:=⟨gb207,1,none⟩) (Kd.S_far (p:=⟨gb207,0,none⟩) (Kd.S_types HO202.out BK207.out (by decide)) (fun _ hk=>hk.2) (.slice Ao24 t200.length co24)) (fun _ hk=>hk.2) (.slice Ao26 t203.length co26)) (fun _ h_=>h_.1))) (Kd.S_base ho0) hb);have n1_:=A_ (Kd.S_elder' (by (with_reducible repeat (first|apply Kd.S_alloc|apply Kd.S_drewN|apply Kd.S_drew));exact (Kd.S_mono (Kd.S_far (p:=⟨gb207,1,none⟩) (Kd.S_far (p:=⟨gb207,0,none⟩) (Kd.S_types HO205.out BK207.out (by decide)) (fun _ hk=>hk.2) (.slice Ao24 t200.length co24)) (fun _ hk=>hk.2) (.slice Ao26 t203.length co26)) (fun _ h_=>h_.1))) (Kd.S_base ho1) hb);have n2_:=A_ (Kd.S_lower (Kd.S_new' ho0 (Kd.S_lt (by (with_reducible repeat (first|apply Kd.S_alloc|apply Kd.S_drewN|apply Kd.S_drew));exact (Kd.S_mono (Kd.S_far (p:=⟨gb207,1,none⟩) (Kd.S_far (p:=⟨gb207,0,none⟩) (Kd.S_types HO202.out BK207.out (by decide)) (fun _ hk=>hk.2) (.slice Ao24 t200.length co24)) (fun _ hk=>hk.2) (.slice Ao26 t203.length co26)) (fun _ h_=>h_.1))))) (below_size (by repeat (first|(with_reducible first|exact HB.out|apply ba|apply bb|apply bc|refine below_set ?_ GE207.out)|exact HB.out))));have n3_:=A_ (Kd.S_lower (Kd.S_new' ho1 (Kd.S_lt (by (with_reducible repeat (first|apply Kd.S_alloc|apply Kd.S_drewN|apply Kd.S_drew));exact (Kd.S_mono (Kd.S_far (p:=⟨gb207,1,none⟩) (Kd.S_far (p:=⟨gb207,0,none⟩) (Kd.S_types HO205.out BK207.out (by decide)) (fun _ hk=>hk.2) (.slice Ao24 t200.length co24)) (fun _ hk=>hk.2) (.slice Ao26 t203.length co26)) (fun _ h_=>h_.1))))) (below_size (by repeat (first|(with_reducible first|exact HB.out|apply ba|apply bb|apply bc|refine below_set ?_ GE207.out)|exact HB.out))));have n4_:=A_ (blk_below (g:=gb207) (o:=.cells #[.slice Ao24 t200.length co24,.slice Ao26 t203.length co26] 25 (0,0)) (by (with_reducible repeat (first|refine blk_drewN ?_ _|refine blk_drew ?_|refine blk_alloc ?_ _));refine blk_put (cs:=#[.slice Ao24 t200.length co24,.slice none 0 0]) ?_ 1 _ rfl;(with_reducible repeat (first|refine blk_drewN ?_ _|refine blk_drew ?_|refine blk_alloc ?_ _));refine blk_put (cs:=#[.slice none 0 0,.slice none 0 0]) ?_ 0 _ rfl;(with_reducible repeat (first|refine blk_drewN ?_ _|refine blk_drew ?_|refine blk_alloc ?_ _));exact BK207.out) hb);have n5_:=A_ (below_step (by repeat (first|(with_reducible first|exact HB.out|apply ba|apply bb|apply bc|refine below_set ?_ GE207.out)|exact HB.out)) hb);clear HO202;clear HO205;clear BK207;clear HB;have HO202:=n0_;have HO205:=n1_;have HO210:=n2_;have HO213:=n3_;have BK207:=n4_;have HB:=n5_;clear n0_ n1_ n2_ n3_ n4_ n5_;(try clear hb);(try clear hb2);(try clear hk);(try clear hi);(try clear ho0);(try clear ho1);obtain ⟨Ao28,co28,eo28⟩:=Kd.S_slice HO210.out;subst eo28;have hcz29_0 : w27.cell? ⟨gb207,0,none⟩ = some (.slice Ao24 t200.length co24):=(blk_cell BK207.out 0).trans rfl;have hcz29_1 : w27.cell? ⟨gb207,1,none⟩ = some (.slice Ao26 t203.length co26):=(blk_cell BK207.out 1).trans rfl;have hfz29_0:=blk_frozen BK207.out 0;have hfz29_1:=blk_frozen BK207.out 1;obtain ⟨Ao30,co30,eo30⟩:=Kd.S_slice HO213.out;subst eo30)|((with_reducible refine gate_dst (N:=52) rfl ?_);(try (refine gate_guard (by rfl) ?_;dsimp only));refine Kd.R_lit (Kd.int .u8) _ 5 ?hg (N:=52) ?hd (xs:=([a3] : List Int)) (inner:=[.int .u8 a3]) (ok:=fun _=>True) (okp:=fun _=>True) ?hr ?hp (fun _ hk=>hk) trivial (Below.refl _ _) (Nat.le_refl _) (by simp) ?_;(case hd=>rfl);(case hg=>rfl);(case hr=>first|(go_simp;done)|(go_simp;rfl));(case hp=>exact (Reps.one (show Kd.M (Kd.int .u8) _ _ _ a3 [.int .u8 a3] from rfl) (Reps.none _ _)));intro v216 w31 ho32 hb hg_ hnew_;clear hg_ hnew_;(first|rw [← Ny215.out] at ho32|(simp only [Int.reduceToNat] at ho32;rw [← Ny215.out] at ho32));have n0_:=A_ (Kd.S_elder' (by (with_reducible repeat (first|apply Kd.S_alloc|apply Kd.S_drewN|apply Kd.S_drew));exact (Kd.S_mono (Kd.S_far (p:=⟨gb207,1,none⟩) (Kd.S_far (p:=⟨gb207,0,none⟩) (Kd.S_types HO202.out BK207.out (by decide)) (fun _ hk=>hk.2) (.slice Ao28 t208.length co28)) (fun _ hk=>hk.2) (.slice Ao30 t211.length co30)) (fun _ h_=>h_.1))) (rs ho32) hb);have n1_:=A_ (Kd.S_elder' (by (with_reducible repeat (first|apply Kd.S_alloc|apply Kd.S_drewN|apply Kd.S_drew));exact (Kd.S_mono (Kd.S_far (p:=⟨gb207,1,none⟩) (Kd.S_far (p:=⟨gb207,0,none⟩) (Kd.S_types HO205.out BK207.out (by decide)) (fun _ hk=>hk.2) (.slice Ao28 t208.length co28)) (fun _ hk=>hk.2) (.slice Ao30 t211.length co30)) (fun _ h_=>h_.1))) (rs ho32) hb);have n2_:=A_ (Kd.S_elder' (by (with_reducible repeat (first|apply Kd.S_alloc|apply Kd.S_drewN|apply Kd.S_drew));exact (Kd.S_mono (Kd.S_far (p:=⟨gb207,1,none⟩) (Kd.S_far (p:=⟨gb207,0,none⟩) (Kd.S_types HO210.out BK207.out (by decide)) (fun _ hk=>hk.2) (.slice Ao28 t208.length co28)) (fun _ hk=>hk.2) (.slice Ao30 t211.length co30)) (fun _ h_=>h_.1))) (rs ho32) hb);have n3_:=A_ (Kd.S_elder' (by (with_reducible repeat (first|apply Kd.S_alloc|apply Kd.S_drewN|apply Kd.S_drew));exact (Kd.S_mono (Kd.S_far (p:=⟨gb207,1,none⟩) (Kd.S_far (p:=⟨gb207,0,none⟩) (Kd.S_types HO213.out BK207.out (by decide)) (fun _ hk=>hk.2) (.slice Ao28 t208.length co28)) (fun _ hk=>hk.2) (.slice Ao30 t211.length co30)) (fun _ h_=>h_.1))) (rs ho32) hb);have n4_:=A_ (Kd.R_lower ho32 (below_size (by repeat (first|(with_reducible first|exact HB.out|apply ba|apply bb|apply bc|refine below_set ?_ GE207.out)|exact HB.out))));have n5_:=A_ (blk_below (g:=gb207) (o:=.cells #[.slice Ao28 t208.length co28,.slice Ao30 t211.length co30] 25 (0,0)) (by (with_reducible repeat (first|refine blk_drewN ?_ _|refine blk_drew ?_|refine blk_alloc ?_ _));refine blk_put (cs:=#[.slice Ao28 t208.length co28,.slice Ao26 t203.length co26]) ?_ 1 _ rfl;(with_reducible repeat (first|refine blk_drewN ?_ _|refine blk_drew ?_|refine blk_alloc ?_ _));refine blk_put (cs:=#[.slice Ao24 t200.length co24,.slice Ao26 t203.length co26]) ?_ 0 _ rfl;(with_reducible repeat (first|refine blk_drewN ?_ _|refine blk_drew ?_|refine blk_alloc ?_ _));exact BK207.out) hb);have n6_:=A_ (below_step (by repeat (first|(with_reducible first|exact HB.out|apply ba|apply bb|apply bc|refine below_set ?_ GE207.out)|exact HB.out)) hb);clear HO202;clear HO205;clear HO210;clear HO213;clear BK207;clear HB;have HO202:=n0_;have HO205:=n1_;have HO210:=n2_;have HO213:=n3_;have HO217:=n4_;have BK207:=n5_;have HB:=n6_;clear n0_ n1_ n2_ n3_ n4_ n5_ n6_;clear hb ho32;obtain ⟨Ao33,co33,eo33⟩:=Kd.R_slice HO217.out;subst eo33)|((with_reducible refine gate_callee (f:=14) rfl ?_);refine goesL_ (some 53) rfl rfl Try.func14 (by kernel_rfl) rfl #[.agg #[.slice Ao28 t208.length co28,.slice Ao30 t211.length co30],.int .i64 2,.slice Ao33 y215.length co33] rfl (by (try simp only [List.map_toArray,List.map_cons,List.map_nil]);first|done|rfl|(simp only [List.length_drop,List.length_take];rfl)) ?_;(with_reducible refine (device_Write.calls kj4 _ _ t208 _ _ t211 2 _ _ y215 t218 t221 t224 _ ?side1 ?side2 ?side3 ?side4 ?side5 ?side6 A12.out).mono ?_);(case side1=>repeat (first|exact (Kd.S_reads' HO210.out).2.2|(with_reducible refine ca ?_ _)|(with_reducible refine cb ?_ _)|(with_reducible refine cc ?_)));(case side2=>exact (Kd.S_reads' HO210.out).2.1);(case side3=>repeat (first|exact (Kd.S_reads' HO213.out).2.2|(with_reducible refine ca ?_ _)|(with_reducible refine cb ?_ _)|(with_reducible refine cc ?_)));(case side4=>exact (Kd.S_reads' HO213.out).2.1);(case side5=>repeat (first|exact (rd_ HO217.out).2.2|(with_reducible refine ca ?_ _)|(with_reducible refine cb ?_ _)|(with_reducible refine cc ?_)));(case side6=>exact (rd_ HO217.out).2.1);rintro e w34 ⟨v219,v222,rfl,ho0,ho1,hb⟩;refine ⟨_,rfl,?_⟩;have n0_:=A_ (Kd.S_elder' (by (with_reducible repeat (first|apply Kd.S_alloc|apply Kd.S_drewN|apply Kd.S_drew));exact HO202.out) (Kd.S_base ho0) hb);have n1_:=A_ (Kd.S_elder' (by (with_reducible repeat (first|apply Kd.S_alloc|apply Kd.S_drewN|apply Kd.S_drew));exact HO205.out) (Kd.S_base ho1) hb);have n2_:=A_ (Kd.S_elder' (by (with_reducible repeat (first|apply Kd.S_alloc|apply Kd.S_drewN|apply Kd.S_drew));exact HO210.out) (Kd.S_base ho0) hb);have n3_:=A_ (Kd.S_elder' (by (with_reducible repeat (first|apply Kd.S_alloc|apply Kd.S_drewN|apply Kd.S_drew));exact HO213.out) (Kd.S_base ho1) hb);have n4_:=A_ (rw_ (by (with_reducible repeat (first|apply ra|apply rb|apply rc));exact HO217.out) hb);have n5_:=A_ (Kd.S_lower (Kd.S_new' (Kd.S_new' (Kd.S_new' ho0 (Kd.S_lt (by (with_reducible repeat (first|apply Kd.S_alloc|apply Kd.S_drewN|apply Kd.S_drew));exact HO202.out))) (Kd.S_lt (by (with_reducible repeat (first|apply Kd.S_alloc|apply Kd.S_drewN|apply Kd.S_drew));exact HO210.out))) (rl (by (with_reducible repeat (first|apply ra|apply rb|apply rc));exact HO217.out))) (below_size (by repeat (first|(with_reducible first|exact HB.out|apply ba|apply bb|apply bc|refine below_set ?_ GE207.out)|exact HB.out))));have n6_:=A_ (Kd.S_lower (Kd.S_new' (Kd.S_new' (Kd.S_new' ho1 (Kd.S_lt (by (with_reducible repeat (first|apply Kd.S_alloc|apply Kd.S_drewN|apply Kd.S_drew));exact HO205.out))) (Kd.S_lt (by (with_reducible repeat (first|apply Kd.S_alloc|apply Kd.S_drewN|apply Kd.S_drew));exact HO213.out))) (rl (by (with_reducible repeat (first|apply ra|apply rb|apply rc));exact HO217.out))) (below_size (by repeat (first|(with_reducible first|exact HB.out|apply ba|apply bb|apply bc|refine below_set ?_ GE207.out)|exact HB.out))));have n7_:=A_ (blk_below (g:=gb207) (o:=.cells #[.slice Ao28 t208.length co28,.slice Ao30 t211.length co30] 25 (0,0)) (by (with_reducible repeat (first|refine blk_drewN ?_ _|refine blk_drew ?_|refine blk_alloc ?_ _));exact BK207.out) hb);have n8_:=A_ (below_step (by repeat (first|(with_reducible first|exact HB.out|apply ba|apply bb|apply bc|refine below_set ?_ GE207.out)|exact HB.out)) hb);clear HO202;clear HO205;clear HO210;clear HO213;clear HO217;clear BK207;clear HB;have HO202:=n0_;have HO205:=n1_;have HO210:=n2_;have HO213:=n3_;have HO217:=n4_;have HO220:=n5_;have HO223:=n6_;have BK207:=n7_;have HB:=n8_;clear n0_ n1_ n2_ n3_ n4_ n5_ n6_ n7_ n8_;(try clear hb);(try clear hb2);(try clear hk);(try clear hi);(try clear ho0);(try clear ho1);obtain ⟨Ao35,co35,eo35⟩:=Kd.S_slice HO220.out;subst eo35;have hcz36_0 : w34.cell? ⟨gb207,0,none⟩ = some (.slice Ao28 t208.length co28):=(blk_cell BK207.out 0).trans rfl;have hcz36_1 : w34.cell? ⟨gb207,1,none⟩ = some (.slice Ao30 t211.length co30):=(blk_cell BK207.out 1).trans rfl;have hfz36_0:=blk_frozen BK207.out 0;have hfz36_1:=blk_frozen BK207.out 1;obtain ⟨Ao37,co37,eo37⟩:=Kd.S_slice HO223.out;subst eo37)|((with_reducible refine gate_callee (f:=15) rfl ?_);refine goesL_ (some 58) rfl rfl Try.func15 (by kernel_rfl) rfl #[.agg #[.slice Ao35 t218.length co35,.slice Ao37 t221.length co37]] rfl (by (try simp only [List.map_toArray,List.map_cons,List.map_nil]);first|done|rfl|(simp only [List.length_drop,List.length_take];rfl)) ?_;(with_reducible refine (device_Flush.calls kj4 _ _ t218 _ _ t221 t225 t228 t231 _ ?side1 ?side2 ?side3 ?side4 A13.out).mono ?_);(case side1=>refine (Kd.S_reads' (e:=26) (base:=w.heap.size) (ok:=fun k_=>(((True∧nb k_ (.slice Ao24 t200.length co24))∧nb k_ (.slice Ao28 t208.length co28))∧nb k_ (.slice Ao33 y215.length co33))) (n:=t218.length) (c:=co35) ?_).2.2;exact (by (with_reducible repeat (first|apply Kd.S_alloc|apply Kd.S_drewN|apply Kd.S_drew));exact (Kd.S_mono (Kd.S_far (p:=⟨gb207,1,none⟩) (Kd.S_far (p:=⟨gb207,0,none⟩) (Kd.S_types HO220.out BK207.out (by decide)) (fun _ hk=>hk.2) (.slice Ao35 t218.length co35)) (fun _ hk=>hk.2) (.slice Ao37 t221.length co37)) (fun _ h_=>h_.1))));(case side2=>exact (Kd.S_reads' HO220.out).2.1);(case side3=>refine (Kd.S_reads' (e:=42) (base:=w.heap.size) (ok:=fun k_=>(((True∧nb k_ (.slice Ao26 t203.length co26))∧nb k_ (.slice Ao30 t211.length co30))∧nb k_ (.slice Ao33 y215.length co33))) (n:=t221.length) (c:=co37) ?_).2.2;exact (by (with_reducible repeat (first|apply Kd.S_alloc|apply Kd.S_drewN|apply Kd.S_drew));exact (Kd.S_mono (Kd.S_far (p:=⟨gb207,1,none⟩) (Kd.S_far (p:=⟨gb207,0,none⟩) (Kd.S_types HO223.out BK207.out (by decide)) (fun _ hk=>hk.2) (.slice Ao35 t218.length co35)) (fun _ hk=>hk.2) (.slice Ao37 t221.length co37)) (fun _ h_=>h_.1))));(case side4=>exact (Kd.S_reads' HO223.out).2.1);rintro e w38 ⟨v226,v229,rfl,ho0,ho1,hb⟩;refine ⟨_,rfl,?_⟩;have n0_:=A_ (Kd.S_elder' (by (with_reducible repeat (first|apply Kd.S_alloc|apply Kd.S_drewN|apply Kd.S_drew));exact (Kd.S_mono (Kd.S_far (p:=⟨gb207,1,none⟩) (Kd.S_far (p:=⟨gb207,0,none⟩) (Kd.S_types HO202.out BK207.out (by decide)) (fun _ hk=>hk.2) (.slice Ao35 t218.length co35)) (fun _ hk=>hk.2) (.slice Ao37 t221.length co37)) (fun _ h_=>h_.1))) (Kd.S_base ho0) hb);have n1_:=A_ (Kd.S_elder' (by (with_reducible repeat (first|apply Kd.S_alloc|apply Kd.S_drewN|apply Kd.S_drew));exact (Kd.S_mono (Kd.S_far (p:=⟨gb207,1,none⟩) (Kd.S_far (p:=⟨gb207,0,none⟩) (Kd.S_types HO205.out BK207.out (by decide)) (fun _ hk=>hk.2) (.slice Ao35 t218.length co35)) (fun _ hk=>hk.2) (.slice Ao37 t221.length co37)) (fun _ h_=>h_.1))) (Kd.S_base ho1) hb);have n2_:=A_ (Kd.S_elder' (by (with_reducible repeat (first|apply Kd.S_alloc|apply Kd.S_drewN|apply Kd.S_drew));exact (Kd.S_mono (Kd.S_far (p:=⟨gb207,1,none⟩) (Kd.S_far (p:=⟨gb207,0,none⟩) (Kd.S_types HO210.out BK207.out (by decide)) (fun _ hk=>hk.2) (.slice Ao35 t218.length co35)) (fun _ hk=>hk.2) (.slice Ao37 t221.length co37)) (fun _ h_=>h_.1))) (Kd.S_base ho0) hb);have n3_:=A_ (Kd.S_elder' (by (with_reducible repeat (first|apply Kd.S_alloc|apply Kd.S_drewN|apply Kd.S_drew));exact (Kd.S_mono (Kd.S_far (p:=⟨gb207,1,none⟩) (Kd.S_far (p:=⟨gb207,0,none⟩) (Kd.S_types HO213.out BK207.out (by decide)) (fun _ hk=>hk.2) (.slice Ao35 t218.length co35)) (fun _ hk=>hk.2) (.slice Ao37 t221.length co37)) (fun _ h_=>h_.1))) (Kd.S_base ho1) hb);have n4_:=A_ (rw_ (by (with_reducible repeat (first|apply ra|apply rb|apply rc));exact (rm (Kd.R_far (p:=⟨gb207,1,none⟩) (Kd.R_far (p:=⟨gb207,0,none⟩) (Kd.R_types HO217.out BK207.out (by decide)) (fun _ hk=>hk.2) (.slice Ao35 t218.length co35)) (fun _ hk=>hk.2) (.slice Ao37 t221.length co37)) (fun _ h_=>h_.1))) hb);have n5_:=A_ (Kd.S_elder' (by (with_reducible repeat (first|apply Kd.S_alloc|apply Kd.S_drewN|apply Kd.S_drew));exact (Kd.S_mono (Kd.S_far (p:=⟨gb207,1,none⟩) (Kd.S_far (p:=⟨gb207,0,none⟩) (Kd.S_types HO220.out BK207.out (by decide)) (fun _ hk=>hk.2) (.slice Ao35 t218.length co35)) (fun _ hk=>hk.2) (.slice Ao37 t221.length co37)) (fun _ h_=>h_.1))) (Kd.S_base ho0) hb);have n6_:=A_ (Kd.S_elder' (by (with_reducible repeat (first|apply Kd.S_alloc|apply Kd.S_drewN|apply Kd.S_drew));exact (Kd.S_mono (Kd.S_far (p:=⟨gb207,1,none⟩) (Kd.S_far (p:=⟨gb207,0,none⟩) (Kd.S_types HO223.out BK207.out (by decide)) (fun _ hk=>hk.2) (.slice Ao35 t218.length co35)) (fun _ hk=>hk.2) (.slice Ao37 t221.length co37)) (fun _ h_=>h_.1))) (Kd.S_base ho1) hb);have n7_:=A_ (Kd.S_lower (Kd.S_new' (Kd.S_new' (Kd.S_new' (Kd.S_new' ho0 (Kd.S_lt (by (with_reducible repeat (first|apply Kd.S_alloc|apply Kd.S_drewN|apply Kd.S_drew));exact (Kd.S_mono (Kd.S_far (p:=⟨gb207,1,none⟩) (Kd.S_far (p:=⟨gb207,0,none⟩) (Kd.S_types HO202.out BK207.out (by decide)) (fun _ hk=>hk.2) (.slice Ao35 t218.length co35)) (fun _ hk=>hk.2) (.slice Ao37 t221.length co37)) (fun _ h_=>h_.1))))) (Kd.S_lt (by (with_reducible repeat (first|apply Kd.S_alloc|apply Kd.S_drewN|apply Kd.S_drew));exact (Kd.S_mono (Kd.S_far (p:=⟨gb207,1,none⟩) (Kd.S_far (p:=⟨gb207,0,none⟩) (Kd.S_types HO210.out BK207.out (by decide)) (fun _ hk=>hk.2) (.slice Ao35 t218.length co35)) (fun _ hk=>hk.2) (.slice Ao37 t221.length co37)) (fun _ h_=>h_.1))))) (rl (by (with_reducible repeat (first|apply ra|apply rb|apply rc));exact (rm (Kd.R_far (p:=⟨gb207,1,none⟩) (Kd.R_far (p:=⟨gb207,0,none⟩) (Kd.R_types HO217.out BK207.out (by decide)) (fun _ hk=>hk.2) (.slice Ao35 t218.length co35)) (fun _ hk=>hk.2) (.slice Ao37 t221.length co37)) (fun _ h_=>h_.1))))) (Kd.S_lt (by (with_reducible repeat (first|apply Kd.S_alloc|apply Kd.S_drewN|apply Kd.S_drew));exact (Kd.S_mono (Kd.S_far (p:=⟨gb207,1,none⟩) (Kd.S_far (p:=⟨gb207,0,none⟩) (Kd.S_types HO220.out BK207.out (by decide)) (fun _ hk=>hk.2) (.slice Ao35 t218.length co35)) (fun _ hk=>hk.2) (.slice Ao37 t221.length co37)) (fun _ h_=>h_.1))))) (below_size (by repeat (first|(with_reducible first|exact HB.out|apply ba|apply bb|apply bc|refine below_set ?_ GE207.out)|exact HB.out))));have n8_:=A_ (Kd.S_lower (Kd.S_new' (Kd.S_new' (Kd.S_new' (Kd.S_new' ho1 (Kd.S_lt (by (with_reducible repeat (first|apply Kd.S_alloc|apply Kd.S_drewN|apply Kd.S_drew));exact (Kd.S_mono (Kd.S_far (p:=⟨gb207,1,none⟩) (Kd.S_far (p:=⟨gb207,0,none⟩) (Kd.S_types HO205.out BK207.out (by decide)) (fun _ hk=>hk.2) (.slice Ao35 t218.length co35)) (fun _ hk=>hk.2) (.slice Ao37 t221.length co37)) (fun _ h_=>h_.1))))) (Kd.S_lt (by (with_reducible repeat (first|apply Kd.S_alloc|apply Kd.S_drewN|apply Kd.S_drew));exact (Kd.S_mono (Kd.S_far (p:=⟨gb207,1,none⟩) (Kd.S_far (p:=⟨gb207,0,none⟩) (Kd.S_types HO213.out BK207.out (by decide)) (fun _ hk=>hk.2) (.slice Ao35 t218.length co35)) (fun _ hk=>hk.2) (.slice Ao37 t221.length co37)) (fun _ h_=>h_.1))))) (rl (by (with_reducible repeat (first|apply ra|apply rb|apply rc));exact (rm (Kd.R_far (p:=⟨gb207,1,none⟩) (Kd.R_far (p:=⟨gb207,0,none⟩) (Kd.R_types HO217.out BK207.out (by decide)) (fun _ hk=>hk.2) (.slice Ao35 t218.length co35)) (fun _ hk=>hk.2) (.slice Ao37 t221.length co37)) (fun _ h_=>h_.1))))) (Kd.S_lt (by (with_reducible repeat (first|apply Kd.S_alloc|apply Kd.S_drewN|apply Kd.S_drew));exact (Kd.S_mono (Kd.S_far (p:=⟨gb207,1,none⟩) (Kd.S_far (p:=⟨gb207,0,none⟩) (Kd.S_types HO223.out BK207.out (by decide)) (fun _ hk=>hk.2) (.slice Ao35 t218.length co35)) (fun _ hk=>hk.2) (.slice Ao37 t221.length co37)) (fun _ h_=>h_.1))))) (below_size (by repeat (first|(with_reducible first|exact HB.out|apply ba|apply bb|apply bc|refine below_set ?_ GE207.out)|exact HB.out))));have n9_:=A_ (blk_below (g:=gb207) (o:=.cells #[.slice Ao35 t218.length co35,.slice Ao37 t221.length co37] 25 (0,0)) (by (with_reducible repeat (first|refine blk_drewN ?_ _|refine blk_drew ?_|refine blk_alloc ?_ _));refine blk_put (cs:=#[.slice Ao35 t218.length co35,.slice Ao30 t211.length co30]) ?_ 1 _ rfl;(with_reducible repeat (first|refine blk_drewN ?_ _|refine blk_drew ?_|refine blk_alloc ?_ _));refine blk_put (cs:=#[.slice Ao28 t208.length co28,.slice Ao30 t211.length co30]) ?_ 0 _ rfl;(with_reducible repeat (first|refine blk_drewN ?_ _|refine blk_drew ?_|refine blk_alloc ?_ _));exact BK207.out) hb);have n10_:=A_ (below_step (by repeat (first|(with_reducible first|exact HB.out|apply ba|apply bb|apply bc|refine below_set ?_ GE207.out)|exact HB.out)) hb);clear HO202;clear HO205;clear HO210;clear HO213;clear HO217;clear HO220;clear HO223;clear BK207;clear HB;have HO202:=n0_;have HO205:=n1_;have HO210:=n2_;have HO213:=n3_;have HO217:=n4_;have HO220:=n5_;have HO223:=n6_;have HO227:=n7_;have HO230:=n8_;have BK207:=n9_;have HB:=n10_;clear n0_ n1_ n2_ n3_ n4_ n5_ n6_ n7_ n8_ n9_ n10_;(try clear hb);(try clear hb2);(try clear hk);(try clear hi);(try clear ho0);(try clear ho1);obtain ⟨Ao39,co39,eo39⟩:=Kd.S_slice HO227.out;subst eo39;have hcz40_0 : w38.cell? ⟨gb207,0,none⟩ = some (.slice Ao35 t218.length co35):=(blk_cell BK207.out 0).trans rfl;have hcz40_1 : w38.cell? ⟨gb207,1,none⟩ = some (.slice Ao37 t221.length co37):=(blk_cell BK207.out 1).trans rfl;have hfz40_0:=blk_frozen BK207.out 0;have hfz40_1:=blk_frozen BK207.out 1;obtain ⟨Ao41,co41,eo41⟩:=Kd.S_slice HO230.out;subst eo41)|((with_reducible refine gate_callee (f:=14) rfl ?_);refine goesL_ (some 64) rfl rfl Try.func14 (by kernel_rfl) rfl #[.agg #[.slice Ao39 t225.length co39,.slice Ao41 t228.length co41],.int .i64 1,.slice A1 l1.length c1] rfl (by (try simp only [List.map_toArray,List.map_cons,List.map_nil]);first|done|rfl|(simp only [List.length_drop,List.length_take];rfl)) ?_;(with_reducible refine (device_Write.calls kj4 _ _ t225 _ _ t228 1 _ _ l1 t232 t235 t238 _ ?side1 ?side2 ?side3 ?side4 ?side5 ?side6 A14.out).mono ?_);(case side1=>refine (Kd.S_reads' (e:=26) (base:=w.heap.size) (ok:=fun k_=>((((True∧nb k_ (.slice Ao24 t200.length co24))∧nb k_ (.slice Ao28 t208.length co28))∧nb k_ (.slice Ao33 y215.length co33))∧nb k_ (.slice Ao35 t218.length co35))) (n:=t225.length) (c:=co39) ?_).2.2;exact (by (with_reducible repeat (first|apply Kd.S_alloc|apply Kd.S_drewN|apply Kd.S_drew));exact (Kd.S_mono (Kd.S_far (p:=⟨gb207,1,none⟩) (Kd.S_far (p:=⟨gb207,0,none⟩) (Kd.S_types HO227.out BK207.out (by decide)) (fun _ hk=>hk.2) (.slice Ao39 t225.length co39)) (fun _ hk=>hk.2) (.slice Ao41 t228.length co41)) (fun _ h_=>h_.1))));(case side2=>exact (Kd.S_reads' HO227.out).2.1);(case side3=>refine (Kd.S_reads' (e:=42) (base:=w.heap.size) (ok:=fun k_=>((((True∧nb k_ (.slice Ao26 t203.length co26))∧nb k_ (.slice Ao30 t211.length co30))∧nb k_ (.slice Ao33 y215.length co33))∧nb k_ (.slice Ao37 t221.length co37))) (n:=t228.length) (c:=co41) ?_).2.2;exact (by (with_reducible repeat (first|apply Kd.S_alloc|apply Kd.S_drewN|apply Kd.S_drew));exact (Kd.S_mono (Kd.S_far (p:=⟨gb207,1,none⟩) (Kd.S_far (p:=⟨gb207,0,none⟩) (Kd.S_types HO230.out BK207.out (by decide)) (fun _ hk=>hk.2) (.slice Ao39 t225.length co39)) (fun _ hk=>hk.2) (.slice Ao41 t228.length co41)) (fun _ h_=>h_.1))));(case side4=>exact (Kd.S_reads' HO230.out).2.1);(case side5=>exact cl HR1.out (by repeat (first|(with_reducible first|exact HB.out|apply ba|apply bb|apply bc|refine below_set ?_ GE207.out)|exact HB.out)));(case side6=>exact HC1.out);rintro e w42 ⟨v233,v236,rfl,ho0,ho1,hb⟩;refine ⟨_,rfl,?_⟩;have n0_:=A_ (Kd.S_elder' (by (with_reducible repeat (first|apply Kd.S_alloc|apply Kd.S_drewN|apply Kd.S_drew));exact (Kd.S_mono (Kd.S_far (p:=⟨gb207,1,none⟩) (Kd.S_far (p:=⟨gb207,0,none⟩) (Kd.S_types HO202.out BK207.out (by decide)) (fun _ hk=>hk.2) (.slice Ao39 t225.length co39)) (fun _ hk=>hk.2) (.slice Ao41 t228.length co41)) (fun _ h_=>h_.1))) (Kd.S_base ho0) hb);have n1_:=A_ (Kd.S_elder' (by (with_reducible repeat (first|apply Kd.S_alloc|apply Kd.S_drewN|apply Kd.S_drew));exact (Kd.S_mono (Kd.S_far (p:=⟨gb207,1,none⟩) (Kd.S_far (p:=⟨gb207,0,none⟩) (Kd.S_types HO205.out BK207.out (by decide)) (fun _ hk=>hk.2) (.slice Ao39 t225.length co39)) (fun _ hk=>hk.2) (.slice Ao41 t228.length co41)) (fun _ h_=>h_.1))) (Kd.S_base ho1) hb);have n2_:=A_ (Kd.S_elder' (by (with_reducible repeat (first|apply Kd.S_alloc|apply Kd.S_drewN|apply Kd.S_drew));exact (Kd.S_mono (Kd.S_far (p:=⟨gb207,1,none⟩) (Kd.S_far (p:=⟨gb207,0,none⟩) (Kd.S_types HO210.out BK207.out (by decide)) (fun _ hk=>hk.2) (.slice Ao39 t225.length co39)) (fun _ hk=>hk.2) (.slice Ao41 t228.length co41)) (fun _ h_=>h_.1))) (Kd.S_base ho0) hb);have n3_:=A_ (Kd.S_elder' (by (with_reducible repeat (first|apply Kd.S_alloc|apply Kd.S_drewN|apply Kd.S_drew));exact (Kd.S_mono (Kd.S_far (p:=⟨gb207,1,none⟩) (Kd.S_far (p:=⟨gb207,0,none⟩) (Kd.S_types HO213.out BK207.out (by decide)) (fun _ hk=>hk.2) (.slice Ao39 t225.length co39)) (fun _ hk=>hk.2) (.slice Ao41 t228.length co41)) (fun _ h_=>h_.1))) (Kd.S_base ho1) hb);have n4_:=A_ (rw_ (by (with_reducible repeat (first|apply ra|apply rb|apply rc));exact (rm (Kd.R_far (p:=⟨gb207,1,none⟩) (Kd.R_far (p:=⟨gb207,0,none⟩) (Kd.R_types HO217.out BK207.out (by decide)) (fun _ hk=>hk.2) (.slice Ao39 t225.length co39)) (fun _ hk=>hk.2) (.slice Ao41 t228.length co41)) (fun _ h_=>h_.1))) hb);have n5_:=A_ (Kd.S_elder' (by (with_reducible repeat (first|apply Kd.S_alloc|apply Kd.S_drewN|apply Kd.S_drew));exact (Kd.S_mono (Kd.S_far (p:=⟨gb207,1,none⟩) (Kd.S_far (p:=⟨gb207,0,none⟩) (Kd.S_types HO220.out BK207.out (by decide)) (fun _ hk=>hk.2) (.slice Ao39 t225.length co39)) (fun _ hk=>hk.2) (.slice Ao41 t228.length co41)) (fun _ h_=>h_.1))) (Kd.S_base ho0) hb);have n6_:=A_ (Kd.S_elder' (by (with_reducible repeat (first|apply Kd.S_alloc|apply Kd.S_drewN|apply Kd.S_drew));exact (Kd.S_mono (Kd.S_far (p:=⟨gb207,1,none⟩) (Kd.S_far (p:=⟨gb207,0,none⟩) (Kd.S_types HO223.out BK207.out (by decide)) (fun _ hk=>hk.2) (.slice Ao39 t225.length co39)) (fun _ hk=>hk.2) (.slice Ao41 t228.length co41)) (fun _ h_=>h_.1))) (Kd.S_base ho1) hb);have n7_:=A_ (Kd.S_elder' (by (with_reducible repeat (first|apply Kd.S_alloc|apply Kd.S_drewN|apply Kd.S_drew));exact (Kd.S_mono (Kd.S_far (p:=⟨gb207,1,none⟩) (Kd.S_far (p:=⟨gb207,0,none⟩) (Kd.S_types HO227.out BK207.out (by decide)) (fun _ hk=>hk.2) (.slice Ao39 t225.length co39)) (fun _ hk=>hk.2) (.slice Ao41 t228.length co41)) (fun _ h_=>h_.1))) (Kd.S_base ho0) hb);have n8_:=A_ (Kd.S_elder' (by (with_reducible repeat (first|apply Kd.S_alloc|apply Kd.S_drewN|apply Kd.S_drew));exact (Kd.S_mono (Kd.S_far (p:=⟨gb207,1,none⟩) (Kd.S_far (p:=⟨gb207,0,none⟩) (Kd.S_types HO230.out BK207.out (by decide)) (fun _ hk=>hk.2) (.slice Ao39 t225.length co39)) (fun _ hk=>hk.2) (.slice Ao41 t228.length co41)) (fun _ h_=>h_.1))) (Kd.S_base ho1) hb);have n9_:=A_ (Kd.S_lower (Kd.S_new' (Kd.S_new' (Kd.S_new' (Kd.S_new' (Kd.S_new' ho0 (Kd.S_lt (by (with_reducible repeat (first|apply Kd.S_alloc|apply Kd.S_drewN|apply Kd.S_drew));exact (Kd.S_mono (Kd.S_far (p:=⟨gb207,1,none⟩) (Kd.S_far (p:=⟨gb207,0,none⟩) (Kd.S_types HO202.out BK207.out (by decide)) (fun _ hk=>hk.2) (.slice Ao39 t225.length co39)) (fun _ hk=>hk.2) (.slice Ao41 t228.length co41)) (fun _ h_=>h_.1))))) (Kd.S_lt (by (with_reducible repeat (first|apply Kd.S_alloc|apply Kd.S_drewN|apply Kd.S_drew));exact (Kd.S_mono (Kd.S_far (p:=⟨gb207,1,none⟩) (Kd.S_far (p:=⟨gb207,0,none⟩) (Kd.S_types HO210.out BK207.out (by decide)) (fun _ hk=>hk.2) (.slice Ao39 t225.length co39)) (fun _ hk=>hk.2) (.slice Ao41 t228.length co41)) (fun _ h_=>h_.1))))) (rl (by (with_reducible repeat (first|apply ra|apply rb|apply rc));exact (rm (Kd.R_far (p:=⟨gb207,1,none⟩) (Kd.R_far (p:=⟨gb207,0,none⟩) (Kd.R_types HO217.out BK207.out (by decide)) (fun _ hk=>hk.2) (.slice Ao39 t225.length co39)) (fun _ hk=>hk.2) (.slice Ao41 t228.length co41)) (fun _ h_=>h_.1))))) (Kd.S_lt (by (with_reducible repeat (first|apply Kd.S_alloc|apply Kd.S_drewN|apply Kd.S_drew));exact (Kd.S_mono (Kd.S_far (p:=⟨gb207,1,none⟩) (Kd.S_far (p:=⟨gb207,0,none⟩) (Kd.S_types HO220.out BK207.out (by decide)) (fun _ hk=>hk.2) (.slice Ao39 t225.length co39)) (fun _ hk=>hk.2) (.slice Ao41 t228.length co41)) (fun _ h_=>h_.1))))) (Kd.S_lt (by (with_reducible repeat (first|apply Kd.S_alloc|apply Kd.S_drewN|apply Kd.S_drew));exact (Kd.S_mono (Kd.S_far (p:=⟨gb207,1,none⟩) (Kd.S_far (p:=⟨gb207,0,none⟩) (Kd.S_types HO227.out BK207.out (by decide)) (fun _ hk=>hk.2) (.slice Ao39 t225.length co39)) (fun _ hk=>hk.2) (.slice Ao41 t228.length co41)) (fun _ h_=>h_.1))))) (below_size (by repeat (first|(with_reducible first|exact HB.out|apply ba|apply bb|apply bc|refine below_set ?_ GE207.out)|exact HB.out))));have n10_:=A_ (Kd.S_lower (Kd.S_new' (Kd.S_new' (Kd.S_new' (Kd.S_new' (Kd.S_new' ho1 (Kd.S_lt (by (with_reducible repeat (first|apply Kd.S_alloc|apply Kd.S_drewN|apply Kd.S_drew));exact (Kd.S_mono (Kd.S_far (p:=⟨gb207,1,none⟩) (Kd.S_far (p:=⟨gb207,0,none⟩) (Kd.S_types HO205.out BK207.out (by decide)) (fun _ hk=>hk.2) (.slice Ao39 t225.length co39)) (fun _ hk=>hk.2) (.slice Ao41 t228.length co41)) (fun _ h_=>h_.1))))) (Kd.S_lt (by (with_reducible repeat (first|apply Kd.S_alloc|apply Kd.S_drewN|apply Kd.S_drew));exact (Kd.S_mono (Kd.S_far (p:=⟨gb207,1,none⟩) (Kd.S_far (p:=⟨gb207,0,none⟩) (Kd.S_types HO213.out BK207.out (by decide)) (fun _ hk=>hk.2) (.slice Ao39 t225.length co39)) (fun _ hk=>hk.2) (.slice Ao41 t228.length co41)) (fun _ h_=>h_.1))))) (rl (by (with_reducible repeat (first|apply ra|apply rb|apply rc));exact (rm (Kd.R_far (p:=⟨gb207,1,none⟩) (Kd.R_far (p:=⟨gb207,0,none⟩) (Kd.R_types HO217.out BK207.out (by decide)) (fun _ hk=>hk.2) (.slice Ao39 t225.length co39)) (fun _ hk=>hk.2) (.slice Ao41 t228.length co41)) (fun _ h_=>h_.1))))) (Kd.S_lt (by (with_reducible repeat (first|apply Kd.S_alloc|apply Kd.S_drewN|apply Kd.S_drew));exact (Kd.S_mono (Kd.S_far (p:=⟨gb207,1,none⟩) (Kd.S_far (p:=⟨gb207,0,none⟩) (Kd.S_types HO223.out BK207.out (by decide)) (fun _ hk=>hk.2) (.slice Ao39 t225.length co39)) (fun _ hk=>hk.2) (.slice Ao41 t228.length co41)) (fun _ h_=>h_.1))))) (Kd.S_lt (by (with_reducible repeat (first|apply Kd.S_alloc|apply Kd.S_drewN|apply Kd.S_drew));exact (Kd.S_mono (Kd.S_far (p:=⟨gb207,1,none⟩) (Kd.S_far (p:=⟨gb207,0,none⟩) (Kd.S_types HO230.out BK207.out (by decide)) (fun _ hk=>hk.2) (.slice Ao39 t225.length co39)) (fun _ hk=>hk.2) (.slice Ao41 t228.length co41)) (fun _ h_=>h_.1))))) (below_size (by repeat (first|(with_reducible first|exact HB.out|apply ba|apply bb|apply bc|refine below_set ?_ GE207.out)|exact HB.out))));have n11_:=A_ (blk_below (g:=gb207) (o:=.cells #[.slice Ao39 t225.length co39,.slice Ao41 t228.length co41] 25 (0,0)) (by (with_reducible repeat (first|refine blk_drewN ?_ _|refine blk_drew ?_|refine blk_alloc ?_ _));refine blk_put (cs:=#[.slice Ao39 t225.length co39,.slice Ao37 t221.length co37]) ?_ 1 _ rfl;(with_reducible repeat (first|refine blk_drewN ?_ _|refine blk_drew ?_|refine blk_alloc ?_ _));refine blk_put (cs:=#[.slice Ao35 t218.length co35,.slice Ao37 t221.length co37]) ?_ 0 _ rfl;(with_reducible repeat (first|refine blk_drewN ?_ _|refine blk_drew ?_|refine blk_alloc ?_ _));exact BK207.out) hb);have n12_:=A_ (below_step (by repeat (first|(with_reducible first|exact HB.out|apply ba|apply bb|apply bc|refine below_set ?_ GE207.out)|exact HB.out)) hb);clear HO202;clear HO205;clear HO210;clear HO213;clear HO217;clear HO220;clear HO223;clear HO227;clear HO230;clear BK207;clear HB;have HO202:=n0_;have HO205:=n1_;have HO210:=n2_;have HO213:=n3_;have HO217:=n4_;have HO220:=n5_;have HO223:=n6_;have HO227:=n7_;have HO230:=n8_;have HO234:=n9_;have HO237:=n10_;have BK207:=n11_;have HB:=n12_;clear n0_ n1_ n2_ n3_ n4_ n5_ n6_ n7_ n8_ n9_ n10_ n11_ n12_;(try clear hb);(try clear hb2);(try clear hk);(try clear hi);(try clear ho0);(try clear ho1);obtain ⟨Ao43,co43,eo43⟩:=Kd.S_slice HO234.out;subst eo43;have hcz44_0 : w42.cell? ⟨gb207,0,none⟩ = some (.slice Ao39 t225.length co39):=(blk_cell BK207.out 0).trans rfl;have hcz44_1 : w42.cell? ⟨gb207,1,none⟩ = some (.slice Ao41 t228.length co41):=(blk_cell BK207.out 1).trans rfl;have hfz44_0:=blk_frozen BK207.out 0;have hfz44_1:=blk_frozen BK207.out 1;obtain ⟨Ao45,co45,eo45⟩:=Kd.S_slice HO237.out;subst eo45)|((with_reducible refine gate_store (t:=25) (p:=9) rfl ?_);refine store_event (t:=25) (p:=9) (v:=?vo_w46) (w1:=((w42.setCell ⟨gb207,0,none⟩ (.slice Ao43 t232.length co43)).setCell ⟨gb207,1,none⟩ (.slice Ao45 t235.length co45))) ?hg ?ho ?hn ?hr ?_;(case ho=>rfl);(case hg=>rfl);(case hn=>rfl);(case hr=>first|(go_simp;done)|(go_simp;rfl));intro w46 hw;have n0_ : Aside0 (Kd.S (Kd.slice 5 (Kd.int .u8)) 26 w46 w.heap.size (fun k_=>nb k_ (.slice Ao28 t208.length co28)∧nb k_ (.slice Ao33 y215.length co33)∧nb k_ (.slice Ao35 t218.length co35)∧nb k_ (.slice Ao39 t225.length co39)∧nb k_ (.slice Ao43 t232.length co43)) (.slice Ao24 t200.length co24) t200):=⟨(by rw [hw];exact (by (with_reducible repeat (first|apply Kd.S_alloc|apply Kd.S_drewN|apply Kd.S_drew));exact Kd.S_mono (Kd.S_far (p:=⟨gb207,1,none⟩) (Kd.S_far (p:=⟨gb207,0,none⟩) (Kd.S_types HO202.out BK207.out (by decide)) (fun _ hk=>hk.2) (.slice Ao43 t232.length co43)) (fun _ hk=>hk.2) (.slice Ao45 t235.length co45)) (fun _ hk=>⟨hk.1.1.1.1.1.2,⟨hk.1.1.1.1.2,⟨hk.1.1.1.2,⟨hk.1.1.2,hk.1.2⟩⟩⟩⟩)))⟩;have n1_ : Aside0 (Kd.S k42 42 w46 w.heap.size (fun k_=>nb k_ (.slice Ao30 t211.length co30)∧nb k_ (.slice Ao33 y215.length co33)∧nb k_ (.slice Ao37 t221.length co37)∧nb k_ (.slice Ao41 t228.length co41)∧nb k_ (.slice Ao45 t235.length co45)) (.slice Ao26 t203.length co26) t203):=⟨(by rw [hw];exact (by (with_reducible repeat (first|apply Kd.S_alloc|apply Kd.S_drewN|apply Kd.S_drew));exact Kd.S_mono (Kd.S_far (p:=⟨gb207,1,none⟩) (Kd.S_far (p:=⟨gb207,0,none⟩) (Kd.S_types HO205.out BK207.out (by decide)) (fun _ hk=>hk.2) (.slice Ao43 t232.length co43)) (fun _ hk=>hk.2) (.slice Ao45 t235.length co45)) (fun _ hk=>⟨hk.1.1.1.1.1.2,⟨hk.1.1.1.1.2,⟨hk.1.1.1.2,⟨hk.1.1.2,hk.1.2⟩⟩⟩⟩)))⟩;have n2_ : Aside0 (Kd.S (Kd.slice 5 (Kd.int .u8)) 26 w46 w.heap.size (fun k_=>nb k_ (.slice Ao24 t200.length co24)∧nb k_ (.slice Ao33 y215.length co33)∧nb k_ (.slice Ao35 t218.length co35)∧nb k_ (.slice Ao39 t225.length co39)∧nb k_ (.slice Ao43 t232.length co43)) (.slice Ao28 t208.length co28) t208):=⟨(by rw [hw];exact (by (with_reducible repeat (first|apply Kd.S_alloc|apply Kd.S_drewN|apply Kd.S_drew));exact Kd.S_mono (Kd.S_far (p:=⟨gb207,1,none⟩) (Kd.S_far (p:=⟨gb207,0,none⟩) (Kd.S_types HO210.out BK207.out (by decide)) (fun _ hk=>hk.2) (.slice Ao43 t232.length co43)) (fun _ hk=>hk.2) (.slice Ao45 t235.length co45)) (fun _ hk=>⟨hk.1.1.1.1.1.2,⟨hk.1.1.1.1.2,⟨hk.1.1.1.2,⟨hk.1.1.2,hk.1.2⟩⟩⟩⟩)))⟩;have n3_ : Aside0 (Kd.S k42 42 w46 w.heap.size (fun k_=>nb k_ (.slice Ao26 t203.length co26)∧nb k_ (.slice Ao33 y215.length co33)∧nb k_ (.slice Ao37 t221.length co37)∧nb k_ (.slice Ao41 t228.length co41)∧nb k_ (.slice Ao45 t235.length co45)) (.slice Ao30 t211.length co30) t211):=⟨(by rw [hw];exact (by (with_reducible repeat (first|apply Kd.S_alloc|apply Kd.S_drewN|apply Kd.S_drew));exact Kd.S_mono (Kd.S_far (p:=⟨gb207,1,none⟩) (Kd.S_far (p:=⟨gb207,0,none⟩) (Kd.S_types HO213.out BK207.out (by decide)) (fun _ hk=>hk.2) (.slice Ao43 t232.length co43)) (fun _ hk=>hk.2) (.slice Ao45 t235.length co45)) (fun _ hk=>⟨hk.1.1.1.1.1.2,⟨hk.1.1.1.1.2,⟨hk.1.1.1.2,⟨hk.1.1.2,hk.1.2⟩⟩⟩⟩)))⟩;have n4_ : Aside0 (Kd.R (Kd.int .u8) 5 w46 w.heap.size (fun _=>True) (.slice Ao33 y215.length co33) y215):=⟨(by rw [hw];exact (by (with_reducible repeat (first|apply ra|apply rb|apply rc));exact rm (Kd.R_far (p:=⟨gb207,1,none⟩) (Kd.R_far (p:=⟨gb207,0,none⟩) (Kd.R_types HO217.out BK207.out (by decide)) (fun _ hk=>hk.2) (.slice Ao43 t232.length co43)) (fun _ hk=>hk.2) (.slice Ao45 t235.length co45)) (fun _ hk=>trivial)))⟩;have n5_ : Aside0 (Kd.S (Kd.slice 5 (Kd.int .u8)) 26 w46 w.heap.size (fun k_=>nb k_ (.slice Ao24 t200.length co24)∧nb k_ (.slice Ao28 t208.length co28)∧nb k_ (.slice Ao33 y215.length co33)∧nb k_ (.slice Ao39 t225.length co39)∧nb k_ (.slice Ao43 t232.length co43)) (.slice Ao35 t218.length co35) t218):=⟨(by rw [hw];exact (by (with_reducible repeat (first|apply Kd.S_alloc|apply Kd.S_drewN|apply Kd.S_drew));exact Kd.S_mono (Kd.S_far (p:=⟨gb207,1,none⟩) (Kd.S_far (p:=⟨gb207,0,none⟩) (Kd.S_types HO220.out BK207.out (by decide)) (fun _ hk=>hk.2) (.slice Ao43 t232.length co43)) (fun _ hk=>hk.2) (.slice Ao45 t235.length co45)) (fun _ hk=>⟨hk.1.1.1.1.1.2,⟨hk.1.1.1.1.2,⟨hk.1.1.1.2,⟨hk.1.1.2,hk.1.2⟩⟩⟩⟩)))⟩;have n6_ : Aside0 (Kd.S k42 42 w46 w.heap.size (fun k_=>nb k_ (.slice Ao26 t203.length co26)∧nb k_ (.slice Ao30 t211.length co30)∧nb k_ (.slice Ao33 y215.length co33)∧nb k_ (.slice Ao41 t228.length co41)∧nb k_ (.slice Ao45 t235.length co45)) (.slice Ao37 t221.length co37) t221):=⟨(by rw [hw];exact (by (with_reducible repeat (first|apply Kd.S_alloc|apply Kd.S_drewN|apply Kd.S_drew));exact Kd.S_mono (Kd.S_far (p:=⟨gb207,1,none⟩) (Kd.S_far (p:=⟨gb207,0,none⟩) (Kd.S_types HO223.out BK207.out (by decide)) (fun _ hk=>hk.2) (.slice Ao43 t232.length co43)) (fun _ hk=>hk.2) (.slice Ao45 t235.length co45)) (fun _ hk=>⟨hk.1.1.1.1.1.2,⟨hk.1.1.1.1.2,⟨hk.1.1.1.2,⟨hk.1.1.2,hk.1.2⟩⟩⟩⟩)))⟩;have n7_ : Aside0 (Kd.S (Kd.slice 5 (Kd.int .u8)) 26 w46 w.heap.size (fun k_=>nb k_ (.slice Ao24 t200.length co24)∧nb k_ (.slice Ao28 t208.length co28)∧nb k_ (.slice Ao33 y215.length co33)∧nb k_ (.slice Ao35 t218.length co35)∧nb k_ (.slice Ao43 t232.length co43)) (.slice Ao39 t225.length co39) t225):=⟨(by rw [hw];exact (by (with_reducible repeat (first|apply Kd.S_alloc|apply Kd.S_drewN|apply Kd.S_drew));exact Kd.S_mono (Kd.S_far (p:=⟨gb207,1,none⟩) (Kd.S_far (p:=⟨gb207,0,none⟩) (Kd.S_types HO227.out BK207.out (by decide)) (fun _ hk=>hk.2) (.slice Ao43 t232.length co43)) (fun _ hk=>hk.2) (.slice Ao45 t235.length co45)) (fun _ hk=>⟨hk.1.1.1.1.1.2,⟨hk.1.1.1.1.2,⟨hk.1.1.1.2,⟨hk.1.1.2,hk.1.2⟩⟩⟩⟩)))⟩;have n8_ : Aside0 (Kd.S k42 42 w46 w.heap.size (fun k_=>nb k_ (.slice Ao26 t203.length co26)∧nb k_ (.slice Ao30 t211.length co30)∧nb k_ (.slice Ao33 y215.length co33)∧nb k_ (.slice Ao37 t221.length co37)∧nb k_ (.slice Ao45 t235.length co45)) (.slice Ao41 t228.length co41) t228):=⟨(by rw [hw];exact (by (with_reducible repeat (first|apply Kd.S_alloc|apply Kd.S_drewN|apply Kd.S_drew));exact Kd.S_mono (Kd.S_far (p:=⟨gb207,1,none⟩) (Kd.S_far (p:=⟨gb207,0,none⟩) (Kd.S_types HO230.out BK207.out (by decide)) (fun _ hk=>hk.2) (.slice Ao43 t232.length co43)) (fun _ hk=>hk.2) (.slice Ao45 t235.length co45)) (fun _ hk=>⟨hk.1.1.1.1.1.2,⟨hk.1.1.1.1.2,⟨hk.1.1.1.2,⟨hk.1.1.2,hk.1.2⟩⟩⟩⟩)))⟩;have n9_ : Aside0 (Kd.S (Kd.slice 5 (Kd.int .u8)) 26 w46 w.heap.size (fun k_=>nb k_ (.slice Ao24 t200.length co24)∧nb k_ (.slice Ao28 t208.length co28)∧nb k_ (.slice Ao33 y215.length co33)∧nb k_ (.slice Ao35 t218.length co35)∧nb k_ (.slice Ao39 t225.length co39)) (.slice Ao43 t232.length co43) t232):=⟨(by rw [hw];exact (by (with_reducible repeat (first|apply Kd.S_alloc|apply Kd.S_drewN|apply Kd.S_drew));exact Kd.S_mono (Kd.S_far (p:=⟨gb207,1,none⟩) (Kd.S_far (p:=⟨gb207,0,none⟩) (Kd.S_types HO234.out BK207.out (by decide)) (fun _ hk=>hk.2) (.slice Ao43 t232.length co43)) (fun _ hk=>hk.2) (.slice Ao45 t235.length co45)) (fun _ hk=>⟨hk.1.1.1.1.1.2,⟨hk.1.1.1.1.2,⟨hk.1.1.1.2,⟨hk.1.1.2,hk.1.2⟩⟩⟩⟩)))⟩;have n10_ : Aside0 (Kd.S k42 42 w46 w.heap.size (fun k_=>nb k_ (.slice Ao26 t203.length co26)∧nb k_ (.slice Ao30 t211.length co30)∧nb k_ (.slice Ao33 y215.length co33)∧nb k_ (.slice Ao37 t221.length co37)∧nb k_ (.slice Ao41 t228.length co41)) (.slice Ao45 t235.length co45) t235):=⟨(by rw [hw];exact (by (with_reducible repeat (first|apply Kd.S_alloc|apply Kd.S_drewN|apply Kd.S_drew));exact Kd.S_mono (Kd.S_far (p:=⟨gb207,1,none⟩) (Kd.S_far (p:=⟨gb207,0,none⟩) (Kd.S_types HO237.out BK207.out (by decide)) (fun _ hk=>hk.2) (.slice Ao43 t232.length co43)) (fun _ hk=>hk.2) (.slice Ao45 t235.length co45)) (fun _ hk=>⟨hk.1.1.1.1.1.2,⟨hk.1.1.1.1.2,⟨hk.1.1.1.2,⟨hk.1.1.2,hk.1.2⟩⟩⟩⟩)))⟩;have n11_ : Aside0 (w46.heap[gb207]? = some (.cells #[.slice Ao43 t232.length co43,.slice Ao45 t235.length co45] 25 (0,0))):=⟨(by rw [hw];exact (by (with_reducible repeat (first|refine blk_drewN ?_ _|refine blk_drew ?_|refine blk_alloc ?_ _));refine blk_put (cs:=#[.slice Ao43 t232.length co43,.slice Ao41 t228.length co41]) ?_ 1 _ rfl;(with_reducible repeat (first|refine blk_drewN ?_ _|refine blk_drew ?_|refine blk_alloc ?_ _));refine blk_put (cs:=#[.slice Ao39 t225.length co39,.slice Ao41 t228.length co41]) ?_ 0 _ rfl;(with_reducible repeat (first|refine blk_drewN ?_ _|refine blk_drew ?_|refine blk_alloc ?_ _));exact BK207.out))⟩;have n12_ : Aside0 (Below w.heap.size w w46):=⟨(by rw [hw];exact (by repeat (first|(with_reducible first|exact HB.out|apply ba|apply bb|apply bc|refine below_set ?_ GE207.out)|exact HB.out)))⟩;clear hw;clear HO202;clear HO205;clear HO210;clear HO213;clear HO217;clear HO220;clear HO223;clear HO227;clear HO230;clear HO234;clear HO237;clear BK207;clear HB;have HO202:=n0_;have HO205:=n1_;have HO210:=n2_;have HO213:=n3_;have HO217:=n4_;have HO220:=n5_;have HO223:=n6_;have HO227:=n7_;have HO230:=n8_;have HO234:=n9_;have HO237:=n10_;have BK207:=n11_;have HB:=n12_;clear n0_ n1_ n2_ n3_ n4_ n5_ n6_ n7_ n8_ n9_ n10_ n11_ n12_;have hcz47_0 : w46.cell? ⟨gb207,0,none⟩ = some (.slice Ao43 t232.length co43):=(blk_cell BK207.out 0).trans rfl;have hcz47_1 : w46.cell? ⟨gb207,1,none⟩ = some (.slice Ao45 t235.length co45):=(blk_cell BK207.out 1).trans rfl;have hfz47_0:=blk_frozen BK207.out 0;have hfz47_1:=blk_frozen BK207.out 1)|((with_reducible refine gate_callee (f:=16) rfl ?_);refine goesL_ (some 69) rfl rfl Try.func16 (by kernel_rfl) rfl #[.agg #[.slice Ao43 t232.length co43,.slice Ao45 t235.length co45],.int .i64 1] rfl (by (try simp only [List.map_toArray,List.map_cons,List.map_nil]);first|done|rfl|(simp only [List.length_drop,List.length_take];rfl)) ?_;(with_reducible refine (device_Read.calls kj4 (fun k_=>(((((((nb k_ (.slice Ao24 t200.length co24)∧(nb k_ (.slice Ao28 t208.length co28)∧(nb k_ (.slice Ao33 y215.length co33)∧(nb k_ (.slice Ao35 t218.length co35)∧nb k_ (.slice Ao39 t225.length co39)))))∧nb k_ (.slice Ao26 t203.length co26))∧nb k_ (.slice Ao30 t211.length co30))∧nb k_ (.slice Ao37 t221.length co37))∧nb k_ (.slice Ao41 t228.length co41))∧nb k_ (.slice Ao45 t235.length co45))∧k_≠gb207)) _ _ t232 (fun k_=>(((((((nb k_ (.slice Ao26 t203.length co26)∧(nb k_ (.slice Ao30 t211.length co30)∧(nb k_ (.slice Ao33 y215.length co33)∧(nb k_ (.slice Ao37 t221.length co37)∧nb k_ (.slice Ao41 t228.length co41)))))∧nb k_ (.slice Ao24 t200.length co24))∧nb k_ (.slice Ao28 t208.length co28))∧nb k_ (.slice Ao35 t218.length co35))∧nb k_ (.slice Ao39 t225.length co39))∧nb k_ (.slice Ao43 t232.length co43))∧k_≠gb207)) _ _ t235 1 t239 t242 _ ?side1 ?side2 A15.out).mono ?_);(case side1=>exact Kd.S_V (Kd.S_types (Kd.S_apart' (Kd.S_apart' (Kd.S_apart' (Kd.S_apart' (Kd.S_apart' (HO234.out) (Kd.S_typed HO205.out) (by decide)) (Kd.S_typed HO213.out) (by decide)) (Kd.S_typed HO223.out) (by decide)) (Kd.S_typed HO230.out) (by decide)) (Kd.S_typed HO237.out) (by decide)) BK207.out (by decide)));(case side2=>exact Kd.S_V (Kd.S_types (Kd.S_apart' (Kd.S_apart' (Kd.S_apart' (Kd.S_apart' (Kd.S_apart' (HO237.out) (Kd.S_typed HO202.out) (by decide)) (Kd.S_typed HO210.out) (by decide)) (Kd.S_typed HO220.out) (by decide)) (Kd.S_typed HO227.out) (by decide)) (Kd.S_typed HO234.out) (by decide)) BK207.out (by decide)));rintro e w48 ⟨v240,rfl,ho0,hb⟩;refine ⟨_,rfl,?_⟩;have n0_:=A_ (Kd.S_elder' (by (with_reducible repeat (first|apply Kd.S_alloc|apply Kd.S_drewN|apply Kd.S_drew));exact HO202.out) (rs ho0) hb);have n1_:=A_ (Kd.S_elder' (by (with_reducible repeat (first|apply Kd.S_alloc|apply Kd.S_drewN|apply Kd.S_drew));exact HO205.out) (rs ho0) hb);have n2_:=A_ (Kd.S_elder' (by (with_reducible repeat (first|apply Kd.S_alloc|apply Kd.S_drewN|apply Kd.S_drew));exact HO210.out) (rs ho0) hb);have n3_:=A_ (Kd.S_elder' (by (with_reducible repeat (first|apply Kd.S_alloc|apply Kd.S_drewN|apply Kd.S_drew));exact HO213.out) (rs ho0) hb);have n4_:=A_ (re (by (with_reducible repeat (first|apply ra|apply rb|apply rc));exact HO217.out) (rs ho0) hb);have n5_:=A_ (Kd.S_elder' (by (with_reducible repeat (first|apply Kd.S_alloc|apply Kd.S_drewN|apply Kd.S_drew));exact HO220.out) (rs ho0) hb);have n6_:=A_ (Kd.S_elder' (by (with_reducible repeat (first|apply Kd.S_alloc|apply Kd.S_drewN|apply Kd.S_drew));exact HO223.out) (rs ho0) hb);have n7_:=A_ (Kd.S_elder' (by (with_reducible repeat (first|apply Kd.S_alloc|apply Kd.S_drewN|apply Kd.S_drew));exact HO227.out) (rs ho0) hb);have n8_:=A_ (Kd.S_elder' (by (with_reducible repeat (first|apply Kd.S_alloc|apply Kd.S_drewN|apply Kd.S_drew));exact HO230.out) (rs ho0) hb);have n9_:=A_ (Kd.S_elder' (by (with_reducible repeat (first|apply Kd.S_alloc|apply Kd.S_drewN|apply Kd.S_drew));exact HO234.out) (rs ho0) hb);have n10_:=A_ (Kd.S_elder' (by (with_reducible repeat (first|apply Kd.S_alloc|apply Kd.S_drewN|apply Kd.S_drew));exact HO237.out) (rs ho0) hb);have n11_:=A_ (Kd.R_lower (rn (rm (ok':=fun k_=>True) ho0 (fun _ hk_=>trivial)) (rl (by (with_reducible repeat (first|apply ra|apply rb|apply rc));exact HO217.out))) (below_size (by repeat (first|(with_reducible first|exact HB.out|apply ba|apply bb|apply bc|refine below_set ?_ GE207.out)|exact HB.out))));have n12_:=A_ (blk_below (g:=gb207) (o:=.cells #[.slice Ao43 t232.length co43,.slice Ao45 t235.length co45] 25 (0,0)) (by (with_reducible repeat (first|refine blk_drewN ?_ _|refine blk_drew ?_|refine blk_alloc ?_ _));exact BK207.out) hb);have n13_:=A_ (below_step (by repeat (first|(with_reducible first|exact HB.out|apply ba|apply bb|apply bc|refine below_set ?_ GE207.out)|exact HB.out)) hb);clear HO202;clear HO205;clear HO210;clear HO213;clear HO217;clear HO220;clear HO223;clear HO227;clear HO230;clear HO234;clear HO237;clear BK207;clear HB;have HO202:=n0_;have HO205:=n1_;have HO210:=n2_;have HO213:=n3_;have HO217:=n4_;have HO220:=n5_;have HO223:=n6_;have HO227:=n7_;have HO230:=n8_;have HO234:=n9_;have HO237:=n10_;have HO241:=n11_;have BK207:=n12_;have HB:=n13_;clear n0_ n1_ n2_ n3_ n4_ n5_ n6_ n7_ n8_ n9_ n10_ n11_ n12_ n13_;(try clear hb);(try clear hb2);(try clear hk);(try clear hi);(try clear ho0);have hcz49_0 : w48.cell? ⟨gb207,0,none⟩ = some (.slice Ao43 t232.length co43):=(blk_cell BK207.out 0).trans rfl;have hcz49_1 : w48.cell? ⟨gb207,1,none⟩ = some (.slice Ao45 t235.length co45):=(blk_cell BK207.out 1).trans rfl;have hfz49_0:=blk_frozen BK207.out 0;have hfz49_1:=blk_frozen BK207.out 1)|((with_reducible refine gate_dst (N:=76) rfl ?_);(try (refine gate_guard (by rfl) ?_;dsimp only));refine Kd.R_lit (Kd.int .i64) _ 3 ?hg (N:=76) ?hd (xs:=([wrap64 (a2)] : List Int)) (inner:=[.int .i64 (wrap64 (a2))]) (ok:=fun _=>True) (okp:=fun _=>True) ?hr ?hp (fun _ hk=>hk) trivial (Below.refl _ _) (Nat.le_refl _) (by simp) ?_;(case hd=>rfl);(case hg=>rfl);(case hr=>first|(go_simp;done)|(go_simp;rfl));(case hp=>exact (Reps.one (show Kd.M (Kd.int .i64) _ _ _ (wrap64 (a2)) [.int .i64 (wrap64 (a2))] from rfl) (Reps.none _ _)));intro v244 w50 ho51 hb hg_ hnew_;clear hg_ hnew_;(first|rw [← Ny243.out] at ho51|(simp only [Int.reduceToNat] at ho51;rw [← Ny243.out] at ho51));have n0_:=A_ (Kd.S_below (by (with_reducible repeat (first|apply Kd.S_alloc|apply Kd.S_drewN|apply Kd.S_drew));exact HO202.out) hb);have n1_:=A_ (Kd.S_below (by (with_reducible repeat (first|apply Kd.S_alloc|apply Kd.S_drewN|apply Kd.S_drew));exact HO205.out) hb);have n2_:=A_ (Kd.S_below (by (with_reducible repeat (first|apply Kd.S_alloc|apply Kd.S_drewN|apply Kd.S_drew));exact HO210.out) hb);have n3_:=A_ (Kd.S_below (by (with_reducible repeat (first|apply Kd.S_alloc|apply Kd.S_drewN|apply Kd.S_drew));exact HO213.out) hb);have n4_:=A_ (rw_ (by (with_reducible repeat (first|apply ra|apply rb|apply rc));exact HO217.out) hb);have n5_:=A_ (Kd.S_below (by (with_reducible repeat (first|apply Kd.S_alloc|apply Kd.S_drewN|apply Kd.S_drew));exact HO220.out) hb);have n6_:=A_ (Kd.S_below (by (with_reducible repeat (first|apply Kd.S_alloc|apply Kd.S_drewN|apply Kd.S_drew));exact HO223.out) hb);have n7_:=A_ (Kd.S_below (by (with_reducible repeat (first|apply Kd.S_alloc|apply Kd.S_drewN|apply Kd.S_drew));exact HO227.out) hb);have n8_:=A_ (Kd.S_below (by (with_reducible repeat (first|apply Kd.S_alloc|apply Kd.S_drewN|apply Kd.S_drew));exact HO230.out) hb);have n9_:=A_ (Kd.S_below (by (with_reducible repeat (first|apply Kd.S_alloc|apply Kd.S_drewN|apply Kd.S_drew));exact HO234.out) hb);have n10_:=A_ (Kd.S_below (by (with_reducible repeat (first|apply Kd.S_alloc|apply Kd.S_drewN|apply Kd.S_drew));exact HO237.out) hb);have n11_:=A_ (rw_ (by (with_reducible repeat (first|apply ra|apply rb|apply rc));exact HO241.out) hb);have n12_:=A_ (Kd.R_lower ho51 (below_size (by repeat (first|(with_reducible first|exact HB.out|apply ba|apply bb|apply bc|refine below_set ?_ GE207.out)|exact HB.out))));have n13_:=A_ (blk_below (g:=gb207) (o:=.cells #[.slice Ao43 t232.length co43,.slice Ao45 t235.length co45] 25 (0,0)) (by (with_reducible repeat (first|refine blk_drewN ?_ _|refine blk_drew ?_|refine blk_alloc ?_ _));exact BK207.out) hb);have n14_:=A_ (below_step (by repeat (first|(with_reducible first|exact HB.out|apply ba|apply bb|apply bc|refine below_set ?_ GE207.out)|exact HB.out)) hb);clear HO202;clear HO205;clear HO210;clear HO213;clear HO217;clear HO220;clear HO223;clear HO227;clear HO230;clear HO234;clear HO237;clear HO241;clear BK207;clear HB;have HO202:=n0_;have HO205:=n1_;have HO210:=n2_;have HO213:=n3_;have HO217:=n4_;have HO220:=n5_;have HO223:=n6_;have HO227:=n7_;have HO230:=n8_;have HO234:=n9_;have HO237:=n10_;have HO241:=n11_;have HO245:=n12_;have BK207:=n13_;have HB:=n14_;clear n0_ n1_ n2_ n3_ n4_ n5_ n6_ n7_ n8_ n9_ n10_ n11_ n12_ n13_ n14_;clear hb ho51;obtain ⟨Ao52,co52,eo52⟩:=Kd.R_slice HO245.out;subst eo52)|((with_reducible refine gate_callee (f:=17) rfl ?_);refine goesL_ (some 77) rfl rfl Try.func17 (by kernel_rfl) rfl #[.agg #[.slice Ao43 t232.length co43,.slice Ao45 t235.length co45],.slice Ao52 y243.length co52] rfl (by (try simp only [List.map_toArray,List.map_cons,List.map_nil]);first|done|rfl|(simp only [List.length_drop,List.length_take];rfl)) ?_;(with_reducible refine (device_Crash.calls kj4 _ _ t232 _ _ t235 _ _ y243 t246 t249 t252 _ ?side1 ?side2 ?side3 ?side4 ?side5 ?side6 A16.out).mono ?_);(case side1=>repeat (first|exact (Kd.S_reads' HO234.out).2.2|(with_reducible refine ca ?_ _)|(with_reducible refine cb ?_ _)|(with_reducible refine cc ?_)));(case side2=>exact (Kd.S_reads' HO234.out).2.1);(case side3=>repeat (first|exact (Kd.S_reads' HO237.out).2.2|(with_reducible refine ca ?_ _)|(with_reducible refine cb ?_ _)|(with_reducible refine cc ?_)));(case side4=>exact (Kd.S_reads' HO237.out).2.1);(case side5=>repeat (first|exact (rd_ HO245.out).2.2|(with_reducible refine ca ?_ _)|(with_reducible refine cb ?_ _)|(with_reducible refine cc ?_)));(case side6=>exact (rd_ HO245.out).2.1);rintro e w53 ⟨v247,v250,rfl,ho0,ho1,hb⟩;refine ⟨_,rfl,?_⟩;have n0_:=A_ (Kd.S_elder' (by (with_reducible repeat (first|apply Kd.S_alloc|apply Kd.S_drewN|apply Kd.S_drew));exact HO202.out) (Kd.S_base ho0) hb);have n1_:=A_ (Kd.S_elder' (by (with_reducible repeat (first|apply Kd.S_alloc|apply Kd.S_drewN|apply Kd.S_drew));exact HO205.out) (Kd.S_base ho1) hb);have n2_:=A_ (Kd.S_elder' (by (with_reducible repeat (first|apply Kd.S_alloc|apply Kd.S_drewN|apply Kd.S_drew));exact HO210.out) (Kd.S_base ho0) hb);have n3_:=A_ (Kd.S_elder' (by (with_reducible repeat (first|apply Kd.S_alloc|apply Kd.S_drewN|apply Kd.S_drew));exact HO213.out) (Kd.S_base ho1) hb);have n4_:=A_ (rw_ (by (with_reducible repeat (first|apply ra|apply rb|apply rc));exact HO217.out) hb);have n5_:=A_ (Kd.S_elder' (by (with_reducible repeat (first|apply Kd.S_alloc|apply Kd.S_drewN|apply Kd.S_drew));exact HO220.out) (Kd.S_base ho0) hb);have n6_:=A_ (Kd.S_elder' (by (with_reducible repeat (first|apply Kd.S_alloc|apply Kd.S_drewN|apply Kd.S_drew));exact HO223.out) (Kd.S_base ho1) hb);have n7_:=A_ (Kd.S_elder' (by (with_reducible repeat (first|apply Kd.S_alloc|apply Kd.S_drewN|apply Kd.S_drew));exact HO227.out) (Kd.S_base ho0) hb);have n8_:=A_ (Kd.S_elder' (by (with_reducible repeat (first|apply Kd.S_alloc|apply Kd.S_drewN|apply Kd.S_drew));exact HO230.out) (Kd.S_base ho1) hb);have n9_:=A_ (Kd.S_elder' (by (with_reducible repeat (first|apply Kd.S_alloc|apply Kd.S_drewN|apply Kd.S_drew));exact HO234.out) (Kd.S_base ho0) hb);have n10_:=A_ (Kd.S_elder' (by (with_reducible repeat (first|apply Kd.S_alloc|apply Kd.S_drewN|apply Kd.S_drew));exact HO237.out) (Kd.S_base ho1) hb);have n11_:=A_ (rw_ (by (with_reducible repeat (first|apply ra|apply rb|apply rc));exact HO241.out) hb);have n12_:=A_ (rw_ (by (with_reducible repeat (first|apply ra|apply rb|apply rc));exact HO245.out) hb);have n13_:=A_ (Kd.S_lower (Kd.S_new' (Kd.S_new' (Kd.S_new' (Kd.S_new' (Kd.S_new' (Kd.S_new' (Kd.S_new' ho0 (Kd.S_lt (by (with_reducible repeat (first|apply Kd.S_alloc|apply Kd.S_drewN|apply Kd.S_drew));exact HO202.out))) (Kd.S_lt (by (with_reducible repeat (first|apply Kd.S_alloc|apply Kd.S_drewN|apply Kd.S_drew));exact HO210.out))) (rl (by (with_reducible repeat (first|apply ra|apply rb|apply rc));exact HO217.out))) (Kd.S_lt (by (with_reducible repeat (first|apply Kd.S_alloc|apply Kd.S_drewN|apply Kd.S_drew));exact HO220.out))) (Kd.S_lt (by (with_reducible repeat (first|apply Kd.S_alloc|apply Kd.S_drewN|apply Kd.S_drew));exact HO227.out))) (Kd.S_lt (by (with_reducible repeat (first|apply Kd.S_alloc|apply Kd.S_drewN|apply Kd.S_drew));exact HO234.out))) (rl (by (with_reducible repeat (first|apply ra|apply rb|apply rc));exact HO241.out))) (below_size (by repeat (first|(with_reducible first|exact HB.out|apply ba|apply bb|apply bc|refine below_set ?_ GE207.out)|exact HB.out))));have n14_:=A_ (Kd.S_lower (Kd.S_new' (Kd.S_new' (Kd.S_new' (Kd.S_new' (Kd.S_new' (Kd.S_new' (Kd.S_new' ho1 (Kd.S_lt (by (with_reducible repeat (first|apply Kd.S_alloc|apply Kd.S_drewN|apply Kd.S_drew));exact HO205.out))) (Kd.S_lt (by (with_reducible repeat (first|apply Kd.S_alloc|apply Kd.S_drewN|apply Kd.S_drew));exact HO213.out))) (rl (by (with_reducible repeat (first|apply ra|apply rb|apply rc));exact HO217.out))) (Kd.S_lt (by (with_reducible repeat (first|apply Kd.S_alloc|apply Kd.S_drewN|apply Kd.S_drew));exact HO223.out))) (Kd.S_lt (by (with_reducible repeat (first|apply Kd.S_alloc|apply Kd.S_drewN|apply Kd.S_drew));exact HO230.out))) (Kd.S_lt (by (with_reducible repeat (first|apply Kd.S_alloc|apply Kd.S_drewN|apply Kd.S_drew));exact HO237.out))) (rl (by (with_reducible repeat (first|apply ra|apply rb|apply rc));exact HO241.out))) (below_size (by repeat (first|(with_reducible first|exact HB.out|apply ba|apply bb|apply bc|refine below_set ?_ GE207.out)|exact HB.out))));have n15_:=A_ (blk_below (g:=gb207) (o:=.cells #[.slice Ao43 t232.length co43,.slice Ao45 t235.length co45] 25 (0,0)) (by (with_reducible repeat (first|refine blk_drewN ?_ _|refine blk_drew ?_|refine blk_alloc ?_ _));exact BK207.out) hb);have n16_:=A_ (below_step (by repeat (first|(with_reducible first|exact HB.out|apply ba|apply bb|apply bc|refine below_set ?_ GE207.out)|exact HB.out)) hb);clear HO202;clear HO205;clear HO210;clear HO213;clear HO217;clear HO220;clear HO223;clear HO227;clear HO230;clear HO234;clear HO237;clear HO241;clear HO245;clear BK207;clear HB;have HO202:=n0_;have HO205:=n1_;have HO210:=n2_;have HO213:=n3_;have HO217:=n4_;have HO220:=n5_;have HO223:=n6_;have HO227:=n7_;have HO230:=n8_;have HO234:=n9_;have HO237:=n10_;have HO241:=n11_;have HO245:=n12_;have HO248:=n13_;have HO251:=n14_;have BK207:=n15_;have HB:=n16_;clear n0_ n1_ n2_ n3_ n4_ n5_ n6_ n7_ n8_ n9_ n10_ n11_ n12_ n13_ n14_ n15_ n16_;(try clear hb);(try clear hb2);(try clear hk);(try clear hi);(try clear ho0);(try clear ho1))|((with_reducible refine gate_dst (N:=17) rfl ?_);(try (refine gate_guard (by rfl) ?_;dsimp only));refine box_event ?hg (N:=17) ?hd (cs:=#[.slice none 0 0,.slice none 0 0]) (t:=25) ?hr ?_;(case hd=>rfl);(case hg=>rfl);(case hr=>first|(go_simp;done)|(go_simp;rfl));intro gb253 hg w54 hbox hb;have n0_:=A_ (Kd.S_below (by (with_reducible repeat (first|apply Kd.S_alloc|apply Kd.S_drewN|apply Kd.S_drew));exact HO202.out) hb);have n1_:=A_ (Kd.S_below (by (with_reducible repeat (first|apply Kd.S_alloc|apply Kd.S_drewN|apply Kd.S_drew));exact HO205.out) hb);have n2_:=A_ (Kd.S_below (by (with_reducible repeat (first|apply Kd.S_alloc|apply Kd.S_drewN|apply Kd.S_drew));exact HO210.out) hb);have n3_:=A_ (Kd.S_below (by (with_reducible repeat (first|apply Kd.S_alloc|apply Kd.S_drewN|apply Kd.S_drew));exact HO213.out) hb);have n4_:=A_ (rw_ (by (with_reducible repeat (first|apply ra|apply rb|apply rc));exact HO217.out) hb);have n5_:=A_ (Kd.S_below (by (with_reducible repeat (first|apply Kd.S_alloc|apply Kd.S_drewN|apply Kd.S_drew));exact HO220.out) hb);have n6_:=A_ (Kd.S_below (by (with_reducible repeat (first|apply Kd.S_alloc|apply Kd.S_drewN|apply Kd.S_drew));exact HO223.out) hb);have n7_:=A_ (Kd.S_below (by (with_reducible repeat (first|apply Kd.S_alloc|apply Kd.S_drewN|apply Kd.S_drew));exact HO227.out) hb);have n8_:=A_ (Kd.S_below (by (with_reducible repeat (first|apply Kd.S_alloc|apply Kd.S_drewN|apply Kd.S_drew));exact HO230.out) hb);have n9_:=A_ (Kd.S_below (by (with_reducible repeat (first|apply Kd.S_alloc|apply Kd.S_drewN|apply Kd.S_drew));exact HO234.out) hb);have n10_:=A_ (Kd.S_below (by (with_reducible repeat (first|apply Kd.S_alloc|apply Kd.S_drewN|apply Kd.S_drew));exact HO237.out) hb);have n11_:=A_ (rw_ (by (with_reducible repeat (first|apply ra|apply rb|apply rc));exact HO241.out) hb);have n12_:=A_ (rw_ (by (with_reducible repeat (first|apply ra|apply rb|apply rc));exact HO245.out) hb);have n13_:=A_ (Kd.S_below (by (with_reducible repeat (first|apply Kd.S_alloc|apply Kd.S_drewN|apply Kd.S_drew));exact HO248.out) hb);have n14_:=A_ (Kd.S_below (by (with_reducible repeat (first|apply Kd.S_alloc|apply Kd.S_drewN|apply Kd.S_drew));exact HO251.out) hb);have n15_:=A_ (blk_below (g:=gb207) (o:=.cells #[.slice Ao43 t232.length co43,.slice Ao45 t235.length co45] 25 (0,0)) (by (with_reducible repeat (first|refine blk_drewN ?_ _|refine blk_drew ?_|refine blk_alloc ?_ _));exact BK207.out) hb);have n16_:=A_ (below_step (by repeat (first|(with_reducible first|exact HB.out|apply ba|apply bb|apply bc|refine below_set ?_ GE207.out)|exact HB.out)) hb);have n17_:=A_ (hbox);have n18_:=A_ ((by rw [hg];exact (below_size (by repeat (first|(with_reducible first|exact HB.out|apply ba|apply bb|apply bc|refine below_set ?_ GE207.out)|exact HB.out))) : w.heap.size ≤ gb253));have n19_:=A_ ((by rw [hg];exact (below_size (by repeat (first|(with_reducible first|exact HB.out|apply ba|apply bb|apply bc|refine below_set ?_ GE207.out)|exact HB.out))) : w.heap.size ≤ gb253));have n20_:=A_ ((by rw [hg];exact Nat.ne_of_lt (blk_lt (g:=gb207) (o:=.cells #[.slice Ao43 t232.length co43,.slice Ao45 t235.length co45] 25 (0,0)) (by (with_reducible repeat (first|refine blk_drewN ?_ _|refine blk_drew ?_|refine blk_alloc ?_ _));exact BK207.out)) : gb207≠gb253));have n21_:=A_ ((by rw [hg];exact Nat.ne_of_gt (blk_lt (g:=gb207) (o:=.cells #[.slice Ao43 t232.length co43,.slice Ao45 t235.length co45] 25 (0,0)) (by (with_reducible repeat (first|refine blk_drewN ?_ _|refine blk_drew ?_|refine blk_alloc ?_ _));exact BK207.out)) : gb253≠gb207));clear HO202;clear HO205;clear HO210;clear HO213;clear HO217;clear HO220;clear HO223;clear HO227;clear HO230;clear HO234;clear HO237;clear HO241;clear HO245;clear HO248;clear HO251;clear BK207;clear HB;have HO202:=n0_;have HO205:=n1_;have HO210:=n2_;have HO213:=n3_;have HO217:=n4_;have HO220:=n5_;have HO223:=n6_;have HO227:=n7_;have HO230:=n8_;have HO234:=n9_;have HO237:=n10_;have HO241:=n11_;have HO245:=n12_;have HO248:=n13_;have HO251:=n14_;have BK207:=n15_;have HB:=n16_;have BK253:=n17_;have GW253:=n18_;have GE253:=n19_;have NB207_253:=n20_;have NB253_207:=n21_;clear n0_ n1_ n2_ n3_ n4_ n5_ n6_ n7_ n8_ n9_ n10_ n11_ n12_ n13_ n14_ n15_ n16_ n17_ n18_ n19_ n20_ n21_;clear hb hbox hg;obtain ⟨Ao55,co55,eo55⟩:=Kd.S_slice HO248.out;subst eo55;have hnb56:=NB253_207.out;have hnc56:=NB207_253.out;have hcz57_0 : w54.cell? ⟨gb253,0,none⟩ = some (.slice none 0 0):=(blk_cell BK253.out 0).trans rfl;have hcz57_1 : w54.cell? ⟨gb253,1,none⟩ = some (.slice none 0 0):=(blk_cell BK253.out 1).trans rfl;have hfz57_0:=blk_frozen BK253.out 0;have hfz57_1:=blk_frozen BK253.out 1;obtain ⟨Ao58,co58,eo58⟩:=Kd.S_slice HO251.out;subst eo58;have hcz59_0 : w54.cell? ⟨gb207,0,none⟩ = some (.slice Ao43 t232.length co43):=(blk_cell BK207.out 0).trans rfl;have hcz59_1 : w54.cell? ⟨gb207,1,none⟩ = some (.slice Ao45 t235.length co45):=(blk_cell BK207.out 1).trans rfl;have hfz59_0:=blk_frozen BK207.out 0;have hfz59_1:=blk_frozen BK207.out 1)|((with_reducible refine gate_dst (N:=82) rfl ?_);(try (refine gate_guard (by rfl) ?_;dsimp only));refine Kd.R_lit (Kd.int .i64) _ 3 ?hg (N:=82) ?hd (xs:=([64] : List Int)) (inner:=[.int .i64 64]) (ok:=fun _=>True) (okp:=fun _=>True) ?hr ?hp (fun _ hk=>hk) trivial (Below.refl _ _) (Nat.le_refl _) (by simp) ?_;(case hd=>rfl);(case hg=>rfl);(case hr=>first|(go_simp;done)|(go_simp;rfl));(case hp=>exact (Reps.one (show Kd.M (Kd.int .i64) _ _ _ 64 [.int .i64 64] from rfl) (Reps.none _ _)));intro v255 w60 ho61 hb hg_ hnew_;clear hg_ hnew_;(first|rw [← Ny254.out] at ho61|(simp only [Int.reduceToNat] at ho61;rw [← Ny254.out] at ho61));have n0_:=A_ (Kd.S_below (by (with_reducible repeat (first|apply Kd.S_alloc|apply Kd.S_drewN|apply Kd.S_drew));exact (Kd.S_mono (Kd.S_far (p:=⟨gb253,1,none⟩) (Kd.S_far (p:=⟨gb253,0,none⟩) (Kd.S_types HO202.out BK253.out (by decide)) (fun _ hk=>hk.2) (.slice Ao55 t246.length co55)) (fun _ hk=>hk.2) (.slice Ao58 t249.length co58)) (fun _ h_=>h_.1))) hb);have n1_:=A_ (Kd.S_below (by (with_reducible repeat (first|apply Kd.S_alloc|apply Kd.S_drewN|apply Kd.S_drew));exact (Kd.S_mono (Kd.S_far (p:=⟨gb253,1,none⟩) (Kd.S_far (p:=⟨gb253,0,none⟩) (Kd.S_types HO205.out BK253.out (by decide)) (fun _ hk=>hk.2) (.slice Ao55 t246.length co55)) (fun _ hk=>hk.2) (.slice Ao58 t249.length co58)) (fun _ h_=>h_.1))) hb);have n2_:=A_ (Kd.S_below (by (with_reducible repeat (first|apply Kd.S_alloc|apply Kd.S_drewN|apply Kd.S_drew));exact (Kd.S_mono (Kd.S_far (p:=⟨gb253,1,none⟩) (Kd.S_far (p:=⟨gb253,0,none⟩) (Kd.S_types HO210.out BK253.out (by decide)) (fun _ hk=>hk.2) (.slice Ao55 t246.length co55)) (fun _ hk=>hk.2) (.slice Ao58 t249.length co58)) (fun _ h_=>h_.1))) hb);have n3_:=A_ (Kd.S_below (by (with_reducible repeat (first|apply Kd.S_alloc|apply Kd.S_drewN|apply Kd.S_drew));exact (Kd.S_mono (Kd.S_far (p:=⟨gb253,1,none⟩) (Kd.S_far (p:=⟨gb253,0,none⟩) (Kd.S_types HO213.out BK253.out (by decide)) (fun _ hk=>hk.2) (.slice Ao55 t246.length co55)) (fun _ hk=>hk.2) (.slice Ao58 t249.length co58)) (fun _ h_=>h_.1))) hb);have n4_:=A_ (rw_ (by (with_reducible repeat (first|apply ra|apply rb|apply rc));exact (rm (Kd.R_far (p:=⟨gb253,1,none⟩) (Kd.R_far (p:=⟨gb253,0,none⟩) (Kd.R_types HO217.out BK253.out (by decide)) (fun _ hk=>hk.2) (.slice Ao55 t246.length co55)) (fun _ hk=>hk.2) (.slice Ao58 t249.length co58)) (fun _ h_=>h_.1))) hb);have n5_:=A_ (Kd.S_below (by (with_reducible repeat (first|apply Kd.S_alloc|apply Kd.S_drewN|apply Kd.S_drew));exact (Kd.S_mono (Kd.S_far (p:=⟨gb253,1,none⟩) (Kd.S_far (p:=⟨gb253,0,none⟩) (Kd.S_types HO220.out BK253.out (by decide)) (fun _ hk=>hk.2) (.slice Ao55 t246.length co55)) (fun _ hk=>hk.2) (.slice Ao58 t249.length co58)) (fun _ h_=>h_.1))) hb);have n6_:=A_ (Kd.S_below (by (with_reducible repeat (first|apply Kd.S_alloc|apply Kd.S_drewN|apply Kd.S_drew));exact (Kd.S_mono (Kd.S_far (p:=⟨gb253,1,none⟩) (Kd.S_far (p:=⟨gb253,0,none⟩) (Kd.S_types HO223.out BK253.out (by decide)) (fun _ hk=>hk.2) (.slice Ao55 t246.length co55)) (fun _ hk=>hk.2) (.slice Ao58 t249.length co58)) (fun _ h_=>h_.1))) hb);have n7_:=A_ (Kd.S_below (by (with_reducible repeat (first|apply Kd.S_alloc|apply Kd.S_drewN|apply Kd.S_drew));exact (Kd.S_mono (Kd.S_far (p:=⟨gb253,1,none⟩) (Kd.S_far (p:=⟨gb253,0,none⟩) (Kd.S_types HO227.out BK253.out (by decide)) (fun _ hk=>hk.2) (.slice Ao55 t246.length co55)) (fun _ hk=>hk.2) (.slice Ao58 t249.length co58)) (fun _ h_=>h_.1))) hb);have n8_:=A_ (Kd.S_below (by (with_reducible repeat (first|apply Kd.S_alloc|apply Kd.S_drewN|apply Kd.S_drew));exact (Kd.S_mono (Kd.S_far (p:=⟨gb253,1,none⟩) (Kd.S_far (p:=⟨gb253,0,none⟩) (Kd.S_types HO230.out BK253.out (by decide)) (fun _ hk=>hk.2) (.slice Ao55 t246.length co55)) (fun _ hk=>hk.2) (.slice Ao58 t249.length co58)) (fun _ h_=>h_.1))) hb);have n9_:=A_ (Kd.S_below (by (with_reducible repeat (first|apply Kd.S_alloc|apply Kd.S_drewN|apply Kd.S_drew));exact (Kd.S_mono (Kd.S_far (p:=⟨gb253,1,none⟩) (Kd.S_far (p:=⟨gb253,0,none⟩) (Kd.S_types HO234.out BK253.out (by decide)) (fun _ hk=>hk.2) (.slice Ao55 t246.length co55)) (fun _ hk=>hk.2) (.slice Ao58 t249.length co58)) (fun _ h_=>h_.1))) hb);have n10_:=A_ (Kd.S_below (by (with_reducible repeat (first|apply Kd.S_alloc|apply Kd.S_drewN|apply Kd.S_drew));exact (Kd.S_mono (Kd.S_far (p:=⟨gb253,1,none⟩) (Kd.S_far (p:=⟨gb253,0,none⟩) (Kd.S_types HO237.out BK253.out (by decide)) (fun _ hk=>hk.2) (.slice Ao55 t246.length co55)) (fun _ hk=>hk.2) (.slice Ao58 t249.length co58)) (fun _ h_=>h_.1))) hb);have n11_:=A_ (rw_ (by (with_reducible repeat (first|apply ra|apply rb|apply rc));exact (rm (Kd.R_far (p:=⟨gb253,1,none⟩) (Kd.R_far (p:=⟨gb253,0,none⟩) (Kd.R_types HO241.out BK253.out (by decide)) (fun _ hk=>hk.2) (.slice Ao55 t246.length co55)) (fun _ hk=>hk.2) (.slice Ao58 t249.length co58)) (fun _ h_=>h_.1))) hb);have n12_:=A_ (re (by (with_reducible repeat (first|apply ra|apply rb|apply rc));exact (rm (Kd.R_far (p:=⟨gb253,1,none⟩) (Kd.R_far (p:=⟨gb253,0,none⟩) (Kd.R_types HO245.out BK253.out (by decide)) (fun _ hk=>hk.2) (.slice Ao55 t246.length co55)) (fun _ hk=>hk.2) (.slice Ao58 t249.length co58)) (fun _ h_=>h_.1))) (rs ho61) hb);have n13_:=A_ (Kd.S_below (by (with_reducible repeat (first|apply Kd.S_alloc|apply Kd.S_drewN|apply Kd.S_drew));exact (Kd.S_mono (Kd.S_far (p:=⟨gb253,1,none⟩) (Kd.S_far (p:=⟨gb253,0,none⟩) (Kd.S_types HO248.out BK253.out (by decide)) (fun _ hk=>hk.2) (.slice Ao55 t246.length co55)) (fun _ hk=>hk.2) (.slice Ao58 t249.length co58)) (fun _ h_=>h_.1))) hb);have n14_:=A_ (Kd.S_below (by (with_reducible repeat (first|apply Kd.S_alloc|apply Kd.S_drewN|apply Kd.S_drew));exact (Kd.S_mono (Kd.S_far (p:=⟨gb253,1,none⟩) (Kd.S_far (p:=⟨gb253,0,none⟩) (Kd.S_types HO251.out BK253.out (by decide)) (fun _ hk=>hk.2) (.slice Ao55 t246.length co55)) (fun _ hk=>hk.2) (.slice Ao58 t249.length co58)) (fun _ h_=>h_.1))) hb);have n15_:=A_ (Kd.R_lower (rn ho61 (rl (by (with_reducible repeat (first|apply ra|apply rb|apply rc));exact (rm (Kd.R_far (p:=⟨gb253,1,none⟩) (Kd.R_far (p:=⟨gb253,0,none⟩) (Kd.R_types HO245.out BK253.out (by decide)) (fun _ hk=>hk.2) (.slice Ao55 t246.length co55)) (fun _ hk=>hk.2) (.slice Ao58 t249.length co58)) (fun _ h_=>h_.1))))) (below_size (by repeat (first|(with_reducible first|exact HB.out|apply ba|apply bb|apply bc|refine below_set ?_ GE207.out|refine below_set ?_ GE253.out)|exact HB.out))));have n16_:=A_ (blk_below (g:=gb207) (o:=.cells #[.slice Ao43 t232.length co43,.slice Ao45 t235.length co45] 25 (0,0)) (by (with_reducible repeat (first|refine blk_drewN ?_ _|refine blk_drew ?_|refine blk_alloc ?_ _));refine blk_far ?_ NB207_253.out _;(with_reducible repeat (first|refine blk_drewN ?_ _|refine blk_drew ?_|refine blk_alloc ?_ _));refine blk_far ?_ NB207_253.out _;(with_reducible repeat (first|refine blk_drewN ?_ _|refine blk_drew ?_|refine blk_alloc ?_ _));exact BK207.out) hb);have n17_:=A_ (blk_below (g:=gb253) (o:=.cells #[.slice Ao55 t246.length co55,.slice Ao58 t249.length co58] 25 (0,0)) (by (with_reducible repeat (first|refine blk_drewN ?_ _|refine blk_drew ?_|refine blk_alloc ?_ _));refine blk_put (cs:=#[.slice Ao55 t246.length co55,.slice none 0 0]) ?_ 1 _ rfl;(with_reducible repeat (first|refine blk_drewN ?_ _|refine blk_drew ?_|refine blk_alloc ?_ _));refine blk_put (cs:=#[.slice none 0 0,.slice none 0 0]) ?_ 0 _ rfl;(with_reducible repeat (first|refine blk_drewN ?_ _|refine blk_drew ?_|refine blk_alloc ?_ _));exact BK253.out) hb);have n18_:=A_ (below_step (by repeat (first|(with_reducible first|exact HB.out|apply ba|apply bb|apply bc|refine below_set ?_ GE207.out|refine below_set ?_ GE253.out)|exact HB.out)) hb);clear HO202;clear HO205;clear HO210;clear HO213;clear HO217;clear HO220;clear HO223;clear HO227;clear HO230;clear HO234;clear HO237;clear HO241;clear HO245;clear HO248;clear HO251;clear BK207;clear BK253;clear HB;have HO202:=n0_;have HO205:=n1_;have HO210:=n2_;have HO213:=n3_;have HO217:=n4_;have HO220:=n5_;have HO223:=n6_;have HO227:=n7_;have HO230:=n8_;have HO234:=n9_;have HO237:=n10_;have HO241:=n11_;have HO245:=n12_;have HO248:=n13_;have HO251:=n14_;have HO256:=n15_;have BK207:=n16_;have BK253:=n17_;have HB:=n18_;clear n0_ n1_ n2_ n3_ n4_ n5_ n6_ n7_ n8_ n9_ n10_ n11_ n12_ n13_ n14_ n15_ n16_ n17_ n18_;clear hb ho61;obtain ⟨Ao62,co62,eo62⟩:=Kd.R_slice HO256.out;subst eo62)|((with_reducible refine gate_callee (f:=17) rfl ?_);refine goesL_ (some 83) rfl rfl Try.func17 (by kernel_rfl) rfl #[.agg #[.slice Ao43 t232.length co43,.slice Ao45 t235.length co45],.slice Ao62 y254.length co62] rfl (by (try simp only [List.map_toArray,List.map_cons,List.map_nil]);first|done|rfl|(simp only [List.length_drop,List.length_take];rfl)) ?_;(with_reducible refine (device_Crash.calls kj4 _ _ t232 _ _ t235 _ _ y254 t257 t260 t263 _ ?side1 ?side2 ?side3 ?side4 ?side5 ?side6 A17.out).mono ?_);(case side1=>repeat (first|exact (Kd.S_reads' HO234.out).2.2|(with_reducible refine ca ?_ _)|(with_reducible refine cb ?_ _)|(with_reducible refine cc ?_)));(case side2=>exact (Kd.S_reads' HO234.out).2.1);(case side3=>repeat (first|exact (Kd.S_reads' HO237.out).2.2|(with_reducible refine ca ?_ _)|(with_reducible refine cb ?_ _)|(with_reducible refine cc ?_)));(case side4=>exact (Kd.S_reads' HO237.out).2.1);(case side5=>repeat (first|exact (rd_ HO256.out).2.2|(with_reducible refine ca ?_ _)|(with_reducible refine cb ?_ _)|(with_reducible refine cc ?_)));(case side6=>exact (rd_ HO256.out).2.1);rintro e w63 ⟨v258,v261,rfl,ho0,ho1,hb⟩;refine ⟨_,rfl,?_⟩;have n0_:=A_ (Kd.S_elder' (by (with_reducible repeat (first|apply Kd.S_alloc|apply Kd.S_drewN|apply Kd.S_drew));exact HO202.out) (Kd.S_base ho0) hb);have n1_:=A_ (Kd.S_elder' (by (with_reducible repeat (first|apply Kd.S_alloc|apply Kd.S_drewN|apply Kd.S_drew));exact HO205.out) (Kd.S_base ho1) hb);have n2_:=A_ (Kd.S_elder' (by (with_reducible repeat (first|apply Kd.S_alloc|apply Kd.S_drewN|apply Kd.S_drew));exact HO210.out) (Kd.S_base ho0) hb);have n3_:=A_ (Kd.S_elder' (by (with_reducible repeat (first|apply Kd.S_alloc|apply Kd.S_drewN|apply Kd.S_drew));exact HO213.out) (Kd.S_base ho1) hb);have n4_:=A_ (rw_ (by (with_reducible repeat (first|apply ra|apply rb|apply rc));exact HO217.out) hb);have n5_:=A_ (Kd.S_elder' (by (with_reducible repeat (first|apply Kd.S_alloc|apply Kd.S_drewN|apply Kd.S_drew));exact HO220.out) (Kd.S_base ho0) hb);have n6_:=A_ (Kd.S_elder' (by (with_reducible repeat (first|apply Kd.S_alloc|apply Kd.S_drewN|apply Kd.S_drew));exact HO223.out) (Kd.S_base ho1) hb);have n7_:=A_ (Kd.S_elder' (by (with_reducible repeat (first|apply Kd.S_alloc|apply Kd.S_drewN|apply Kd.S_drew));exact HO227.out) (Kd.S_base ho0) hb);have n8_:=A_ (Kd.S_elder' (by (with_reducible repeat (first|apply Kd.S_alloc|apply Kd.S_drewN|apply Kd.S_drew));exact HO230.out) (Kd.S_base ho1) hb);have n9_:=A_ (Kd.S_elder' (by (with_reducible repeat (first|apply Kd.S_alloc|apply Kd.S_drewN|apply Kd.S_drew));exact HO234.out) (Kd.S_base ho0) hb);have n10_:=A_ (Kd.S_elder' (by (with_reducible repeat (first|apply Kd.S_alloc|apply Kd.S_drewN|apply Kd.S_drew));exact HO237.out) (Kd.S_base ho1) hb);have n11_:=A_ (rw_ (by (with_reducible repeat (first|apply ra|apply rb|apply rc));exact HO241.out) hb);have n12_:=A_ (rw_ (by (with_reducible repeat (first|apply ra|apply rb|apply rc));exact HO245.out) hb);have n13_:=A_ (Kd.S_elder' (by (with_reducible repeat (first|apply Kd.S_alloc|apply Kd.S_drewN|apply Kd.S_drew));exact HO248.out) (Kd.S_base ho0) hb);have n14_:=A_ (Kd.S_elder' (by (with_reducible repeat (first|apply Kd.S_alloc|apply Kd.S_drewN|apply Kd.S_drew));exact HO251.out) (Kd.S_base ho1) hb);have n15_:=A_ (rw_ (by (with_reducible repeat (first|apply ra|apply rb|apply rc));exact HO256.out) hb);have n16_:=A_ (Kd.S_lower (Kd.S_new' (Kd.S_new' (Kd.S_new' (Kd.S_new' (Kd.S_new' (Kd.S_new' (Kd.S_new' (Kd.S_new' ho0 (Kd.S_lt (by (with_reducible repeat (first|apply Kd.S_alloc|apply Kd.S_drewN|apply Kd.S_drew));exact HO202.out))) (Kd.S_lt (by (with_reducible repeat (first|apply Kd.S_alloc|apply Kd.S_drewN|apply Kd.S_drew));exact HO210.out))) (rl (by (with_reducible repeat (first|apply ra|apply rb|apply rc));exact HO217.out))) (Kd.S_lt (by (with_reducible repeat (first|apply Kd.S_alloc|apply Kd.S_drewN|apply Kd.S_drew));exact HO220.out))) (Kd.S_lt (by (with_reducible repeat (first|apply Kd.S_alloc|apply Kd.S_drewN|apply Kd.S_drew));exact HO227.out))) (Kd.S_lt (by (with_reducible repeat (first|apply Kd.S_alloc|apply Kd.S_drewN|apply Kd.S_drew));exact HO234.out))) (rl (by (with_reducible repeat (first|apply ra|apply rb|apply rc));exact HO241.out))) (Kd.S_lt (by (with_reducible repeat (first|apply Kd.S_alloc|apply Kd.S_drewN|apply Kd.S_drew));exact HO248.out))) (below_size (by repeat (first|(with_reducible first|exact HB.out|apply ba|apply bb|apply bc|refine below_set ?_ GE207.out|refine below_set ?_ GE253.out)|exact HB.out))));have n17_:=A_ (Kd.S_lower (Kd.S_new' (Kd.S_new' (Kd.S_new' (Kd.S_new' (Kd.S_new' (Kd.S_new' (Kd.S_new' (Kd.S_new' ho1 (Kd.S_lt (by (with_reducible repeat (first|apply Kd.S_alloc|apply Kd.S_drewN|apply Kd.S_drew));exact HO205.out))) (Kd.S_lt (by (with_reducible repeat (first|apply Kd.S_alloc|apply Kd.S_drewN|apply Kd.S_drew));exact HO213.out))) (rl (by (with_reducible repeat (first|apply ra|apply rb|apply rc));exact HO217.out))) (Kd.S_lt (by (with_reducible repeat (first|apply Kd.S_alloc|apply Kd.S_drewN|apply Kd.S_drew));exact HO223.out))) (Kd.S_lt (by (with_reducible repeat (first|apply Kd.S_alloc|apply Kd.S_drewN|apply Kd.S_drew));exact HO230.out))) (Kd.S_lt (by (with_reducible repeat (first|apply Kd.S_alloc|apply Kd.S_drewN|apply Kd.S_drew));exact HO237.out))) (rl (by (with_reducible repeat (first|apply ra|apply rb|apply rc));exact HO241.out))) (Kd.S_lt (by (with_reducible repeat (first|apply Kd.S_alloc|apply Kd.S_drewN|apply Kd.S_drew));exact HO251.out))) (below_size (by repeat (first|(with_reducible first|exact HB.out|apply ba|apply bb|apply bc|refine below_set ?_ GE207.out|refine below_set ?_ GE253.out)|exact HB.out))));have n18_:=A_ (blk_below (g:=gb207) (o:=.cells #[.slice Ao43 t232.length co43,.slice Ao45 t235.length co45] 25 (0,0)) (by (with_reducible repeat (first|refine blk_drewN ?_ _|refine blk_drew ?_|refine blk_alloc ?_ _));exact BK207.out) hb);have n19_:=A_ (blk_below (g:=gb253) (o:=.cells #[.slice Ao55 t246.length co55,.slice Ao58 t249.length co58] 25 (0,0)) (by (with_reducible repeat (first|refine blk_drewN ?_ _|refine blk_drew ?_|refine blk_alloc ?_ _));exact BK253.out) hb);have n20_:=A_ (below_step (by repeat (first|(with_reducible first|exact HB.out|apply ba|apply bb|apply bc|refine below_set ?_ GE207.out|refine below_set ?_ GE253.out)|exact HB.out)) hb);clear HO202;clear HO205;clear HO210;clear HO213;clear HO217;clear HO220;clear HO223;clear HO227;clear HO230;clear HO234;clear HO237;clear HO241;clear HO245;clear HO248;clear HO251;clear HO256;clear BK207;clear BK253;clear HB;have HO202:=n0_;have HO205:=n1_;have HO210:=n2_;have HO213:=n3_;have HO217:=n4_;have HO220:=n5_;have HO223:=n6_;have HO227:=n7_;have HO230:=n8_;have HO234:=n9_;have HO237:=n10_;have HO241:=n11_;have HO245:=n12_;have HO248:=n13_;have HO251:=n14_;have HO256:=n15_;have HO259:=n16_;have HO262:=n17_;have BK207:=n18_;have BK253:=n19_;have HB:=n20_;clear n0_ n1_ n2_ n3_ n4_ n5_ n6_ n7_ n8_ n9_ n10_ n11_ n12_ n13_ n14_ n15_ n16_ n17_ n18_ n19_ n20_;(try clear hb);(try clear hb2);(try clear hk);(try clear hi);(try clear ho0);(try clear ho1))|((with_reducible refine gate_dst (N:=19) rfl ?_);(try (refine gate_guard (by rfl) ?_;dsimp only));refine box_event ?hg (N:=19) ?hd (cs:=#[.slice none 0 0,.slice none 0 0]) (t:=25) ?hr ?_;(case hd=>rfl);(case hg=>rfl);(case hr=>first|(go_simp;done)|(go_simp;rfl));intro gb264 hg w64 hbox hb;have n0_:=A_ (Kd.S_below (by (with_reducible repeat (first|apply Kd.S_alloc|apply Kd.S_drewN|apply Kd.S_drew));exact HO202.out) hb);have n1_:=A_ (Kd.S_below (by (with_reducible repeat (first|apply Kd.S_alloc|apply Kd.S_drewN|apply Kd.S_drew));exact HO205.out) hb);have n2_:=A_ (Kd.S_below (by (with_reducible repeat (first|apply Kd.S_alloc|apply Kd.S_drewN|apply Kd.S_drew));exact HO210.out) hb);have n3_:=A_ (Kd.S_below (by (with_reducible repeat (first|apply Kd.S_alloc|apply Kd.S_drewN|apply Kd.S_drew));exact HO213.out) hb);have n4_:=A_ (rw_ (by (with_reducible repeat (first|apply ra|apply rb|apply rc));exact HO217.out) hb);have n5_:=A_ (Kd.S_below (by (with_reducible repeat (first|apply Kd.S_alloc|apply Kd.S_drewN|apply Kd.S_drew));exact HO220.out) hb);have n6_:=A_ (Kd.S_below (by (with_reducible repeat (first|apply Kd.S_alloc|apply Kd.S_drewN|apply Kd.S_drew));exact HO223.out) hb);have n7_:=A_ (Kd.S_below (by (with_reducible repeat (first|apply Kd.S_alloc|apply Kd.S_drewN|apply Kd.S_drew));exact HO227.out) hb);have n8_:=A_ (Kd.S_below (by (with_reducible repeat (first|apply Kd.S_alloc|apply Kd.S_drewN|apply Kd.S_drew));exact HO230.out) hb);have n9_:=A_ (Kd.S_below (by (with_reducible repeat (first|apply Kd.S_alloc|apply Kd.S_drewN|apply Kd.S_drew));exact HO234.out) hb);have n10_:=A_ (Kd.S_below (by (with_reducible repeat (first|apply Kd.S_alloc|apply Kd.S_drewN|apply Kd.S_drew));exact HO237.out) hb);have n11_:=A_ (rw_ (by (with_reducible repeat (first|apply ra|apply rb|apply rc));exact HO241.out) hb);have n12_:=A_ (rw_ (by (with_reducible repeat (first|apply ra|apply rb|apply rc));exact HO245.out) hb);have n13_:=A_ (Kd.S_below (by (with_reducible repeat (first|apply Kd.S_alloc|apply Kd.S_drewN|apply Kd.S_drew));exact HO248.out) hb);have n14_:=A_ (Kd.S_below (by (with_reducible repeat (first|apply Kd.S_alloc|apply Kd.S_drewN|apply Kd.S_drew));exact HO251.out) hb);have n15_:=A_ (rw_ (by (with_reducible repeat (first|apply ra|apply rb|apply rc));exact HO256.out) hb);have n16_:=A_ (Kd.S_below (by (with_reducible repeat (first|apply Kd.S_alloc|apply Kd.S_drewN|apply Kd.S_drew));exact HO259.out) hb);have n17_:=A_ (Kd.S_below (by (with_reducible repeat (first|apply Kd.S_alloc|apply Kd.S_drewN|apply Kd.S_drew));exact HO262.out) hb);have n18_:=A_ (blk_below (g:=gb207) (o:=.cells #[.slice Ao43 t232.length co43,.slice Ao45 t235.length co45] 25 (0,0)) (by (with_reducible repeat (first|refine blk_drewN ?_ _|refine blk_drew ?_|refine blk_alloc ?_ _));exact BK207.out) hb);have n19_:=A_ (blk_below (g:=gb253) (o:=.cells #[.slice Ao55 t246.length co55,.slice Ao58 t249.length co58] 25 (0,0)) (by (with_reducible repeat (first|refine blk_drewN ?_ _|refine blk_drew ?_|refine blk_alloc ?_ _));exact BK253.out) hb);have n20_:=A_ (below_step (by repeat (first|(with_reducible first|exact HB.out|apply ba|apply bb|apply bc|refine below_set ?_ GE207.out|refine below_set ?_ GE253.out)|exact HB.out)) hb);have n21_:=A_ (hbox);have n22_:=A_ ((by rw [hg];exact (below_size (by repeat (first|(with_reducible first|exact HB.out|apply ba|apply bb|apply bc|refine below_set ?_ GE207.out|refine below_set ?_ GE253.out)|exact HB.out))) : w.heap.size ≤ gb264));have n23_:=A_ ((by rw [hg];exact (below_size (by repeat (first|(with_reducible first|exact HB.out|apply ba|apply bb|apply bc|refine below_set ?_ GE207.out|refine below_set ?_ GE253.out)|exact HB.out))) : w.heap.size ≤ gb264));have n24_:=A_ ((by rw [hg];exact Nat.ne_of_lt (blk_lt (g:=gb207) (o:=.cells #[.slice Ao43 t232.length co43,.slice Ao45 t235.length co45] 25 (0,0)) (by (with_reducible repeat (first|refine blk_drewN ?_ _|refine blk_drew ?_|refine blk_alloc ?_ _));exact BK207.out)) : gb207≠gb264));have n25_:=A_ ((by rw [hg];exact Nat.ne_of_gt (blk_lt (g:=gb207) (o:=.cells #[.slice Ao43 t232.length co43,.slice Ao45 t235.length co45] 25 (0,0)) (by (with_reducible repeat (first|refine blk_drewN ?_ _|refine blk_drew ?_|refine blk_alloc ?_ _));exact BK207.out)) : gb264≠gb207));have n26_:=A_ ((by rw [hg];exact Nat.ne_of_lt (blk_lt (g:=gb253) (o:=.cells #[.slice Ao55 t246.length co55,.slice Ao58 t249.length co58] 25 (0,0)) (by (with_reducible repeat (first|refine blk_drewN ?_ _|refine blk_drew ?_|refine blk_alloc ?_ _));exact BK253.out)) : gb253≠gb264));have n27_:=A_ ((by rw [hg];exact Nat.ne_of_gt (blk_lt (g:=gb253) (o:=.cells #[.slice Ao55 t246.length co55,.slice Ao58 t249.length co58] 25 (0,0)) (by (with_reducible repeat (first|refine blk_drewN ?_ _|refine blk_drew ?_|refine blk_alloc ?_ _));exact BK253.out)) : gb264≠gb253));clear HO202;clear HO205;clear HO210;clear HO213;clear HO217;clear HO220;clear HO223;clear HO227;clear HO230;clear HO234;clear HO237;clear HO241;clear HO245;clear HO248;clear HO251;clear HO256;clear HO259;clear HO262;clear BK207;clear BK253;clear HB;have HO202:=n0_;have HO205:=n1_;have HO210:=n2_;have HO213:=n3_;have HO217:=n4_;have HO220:=n5_;have HO223:=n6_;have HO227:=n7_;have HO230:=n8_;have HO234:=n9_;have HO237:=n10_;have HO241:=n11_;have HO245:=n12_;have HO248:=n13_;have HO251:=n14_;have HO256:=n15_;have HO259:=n16_;have HO262:=n17_;have BK207:=n18_;have BK253:=n19_;have HB:=n20_;have BK264:=n21_;have GW264:=n22_;have GE264:=n23_;have NB207_264:=n24_;have NB264_207:=n25_;have NB253_264:=n26_;have NB264_253:=n27_;clear n0_ n1_ n2_ n3_ n4_ n5_ n6_ n7_ n8_ n9_ n10_ n11_ n12_ n13_ n14_ n15_ n16_ n17_ n18_ n19_ n20_ n21_ n22_ n23_ n24_ n25_ n26_ n27_;clear hb hbox hg;obtain ⟨Ao65,co65,eo65⟩:=Kd.S_slice HO259.out;subst eo65;have hnb66:=NB264_207.out;have hnc66:=NB207_264.out;have hnb67:=NB264_253.out;have hnc67:=NB253_264.out;have hcz68_0 : w64.cell? ⟨gb264,0,none⟩ = some (.slice none 0 0):=(blk_cell BK264.out 0).trans rfl;have hcz68_1 : w64.cell? ⟨gb264,1,none⟩ = some (.slice none 0 0):=(blk_cell BK264.out 1).trans rfl;have hfz68_0:=blk_frozen BK264.out 0;have hfz68_1:=blk_frozen BK264.out 1;obtain ⟨Ao69,co69,eo69⟩:=Kd.S_slice HO262.out;subst eo69;have hcz70_0 : w64.cell? ⟨gb207,0,none⟩ = some (.slice Ao43 t232.length co43):=(blk_cell BK207.out 0).trans rfl;have hcz70_1 : w64.cell? ⟨gb207,1,none⟩ = some (.slice Ao45 t235.length co45):=(blk_cell BK207.out 1).trans rfl;have hfz70_0:=blk_frozen BK207.out 0;have hfz70_1:=blk_frozen BK207.out 1)|((with_reducible refine gate_callee (f:=15) rfl ?_);refine goesL_ (some 88) rfl rfl Try.func15 (by kernel_rfl) rfl #[.agg #[.slice Ao43 t232.length co43,.slice Ao45 t235.length co45]] rfl (by (try simp only [List.map_toArray,List.map_cons,List.map_nil]);first|done|rfl|(simp only [List.length_drop,List.length_take];rfl)) ?_;(with_reducible refine (device_Flush.calls kj4 _ _ t232 _ _ t235 t265 t268 t271 _ ?side1 ?side2 ?side3 ?side4 A18.out).mono ?_);(case side1=>refine (Kd.S_reads' (e:=26) (base:=w.heap.size) (ok:=fun k_=>((((nb k_ (.slice Ao24 t200.length co24)∧(nb k_ (.slice Ao28 t208.length co28)∧(nb k_ (.slice Ao33 y215.length co33)∧(nb k_ (.slice Ao35 t218.length co35)∧nb k_ (.slice Ao39 t225.length co39)))))∧nb k_ v240)∧nb k_ (.slice Ao55 t246.length co55))∧nb k_ (.slice Ao65 t257.length co65))) (n:=t232.length) (c:=co43) ?_).2.2;exact (by (with_reducible repeat (first|apply Kd.S_alloc|apply Kd.S_drewN|apply Kd.S_drew));exact (Kd.S_mono (Kd.S_far (p:=⟨gb264,1,none⟩) (Kd.S_far (p:=⟨gb264,0,none⟩) (Kd.S_types HO234.out BK264.out (by decide)) (fun _ hk=>hk.2) (.slice Ao65 t257.length co65)) (fun _ hk=>hk.2) (.slice Ao69 t260.length co69)) (fun _ h_=>h_.1))));(case side2=>exact (Kd.S_reads' HO234.out).2.1);(case side3=>refine (Kd.S_reads' (e:=42) (base:=w.heap.size) (ok:=fun k_=>((((nb k_ (.slice Ao26 t203.length co26)∧(nb k_ (.slice Ao30 t211.length co30)∧(nb k_ (.slice Ao33 y215.length co33)∧(nb k_ (.slice Ao37 t221.length co37)∧nb k_ (.slice Ao41 t228.length co41)))))∧nb k_ v240)∧nb k_ (.slice Ao58 t249.length co58))∧nb k_ (.slice Ao69 t260.length co69))) (n:=t235.length) (c:=co45) ?_).2.2;exact (by (with_reducible repeat (first|apply Kd.S_alloc|apply Kd.S_drewN|apply Kd.S_drew));exact (Kd.S_mono (Kd.S_far (p:=⟨gb264,1,none⟩) (Kd.S_far (p:=⟨gb264,0,none⟩) (Kd.S_types HO237.out BK264.out (by decide)) (fun _ hk=>hk.2) (.slice Ao65 t257.length co65)) (fun _ hk=>hk.2) (.slice Ao69 t260.length co69)) (fun _ h_=>h_.1))));(case side4=>exact (Kd.S_reads' HO237.out).2.1);rintro e w71 ⟨v266,v269,rfl,ho0,ho1,hb⟩;refine ⟨_,rfl,?_⟩;have n0_:=A_ (Kd.S_elder' (by (with_reducible repeat (first|apply Kd.S_alloc|apply Kd.S_drewN|apply Kd.S_drew));exact (Kd.S_mono (Kd.S_far (p:=⟨gb264,1,none⟩) (Kd.S_far (p:=⟨gb264,0,none⟩) (Kd.S_types HO202.out BK264.out (by decide)) (fun _ hk=>hk.2) (.slice Ao65 t257.length co65)) (fun _ hk=>hk.2) (.slice Ao69 t260.length co69)) (fun _ h_=>h_.1))) (Kd.S_base ho0) hb);have n1_:=A_ (Kd.S_elder' (by (with_reducible repeat (first|apply Kd.S_alloc|apply Kd.S_drewN|apply Kd.S_drew));exact (Kd.S_mono (Kd.S_far (p:=⟨gb264,1,none⟩) (Kd.S_far (p:=⟨gb264,0,none⟩) (Kd.S_types HO205.out BK264.out (by decide)) (fun _ hk=>hk.2) (.slice Ao65 t257.length co65)) (fun _ hk=>hk.2) (.slice Ao69 t260.length co69)) (fun _ h_=>h_.1))) (Kd.S_base ho1) hb);have n2_:=A_ (Kd.S_elder' (by (with_reducible repeat (first|apply Kd.S_alloc|apply Kd.S_drewN|apply Kd.S_drew));exact (Kd.S_mono (Kd.S_far (p:=⟨gb264,1,none⟩) (Kd.S_far (p:=⟨gb264,0,none⟩) (Kd.S_types HO210.out BK264.out (by decide)) (fun _ hk=>hk.2) (.slice Ao65 t257.length co65)) (fun _ hk=>hk.2) (.slice Ao69 t260.length co69)) (fun _ h_=>h_.1))) (Kd.S_base ho0) hb);have n3_:=A_ (Kd.S_elder' (by (with_reducible repeat (first|apply Kd.S_alloc|apply Kd.S_drewN|apply Kd.S_drew));exact (Kd.S_mono (Kd.S_far (p:=⟨gb264,1,none⟩) (Kd.S_far (p:=⟨gb264,0,none⟩) (Kd.S_types HO213.out BK264.out (by decide)) (fun _ hk=>hk.2) (.slice Ao65 t257.length co65)) (fun _ hk=>hk.2) (.slice Ao69 t260.length co69)) (fun _ h_=>h_.1))) (Kd.S_base ho1) hb);have n4_:=A_ (rw_ (by (with_reducible repeat (first|apply ra|apply rb|apply rc));exact (rm (Kd.R_far (p:=⟨gb264,1,none⟩) (Kd.R_far (p:=⟨gb264,0,none⟩) (Kd.R_types HO217.out BK264.out (by decide)) (fun _ hk=>hk.2) (.slice Ao65 t257.length co65)) (fun _ hk=>hk.2) (.slice Ao69 t260.length co69)) (fun _ h_=>h_.1))) hb);have n5_:=A_ (Kd.S_elder' (by (with_reducible repeat (first|apply Kd.S_alloc|apply Kd.S_drewN|apply Kd.S_drew));exact (Kd.S_mono (Kd.S_far (p:=⟨gb264,1,none⟩) (Kd.S_far (p:=⟨gb264,0,none⟩) (Kd.S_types HO220.out BK264.out (by decide)) (fun _ hk=>hk.2) (.slice Ao65 t257.length co65)) (fun _ hk=>hk.2) (.slice Ao69 t260.length co69)) (fun _ h_=>h_.1))) (Kd.S_base ho0) hb);have n6_:=A_ (Kd.S_elder' (by (with_reducible repeat (first|apply Kd.S_alloc|apply Kd.S_drewN|apply Kd.S_drew));exact (Kd.S_mono (Kd.S_far (p:=⟨gb264,1,none⟩) (Kd.S_far (p:=⟨gb264,0,none⟩) (Kd.S_types HO223.out BK264.out (by decide)) (fun _ hk=>hk.2) (.slice Ao65 t257.length co65)) (fun _ hk=>hk.2) (.slice Ao69 t260.length co69)) (fun _ h_=>h_.1))) (Kd.S_base ho1) hb);have n7_:=A_ (Kd.S_elder' (by (with_reducible repeat (first|apply Kd.S_alloc|apply Kd.S_drewN|apply Kd.S_drew));exact (Kd.S_mono (Kd.S_far (p:=⟨gb264,1,none⟩) (Kd.S_far (p:=⟨gb264,0,none⟩) (Kd.S_types HO227.out BK264.out (by decide)) (fun _ hk=>hk.2) (.slice Ao65 t257.length co65)) (fun _ hk=>hk.2) (.slice Ao69 t260.length co69)) (fun _ h_=>h_.1))) (Kd.S_base ho0) hb);have n8_:=A_ (Kd.S_elder' (by (with_reducible repeat (first|apply Kd.S_alloc|apply Kd.S_drewN|apply Kd.S_drew));exact (Kd.S_mono (Kd.S_far (p:=⟨gb264,1,none⟩) (Kd.S_far (p:=⟨gb264,0,none⟩) (Kd.S_types HO230.out BK264.out (by decide)) (fun _ hk=>hk.2) (.slice Ao65 t257.length co65)) (fun _ hk=>hk.2) (.slice Ao69 t260.length co69)) (fun _ h_=>h_.1))) (Kd.S_base ho1) hb);have n9_:=A_ (Kd.S_elder' (by (with_reducible repeat (first|apply Kd.S_alloc|apply Kd.S_drewN|apply Kd.S_drew));exact (Kd.S_mono (Kd.S_far (p:=⟨gb264,1,none⟩) (Kd.S_far (p:=⟨gb264,0,none⟩) (Kd.S_types HO234.out BK264.out (by decide)) (fun _ hk=>hk.2) (.slice Ao65 t257.length co65)) (fun _ hk=>hk.2) (.slice Ao69 t260.length co69)) (fun _ h_=>h_.1))) (Kd.S_base ho0) hb);have n10_:=A_ (Kd.S_elder' (by (with_reducible repeat (first|apply Kd.S_alloc|apply Kd.S_drewN|apply Kd.S_drew));exact (Kd.S_mono (Kd.S_far (p:=⟨gb264,1,none⟩) (Kd.S_far (p:=⟨gb264,0,none⟩) (Kd.S_types HO237.out BK264.out (by decide)) (fun _ hk=>hk.2) (.slice Ao65 t257.length co65)) (fun _ hk=>hk.2) (.slice Ao69 t260.length co69)) (fun _ h_=>h_.1))) (Kd.S_base ho1) hb);have n11_:=A_ (rw_ (by (with_reducible repeat (first|apply ra|apply rb|apply rc));exact (rm (Kd.R_far (p:=⟨gb264,1,none⟩) (Kd.R_far (p:=⟨gb264,0,none⟩) (Kd.R_types HO241.out BK264.out (by decide)) (fun _ hk=>hk.2) (.slice Ao65 t257.length co65)) (fun _ hk=>hk.2) (.slice Ao69 t260.length co69)) (fun _ h_=>h_.1))) hb);have n12_:=A_ (rw_ (by (with_reducible repeat (first|apply ra|apply rb|apply rc));exact (rm (Kd.R_far (p:=⟨gb264,1,none⟩) (Kd.R_far (p:=⟨gb264,0,none⟩) (Kd.R_types HO245.out BK264.out (by decide)) (fun _ hk=>hk.2) (.slice Ao65 t257.length co65)) (fun _ hk=>hk.2) (.slice Ao69 t260.length co69)) (fun _ h_=>h_.1))) hb);have n13_:=A_ (Kd.S_elder' (by (with_reducible repeat (first|apply Kd.S_alloc|apply Kd.S_drewN|apply Kd.S_drew));exact (Kd.S_mono (Kd.S_far (p:=⟨gb264,1,none⟩) (Kd.S_far (p:=⟨gb264,0,none⟩) (Kd.S_types HO248.out BK264.out (by decide)) (fun _ hk=>hk.2) (.slice Ao65 t257.length co65)) (fun _ hk=>hk.2) (.slice Ao69 t260.length co69)) (fun _ h_=>h_.1))) (Kd.S_base ho0) hb);have n14_:=A_ (Kd.S_elder' (by (with_reducible repeat (first|apply Kd.S_alloc|apply Kd.S_drewN|apply Kd.S_drew));exact (Kd.S_mono (Kd.S_far (p:=⟨gb264,1,none⟩) (Kd.S_far (p:=⟨gb264,0,none⟩) (Kd.S_types HO251.out BK264.out (by decide)) (fun _ hk=>hk.2) (.slice Ao65 t257.length co65)) (fun _ hk=>hk.2) (.slice Ao69 t260.length co69)) (fun _ h_=>h_.1))) (Kd.S_base ho1) hb);have n15_:=A_ (rw_ (by (with_reducible repeat (first|apply ra|apply rb|apply rc));exact (rm (Kd.R_far (p:=⟨gb264,1,none⟩) (Kd.R_far (p:=⟨gb264,0,none⟩) (Kd.R_types HO256.out BK264.out (by decide)) (fun _ hk=>hk.2) (.slice Ao65 t257.length co65)) (fun _ hk=>hk.2) (.slice Ao69 t260.length co69)) (fun _ h_=>h_.1))) hb);have n16_:=A_ (Kd.S_elder' (by (with_reducible repeat (first|apply Kd.S_alloc|apply Kd.S_drewN|apply Kd.S_drew));exact (Kd.S_mono (Kd.S_far (p:=⟨gb264,1,none⟩) (Kd.S_far (p:=⟨gb264,0,none⟩) (Kd.S_types HO259.out BK264.out (by decide)) (fun _ hk=>hk.2) (.slice Ao65 t257.length co65)) (fun _ hk=>hk.2) (.slice Ao69 t260.length co69)) (fun _ h_=>h_.1))) (Kd.S_base ho0) hb);have n17_:=A_ (Kd.S_elder' (by (with_reducible repeat (first|apply Kd.S_alloc|apply Kd.S_drewN|apply Kd.S_drew));exact (Kd.S_mono (Kd.S_far (p:=⟨gb264,1,none⟩) (Kd.S_far (p:=⟨gb264,0,none⟩) (Kd.S_types HO262.out BK264.out (by decide)) (fun _ hk=>hk.2) (.slice Ao65 t257.length co65)) (fun _ hk=>hk.2) (.slice Ao69 t260.length co69)) (fun _ h_=>h_.1))) (Kd.S_base ho1) hb);have n18_:=A_ (Kd.S_lower (Kd.S_new' (Kd.S_new' (Kd.S_new' (Kd.S_new' (Kd.S_new' (Kd.S_new' (Kd.S_new' (Kd.S_new' (Kd.S_new' ho0 (Kd.S_lt (by (with_reducible repeat (first|apply Kd.S_alloc|apply Kd.S_drewN|apply Kd.S_drew));exact (Kd.S_mono (Kd.S_far (p:=⟨gb264,1,none⟩) (Kd.S_far (p:=⟨gb264,0,none⟩) (Kd.S_types HO202.out BK264.out (by decide)) (fun _ hk=>hk.2) (.slice Ao65 t257.length co65)) (fun _ hk=>hk.2) (.slice Ao69 t260.length co69)) (fun _ h_=>h_.1))))) (Kd.S_lt (by (with_reducible repeat (first|apply Kd.S_alloc|apply Kd.S_drewN|apply Kd.S_drew));exact (Kd.S_mono (Kd.S_far (p:=⟨gb264,1,none⟩) (Kd.S_far (p:=⟨gb264,0,none⟩) (Kd.S_types HO210.out BK264.out (by decide)) (fun _ hk=>hk.2) (.slice Ao65 t257.length co65)) (fun _ hk=>hk.2) (.slice Ao69 t260.length co69)) (fun _ h_=>h_.1))))) (rl (by (with_reducible repeat (first|apply ra|apply rb|apply rc));exact (rm (Kd.R_far (p:=⟨gb264,1,none⟩) (Kd.R_far (p:=⟨gb264,0,none⟩) (Kd.R_types HO217.out BK264.out (by decide)) (fun _ hk=>hk.2) (.slice Ao65 t257.length co65)) (fun _ hk=>hk.2) (.slice Ao69 t260.length co69)) (fun _ h_=>h_.1))))) (Kd.S_lt (by (with_reducible repeat (first|apply Kd.S_alloc|apply Kd.S_drewN|apply Kd.S_drew));exact (Kd.S_mono (Kd.S_far (p:=⟨gb264,1,none⟩) (Kd.S_far (p:=⟨gb264,0,none⟩) (Kd.S_types HO220.out BK264.out (by decide)) (fun _ hk=>hk.2) (.slice Ao65 t257.length co65)) (fun _ hk=>hk.2) (.slice Ao69 t260.length co69)) (fun _ h_=>h_.1))))) (Kd.S_lt (by (with_reducible repeat (first|apply Kd.S_alloc|apply Kd.S_drewN|apply Kd.S_drew));exact (Kd.S_mono (Kd.S_far (p:=⟨gb264,1,none⟩) (Kd.S_far (p:=⟨gb264,0,none⟩) (Kd.S_types HO227.out BK264.out (by decide)) (fun _ hk=>hk.2) (.slice Ao65 t257.length co65)) (fun _ hk=>hk.2) (.slice Ao69 t260.length co69)) (fun _ h_=>h_.1))))) (Kd.S_lt (by (with_reducible repeat (first|apply Kd.S_alloc|apply Kd.S_drewN|apply Kd.S_drew));exact (Kd.S_mono (Kd.S_far (p:=⟨gb264,1,none⟩) (Kd.S_far (p:=⟨gb264,0,none⟩) (Kd.S_types HO234.out BK264.out (by decide)) (fun _ hk=>hk.2) (.slice Ao65 t257.length co65)) (fun _ hk=>hk.2) (.slice Ao69 t260.length co69)) (fun _ h_=>h_.1))))) (rl (by (with_reducible repeat (first|apply ra|apply rb|apply rc));exact (rm (Kd.R_far (p:=⟨gb264,1,none⟩) (Kd.R_far (p:=⟨gb264,0,none⟩) (Kd.R_types HO241.out BK264.out (by decide)) (fun _ hk=>hk.2) (.slice Ao65 t257.length co65)) (fun _ hk=>hk.2) (.slice Ao69 t260.length co69)) (fun _ h_=>h_.1))))) (Kd.S_lt (by (with_reducible repeat (first|apply Kd.S_alloc|apply Kd.S_drewN|apply Kd.S_drew));exact (Kd.S_mono (Kd.S_far (p:=⟨gb264,1,none⟩) (Kd.S_far (p:=⟨gb264,0,none⟩) (Kd.S_types HO248.out BK264.out (by decide)) (fun _ hk=>hk.2) (.slice Ao65 t257.length co65)) (fun _ hk=>hk.2) (.slice Ao69 t260.length co69)) (fun _ h_=>h_.1))))) (Kd.S_lt (by (with_reducible repeat (first|apply Kd.S_alloc|apply Kd.S_drewN|apply Kd.S_drew));exact (Kd.S_mono (Kd.S_far (p:=⟨gb264,1,none⟩) (Kd.S_far (p:=⟨gb264,0,none⟩) (Kd.S_types HO259.out BK264.out (by decide)) (fun _ hk=>hk.2) (.slice Ao65 t257.length co65)) (fun _ hk=>hk.2) (.slice Ao69 t260.length co69)) (fun _ h_=>h_.1))))) (below_size (by repeat (first|(with_reducible first|exact HB.out|apply ba|apply bb|apply bc|refine below_set ?_ GE207.out|refine below_set ?_ GE253.out|refine below_set ?_ GE264.out)|exact HB.out))));have n19_:=A_ (Kd.S_lower (Kd.S_new' (Kd.S_new' (Kd.S_new' (Kd.S_new' (Kd.S_new' (Kd.S_new' (Kd.S_new' (Kd.S_new' (Kd.S_new' ho1 (Kd.S_lt (by (with_reducible repeat (first|apply Kd.S_alloc|apply Kd.S_drewN|apply Kd.S_drew));exact (Kd.S_mono (Kd.S_far (p:=⟨gb264,1,none⟩) (Kd.S_far (p:=⟨gb264,0,none⟩) (Kd.S_types HO205.out BK264.out (by decide)) (fun _ hk=>hk.2) (.slice Ao65 t257.length co65)) (fun _ hk=>hk.2) (.slice Ao69 t260.length co69)) (fun _ h_=>h_.1))))) (Kd.S_lt (by (with_reducible repeat (first|apply Kd.S_alloc|apply Kd.S_drewN|apply Kd.S_drew));exact (Kd.S_mono (Kd.S_far (p:=⟨gb264,1,none⟩) (Kd.S_far (p:=⟨gb264,0,none⟩) (Kd.S_types HO213.out BK264.out (by decide)) (fun _ hk=>hk.2) (.slice Ao65 t257.length co65)) (fun _ hk=>hk.2) (.slice Ao69 t260.length co69)) (fun _ h_=>h_.1))))) (rl (by (with_reducible repeat (first|apply ra|apply rb|apply rc));exact (rm (Kd.R_far (p:=⟨gb264,1,none⟩) (Kd.R_far (p:=⟨gb264,0,none⟩) (Kd.R_types HO217.out BK264.out (by decide)) (fun _ hk=>hk.2) (.slice Ao65 t257.length co65)) (fun _ hk=>hk.2) (.slice Ao69 t260.length co69)) (fun _ h_=>h_.1))))) (Kd.S_lt (by (with_reducible repeat (first|apply Kd.S_alloc|apply Kd.S_drewN|apply Kd.S_drew));exact (Kd.S_mono (Kd.S_far (p:=⟨gb264,1,none⟩) (Kd.S_far (p:=⟨gb264,0,none⟩) (Kd.S_types HO223.out BK264.out (by decide)) (fun _ hk=>hk.2) (.slice Ao65 t257.length co65)) (fun _ hk=>hk.2) (.slice Ao69 t260.length co69)) (fun _ h_=>h_.1))))) (Kd.S_lt (by (with_reducible repeat (first|apply Kd.S_alloc|apply Kd.S_drewN|apply Kd.S_drew));exact (Kd.S_mono (Kd.S_far (p:=⟨gb264,1,none⟩) (Kd.S_far (p:=⟨gb264,0,none⟩) (Kd.S_types HO230.out BK264.out (by decide)) (fun _ hk=>hk.2) (.slice Ao65 t257.length co65)) (fun _ hk=>hk.2) (.slice Ao69 t260.length co69)) (fun _ h_=>h_.1))))) (Kd.S_lt (by (with_reducible repeat (first|apply Kd.S_alloc|apply Kd.S_drewN|apply Kd.S_drew));exact (Kd.S_mono (Kd.S_far (p:=⟨gb264,1,none⟩) (Kd.S_far (p:=⟨gb264,0,none⟩) (Kd.S_types HO237.out BK264.out (by decide)) (fun _ hk=>hk.2) (.slice Ao65 t257.length co65)) (fun _ hk=>hk.2) (.slice Ao69 t260.length co69)) (fun _ h_=>h_.1))))) (rl (by (with_reducible repeat (first|apply ra|apply rb|apply rc));exact (rm (Kd.R_far (p:=⟨gb264,1,none⟩) (Kd.R_far (p:=⟨gb264,0,none⟩) (Kd.R_types HO241.out BK264.out (by decide)) (fun _ hk=>hk.2) (.slice Ao65 t257.length co65)) (fun _ hk=>hk.2) (.slice Ao69 t260.length co69)) (fun _ h_=>h_.1))))) (Kd.S_lt (by (with_reducible repeat (first|apply Kd.S_alloc|apply Kd.S_drewN|apply Kd.S_drew));exact (Kd.S_mono (Kd.S_far (p:=⟨gb264,1,none⟩) (Kd.S_far (p:=⟨gb264,0,none⟩) (Kd.S_types HO251.out BK264.out (by decide)) (fun _ hk=>hk.2) (.slice Ao65 t257.length co65)) (fun _ hk=>hk.2) (.slice Ao69 t260.length co69)) (fun _ h_=>h_.1))))) (Kd.S_lt (by (with_reducible repeat (first|apply Kd.S_alloc|apply Kd.S_drewN|apply Kd.S_drew));exact (Kd.S_mono (Kd.S_far (p:=⟨gb264,1,none⟩) (Kd.S_far (p:=⟨gb264,0,none⟩) (Kd.S_types HO262.out BK264.out (by decide)) (fun _ hk=>hk.2) (.slice Ao65 t257.length co65)) (fun _ hk=>hk.2) (.slice Ao69 t260.length co69)) (fun _ h_=>h_.1))))) (below_size (by repeat (first|(with_reducible first|exact HB.out|apply ba|apply bb|apply bc|refine below_set ?_ GE207.out|refine below_set ?_ GE253.out|refine below_set ?_ GE264.out)|exact HB.out))));have n20_:=A_ (blk_below (g:=gb207) (o:=.cells #[.slice Ao43 t232.length co43,.slice Ao45 t235.length co45] 25 (0,0)) (by (with_reducible repeat (first|refine blk_drewN ?_ _|refine blk_drew ?_|refine blk_alloc ?_ _));refine blk_far ?_ NB207_264.out _;(with_reducible repeat (first|refine blk_drewN ?_ _|refine blk_drew ?_|refine blk_alloc ?_ _));refine blk_far ?_ NB207_264.out _;(with_reducible repeat (first|refine blk_drewN ?_ _|refine blk_drew ?_|refine blk_alloc ?_ _));exact BK207.out) hb);have n21_:=A_ (blk_below (g:=gb253) (o:=.cells #[.slice Ao55 t246.length co55,.slice Ao58 t249.length co58] 25 (0,0)) (by (with_reducible repeat (first|refine blk_drewN ?_ _|refine blk_drew ?_|refine blk_alloc ?_ _));refine blk_far ?_ NB253_264.out _;(with_reducible repeat (first|refine blk_drewN ?_ _|refine blk_drew ?_|refine blk_alloc ?_ _));refine blk_far ?_ NB253_264.out _;(with_reducible repeat (first|refine blk_drewN ?_ _|refine blk_drew ?_|refine blk_alloc ?_ _));exact BK253.out) hb);have n22_:=A_ (blk_below (g:=gb264) (o:=.cells #[.slice Ao65 t257.length co65,.slice Ao69 t260.length co69] 25 (0,0)) (by (with_reducible repeat (first|refine blk_drewN ?_ _|refine blk_drew ?_|refine blk_alloc ?_ _));refine blk_put (cs:=#[.slice Ao65 t257.length co65,.slice none 0 0]) ?_ 1 _ rfl;(with_reducible repeat (first|refine blk_drewN ?_ _|refine blk_drew ?_|refine blk_alloc ?_ _));refine blk_put (cs:=#[.slice none 0 0,.slice none 0 0]) ?_ 0 _ rfl;(with_reducible repeat (first|refine blk_drewN ?_ _|refine blk_drew ?_|refine blk_alloc ?_ _));exact BK264.out) hb);have n23_:=A_ (below_step (by repeat (first|(with_reducible first|exact HB.out|apply ba|apply bb|apply bc|refine below_set ?_ GE207.out|refine below_set ?_ GE253.out|refine below_set ?_ GE264.out)|exact HB.out)) hb);clear HO202;clear HO205;clear HO210;clear HO213;clear HO217;clear HO220;clear HO223;clear HO227;clear HO230;clear HO234;clear HO237;clear HO241;clear HO245;clear HO248;clear HO251;clear HO256;clear HO259;clear HO262;clear BK207;clear BK253;clear BK264;clear HB;have HO202:=n0_;have HO205:=n1_;have HO210:=n2_;have HO213:=n3_;have HO217:=n4_;have HO220:=n5_;have HO223:=n6_;have HO227:=n7_;have HO230:=n8_;have HO234:=n9_;have HO237:=n10_;have HO241:=n11_;have HO245:=n12_;have HO248:=n13_;have HO251:=n14_;have HO256:=n15_;have HO259:=n16_;have HO262:=n17_;have HO267:=n18_;have HO270:=n19_;have BK207:=n20_;have BK253:=n21_;have BK264:=n22_;have HB:=n23_;clear n0_ n1_ n2_ n3_ n4_ n5_ n6_ n7_ n8_ n9_ n10_ n11_ n12_ n13_ n14_ n15_ n16_ n17_ n18_ n19_ n20_ n21_ n22_ n23_;(try clear hb);(try clear hb2);(try clear hk);(try clear hi);(try clear ho0);(try clear ho1))|((with_reducible refine gate_dst (N:=21) rfl ?_);(try (refine gate_guard (by rfl) ?_;dsimp only));refine box_event ?hg (N:=21) ?hd (cs:=#[.slice none 0 0,.slice none 0 0]) (t:=25) ?hr ?_;(case hd=>rfl);(case hg=>rfl);(case hr=>first|(go_simp;done)|(go_simp;rfl));intro gb272 hg w72 hbox hb;have n0_:=A_ (Kd.S_below (by (with_reducible repeat (first|apply Kd.S_alloc|apply Kd.S_drewN|apply Kd.S_drew));exact HO202.out) hb);have n1_:=A_ (Kd.S_below (by (with_reducible repeat (first|apply Kd.S_alloc|apply Kd.S_drewN|apply Kd.S_drew));exact HO205.out) hb);have n2_:=A_ (Kd.S_below (by (with_reducible repeat (first|apply Kd.S_alloc|apply Kd.S_drewN|apply Kd.S_drew));exact HO210.out) hb);have n3_:=A_ (Kd.S_below (by (with_reducible repeat (first|apply Kd.S_alloc|apply Kd.S_drewN|apply Kd.S_drew));exact HO213.out) hb);have n4_:=A_ (rw_ (by (with_reducible repeat (first|apply ra|apply rb|apply rc));exact HO217.out) hb);have n5_:=A_ (Kd.S_below (by (with_reducible repeat (first|apply Kd.S_alloc|apply Kd.S_drewN|apply Kd.S_drew));exact HO220.out) hb);have n6_:=A_ (Kd.S_below (by (with_reducible repeat (first|apply Kd.S_alloc|apply Kd.S_drewN|apply Kd.S_drew));exact HO223.out) hb);have n7_:=A_ (Kd.S_below (by (with_reducible repeat (first|apply Kd.S_alloc|apply Kd.S_drewN|apply Kd.S_drew));exact HO227.out) hb);have n8_:=A_ (Kd.S_below (by (with_reducible repeat (first|apply Kd.S_alloc|apply Kd.S_drewN|apply Kd.S_drew));exact HO230.out) hb);have n9_:=A_ (Kd.S_below (by (with_reducible repeat (first|apply Kd.S_alloc|apply Kd.S_drewN|apply Kd.S_drew));exact HO234.out) hb);have n10_:=A_ (Kd.S_below (by (with_reducible repeat (first|apply Kd.S_alloc|apply Kd.S_drewN|apply Kd.S_drew));exact HO237.out) hb);have n11_:=A_ (rw_ (by (with_reducible repeat (first|apply ra|apply rb|apply rc));exact HO241.out) hb);have n12_:=A_ (rw_ (by (with_reducible repeat (first|apply ra|apply rb|apply rc));exact HO245.out) hb);have n13_:=A_ (Kd.S_below (by (with_reducible repeat (first|apply Kd.S_alloc|apply Kd.S_drewN|apply Kd.S_drew));exact HO248.out) hb);have n14_:=A_ (Kd.S_below (by (with_reducible repeat (first|apply Kd.S_alloc|apply Kd.S_drewN|apply Kd.S_drew));exact HO251.out) hb);have n15_:=A_ (rw_ (by (with_reducible repeat (first|apply ra|apply rb|apply rc));exact HO256.out) hb);have n16_:=A_ (Kd.S_below (by (with_reducible repeat (first|apply Kd.S_alloc|apply Kd.S_drewN|apply Kd.S_drew));exact HO259.out) hb);have n17_:=A_ (Kd.S_below (by (with_reducible repeat (first|apply Kd.S_alloc|apply Kd.S_drewN|apply Kd.S_drew));exact HO262.out) hb);have n18_:=A_ (Kd.S_below (by (with_reducible repeat (first|apply Kd.S_alloc|apply Kd.S_drewN|apply Kd.S_drew));exact HO267.out) hb);have n19_:=A_ (Kd.S_below (by (with_reducible repeat (first|apply Kd.S_alloc|apply Kd.S_drewN|apply Kd.S_drew));exact HO270.out) hb);have n20_:=A_ (blk_below (g:=gb207) (o:=.cells #[.slice Ao43 t232.length co43,.slice Ao45 t235.length co45] 25 (0,0)) (by (with_reducible repeat (first|refine blk_drewN ?_ _|refine blk_drew ?_|refine blk_alloc ?_ _));exact BK207.out) hb);have n21_:=A_ (blk_below (g:=gb253) (o:=.cells #[.slice Ao55 t246.length co55,.slice Ao58 t249.length co58] 25 (0,0)) (by (with_reducible repeat (first|refine blk_drewN ?_ _|refine blk_drew ?_|refine blk_alloc ?_ _));exact BK253.out) hb);have n22_:=A_ (blk_below (g:=gb264) (o:=.cells #[.slice Ao65 t257.length co65,.slice Ao69 t260.length co69] 25 (0,0)) (by (with_reducible repeat (first|refine blk_drewN ?_ _|refine blk_drew ?_|refine blk_alloc ?_ _));exact BK264.out) hb);have n23_:=A_ (below_step (by repeat (first|(with_reducible first|exact HB.out|apply ba|apply bb|apply bc|refine below_set ?_ GE207.out|refine below_set ?_ GE253.out|refine below_set ?_ GE264.out)|exact HB.out)) hb);have n24_:=A_ (hbox);have n25_:=A_ ((by rw [hg];exact (below_size (by repeat (first|(with_reducible first|exact HB.out|apply ba|apply bb|apply bc|refine below_set ?_ GE207.out|refine below_set ?_ GE253.out|refine below_set ?_ GE264.out)|exact HB.out))) : w.heap.size ≤ gb272));have n26_:=A_ ((by rw [hg];exact (below_size (by repeat (first|(with_reducible first|exact HB.out|apply ba|apply bb|apply bc|refine below_set ?_ GE207.out|refine below_set ?_ GE253.out|refine below_set ?_ GE264.out)|exact HB.out))) : w.heap.size ≤ gb272));have n27_:=A_ ((by rw [hg];exact Nat.ne_of_lt (blk_lt (g:=gb207) (o:=.cells #[.slice Ao43 t232.length co43,.slice Ao45 t235.length co45] 25 (0,0)) (by (with_reducible repeat (first|refine blk_drewN ?_ _|refine blk_drew ?_|refine blk_alloc ?_ _));exact BK207.out)) : gb207≠gb272));have n28_:=A_ ((by rw [hg];exact Nat.ne_of_gt (blk_lt (g:=gb207) (o:=.cells #[.slice Ao43 t232.length co43,.slice Ao45 t235.length co45] 25 (0,0)) (by (with_reducible repeat (first|refine blk_drewN ?_ _|refine blk_drew ?_|refine blk_alloc ?_ _));exact BK207.out)) : gb272≠gb207));have n29_:=A_ ((by rw [hg];exact Nat.ne_of_lt (blk_lt (g:=gb253) (o:=.cells #[.slice Ao55 t246.length co55,.slice Ao58 t249.length co58] 25 (0,0)) (by (with_reducible repeat (first|refine blk_drewN ?_ _|refine blk_drew ?_|refine blk_alloc ?_ _));exact BK253.out)) : gb253≠gb272));have n30_:=A_ ((by rw [hg];exact Nat.ne_of_gt (blk_lt (g:=gb253) (o:=.cells #[.slice Ao55 t246.length co55,.slice Ao58 t249.length co58] 25 (0,0)) (by (with_reducible repeat (first|refine blk_drewN ?_ _|refine blk_drew ?_|refine blk_alloc ?_ _));exact BK253.out)) : gb272≠gb253));have n31_:=A_ ((by rw [hg];exact Nat.ne_of_lt (blk_lt (g:=gb264) (o:=.cells #[.slice Ao65 t257.length co65,.slice Ao69 t260.length co69] 25 (0,0)) (by (with_reducible repeat (first|refine blk_drewN ?_ _|refine blk_drew ?_|refine blk_alloc ?_ _));exact BK264.out)) : gb264≠gb272));have n32_:=A_ ((by rw [hg];exact Nat.ne_of_gt (blk_lt (g:=gb264) (o:=.cells #[.slice Ao65 t257.length co65,.slice Ao69 t260.length co69] 25 (0,0)) (by (with_reducible repeat (first|refine blk_drewN ?_ _|refine blk_drew ?_|refine blk_alloc ?_ _));exact BK264.out)) : gb272≠gb264));clear HO202;clear HO205;clear HO210;clear HO213;clear HO217;clear HO220;clear HO223;clear HO227;clear HO230;clear HO234;clear HO237;clear HO241;clear HO245;clear HO248;clear HO251;clear HO256;clear HO259;clear HO262;clear HO267;clear HO270;clear BK207;clear BK253;clear BK264;clear HB;have HO202:=n0_;have HO205:=n1_;have HO210:=n2_;have HO213:=n3_;have HO217:=n4_;have HO220:=n5_;have HO223:=n6_;have HO227:=n7_;have HO230:=n8_;have HO234:=n9_;have HO237:=n10_;have HO241:=n11_;have HO245:=n12_;have HO248:=n13_;have HO251:=n14_;have HO256:=n15_;have HO259:=n16_;have HO262:=n17_;have HO267:=n18_;have HO270:=n19_;have BK207:=n20_;have BK253:=n21_;have BK264:=n22_;have HB:=n23_;have BK272:=n24_;have GW272:=n25_;have GE272:=n26_;have NB207_272:=n27_;have NB272_207:=n28_;have NB253_272:=n29_;have NB272_253:=n30_;have NB264_272:=n31_;have NB272_264:=n32_;clear n0_ n1_ n2_ n3_ n4_ n5_ n6_ n7_ n8_ n9_ n10_ n11_ n12_ n13_ n14_ n15_ n16_ n17_ n18_ n19_ n20_ n21_ n22_ n23_ n24_ n25_ n26_ n27_ n28_ n29_ n30_ n31_ n32_;clear hb hbox hg;obtain ⟨Ao73,co73,eo73⟩:=Kd.S_slice HO267.out;subst eo73;have hnb74:=NB272_207.out;have hnc74:=NB207_272.out;have hnb75:=NB272_253.out;have hnc75:=NB253_272.out;have hnb76:=NB272_264.out;have hnc76:=NB264_272.out;have hcz77_0 : w72.cell? ⟨gb272,0,none⟩ = some (.slice none 0 0):=(blk_cell BK272.out 0).trans rfl;have hcz77_1 : w72.cell? ⟨gb272,1,none⟩ = some (.slice none 0 0):=(blk_cell BK272.out 1).trans rfl;have hfz77_0:=blk_frozen BK272.out 0;have hfz77_1:=blk_frozen BK272.out 1;obtain ⟨Ao78,co78,eo78⟩:=Kd.S_slice HO270.out;subst eo78)|((with_reducible refine gate_store (t:=25) (p:=21) rfl ?_);refine store_event (t:=25) (p:=21) (v:=?vo_w79) (w1:=((w72.setCell ⟨gb272,0,none⟩ (.slice Ao73 t265.length co73)).setCell ⟨gb272,1,none⟩ (.slice Ao78 t268.length co78))) ?hg ?ho ?hn ?hr ?_;(case ho=>rfl);(case hg=>rfl);(case hn=>rfl);(case hr=>first|(go_simp;done)|(go_simp;rfl));intro w79 hw;have n0_ : Aside0 (Kd.S (Kd.slice 5 (Kd.int .u8)) 26 w79 w.heap.size (fun k_=>nb k_ (.slice Ao28 t208.length co28)∧nb k_ (.slice Ao33 y215.length co33)∧nb k_ (.slice Ao35 t218.length co35)∧nb k_ (.slice Ao39 t225.length co39)∧nb k_ (.slice Ao43 t232.length co43)∧nb k_ v240∧nb k_ (.slice Ao55 t246.length co55)∧nb k_ (.slice Ao65 t257.length co65)∧nb k_ (.slice Ao73 t265.length co73)) (.slice Ao24 t200.length co24) t200):=⟨(by rw [hw];exact (by (with_reducible repeat (first|apply Kd.S_alloc|apply Kd.S_drewN|apply Kd.S_drew));exact Kd.S_mono (Kd.S_far (p:=⟨gb272,1,none⟩) (Kd.S_far (p:=⟨gb272,0,none⟩) (Kd.S_types HO202.out BK272.out (by decide)) (fun _ hk=>hk.2) (.slice Ao73 t265.length co73)) (fun _ hk=>hk.2) (.slice Ao78 t268.length co78)) (fun _ hk=>⟨hk.1.1.1.1.1.1,⟨hk.1.1.1.1.1.2.1,⟨hk.1.1.1.1.1.2.2.1,⟨hk.1.1.1.1.1.2.2.2.1,⟨hk.1.1.1.1.1.2.2.2.2,⟨hk.1.1.1.1.2,⟨hk.1.1.1.2,⟨hk.1.1.2,hk.1.2⟩⟩⟩⟩⟩⟩⟩⟩)))⟩;have n1_ : Aside0 (Kd.S k42 42 w79 w.heap.size (fun k_=>nb k_ (.slice Ao30 t211.length co30)∧nb k_ (.slice Ao33 y215.length co33)∧nb k_ (.slice Ao37 t221.length co37)∧nb k_ (.slice Ao41 t228.length co41)∧nb k_ (.slice Ao45 t235.length co45)∧nb k_ v240∧nb k_ (.slice Ao58 t249.length co58)∧nb k_ (.slice Ao69 t260.length co69)∧nb k_ (.slice Ao78 t268.length co78)) (.slice Ao26 t203.length co26) t203):=⟨(by rw [hw];exact (by (with_reducible repeat (first|apply Kd.S_alloc|apply Kd.S_drewN|apply Kd.S_drew));exact Kd.S_mono (Kd.S_far (p:=⟨gb272,1,none⟩) (Kd.S_far (p:=⟨gb272,0,none⟩) (Kd.S_types HO205.out BK272.out (by decide)) (fun _ hk=>hk.2) (.slice Ao73 t265.length co73)) (fun _ hk=>hk.2) (.slice Ao78 t268.length co78)) (fun _ hk=>⟨hk.1.1.1.1.1.1,⟨hk.1.1.1.1.1.2.1,⟨hk.1.1.1.1.1.2.2.1,⟨hk.1.1.1.1.1.2.2.2.1,⟨hk.1.1.1.1.1.2.2.2.2,⟨hk.1.1.1.1.2,⟨hk.1.1.1.2,⟨hk.1.1.2,hk.1.2⟩⟩⟩⟩⟩⟩⟩⟩)))⟩;have n2_ : Aside0 (Kd.S (Kd.slice 5 (Kd.int .u8)) 26 w79 w.heap.size (fun k_=>nb k_ (.slice Ao24 t200.length co24)∧nb k_ (.slice Ao33 y215.length co33)∧nb k_ (.slice Ao35 t218.length co35)∧nb k_ (.slice Ao39 t225.length co39)∧nb k_ (.slice Ao43 t232.length co43)∧nb k_ v240∧nb k_ (.slice Ao55 t246.length co55)∧nb k_ (.slice Ao65 t257.length co65)∧nb k_ (.slice Ao73 t265.length co73)) (.slice Ao28 t208.length co28) t208):=⟨(by rw [hw];exact (by (with_reducible repeat (first|apply Kd.S_alloc|apply Kd.S_drewN|apply Kd.S_drew));exact Kd.S_mono (Kd.S_far (p:=⟨gb272,1,none⟩) (Kd.S_far (p:=⟨gb272,0,none⟩) (Kd.S_types HO210.out BK272.out (by decide)) (fun _ hk=>hk.2) (.slice Ao73 t265.length co73)) (fun _ hk=>hk.2) (.slice Ao78 t268.length co78)) (fun _ hk=>⟨hk.1.1.1.1.1.1,⟨hk.1.1.1.1.1.2.1,⟨hk.1.1.1.1.1.2.2.1,⟨hk.1.1.1.1.1.2.2.2.1,⟨hk.1.1.1.1.1.2.2.2.2,⟨hk.1.1.1.1.2,⟨hk.1.1.1.2,⟨hk.1.1.2,hk.1.2⟩⟩⟩⟩⟩⟩⟩⟩)))⟩;have n3_ : Aside0 (Kd.S k42 42 w79 w.heap.size (fun k_=>nb k_ (.slice Ao26 t203.length co26)∧nb k_ (.slice Ao33 y215.length co33)∧nb k_ (.slice Ao37 t221.length co37)∧nb k_ (.slice Ao41 t228.length co41)∧nb k_ (.slice Ao45 t235.length co45)∧nb k_ v240∧nb k_ (.slice Ao58 t249.length co58)∧nb k_ (.slice Ao69 t260.length co69)∧nb k_ (.slice Ao78 t268.length co78)) (.slice Ao30 t211.length co30) t211):=⟨(by rw [hw];exact (by (with_reducible repeat (first|apply Kd.S_alloc|apply Kd.S_drewN|apply Kd.S_drew));exact Kd.S_mono (Kd.S_far (p:=⟨gb272,1,none⟩) (Kd.S_far (p:=⟨gb272,0,none⟩) (Kd.S_types HO213.out BK272.out (by decide)) (fun _ hk=>hk.2) (.slice Ao73 t265.length co73)) (fun _ hk=>hk.2) (.slice Ao78 t268.length co78)) (fun _ hk=>⟨hk.1.1.1.1.1.1,⟨hk.1.1.1.1.1.2.1,⟨hk.1.1.1.1.1.2.2.1,⟨hk.1.1.1.1.1.2.2.2.1,⟨hk.1.1.1.1.1.2.2.2.2,⟨hk.1.1.1.1.2,⟨hk.1.1.1.2,⟨hk.1.1.2,hk.1.2⟩⟩⟩⟩⟩⟩⟩⟩)))⟩;have n4_ : Aside0 (Kd.R (Kd.int .u8) 5 w79 w.heap.size (fun k_=>nb k_ v240) (.slice Ao33 y215.length co33) y215):=⟨(by rw [hw];exact (by (with_reducible repeat (first|apply ra|apply rb|apply rc));exact rm (Kd.R_far (p:=⟨gb272,1,none⟩) (Kd.R_far (p:=⟨gb272,0,none⟩) (Kd.R_types HO217.out BK272.out (by decide)) (fun _ hk=>hk.2) (.slice Ao73 t265.length co73)) (fun _ hk=>hk.2) (.slice Ao78 t268.length co78)) (fun _ hk=>hk.1.2)))⟩;have n5_ : Aside0 (Kd.S (Kd.slice 5 (Kd.int .u8)) 26 w79 w.heap.size (fun k_=>nb k_ (.slice Ao24 t200.length co24)∧nb k_ (.slice Ao28 t208.length co28)∧nb k_ (.slice Ao33 y215.length co33)∧nb k_ (.slice Ao39 t225.length co39)∧nb k_ (.slice Ao43 t232.length co43)∧nb k_ v240∧nb k_ (.slice Ao55 t246.length co55)∧nb k_ (.slice Ao65 t257.length co65)∧nb k_ (.slice Ao73 t265.length co73)) (.slice Ao35 t218.length co35) t218):=⟨(by rw [hw];exact (by (with_reducible repeat (first|apply Kd.S_alloc|apply Kd.S_drewN|apply Kd.S_drew));exact Kd.S_mono (Kd.S_far (p:=⟨gb272,1,none⟩) (Kd.S_far (p:=⟨gb272,0,none⟩) (Kd.S_types HO220.out BK272.out (by decide)) (fun _ hk=>hk.2) (.slice Ao73 t265.length co73)) (fun _ hk=>hk.2) (.slice Ao78 t268.length co78)) (fun _ hk=>⟨hk.1.1.1.1.1.1,⟨hk.1.1.1.1.1.2.1,⟨hk.1.1.1.1.1.2.2.1,⟨hk.1.1.1.1.1.2.2.2.1,⟨hk.1.1.1.1.1.2.2.2.2,⟨hk.1.1.1.1.2,⟨hk.1.1.1.2,⟨hk.1.1.2,hk.1.2⟩⟩⟩⟩⟩⟩⟩⟩)))⟩;have n6_ : Aside0 (Kd.S k42 42 w79 w.heap.size (fun k_=>nb k_ (.slice Ao26 t203.length co26)∧nb k_ (.slice Ao30 t211.length co30)∧nb k_ (.slice Ao33 y215.length co33)∧nb k_ (.slice Ao41 t228.length co41)∧nb k_ (.slice Ao45 t235.length co45)∧nb k_ v240∧nb k_ (.slice Ao58 t249.length co58)∧nb k_ (.slice Ao69 t260.length co69)∧nb k_ (.slice Ao78 t268.length co78)) (.slice Ao37 t221.length co37) t221):=⟨(by rw [hw];exact (by (with_reducible repeat (first|apply Kd.S_alloc|apply Kd.S_drewN|apply Kd.S_drew));exact Kd.S_mono (Kd.S_far (p:=⟨gb272,1,none⟩) (Kd.S_far (p:=⟨gb272,0,none⟩) (Kd.S_types HO223.out BK272.out (by decide)) (fun _ hk=>hk.2) (.slice Ao73 t265.length co73)) (fun _ hk=>hk.2) (.slice Ao78 t268.length co78)) (fun _ hk=>⟨hk.1.1.1.1.1.1,⟨hk.1.1.1.1.1.2.1,⟨hk.1.1.1.1.1.2.2.1,⟨hk.1.1.1.1.1.2.2.2.1,⟨hk.1.1.1.1.1.2.2.2.2,⟨hk.1.1.1.1.2,⟨hk.1.1.1.2,⟨hk.1.1.2,hk.1.2⟩⟩⟩⟩⟩⟩⟩⟩)))⟩;have n7_ : Aside0 (Kd.S (Kd.slice 5 (Kd.int .u8)) 26 w79 w.heap.size (fun k_=>nb k_ (.slice Ao24 t200.length co24)∧nb k_ (.slice Ao28 t208.length co28)∧nb k_ (.slice Ao33 y215.length co33)∧nb k_ (.slice Ao35 t218.length co35)∧nb k_ (.slice Ao43 t232.length co43)∧nb k_ v240∧nb k_ (.slice Ao55 t246.length co55)∧nb k_ (.slice Ao65 t257.length co65)∧nb k_ (.slice Ao73 t265.length co73)) (.slice Ao39 t225.length co39) t225):=⟨(by rw [hw];exact (by (with_reducible repeat (first|apply Kd.S_alloc|apply Kd.S_drewN|apply Kd.S_drew));exact Kd.S_mono (Kd.S_far (p:=⟨gb272,1,none⟩) (Kd.S_far (p:=⟨gb272,0,none⟩) (Kd.S_types HO227.out BK272.out (by decide)) (fun _ hk=>hk.2) (.slice Ao73 t265.length co73)) (fun _ hk=>hk.2) (.slice Ao78 t268.length co78)) (fun _ hk=>⟨hk.1.1.1.1.1.1,⟨hk.1.1.1.1.1.2.1,⟨hk.1.1.1.1.1.2.2.1,⟨hk.1.1.1.1.1.2.2.2.1,⟨hk.1.1.1.1.1.2.2.2.2,⟨hk.1.1.1.1.2,⟨hk.1.1.1.2,⟨hk.1.1.2,hk.1.2⟩⟩⟩⟩⟩⟩⟩⟩)))⟩;have n8_ : Aside0 (Kd.S k42 42 w79 w.heap.size (fun k_=>nb k_ (.slice Ao26 t203.length co26)∧nb k_ (.slice Ao30 t211.length co30)∧nb k_ (.slice Ao33 y215.length co33)∧nb k_ (.slice Ao37 t221.length co37)∧nb k_ (.slice Ao45 t235.length co45)∧nb k_ v240∧nb k_ (.slice Ao58 t249.length co58)∧nb k_ (.slice Ao69 t260.length co69)∧nb k_ (.slice Ao78 t268.length co78)) (.slice Ao41 t228.length co41) t228):=⟨(by rw [hw];exact (by (with_reducible repeat (first|apply Kd.S_alloc|apply Kd.S_drewN|apply Kd.S_drew));exact Kd.S_mono (Kd.S_far (p:=⟨gb272,1,none⟩) (Kd.S_far (p:=⟨gb272,0,none⟩) (Kd.S_types HO230.out BK272.out (by decide)) (fun _ hk=>hk.2) (.slice Ao73 t265.length co73)) (fun _ hk=>hk.2) (.slice Ao78 t268.length co78)) (fun _ hk=>⟨hk.1.1.1.1.1.1,⟨hk.1.1.1.1.1.2.1,⟨hk.1.1.1.1.1.2.2.1,⟨hk.1.1.1.1.1.2.2.2.1,⟨hk.1.1.1.1.1.2.2.2.2,⟨hk.1.1.1.1.2,⟨hk.1.1.1.2,⟨hk.1.1.2,hk.1.2⟩⟩⟩⟩⟩⟩⟩⟩)))⟩;have n9_ : Aside0 (Kd.S (Kd.slice 5 (Kd.int .u8)) 26 w79 w.heap.size (fun k_=>nb k_ (.slice Ao24 t200.length co24)∧nb k_ (.slice Ao28 t208.length co28)∧nb k_ (.slice Ao33 y215.length co33)∧nb k_ (.slice Ao35 t218.length co35)∧nb k_ (.slice Ao39 t225.length co39)∧nb k_ v240∧nb k_ (.slice Ao55 t246.length co55)∧nb k_ (.slice Ao65 t257.length co65)∧nb k_ (.slice Ao73 t265.length co73)) (.slice Ao43 t232.length co43) t232):=⟨(by rw [hw];exact (by (with_reducible repeat (first|apply Kd.S_alloc|apply Kd.S_drewN|apply Kd.S_drew));exact Kd.S_mono (Kd.S_far (p:=⟨gb272,1,none⟩) (Kd.S_far (p:=⟨gb272,0,none⟩) (Kd.S_types HO234.out BK272.out (by decide)) (fun _ hk=>hk.2) (.slice Ao73 t265.length co73)) (fun _ hk=>hk.2) (.slice Ao78 t268.length co78)) (fun _ hk=>⟨hk.1.1.1.1.1.1,⟨hk.1.1.1.1.1.2.1,⟨hk.1.1.1.1.1.2.2.1,⟨hk.1.1.1.1.1.2.2.2.1,⟨hk.1.1.1.1.1.2.2.2.2,⟨hk.1.1.1.1.2,⟨hk.1.1.1.2,⟨hk.1.1.2,hk.1.2⟩⟩⟩⟩⟩⟩⟩⟩)))⟩;have n10_ : Aside0 (Kd.S k42 42 w79 w.heap.size (fun k_=>nb k_ (.slice Ao26 t203.length co26)∧nb k_ (.slice Ao30 t211.length co30)∧nb k_ (.slice Ao33 y215.length co33)∧nb k_ (.slice Ao37 t221.length co37)∧nb k_ (.slice Ao41 t228.length co41)∧nb k_ v240∧nb k_ (.slice Ao58 t249.length co58)∧nb k_ (.slice Ao69 t260.length co69)∧nb k_ (.slice Ao78 t268.length co78)) (.slice Ao45 t235.length co45) t235):=⟨(by rw [hw];exact (by (with_reducible repeat (first|apply Kd.S_alloc|apply Kd.S_drewN|apply Kd.S_drew));exact Kd.S_mono (Kd.S_far (p:=⟨gb272,1,none⟩) (Kd.S_far (p:=⟨gb272,0,none⟩) (Kd.S_types HO237.out BK272.out (by decide)) (fun _ hk=>hk.2) (.slice Ao73 t265.length co73)) (fun _ hk=>hk.2) (.slice Ao78 t268.length co78)) (fun _ hk=>⟨hk.1.1.1.1.1.1,⟨hk.1.1.1.1.1.2.1,⟨hk.1.1.1.1.1.2.2.1,⟨hk.1.1.1.1.1.2.2.2.1,⟨hk.1.1.1.1.1.2.2.2.2,⟨hk.1.1.1.1.2,⟨hk.1.1.1.2,⟨hk.1.1.2,hk.1.2⟩⟩⟩⟩⟩⟩⟩⟩)))⟩;have n11_ : Aside0 (Kd.R (Kd.int .u8) 5 w79 w.heap.size (fun k_=>nb k_ (.slice Ao33 y215.length co33)) v240 t239):=⟨(by rw [hw];exact (by (with_reducible repeat (first|apply ra|apply rb|apply rc));exact rm (Kd.R_far (p:=⟨gb272,1,none⟩) (Kd.R_far (p:=⟨gb272,0,none⟩) (Kd.R_types HO241.out BK272.out (by decide)) (fun _ hk=>hk.2) (.slice Ao73 t265.length co73)) (fun _ hk=>hk.2) (.slice Ao78 t268.length co78)) (fun _ hk=>hk.1.2)))⟩;have n12_ : Aside0 (Kd.R (Kd.int .i64) 3 w79 w.heap.size (fun k_=>nb k_ (.slice Ao62 y254.length co62)) (.slice Ao52 y243.length co52) y243):=⟨(by rw [hw];exact (by (with_reducible repeat (first|apply ra|apply rb|apply rc));exact rm (Kd.R_far (p:=⟨gb272,1,none⟩) (Kd.R_far (p:=⟨gb272,0,none⟩) (Kd.R_types HO245.out BK272.out (by decide)) (fun _ hk=>hk.2) (.slice Ao73 t265.length co73)) (fun _ hk=>hk.2) (.slice Ao78 t268.length co78)) (fun _ hk=>hk.1.2)))⟩;have n13_ : Aside0 (Kd.S (Kd.slice 5 (Kd.int .u8)) 26 w79 w.heap.size (fun k_=>nb k_ (.slice Ao24 t200.length co24)∧nb k_ (.slice Ao28 t208.length co28)∧nb k_ (.slice Ao33 y215.length co33)∧nb k_ (.slice Ao35 t218.length co35)∧nb k_ (.slice Ao39 t225.length co39)∧nb k_ (.slice Ao43 t232.length co43)∧nb k_ v240∧nb k_ (.slice Ao65 t257.length co65)∧nb k_ (.slice Ao73 t265.length co73)) (.slice Ao55 t246.length co55) t246):=⟨(by rw [hw];exact (by (with_reducible repeat (first|apply Kd.S_alloc|apply Kd.S_drewN|apply Kd.S_drew));exact Kd.S_mono (Kd.S_far (p:=⟨gb272,1,none⟩) (Kd.S_far (p:=⟨gb272,0,none⟩) (Kd.S_types HO248.out BK272.out (by decide)) (fun _ hk=>hk.2) (.slice Ao73 t265.length co73)) (fun _ hk=>hk.2) (.slice Ao78 t268.length co78)) (fun _ hk=>⟨hk.1.1.1.1.1.1.1.1.1.2,⟨hk.1.1.1.1.1.1.1.1.2,⟨hk.1.1.1.1.1.1.1.2,⟨hk.1.1.1.1.1.1.2,⟨hk.1.1.1.1.1.2,⟨hk.1.1.1.1.2,⟨hk.1.1.1.2,⟨hk.1.1.2,hk.1.2⟩⟩⟩⟩⟩⟩⟩⟩)))⟩;have n14_ : Aside0 (Kd.S k42 42 w79 w.heap.size (fun k_=>nb k_ (.slice Ao26 t203.length co26)∧nb k_ (.slice Ao30 t211.length co30)∧nb k_ (.slice Ao33 y215.length co33)∧nb k_ (.slice Ao37 t221.length co37)∧nb k_ (.slice Ao41 t228.length co41)∧nb k_ (.slice Ao45 t235.length co45)∧nb k_ v240∧nb k_ (.slice Ao69 t260.length co69)∧nb k_ (.slice Ao78 t268.length co78)) (.slice Ao58 t249.length co58) t249):=⟨(by rw [hw];exact (by (with_reducible repeat (first|apply Kd.S_alloc|apply Kd.S_drewN|apply Kd.S_drew));exact Kd.S_mono (Kd.S_far (p:=⟨gb272,1,none⟩) (Kd.S_far (p:=⟨gb272,0,none⟩) (Kd.S_types HO251.out BK272.out (by decide)) (fun _ hk=>hk.2) (.slice Ao73 t265.length co73)) (fun _ hk=>hk.2) (.slice Ao78 t268.length co78)) (fun _ hk=>⟨hk.1.1.1.1.1.1.1.1.1.2,⟨hk.1.1.1.1.1.1.1.1.2,⟨hk.1.1.1.1.1.1.1.2,⟨hk.1.1.1.1.1.1.2,⟨hk.1.1.1.1.1.2,⟨hk.1.1.1.1.2,⟨hk.1.1.1.2,⟨hk.1.1.2,hk.1.2⟩⟩⟩⟩⟩⟩⟩⟩)))⟩;have n15_ : Aside0 (Kd.R (Kd.int .i64) 3 w79 w.heap.size (fun k_=>nb k_ (.slice Ao52 y243.length co52)) (.slice Ao62 y254.length co62) y254):=⟨(by rw [hw];exact (by (with_reducible repeat (first|apply ra|apply rb|apply rc));exact rm (Kd.R_far (p:=⟨gb272,1,none⟩) (Kd.R_far (p:=⟨gb272,0,none⟩) (Kd.R_types HO256.out BK272.out (by decide)) (fun _ hk=>hk.2) (.slice Ao73 t265.length co73)) (fun _ hk=>hk.2) (.slice Ao78 t268.length co78)) (fun _ hk=>hk.1.2)))⟩;have n16_ : Aside0 (Kd.S (Kd.slice 5 (Kd.int .u8)) 26 w79 w.heap.size (fun k_=>nb k_ (.slice Ao24 t200.length co24)∧nb k_ (.slice Ao28 t208.length co28)∧nb k_ (.slice Ao33 y215.length co33)∧nb k_ (.slice Ao35 t218.length co35)∧nb k_ (.slice Ao39 t225.length co39)∧nb k_ (.slice Ao43 t232.length co43)∧nb k_ v240∧nb k_ (.slice Ao55 t246.length co55)∧nb k_ (.slice Ao73 t265.length co73)) (.slice Ao65 t257.length co65) t257):=⟨(by rw [hw];exact (by (with_reducible repeat (first|apply Kd.S_alloc|apply Kd.S_drewN|apply Kd.S_drew));exact Kd.S_mono (Kd.S_far (p:=⟨gb272,1,none⟩) (Kd.S_far (p:=⟨gb272,0,none⟩) (Kd.S_types HO259.out BK272.out (by decide)) (fun _ hk=>hk.2) (.slice Ao73 t265.length co73)) (fun _ hk=>hk.2) (.slice Ao78 t268.length co78)) (fun _ hk=>⟨hk.1.1.1.1.1.1.1.1.1.2,⟨hk.1.1.1.1.1.1.1.1.2,⟨hk.1.1.1.1.1.1.1.2,⟨hk.1.1.1.1.1.1.2,⟨hk.1.1.1.1.1.2,⟨hk.1.1.1.1.2,⟨hk.1.1.1.2,⟨hk.1.1.2,hk.1.2⟩⟩⟩⟩⟩⟩⟩⟩)))⟩;have n17_ : Aside0 (Kd.S k42 42 w79 w.heap.size (fun k_=>nb k_ (.slice Ao26 t203.length co26)∧nb k_ (.slice Ao30 t211.length co30)∧nb k_ (.slice Ao33 y215.length co33)∧nb k_ (.slice Ao37 t221.length co37)∧nb k_ (.slice Ao41 t228.length co41)∧nb k_ (.slice Ao45 t235.length co45)∧nb k_ v240∧nb k_ (.slice Ao58 t249.length co58)∧nb k_ (.slice Ao78 t268.length co78)) (.slice Ao69 t260.length co69) t260):=⟨(by rw [hw];exact (by (with_reducible repeat (first|apply Kd.S_alloc|apply Kd.S_drewN|apply Kd.S_drew));exact Kd.S_mono (Kd.S_far (p:=⟨gb272,1,none⟩) (Kd.S_far (p:=⟨gb272,0,none⟩) (Kd.S_types HO262.out BK272.out (by decide)) (fun _ hk=>hk.2) (.slice Ao73 t265.length co73)) (fun _ hk=>hk.2) (.slice Ao78 t268.length co78)) (fun _ hk=>⟨hk.1.1.1.1.1.1.1.1.1.2,⟨hk.1.1.1.1.1.1.1.1.2,⟨hk.1.1.1.1.1.1.1.2,⟨hk.1.1.1.1.1.1.2,⟨hk.1.1.1.1.1.2,⟨hk.1.1.1.1.2,⟨hk.1.1.1.2,⟨hk.1.1.2,hk.1.2⟩⟩⟩⟩⟩⟩⟩⟩)))⟩;have n18_ : Aside0 (Kd.S (Kd.slice 5 (Kd.int .u8)) 26 w79 w.heap.size (fun k_=>nb k_ (.slice Ao24 t200.length co24)∧nb k_ (.slice Ao28 t208.length co28)∧nb k_ (.slice Ao33 y215.length co33)∧nb k_ (.slice Ao35 t218.length co35)∧nb k_ (.slice Ao39 t225.length co39)∧nb k_ (.slice Ao43 t232.length co43)∧nb k_ v240∧nb k_ (.slice Ao55 t246.length co55)∧nb k_ (.slice Ao65 t257.length co65)) (.slice Ao73 t265.length co73) t265):=⟨(by rw [hw];exact (by (with_reducible repeat (first|apply Kd.S_alloc|apply Kd.S_drewN|apply Kd.S_drew));exact Kd.S_mono (Kd.S_far (p:=⟨gb272,1,none⟩) (Kd.S_far (p:=⟨gb272,0,none⟩) (Kd.S_types HO267.out BK272.out (by decide)) (fun _ hk=>hk.2) (.slice Ao73 t265.length co73)) (fun _ hk=>hk.2) (.slice Ao78 t268.length co78)) (fun _ hk=>⟨hk.1.1.1.1.1.1.1.1.1.2,⟨hk.1.1.1.1.1.1.1.1.2,⟨hk.1.1.1.1.1.1.1.2,⟨hk.1.1.1.1.1.1.2,⟨hk.1.1.1.1.1.2,⟨hk.1.1.1.1.2,⟨hk.1.1.1.2,⟨hk.1.1.2,hk.1.2⟩⟩⟩⟩⟩⟩⟩⟩)))⟩;have n19_ : Aside0 (Kd.S k42 42 w79 w.heap.size (fun k_=>nb k_ (.slice Ao26 t203.length co26)∧nb k_ (.slice Ao30 t211.length co30)∧nb k_ (.slice Ao33 y215.length co33)∧nb k_ (.slice Ao37 t221.length co37)∧nb k_ (.slice Ao41 t228.length co41)∧nb k_ (.slice Ao45 t235.length co45)∧nb k_ v240∧nb k_ (.slice Ao58 t249.length co58)∧nb k_ (.slice Ao69 t260.length co69)) (.slice Ao78 t268.length co78) t268):=⟨(by rw [hw];exact (by (with_reducible repeat (first|apply Kd.S_alloc|apply Kd.S_drewN|apply Kd.S_drew));exact Kd.S_mono (Kd.S_far (p:=⟨gb272,1,none⟩) (Kd.S_far (p:=⟨gb272,0,none⟩) (Kd.S_types HO270.out BK272.out (by decide)) (fun _ hk=>hk.2) (.slice Ao73 t265.length co73)) (fun _ hk=>hk.2) (.slice Ao78 t268.length co78)) (fun _ hk=>⟨hk.1.1.1.1.1.1.1.1.1.2,⟨hk.1.1.1.1.1.1.1.1.2,⟨hk.1.1.1.1.1.1.1.2,⟨hk.1.1.1.1.1.1.2,⟨hk.1.1.1.1.1.2,⟨hk.1.1.1.1.2,⟨hk.1.1.1.2,⟨hk.1.1.2,hk.1.2⟩⟩⟩⟩⟩⟩⟩⟩)))⟩;have n20_ : Aside0 (w79.heap[gb207]? = some (.cells #[.slice Ao43 t232.length co43,.slice Ao45 t235.length co45] 25 (0,0))):=⟨(by rw [hw];exact (by (with_reducible repeat (first|refine blk_drewN ?_ _|refine blk_drew ?_|refine blk_alloc ?_ _));refine blk_far ?_ NB207_272.out _;(with_reducible repeat (first|refine blk_drewN ?_ _|refine blk_drew ?_|refine blk_alloc ?_ _));refine blk_far ?_ NB207_272.out _;(with_reducible repeat (first|refine blk_drewN ?_ _|refine blk_drew ?_|refine blk_alloc ?_ _));exact BK207.out))⟩;have n21_ : Aside0 (w79.heap[gb253]? = some (.cells #[.slice Ao55 t246.length co55,.slice Ao58 t249.length co58] 25 (0,0))):=⟨(by rw [hw];exact (by (with_reducible repeat (first|refine blk_drewN ?_ _|refine blk_drew ?_|refine blk_alloc ?_ _));refine blk_far ?_ NB253_272.out _;(with_reducible repeat (first|refine blk_drewN ?_ _|refine blk_drew ?_|refine blk_alloc ?_ _));refine blk_far ?_ NB253_272.out _;(with_reducible repeat (first|refine blk_drewN ?_ _|refine blk_drew ?_|refine blk_alloc ?_ _));exact BK253.out))⟩;have n22_ : Aside0 (w79.heap[gb264]? = some (.cells #[.slice Ao65 t257.length co65,.slice Ao69 t260.length co69] 25 (0,0))):=⟨(by rw [hw];exact (by (with_reducible repeat (first|refine blk_drewN ?_ _|refine blk_drew ?_|refine blk_alloc ?_ _));refine blk_far ?_ NB264_272.out _;(with_reducible repeat (first|refine blk_drewN ?_ _|refine blk_drew ?_|refine blk_alloc ?_ _));refine blk_far ?_ NB264_272.out _;(with_reducible repeat (first|refine blk_drewN ?_ _|refine blk_drew ?_|refine blk_alloc ?_ _));exact BK264.out))⟩;have n23_ : Aside0 (w79.heap[gb272]? = some (.cells #[.slice Ao73 t265.length co73,.slice Ao78 t268.length co78] 25 (0,0))):=⟨(by rw [hw];exact (by (with_reducible repeat (first|refine blk_drewN ?_ _|refine blk_drew ?_|refine blk_alloc ?_ _));refine blk_put (cs:=#[.slice Ao73 t265.length co73,.slice none 0 0]) ?_ 1 _ rfl;(with_reducible repeat (first|refine blk_drewN ?_ _|refine blk_drew ?_|refine blk_alloc ?_ _));refine blk_put (cs:=#[.slice none 0 0,.slice none 0 0]) ?_ 0 _ rfl;(with_reducible repeat (first|refine blk_drewN ?_ _|refine blk_drew ?_|refine blk_alloc ?_ _));exact BK272.out))⟩;have n24_ : Aside0 (Below w.heap.size w w79):=⟨(by rw [hw];exact (by repeat (first|(with_reducible first|exact HB.out|apply ba|apply bb|apply bc|refine below_set ?_ GE207.out|refine below_set ?_ GE253.out|refine below_set ?_ GE264.out|refine below_set ?_ GE272.out)|exact HB.out)))⟩;clear hw;clear HO202;clear HO205;clear HO210;clear HO213;clear HO217;clear HO220;clear HO223;clear HO227;clear HO230;clear HO234;clear HO237;clear HO241;clear HO245;clear HO248;clear HO251;clear HO256;clear HO259;clear HO262;clear HO267;clear HO270;clear BK207;clear BK253;clear BK264;clear BK272;clear HB;have HO202:=n0_;have HO205:=n1_;have HO210:=n2_;have HO213:=n3_;have HO217:=n4_;have HO220:=n5_;have HO223:=n6_;have HO227:=n7_;have HO230:=n8_;have HO234:=n9_;have HO237:=n10_;have HO241:=n11_;have HO245:=n12_;have HO248:=n13_;have HO251:=n14_;have HO256:=n15_;have HO259:=n16_;have HO262:=n17_;have HO267:=n18_;have HO270:=n19_;have BK207:=n20_;have BK253:=n21_;have BK264:=n22_;have BK272:=n23_;have HB:=n24_;clear n0_ n1_ n2_ n3_ n4_ n5_ n6_ n7_ n8_ n9_ n10_ n11_ n12_ n13_ n14_ n15_ n16_ n17_ n18_ n19_ n20_ n21_ n22_ n23_ n24_;have hcz80_0 : w79.cell? ⟨gb253,0,none⟩ = some (.slice Ao55 t246.length co55):=(blk_cell BK253.out 0).trans rfl;have hcz80_1 : w79.cell? ⟨gb253,1,none⟩ = some (.slice Ao58 t249.length co58):=(blk_cell BK253.out 1).trans rfl;have hfz80_0:=blk_frozen BK253.out 0;have hfz80_1:=blk_frozen BK253.out 1)|((with_reducible refine gate_callee (f:=16) rfl ?_);refine goesL_ (some 93) rfl rfl Try.func16 (by kernel_rfl) rfl #[.agg #[.slice Ao55 t246.length co55,.slice Ao58 t249.length co58],.int .i64 1] rfl (by (try simp only [List.map_toArray,List.map_cons,List.map_nil]);first|done|rfl|(simp only [List.length_drop,List.length_take];rfl)) ?_;(with_reducible refine (device_Read.calls kj4 (fun k_=>(((((((((((((((nb k_ (.slice Ao24 t200.length co24)∧(nb k_ (.slice Ao28 t208.length co28)∧(nb k_ (.slice Ao33 y215.length co33)∧(nb k_ (.slice Ao35 t218.length co35)∧(nb k_ (.slice Ao39 t225.length co39)∧(nb k_ (.slice Ao43 t232.length co43)∧(nb k_ v240∧(nb k_ (.slice Ao65 t257.length co65)∧nb k_ (.slice Ao73 t265.length co73)))))))))∧nb k_ (.slice Ao26 t203.length co26))∧nb k_ (.slice Ao30 t211.length co30))∧nb k_ (.slice Ao37 t221.length co37))∧nb k_ (.slice Ao41 t228.length co41))∧nb k_ (.slice Ao45 t235.length co45))∧nb k_ (.slice Ao52 y243.length co52))∧nb k_ (.slice Ao58 t249.length co58))∧nb k_ (.slice Ao62 y254.length co62))∧nb k_ (.slice Ao69 t260.length co69))∧nb k_ (.slice Ao78 t268.length co78))∧k_≠gb207)∧k_≠gb253)∧k_≠gb264)∧k_≠gb272)) _ _ t246 (fun k_=>(((((((((((((((nb k_ (.slice Ao26 t203.length co26)∧(nb k_ (.slice Ao30 t211.length co30)∧(nb k_ (.slice Ao33 y215.length co33)∧(nb k_ (.slice Ao37 t221.length co37)∧(nb k_ (.slice Ao41 t228.length co41)∧(nb k_ (.slice Ao45 t235.length co45)∧(nb k_ v240∧(nb k_ (.slice Ao69 t260.length co69)∧nb k_ (.slice Ao78 t268.length co78)))))))))∧nb k_ (.slice Ao24 t200.length co24))∧nb k_ (.slice Ao28 t208.length co28))∧nb k_ (.slice Ao35 t218.length co35))∧nb k_ (.slice Ao39 t225.length co39))∧nb k_ (.slice Ao43 t232.length co43))∧nb k_ (.slice Ao52 y243.length co52))∧nb k_ (.slice Ao55 t246.length co55))∧nb k_ (.slice Ao62 y254.length co62))∧nb k_ (.slice Ao65 t257.length co65))∧nb k_ (.slice Ao73 t265.length co73))∧k_≠gb207)∧k_≠gb253)∧k_≠gb264)∧k_≠gb272)) _ _ t249 1 t273 t276 _ ?side1 ?side2 A19.out).mono ?_);(case side1=>exact Kd.S_V (Kd.S_types (Kd.S_types (Kd.S_types (Kd.S_types (Kd.S_apart' (Kd.S_apart' (Kd.S_apart' (Kd.S_apart' (Kd.S_apart' (Kd.S_apart' (Kd.S_apart' (Kd.S_apart' (Kd.S_apart' (Kd.S_apart' (HO248.out) (Kd.S_typed HO205.out) (by decide)) (Kd.S_typed HO213.out) (by decide)) (Kd.S_typed HO223.out) (by decide)) (Kd.S_typed HO230.out) (by decide)) (Kd.S_typed HO237.out) (by decide)) (Kd.R_typed HO245.out) (by decide)) (Kd.S_typed HO251.out) (by decide)) (Kd.R_typed HO256.out) (by decide)) (Kd.S_typed HO262.out) (by decide)) (Kd.S_typed HO270.out) (by decide)) BK207.out (by decide)) BK253.out (by decide)) BK264.out (by decide)) BK272.out (by decide)));(case side2=>exact Kd.S_V (Kd.S_types (Kd.S_types (Kd.S_types (Kd.S_types (Kd.S_apart' (Kd.S_apart' (Kd.S_apart' (Kd.S_apart' (Kd.S_apart' (Kd.S_apart' (Kd.S_apart' (Kd.S_apart' (Kd.S_apart' (Kd.S_apart' (HO251.out) (Kd.S_typed HO202.out) (by decide)) (Kd.S_typed HO210.out) (by decide)) (Kd.S_typed HO220.out) (by decide)) (Kd.S_typed HO227.out) (by decide)) (Kd.S_typed HO234.out) (by decide)) (Kd.R_typed HO245.out) (by decide)) (Kd.S_typed HO248.out) (by decide)) (Kd.R_typed HO256.out) (by decide)) (Kd.S_typed HO259.out) (by decide)) (Kd.S_typed HO267.out) (by decide)) BK207.out (by decide)) BK253.out (by decide)) BK264.out (by decide)) BK272.out (by decide)));rintro e w81 ⟨v274,rfl,ho0,hb⟩;refine ⟨_,rfl,?_⟩;have n0_:=A_ (Kd.S_elder' (by (with_reducible repeat (first|apply Kd.S_alloc|apply Kd.S_drewN|apply Kd.S_drew));exact HO202.out) (rs ho0) hb);have n1_:=A_ (Kd.S_elder' (by (with_reducible repeat (first|apply Kd.S_alloc|apply Kd.S_drewN|apply Kd.S_drew));exact HO205.out) (rs ho0) hb);have n2_:=A_ (Kd.S_elder' (by (with_reducible repeat (first|apply Kd.S_alloc|apply Kd.S_drewN|apply Kd.S_drew));exact HO210.out) (rs ho0) hb);have n3_:=A_ (Kd.S_elder' (by (with_reducible repeat (first|apply Kd.S_alloc|apply Kd.S_drewN|apply Kd.S_drew));exact HO213.out) (rs ho0) hb);have n4_:=A_ (re (by (with_reducible repeat (first|apply ra|apply rb|apply rc));exact HO217.out) (rs ho0) hb);have n5_:=A_ (Kd.S_elder' (by (with_reducible repeat (first|apply Kd.S_alloc|apply Kd.S_drewN|apply Kd.S_drew));exact HO220.out) (rs ho0) hb);have n6_:=A_ (Kd.S_elder' (by (with_reducible repeat (first|apply Kd.S_alloc|apply Kd.S_drewN|apply Kd.S_drew));exact HO223.out) (rs ho0) hb);have n7_:=A_ (Kd.S_elder' (by (with_reducible repeat (first|apply Kd.S_alloc|apply Kd.S_drewN|apply Kd.S_drew));exact HO227.out) (rs ho0) hb);have n8_:=A_ (Kd.S_elder' (by (with_reducible repeat (first|apply Kd.S_alloc|apply Kd.S_drewN|apply Kd.S_drew));exact HO230.out) (rs ho0) hb);have n9_:=A_ (Kd.S_elder' (by (with_reducible repeat (first|apply Kd.S_alloc|apply Kd.S_drewN|apply Kd.S_drew));exact HO234.out) (rs ho0) hb);have n10_:=A_ (Kd.S_elder' (by (with_reducible repeat (first|apply Kd.S_alloc|apply Kd.S_drewN|apply Kd.S_drew));exact HO237.out) (rs ho0) hb);have n11_:=A_ (re (by (with_reducible repeat (first|apply ra|apply rb|apply rc));exact HO241.out) (rs ho0) hb);have n12_:=A_ (rw_ (by (with_reducible repeat (first|apply ra|apply rb|apply rc));exact HO245.out) hb);have n13_:=A_ (Kd.S_elder' (by (with_reducible repeat (first|apply Kd.S_alloc|apply Kd.S_drewN|apply Kd.S_drew));exact HO248.out) (rs ho0) hb);have n14_:=A_ (Kd.S_elder' (by (with_reducible repeat (first|apply Kd.S_alloc|apply Kd.S_drewN|apply Kd.S_drew));exact HO251.out) (rs ho0) hb);have n15_:=A_ (rw_ (by (with_reducible repeat (first|apply ra|apply rb|apply rc));exact HO256.out) hb);have n16_:=A_ (Kd.S_elder' (by (with_reducible repeat (first|apply Kd.S_alloc|apply Kd.S_drewN|apply Kd.S_drew));exact HO259.out) (rs ho0) hb);have n17_:=A_ (Kd.S_elder' (by (with_reducible repeat (first|apply Kd.S_alloc|apply Kd.S_drewN|apply Kd.S_drew));exact HO262.out) (rs ho0) hb);have n18_:=A_ (Kd.S_elder' (by (with_reducible repeat (first|apply Kd.S_alloc|apply Kd.S_drewN|apply Kd.S_drew));exact HO267.out) (rs ho0) hb);have n19_:=A_ (Kd.S_elder' (by (with_reducible repeat (first|apply Kd.S_alloc|apply Kd.S_drewN|apply Kd.S_drew));exact HO270.out) (rs ho0) hb);have n20_:=A_ (Kd.R_lower (rn (rn (rm (ok':=fun k_=>True) ho0 (fun _ hk_=>trivial)) (rl (by (with_reducible repeat (first|apply ra|apply rb|apply rc));exact HO217.out))) (rl (by (with_reducible repeat (first|apply ra|apply rb|apply rc));exact HO241.out))) (below_size (by repeat (first|(with_reducible first|exact HB.out|apply ba|apply bb|apply bc|refine below_set ?_ GE207.out|refine below_set ?_ GE253.out|refine below_set ?_ GE264.out|refine below_set ?_ GE272.out)|exact HB.out))));have n21_:=A_ (blk_below (g:=gb207) (o:=.cells #[.slice Ao43 t232.length co43,.slice Ao45 t235.length co45] 25 (0,0)) (by (with_reducible repeat (first|refine blk_drewN ?_ _|refine blk_drew ?_|refine blk_alloc ?_ _));exact BK207.out) hb);have n22_:=A_ (blk_below (g:=gb253) (o:=.cells #[.slice Ao55 t246.length co55,.slice Ao58 t249.length co58] 25 (0,0)) (by (with_reducible repeat (first|refine blk_drewN ?_ _|refine blk_drew ?_|refine blk_alloc ?_ _));exact BK253.out) hb);have n23_:=A_ (blk_below (g:=gb264) (o:=.cells #[.slice Ao65 t257.length co65,.slice Ao69 t260.length co69] 25 (0,0)) (by (with_reducible repeat (first|refine blk_drewN ?_ _|refine blk_drew ?_|refine blk_alloc ?_ _));exact BK264.out) hb);have n24_:=A_ (blk_below (g:=gb272) (o:=.cells #[.slice Ao73 t265.length co73,.slice Ao78 t268.length co78] 25 (0,0)) (by (with_reducible repeat (first|refine blk_drewN ?_ _|refine blk_drew ?_|refine blk_alloc ?_ _));exact BK272.out) hb);have n25_:=A_ (below_step (by repeat (first|(with_reducible first|exact HB.out|apply ba|apply bb|apply bc|refine below_set ?_ GE207.out|refine below_set ?_ GE253.out|refine below_set ?_ GE264.out|refine below_set ?_ GE272.out)|exact HB.out)) hb);clear HO202;clear HO205;clear HO210;clear HO213;clear HO217;clear HO220;clear HO223;clear HO227;clear HO230;clear HO234;clear HO237;clear HO241;clear HO245;clear HO248;clear HO251;clear HO256;clear HO259;clear HO262;clear HO267;clear HO270;clear BK207;clear BK253;clear BK264;clear BK272;clear HB;have HO202:=n0_;have HO205:=n1_;have HO210:=n2_;have HO213:=n3_;have HO217:=n4_;have HO220:=n5_;have HO223:=n6_;have HO227:=n7_;have HO230:=n8_;have HO234:=n9_;have HO237:=n10_;have HO241:=n11_;have HO245:=n12_;have HO248:=n13_;have HO251:=n14_;have HO256:=n15_;have HO259:=n16_;have HO262:=n17_;have HO267:=n18_;have HO270:=n19_;have HO275:=n20_;have BK207:=n21_;have BK253:=n22_;have BK264:=n23_;have BK272:=n24_;have HB:=n25_;clear n0_ n1_ n2_ n3_ n4_ n5_ n6_ n7_ n8_ n9_ n10_ n11_ n12_ n13_ n14_ n15_ n16_ n17_ n18_ n19_ n20_ n21_ n22_ n23_ n24_ n25_;(try clear hb);(try clear hb2);(try clear hk);(try clear hi);(try clear ho0);have hcz82_0 : w81.cell? ⟨gb253,0,none⟩ = some (.slice Ao55 t246.length co55):=(blk_cell BK253.out 0).trans rfl;have hcz82_1 : w81.cell? ⟨gb253,1,none⟩ = some (.slice Ao58 t249.length co58):=(blk_cell BK253.out 1).trans rfl;have hfz82_0:=blk_frozen BK253.out 0;have hfz82_1:=blk_frozen BK253.out 1)|((with_reducible refine gate_callee (f:=16) rfl ?_);refine goesL_ (some 98) rfl rfl Try.func16 (by kernel_rfl) rfl #[.agg #[.slice Ao55 t246.length co55,.slice Ao58 t249.length co58],.int .i64 2] rfl (by (try simp only [List.map_toArray,List.map_cons,List.map_nil]);first|done|rfl|(simp only [List.length_drop,List.length_take];rfl)) ?_;(with_reducible refine (device_Read.calls kj4 (fun k_=>((((((((((((((((nb k_ (.slice Ao24 t200.length co24)∧(nb k_ (.slice Ao28 t208.length co28)∧(nb k_ (.slice Ao33 y215.length co33)∧(nb k_ (.slice Ao35 t218.length co35)∧(nb k_ (.slice Ao39 t225.length co39)∧(nb k_ (.slice Ao43 t232.length co43)∧(nb k_ v240∧(nb k_ (.slice Ao65 t257.length co65)∧nb k_ (.slice Ao73 t265.length co73)))))))))∧nb k_ v274)∧nb k_ (.slice Ao26 t203.length co26))∧nb k_ (.slice Ao30 t211.length co30))∧nb k_ (.slice Ao37 t221.length co37))∧nb k_ (.slice Ao41 t228.length co41))∧nb k_ (.slice Ao45 t235.length co45))∧nb k_ (.slice Ao52 y243.length co52))∧nb k_ (.slice Ao58 t249.length co58))∧nb k_ (.slice Ao62 y254.length co62))∧nb k_ (.slice Ao69 t260.length co69))∧nb k_ (.slice Ao78 t268.length co78))∧k_≠gb207)∧k_≠gb253)∧k_≠gb264)∧k_≠gb272)) _ _ t246 (fun k_=>((((((((((((((((nb k_ (.slice Ao26 t203.length co26)∧(nb k_ (.slice Ao30 t211.length co30)∧(nb k_ (.slice Ao33 y215.length co33)∧(nb k_ (.slice Ao37 t221.length co37)∧(nb k_ (.slice Ao41 t228.length co41)∧(nb k_ (.slice Ao45 t235.length co45)∧(nb k_ v240∧(nb k_ (.slice Ao69 t260.length co69)∧nb k_ (.slice Ao78 t268.length co78)))))))))∧nb k_ v274)∧nb k_ (.slice Ao24 t200.length co24))∧nb k_ (.slice Ao28 t208.length co28))∧nb k_ (.slice Ao35 t218.length co35))∧nb k_ (.slice Ao39 t225.length co39))∧nb k_ (.slice Ao43 t232.length co43))∧nb k_ (.slice Ao52 y243.length co52))∧nb k_ (.slice Ao55 t246.length co55))∧nb k_ (.slice Ao62 y254.length co62))∧nb k_ (.slice Ao65 t257.length co65))∧nb k_ (.slice Ao73 t265.length co73))∧k_≠gb207)∧k_≠gb253)∧k_≠gb264)∧k_≠gb272)) _ _ t249 2 t277 t280 _ ?side1 ?side2 A20.out).mono ?_);(case side1=>exact Kd.S_V (Kd.S_types (Kd.S_types (Kd.S_types (Kd.S_types (Kd.S_apart' (Kd.S_apart' (Kd.S_apart' (Kd.S_apart' (Kd.S_apart' (Kd.S_apart' (Kd.S_apart' (Kd.S_apart' (Kd.S_apart' (Kd.S_apart' (HO248.out) (Kd.S_typed HO205.out) (by decide)) (Kd.S_typed HO213.out) (by decide)) (Kd.S_typed HO223.out) (by decide)) (Kd.S_typed HO230.out) (by decide)) (Kd.S_typed HO237.out) (by decide)) (Kd.R_typed HO245.out) (by decide)) (Kd.S_typed HO251.out) (by decide)) (Kd.R_typed HO256.out) (by decide)) (Kd.S_typed HO262.out) (by decide)) (Kd.S_typed HO270.out) (by decide)) BK207.out (by decide)) BK253.out (by decide)) BK264.out (by decide)) BK272.out (by decide)));(case side2=>exact Kd.S_V (Kd.S_types (Kd.S_types (Kd.S_types (Kd.S_types (Kd.S_apart' (Kd.S_apart' (Kd.S_apart' (Kd.S_apart' (Kd.S_apart' (Kd.S_apart' (Kd.S_apart' (Kd.S_apart' (Kd.S_apart' (Kd.S_apart' (HO251.out) (Kd.S_typed HO202.out) (by decide)) (Kd.S_typed HO210.out) (by decide)) (Kd.S_typed HO220.out) (by decide)) (Kd.S_typed HO227.out) (by decide)) (Kd.S_typed HO234.out) (by decide)) (Kd.R_typed HO245.out) (by decide)) (Kd.S_typed HO248.out) (by decide)) (Kd.R_typed HO256.out) (by decide)) (Kd.S_typed HO259.out) (by decide)) (Kd.S_typed HO267.out) (by decide)) BK207.out (by decide)) BK253.out (by decide)) BK264.out (by decide)) BK272.out (by decide)));rintro e w83 ⟨v278,rfl,ho0,hb⟩;refine ⟨_,rfl,?_⟩;have n0_:=A_ (Kd.S_elder' (by (with_reducible repeat (first|apply Kd.S_alloc|apply Kd.S_drewN|apply Kd.S_drew));exact HO202.out) (rs ho0) hb);have n1_:=A_ (Kd.S_elder' (by (with_reducible repeat (first|apply Kd.S_alloc|apply Kd.S_drewN|apply Kd.S_drew));exact HO205.out) (rs ho0) hb);have n2_:=A_ (Kd.S_elder' (by (with_reducible repeat (first|apply Kd.S_alloc|apply Kd.S_drewN|apply Kd.S_drew));exact HO210.out) (rs ho0) hb);have n3_:=A_ (Kd.S_elder' (by (with_reducible repeat (first|apply Kd.S_alloc|apply Kd.S_drewN|apply Kd.S_drew));exact HO213.out) (rs ho0) hb);have n4_:=A_ (re (by (with_reducible repeat (first|apply ra|apply rb|apply rc));exact HO217.out) (rs ho0) hb);have n5_:=A_ (Kd.S_elder' (by (with_reducible repeat (first|apply Kd.S_alloc|apply Kd.S_drewN|apply Kd.S_drew));exact HO220.out) (rs ho0) hb);have n6_:=A_ (Kd.S_elder' (by (with_reducible repeat (first|apply Kd.S_alloc|apply Kd.S_drewN|apply Kd.S_drew));exact HO223.out) (rs ho0) hb);have n7_:=A_ (Kd.S_elder' (by (with_reducible repeat (first|apply Kd.S_alloc|apply Kd.S_drewN|apply Kd.S_drew));exact HO227.out) (rs ho0) hb);have n8_:=A_ (Kd.S_elder' (by (with_reducible repeat (first|apply Kd.S_alloc|apply Kd.S_drewN|apply Kd.S_drew));exact HO230.out) (rs ho0) hb);have n9_:=A_ (Kd.S_elder' (by (with_reducible repeat (first|apply Kd.S_alloc|apply Kd.S_drewN|apply Kd.S_drew));exact HO234.out) (rs ho0) hb);have n10_:=A_ (Kd.S_elder' (by (with_reducible repeat (first|apply Kd.S_alloc|apply Kd.S_drewN|apply Kd.S_drew));exact HO237.out) (rs ho0) hb);have n11_:=A_ (re (by (with_reducible repeat (first|apply ra|apply rb|apply rc));exact HO241.out) (rs ho0) hb);have n12_:=A_ (rw_ (by (with_reducible repeat (first|apply ra|apply rb|apply rc));exact HO245.out) hb);have n13_:=A_ (Kd.S_elder' (by (with_reducible repeat (first|apply Kd.S_alloc|apply Kd.S_drewN|apply Kd.S_drew));exact HO248.out) (rs ho0) hb);have n14_:=A_ (Kd.S_elder' (by (with_reducible repeat (first|apply Kd.S_alloc|apply Kd.S_drewN|apply Kd.S_drew));exact HO251.out) (rs ho0) hb);have n15_:=A_ (rw_ (by (with_reducible repeat (first|apply ra|apply rb|apply rc));exact HO256.out) hb);have n16_:=A_ (Kd.S_elder' (by (with_reducible repeat (first|apply Kd.S_alloc|apply Kd.S_drewN|apply Kd.S_drew));exact HO259.out) (rs ho0) hb);have n17_:=A_ (Kd.S_elder' (by (with_reducible repeat (first|apply Kd.S_alloc|apply Kd.S_drewN|apply Kd.S_drew));exact HO262.out) (rs ho0) hb);have n18_:=A_ (Kd.S_elder' (by (with_reducible repeat (first|apply Kd.S_alloc|apply Kd.S_drewN|apply Kd.S_drew));exact HO267.out) (rs ho0) hb);have n19_:=A_ (Kd.S_elder' (by (with_reducible repeat (first|apply Kd.S_alloc|apply Kd.S_drewN|apply Kd.S_drew));exact HO270.out) (rs ho0) hb);have n20_:=A_ (re (by (with_reducible repeat (first|apply ra|apply rb|apply rc));exact HO275.out) (rs ho0) hb);have n21_:=A_ (Kd.R_lower (rn (rn (rn (rm (ok':=fun k_=>True) ho0 (fun _ hk_=>trivial)) (rl (by (with_reducible repeat (first|apply ra|apply rb|apply rc));exact HO217.out))) (rl (by (with_reducible repeat (first|apply ra|apply rb|apply rc));exact HO241.out))) (rl (by (with_reducible repeat (first|apply ra|apply rb|apply rc));exact HO275.out))) (below_size (by repeat (first|(with_reducible first|exact HB.out|apply ba|apply bb|apply bc|refine below_set ?_ GE207.out|refine below_set ?_ GE253.out|refine below_set ?_ GE264.out|refine below_set ?_ GE272.out)|exact HB.out))));have n22_:=A_ (blk_below (g:=gb207) (o:=.cells #[.slice Ao43 t232.length co43,.slice Ao45 t235.length co45] 25 (0,0)) (by (with_reducible repeat (first|refine blk_drewN ?_ _|refine blk_drew ?_|refine blk_alloc ?_ _));exact BK207.out) hb);have n23_:=A_ (blk_below (g:=gb253) (o:=.cells #[.slice Ao55 t246.length co55,.slice Ao58 t249.length co58] 25 (0,0)) (by (with_reducible repeat (first|refine blk_drewN ?_ _|refine blk_drew ?_|refine blk_alloc ?_ _));exact BK253.out) hb);have n24_:=A_ (blk_below (g:=gb264) (o:=.cells #[.slice Ao65 t257.length co65,.slice Ao69 t260.length co69] 25 (0,0)) (by (with_reducible repeat (first|refine blk_drewN ?_ _|refine blk_drew ?_|refine blk_alloc ?_ _));exact BK264.out) hb);have n25_:=A_ (blk_below (g:=gb272) (o:=.cells #[.slice Ao73 t265.length co73,.slice Ao78 t268.length co78] 25 (0,0)) (by (with_reducible repeat (first|refine blk_drewN ?_ _|refine blk_drew ?_|refine blk_alloc ?_ _));exact BK272.out) hb);have n26_:=A_ (below_step (by repeat (first|(with_reducible first|exact HB.out|apply ba|apply bb|apply bc|refine below_set ?_ GE207.out|refine below_set ?_ GE253.out|refine below_set ?_ GE264.out|refine below_set ?_ GE272.out)|exact HB.out)) hb);clear HO202;clear HO205;clear HO210;clear HO213;clear HO217;clear HO220;clear HO223;clear HO227;clear HO230;clear HO234;clear HO237;clear HO241;clear HO245;clear HO248;clear HO251;clear HO256;clear HO259;clear HO262;clear HO267;clear HO270;clear HO275;clear BK207;clear BK253;clear BK264;clear BK272;clear HB;have HO202:=n0_;have HO205:=n1_;have HO210:=n2_;have HO213:=n3_;have HO217:=n4_;have HO220:=n5_;have HO223:=n6_;have HO227:=n7_;have HO230:=n8_;have HO234:=n9_;have HO237:=n10_;have HO241:=n11_;have HO245:=n12_;have HO248:=n13_;have HO251:=n14_;have HO256:=n15_;have HO259:=n16_;have HO262:=n17_;have HO267:=n18_;have HO270:=n19_;have HO275:=n20_;have HO279:=n21_;have BK207:=n22_;have BK253:=n23_;have BK264:=n24_;have BK272:=n25_;have HB:=n26_;clear n0_ n1_ n2_ n3_ n4_ n5_ n6_ n7_ n8_ n9_ n10_ n11_ n12_ n13_ n14_ n15_ n16_ n17_ n18_ n19_ n20_ n21_ n22_ n23_ n24_ n25_ n26_;(try clear hb);(try clear hb2);(try clear hk);(try clear hi);(try clear ho0)))
    (try simp only [Act.put,List.setIfInBounds_toArray,List.set_cons_zero,List.set_cons_succ])
    go_cut [176] (fun v176 wc=>∃ (kq : Nat) (x176_20 : Bool),v176 = .bool x176_20∧Aside0 (shapesearchlaw24_DeviceKeeps.j1 kq l0 l1 a2 t239 t273 x176_20 = some r)∧Aside0 (kq ≤ kj4)∧Aside0 (Kd.R (Kd.int .u8) 5 wc w.heap.size (fun k_=>nb k_ v274) v240 t239)∧Aside0 (Kd.R (Kd.int .u8) 5 wc w.heap.size (fun k_=>nb k_ v240) v274 t273)∧Aside0 (Kd.S (Kd.slice 5 (Kd.int .u8)) 26 wc w.heap.size (fun k_=>nb k_ v240∧nb k_ v274∧some k_≠((.slice Ao55 t246.length co55) : Value).ownBlock∧some k_≠((.slice Ao65 t257.length co65) : Value).ownBlock∧some k_≠((.slice Ao73 t265.length co73) : Value).ownBlock) (.slice Ao43 t232.length co43) t232)∧Aside0 (Kd.S k42 42 wc w.heap.size (fun k_=>nb k_ v240∧nb k_ v274∧some k_≠((.slice Ao58 t249.length co58) : Value).ownBlock∧some k_≠((.slice Ao69 t260.length co69) : Value).ownBlock∧some k_≠((.slice Ao78 t268.length co78) : Value).ownBlock) (.slice Ao45 t235.length co45) t235)∧Aside0 (Kd.S (Kd.slice 5 (Kd.int .u8)) 26 wc w.heap.size (fun k_=>nb k_ v240∧nb k_ v274∧some k_≠((.slice Ao43 t232.length co43) : Value).ownBlock∧some k_≠((.slice Ao65 t257.length co65) : Value).ownBlock∧some k_≠((.slice Ao73 t265.length co73) : Value).ownBlock) (.slice Ao55 t246.length co55) t246)∧Aside0 (Kd.S k42 42 wc w.heap.size (fun k_=>nb k_ v240∧nb k_ v274∧some k_≠((.slice Ao45 t235.length co45) : Value).ownBlock∧some k_≠((.slice Ao69 t260.length co69) : Value).ownBlock∧some k_≠((.slice Ao78 t268.length co78) : Value).ownBlock) (.slice Ao58 t249.length co58) t249)∧Aside0 (Kd.S (Kd.slice 5 (Kd.int .u8)) 26 wc w.heap.size (fun k_=>nb k_ v240∧nb k_ v274∧some k_≠((.slice Ao43 t232.length co43) : Value).ownBlock∧some k_≠((.slice Ao55 t246.length co55) : Value).ownBlock∧some k_≠((.slice Ao73 t265.length co73) : Value).ownBlock) (.slice Ao65 t257.length co65) t257)∧Aside0 (Kd.S k42 42 wc w.heap.size (fun k_=>nb k_ v240∧nb k_ v274∧some k_≠((.slice Ao45 t235.length co45) : Value).ownBlock∧some k_≠((.slice Ao58 t249.length co58) : Value).ownBlock∧some k_≠((.slice Ao78 t268.length co78) : Value).ownBlock) (.slice Ao69 t260.length co69) t260)∧Aside0 (Kd.S (Kd.slice 5 (Kd.int .u8)) 26 wc w.heap.size (fun k_=>nb k_ v240∧nb k_ v274∧some k_≠((.slice Ao43 t232.length co43) : Value).ownBlock∧some k_≠((.slice Ao55 t246.length co55) : Value).ownBlock∧some k_≠((.slice Ao65 t257.length co65) : Value).ownBlock) (.slice Ao73 t265.length co73) t265)∧Aside0 (Kd.S k42 42 wc w.heap.size (fun k_=>nb k_ v240∧nb k_ v274∧some k_≠((.slice Ao45 t235.length co45) : Value).ownBlock∧some k_≠((.slice Ao58 t249.length co58) : Value).ownBlock∧some k_≠((.slice Ao69 t260.length co69) : Value).ownBlock) (.slice Ao78 t268.length co78) t268)∧Aside0 (wc.heap[gb207]? = some (.cells #[(.slice Ao43 t232.length co43),(.slice Ao45 t235.length co45)] 25 (0,0)))∧Aside0 (wc.heap[gb253]? = some (.cells #[(.slice Ao55 t246.length co55),(.slice Ao58 t249.length co58)] 25 (0,0)))∧Aside0 (wc.heap[gb264]? = some (.cells #[(.slice Ao65 t257.length co65),(.slice Ao69 t260.length co69)] 25 (0,0)))∧Aside0 (wc.heap[gb272]? = some (.cells #[(.slice Ao73 t265.length co73),(.slice Ao78 t268.length co78)] 25 (0,0)))∧Aside0 (Below w.heap.size w wc))
    case first=>as_aux_lemma =>
     have H:=HC21.out
     clear HC21
     by_cases c84 : t206 = 0
     ·
      rw [if_pos c84] at H
      have c84b0 : (t206 == 0) = true:=beq_iff_eq.mpr c84
      have c84b1 : (t206 != 0) = false:=bne_eq_false_iff_eq.mpr c84
      clear c84
      (first|rw [c84b0]|(simp only [i64_w,i32_w];rw [c84b0])|skip)
      by_cases c85 : t214 = 0
      ·
       rw [if_pos c85] at H
       have c85b0 : (t214 == 0) = true:=beq_iff_eq.mpr c85
       have c85b1 : (t214 != 0) = false:=bne_eq_false_iff_eq.mpr c85
       clear c85
       by_cases c86 : t224 = 0
       ·
        rw [if_pos c86] at H
        have c86b0 : (t224 == 0) = true:=beq_iff_eq.mpr c86
        have c86b1 : (t224 != 0) = false:=bne_eq_false_iff_eq.mpr c86
        clear c86
        by_cases c87 : t231 = 0
        ·
         rw [if_pos c87] at H
         have c87b0 : (t231 == 0) = true:=beq_iff_eq.mpr c87
         have c87b1 : (t231 != 0) = false:=bne_eq_false_iff_eq.mpr c87
         clear c87
         by_cases c88 : t238 = 0
         ·
          rw [if_pos c88] at H
          have c88b0 : (t238 == 0) = true:=beq_iff_eq.mpr c88
          have c88b1 : (t238 != 0) = false:=bne_eq_false_iff_eq.mpr c88
          clear c88
          by_cases c89 : t242 = 0
          ·
           rw [if_pos c89] at H
           have c89b0 : (t242 == 0) = true:=beq_iff_eq.mpr c89
           have c89b1 : (t242 != 0) = false:=bne_eq_false_iff_eq.mpr c89
           clear c89
           by_cases c90 : t252 = 0
           ·
            rw [if_pos c90] at H
            have c90b0 : (t252 == 0) = true:=beq_iff_eq.mpr c90
            have c90b1 : (t252 != 0) = false:=bne_eq_false_iff_eq.mpr c90
            clear c90
            by_cases c91 : t263 = 0
            ·
             rw [if_pos c91] at H
             have c91b0 : (t263 == 0) = true:=beq_iff_eq.mpr c91
             have c91b1 : (t263 != 0) = false:=bne_eq_false_iff_eq.mpr c91
             clear c91
             by_cases c92 : t271 = 0
             ·
              rw [if_pos c92] at H
              have c92b0 : (t271 == 0) = true:=beq_iff_eq.mpr c92
              have c92b1 : (t271 != 0) = false:=bne_eq_false_iff_eq.mpr c92
              clear c92
              by_cases c93 : t276 = 0
              ·
               rw [if_pos c93] at H
               have c93b0 : (t276 == 0) = true:=beq_iff_eq.mpr c93
               have c93b1 : (t276 != 0) = false:=bne_eq_false_iff_eq.mpr c93
               clear c93
               by_cases c94 : t280 = 0
               ·
                rw [if_pos c94] at H
                have c94b0 : (t280 == 0) = true:=beq_iff_eq.mpr c94
                have c94b1 : (t280 != 0) = false:=bne_eq_false_iff_eq.mpr c94
                clear c94
                replace H:=Option.bind_eq_some_iff.mp H
                obtain ⟨t281,A950,H⟩:=H
                replace H : (if t281 = true then (if (t273.length : Int) = 64 then (if (t277.length : Int) = 64 then (if (t239.length : Int) = 64 then (if 0 < (t277.length : Int) then (if (rd t277 0) = a3 then (shapesearchlaw24_DeviceKeeps.j1 kj4 l0 l1 a2 t239 t273 ((t249.length : Int) != 0)) else (shapesearchlaw24_DeviceKeeps.j1 kj4 l0 l1 a2 t239 t273 true)) else (none)) else (shapesearchlaw24_DeviceKeeps.j1 kj4 l0 l1 a2 t239 t273 true)) else (shapesearchlaw24_DeviceKeeps.j1 kj4 l0 l1 a2 t239 t273 true)) else (shapesearchlaw24_DeviceKeeps.j1 kj4 l0 l1 a2 t239 t273 true)) else (shapesearchlaw24_DeviceKeeps.j1 kj4 l0 l1 a2 t239 t273 true)) = some r:=H
                have A95:=A_ A950
                clear A950
                by_cases c96 : t281 = true
                ·
                 subst c96
                 have H1 : (if (t273.length : Int) = 64 then (if (t277.length : Int) = 64 then (if (t239.length : Int) = 64 then (if 0 < (t277.length : Int) then (if (rd t277 0) = a3 then (shapesearchlaw24_DeviceKeeps.j1 kj4 l0 l1 a2 t239 t273 ((t249.length : Int) != 0)) else (shapesearchlaw24_DeviceKeeps.j1 kj4 l0 l1 a2 t239 t273 true)) else (none)) else (shapesearchlaw24_DeviceKeeps.j1 kj4 l0 l1 a2 t239 t273 true)) else (shapesearchlaw24_DeviceKeeps.j1 kj4 l0 l1 a2 t239 t273 true)) else (shapesearchlaw24_DeviceKeeps.j1 kj4 l0 l1 a2 t239 t273 true)) = some r:=by rw [if_pos rfl] at H;exact H
                 clear H
                 have H:=H1
                 clear H1
                 by_cases c97 : (t273.length : Int) = 64
                 ·
                  rw [if_pos c97] at H
                  have c97b0 : ((t273.length : Int) == 64) = true:=beq_iff_eq.mpr c97
                  have c97b1 : ((t273.length : Int) != 64) = false:=bne_eq_false_iff_eq.mpr c97
                  clear c97
                  by_cases c98 : (t277.length : Int) = 64
                  ·
                   rw [if_pos c98] at H
                   have c98b0 : ((t277.length : Int) == 64) = true:=beq_iff_eq.mpr c98
                   have c98b1 : ((t277.length : Int) != 64) = false:=bne_eq_false_iff_eq.mpr c98
                   clear c98
                   by_cases c99 : (t239.length : Int) = 64
                   ·
                    rw [if_pos c99] at H
                    have c99b0 : ((t239.length : Int) == 64) = true:=beq_iff_eq.mpr c99
                    have c99b1 : ((t239.length : Int) != 64) = false:=bne_eq_false_iff_eq.mpr c99
                    clear c99
                    by_cases c100 : 0 < (t277.length : Int)
                    ·
                     rw [if_pos c100] at H
                     have c100b0 : decide (0 < (t277.length : Int)) = true:=decide_eq_true c100
                     have c100b1 : decide (0 < t277.length) = true:=decide_eq_true (by omega)
                     clear c100
                     by_cases c101 : (rd t277 0) = a3
                     ·
                      rw [if_pos c101] at H
                      have c101b0 : ((rd t277 0) == a3) = true:=beq_iff_eq.mpr c101
                      have c101b1 : ((rd t277 0) != a3) = false:=bne_eq_false_iff_eq.mpr c101
                      clear c101
                      have H':=A_ H
                      clear H
                      have hnb102:=NB264_207.out
                      have hnc102:=NB207_264.out
                      have hnb103:=NB264_253.out
                      have hnc103:=NB253_264.out
                      have hnb104:=NB264_272.out
                      have hnc104:=NB272_264.out
                      have hcz105_0 : w83.cell? ⟨gb264,0,none⟩ = some (.slice Ao65 t257.length co65):=(blk_cell BK264.out 0).trans rfl
                      have hcz105_1 : w83.cell? ⟨gb264,1,none⟩ = some (.slice Ao69 t260.length co69):=(blk_cell BK264.out 1).trans rfl
                      have hfz105_0:=blk_frozen BK264.out 0
                      have hfz105_1:=blk_frozen BK264.out 1
                      have hnb106:=NB272_207.out
                      have hnc106:=NB207_272.out
                      have hnb107:=NB272_253.out
                      have hnc107:=NB253_272.out
                      have hcz108_0 : w83.cell? ⟨gb272,0,none⟩ = some (.slice Ao73 t265.length co73):=(blk_cell BK272.out 0).trans rfl
                      have hcz108_1 : w83.cell? ⟨gb272,1,none⟩ = some (.slice Ao78 t268.length co78):=(blk_cell BK272.out 1).trans rfl
                      have hfz108_0:=blk_frozen BK272.out 0
                      have hfz108_1:=blk_frozen BK272.out 1
                      go_wp2_with (first|(go_at_call 9;(with_reducible refine (shapesearchref24_Same.calls kj4 _ _ t257 _ _ t260 _ _ t265 _ _ t268 true _ ?side1 ?side2 ?side3 ?side4 ?side5 ?side6 ?side7 ?side8 A95.out).mono ?_);(case side1=>repeat (first|exact (Kd.S_reads' HO259.out).2.2|(with_reducible refine ca ?_ _)|(with_reducible refine cb ?_ _)|(with_reducible refine cc ?_)));(case side2=>exact (Kd.S_reads' HO259.out).2.1);(case side3=>repeat (first|exact (Kd.S_reads' HO262.out).2.2|(with_reducible refine ca ?_ _)|(with_reducible refine cb ?_ _)|(with_reducible refine cc ?_)));(case side4=>exact (Kd.S_reads' HO262.out).2.1);(case side5=>repeat (first|exact (Kd.S_reads' HO267.out).2.2|(with_reducible refine ca ?_ _)|(with_reducible refine cb ?_ _)|(with_reducible refine cc ?_)));(case side6=>exact (Kd.S_reads' HO267.out).2.1);(case side7=>repeat (first|exact (Kd.S_reads' HO270.out).2.2|(with_reducible refine ca ?_ _)|(with_reducible refine cb ?_ _)|(with_reducible refine cc ?_)));(case side8=>exact (Kd.S_reads' HO270.out).2.1);rintro e w109 ⟨rfl,hb⟩;have n0_:=A_ (Kd.S_below (by (with_reducible repeat (first|apply Kd.S_alloc|apply Kd.S_drewN|apply Kd.S_drew));exact HO202.out) hb);have n1_:=A_ (Kd.S_below (by (with_reducible repeat (first|apply Kd.S_alloc|apply Kd.S_drewN|apply Kd.S_drew));exact HO205.out) hb);have n2_:=A_ (Kd.S_below (by (with_reducible repeat (first|apply Kd.S_alloc|apply Kd.S_drewN|apply Kd.S_drew));exact HO210.out) hb);have n3_:=A_ (Kd.S_below (by (with_reducible repeat (first|apply Kd.S_alloc|apply Kd.S_drewN|apply Kd.S_drew));exact HO213.out) hb);have n4_:=A_ (rw_ (by (with_reducible repeat (first|apply ra|apply rb|apply rc));exact HO217.out) hb);have n5_:=A_ (Kd.S_below (by (with_reducible repeat (first|apply Kd.S_alloc|apply Kd.S_drewN|apply Kd.S_drew));exact HO220.out) hb);have n6_:=A_ (Kd.S_below (by (with_reducible repeat (first|apply Kd.S_alloc|apply Kd.S_drewN|apply Kd.S_drew));exact HO223.out) hb);have n7_:=A_ (Kd.S_below (by (with_reducible repeat (first|apply Kd.S_alloc|apply Kd.S_drewN|apply Kd.S_drew));exact HO227.out) hb);have n8_:=A_ (Kd.S_below (by (with_reducible repeat (first|apply Kd.S_alloc|apply Kd.S_drewN|apply Kd.S_drew));exact HO230.out) hb);have n9_:=A_ (Kd.S_below (by (with_reducible repeat (first|apply Kd.S_alloc|apply Kd.S_drewN|apply Kd.S_drew));exact HO234.out) hb);have n10_:=A_ (Kd.S_below (by (with_reducible repeat (first|apply Kd.S_alloc|apply Kd.S_drewN|apply Kd.S_drew));exact HO237.out) hb);have n11_:=A_ (rw_ (by (with_reducible repeat (first|apply ra|apply rb|apply rc));exact HO241.out) hb);have n12_:=A_ (rw_ (by (with_reducible repeat (first|apply ra|apply rb|apply rc));exact HO245.out) hb);have n13_:=A_ (Kd.S_below (by (with_reducible repeat (first|apply Kd.S_alloc|apply Kd.S_drewN|apply Kd.S_drew));exact HO248.out) hb);have n14_:=A_ (Kd.S_below (by (with_reducible repeat (first|apply Kd.S_alloc|apply Kd.S_drewN|apply Kd.S_drew));exact HO251.out) hb);have n15_:=A_ (rw_ (by (with_reducible repeat (first|apply ra|apply rb|apply rc));exact HO256.out) hb);have n16_:=A_ (Kd.S_below (by (with_reducible repeat (first|apply Kd.S_alloc|apply Kd.S_drewN|apply Kd.S_drew));exact HO259.out) hb);have n17_:=A_ (Kd.S_below (by (with_reducible repeat (first|apply Kd.S_alloc|apply Kd.S_drewN|apply Kd.S_drew));exact HO262.out) hb);have n18_:=A_ (Kd.S_below (by (with_reducible repeat (first|apply Kd.S_alloc|apply Kd.S_drewN|apply Kd.S_drew));exact HO267.out) hb);have n19_:=A_ (Kd.S_below (by (with_reducible repeat (first|apply Kd.S_alloc|apply Kd.S_drewN|apply Kd.S_drew));exact HO270.out) hb);have n20_:=A_ (rw_ (by (with_reducible repeat (first|apply ra|apply rb|apply rc));exact HO275.out) hb);have n21_:=A_ (rw_ (by (with_reducible repeat (first|apply ra|apply rb|apply rc));exact HO279.out) hb);have n22_:=A_ (blk_below (g:=gb207) (o:=.cells #[.slice Ao43 t232.length co43,.slice Ao45 t235.length co45] 25 (0,0)) (by (with_reducible repeat (first|refine blk_drewN ?_ _|refine blk_drew ?_|refine blk_alloc ?_ _));exact BK207.out) hb);have n23_:=A_ (blk_below (g:=gb253) (o:=.cells #[.slice Ao55 t246.length co55,.slice Ao58 t249.length co58] 25 (0,0)) (by (with_reducible repeat (first|refine blk_drewN ?_ _|refine blk_drew ?_|refine blk_alloc ?_ _));exact BK253.out) hb);have n24_:=A_ (blk_below (g:=gb264) (o:=.cells #[.slice Ao65 t257.length co65,.slice Ao69 t260.length co69] 25 (0,0)) (by (with_reducible repeat (first|refine blk_drewN ?_ _|refine blk_drew ?_|refine blk_alloc ?_ _));exact BK264.out) hb);have n25_:=A_ (blk_below (g:=gb272) (o:=.cells #[.slice Ao73 t265.length co73,.slice Ao78 t268.length co78] 25 (0,0)) (by (with_reducible repeat (first|refine blk_drewN ?_ _|refine blk_drew ?_|refine blk_alloc ?_ _));exact BK272.out) hb);have n26_:=A_ (below_step (by repeat (first|(with_reducible first|exact HB.out|apply ba|apply bb|apply bc|refine below_set ?_ GE207.out|refine below_set ?_ GE253.out|refine below_set ?_ GE264.out|refine below_set ?_ GE272.out)|exact HB.out)) hb);clear HO202;clear HO205;clear HO210;clear HO213;clear HO217;clear HO220;clear HO223;clear HO227;clear HO230;clear HO234;clear HO237;clear HO241;clear HO245;clear HO248;clear HO251;clear HO256;clear HO259;clear HO262;clear HO267;clear HO270;clear HO275;clear HO279;clear BK207;clear BK253;clear BK264;clear BK272;clear HB;have HO202:=n0_;have HO205:=n1_;have HO210:=n2_;have HO213:=n3_;have HO217:=n4_;have HO220:=n5_;have HO223:=n6_;have HO227:=n7_;have HO230:=n8_;have HO234:=n9_;have HO237:=n10_;have HO241:=n11_;have HO245:=n12_;have HO248:=n13_;have HO251:=n14_;have HO256:=n15_;have HO259:=n16_;have HO262:=n17_;have HO267:=n18_;have HO270:=n19_;have HO275:=n20_;have HO279:=n21_;have BK207:=n22_;have BK253:=n23_;have BK264:=n24_;have BK272:=n25_;have HB:=n26_;clear n0_ n1_ n2_ n3_ n4_ n5_ n6_ n7_ n8_ n9_ n10_ n11_ n12_ n13_ n14_ n15_ n16_ n17_ n18_ n19_ n20_ n21_ n22_ n23_ n24_ n25_ n26_;(try clear hb);(try clear hb2);(try clear hk);(try clear hi);obtain ⟨Ao110,co110,eo110⟩:=Kd.R_slice HO275.out;subst eo110;obtain ⟨Ao111,co111,eo111⟩:=Kd.R_slice HO279.out;subst eo111;obtain ⟨Ao112,co112,eo112⟩:=Kd.R_slice HO241.out;subst eo112;have p282 : 0 ≤ (0 : Int):=(by omega);have q282 : 0 < (t277.length : Int):=of_decide_eq_true (by first|(with_reducible assumption)|assumption);obtain ⟨ad282,e282,hx282_0⟩:=Kd.at_int (rd_ HO279.out).2.2 0 p282 q282;cases e282;have qi282 : (0 < t277.length) = True:=eq_true (by omega);(try rw [show ((0 : Int)).toNat = 0 from rfl] at hx282_0);(try rw [Addr.add_zero'] at hx282_0);replace p282:=eq_true p282;replace q282:=eq_true q282;have hnb113:=NB253_207.out;have hnc113:=NB207_253.out;have hcz114_0 : w109.cell? ⟨gb253,0,none⟩ = some (.slice Ao55 t246.length co55):=(blk_cell BK253.out 0).trans rfl;have hcz114_1 : w109.cell? ⟨gb253,1,none⟩ = some (.slice Ao58 t249.length co58):=(blk_cell BK253.out 1).trans rfl;have hfz114_0:=blk_frozen BK253.out 0;have hfz114_1:=blk_frozen BK253.out 1))
                      go_meet
                      case rel=>exact ⟨_,(((t249.length : Int) != 0)),(by first|rfl|(simp;done)|(simp [*];done)),H',⟨by have:=HJ4.out;first|omega|exact Nat.le_refl _⟩,⟨by (with_reducible repeat (first|apply ra|apply rb|apply rc));exact rm HO241.out (fun _ hk=>hk.1.2)⟩,⟨by (with_reducible repeat (first|apply ra|apply rb|apply rc));exact rm HO275.out (fun _ hk=>hk.1.2)⟩,⟨by (with_reducible repeat (first|apply Kd.S_alloc|apply Kd.S_drewN|apply Kd.S_drew));exact Kd.S_mono HO234.out (fun _ hk=>⟨hk.1.1.2.2.2.2.2.1,⟨hk.1.2,⟨hk.1.1.2.2.2.2.2.2.1,⟨hk.1.1.2.2.2.2.2.2.2.1,hk.1.1.2.2.2.2.2.2.2.2⟩⟩⟩⟩)⟩,⟨by (with_reducible repeat (first|apply Kd.S_alloc|apply Kd.S_drewN|apply Kd.S_drew));exact Kd.S_mono HO237.out (fun _ hk=>⟨hk.1.1.2.2.2.2.2.1,⟨hk.1.2,⟨hk.1.1.2.2.2.2.2.2.1,⟨hk.1.1.2.2.2.2.2.2.2.1,hk.1.1.2.2.2.2.2.2.2.2⟩⟩⟩⟩)⟩,⟨by (with_reducible repeat (first|apply Kd.S_alloc|apply Kd.S_drewN|apply Kd.S_drew));exact Kd.S_mono HO248.out (fun _ hk=>⟨hk.1.1.2.2.2.2.2.2.1,⟨hk.1.2,⟨hk.1.1.2.2.2.2.2.1,⟨hk.1.1.2.2.2.2.2.2.2.1,hk.1.1.2.2.2.2.2.2.2.2⟩⟩⟩⟩)⟩,⟨by (with_reducible repeat (first|apply Kd.S_alloc|apply Kd.S_drewN|apply Kd.S_drew));exact Kd.S_mono HO251.out (fun _ hk=>⟨hk.1.1.2.2.2.2.2.2.1,⟨hk.1.2,⟨hk.1.1.2.2.2.2.2.1,⟨hk.1.1.2.2.2.2.2.2.2.1,hk.1.1.2.2.2.2.2.2.2.2⟩⟩⟩⟩)⟩,⟨by (with_reducible repeat (first|apply Kd.S_alloc|apply Kd.S_drewN|apply Kd.S_drew));exact Kd.S_mono HO259.out (fun _ hk=>⟨hk.1.1.2.2.2.2.2.2.1,⟨hk.1.2,⟨hk.1.1.2.2.2.2.2.1,⟨hk.1.1.2.2.2.2.2.2.2.1,hk.1.1.2.2.2.2.2.2.2.2⟩⟩⟩⟩)⟩,⟨by (with_reducible repeat (first|apply Kd.S_alloc|apply Kd.S_drewN|apply Kd.S_drew));exact Kd.S_mono HO262.out (fun _ hk=>⟨hk.1.1.2.2.2.2.2.2.1,⟨hk.1.2,⟨hk.1.1.2.2.2.2.2.1,⟨hk.1.1.2.2.2.2.2.2.2.1,hk.1.1.2.2.2.2.2.2.2.2⟩⟩⟩⟩)⟩,⟨by (with_reducible repeat (first|apply Kd.S_alloc|apply Kd.S_drewN|apply Kd.S_drew));exact Kd.S_mono HO267.out (fun _ hk=>⟨hk.1.1.2.2.2.2.2.2.1,⟨hk.1.2,⟨hk.1.1.2.2.2.2.2.1,⟨hk.1.1.2.2.2.2.2.2.2.1,hk.1.1.2.2.2.2.2.2.2.2⟩⟩⟩⟩)⟩,⟨by (with_reducible repeat (first|apply Kd.S_alloc|apply Kd.S_drewN|apply Kd.S_drew));exact Kd.S_mono HO270.out (fun _ hk=>⟨hk.1.1.2.2.2.2.2.2.1,⟨hk.1.2,⟨hk.1.1.2.2.2.2.2.1,⟨hk.1.1.2.2.2.2.2.2.2.1,hk.1.1.2.2.2.2.2.2.2.2⟩⟩⟩⟩)⟩,⟨by (with_reducible repeat (first|refine blk_drewN ?_ _|refine blk_drew ?_|refine blk_alloc ?_ _));exact BK207.out⟩,⟨by (with_reducible repeat (first|refine blk_drewN ?_ _|refine blk_drew ?_|refine blk_alloc ?_ _));exact BK253.out⟩,⟨by (with_reducible repeat (first|refine blk_drewN ?_ _|refine blk_drew ?_|refine blk_alloc ?_ _));exact BK264.out⟩,⟨by (with_reducible repeat (first|refine blk_drewN ?_ _|refine blk_drew ?_|refine blk_alloc ?_ _));exact BK272.out⟩,⟨by repeat (first|(with_reducible first|exact HB.out|apply ba|apply bb|apply bc|refine below_set ?_ GE207.out|refine below_set ?_ GE253.out|refine below_set ?_ GE264.out|refine below_set ?_ GE272.out)|exact HB.out)⟩⟩
                     ·
                      rw [if_neg c101] at H
                      have c101b0 : ((rd t277 0) == a3) = false:=beq_eq_false_iff_ne.mpr c101
                      have c101b1 : ((rd t277 0) != a3) = true:=bne_iff_ne.mpr c101
                      exact absurd (H.trans (congrArg some HTR_.out)) (shapesearchlaw24_DeviceKeeps.j1_dead _ _ _ _ _ _)
                    ·
                     rw [if_neg c100] at H
                     exact absurd H (by simp)
                   ·
                    rw [if_neg c99] at H
                    have c99b0 : ((t239.length : Int) == 64) = false:=beq_eq_false_iff_ne.mpr c99
                    have c99b1 : ((t239.length : Int) != 64) = true:=bne_iff_ne.mpr c99
                    exact absurd (H.trans (congrArg some HTR_.out)) (shapesearchlaw24_DeviceKeeps.j1_dead _ _ _ _ _ _)
                  ·
                   rw [if_neg c98] at H
                   have c98b0 : ((t277.length : Int) == 64) = false:=beq_eq_false_iff_ne.mpr c98
                   have c98b1 : ((t277.length : Int) != 64) = true:=bne_iff_ne.mpr c98
                   exact absurd (H.trans (congrArg some HTR_.out)) (shapesearchlaw24_DeviceKeeps.j1_dead _ _ _ _ _ _)
                 ·
                  rw [if_neg c97] at H
                  have c97b0 : ((t273.length : Int) == 64) = false:=beq_eq_false_iff_ne.mpr c97
                  have c97b1 : ((t273.length : Int) != 64) = true:=bne_iff_ne.mpr c97
                  exact absurd (H.trans (congrArg some HTR_.out)) (shapesearchlaw24_DeviceKeeps.j1_dead _ _ _ _ _ _)
                ·
                 replace c96:=Bool.eq_false_iff.mpr c96
                 subst c96
                 have H1 : (shapesearchlaw24_DeviceKeeps.j1 kj4 l0 l1 a2 t239 t273 true) = some r:=by rw [if_neg (show ¬ (false = true) by decide)] at H;exact H
                 clear H
                 have H:=H1
                 clear H1
                 exact absurd (H.trans (congrArg some HTR_.out)) (shapesearchlaw24_DeviceKeeps.j1_dead _ _ _ _ _ _)
               ·
                rw [if_neg c94] at H
                have c94b0 : (t280 == 0) = false:=beq_eq_false_iff_ne.mpr c94
                have c94b1 : (t280 != 0) = true:=bne_iff_ne.mpr c94
                exact absurd (H.trans (congrArg some HTR_.out)) (shapesearchlaw24_DeviceKeeps.j1_dead _ _ _ _ _ _)
              ·
               rw [if_neg c93] at H
               have c93b0 : (t276 == 0) = false:=beq_eq_false_iff_ne.mpr c93
               have c93b1 : (t276 != 0) = true:=bne_iff_ne.mpr c93
               exact absurd (H.trans (congrArg some HTR_.out)) (shapesearchlaw24_DeviceKeeps.j1_dead _ _ _ _ _ _)
             ·
              rw [if_neg c92] at H
              have c92b0 : (t271 == 0) = false:=beq_eq_false_iff_ne.mpr c92
              have c92b1 : (t271 != 0) = true:=bne_iff_ne.mpr c92
              exact absurd (H.trans (congrArg some HTR_.out)) (shapesearchlaw24_DeviceKeeps.j1_dead _ _ _ _ _ _)
            ·
             rw [if_neg c91] at H
             have c91b0 : (t263 == 0) = false:=beq_eq_false_iff_ne.mpr c91
             have c91b1 : (t263 != 0) = true:=bne_iff_ne.mpr c91
             exact absurd (H.trans (congrArg some HTR_.out)) (shapesearchlaw24_DeviceKeeps.j1_dead _ _ _ _ _ _)
           ·
            rw [if_neg c90] at H
            have c90b0 : (t252 == 0) = false:=beq_eq_false_iff_ne.mpr c90
            have c90b1 : (t252 != 0) = true:=bne_iff_ne.mpr c90
            exact absurd (H.trans (congrArg some HTR_.out)) (shapesearchlaw24_DeviceKeeps.j1_dead _ _ _ _ _ _)
          ·
           rw [if_neg c89] at H
           have c89b0 : (t242 == 0) = false:=beq_eq_false_iff_ne.mpr c89
           have c89b1 : (t242 != 0) = true:=bne_iff_ne.mpr c89
           exact absurd (H.trans (congrArg some HTR_.out)) (shapesearchlaw24_DeviceKeeps.j1_dead _ _ _ _ _ _)
         ·
          rw [if_neg c88] at H
          have c88b0 : (t238 == 0) = false:=beq_eq_false_iff_ne.mpr c88
          have c88b1 : (t238 != 0) = true:=bne_iff_ne.mpr c88
          exact absurd (H.trans (congrArg some HTR_.out)) (shapesearchlaw24_DeviceKeeps.j1_dead _ _ _ _ _ _)
        ·
         rw [if_neg c87] at H
         have c87b0 : (t231 == 0) = false:=beq_eq_false_iff_ne.mpr c87
         have c87b1 : (t231 != 0) = true:=bne_iff_ne.mpr c87
         exact absurd (H.trans (congrArg some HTR_.out)) (shapesearchlaw24_DeviceKeeps.j1_dead _ _ _ _ _ _)
       ·
        rw [if_neg c86] at H
        have c86b0 : (t224 == 0) = false:=beq_eq_false_iff_ne.mpr c86
        have c86b1 : (t224 != 0) = true:=bne_iff_ne.mpr c86
        exact absurd (H.trans (congrArg some HTR_.out)) (shapesearchlaw24_DeviceKeeps.j1_dead _ _ _ _ _ _)
      ·
       rw [if_neg c85] at H
       have c85b0 : (t214 == 0) = false:=beq_eq_false_iff_ne.mpr c85
       have c85b1 : (t214 != 0) = true:=bne_iff_ne.mpr c85
       exact absurd (H.trans (congrArg some HTR_.out)) (shapesearchlaw24_DeviceKeeps.j1_dead _ _ _ _ _ _)
     ·
      rw [if_neg c84] at H
      have c84b0 : (t206 == 0) = false:=beq_eq_false_iff_ne.mpr c84
      have c84b1 : (t206 != 0) = true:=bne_iff_ne.mpr c84
      (first|rw [c84b0]|(simp only [i64_w,i32_w];rw [c84b0])|skip)
      exact absurd (H.trans (congrArg some HTR_.out)) (shapesearchlaw24_DeviceKeeps.j1_dead _ _ _ _ _ _)
    case rest=>as_aux_lemma =>
     clear HC21
     try clear c1
     try clear p2
     try clear q2
     try clear hx2
     try clear qi2
     try clear c5
     try clear c6
     try clear c6b0
     try clear c6b1
     try clear p6
     try clear c7
     try clear c8
     try clear c9
     try clear c10
     try clear c11
     try clear c12
     try clear c13
     try clear c14
     try clear c15
     try clear c16
     try clear c17
     try clear p28
     try clear q28
     try clear hx28
     try clear qi28
     try clear c56
     try clear p64
     try clear c66
     try clear c67
     try clear c74
     try clear c75
     try clear c76
     try clear c84
     try clear c84b0
     try clear c84b1
     try clear c85
     try clear c85b0
     try clear c85b1
     try clear c86
     try clear c86b0
     try clear c86b1
     try clear c87
     try clear c87b0
     try clear c87b1
     try clear c88
     try clear c88b0
     try clear c88b1
     try clear c89
     try clear c89b0
     try clear c89b1
     try clear c90
     try clear c90b0
     try clear c90b1
     try clear c91
     try clear c91b0
     try clear c91b1
     try clear c92
     try clear c92b0
     try clear c92b1
     try clear c93
     try clear c93b0
     try clear c93b1
     try clear c94
     try clear c94b0
     try clear c94b1
     try clear c96
     try clear c97
     try clear c97b0
     try clear c97b1
     try clear c98
     try clear c98b0
     try clear c98b1
     try clear c99
     try clear c99b0
     try clear c99b1
     try clear c100
     try clear c100b0
     try clear c100b1
     try clear c101
     try clear c101b0
     try clear c101b1
     try clear c102
     try clear c103
     try clear c104
     try clear c106
     try clear c107
     try clear c113
     try clear c115
     try clear c116
     try clear c117
     try clear c119
     try clear c120
     try clear c126
     try clear c127
     try clear c128
     try clear c130
     try clear c131
     try clear c137
     try clear c138
     try clear c139
     try clear c141
     try clear c142
     try clear c147
     try clear c148
     try clear c149
     try clear c151
     try clear c152
     try clear c156
     try clear c157
     try clear c158
     try clear c160
     try clear c161
     try clear hcz105_0
     try clear hcz105_1
     try clear hcz108_0
     try clear hcz108_1
     try clear hcz114_0
     try clear hcz114_1
     try clear hcz118_0
     try clear hcz118_1
     try clear hcz121_0
     try clear hcz121_1
     try clear hcz129_0
     try clear hcz129_1
     try clear hcz132_0
     try clear hcz132_1
     try clear hcz140_0
     try clear hcz140_1
     try clear hcz143_0
     try clear hcz143_1
     try clear hcz150_0
     try clear hcz150_1
     try clear hcz153_0
     try clear hcz153_1
     try clear hcz159_0
     try clear hcz159_1
     try clear hcz162_0
     try clear hcz162_1
     try clear hcz25_0
     try clear hcz25_1
     try clear hcz29_0
     try clear hcz29_1
     try clear hcz36_0
     try clear hcz36_1
     try clear hcz40_0
     try clear hcz40_1
     try clear hcz44_0
     try clear hcz44_1
     try clear hcz47_0
     try clear hcz47_1
     try clear hcz49_0
     try clear hcz49_1
     try clear hcz57_0
     try clear hcz57_1
     try clear hcz59_0
     try clear hcz59_1
     try clear hcz68_0
     try clear hcz68_1
     try clear hcz70_0
     try clear hcz70_1
     try clear hcz77_0
     try clear hcz77_1
     try clear hcz80_0
     try clear hcz80_1
     try clear hcz82_0
     try clear hcz82_1
     try clear hfz105_0
     try clear hfz105_1
     try clear hfz108_0
     try clear hfz108_1
     try clear hfz114_0
     try clear hfz114_1
     try clear hfz118_0
     try clear hfz118_1
     try clear hfz121_0
     try clear hfz121_1
     try clear hfz129_0
     try clear hfz129_1
     try clear hfz132_0
     try clear hfz132_1
     try clear hfz140_0
     try clear hfz140_1
     try clear hfz143_0
     try clear hfz143_1
     try clear hfz150_0
     try clear hfz150_1
     try clear hfz153_0
     try clear hfz153_1
     try clear hfz159_0
     try clear hfz159_1
     try clear hfz162_0
     try clear hfz162_1
     try clear hfz25_0
     try clear hfz25_1
     try clear hfz29_0
     try clear hfz29_1
     try clear hfz36_0
     try clear hfz36_1
     try clear hfz40_0
     try clear hfz40_1
     try clear hfz44_0
     try clear hfz44_1
     try clear hfz47_0
     try clear hfz47_1
     try clear hfz49_0
     try clear hfz49_1
     try clear hfz57_0
     try clear hfz57_1
     try clear hfz59_0
     try clear hfz59_1
     try clear hfz68_0
     try clear hfz68_1
     try clear hfz70_0
     try clear hfz70_1
     try clear hfz77_0
     try clear hfz77_1
     try clear hfz80_0
     try clear hfz80_1
     try clear hfz82_0
     try clear hfz82_1
     try clear hx282_0
     try clear p2
     try clear p282
     try clear q282
     obtain ⟨kq,x176_20,rfl,HA,HJ20,HO_15,HO_23,HO_208000,HO_208001,HO_254000,HO_254001,HO_265000,HO_265001,HO_273000,HO_273001,BK207,BK253,BK264,BK272,HB⟩:=hcut
     cases kq with
     | zero=>exact absurd HA.out (by simp [shapesearchlaw24_DeviceKeeps.j1])
     | succ kj20 =>
      have H:=HA.out
      clear HA
      simp only [shapesearchlaw24_DeviceKeeps.j1] at H
      by_cases c164 : x176_20 = true
      ·
       subst c164
       have H1 : (some false) = some r:=by rw [if_pos rfl] at H;exact H
       clear H
       have H:=H1
       clear H1
       exact absurd ((Option.some.inj H).trans HTR_.out) (by decide)
      ·
       replace c164:=Bool.eq_false_iff.mpr c164
       subst c164
       have H1 : (shapesearchlaw24_DeviceKeeps.l0 kj20 l0 l1 a2 t239 t273 0) = some r:=by rw [if_neg (show ¬ (false = true) by decide)] at H;exact H
       clear H
       have H:=H1
       clear H1
       have H':=A_ H
       clear H
       go_wp2
       go_loopg [27] kj20 (fun kq v27 w'=>∃ (x27_3 : Int),v27 = .int .i64 x27_3∧Aside0 (shapesearchlaw24_DeviceKeeps.l0 kq l0 l1 a2 t239 t273 x27_3 = some r)∧Aside0 (kq ≤ kj20)∧Aside0 (Kd.R (Kd.int .u8) 5 w' w.heap.size (fun k_=>nb k_ v274) v240 t239)∧Aside0 (Kd.R (Kd.int .u8) 5 w' w.heap.size (fun k_=>nb k_ v240) v274 t273)∧Aside0 (Kd.S (Kd.slice 5 (Kd.int .u8)) 26 w' w.heap.size (fun k_=>nb k_ v240∧nb k_ v274∧some k_≠((.slice Ao55 t246.length co55) : Value).ownBlock∧some k_≠((.slice Ao65 t257.length co65) : Value).ownBlock∧some k_≠((.slice Ao73 t265.length co73) : Value).ownBlock) (.slice Ao43 t232.length co43) t232)∧Aside0 (Kd.S k42 42 w' w.heap.size (fun k_=>nb k_ v240∧nb k_ v274∧some k_≠((.slice Ao58 t249.length co58) : Value).ownBlock∧some k_≠((.slice Ao69 t260.length co69) : Value).ownBlock∧some k_≠((.slice Ao78 t268.length co78) : Value).ownBlock) (.slice Ao45 t235.length co45) t235)∧Aside0 (Kd.S (Kd.slice 5 (Kd.int .u8)) 26 w' w.heap.size (fun k_=>nb k_ v240∧nb k_ v274∧some k_≠((.slice Ao43 t232.length co43) : Value).ownBlock∧some k_≠((.slice Ao65 t257.length co65) : Value).ownBlock∧some k_≠((.slice Ao73 t265.length co73) : Value).ownBlock) (.slice Ao55 t246.length co55) t246)∧Aside0 (Kd.S k42 42 w' w.heap.size (fun k_=>nb k_ v240∧nb k_ v274∧some k_≠((.slice Ao45 t235.length co45) : Value).ownBlock∧some k_≠((.slice Ao69 t260.length co69) : Value).ownBlock∧some k_≠((.slice Ao78 t268.length co78) : Value).ownBlock) (.slice Ao58 t249.length co58) t249)∧Aside0 (Kd.S (Kd.slice 5 (Kd.int .u8)) 26 w' w.heap.size (fun k_=>nb k_ v240∧nb k_ v274∧some k_≠((.slice Ao43 t232.length co43) : Value).ownBlock∧some k_≠((.slice Ao55 t246.length co55) : Value).ownBlock∧some k_≠((.slice Ao73 t265.length co73) : Value).ownBlock) (.slice Ao65 t257.length co65) t257)∧Aside0 (Kd.S k42 42 w' w.heap.size (fun k_=>nb k_ v240∧nb k_ v274∧some k_≠((.slice Ao45 t235.length co45) : Value).ownBlock∧some k_≠((.slice Ao58 t249.length co58) : Value).ownBlock∧some k_≠((.slice Ao78 t268.length co78) : Value).ownBlock) (.slice Ao69 t260.length co69) t260)∧Aside0 (Kd.S (Kd.slice 5 (Kd.int .u8)) 26 w' w.heap.size (fun k_=>nb k_ v240∧nb k_ v274∧some k_≠((.slice Ao43 t232.length co43) : Value).ownBlock∧some k_≠((.slice Ao55 t246.length co55) : Value).ownBlock∧some k_≠((.slice Ao65 t257.length co65) : Value).ownBlock) (.slice Ao73 t265.length co73) t265)∧Aside0 (Kd.S k42 42 w' w.heap.size (fun k_=>nb k_ v240∧nb k_ v274∧some k_≠((.slice Ao45 t235.length co45) : Value).ownBlock∧some k_≠((.slice Ao58 t249.length co58) : Value).ownBlock∧some k_≠((.slice Ao69 t260.length co69) : Value).ownBlock) (.slice Ao78 t268.length co78) t268)∧Aside0 (w'.heap[gb207]? = some (.cells #[(.slice Ao43 t232.length co43),(.slice Ao45 t235.length co45)] 25 (0,0)))∧Aside0 (w'.heap[gb253]? = some (.cells #[(.slice Ao55 t246.length co55),(.slice Ao58 t249.length co58)] 25 (0,0)))∧Aside0 (w'.heap[gb264]? = some (.cells #[(.slice Ao65 t257.length co65),(.slice Ao69 t260.length co69)] 25 (0,0)))∧Aside0 (w'.heap[gb272]? = some (.cells #[(.slice Ao73 t265.length co73),(.slice Ao78 t268.length co78)] 25 (0,0)))∧Aside0 (Below w.heap.size w w'))
       case atStart=>exact ⟨(0),(by first|rfl|(simp;done)|(simp [*];done)),H',⟨Nat.le_refl _⟩,⟨by (with_reducible repeat (first|apply ra|apply rb|apply rc));exact HO_15.out⟩,⟨by (with_reducible repeat (first|apply ra|apply rb|apply rc));exact HO_23.out⟩,⟨by (with_reducible repeat (first|apply Kd.S_alloc|apply Kd.S_drewN|apply Kd.S_drew));exact HO_208000.out⟩,⟨by (with_reducible repeat (first|apply Kd.S_alloc|apply Kd.S_drewN|apply Kd.S_drew));exact HO_208001.out⟩,⟨by (with_reducible repeat (first|apply Kd.S_alloc|apply Kd.S_drewN|apply Kd.S_drew));exact HO_254000.out⟩,⟨by (with_reducible repeat (first|apply Kd.S_alloc|apply Kd.S_drewN|apply Kd.S_drew));exact HO_254001.out⟩,⟨by (with_reducible repeat (first|apply Kd.S_alloc|apply Kd.S_drewN|apply Kd.S_drew));exact HO_265000.out⟩,⟨by (with_reducible repeat (first|apply Kd.S_alloc|apply Kd.S_drewN|apply Kd.S_drew));exact HO_265001.out⟩,⟨by (with_reducible repeat (first|apply Kd.S_alloc|apply Kd.S_drewN|apply Kd.S_drew));exact HO_273000.out⟩,⟨by (with_reducible repeat (first|apply Kd.S_alloc|apply Kd.S_drewN|apply Kd.S_drew));exact HO_273001.out⟩,⟨by (with_reducible repeat (first|refine blk_drewN ?_ _|refine blk_drew ?_|refine blk_alloc ?_ _));exact BK207.out⟩,⟨by (with_reducible repeat (first|refine blk_drewN ?_ _|refine blk_drew ?_|refine blk_alloc ?_ _));exact BK253.out⟩,⟨by (with_reducible repeat (first|refine blk_drewN ?_ _|refine blk_drew ?_|refine blk_alloc ?_ _));exact BK264.out⟩,⟨by (with_reducible repeat (first|refine blk_drewN ?_ _|refine blk_drew ?_|refine blk_alloc ?_ _));exact BK272.out⟩,⟨by repeat (first|(with_reducible first|exact HB.out|apply ba|apply bb|apply bc|refine below_set ?_ GE207.out|refine below_set ?_ GE253.out|refine below_set ?_ GE264.out|refine below_set ?_ GE272.out)|exact HB.out)⟩⟩
       case round=>as_aux_lemma =>
        clear H'
        try clear c1
        try clear p2
        try clear q2
        try clear hx2
        try clear qi2
        try clear c5
        try clear c6
        try clear c6b0
        try clear c6b1
        try clear p6
        try clear c7
        try clear c8
        try clear c9
        try clear c10
        try clear c11
        try clear c12
        try clear c13
        try clear c14
        try clear c15
        try clear c16
        try clear c17
        try clear p28
        try clear q28
        try clear hx28
        try clear qi28
        try clear c56
        try clear p64
        try clear c66
        try clear c67
        try clear c74
        try clear c75
        try clear c76
        try clear c84
        try clear c84b0
        try clear c84b1
        try clear c85
        try clear c85b0
        try clear c85b1
        try clear c86
        try clear c86b0
        try clear c86b1
        try clear c87
        try clear c87b0
        try clear c87b1
        try clear c88
        try clear c88b0
        try clear c88b1
        try clear c89
        try clear c89b0
        try clear c89b1
        try clear c90
        try clear c90b0
        try clear c90b1
        try clear c91
        try clear c91b0
        try clear c91b1
        try clear c92
        try clear c92b0
        try clear c92b1
        try clear c93
        try clear c93b0
        try clear c93b1
        try clear c94
        try clear c94b0
        try clear c94b1
        try clear c96
        try clear c97
        try clear c97b0
        try clear c97b1
        try clear c98
        try clear c98b0
        try clear c98b1
        try clear c99
        try clear c99b0
        try clear c99b1
        try clear c100
        try clear c100b0
        try clear c100b1
        try clear c101
        try clear c101b0
        try clear c101b1
        try clear c102
        try clear c103
        try clear c104
        try clear c106
        try clear c107
        try clear c113
        try clear c115
        try clear c116
        try clear c117
        try clear c119
        try clear c120
        try clear c126
        try clear c127
        try clear c128
        try clear c130
        try clear c131
        try clear c137
        try clear c138
        try clear c139
        try clear c141
        try clear c142
        try clear c147
        try clear c148
        try clear c149
        try clear c151
        try clear c152
        try clear c156
        try clear c157
        try clear c158
        try clear c160
        try clear c161
        try clear c164
        try clear hcz105_0
        try clear hcz105_1
        try clear hcz108_0
        try clear hcz108_1
        try clear hcz114_0
        try clear hcz114_1
        try clear hcz118_0
        try clear hcz118_1
        try clear hcz121_0
        try clear hcz121_1
        try clear hcz129_0
        try clear hcz129_1
        try clear hcz132_0
        try clear hcz132_1
        try clear hcz140_0
        try clear hcz140_1
        try clear hcz143_0
        try clear hcz143_1
        try clear hcz150_0
        try clear hcz150_1
        try clear hcz153_0
        try clear hcz153_1
        try clear hcz159_0
        try clear hcz159_1
        try clear hcz162_0
        try clear hcz162_1
        try clear hcz25_0
        try clear hcz25_1
        try clear hcz29_0
        try clear hcz29_1
        try clear hcz36_0
        try clear hcz36_1
        try clear hcz40_0
        try clear hcz40_1
        try clear hcz44_0
        try clear hcz44_1
        try clear hcz47_0
        try clear hcz47_1
        try clear hcz49_0
        try clear hcz49_1
        try clear hcz57_0
        try clear hcz57_1
        try clear hcz59_0
        try clear hcz59_1
        try clear hcz68_0
        try clear hcz68_1
        try clear hcz70_0
        try clear hcz70_1
        try clear hcz77_0
        try clear hcz77_1
        try clear hcz80_0
        try clear hcz80_1
        try clear hcz82_0
        try clear hcz82_1
        try clear hfz105_0
        try clear hfz105_1
        try clear hfz108_0
        try clear hfz108_1
        try clear hfz114_0
        try clear hfz114_1
        try clear hfz118_0
        try clear hfz118_1
        try clear hfz121_0
        try clear hfz121_1
        try clear hfz129_0
        try clear hfz129_1
        try clear hfz132_0
        try clear hfz132_1
        try clear hfz140_0
        try clear hfz140_1
        try clear hfz143_0
        try clear hfz143_1
        try clear hfz150_0
        try clear hfz150_1
        try clear hfz153_0
        try clear hfz153_1
        try clear hfz159_0
        try clear hfz159_1
        try clear hfz162_0
        try clear hfz162_1
        try clear hfz25_0
        try clear hfz25_1
        try clear hfz29_0
        try clear hfz29_1
        try clear hfz36_0
        try clear hfz36_1
        try clear hfz40_0
        try clear hfz40_1
        try clear hfz44_0
        try clear hfz44_1
        try clear hfz47_0
        try clear hfz47_1
        try clear hfz49_0
        try clear hfz49_1
        try clear hfz57_0
        try clear hfz57_1
        try clear hfz59_0
        try clear hfz59_1
        try clear hfz68_0
        try clear hfz68_1
        try clear hfz70_0
        try clear hfz70_1
        try clear hfz77_0
        try clear hfz77_1
        try clear hfz80_0
        try clear hfz80_1
        try clear hfz82_0
        try clear hfz82_1
        try clear hx282_0
        try clear p2
        try clear p28
        try clear p282
        try clear p6
        try clear p64
        try clear q2
        try clear q28
        try clear q282
        obtain ⟨x27_3,rfl,HA,HK3,HO_15,HO_23,HO_208000,HO_208001,HO_254000,HO_254001,HO_265000,HO_265001,HO_273000,HO_273001,BK207,BK253,BK264,BK272,HB⟩:=hrel
        cases gk with
        | zero=>exact absurd HA.out (by simp [shapesearchlaw24_DeviceKeeps.l0])
        | succ k3 =>
         have H:=HA.out
         clear HA
         simp only [shapesearchlaw24_DeviceKeeps.l0] at H
         by_cases c165 : x27_3 < 64
         ·
          rw [if_pos c165] at H
          have c165b0 : decide (x27_3 < 64) = true:=decide_eq_true c165
          clear c165
          have HC166:=A_ H
          clear H
          go_upto_if 184 with (fail)
          go_cut [28] (fun v28 wc=>∃ (kq : Nat) (x28_165 : Int),v28 = .int .u8 x28_165∧Aside0 (shapesearchlaw24_DeviceKeeps.j3 kq l0 l1 a2 t239 t273 x27_3 x28_165 0 = some r)∧Aside0 (kq ≤ k3)∧Aside0 (Kd.R (Kd.int .u8) 5 wc w.heap.size (fun k_=>nb k_ v274) v240 t239)∧Aside0 (Kd.R (Kd.int .u8) 5 wc w.heap.size (fun k_=>nb k_ v240) v274 t273)∧Aside0 (Kd.S (Kd.slice 5 (Kd.int .u8)) 26 wc w.heap.size (fun k_=>nb k_ v240∧nb k_ v274∧some k_≠((.slice Ao55 t246.length co55) : Value).ownBlock∧some k_≠((.slice Ao65 t257.length co65) : Value).ownBlock∧some k_≠((.slice Ao73 t265.length co73) : Value).ownBlock) (.slice Ao43 t232.length co43) t232)∧Aside0 (Kd.S k42 42 wc w.heap.size (fun k_=>nb k_ v240∧nb k_ v274∧some k_≠((.slice Ao58 t249.length co58) : Value).ownBlock∧some k_≠((.slice Ao69 t260.length co69) : Value).ownBlock∧some k_≠((.slice Ao78 t268.length co78) : Value).ownBlock) (.slice Ao45 t235.length co45) t235)∧Aside0 (Kd.S (Kd.slice 5 (Kd.int .u8)) 26 wc w.heap.size (fun k_=>nb k_ v240∧nb k_ v274∧some k_≠((.slice Ao43 t232.length co43) : Value).ownBlock∧some k_≠((.slice Ao65 t257.length co65) : Value).ownBlock∧some k_≠((.slice Ao73 t265.length co73) : Value).ownBlock) (.slice Ao55 t246.length co55) t246)∧Aside0 (Kd.S k42 42 wc w.heap.size (fun k_=>nb k_ v240∧nb k_ v274∧some k_≠((.slice Ao45 t235.length co45) : Value).ownBlock∧some k_≠((.slice Ao69 t260.length co69) : Value).ownBlock∧some k_≠((.slice Ao78 t268.length co78) : Value).ownBlock) (.slice Ao58 t249.length co58) t249)∧Aside0 (Kd.S (Kd.slice 5 (Kd.int .u8)) 26 wc w.heap.size (fun k_=>nb k_ v240∧nb k_ v274∧some k_≠((.slice Ao43 t232.length co43) : Value).ownBlock∧some k_≠((.slice Ao55 t246.length co55) : Value).ownBlock∧some k_≠((.slice Ao73 t265.length co73) : Value).ownBlock) (.slice Ao65 t257.length co65) t257)∧Aside0 (Kd.S k42 42 wc w.heap.size (fun k_=>nb k_ v240∧nb k_ v274∧some k_≠((.slice Ao45 t235.length co45) : Value).ownBlock∧some k_≠((.slice Ao58 t249.length co58) : Value).ownBlock∧some k_≠((.slice Ao78 t268.length co78) : Value).ownBlock) (.slice Ao69 t260.length co69) t260)∧Aside0 (Kd.S (Kd.slice 5 (Kd.int .u8)) 26 wc w.heap.size (fun k_=>nb k_ v240∧nb k_ v274∧some k_≠((.slice Ao43 t232.length co43) : Value).ownBlock∧some k_≠((.slice Ao55 t246.length co55) : Value).ownBlock∧some k_≠((.slice Ao65 t257.length co65) : Value).ownBlock) (.slice Ao73 t265.length co73) t265)∧Aside0 (Kd.S k42 42 wc w.heap.size (fun k_=>nb k_ v240∧nb k_ v274∧some k_≠((.slice Ao45 t235.length co45) : Value).ownBlock∧some k_≠((.slice Ao58 t249.length co58) : Value).ownBlock∧some k_≠((.slice Ao69 t260.length co69) : Value).ownBlock) (.slice Ao78 t268.length co78) t268)∧Aside0 (wc.heap[gb207]? = some (.cells #[(.slice Ao43 t232.length co43),(.slice Ao45 t235.length co45)] 25 (0,0)))∧Aside0 (wc.heap[gb253]? = some (.cells #[(.slice Ao55 t246.length co55),(.slice Ao58 t249.length co58)] 25 (0,0)))∧Aside0 (wc.heap[gb264]? = some (.cells #[(.slice Ao65 t257.length co65),(.slice Ao69 t260.length co69)] 25 (0,0)))∧Aside0 (wc.heap[gb272]? = some (.cells #[(.slice Ao73 t265.length co73),(.slice Ao78 t268.length co78)] 25 (0,0)))∧Aside0 (Below w.heap.size w wc))
          case first=>as_aux_lemma =>
           have H:=HC166.out
           clear HC166
           by_cases c167 : x27_3 < (l0.length : Int)
           ·
            rw [if_pos c167] at H
            have c167b0 : decide (x27_3 < (l0.length : Int)) = true:=decide_eq_true c167
            clear c167
            (first|rw [c167b0]|(simp only [i64_w,i32_w];rw [c167b0])|skip)
            by_cases c168 : 0 ≤ x27_3
            ·
             rw [if_pos c168] at H
             have c168b0 : decide (0 ≤ x27_3) = true:=decide_eq_true c168
             clear c168
             have H':=A_ H
             clear H
             have p284 : 0 ≤ (x27_3 : Int):=of_decide_eq_true (by first|(with_reducible assumption)|assumption)
             have q284 : x27_3 < (l0.length : Int):=of_decide_eq_true (by first|(with_reducible assumption)|assumption)
             obtain ⟨ad284,e284,hx284_0⟩:=Kd.at_int HR0.out x27_3 p284 q284
             cases e284
             replace hx284_0:=(HB.out.cell (World.block_lt_of_cell? w _ hx284_0)).trans hx284_0
             replace p284:=eq_true p284
             replace q284:=eq_true q284
             go_wp2
             go_meet
             case rel=>exact ⟨_,(rd l0 x27_3),(by first|rfl|(simp;done)|(simp [*];done)),H',⟨by have:=HJ4.out;have:=HJ20.out;have:=HK3.out;first|omega|exact Nat.le_refl _⟩,⟨by (with_reducible repeat (first|apply ra|apply rb|apply rc));exact HO_15.out⟩,⟨by (with_reducible repeat (first|apply ra|apply rb|apply rc));exact HO_23.out⟩,⟨by (with_reducible repeat (first|apply Kd.S_alloc|apply Kd.S_drewN|apply Kd.S_drew));exact HO_208000.out⟩,⟨by (with_reducible repeat (first|apply Kd.S_alloc|apply Kd.S_drewN|apply Kd.S_drew));exact HO_208001.out⟩,⟨by (with_reducible repeat (first|apply Kd.S_alloc|apply Kd.S_drewN|apply Kd.S_drew));exact HO_254000.out⟩,⟨by (with_reducible repeat (first|apply Kd.S_alloc|apply Kd.S_drewN|apply Kd.S_drew));exact HO_254001.out⟩,⟨by (with_reducible repeat (first|apply Kd.S_alloc|apply Kd.S_drewN|apply Kd.S_drew));exact HO_265000.out⟩,⟨by (with_reducible repeat (first|apply Kd.S_alloc|apply Kd.S_drewN|apply Kd.S_drew));exact HO_265001.out⟩,⟨by (with_reducible repeat (first|apply Kd.S_alloc|apply Kd.S_drewN|apply Kd.S_drew));exact HO_273000.out⟩,⟨by (with_reducible repeat (first|apply Kd.S_alloc|apply Kd.S_drewN|apply Kd.S_drew));exact HO_273001.out⟩,⟨by (with_reducible repeat (first|refine blk_drewN ?_ _|refine blk_drew ?_|refine blk_alloc ?_ _));exact BK207.out⟩,⟨by (with_reducible repeat (first|refine blk_drewN ?_ _|refine blk_drew ?_|refine blk_alloc ?_ _));exact BK253.out⟩,⟨by (with_reducible repeat (first|refine blk_drewN ?_ _|refine blk_drew ?_|refine blk_alloc ?_ _));exact BK264.out⟩,⟨by (with_reducible repeat (first|refine blk_drewN ?_ _|refine blk_drew ?_|refine blk_alloc ?_ _));exact BK272.out⟩,⟨by repeat (first|(with_reducible first|exact HB.out|apply ba|apply bb|apply bc|refine below_set ?_ GE207.out|refine below_set ?_ GE253.out|refine below_set ?_ GE264.out|refine below_set ?_ GE272.out)|exact HB.out)⟩⟩
            ·
             rw [if_neg c168] at H
             exact absurd H (by simp)
           ·
            rw [if_neg c167] at H
            have c167b0 : decide (x27_3 < (l0.length : Int)) = false:=decide_eq_false c167
            clear c167
            (first|rw [c167b0]|(simp only [i64_w,i32_w];rw [c167b0])|skip)
            have H':=A_ H
            clear H
            go_wp2
            go_meet
            case rel=>exact ⟨_,(0),(by first|rfl|(simp;done)|(simp [*];done)),H',⟨by have:=HJ4.out;have:=HJ20.out;have:=HK3.out;first|omega|exact Nat.le_refl _⟩,⟨by (with_reducible repeat (first|apply ra|apply rb|apply rc));exact HO_15.out⟩,⟨by (with_reducible repeat (first|apply ra|apply rb|apply rc));exact HO_23.out⟩,⟨by (with_reducible repeat (first|apply Kd.S_alloc|apply Kd.S_drewN|apply Kd.S_drew));exact HO_208000.out⟩,⟨by (with_reducible repeat (first|apply Kd.S_alloc|apply Kd.S_drewN|apply Kd.S_drew));exact HO_208001.out⟩,⟨by (with_reducible repeat (first|apply Kd.S_alloc|apply Kd.S_drewN|apply Kd.S_drew));exact HO_254000.out⟩,⟨by (with_reducible repeat (first|apply Kd.S_alloc|apply Kd.S_drewN|apply Kd.S_drew));exact HO_254001.out⟩,⟨by (with_reducible repeat (first|apply Kd.S_alloc|apply Kd.S_drewN|apply Kd.S_drew));exact HO_265000.out⟩,⟨by (with_reducible repeat (first|apply Kd.S_alloc|apply Kd.S_drewN|apply Kd.S_drew));exact HO_265001.out⟩,⟨by (with_reducible repeat (first|apply Kd.S_alloc|apply Kd.S_drewN|apply Kd.S_drew));exact HO_273000.out⟩,⟨by (with_reducible repeat (first|apply Kd.S_alloc|apply Kd.S_drewN|apply Kd.S_drew));exact HO_273001.out⟩,⟨by (with_reducible repeat (first|refine blk_drewN ?_ _|refine blk_drew ?_|refine blk_alloc ?_ _));exact BK207.out⟩,⟨by (with_reducible repeat (first|refine blk_drewN ?_ _|refine blk_drew ?_|refine blk_alloc ?_ _));exact BK253.out⟩,⟨by (with_reducible repeat (first|refine blk_drewN ?_ _|refine blk_drew ?_|refine blk_alloc ?_ _));exact BK264.out⟩,⟨by (with_reducible repeat (first|refine blk_drewN ?_ _|refine blk_drew ?_|refine blk_alloc ?_ _));exact BK272.out⟩,⟨by repeat (first|(with_reducible first|exact HB.out|apply ba|apply bb|apply bc|refine below_set ?_ GE207.out|refine below_set ?_ GE253.out|refine below_set ?_ GE264.out|refine below_set ?_ GE272.out)|exact HB.out)⟩⟩
          case rest=>as_aux_lemma =>
           clear HC166
           try clear c1
           try clear p2
           try clear q2
           try clear hx2
           try clear qi2
           try clear c5
           try clear c6
           try clear c6b0
           try clear c6b1
           try clear p6
           try clear c7
           try clear c8
           try clear c9
           try clear c10
           try clear c11
           try clear c12
           try clear c13
           try clear c14
           try clear c15
           try clear c16
           try clear c17
           try clear p28
           try clear q28
           try clear hx28
           try clear qi28
           try clear c56
           try clear p64
           try clear c66
           try clear c67
           try clear c74
           try clear c75
           try clear c76
           try clear c84
           try clear c84b0
           try clear c84b1
           try clear c85
           try clear c85b0
           try clear c85b1
           try clear c86
           try clear c86b0
           try clear c86b1
           try clear c87
           try clear c87b0
           try clear c87b1
           try clear c88
           try clear c88b0
           try clear c88b1
           try clear c89
           try clear c89b0
           try clear c89b1
           try clear c90
           try clear c90b0
           try clear c90b1
           try clear c91
           try clear c91b0
           try clear c91b1
           try clear c92
           try clear c92b0
           try clear c92b1
           try clear c93
           try clear c93b0
           try clear c93b1
           try clear c94
           try clear c94b0
           try clear c94b1
           try clear c96
           try clear c97
           try clear c97b0
           try clear c97b1
           try clear c98
           try clear c98b0
           try clear c98b1
           try clear c99
           try clear c99b0
           try clear c99b1
           try clear c100
           try clear c100b0
           try clear c100b1
           try clear c101
           try clear c101b0
           try clear c101b1
           try clear c102
           try clear c103
           try clear c104
           try clear c106
           try clear c107
           try clear c113
           try clear c115
           try clear c116
           try clear c117
           try clear c119
           try clear c120
           try clear c126
           try clear c127
           try clear c128
           try clear c130
           try clear c131
           try clear c137
           try clear c138
           try clear c139
           try clear c141
           try clear c142
           try clear c147
           try clear c148
           try clear c149
           try clear c151
           try clear c152
           try clear c156
           try clear c157
           try clear c158
           try clear c160
           try clear c161
           try clear c164
           try clear c165
           try clear c165b0
           try clear c167
           try clear c167b0
           try clear c168
           try clear c168b0
           try clear hcz105_0
           try clear hcz105_1
           try clear hcz108_0
           try clear hcz108_1
           try clear hcz114_0
           try clear hcz114_1
           try clear hcz118_0
           try clear hcz118_1
           try clear hcz121_0
           try clear hcz121_1
           try clear hcz129_0
           try clear hcz129_1
           try clear hcz132_0
           try clear hcz132_1
           try clear hcz140_0
           try clear hcz140_1
           try clear hcz143_0
           try clear hcz143_1
           try clear hcz150_0
           try clear hcz150_1
           try clear hcz153_0
           try clear hcz153_1
           try clear hcz159_0
           try clear hcz159_1
           try clear hcz162_0
           try clear hcz162_1
           try clear hcz25_0
           try clear hcz25_1
           try clear hcz29_0
           try clear hcz29_1
           try clear hcz36_0
           try clear hcz36_1
           try clear hcz40_0
           try clear hcz40_1
           try clear hcz44_0
           try clear hcz44_1
           try clear hcz47_0
           try clear hcz47_1
           try clear hcz49_0
           try clear hcz49_1
           try clear hcz57_0
           try clear hcz57_1
           try clear hcz59_0
           try clear hcz59_1
           try clear hcz68_0
           try clear hcz68_1
           try clear hcz70_0
           try clear hcz70_1
           try clear hcz77_0
           try clear hcz77_1
           try clear hcz80_0
           try clear hcz80_1
           try clear hcz82_0
           try clear hcz82_1
           try clear hfz105_0
           try clear hfz105_1
           try clear hfz108_0
           try clear hfz108_1
           try clear hfz114_0
           try clear hfz114_1
           try clear hfz118_0
           try clear hfz118_1
           try clear hfz121_0
           try clear hfz121_1
           try clear hfz129_0
           try clear hfz129_1
           try clear hfz132_0
           try clear hfz132_1
           try clear hfz140_0
           try clear hfz140_1
           try clear hfz143_0
           try clear hfz143_1
           try clear hfz150_0
           try clear hfz150_1
           try clear hfz153_0
           try clear hfz153_1
           try clear hfz159_0
           try clear hfz159_1
           try clear hfz162_0
           try clear hfz162_1
           try clear hfz25_0
           try clear hfz25_1
           try clear hfz29_0
           try clear hfz29_1
           try clear hfz36_0
           try clear hfz36_1
           try clear hfz40_0
           try clear hfz40_1
           try clear hfz44_0
           try clear hfz44_1
           try clear hfz47_0
           try clear hfz47_1
           try clear hfz49_0
           try clear hfz49_1
           try clear hfz57_0
           try clear hfz57_1
           try clear hfz59_0
           try clear hfz59_1
           try clear hfz68_0
           try clear hfz68_1
           try clear hfz70_0
           try clear hfz70_1
           try clear hfz77_0
           try clear hfz77_1
           try clear hfz80_0
           try clear hfz80_1
           try clear hfz82_0
           try clear hfz82_1
           try clear hx282_0
           try clear hx284_0
           try clear p2
           try clear p28
           try clear p282
           try clear p284
           try clear p6
           try clear p64
           try clear q2
           try clear q28
           try clear q282
           try clear q284
           obtain ⟨kq,x28_165,rfl,HA,HJ165,HO_15,HO_23,HO_208000,HO_208001,HO_254000,HO_254001,HO_265000,HO_265001,HO_273000,HO_273001,BK207,BK253,BK264,BK272,HB⟩:=hcut
           cases kq with
           | zero=>exact absurd HA.out (by simp [shapesearchlaw24_DeviceKeeps.j3])
           | succ kj165 =>
            have H:=HA.out
            clear HA
            simp only [shapesearchlaw24_DeviceKeeps.j3] at H
            by_cases c169 : x27_3 < (l1.length : Int)
            ·
             rw [if_pos c169] at H
             have c169b0 : decide (x27_3 < (l1.length : Int)) = true:=decide_eq_true c169
             clear c169
             by_cases c170 : 0 ≤ x27_3
             ·
              rw [if_pos c170] at H
              have c170b0 : decide (0 ≤ x27_3) = true:=decide_eq_true c170
              clear c170
              have HC171:=A_ H
              clear H
              have p285 : 0 ≤ (x27_3 : Int):=of_decide_eq_true (by first|(with_reducible assumption)|assumption)
              have q285 : x27_3 < (l1.length : Int):=of_decide_eq_true (by first|(with_reducible assumption)|assumption)
              obtain ⟨ad285,e285,hx285_0⟩:=Kd.at_int HR1.out x27_3 p285 q285
              cases e285
              replace hx285_0:=(HB.out.cell (World.block_lt_of_cell? w _ hx285_0)).trans hx285_0
              replace p285:=eq_true p285
              replace q285:=eq_true q285
              go_upto_region 24 with (fail)
              have H:=HC171.out
              clear HC171
              by_cases c172 : x27_3 < (t239.length : Int)
              ·
               rw [if_pos c172] at H
               have c172b0 : decide (x27_3 < (t239.length : Int)) = true:=decide_eq_true c172
               clear c172
               (first|rw [c172b0]|(simp only [i64_w,i32_w];rw [c172b0])|skip)
               by_cases c173 : (rd t239 x27_3) = (rd l1 x27_3)
               ·
                rw [if_pos c173] at H
                have c173b0 : ((rd t239 x27_3) == (rd l1 x27_3)) = true:=beq_iff_eq.mpr c173
                have c173b1 : ((rd t239 x27_3) != (rd l1 x27_3)) = false:=bne_eq_false_iff_eq.mpr c173
                clear c173
                by_cases c174 : x27_3 < (wrap64 (a2))
                ·
                 rw [if_pos c174] at H
                 have c174b0 : decide (x27_3 < (wrap64 (a2))) = true:=decide_eq_true c174
                 clear c174
                 by_cases c175 : x27_3 < (t273.length : Int)
                 ·
                  rw [if_pos c175] at H
                  have c175b0 : decide (x27_3 < (t273.length : Int)) = true:=decide_eq_true c175
                  clear c175
                  by_cases c176 : (rd t273 x27_3) = (rd l1 x27_3)
                  ·
                   rw [if_pos c176] at H
                   have c176b0 : ((rd t273 x27_3) == (rd l1 x27_3)) = true:=beq_iff_eq.mpr c176
                   have c176b1 : ((rd t273 x27_3) != (rd l1 x27_3)) = false:=bne_eq_false_iff_eq.mpr c176
                   clear c176
                   by_cases c177 : x27_3 ≥ (wrap64 (a2))
                   ·
                    rw [if_pos c177] at H
                    have c177b0 : decide ((wrap64 (a2)) ≤ x27_3) = true:=decide_eq_true c177
                    clear c177
                    by_cases c178 : (rd t273 x27_3) = x28_165
                    ·
                     rw [if_pos c178] at H
                     have c178b0 : ((rd t273 x27_3) == x28_165) = true:=beq_iff_eq.mpr c178
                     have c178b1 : ((rd t273 x27_3) != x28_165) = false:=bne_eq_false_iff_eq.mpr c178
                     clear c178
                     have H':=A_ H
                     clear H
                     obtain ⟨Ao179,co179,eo179⟩:=Kd.R_slice HO_15.out
                     subst eo179
                     have p286 : 0 ≤ (x27_3 : Int):=of_decide_eq_true (by first|(with_reducible assumption)|assumption)
                     have q286 : x27_3 < (t239.length : Int):=of_decide_eq_true (by first|(with_reducible assumption)|assumption)
                     obtain ⟨ad286,e286,hx286_0⟩:=Kd.at_int (rd_ HO_15.out).2.2 x27_3 p286 q286
                     cases e286
                     replace p286:=eq_true p286
                     replace q286:=eq_true q286
                     obtain ⟨Ao180,co180,eo180⟩:=Kd.R_slice HO_23.out
                     subst eo180
                     have p287 : 0 ≤ (x27_3 : Int):=of_decide_eq_true (by first|(with_reducible assumption)|assumption)
                     have q287 : x27_3 < (t273.length : Int):=of_decide_eq_true (by first|(with_reducible assumption)|assumption)
                     obtain ⟨ad287,e287,hx287_0⟩:=Kd.at_int (rd_ HO_23.out).2.2 x27_3 p287 q287
                     cases e287
                     replace p287:=eq_true p287
                     replace q287:=eq_true q287
                     have p288 : 0 ≤ (x27_3 : Int):=of_decide_eq_true (by first|(with_reducible assumption)|assumption)
                     have q288 : x27_3 < (t273.length : Int):=of_decide_eq_true (by first|(with_reducible assumption)|assumption)
                     obtain ⟨ad288,e288,hx288_0⟩:=Kd.at_int (rd_ HO_23.out).2.2 x27_3 p288 q288
                     obtain rfl : ad287 = ad288:=(by injection e288)
                     replace p288:=eq_true p288
                     replace q288:=eq_true q288
                     go_wp2
                     go_roundg kj165
                     case measure=>have:=HJ4.out;have:=HJ20.out;have:=HK3.out;have:=HJ165.out;omega
                     case rel=>exact ⟨(wrap64 (x27_3 + 1)),(by first|rfl|(simp;done)|(simp [*];done)),H',⟨by have:=HJ4.out;have:=HJ20.out;have:=HK3.out;have:=HJ165.out;omega⟩,⟨by (with_reducible repeat (first|apply ra|apply rb|apply rc));exact HO_15.out⟩,⟨by (with_reducible repeat (first|apply ra|apply rb|apply rc));exact HO_23.out⟩,⟨by (with_reducible repeat (first|apply Kd.S_alloc|apply Kd.S_drewN|apply Kd.S_drew));exact HO_208000.out⟩,⟨by (with_reducible repeat (first|apply Kd.S_alloc|apply Kd.S_drewN|apply Kd.S_drew));exact HO_208001.out⟩,⟨by (with_reducible repeat (first|apply Kd.S_alloc|apply Kd.S_drewN|apply Kd.S_drew));exact HO_254000.out⟩,⟨by (with_reducible repeat (first|apply Kd.S_alloc|apply Kd.S_drewN|apply Kd.S_drew));exact HO_254001.out⟩,⟨by (with_reducible repeat (first|apply Kd.S_alloc|apply Kd.S_drewN|apply Kd.S_drew));exact HO_265000.out⟩,⟨by (with_reducible repeat (first|apply Kd.S_alloc|apply Kd.S_drewN|apply Kd.S_drew));exact HO_265001.out⟩,⟨by (with_reducible repeat (first|apply Kd.S_alloc|apply Kd.S_drewN|apply Kd.S_drew));exact HO_273000.out⟩,⟨by (with_reducible repeat (first|apply Kd.S_alloc|apply Kd.S_drewN|apply Kd.S_drew));exact HO_273001.out⟩,⟨by (with_reducible repeat (first|refine blk_drewN ?_ _|refine blk_drew ?_|refine blk_alloc ?_ _));exact BK207.out⟩,⟨by (with_reducible repeat (first|refine blk_drewN ?_ _|refine blk_drew ?_|refine blk_alloc ?_ _));exact BK253.out⟩,⟨by (with_reducible repeat (first|refine blk_drewN ?_ _|refine blk_drew ?_|refine blk_alloc ?_ _));exact BK264.out⟩,⟨by (with_reducible repeat (first|refine blk_drewN ?_ _|refine blk_drew ?_|refine blk_alloc ?_ _));exact BK272.out⟩,⟨by repeat (first|(with_reducible first|exact HB.out|apply ba|apply bb|apply bc|refine below_set ?_ GE207.out|refine below_set ?_ GE253.out|refine below_set ?_ GE264.out|refine below_set ?_ GE272.out)|exact HB.out)⟩⟩
                    ·
                     rw [if_neg c178] at H
                     have c178b0 : ((rd t273 x27_3) == x28_165) = false:=beq_eq_false_iff_ne.mpr c178
                     have c178b1 : ((rd t273 x27_3) != x28_165) = true:=bne_iff_ne.mpr c178
                     exact absurd ((Option.some.inj H).trans HTR_.out) (by decide)
                   ·
                    rw [if_neg c177] at H
                    have c177b0 : decide ((wrap64 (a2)) ≤ x27_3) = false:=decide_eq_false c177
                    clear c177
                    have H':=A_ H
                    clear H
                    obtain ⟨Ao181,co181,eo181⟩:=Kd.R_slice HO_15.out
                    subst eo181
                    have p286 : 0 ≤ (x27_3 : Int):=of_decide_eq_true (by first|(with_reducible assumption)|assumption)
                    have q286 : x27_3 < (t239.length : Int):=of_decide_eq_true (by first|(with_reducible assumption)|assumption)
                    obtain ⟨ad286,e286,hx286_0⟩:=Kd.at_int (rd_ HO_15.out).2.2 x27_3 p286 q286
                    cases e286
                    replace p286:=eq_true p286
                    replace q286:=eq_true q286
                    obtain ⟨Ao182,co182,eo182⟩:=Kd.R_slice HO_23.out
                    subst eo182
                    have p287 : 0 ≤ (x27_3 : Int):=of_decide_eq_true (by first|(with_reducible assumption)|assumption)
                    have q287 : x27_3 < (t273.length : Int):=of_decide_eq_true (by first|(with_reducible assumption)|assumption)
                    obtain ⟨ad287,e287,hx287_0⟩:=Kd.at_int (rd_ HO_23.out).2.2 x27_3 p287 q287
                    cases e287
                    replace p287:=eq_true p287
                    replace q287:=eq_true q287
                    go_wp2
                    go_roundg kj165
                    case measure=>have:=HJ4.out;have:=HJ20.out;have:=HK3.out;have:=HJ165.out;omega
                    case rel=>exact ⟨(wrap64 (x27_3 + 1)),(by first|rfl|(simp;done)|(simp [*];done)),H',⟨by have:=HJ4.out;have:=HJ20.out;have:=HK3.out;have:=HJ165.out;omega⟩,⟨by (with_reducible repeat (first|apply ra|apply rb|apply rc));exact HO_15.out⟩,⟨by (with_reducible repeat (first|apply ra|apply rb|apply rc));exact HO_23.out⟩,⟨by (with_reducible repeat (first|apply Kd.S_alloc|apply Kd.S_drewN|apply Kd.S_drew));exact HO_208000.out⟩,⟨by (with_reducible repeat (first|apply Kd.S_alloc|apply Kd.S_drewN|apply Kd.S_drew));exact HO_208001.out⟩,⟨by (with_reducible repeat (first|apply Kd.S_alloc|apply Kd.S_drewN|apply Kd.S_drew));exact HO_254000.out⟩,⟨by (with_reducible repeat (first|apply Kd.S_alloc|apply Kd.S_drewN|apply Kd.S_drew));exact HO_254001.out⟩,⟨by (with_reducible repeat (first|apply Kd.S_alloc|apply Kd.S_drewN|apply Kd.S_drew));exact HO_265000.out⟩,⟨by (with_reducible repeat (first|apply Kd.S_alloc|apply Kd.S_drewN|apply Kd.S_drew));exact HO_265001.out⟩,⟨by (with_reducible repeat (first|apply Kd.S_alloc|apply Kd.S_drewN|apply Kd.S_drew));exact HO_273000.out⟩,⟨by (with_reducible repeat (first|apply Kd.S_alloc|apply Kd.S_drewN|apply Kd.S_drew));exact HO_273001.out⟩,⟨by (with_reducible repeat (first|refine blk_drewN ?_ _|refine blk_drew ?_|refine blk_alloc ?_ _));exact BK207.out⟩,⟨by (with_reducible repeat (first|refine blk_drewN ?_ _|refine blk_drew ?_|refine blk_alloc ?_ _));exact BK253.out⟩,⟨by (with_reducible repeat (first|refine blk_drewN ?_ _|refine blk_drew ?_|refine blk_alloc ?_ _));exact BK264.out⟩,⟨by (with_reducible repeat (first|refine blk_drewN ?_ _|refine blk_drew ?_|refine blk_alloc ?_ _));exact BK272.out⟩,⟨by repeat (first|(with_reducible first|exact HB.out|apply ba|apply bb|apply bc|refine below_set ?_ GE207.out|refine below_set ?_ GE253.out|refine below_set ?_ GE264.out|refine below_set ?_ GE272.out)|exact HB.out)⟩⟩
                  ·
                   rw [if_neg c176] at H
                   have c176b0 : ((rd t273 x27_3) == (rd l1 x27_3)) = false:=beq_eq_false_iff_ne.mpr c176
                   have c176b1 : ((rd t273 x27_3) != (rd l1 x27_3)) = true:=bne_iff_ne.mpr c176
                   exact absurd ((Option.some.inj H).trans HTR_.out) (by decide)
                 ·
                  rw [if_neg c175] at H
                  exact absurd H (by simp)
                ·
                 rw [if_neg c174] at H
                 have c174b0 : decide (x27_3 < (wrap64 (a2))) = false:=decide_eq_false c174
                 clear c174
                 by_cases c183 : x27_3 ≥ (wrap64 (a2))
                 ·
                  rw [if_pos c183] at H
                  have c183b0 : decide ((wrap64 (a2)) ≤ x27_3) = true:=decide_eq_true c183
                  clear c183
                  by_cases c184 : x27_3 < (t273.length : Int)
                  ·
                   rw [if_pos c184] at H
                   have c184b0 : decide (x27_3 < (t273.length : Int)) = true:=decide_eq_true c184
                   clear c184
                   by_cases c185 : (rd t273 x27_3) = x28_165
                   ·
                    rw [if_pos c185] at H
                    have c185b0 : ((rd t273 x27_3) == x28_165) = true:=beq_iff_eq.mpr c185
                    have c185b1 : ((rd t273 x27_3) != x28_165) = false:=bne_eq_false_iff_eq.mpr c185
                    clear c185
                    have H':=A_ H
                    clear H
                    obtain ⟨Ao186,co186,eo186⟩:=Kd.R_slice HO_15.out
                    subst eo186
                    have p286 : 0 ≤ (x27_3 : Int):=of_decide_eq_true (by first|(with_reducible assumption)|assumption)
                    have q286 : x27_3 < (t239.length : Int):=of_decide_eq_true (by first|(with_reducible assumption)|assumption)
                    obtain ⟨ad286,e286,hx286_0⟩:=Kd.at_int (rd_ HO_15.out).2.2 x27_3 p286 q286
                    cases e286
                    replace p286:=eq_true p286
                    replace q286:=eq_true q286
                    obtain ⟨Ao187,co187,eo187⟩:=Kd.R_slice HO_23.out
                    subst eo187
                    have p289 : 0 ≤ (x27_3 : Int):=of_decide_eq_true (by first|(with_reducible assumption)|assumption)
                    have q289 : x27_3 < (t273.length : Int):=of_decide_eq_true (by first|(with_reducible assumption)|assumption)
                    obtain ⟨ad289,e289,hx289_0⟩:=Kd.at_int (rd_ HO_23.out).2.2 x27_3 p289 q289
                    cases e289
                    replace p289:=eq_true p289
                    replace q289:=eq_true q289
                    go_wp2
                    go_roundg kj165
                    case measure=>have:=HJ4.out;have:=HJ20.out;have:=HK3.out;have:=HJ165.out;omega
                    case rel=>exact ⟨(wrap64 (x27_3 + 1)),(by first|rfl|(simp;done)|(simp [*];done)),H',⟨by have:=HJ4.out;have:=HJ20.out;have:=HK3.out;have:=HJ165.out;omega⟩,⟨by (with_reducible repeat (first|apply ra|apply rb|apply rc));exact HO_15.out⟩,⟨by (with_reducible repeat (first|apply ra|apply rb|apply rc));exact HO_23.out⟩,⟨by (with_reducible repeat (first|apply Kd.S_alloc|apply Kd.S_drewN|apply Kd.S_drew));exact HO_208000.out⟩,⟨by (with_reducible repeat (first|apply Kd.S_alloc|apply Kd.S_drewN|apply Kd.S_drew));exact HO_208001.out⟩,⟨by (with_reducible repeat (first|apply Kd.S_alloc|apply Kd.S_drewN|apply Kd.S_drew));exact HO_254000.out⟩,⟨by (with_reducible repeat (first|apply Kd.S_alloc|apply Kd.S_drewN|apply Kd.S_drew));exact HO_254001.out⟩,⟨by (with_reducible repeat (first|apply Kd.S_alloc|apply Kd.S_drewN|apply Kd.S_drew));exact HO_265000.out⟩,⟨by (with_reducible repeat (first|apply Kd.S_alloc|apply Kd.S_drewN|apply Kd.S_drew));exact HO_265001.out⟩,⟨by (with_reducible repeat (first|apply Kd.S_alloc|apply Kd.S_drewN|apply Kd.S_drew));exact HO_273000.out⟩,⟨by (with_reducible repeat (first|apply Kd.S_alloc|apply Kd.S_drewN|apply Kd.S_drew));exact HO_273001.out⟩,⟨by (with_reducible repeat (first|refine blk_drewN ?_ _|refine blk_drew ?_|refine blk_alloc ?_ _));exact BK207.out⟩,⟨by (with_reducible repeat (first|refine blk_drewN ?_ _|refine blk_drew ?_|refine blk_alloc ?_ _));exact BK253.out⟩,⟨by (with_reducible repeat (first|refine blk_drewN ?_ _|refine blk_drew ?_|refine blk_alloc ?_ _));exact BK264.out⟩,⟨by (with_reducible repeat (first|refine blk_drewN ?_ _|refine blk_drew ?_|refine blk_alloc ?_ _));exact BK272.out⟩,⟨by repeat (first|(with_reducible first|exact HB.out|apply ba|apply bb|apply bc|refine below_set ?_ GE207.out|refine below_set ?_ GE253.out|refine below_set ?_ GE264.out|refine below_set ?_ GE272.out)|exact HB.out)⟩⟩
                   ·
                    rw [if_neg c185] at H
                    have c185b0 : ((rd t273 x27_3) == x28_165) = false:=beq_eq_false_iff_ne.mpr c185
                    have c185b1 : ((rd t273 x27_3) != x28_165) = true:=bne_iff_ne.mpr c185
                    exact absurd ((Option.some.inj H).trans HTR_.out) (by decide)
                  ·
                   rw [if_neg c184] at H
                   exact absurd H (by simp)
                 ·
                  rw [if_neg c183] at H
                  have c183b0 : decide ((wrap64 (a2)) ≤ x27_3) = false:=decide_eq_false c183
                  clear c183
                  have H':=A_ H
                  clear H
                  obtain ⟨Ao188,co188,eo188⟩:=Kd.R_slice HO_15.out
                  subst eo188
                  have p286 : 0 ≤ (x27_3 : Int):=of_decide_eq_true (by first|(with_reducible assumption)|assumption)
                  have q286 : x27_3 < (t239.length : Int):=of_decide_eq_true (by first|(with_reducible assumption)|assumption)
                  obtain ⟨ad286,e286,hx286_0⟩:=Kd.at_int (rd_ HO_15.out).2.2 x27_3 p286 q286
                  cases e286
                  replace p286:=eq_true p286
                  replace q286:=eq_true q286
                  go_wp2
                  go_roundg kj165
                  case measure=>have:=HJ4.out;have:=HJ20.out;have:=HK3.out;have:=HJ165.out;omega
                  case rel=>exact ⟨(wrap64 (x27_3 + 1)),(by first|rfl|(simp;done)|(simp [*];done)),H',⟨by have:=HJ4.out;have:=HJ20.out;have:=HK3.out;have:=HJ165.out;omega⟩,⟨by (with_reducible repeat (first|apply ra|apply rb|apply rc));exact HO_15.out⟩,⟨by (with_reducible repeat (first|apply ra|apply rb|apply rc));exact HO_23.out⟩,⟨by (with_reducible repeat (first|apply Kd.S_alloc|apply Kd.S_drewN|apply Kd.S_drew));exact HO_208000.out⟩,⟨by (with_reducible repeat (first|apply Kd.S_alloc|apply Kd.S_drewN|apply Kd.S_drew));exact HO_208001.out⟩,⟨by (with_reducible repeat (first|apply Kd.S_alloc|apply Kd.S_drewN|apply Kd.S_drew));exact HO_254000.out⟩,⟨by (with_reducible repeat (first|apply Kd.S_alloc|apply Kd.S_drewN|apply Kd.S_drew));exact HO_254001.out⟩,⟨by (with_reducible repeat (first|apply Kd.S_alloc|apply Kd.S_drewN|apply Kd.S_drew));exact HO_265000.out⟩,⟨by (with_reducible repeat (first|apply Kd.S_alloc|apply Kd.S_drewN|apply Kd.S_drew));exact HO_265001.out⟩,⟨by (with_reducible repeat (first|apply Kd.S_alloc|apply Kd.S_drewN|apply Kd.S_drew));exact HO_273000.out⟩,⟨by (with_reducible repeat (first|apply Kd.S_alloc|apply Kd.S_drewN|apply Kd.S_drew));exact HO_273001.out⟩,⟨by (with_reducible repeat (first|refine blk_drewN ?_ _|refine blk_drew ?_|refine blk_alloc ?_ _));exact BK207.out⟩,⟨by (with_reducible repeat (first|refine blk_drewN ?_ _|refine blk_drew ?_|refine blk_alloc ?_ _));exact BK253.out⟩,⟨by (with_reducible repeat (first|refine blk_drewN ?_ _|refine blk_drew ?_|refine blk_alloc ?_ _));exact BK264.out⟩,⟨by (with_reducible repeat (first|refine blk_drewN ?_ _|refine blk_drew ?_|refine blk_alloc ?_ _));exact BK272.out⟩,⟨by repeat (first|(with_reducible first|exact HB.out|apply ba|apply bb|apply bc|refine below_set ?_ GE207.out|refine below_set ?_ GE253.out|refine below_set ?_ GE264.out|refine below_set ?_ GE272.out)|exact HB.out)⟩⟩
               ·
                rw [if_neg c173] at H
                have c173b0 : ((rd t239 x27_3) == (rd l1 x27_3)) = false:=beq_eq_false_iff_ne.mpr c173
                have c173b1 : ((rd t239 x27_3) != (rd l1 x27_3)) = true:=bne_iff_ne.mpr c173
                exact absurd ((Option.some.inj H).trans HTR_.out) (by decide)
              ·
               rw [if_neg c172] at H
               exact absurd H (by simp)
             ·
              rw [if_neg c170] at H
              exact absurd H (by simp)
            ·
             rw [if_neg c169] at H
             have c169b0 : decide (x27_3 < (l1.length : Int)) = false:=decide_eq_false c169
             clear c169
             by_cases c189 : 0 ≤ x27_3
             ·
              rw [if_pos c189] at H
              have c189b0 : decide (0 ≤ x27_3) = true:=decide_eq_true c189
              clear c189
              by_cases c190 : x27_3 < (t239.length : Int)
              ·
               rw [if_pos c190] at H
               have c190b0 : decide (x27_3 < (t239.length : Int)) = true:=decide_eq_true c190
               clear c190
               by_cases c191 : (rd t239 x27_3) = 0
               ·
                rw [if_pos c191] at H
                have c191b0 : ((rd t239 x27_3) == 0) = true:=beq_iff_eq.mpr c191
                have c191b1 : ((rd t239 x27_3) != 0) = false:=bne_eq_false_iff_eq.mpr c191
                clear c191
                by_cases c192 : x27_3 < (wrap64 (a2))
                ·
                 rw [if_pos c192] at H
                 have c192b0 : decide (x27_3 < (wrap64 (a2))) = true:=decide_eq_true c192
                 clear c192
                 by_cases c193 : x27_3 < (t273.length : Int)
                 ·
                  rw [if_pos c193] at H
                  have c193b0 : decide (x27_3 < (t273.length : Int)) = true:=decide_eq_true c193
                  clear c193
                  by_cases c194 : (rd t273 x27_3) = 0
                  ·
                   rw [if_pos c194] at H
                   have c194b0 : ((rd t273 x27_3) == 0) = true:=beq_iff_eq.mpr c194
                   have c194b1 : ((rd t273 x27_3) != 0) = false:=bne_eq_false_iff_eq.mpr c194
                   clear c194
                   by_cases c195 : x27_3 ≥ (wrap64 (a2))
                   ·
                    rw [if_pos c195] at H
                    have c195b0 : decide ((wrap64 (a2)) ≤ x27_3) = true:=decide_eq_true c195
                    clear c195
                    by_cases c196 : (rd t273 x27_3) = x28_165
                    ·
                     rw [if_pos c196] at H
                     have c196b0 : ((rd t273 x27_3) == x28_165) = true:=beq_iff_eq.mpr c196
                     have c196b1 : ((rd t273 x27_3) != x28_165) = false:=bne_eq_false_iff_eq.mpr c196
                     clear c196
                     have H':=A_ H
                     clear H
                     obtain ⟨Ao197,co197,eo197⟩:=Kd.R_slice HO_15.out
                     subst eo197
                     have p290 : 0 ≤ (x27_3 : Int):=of_decide_eq_true (by first|(with_reducible assumption)|assumption)
                     have q290 : x27_3 < (t239.length : Int):=of_decide_eq_true (by first|(with_reducible assumption)|assumption)
                     obtain ⟨ad290,e290,hx290_0⟩:=Kd.at_int (rd_ HO_15.out).2.2 x27_3 p290 q290
                     cases e290
                     replace p290:=eq_true p290
                     replace q290:=eq_true q290
                     obtain ⟨Ao198,co198,eo198⟩:=Kd.R_slice HO_23.out
                     subst eo198
                     have p291 : 0 ≤ (x27_3 : Int):=of_decide_eq_true (by first|(with_reducible assumption)|assumption)
                     have q291 : x27_3 < (t273.length : Int):=of_decide_eq_true (by first|(with_reducible assumption)|assumption)
                     obtain ⟨ad291,e291,hx291_0⟩:=Kd.at_int (rd_ HO_23.out).2.2 x27_3 p291 q291
                     cases e291
                     replace p291:=eq_true p291
                     replace q291:=eq_true q291
                     have p292 : 0 ≤ (x27_3 : Int):=of_decide_eq_true (by first|(with_reducible assumption)|assumption)
                     have q292 : x27_3 < (t273.length : Int):=of_decide_eq_true (by first|(with_reducible assumption)|assumption)
                     obtain ⟨ad292,e292,hx292_0⟩:=Kd.at_int (rd_ HO_23.out).2.2 x27_3 p292 q292
                     obtain rfl : ad291 = ad292:=(by injection e292)
                     replace p292:=eq_true p292
                     replace q292:=eq_true q292
                     go_wp2
                     go_roundg kj165
                     case measure=>have:=HJ4.out;have:=HJ20.out;have:=HK3.out;have:=HJ165.out;omega
                     case rel=>exact ⟨(wrap64 (x27_3 + 1)),(by first|rfl|(simp;done)|(simp [*];done)),H',⟨by have:=HJ4.out;have:=HJ20.out;have:=HK3.out;have:=HJ165.out;omega⟩,⟨by (with_reducible repeat (first|apply ra|apply rb|apply rc));exact HO_15.out⟩,⟨by (with_reducible repeat (first|apply ra|apply rb|apply rc));exact HO_23.out⟩,⟨by (with_reducible repeat (first|apply Kd.S_alloc|apply Kd.S_drewN|apply Kd.S_drew));exact HO_208000.out⟩,⟨by (with_reducible repeat (first|apply Kd.S_alloc|apply Kd.S_drewN|apply Kd.S_drew));exact HO_208001.out⟩,⟨by (with_reducible repeat (first|apply Kd.S_alloc|apply Kd.S_drewN|apply Kd.S_drew));exact HO_254000.out⟩,⟨by (with_reducible repeat (first|apply Kd.S_alloc|apply Kd.S_drewN|apply Kd.S_drew));exact HO_254001.out⟩,⟨by (with_reducible repeat (first|apply Kd.S_alloc|apply Kd.S_drewN|apply Kd.S_drew));exact HO_265000.out⟩,⟨by (with_reducible repeat (first|apply Kd.S_alloc|apply Kd.S_drewN|apply Kd.S_drew));exact HO_265001.out⟩,⟨by (with_reducible repeat (first|apply Kd.S_alloc|apply Kd.S_drewN|apply Kd.S_drew));exact HO_273000.out⟩,⟨by (with_reducible repeat (first|apply Kd.S_alloc|apply Kd.S_drewN|apply Kd.S_drew));exact HO_273001.out⟩,⟨by (with_reducible repeat (first|refine blk_drewN ?_ _|refine blk_drew ?_|refine blk_alloc ?_ _));exact BK207.out⟩,⟨by (with_reducible repeat (first|refine blk_drewN ?_ _|refine blk_drew ?_|refine blk_alloc ?_ _));exact BK253.out⟩,⟨by (with_reducible repeat (first|refine blk_drewN ?_ _|refine blk_drew ?_|refine blk_alloc ?_ _));exact BK264.out⟩,⟨by (with_reducible repeat (first|refine blk_drewN ?_ _|refine blk_drew ?_|refine blk_alloc ?_ _));exact BK272.out⟩,⟨by repeat (first|(with_reducible first|exact HB.out|apply ba|apply bb|apply bc|refine below_set ?_ GE207.out|refine below_set ?_ GE253.out|refine below_set ?_ GE264.out|refine below_set ?_ GE272.out)|exact HB.out)⟩⟩
                    ·
                     rw [if_neg c196] at H
                     have c196b0 : ((rd t273 x27_3) == x28_165) = false:=beq_eq_false_iff_ne.mpr c196
                     have c196b1 : ((rd t273 x27_3) != x28_165) = true:=bne_iff_ne.mpr c196
                     exact absurd ((Option.some.inj H).trans HTR_.out) (by decide)
                   ·
                    rw [if_neg c195] at H
                    have c195b0 : decide ((wrap64 (a2)) ≤ x27_3) = false:=decide_eq_false c195
                    clear c195
                    have H':=A_ H
                    clear H
                    obtain ⟨Ao199,co199,eo199⟩:=Kd.R_slice HO_15.out
                    subst eo199
                    have p290 : 0 ≤ (x27_3 : Int):=of_decide_eq_true (by first|(with_reducible assumption)|assumption)
                    have q290 : x27_3 < (t239.length : Int):=of_decide_eq_true (by first|(with_reducible assumption)|assumption)
                    obtain ⟨ad290,e290,hx290_0⟩:=Kd.at_int (rd_ HO_15.out).2.2 x27_3 p290 q290
                    cases e290
                    replace p290:=eq_true p290
                    replace q290:=eq_true q290
                    obtain ⟨Ao200,co200,eo200⟩:=Kd.R_slice HO_23.out
                    subst eo200
                    have p291 : 0 ≤ (x27_3 : Int):=of_decide_eq_true (by first|(with_reducible assumption)|assumption)
                    have q291 : x27_3 < (t273.length : Int):=of_decide_eq_true (by first|(with_reducible assumption)|assumption)
                    obtain ⟨ad291,e291,hx291_0⟩:=Kd.at_int (rd_ HO_23.out).2.2 x27_3 p291 q291
                    cases e291
                    replace p291:=eq_true p291
                    replace q291:=eq_true q291
                    go_wp2
                    go_roundg kj165
                    case measure=>have:=HJ4.out;have:=HJ20.out;have:=HK3.out;have:=HJ165.out;omega
                    case rel=>exact ⟨(wrap64 (x27_3 + 1)),(by first|rfl|(simp;done)|(simp [*];done)),H',⟨by have:=HJ4.out;have:=HJ20.out;have:=HK3.out;have:=HJ165.out;omega⟩,⟨by (with_reducible repeat (first|apply ra|apply rb|apply rc));exact HO_15.out⟩,⟨by (with_reducible repeat (first|apply ra|apply rb|apply rc));exact HO_23.out⟩,⟨by (with_reducible repeat (first|apply Kd.S_alloc|apply Kd.S_drewN|apply Kd.S_drew));exact HO_208000.out⟩,⟨by (with_reducible repeat (first|apply Kd.S_alloc|apply Kd.S_drewN|apply Kd.S_drew));exact HO_208001.out⟩,⟨by (with_reducible repeat (first|apply Kd.S_alloc|apply Kd.S_drewN|apply Kd.S_drew));exact HO_254000.out⟩,⟨by (with_reducible repeat (first|apply Kd.S_alloc|apply Kd.S_drewN|apply Kd.S_drew));exact HO_254001.out⟩,⟨by (with_reducible repeat (first|apply Kd.S_alloc|apply Kd.S_drewN|apply Kd.S_drew));exact HO_265000.out⟩,⟨by (with_reducible repeat (first|apply Kd.S_alloc|apply Kd.S_drewN|apply Kd.S_drew));exact HO_265001.out⟩,⟨by (with_reducible repeat (first|apply Kd.S_alloc|apply Kd.S_drewN|apply Kd.S_drew));exact HO_273000.out⟩,⟨by (with_reducible repeat (first|apply Kd.S_alloc|apply Kd.S_drewN|apply Kd.S_drew));exact HO_273001.out⟩,⟨by (with_reducible repeat (first|refine blk_drewN ?_ _|refine blk_drew ?_|refine blk_alloc ?_ _));exact BK207.out⟩,⟨by (with_reducible repeat (first|refine blk_drewN ?_ _|refine blk_drew ?_|refine blk_alloc ?_ _));exact BK253.out⟩,⟨by (with_reducible repeat (first|refine blk_drewN ?_ _|refine blk_drew ?_|refine blk_alloc ?_ _));exact BK264.out⟩,⟨by (with_reducible repeat (first|refine blk_drewN ?_ _|refine blk_drew ?_|refine blk_alloc ?_ _));exact BK272.out⟩,⟨by repeat (first|(with_reducible first|exact HB.out|apply ba|apply bb|apply bc|refine below_set ?_ GE207.out|refine below_set ?_ GE253.out|refine below_set ?_ GE264.out|refine below_set ?_ GE272.out)|exact HB.out)⟩⟩
                  ·
                   rw [if_neg c194] at H
                   have c194b0 : ((rd t273 x27_3) == 0) = false:=beq_eq_false_iff_ne.mpr c194
                   have c194b1 : ((rd t273 x27_3) != 0) = true:=bne_iff_ne.mpr c194
                   exact absurd ((Option.some.inj H).trans HTR_.out) (by decide)
                 ·
                  rw [if_neg c193] at H
                  exact absurd H (by simp)
                ·
                 rw [if_neg c192] at H
                 have c192b0 : decide (x27_3 < (wrap64 (a2))) = false:=decide_eq_false c192
                 clear c192
                 by_cases c201 : x27_3 ≥ (wrap64 (a2))
                 ·
                  rw [if_pos c201] at H
                  have c201b0 : decide ((wrap64 (a2)) ≤ x27_3) = true:=decide_eq_true c201
                  clear c201
                  by_cases c202 : x27_3 < (t273.length : Int)
                  ·
                   rw [if_pos c202] at H
                   have c202b0 : decide (x27_3 < (t273.length : Int)) = true:=decide_eq_true c202
                   clear c202
                   by_cases c203 : (rd t273 x27_3) = x28_165
                   ·
                    rw [if_pos c203] at H
                    have c203b0 : ((rd t273 x27_3) == x28_165) = true:=beq_iff_eq.mpr c203
                    have c203b1 : ((rd t273 x27_3) != x28_165) = false:=bne_eq_false_iff_eq.mpr c203
                    clear c203
                    have H':=A_ H
                    clear H
                    obtain ⟨Ao204,co204,eo204⟩:=Kd.R_slice HO_15.out
                    subst eo204
                    have p290 : 0 ≤ (x27_3 : Int):=of_decide_eq_true (by first|(with_reducible assumption)|assumption)
                    have q290 : x27_3 < (t239.length : Int):=of_decide_eq_true (by first|(with_reducible assumption)|assumption)
                    obtain ⟨ad290,e290,hx290_0⟩:=Kd.at_int (rd_ HO_15.out).2.2 x27_3 p290 q290
                    cases e290
                    replace p290:=eq_true p290
                    replace q290:=eq_true q290
                    obtain ⟨Ao205,co205,eo205⟩:=Kd.R_slice HO_23.out
                    subst eo205
                    have p293 : 0 ≤ (x27_3 : Int):=of_decide_eq_true (by first|(with_reducible assumption)|assumption)
                    have q293 : x27_3 < (t273.length : Int):=of_decide_eq_true (by first|(with_reducible assumption)|assumption)
                    obtain ⟨ad293,e293,hx293_0⟩:=Kd.at_int (rd_ HO_23.out).2.2 x27_3 p293 q293
                    cases e293
                    replace p293:=eq_true p293
                    replace q293:=eq_true q293
                    go_wp2
                    go_roundg kj165
                    case measure=>have:=HJ4.out;have:=HJ20.out;have:=HK3.out;have:=HJ165.out;omega
                    case rel=>exact ⟨(wrap64 (x27_3 + 1)),(by first|rfl|(simp;done)|(simp [*];done)),H',⟨by have:=HJ4.out;have:=HJ20.out;have:=HK3.out;have:=HJ165.out;omega⟩,⟨by (with_reducible repeat (first|apply ra|apply rb|apply rc));exact HO_15.out⟩,⟨by (with_reducible repeat (first|apply ra|apply rb|apply rc));exact HO_23.out⟩,⟨by (with_reducible repeat (first|apply Kd.S_alloc|apply Kd.S_drewN|apply Kd.S_drew));exact HO_208000.out⟩,⟨by (with_reducible repeat (first|apply Kd.S_alloc|apply Kd.S_drewN|apply Kd.S_drew));exact HO_208001.out⟩,⟨by (with_reducible repeat (first|apply Kd.S_alloc|apply Kd.S_drewN|apply Kd.S_drew));exact HO_254000.out⟩,⟨by (with_reducible repeat (first|apply Kd.S_alloc|apply Kd.S_drewN|apply Kd.S_drew));exact HO_254001.out⟩,⟨by (with_reducible repeat (first|apply Kd.S_alloc|apply Kd.S_drewN|apply Kd.S_drew));exact HO_265000.out⟩,⟨by (with_reducible repeat (first|apply Kd.S_alloc|apply Kd.S_drewN|apply Kd.S_drew));exact HO_265001.out⟩,⟨by (with_reducible repeat (first|apply Kd.S_alloc|apply Kd.S_drewN|apply Kd.S_drew));exact HO_273000.out⟩,⟨by (with_reducible repeat (first|apply Kd.S_alloc|apply Kd.S_drewN|apply Kd.S_drew));exact HO_273001.out⟩,⟨by (with_reducible repeat (first|refine blk_drewN ?_ _|refine blk_drew ?_|refine blk_alloc ?_ _));exact BK207.out⟩,⟨by (with_reducible repeat (first|refine blk_drewN ?_ _|refine blk_drew ?_|refine blk_alloc ?_ _));exact BK253.out⟩,⟨by (with_reducible repeat (first|refine blk_drewN ?_ _|refine blk_drew ?_|refine blk_alloc ?_ _));exact BK264.out⟩,⟨by (with_reducible repeat (first|refine blk_drewN ?_ _|refine blk_drew ?_|refine blk_alloc ?_ _));exact BK272.out⟩,⟨by repeat (first|(with_reducible first|exact HB.out|apply ba|apply bb|apply bc|refine below_set ?_ GE207.out|refine below_set ?_ GE253.out|refine below_set ?_ GE264.out|refine below_set ?_ GE272.out)|exact HB.out)⟩⟩
                   ·
                    rw [if_neg c203] at H
                    have c203b0 : ((rd t273 x27_3) == x28_165) = false:=beq_eq_false_iff_ne.mpr c203
                    have c203b1 : ((rd t273 x27_3) != x28_165) = true:=bne_iff_ne.mpr c203
                    exact absurd ((Option.some.inj H).trans HTR_.out) (by decide)
                  ·
                   rw [if_neg c202] at H
                   exact absurd H (by simp)
                 ·
                  rw [if_neg c201] at H
                  have c201b0 : decide ((wrap64 (a2)) ≤ x27_3) = false:=decide_eq_false c201
                  clear c201
                  have H':=A_ H
                  clear H
                  obtain ⟨Ao206,co206,eo206⟩:=Kd.R_slice HO_15.out
                  subst eo206
                  have p290 : 0 ≤ (x27_3 : Int):=of_decide_eq_true (by first|(with_reducible assumption)|assumption)
                  have q290 : x27_3 < (t239.length : Int):=of_decide_eq_true (by first|(with_reducible assumption)|assumption)
                  obtain ⟨ad290,e290,hx290_0⟩:=Kd.at_int (rd_ HO_15.out).2.2 x27_3 p290 q290
                  cases e290
                  replace p290:=eq_true p290
                  replace q290:=eq_true q290
                  go_wp2
                  go_roundg kj165
                  case measure=>have:=HJ4.out;have:=HJ20.out;have:=HK3.out;have:=HJ165.out;omega
                  case rel=>exact ⟨(wrap64 (x27_3 + 1)),(by first|rfl|(simp;done)|(simp [*];done)),H',⟨by have:=HJ4.out;have:=HJ20.out;have:=HK3.out;have:=HJ165.out;omega⟩,⟨by (with_reducible repeat (first|apply ra|apply rb|apply rc));exact HO_15.out⟩,⟨by (with_reducible repeat (first|apply ra|apply rb|apply rc));exact HO_23.out⟩,⟨by (with_reducible repeat (first|apply Kd.S_alloc|apply Kd.S_drewN|apply Kd.S_drew));exact HO_208000.out⟩,⟨by (with_reducible repeat (first|apply Kd.S_alloc|apply Kd.S_drewN|apply Kd.S_drew));exact HO_208001.out⟩,⟨by (with_reducible repeat (first|apply Kd.S_alloc|apply Kd.S_drewN|apply Kd.S_drew));exact HO_254000.out⟩,⟨by (with_reducible repeat (first|apply Kd.S_alloc|apply Kd.S_drewN|apply Kd.S_drew));exact HO_254001.out⟩,⟨by (with_reducible repeat (first|apply Kd.S_alloc|apply Kd.S_drewN|apply Kd.S_drew));exact HO_265000.out⟩,⟨by (with_reducible repeat (first|apply Kd.S_alloc|apply Kd.S_drewN|apply Kd.S_drew));exact HO_265001.out⟩,⟨by (with_reducible repeat (first|apply Kd.S_alloc|apply Kd.S_drewN|apply Kd.S_drew));exact HO_273000.out⟩,⟨by (with_reducible repeat (first|apply Kd.S_alloc|apply Kd.S_drewN|apply Kd.S_drew));exact HO_273001.out⟩,⟨by (with_reducible repeat (first|refine blk_drewN ?_ _|refine blk_drew ?_|refine blk_alloc ?_ _));exact BK207.out⟩,⟨by (with_reducible repeat (first|refine blk_drewN ?_ _|refine blk_drew ?_|refine blk_alloc ?_ _));exact BK253.out⟩,⟨by (with_reducible repeat (first|refine blk_drewN ?_ _|refine blk_drew ?_|refine blk_alloc ?_ _));exact BK264.out⟩,⟨by (with_reducible repeat (first|refine blk_drewN ?_ _|refine blk_drew ?_|refine blk_alloc ?_ _));exact BK272.out⟩,⟨by repeat (first|(with_reducible first|exact HB.out|apply ba|apply bb|apply bc|refine below_set ?_ GE207.out|refine below_set ?_ GE253.out|refine below_set ?_ GE264.out|refine below_set ?_ GE272.out)|exact HB.out)⟩⟩
               ·
                rw [if_neg c191] at H
                have c191b0 : ((rd t239 x27_3) == 0) = false:=beq_eq_false_iff_ne.mpr c191
                have c191b1 : ((rd t239 x27_3) != 0) = true:=bne_iff_ne.mpr c191
                exact absurd ((Option.some.inj H).trans HTR_.out) (by decide)
              ·
               rw [if_neg c190] at H
               exact absurd H (by simp)
             ·
              rw [if_neg c189] at H
              exact absurd H (by simp)
         ·
          rw [if_neg c165] at H
          have c165b0 : decide (x27_3 < 64) = false:=decide_eq_false c165
          clear c165
          replace H:=Option.bind_eq_some_iff.mp H
          obtain ⟨t283,A2070,H⟩:=H
          replace H : (some t283) = some r:=H
          have A207:=A_ A2070
          clear A2070
          obtain rfl:=Option.some.inj H
          go_wp2_with (first|((with_reducible refine gate_callee (f:=6) rfl ?_);refine goesL_ (some 231) rfl rfl Try.func6 (by kernel_rfl) rfl #[] rfl (by (try simp only [List.map_toArray,List.map_cons,List.map_nil]);first|done|rfl|(simp only [List.length_drop,List.length_take];rfl)) ?_;(with_reducible refine (shapesearchlaw24_awake.calls k3  t283 _ A207.out).mono ?_);rintro e w208 ⟨rfl,hb⟩;refine ⟨_,rfl,?_⟩;have n0_:=A_ (rw_ (by (with_reducible repeat (first|apply ra|apply rb|apply rc));exact HO_15.out) hb);have n1_:=A_ (rw_ (by (with_reducible repeat (first|apply ra|apply rb|apply rc));exact HO_23.out) hb);have n2_:=A_ (Kd.S_below (by (with_reducible repeat (first|apply Kd.S_alloc|apply Kd.S_drewN|apply Kd.S_drew));exact HO_208000.out) hb);have n3_:=A_ (Kd.S_below (by (with_reducible repeat (first|apply Kd.S_alloc|apply Kd.S_drewN|apply Kd.S_drew));exact HO_208001.out) hb);have n4_:=A_ (Kd.S_below (by (with_reducible repeat (first|apply Kd.S_alloc|apply Kd.S_drewN|apply Kd.S_drew));exact HO_254000.out) hb);have n5_:=A_ (Kd.S_below (by (with_reducible repeat (first|apply Kd.S_alloc|apply Kd.S_drewN|apply Kd.S_drew));exact HO_254001.out) hb);have n6_:=A_ (Kd.S_below (by (with_reducible repeat (first|apply Kd.S_alloc|apply Kd.S_drewN|apply Kd.S_drew));exact HO_265000.out) hb);have n7_:=A_ (Kd.S_below (by (with_reducible repeat (first|apply Kd.S_alloc|apply Kd.S_drewN|apply Kd.S_drew));exact HO_265001.out) hb);have n8_:=A_ (Kd.S_below (by (with_reducible repeat (first|apply Kd.S_alloc|apply Kd.S_drewN|apply Kd.S_drew));exact HO_273000.out) hb);have n9_:=A_ (Kd.S_below (by (with_reducible repeat (first|apply Kd.S_alloc|apply Kd.S_drewN|apply Kd.S_drew));exact HO_273001.out) hb);have n10_:=A_ (blk_below (g:=gb207) (o:=.cells #[.slice Ao43 t232.length co43,.slice Ao45 t235.length co45] 25 (0,0)) (by (with_reducible repeat (first|refine blk_drewN ?_ _|refine blk_drew ?_|refine blk_alloc ?_ _));exact BK207.out) hb);have n11_:=A_ (blk_below (g:=gb253) (o:=.cells #[.slice Ao55 t246.length co55,.slice Ao58 t249.length co58] 25 (0,0)) (by (with_reducible repeat (first|refine blk_drewN ?_ _|refine blk_drew ?_|refine blk_alloc ?_ _));exact BK253.out) hb);have n12_:=A_ (blk_below (g:=gb264) (o:=.cells #[.slice Ao65 t257.length co65,.slice Ao69 t260.length co69] 25 (0,0)) (by (with_reducible repeat (first|refine blk_drewN ?_ _|refine blk_drew ?_|refine blk_alloc ?_ _));exact BK264.out) hb);have n13_:=A_ (blk_below (g:=gb272) (o:=.cells #[.slice Ao73 t265.length co73,.slice Ao78 t268.length co78] 25 (0,0)) (by (with_reducible repeat (first|refine blk_drewN ?_ _|refine blk_drew ?_|refine blk_alloc ?_ _));exact BK272.out) hb);have n14_:=A_ (below_step (by repeat (first|(with_reducible first|exact HB.out|apply ba|apply bb|apply bc|refine below_set ?_ GE207.out|refine below_set ?_ GE253.out|refine below_set ?_ GE264.out|refine below_set ?_ GE272.out)|exact HB.out)) hb);clear HO_15;clear HO_23;clear HO_208000;clear HO_208001;clear HO_254000;clear HO_254001;clear HO_265000;clear HO_265001;clear HO_273000;clear HO_273001;clear BK207;clear BK253;clear BK264;clear BK272;clear HB;have HO_15:=n0_;have HO_23:=n1_;have HO_208000:=n2_;have HO_208001:=n3_;have HO_254000:=n4_;have HO_254001:=n5_;have HO_265000:=n6_;have HO_265001:=n7_;have HO_273000:=n8_;have HO_273001:=n9_;have BK207:=n10_;have BK253:=n11_;have BK264:=n12_;have BK272:=n13_;have HB:=n14_;clear n0_ n1_ n2_ n3_ n4_ n5_ n6_ n7_ n8_ n9_ n10_ n11_ n12_ n13_ n14_;(try clear hb);(try clear hb2);(try clear hk);(try clear hi)))
          go_ret
          exact ⟨by first|rfl|(simp [errW_none,errW_some] <;> rfl)|(simp [*,errW_none,errW_some] <;> rfl),by repeat (first|(with_reducible first|exact HB.out|apply ba|apply bb|apply bc|refine below_set ?_ GE207.out|refine below_set ?_ GE253.out|refine below_set ?_ GE264.out|refine below_set ?_ GE272.out)|exact HB.out)⟩

/-- THE ONE PURE STATEMENT of shapesearchlaw24_DeviceKeeps: yours. -/
def shapesearchlaw24_DeviceKeeps.Pure : Prop:=∀ (l0 : List Int) (l1 : List Int) (a2 : Int) (a3 : Int),l0.length ≤ maxLen → l0.length * 1 ≤ 140737488351232 → (∀ x ∈ l0,(Lit.int .u8 x).wf = true) → l1.length ≤ maxLen → l1.length * 1 ≤ 140737488351232 → (∀ x ∈ l1,(Lit.int .u8 x).wf = true) → (Lit.int .i8 a2).wf = true → (Lit.int .u8 a3).wf = true → ∃ k,shapesearchlaw24_DeviceKeeps.f k l0 l1 a2 a3 = some true
theorem shapesearchlaw24_DeviceKeeps.walk (P : shapesearchlaw24_DeviceKeeps.Pure) (a0 : Option Addr) (len0 cap0 : Nat) (z0 : List Int) (a1 : Option Addr) (len1 cap1 : Nat) (z1 : List Int) (a2 : Int) (a3 : Int) (w : World) (w0 : (a0 = none∧len0 = 0∧cap0 = 0∧z0 = []) ∨ ∃ x,a0 = some x∧len0 ≤ cap0∧cap0 ≤ maxLen∧z0.length = cap0∧(∀ i,i < z0.length → w.cell? (x.add i) = some (.int .u8 (z0.getD i 0)))∧∀ n ∈ z0,(Lit.int .u8 n).wf = true) (y0 : len0 * 1 ≤ 140737488351232) (w1 : (a1 = none∧len1 = 0∧cap1 = 0∧z1 = []) ∨ ∃ x,a1 = some x∧len1 ≤ cap1∧cap1 ≤ maxLen∧z1.length = cap1∧(∀ i,i < z1.length → w.cell? (x.add i) = some (.int .u8 (z1.getD i 0)))∧∀ n ∈ z1,(Lit.int .u8 n).wf = true) (y1 : len1 * 1 ≤ 140737488351232) (w2 : (Lit.int .i8 a2).wf = true) (w3 : (Lit.int .u8 a3).wf = true) :
  Calls Try.prog 5 #[.slice a0 len0 cap0,.slice a1 len1 cap1,.int .i8 a2,.int .u8 a3] w fun e w'=>e = .returned (.bool true)∧Below w.heap.size w w':=by
 obtain ⟨l0,rfl,hr0,hm0,hw0,hc0⟩:=ReadsInt.ofRowC w0
 obtain ⟨l1,rfl,hr1,hm1,hw1,hc1⟩:=ReadsInt.ofRowC w1
 obtain ⟨k,h⟩:=P l0 l1 a2 a3 hm0 y0 hw0 hm1 y1 hw1 w2 w3
 refine (shapesearchlaw24_DeviceKeeps.calls k _ _ l0 _ _ l1 a2 a3 true w (Kd.C_of_reads (d:=(0 : Int)) (h1:=fun _=>rfl) hr0) hc0 (Kd.C_of_reads (d:=(0 : Int)) (h1:=fun _=>rfl) hr1) hc1 h rfl).mono ?_
 rintro e w' ⟨rfl,hd⟩
 exact ⟨rfl,hd⟩

end Go.Proofs.Ythpiafbloebpjaa.PDeviceKeeps
