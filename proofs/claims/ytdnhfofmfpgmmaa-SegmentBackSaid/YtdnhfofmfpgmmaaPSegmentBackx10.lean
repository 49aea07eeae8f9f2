/- This file proves, function by function, what the Go functions that one law uses compute; most of it was printed by a program (wip/tools of this session, over the kit's print). -/
import Derived.Test.YtdnhfofmfpgmmaaPSegmentBackx0
import Derived.Test.YtdnhfofmfpgmmaaPSegmentBackx1
import Derived.Test.YtdnhfofmfpgmmaaPSegmentBackx3
import Derived.Test.YtdnhfofmfpgmmaaPSegmentBackx6
import Derived.Test.YtdnhfofmfpgmmaaPSegmentBackx7
import Derived.Test.YtdnhfofmfpgmmaaPSegmentBackx8
import Derived.Test.YtdnhfofmfpgmmaaPSegmentBackx9
namespace Go.Proofs.Ytdnhfofmfpgmmaa.PSegmentBack
open Go.RowKit Go.Proofs.YtdnhfofmfpgmmaaW.PrintWords Go.Proofs.YtdnhfofmfpgmmaaW.PrintLast Go.Proofs.YtdnhfofmfpgmmaaW.PrintMore
attribute [local go_sem] max2_int min2_int max_two min_two max_three min_three max_four min_four   -- for this text's walks alone
set_option linter.unusedVariables false
set_option linter.unusedSimpArgs false

attribute [local go_sem high] eqA27
/-! ### segment_open: function 53 -/
-- @calls (shapesearch/segment.constant).decode (shapesearch/segment.packed).decode (shapesearch/segment.delta).decode
abbrev segment_open.T := Option (Int × Int × Int × Int × Int × List Int × Int)
def segment_open.no (e : Int) : segment_open.T:=some (0,0,0,0,0,[],e)
def segment_open.dec (k : Nat) (h0 h1 h2 h3 h4 : Int) (c : List Int) : Option (List Int × Bool) :=
 if h0 = 0 then segment_constant_decode.f c h0 h1 h2 h3 h4 else if h0 = 1 then segment_packed_decode.f k c h0 h1 h2 h3 h4 else if h0 = 2 then segment_delta_decode.f k c h0 h1 h2 h3 h4 else none
def segment_open.last (k : Nat) (b : List Int) (h0 h1 h2 h3 h4 : Int) (x : List Int × Bool) : segment_open.T :=
 if x.2 = true then (segment_proper.f k x.1).bind fun e=>if e = 0 then (segment_Encode.f k x.1).bind fun y=>if y.2 = 0 then (bytes_Equal.f y.1 b).bind fun t=>if t = true then some (h0,h1,h2,h3,h4,x.1,0) else segment_open.no 3 else segment_open.no 3 else segment_open.no 3 else segment_open.no 3
def segment_open.body (k : Nat) (b : List Int) (m : Nat) (h : Int × Int × Int × Int × Int × Int × Bool) : segment_open.T :=
 if h.2.2.2.2.2.2 = true then (if 0 ≤ h.2.2.2.2.2.1∧h.2.2.2.2.2.1 ≤ (m : Int) then (segment_open.dec k h.1 h.2.1 h.2.2.1 h.2.2.2.1 h.2.2.2.2.1 ((b.take m).drop h.2.2.2.2.2.1.toNat)).bind (segment_open.last k b h.1 h.2.1 h.2.2.1 h.2.2.2.1 h.2.2.2.2.1) else none) else segment_open.no 3
def segment_open.f (k : Nat) (l0 : List Int) : segment_open.T:=if l0.length ≤ 140737488351232 then (if l0.length < 9 then segment_open.no 2 else
 (codec_Sum.f (l0.take (l0.length - 4))).bind fun s=>(bytes_Equal.f (l0.drop (l0.length - 4)) [s % 256,s / 256 % 256,s / 65536 % 256,s / 16777216 % 256]).bind fun t =>
  if t = true then (segment_head.f k (l0.take (l0.length - 4))).bind (segment_open.body k l0 (l0.length - 4)) else segment_open.no 5) else none
theorem segment_open.mono_d (k : Nat) (h0 h1 h2 h3 h4 : Int) (c : List Int) : LeO (segment_open.dec k h0 h1 h2 h3 h4 c) (segment_open.dec (k + 1) h0 h1 h2 h3 h4 c):=by
 unfold segment_open.dec
 exact LeO.ite (LeO.refl _) (LeO.ite (segment_packed_decode.mono _ _ _ _ _ _ _) (LeO.ite (segment_delta_decode.mono _ _ _ _ _ _ _) (LeO.refl _)))
theorem segment_open.mono_l (k : Nat) (b : List Int) (h0 h1 h2 h3 h4 : Int) (x : List Int × Bool) : LeO (segment_open.last k b h0 h1 h2 h3 h4 x) (segment_open.last (k + 1) b h0 h1 h2 h3 h4 x) :=
 LeO.ite (LeO.bind (segment_proper.mono _ _) fun _=>LeO.ite (LeO.bind (segment_Encode.mono _ _) fun _=>LeO.refl _) (LeO.refl _)) (LeO.refl _)
theorem segment_open.mono : ∀ a0 k,LeO (segment_open.f k a0) (segment_open.f (k + 1) a0):=fun a0 k=>LeO.ite (LeO.ite (LeO.refl _) (LeO.bind (LeO.refl _) fun _=>LeO.bind (LeO.refl _) fun _=>LeO.ite (LeO.bind (segment_head.mono _ _) fun _=>LeO.ite (LeO.ite (LeO.bind (segment_open.mono_d _ _ _ _ _ _ _) fun _=>segment_open.mono_l _ _ _ _ _ _ _ _) (LeO.refl _)) (LeO.refl _)) (LeO.refl _))) (LeO.refl _)
theorem segment_open.be {w W : World} {g : Nat} {a b c d e : Value} (h : Below w.heap.size w W) (hg : w.heap.size ≤ g) : Below w.heap.size w (((((W.setCell ⟨g,0,none⟩ a).setCell ⟨g,1,none⟩ b).setCell ⟨g,2,none⟩ c).setCell ⟨g,3,none⟩ d).setCell ⟨g,4,none⟩ e) :=
 ((((h.setCell (p:=⟨g,0,none⟩) hg a).setCell (p:=⟨g,1,none⟩) hg b).setCell (p:=⟨g,2,none⟩) hg c).setCell (p:=⟨g,3,none⟩) hg d).setCell (p:=⟨g,4,none⟩) hg e
/-- The empty head lies in a box. -/
def segment_open.Z (w W : World) : Prop:=W.heap[w.heap.size]? = some (.cells #[.int .i64 0,.int .i64 0,.int .i64 0,.int .i64 0,.int .i64 0] 27 (0,0))
theorem segment_open.zld {w W : World} (h : segment_open.Z w W) : W.cell? ⟨w.heap.size,0,none⟩ = some (.int .i64 0)∧W.cell? ⟨w.heap.size,1,none⟩ = some (.int .i64 0)∧W.cell? ⟨w.heap.size,2,none⟩ = some (.int .i64 0)∧W.cell? ⟨w.heap.size,3,none⟩ = some (.int .i64 0)∧W.cell? ⟨w.heap.size,4,none⟩ = some (.int .i64 0) ∧
  W.frozen? ⟨w.heap.size,0,none⟩ = false∧W.frozen? ⟨w.heap.size,1,none⟩ = false∧W.frozen? ⟨w.heap.size,2,none⟩ = false∧W.frozen? ⟨w.heap.size,3,none⟩ = false∧W.frozen? ⟨w.heap.size,4,none⟩ = false :=
 ⟨(blk_cell h 0).trans rfl,(blk_cell h 1).trans rfl,(blk_cell h 2).trans rfl,(blk_cell h 3).trans rfl,(blk_cell h 4).trans rfl,blk_frozen h 0,blk_frozen h 1,blk_frozen h 2,blk_frozen h 3,blk_frozen h 4⟩
theorem segment_open.set5 {W : World} {g : Nat} {x0 x1 x2 x3 x4 : Value} (a b c d e : Value) (h : W.heap[g]? = some (.cells #[x0,x1,x2,x3,x4] 27 (0,0))) : (((((W.setCell ⟨g,0,none⟩ a).setCell ⟨g,1,none⟩ b).setCell ⟨g,2,none⟩ c).setCell ⟨g,3,none⟩ d).setCell ⟨g,4,none⟩ e).heap[g]? = some (.cells #[a,b,c,d,e] 27 (0,0)) :=
 blk_set (blk_set (blk_set (blk_set (blk_set h 0 a) 1 b) 2 c) 3 d) 4 e
theorem segment_open.own8 (w : World) (base g : Nat) (hb : base ≤ g) (xs : List Int) (m : Nat) (hm : xs.length = m) (hl : m ≤ 1000000) (h : w.heap[g]? = some (.cells (nums .u8 xs).toArray 5 (0,0))) :
  Kd.R (Kd.int .u8) 5 w base (fun _=>True) (.slice (some ⟨g,0,none⟩) m m) xs:=by
 subst hm
 refine Kd.R_of_own (e:=5) ⟨by simp [encs],.inr ⟨g,xs.length,_,rfl,hb,h,Nat.le_refl _,by unfold maxLen;omega,by simp [nums],?_⟩⟩ (fun _ _=>trivial)
 rw [Nat.mul_one,List.take_of_length_le (by simp [nums])]
 rfl
set_option maxHeartbeats 8000000 in
set_option maxRecDepth 100000 in
theorem segment_open.forms_ (w : World) : Calls Try.prog 42 #[] w fun e w'=>e = .returned (.slice (some ⟨w.heap.size,0,none⟩) 3 3)∧w' = w.alloc (.cells #[.iface 100 (.agg #[]),.iface 101 (.agg #[]),.iface 102 (.agg #[])] 79):=by
 go_enter Try.func42,Try.ntmps42
 go_wp2_with fail
 go_ret
 exact ⟨rfl,rfl⟩
theorem segment_open.to_ {w : World} {A : Option Addr} {c : Nat} {l : List Int} (hr : Kd.C (Kd.int .u8) w A l.length l) (hc : l.length ≤ c) (m : Nat) (hm : m ≤ l.length) :
  (∀ W : World,(Instr.slice 29 (.slice A l.length c) none (some (.int .i64 (m : Int))) none).run Try.prog W = .ok (.slice A (l.take m).length c) W)∧Kd.C (Kd.int .u8) w A (l.take m).length (l.take m)∧(l.take m).length ≤ c:=by
 obtain ⟨i0,hi0,_,hsz,_⟩:=info_parts info5
 have h:=cut_to (P:=Try.prog) 29 5 .i64 Try.underlying29 hi0 A l.length c (m : Int) (by omega) (by omega) hc
 have hl : (l.take m).length = m:=by rw [List.length_take];omega
 refine ⟨fun W=>?_,Kd.C_take hr hm,by omega⟩
 rw [h W,hl,Int.toNat_natCast]
theorem segment_open.from_ {w : World} {A : Option Addr} {c : Nat} {l : List Int} (hr : Kd.C (Kd.int .u8) w A l.length l) (hc : l.length ≤ c) (m : Nat) (hm : m ≤ l.length) :
  ∃ A' c',(∀ W : World,(Instr.slice 29 (.slice A l.length c) (some (.int .i64 (m : Int))) none none).run Try.prog W = .ok (.slice A' (l.drop m).length c') W)∧Kd.C (Kd.int .u8) w A' (l.drop m).length (l.drop m)∧(l.drop m).length ≤ c':=by
 obtain ⟨i0,hi0,_,hsz,_⟩:=info_parts info5
 have h:=cut_from (P:=Try.prog) 29 5 .i64 Try.underlying29 hi0 1 hsz A l.length c (m : Int) (by omega) (by omega)
 refine ⟨_,c - m,fun W=>?_,Kd.C_drop (c:=c) hr hm hc,by rw [List.length_drop];omega⟩
 rw [h W,List.length_drop,Int.toNat_natCast]
 rfl
theorem segment_open.mid_ {w : World} {A : Option Addr} {c : Nat} {l : List Int} (hr : Kd.C (Kd.int .u8) w A l.length l) (hc : l.length ≤ c) (p m : Nat) (hp : p ≤ m) (hm : m ≤ l.length) :
  ∃ A' c',(∀ W : World,(Instr.slice 29 (.slice A l.length c) (some (.int .i64 (p : Int))) (some (.int .i64 (m : Int))) none).run Try.prog W = .ok (.slice A' ((l.take m).drop p).length c') W)∧Kd.C (Kd.int .u8) w A' ((l.take m).drop p).length ((l.take m).drop p)∧((l.take m).drop p).length ≤ c':=by
 obtain ⟨i0,hi0,_,hsz,_⟩:=info_parts info5
 have h:=cut_mid (P:=Try.prog) 29 5 .i64 .i64 Try.underlying29 hi0 1 hsz A l.length c (p : Int) (m : Int) (by omega) (by omega) (by omega) hc
 have hl : ((l.take m).drop p).length = m - p:=by rw [List.length_drop,List.length_take];omega
 refine ⟨_,c - p,fun W=>?_,Kd.C_mid (c:=c) hr hp hm hc,by omega⟩
 rw [h W,hl,Int.toNat_natCast,Int.toNat_natCast]
 rfl
set_option maxHeartbeats 8000000 in
set_option maxRecDepth 100000 in
theorem segment_open.calls (k : Nat) (A0 : Option Addr) (c0 : Nat) (l0 : List Int) (r1 : Int) (r2 : Int) (r3 : Int) (r4 : Int) (r5 : Int) (r6 : List Int) (r7 : Int) (w : World) (hr0 : Kd.C (Kd.int .u8) w A0 l0.length l0) (hc0 : l0.length ≤ c0) (h : segment_open.f k l0 = some (r1,r2,r3,r4,r5,r6,r7)) :
  Calls Try.prog 53 #[.slice A0 l0.length c0] w fun e w'=>∃ v0_ : Value,e = .returned (.tuple #[.agg #[.int .i64 r1,.int .i64 r2,.int .i64 r3,.int .i64 r4,.int .i64 r5],v0_,.int .i64 r7])∧Kd.R (Kd.int .i64) 3 w' w.heap.size (fun _=>True) v0_ r6∧Below w.heap.size w w':=by
 have HR0:=A_ hr0
 have HC0:=A_ hc0
 clear hr0 hc0
 unfold segment_open.f at h
 by_cases hmax : l0.length ≤ 140737488351232
 case neg=>rw [if_neg hmax] at h;cases h
 rw [if_pos hmax] at h
 have HZ:=A_ (show segment_open.Z w (w.alloc (Obj.cells #[.int .i64 0,.int .i64 0,.int .i64 0,.int .i64 0,.int .i64 0] 27)) from heap_alloc_new w (Obj.cells #[.int .i64 0,.int .i64 0,.int .i64 0,.int .i64 0,.int .i64 0] 27))
 have HB:=A_ ((Below.refl w.heap.size w).alloc (Nat.le_refl _) (Obj.cells #[.int .i64 0,.int .i64 0,.int .i64 0,.int .i64 0,.int .i64 0] 27))
 by_cases h9 : l0.length < 9
 case pos =>
  rw [if_pos h9] at h
  have H:=h
  clear h
  simp only [segment_open.no,Option.some.injEq,Prod.mk.injEq] at H
  obtain ⟨rfl,rfl,rfl,rfl,rfl,rfl,rfl⟩:=H
  have d9 : decide ((l0.length : Int) < 9) = true:=decide_eq_true (by omega)
  clear h9 hmax
  go_enter Try.func53,Try.ntmps53
  go_upto_region 1 with (fail)
  generalize w.alloc (Obj.cells #[.int .i64 0,.int .i64 0,.int .i64 0,.int .i64 0,.int .i64 0] 27) = W0 at HZ HB ⊢
  obtain ⟨z0,z1,z2,z3,z4,f0,f1,f2,f3,f4⟩:=segment_open.zld HZ.out
  go_wp2_with fail
  exact bodyPost_ret (results_ctt rfl _ _ w.heap.size 27 _ (0,0) _ rfl (segment_open.set5 _ _ _ _ _ HZ.out) Try.underlying27 rfl uq3) rfl ⟨_,rfl,Kd.R_nil _ _ _ _ _,segment_open.be HB.out (Nat.le_refl _)⟩
 case neg =>
 rw [if_neg h9] at h
 obtain ⟨sm,hsm,h⟩:=Option.bind_eq_some_iff.mp h
 obtain ⟨tq,htq,h⟩:=Option.bind_eq_some_iff.mp h
 have HH:=A_ h
 have HSM:=A_ hsm
 have HTQ:=A_ htq
 clear h hsm htq
 have d9 : decide ((l0.length : Int) < 9) = false:=decide_eq_false (by omega)
 obtain ⟨m,hm⟩ : ∃ m,m = l0.length - 4:=⟨_,rfl⟩
 rw [← hm] at HH HSM HTQ
 have HM:=A_ (show m ≤ l0.length∧m + 4 = l0.length from by omega)
 obtain ⟨nn,hnn⟩ : ∃ nn,nn = (m : Int):=⟨_,rfl⟩
 have HNN:=A_ hnn
 have hw1 : wrap64 ((l0.length : Int) - 4) = nn:=by rw [hnn];unfold wrap64;omega
 have hw2 : IntKind.i64.wrap ((l0.length : Int) - 4) = nn:=(i64_w _).trans hw1
 have hcut1:=(segment_open.to_ HR0.out HC0.out m HM.out.1).1
 rw [← hnn] at hcut1
 have HC1:=A_ (segment_open.to_ HR0.out HC0.out m HM.out.1).2
 obtain ⟨A2,c2,hcut2,hC2⟩:=segment_open.from_ HR0.out HC0.out m HM.out.1
 rw [← hnn] at hcut2
 have HC2:=A_ hC2
 clear hC2 h9 hmax hm hnn
 obtain ⟨b1,hb1⟩ : ∃ b,b = l0.take m:=⟨_,rfl⟩
 obtain ⟨b2,hb2⟩ : ∃ b,b = l0.drop m:=⟨_,rfl⟩
 rw [← hb1] at hcut1 HC1 HSM HH
 rw [← hb2] at hcut2 HC2 HTQ
 have HB1:=A_ hb1
 clear hb1 hb2
 go_enter Try.func53,Try.ntmps53
 go_upto_region 1 with (fail)
 generalize w.alloc (Obj.cells #[.int .i64 0,.int .i64 0,.int .i64 0,.int .i64 0,.int .i64 0] 27) = W0 at HZ HB ⊢
 go_wp2_with fail
 go_at_call 47
 refine (codec_Sum.calls A0 c0 b1 sm _ (cl HC1.out.1 HB.out) HC1.out.2 HSM.out).mono ?_
 rintro e w1 ⟨rfl,hb⟩
 have HZ1:=A_ (show segment_open.Z w w1 from blk_below HZ.out hb)
 have HBA:=A_ (below_step HB.out hb)
 clear hb HZ HB HSM hw1 hw2 d9
 go_upto_region 5 with (fail)
 have HBY:=A_ (show Kd.C (Kd.int .u8) (w1.alloc (Obj.cells #[.int .u8 (sm % 256),.int .u8 (sm / 256 % 256),.int .u8 (sm / 65536 % 256),.int .u8 (sm / 16777216 % 256)] 5)) (some ⟨w1.heap.size,0,none⟩) 4 [sm % 256,sm / 256 % 256,sm / 65536 % 256,sm / 16777216 % 256] from (rd_ (segment_open.own8 _ w.heap.size w1.heap.size HBA.out.size [sm % 256,sm / 256 % 256,sm / 65536 % 256,sm / 16777216 % 256] 4 rfl (by omega) (heap_alloc_new _ _))).2.2)
 have HZ2:=A_ (show segment_open.Z w (w1.alloc (Obj.cells #[.int .u8 (sm % 256),.int .u8 (sm / 256 % 256),.int .u8 (sm / 65536 % 256),.int .u8 (sm / 16777216 % 256)] 5)) from blk_alloc HZ1.out _)
 have HB2:=A_ (HBA.out.alloc HBA.out.size (Obj.cells #[.int .u8 (sm % 256),.int .u8 (sm / 256 % 256),.int .u8 (sm / 65536 % 256),.int .u8 (sm / 16777216 % 256)] 5))
 go_wp2_with fail
 go_at_call 64
 generalize w1.alloc (Obj.cells #[.int .u8 (sm % 256),.int .u8 (sm / 256 % 256),.int .u8 (sm / 65536 % 256),.int .u8 (sm / 16777216 % 256)] 5) = w2 at HBY HZ2 HB2 ⊢
 refine (bytes_Equal.calls A2 c2 b2 (some ⟨w1.heap.size,0,none⟩) 4 [sm % 256,sm / 256 % 256,sm / 65536 % 256,sm / 16777216 % 256] tq _ (cl HC2.out.1 HB2.out) HC2.out.2 HBY.out (Nat.le_refl _) HTQ.out).mono ?_
 rintro e w3 ⟨rfl,⟨nd,rfl⟩⟩
 have HZ3:=A_ (show segment_open.Z w (w2.drewN nd) from HZ2.out)
 have HB3:=A_ (pw_below_drewN HB2.out nd)
 generalize w2.drewN nd = w3 at HZ3 HB3 ⊢
 clear HBY HZ2 HB2 HZ1 HBA HTQ HC2 hcut2 w2
 have H:=HH.out
 clear HH
 cases tq with
 | false =>
  rw [if_neg (by decide)] at H
  simp only [segment_open.no,Option.some.injEq,Prod.mk.injEq] at H
  obtain ⟨rfl,rfl,rfl,rfl,rfl,rfl,rfl⟩:=H
  obtain ⟨z0,z1,z2,z3,z4,f0,f1,f2,f3,f4⟩:=segment_open.zld HZ3.out
  go_wp2_with fail
  exact bodyPost_ret (results_ctt rfl _ _ w.heap.size 27 _ (0,0) _ rfl (segment_open.set5 _ _ _ _ _ HZ3.out) Try.underlying27 rfl uq3) rfl ⟨_,rfl,Kd.R_nil _ _ _ _ _,segment_open.be HB3.out (Nat.le_refl _)⟩
 | true =>
 rw [if_pos rfl] at H
 obtain ⟨⟨h0,h1,h2,h3,h4,at_,ok⟩,hhd,H⟩:=Option.bind_eq_some_iff.mp H
 have HHD:=A_ hhd
 have HH:=A_ H
 clear H hhd
 go_upto_region 7 with (fail)
 go_wp2_with fail
 go_at_call 65
 refine (segment_head.calls k A0 c0 b1 h0 h1 h2 h3 h4 at_ ok _ (cl HC1.out.1 HB3.out) HC1.out.2 HHD.out).mono ?_
 rintro e w4 ⟨rfl,hb4⟩
 have HZ4:=A_ (show segment_open.Z w w4 from blk_below HZ3.out hb4)
 have HB4:=A_ (below_step HB3.out hb4)
 clear hb4 HZ3 HB3 HHD
 go_upto_region 8 with (fail)
 have HX:=A_ (heap_alloc_new w4 (Obj.cells #[.int .i64 h0,.int .i64 h1,.int .i64 h2,.int .i64 h3,.int .i64 h4] 27))
 have HZ5:=A_ (show segment_open.Z w (w4.alloc (Obj.cells #[.int .i64 h0,.int .i64 h1,.int .i64 h2,.int .i64 h3,.int .i64 h4] 27)) from blk_alloc HZ4.out _)
 have HB5:=A_ (HB4.out.alloc HB4.out.size (Obj.cells #[.int .i64 h0,.int .i64 h1,.int .i64 h2,.int .i64 h3,.int .i64 h4] 27))
 have hg7 : w.heap.size < w4.heap.size:=blk_lt HZ4.out
 generalize w4.alloc (Obj.cells #[.int .i64 h0,.int .i64 h1,.int .i64 h2,.int .i64 h3,.int .i64 h4] 27) = w5 at HX HZ5 HB5 ⊢
 generalize w4.heap.size = g7 at HX hg7 ⊢
 clear HZ4 HB4 HC1
 have H:=HH.out
 clear HH
 cases ok with
 | false =>
  simp only [segment_open.body] at H
  rw [if_neg (by decide)] at H
  simp only [segment_open.no,Option.some.injEq,Prod.mk.injEq] at H
  obtain ⟨rfl,rfl,rfl,rfl,rfl,rfl,rfl⟩:=H
  obtain ⟨z0,z1,z2,z3,z4,f0,f1,f2,f3,f4⟩:=segment_open.zld HZ5.out
  go_wp2_with fail
  exact bodyPost_ret (results_ctt rfl _ _ w.heap.size 27 _ (0,0) _ rfl (segment_open.set5 _ _ _ _ _ HZ5.out) Try.underlying27 rfl uq3) rfl ⟨_,rfl,Kd.R_nil _ _ _ _ _,segment_open.be HB5.out (Nat.le_refl _)⟩
 | true =>
 simp only [segment_open.body] at H
 rw [if_pos trivial] at H
 by_cases hat : 0 ≤ at_∧at_ ≤ (m : Int)
 case neg=>rw [if_neg hat] at H;cases H
 rw [if_pos hat] at H
 obtain ⟨⟨l,ok2⟩,hdec,H⟩:=Option.bind_eq_some_iff.mp H
 have HH:=A_ H
 have HDEC:=A_ hdec
 obtain ⟨A3,c3,hcut3,hC3⟩:=segment_open.mid_ HR0.out HC0.out at_.toNat m (by omega) HM.out.1
 rw [← HNN.out,show ((at_.toNat : Nat) : Int) = at_ from by omega] at hcut3
 have HC3:=A_ hC3
 obtain ⟨b3,hb3⟩ : ∃ b,b = (l0.take m).drop at_.toNat:=⟨_,rfl⟩
 rw [← hb3] at hcut3 HC3 HDEC
 clear hb3 hC3 hdec H hat
 go_upto_region 10 with (fail)
 go_cut [9,10] (fun s9 s10 wx=>∃ A c,s10 = .slice A l.length c∧s9 = .bool ok2∧Aside0 (Kd.R (Kd.int .i64) 3 wx w.heap.size (fun _=>True) (.slice A l.length c) l)∧Aside0 (wx.heap[g7]? = some (.cells #[.int .i64 h0,.int .i64 h1,.int .i64 h2,.int .i64 h3,.int .i64 h4] 27 (0,0)))∧Aside0 (segment_open.Z w wx)∧Aside0 (Below w.heap.size w wx))
 case first =>
  have HX6:=A_ (show w5.drew.heap[g7]? = _ from HX.out)
  have HZ6:=A_ (show segment_open.Z w w5.drew from HZ5.out)
  have HB6:=A_ (below_drew HB5.out)
  have ld : ∀ W : World,W.heap[g7]? = some (.cells #[.int .i64 h0,.int .i64 h1,.int .i64 h2,.int .i64 h3,.int .i64 h4] 27 (0,0)) → W.cell? ⟨g7,0,none⟩ = some (.int .i64 h0)∧W.cell? ⟨g7,1,none⟩ = some (.int .i64 h1)∧W.cell? ⟨g7,2,none⟩ = some (.int .i64 h2)∧W.cell? ⟨g7,3,none⟩ = some (.int .i64 h3)∧W.cell? ⟨g7,4,none⟩ = some (.int .i64 h4):=fun W h=>XMea.ld h
  have LD:=A_ ld
  have hS:=ld _ HX6.out
  clear ld HX HZ5 HB5
  refine start_ (n:=18) (S:=fun W : World=>W.cell? ⟨g7,0,none⟩ = some (.int .i64 h0)∧W.cell? ⟨g7,1,none⟩ = some (.int .i64 h1)∧W.cell? ⟨g7,2,none⟩ = some (.int .i64 h2)∧W.cell? ⟨g7,3,none⟩ = some (.int .i64 h3)∧W.cell? ⟨g7,4,none⟩ = some (.int .i64 h4)) (ds:=[]) #[false,false,false,false,false,false,false,false,false,false,false,false,false,false,false,false,false,false] uq3 rfl rfl hS (fun hHeld=>?_)
  clear hHeld
  generalize w5.drew = w6 at HX6 HZ6 HB6 hS ⊢
  refine pk (i:=1) (N:=some 55) (v:=?_) (a':=?_) #[false,true,false,false,false,false,false,false,false,false,false,false,false,false,false,false,false,false] ?_ ?_ ?_
  rotate_left
  ·
   (intro w';go_simp;with_reducible rfl)
  rotate_left
  ·
   (simp only [Act.put,sa,sb,sc,i64_w,i32_w];rfl)
  refine pk (i:=5) (N:=some 59) (v:=?_) (a':=?_) #[false,true,false,false,false,true,false,false,false,false,false,false,false,false,false,false,false,false] ?_ ?_ ?_
  rotate_left
  ·
   (intro w';go_simp;with_reducible rfl)
  rotate_left
  ·
   (simp only [Act.put,sa,sb,sc,i64_w,i32_w];rfl)
  refine pk (i:=6) (N:=some 60) (v:=?_) (a':=?_) #[false,true,false,false,false,true,true,false,false,false,false,false,false,false,false,false,false,false] ?_ ?_ ?_
  rotate_left
  ·
   (intro w';go_simp;with_reducible rfl)
  rotate_left
  ·
   (simp only [Act.put,sa,sb,sc,i64_w,i32_w];rfl)
  refine pk (i:=7) (N:=some 61) (v:=?_) (a':=?_) #[false,true,false,false,false,true,true,true,false,false,false,false,false,false,false,false,false,false] ?_ ?_ ?_
  rotate_left
  ·
   (intro w';go_simp;with_reducible rfl)
  rotate_left
  ·
   (simp only [Act.put,sa,sb,sc,i64_w,i32_w];rfl)
  refine pk (i:=8) (N:=some 62) (v:=?_) (a':=?_) #[false,true,false,false,false,true,true,true,true,false,false,false,false,false,false,false,false,false] ?_ ?_ ?_
  rotate_left
  ·
   (intro w';go_simp;with_reducible rfl)
  rotate_left
  ·
   (simp only [Act.put,sa,sb,sc,i64_w,i32_w];rfl)
  refine lk (i:=2) (N:=some 56) (v:=?_) (a':=?_) #[false,true,true,false,false,true,true,true,true,false,false,false,false,false,false,false,false,false] ?_ hS ?_ ?_
  rotate_left
  ·
   (intro w' s0_;obtain ⟨y0,y1,y2,y3,y4⟩:=s0_;go_simp;with_reducible rfl)
  rotate_left
  ·
   (simp only [Act.put,sa,sb,sc,i64_w,i32_w];rfl)
  refine lk (i:=9) (N:=some 63) (v:=?_) (a':=?_) #[false,true,true,false,false,true,true,true,true,true,false,false,false,false,false,false,false,false] ?_ hS ?_ ?_
  rotate_left
  ·
   (intro w' s0_;obtain ⟨y0,y1,y2,y3,y4⟩:=s0_;go_simp;with_reducible rfl)
  rotate_left
  ·
   (simp only [Act.put,sa,sb,sc,i64_w,i32_w];rfl)
  have he : ∀ args W,(callFunc 42 args).run Try.prog W = .ok (.enter 42 args) W:=fun args W=>enters_ Try.func42 uq3 rfl args W
  refine ck (i:=0) (N:=some 54) #[true,true,true,false,false,true,true,true,true,true,false,false,false,false,false,false,false,false] 42 #[] ?_ ?_
  ·
   (first|(go_simp;done)|(go_simp;rfl))
  refine (segment_open.forms_ w6).mono ?_
  rintro e w7 ⟨rfl,hw7⟩
  have HF7:=A_ (show w7.heap[w6.heap.size]? = some (.cells #[.iface 100 (.agg #[]),.iface 101 (.agg #[]),.iface 102 (.agg #[])] 79 (0,0)) from by rw [hw7];exact heap_alloc_new w6 _)
  have HX7:=A_ (show w7.heap[g7]? = some (.cells #[.int .i64 h0,.int .i64 h1,.int .i64 h2,.int .i64 h3,.int .i64 h4] 27 (0,0)) from by rw [hw7];exact blk_alloc HX6.out _)
  have HZ7:=A_ (show segment_open.Z w w7 from by rw [hw7];exact blk_alloc HZ6.out _)
  have HB7:=A_ (show Below w.heap.size w w7 from by rw [hw7];exact HB6.out.alloc HB6.out.size _)
  have hS:=LD.out _ HX7.out
  clear hw7 HX6 HZ6 HB6 he
  generalize w6.heap.size = gf at HF7 ⊢
  refine ⟨_,rfl,hS,?_⟩
  refine norm_ (a':=?_) ?_ ?_
  rotate_left
  ·
   (simp only [Act.put,sa,sb,sc,i64_w,i32_w];rfl)
  have hdec:=HDEC.out
  unfold segment_open.dec at hdec
  by_cases hk : h0 = 0
  case pos =>
   rw [if_pos hk] at hdec
   subst hk
   have HDC:=A_ hdec
   have x0 : w7.cell? ⟨gf,0,none⟩ = some (.iface 100 (.agg #[])):=(blk_cell HF7.out 0).trans rfl
   have hm : ∀ W,(method 243 100 (.agg #[]) "shapesearch/segment.decode").run Try.prog W = .ok (92,.agg #[]) W:=fun _=>by kernel_rfl
   have he : ∀ args W,(callFunc 92 args).run Try.prog W = .ok (.enter 92 args) W:=fun args W=>enters_ Try.func92 uq3 rfl args W
   clear hdec HDEC
   refine pk (i:=3) (N:=some 57) (v:=?_) (a':=?_) #[true,true,true,true,false,true,true,true,true,true,false,false,false,false,false,false,false,false] ?_ ?_ ?_
   rotate_left
   ·
    (intro w';go_simp;with_reducible rfl)
   rotate_left
   ·
    (simp only [Act.put,sa,sb,sc,i64_w,i32_w];rfl)
   refine ek (i:=4) (N:=some 58) (v:=?_) (a':=?_) #[true,true,true,true,true,true,true,true,true,true,false,false,false,false,false,false,false,false] ?_ hS ?_ ?_
   rotate_left
   ·
    (go_simp;with_reducible rfl)
   rotate_left
   ·
    (simp only [Act.put,sa,sb,sc,i64_w,i32_w];rfl)
   refine pk (i:=10) (N:=some 64) (v:=?_) (a':=?_) #[true,true,true,true,true,true,true,true,true,true,true,false,false,false,false,false,false,false] ?_ ?_ ?_
   rotate_left
   ·
    (intro w';go_simp;with_reducible rfl)
   rotate_left
   ·
    (simp only [Act.put,sa,sb,sc,i64_w,i32_w];rfl)
   refine pk (i:=11) (N:=some 65) (v:=?_) (a':=?_) #[true,true,true,true,true,true,true,true,true,true,true,true,false,false,false,false,false,false] ?_ ?_ ?_
   rotate_left
   ·
    (intro w';go_simp;with_reducible rfl)
   rotate_left
   ·
    (simp only [Act.put,sa,sb,sc,i64_w,i32_w];rfl)
   refine ck (i:=12) (N:=some 66) #[true,true,true,true,true,true,true,true,true,true,true,true,true,false,false,false,false,false] 92 #[.agg #[],.slice A3 b3.length c3,.agg #[.int .i64 0,.int .i64 h1,.int .i64 h2,.int .i64 h3,.int .i64 h4]] ?_ ?_
   ·
    (first|(go_simp;done)|(go_simp;rfl))
   refine (segment_constant_decode.calls  A3 c3 b3 0 h1 h2 h3 h4 l ok2 _ (cl HC3.out.1 HB7.out) HC3.out.2 HDC.out).mono ?_
   rintro e w8 ⟨v,rfl,hr,hb8⟩
   obtain ⟨A8,c8,rfl⟩:=Kd.R_slice hr
   have HR8:=A_ (Kd.R_lower hr HB7.out.size)
   have HX8:=A_ (blk_below HX7.out hb8)
   have HZ8:=A_ (show segment_open.Z w w8 from blk_below HZ7.out hb8)
   have HB8:=A_ (below_step HB7.out hb8)
   have hS:=LD.out _ HX8.out
   clear hr hb8 HX7 HZ7 HB7 HF7 hm he x0 HDC
   refine ⟨_,rfl,hS,?_⟩
   refine norm_ (a':=?_) ?_ ?_
   rotate_left
   ·
    (simp only [Act.put,sa,sb,sc,i64_w,i32_w];rfl)
   refine pk (i:=13) (N:=some 53) (v:=?_) (a':=?_) #[true,true,true,true,true,true,true,true,true,true,true,true,true,true,false,false,false,false] ?_ ?_ ?_
   rotate_left
   ·
    (intro w';go_simp;with_reducible rfl)
   rotate_left
   ·
    (simp only [Act.put,sa,sb,sc,i64_w,i32_w];rfl)
   refine pk (i:=14) (N:=some 67) (v:=?_) (a':=?_) #[true,true,true,true,true,true,true,true,true,true,true,true,true,true,true,false,false,false] ?_ ?_ ?_
   rotate_left
   ·
    (intro w';go_simp;with_reducible rfl)
   rotate_left
   ·
    (simp only [Act.put,sa,sb,sc,i64_w,i32_w];rfl)
   refine pk (i:=15) (N:=some 68) (v:=?_) (a':=?_) #[true,true,true,true,true,true,true,true,true,true,true,true,true,true,true,true,false,false] ?_ ?_ ?_
   rotate_left
   ·
    (intro w';go_simp;with_reducible rfl)
   rotate_left
   ·
    (simp only [Act.put,sa,sb,sc,i64_w,i32_w];rfl)
   refine pk (i:=16) (N:=some 10) (v:=?_) (a':=?_) #[true,true,true,true,true,true,true,true,true,true,true,true,true,true,true,true,true,false] ?_ ?_ ?_
   rotate_left
   ·
    (intro w';go_simp;with_reducible rfl)
   rotate_left
   ·
    (simp only [Act.put,sa,sb,sc,i64_w,i32_w];rfl)
   refine pk (i:=17) (N:=some 9) (v:=?_) (a':=?_) #[true,true,true,true,true,true,true,true,true,true,true,true,true,true,true,true,true,true] ?_ ?_ ?_
   rotate_left
   ·
    (intro w';go_simp;with_reducible rfl)
   rotate_left
   ·
    (simp only [Act.put,sa,sb,sc,i64_w,i32_w];rfl)
   refine done_ uq3 ?_
   go_wp2_with fail
   go_meet
   exact ⟨A8,c8,rfl,rfl,HR8,HX8,HZ8,HB8⟩
  rw [if_neg hk] at hdec
  clear hk
  by_cases hk : h0 = 1
  case pos =>
   rw [if_pos hk] at hdec
   subst hk
   have HDC:=A_ hdec
   have x0 : w7.cell? ⟨gf,1,none⟩ = some (.iface 101 (.agg #[])):=(blk_cell HF7.out 1).trans rfl
   have hm : ∀ W,(method 243 101 (.agg #[]) "shapesearch/segment.decode").run Try.prog W = .ok (95,.agg #[]) W:=fun _=>by kernel_rfl
   have he : ∀ args W,(callFunc 95 args).run Try.prog W = .ok (.enter 95 args) W:=fun args W=>enters_ Try.func95 uq3 rfl args W
   clear hdec HDEC
   refine pk (i:=3) (N:=some 57) (v:=?_) (a':=?_) #[true,true,true,true,false,true,true,true,true,true,false,false,false,false,false,false,false,false] ?_ ?_ ?_
   rotate_left
   ·
    (intro w';go_simp;with_reducible rfl)
   rotate_left
   ·
    (simp only [Act.put,sa,sb,sc,i64_w,i32_w];rfl)
   refine ek (i:=4) (N:=some 58) (v:=?_) (a':=?_) #[true,true,true,true,true,true,true,true,true,true,false,false,false,false,false,false,false,false] ?_ hS ?_ ?_
   rotate_left
   ·
    (go_simp;with_reducible rfl)
   rotate_left
   ·
    (simp only [Act.put,sa,sb,sc,i64_w,i32_w];rfl)
   refine pk (i:=10) (N:=some 64) (v:=?_) (a':=?_) #[true,true,true,true,true,true,true,true,true,true,true,false,false,false,false,false,false,false] ?_ ?_ ?_
   rotate_left
   ·
    (intro w';go_simp;with_reducible rfl)
   rotate_left
   ·
    (simp only [Act.put,sa,sb,sc,i64_w,i32_w];rfl)
   refine pk (i:=11) (N:=some 65) (v:=?_) (a':=?_) #[true,true,true,true,true,true,true,true,true,true,true,true,false,false,false,false,false,false] ?_ ?_ ?_
   rotate_left
   ·
    (intro w';go_simp;with_reducible rfl)
   rotate_left
   ·
    (simp only [Act.put,sa,sb,sc,i64_w,i32_w];rfl)
   refine ck (i:=12) (N:=some 66) #[true,true,true,true,true,true,true,true,true,true,true,true,true,false,false,false,false,false] 95 #[.agg #[],.slice A3 b3.length c3,.agg #[.int .i64 1,.int .i64 h1,.int .i64 h2,.int .i64 h3,.int .i64 h4]] ?_ ?_
   ·
    (first|(go_simp;done)|(go_simp;rfl))
   refine (segment_packed_decode.calls k A3 c3 b3 1 h1 h2 h3 h4 l ok2 _ (cl HC3.out.1 HB7.out) HC3.out.2 HDC.out).mono ?_
   rintro e w8 ⟨v,rfl,hr,hb8⟩
   obtain ⟨A8,c8,rfl⟩:=Kd.R_slice hr
   have HR8:=A_ (Kd.R_lower hr HB7.out.size)
   have HX8:=A_ (blk_below HX7.out hb8)
   have HZ8:=A_ (show segment_open.Z w w8 from blk_below HZ7.out hb8)
   have HB8:=A_ (below_step HB7.out hb8)
   have hS:=LD.out _ HX8.out
   clear hr hb8 HX7 HZ7 HB7 HF7 hm he x0 HDC
   refine ⟨_,rfl,hS,?_⟩
   refine norm_ (a':=?_) ?_ ?_
   rotate_left
   ·
    (simp only [Act.put,sa,sb,sc,i64_w,i32_w];rfl)
   refine pk (i:=13) (N:=some 53) (v:=?_) (a':=?_) #[true,true,true,true,true,true,true,true,true,true,true,true,true,true,false,false,false,false] ?_ ?_ ?_
   rotate_left
   ·
    (intro w';go_simp;with_reducible rfl)
   rotate_left
   ·
    (simp only [Act.put,sa,sb,sc,i64_w,i32_w];rfl)
   refine pk (i:=14) (N:=some 67) (v:=?_) (a':=?_) #[true,true,true,true,true,true,true,true,true,true,true,true,true,true,true,false,false,false] ?_ ?_ ?_
   rotate_left
   ·
    (intro w';go_simp;with_reducible rfl)
   rotate_left
   ·
    (simp only [Act.put,sa,sb,sc,i64_w,i32_w];rfl)
   refine pk (i:=15) (N:=some 68) (v:=?_) (a':=?_) #[true,true,true,true,true,true,true,true,true,true,true,true,true,true,true,true,false,false] ?_ ?_ ?_
   rotate_left
   ·
    (intro w';go_simp;with_reducible rfl)
   rotate_left
   ·
    (simp only [Act.put,sa,sb,sc,i64_w,i32_w];rfl)
   refine pk (i:=16) (N:=some 10) (v:=?_) (a':=?_) #[true,true,true,true,true,true,true,true,true,true,true,true,true,true,true,true,true,false] ?_ ?_ ?_
   rotate_left
   ·
    (intro w';go_simp;with_reducible rfl)
   rotate_left
   ·
    (simp only [Act.put,sa,sb,sc,i64_w,i32_w];rfl)
   refine pk (i:=17) (N:=some 9) (v:=?_) (a':=?_) #[true,true,true,true,true,true,true,true,true,true,true,true,true,true,true,true,true,true] ?_ ?_ ?_
   rotate_left
   ·
    (intro w';go_simp;with_reducible rfl)
   rotate_left
   ·
    (simp only [Act.put,sa,sb,sc,i64_w,i32_w];rfl)
   refine done_ uq3 ?_
   go_wp2_with fail
   go_meet
   exact ⟨A8,c8,rfl,rfl,HR8,HX8,HZ8,HB8⟩
  rw [if_neg hk] at hdec
  clear hk
  by_cases hk : h0 = 2
  case pos =>
   rw [if_pos hk] at hdec
   subst hk
   have HDC:=A_ hdec
   have x0 : w7.cell? ⟨gf,2,none⟩ = some (.iface 102 (.agg #[])):=(blk_cell HF7.out 2).trans rfl
   have hm : ∀ W,(method 243 102 (.agg #[]) "shapesearch/segment.decode").run Try.prog W = .ok (107,.agg #[]) W:=fun _=>by kernel_rfl
   have he : ∀ args W,(callFunc 107 args).run Try.prog W = .ok (.enter 107 args) W:=fun args W=>enters_ Try.func107 uq3 rfl args W
   clear hdec HDEC
   refine pk (i:=3) (N:=some 57) (v:=?_) (a':=?_) #[true,true,true,true,false,true,true,true,true,true,false,false,false,false,false,false,false,false] ?_ ?_ ?_
   rotate_left
   ·
    (intro w';go_simp;with_reducible rfl)
   rotate_left
   ·
    (simp only [Act.put,sa,sb,sc,i64_w,i32_w];rfl)
   refine ek (i:=4) (N:=some 58) (v:=?_) (a':=?_) #[true,true,true,true,true,true,true,true,true,true,false,false,false,false,false,false,false,false] ?_ hS ?_ ?_
   rotate_left
   ·
    (go_simp;with_reducible rfl)
   rotate_left
   ·
    (simp only [Act.put,sa,sb,sc,i64_w,i32_w];rfl)
   refine pk (i:=10) (N:=some 64) (v:=?_) (a':=?_) #[true,true,true,true,true,true,true,true,true,true,true,false,false,false,false,false,false,false] ?_ ?_ ?_
   rotate_left
   ·
    (intro w';go_simp;with_reducible rfl)
   rotate_left
   ·
    (simp only [Act.put,sa,sb,sc,i64_w,i32_w];rfl)
   refine pk (i:=11) (N:=some 65) (v:=?_) (a':=?_) #[true,true,true,true,true,true,true,true,true,true,true,true,false,false,false,false,false,false] ?_ ?_ ?_
   rotate_left
   ·
    (intro w';go_simp;with_reducible rfl)
   rotate_left
   ·
    (simp only [Act.put,sa,sb,sc,i64_w,i32_w];rfl)
   refine ck (i:=12) (N:=some 66) #[true,true,true,true,true,true,true,true,true,true,true,true,true,false,false,false,false,false] 107 #[.agg #[],.slice A3 b3.length c3,.agg #[.int .i64 2,.int .i64 h1,.int .i64 h2,.int .i64 h3,.int .i64 h4]] ?_ ?_
   ·
    (first|(go_simp;done)|(go_simp;rfl))
   refine (segment_delta_decode.calls k A3 c3 b3 2 h1 h2 h3 h4 l ok2 _ (cl HC3.out.1 HB7.out) HC3.out.2 HDC.out).mono ?_
   rintro e w8 ⟨v,rfl,hr,hb8⟩
   obtain ⟨A8,c8,rfl⟩:=Kd.R_slice hr
   have HR8:=A_ (Kd.R_lower hr HB7.out.size)
   have HX8:=A_ (blk_below HX7.out hb8)
   have HZ8:=A_ (show segment_open.Z w w8 from blk_below HZ7.out hb8)
   have HB8:=A_ (below_step HB7.out hb8)
   have hS:=LD.out _ HX8.out
   clear hr hb8 HX7 HZ7 HB7 HF7 hm he x0 HDC
   refine ⟨_,rfl,hS,?_⟩
   refine norm_ (a':=?_) ?_ ?_
   rotate_left
   ·
    (simp only [Act.put,sa,sb,sc,i64_w,i32_w];rfl)
   refine pk (i:=13) (N:=some 53) (v:=?_) (a':=?_) #[true,true,true,true,true,true,true,true,true,true,true,true,true,true,false,false,false,false] ?_ ?_ ?_
   rotate_left
   ·
    (intro w';go_simp;with_reducible rfl)
   rotate_left
   ·
    (simp only [Act.put,sa,sb,sc,i64_w,i32_w];rfl)
   refine pk (i:=14) (N:=some 67) (v:=?_) (a':=?_) #[true,true,true,true,true,true,true,true,true,true,true,true,true,true,true,false,false,false] ?_ ?_ ?_
   rotate_left
   ·
    (intro w';go_simp;with_reducible rfl)
   rotate_left
   ·
    (simp only [Act.put,sa,sb,sc,i64_w,i32_w];rfl)
   refine pk (i:=15) (N:=some 68) (v:=?_) (a':=?_) #[true,true,true,true,true,true,true,true,true,true,true,true,true,true,true,true,false,false] ?_ ?_ ?_
   rotate_left
   ·
    (intro w';go_simp;with_reducible rfl)
   rotate_left
   ·
    (simp only [Act.put,sa,sb,sc,i64_w,i32_w];rfl)
   refine pk (i:=16) (N:=some 10) (v:=?_) (a':=?_) #[true,true,true,true,true,true,true,true,true,true,true,true,true,true,true,true,true,false] ?_ ?_ ?_
   rotate_left
   ·
    (intro w';go_simp;with_reducible rfl)
   rotate_left
   ·
    (simp only [Act.put,sa,sb,sc,i64_w,i32_w];rfl)
   refine pk (i:=17) (N:=some 9) (v:=?_) (a':=?_) #[true,true,true,true,true,true,true,true,true,true,true,true,true,true,true,true,true,true] ?_ ?_ ?_
   rotate_left
   ·
    (intro w';go_simp;with_reducible rfl)
   rotate_left
   ·
    (simp only [Act.put,sa,sb,sc,i64_w,i32_w];rfl)
   refine done_ uq3 ?_
   go_wp2_with fail
   go_meet
   exact ⟨A8,c8,rfl,rfl,HR8,HX8,HZ8,HB8⟩
  rw [if_neg hk] at hdec
  cases hdec
 case rest =>
  clear HDEC HC3 hcut3 HX HZ5 HB5 HM HNN HB1
  obtain ⟨A,c,rfl,rfl,HL,HX,HZ,HB⟩:=hcut
  have H:=HH.out
  clear HH
  simp only [segment_open.last] at H
  cases ok2 with
  | false =>
   rw [if_neg (by decide)] at H
   simp only [segment_open.no,Option.some.injEq,Prod.mk.injEq] at H
   obtain ⟨rfl,rfl,rfl,rfl,rfl,rfl,rfl⟩:=H
   obtain ⟨z0,z1,z2,z3,z4,f0,f1,f2,f3,f4⟩:=segment_open.zld HZ.out
   go_wp2_with fail
   exact bodyPost_ret (results_ctt rfl _ _ w.heap.size 27 _ (0,0) _ rfl (segment_open.set5 _ _ _ _ _ HZ.out) Try.underlying27 rfl uq3) rfl ⟨_,rfl,Kd.R_nil _ _ _ _ _,segment_open.be HB.out (Nat.le_refl _)⟩
  | true =>
  rw [if_pos rfl] at H
  obtain ⟨ep,hep,H⟩:=Option.bind_eq_some_iff.mp H
  have HEP:=A_ hep
  clear hep
  go_wp2_with fail
  go_at_call 41
  refine (segment_proper.calls k A c l ep _ (rd_ HL.out).2.2 (rd_ HL.out).2.1 HEP.out).mono ?_
  rintro e w8 ⟨rfl,hb8⟩
  have HL8:=A_ (rw_ HL.out hb8)
  have HX8:=A_ (blk_below HX.out hb8)
  have HZ8:=A_ (show segment_open.Z w w8 from blk_below HZ.out hb8)
  have HB8:=A_ (below_step HB.out hb8)
  clear hb8 HL HX HZ HB HEP
  by_cases hp : ep = 0
  case neg =>
   rw [if_neg hp] at H
   have hn : (ep != 0) = true:=bne_iff_ne.mpr hp
   clear hp
   simp only [segment_open.no,Option.some.injEq,Prod.mk.injEq] at H
   obtain ⟨rfl,rfl,rfl,rfl,rfl,rfl,rfl⟩:=H
   obtain ⟨z0,z1,z2,z3,z4,f0,f1,f2,f3,f4⟩:=segment_open.zld HZ8.out
   go_wp2_with fail
   exact bodyPost_ret (results_ctt rfl _ _ w.heap.size 27 _ (0,0) _ rfl (segment_open.set5 _ _ _ _ _ HZ8.out) Try.underlying27 rfl uq3) rfl ⟨_,rfl,Kd.R_nil _ _ _ _ _,segment_open.be HB8.out (Nat.le_refl _)⟩
  case pos =>
  rw [if_pos hp] at H
  have hn : (ep != 0) = false:=bne_eq_false_iff_eq.mpr hp
  obtain ⟨⟨ag,ee⟩,hen,H⟩:=Option.bind_eq_some_iff.mp H
  have HEN:=A_ hen
  clear hen hp
  go_wp2_with fail
  go_at_call 13
  refine (segment_Encode.calls k A c l ag ee _ (rd_ HL8.out).2.2 (rd_ HL8.out).2.1 HEN.out).mono ?_
  rintro e w9 ⟨v,rfl,hr,hb9⟩
  obtain ⟨A9,c9,rfl⟩:=Kd.R_slice hr
  have HG9:=A_ hr
  have HL9:=A_ (rw_ HL8.out hb9)
  have HX9:=A_ (blk_below HX8.out hb9)
  have HZ9:=A_ (show segment_open.Z w w9 from blk_below HZ8.out hb9)
  have HB9:=A_ (below_step HB8.out hb9)
  clear hr hb9 HL8 HX8 HZ8 HB8 HEN hn
  by_cases he : ee = 0
  case neg =>
   rw [if_neg he] at H
   have hn : (ee != 0) = true:=bne_iff_ne.mpr he
   clear he
   simp only [segment_open.no,Option.some.injEq,Prod.mk.injEq] at H
   obtain ⟨rfl,rfl,rfl,rfl,rfl,rfl,rfl⟩:=H
   obtain ⟨z0,z1,z2,z3,z4,f0,f1,f2,f3,f4⟩:=segment_open.zld HZ9.out
   go_wp2_with fail
   exact bodyPost_ret (results_ctt rfl _ _ w.heap.size 27 _ (0,0) _ rfl (segment_open.set5 _ _ _ _ _ HZ9.out) Try.underlying27 rfl uq3) rfl ⟨_,rfl,Kd.R_nil _ _ _ _ _,segment_open.be HB9.out (Nat.le_refl _)⟩
  case pos =>
  rw [if_pos he] at H
  have hn : (ee != 0) = false:=bne_eq_false_iff_eq.mpr he
  obtain ⟨tt,htt,H⟩:=Option.bind_eq_some_iff.mp H
  have HTT:=A_ htt
  clear htt he
  go_wp2_with fail
  go_at_call 64
  refine (bytes_Equal.calls A9 c9 ag A0 c0 l0 tt _ (rd_ HG9.out).2.2 (rd_ HG9.out).2.1 (cl HR0.out HB9.out) HC0.out HTT.out).mono ?_
  rintro e wx ⟨rfl,⟨nd,rfl⟩⟩
  have HLA:=A_ (Kd.R_drewN HL9.out nd)
  have HXA:=A_ (show (w9.drewN nd).heap[g7]? = _ from HX9.out)
  have HZA:=A_ (show segment_open.Z w (w9.drewN nd) from HZ9.out)
  have HBA:=A_ (pw_below_drewN HB9.out nd)
  generalize w9.drewN nd = wa at HLA HXA HZA HBA ⊢
  clear HL9 HX9 HZ9 HB9 HG9 HTT hn w9
  cases tt with
  | false =>
   rw [if_neg (by decide)] at H
   simp only [segment_open.no,Option.some.injEq,Prod.mk.injEq] at H
   obtain ⟨rfl,rfl,rfl,rfl,rfl,rfl,rfl⟩:=H
   obtain ⟨z0,z1,z2,z3,z4,f0,f1,f2,f3,f4⟩:=segment_open.zld HZA.out
   go_wp2_with fail
   exact bodyPost_ret (results_ctt rfl _ _ w.heap.size 27 _ (0,0) _ rfl (segment_open.set5 _ _ _ _ _ HZA.out) Try.underlying27 rfl uq3) rfl ⟨_,rfl,Kd.R_nil _ _ _ _ _,segment_open.be HBA.out (Nat.le_refl _)⟩
  | true =>
  rw [if_pos rfl] at H
  simp only [Option.some.injEq,Prod.mk.injEq] at H
  obtain ⟨rfl,rfl,rfl,rfl,rfl,rfl,rfl⟩:=H
  obtain ⟨z0,z1,z2,z3,z4,f0,f1,f2,f3,f4⟩:=segment_open.zld HZA.out
  obtain ⟨x0,x1,x2,x3,x4⟩:=XMea.ld HXA.out
  go_wp2_with fail
  refine bodyPost_ret (results_ctt rfl _ _ w.heap.size 27 _ (0,0) _ rfl (segment_open.set5 _ _ _ _ _ HZA.out) Try.underlying27 rfl uq3) rfl ⟨_,rfl,?_,segment_open.be HBA.out (Nat.le_refl _)⟩
  have ht : ∀ q,q ∈ 3 :: (Kd.int .i64).E → q≠27:=by
   intro q hq
   rcases List.mem_cons.1 hq with rfl|hq
   ·
    decide
   ·
    cases hq
  have s0:=blk_set HZA.out 0 (.int .i64 h0)
  have s1:=blk_set s0 1 (.int .i64 h1)
  have s2:=blk_set s1 2 (.int .i64 h2)
  have s3:=blk_set s2 3 (.int .i64 h3)
  exact Kd.R_set (Kd.R_set (Kd.R_set (Kd.R_set (Kd.R_set HLA.out HZA.out ht 0 _) s0 ht 1 _) s1 ht 2 _) s2 ht 3 _) s3 ht 4 _

/-! ### segment_Summary: function 23 -/
def segment_Summary.f (k : Nat) (l0 : List Int) : Option (Int × Int × Int × Int × Int × Int):=(segment_open.f k l0).bind fun bt271=>(some (bt271.1,bt271.2.1,bt271.2.2.1,bt271.2.2.2.1,bt271.2.2.2.2.1,bt271.2.2.2.2.2.2))
theorem segment_Summary.mono : ∀ a0 k,LeO (segment_Summary.f k a0) (segment_Summary.f (k + 1) a0):=by
 intro a0 k
 unfold segment_Summary.f
 repeat' first|(with_reducible first|apply segment_open.mono|exact lz|refine LeO.ite ?_ ?_|refine LeO.bind ?_ fun _=>?_)
set_option maxHeartbeats 8000000 in
set_option maxRecDepth 100000 in
theorem segment_Summary.calls (k : Nat) (A0 : Option Addr) (c0 : Nat) (l0 : List Int) (r1 : Int) (r2 : Int) (r3 : Int) (r4 : Int) (r5 : Int) (r6 : Int) (w : World) (hr0 : Kd.C (Kd.int .u8) w A0 l0.length l0) (hc0 : l0.length ≤ c0) (h : segment_Summary.f k l0 = some (r1,r2,r3,r4,r5,r6)) :
  Calls Try.prog 23 #[.slice A0 l0.length c0] w fun e w'=>e = .returned (.tuple #[.agg #[.int .i64 r1,.int .i64 r2,.int .i64 r3,.int .i64 r4,.int .i64 r5],.int .i64 r6])∧Below w.heap.size w w':=by
 have hu27:=Try.underlying27
 have HR0:=A_ hr0
 have HC0:=A_ hc0
 clear hr0 hc0
 have HB:=A_ (Below.refl w.heap.size w)
 have H : ((segment_open.f k l0).bind fun bt271=>(some (bt271.1,bt271.2.1,bt271.2.2.1,bt271.2.2.2.1,bt271.2.2.2.2.1,bt271.2.2.2.2.2.2))) = some (r1,r2,r3,r4,r5,r6):=h
 clear h
 replace H:=Option.bind_eq_some_iff.mp H
 obtain ⟨⟨t271,t272,t273,t274,t275,t276,t279⟩,A20,H⟩:=H
 replace H : (some (t271,t272,t273,t274,t275,t279)) = some (r1,r2,r3,r4,r5,r6):=H
 have A2:=A_ A20
 clear A20
 simp only [Option.some.injEq,Prod.mk.injEq] at H
 obtain ⟨rfl,rfl,rfl,rfl,rfl,rfl⟩:=H
 go_enter Try.func23,Try.ntmps23
 go_wp2_with (first|((with_reducible refine gate_dst (N:=2) rfl ?_);refine box_event ?hg (N:=2) ?hd (cs:=#[.int .i64 0,.int .i64 0,.int .i64 0,.int .i64 0,.int .i64 0]) (t:=27) ?hr ?_;(case hd=>rfl);(case hg=>rfl);(case hr=>first|(go_simp;done)|(go_simp;rfl));intro gb270 hg w3 hbox hb;have n0_:=A_ (below_step uq0 hb);have n1_:=A_ (hbox);have n2_:=A_ ((uq8 : w.heap.size ≤ gb270));have n3_:=A_ ((uq8 : w.heap.size ≤ gb270));clear HB;have HB:=n0_;have BK270:=n1_;have GW270:=n2_;have GE270:=n3_;clear n0_ n1_ n2_ n3_;clear hb hbox hg)|((with_reducible refine gate_callee (f:=53) rfl ?_);refine goesL_ (some 9) rfl rfl Try.func53 uq3 rfl #[.slice A0 l0.length c0] rfl uq15 ?_;(with_reducible refine (segment_open.calls k _ _ l0 t271 t272 t273 t274 t275 t276 t279 _ ?side1 ?side2 A2.out).mono ?_);(case side1=>exact cx ((cl HR0.out HB.out)));(case side2=>exact HC0.out);rintro e w4 ⟨v277,rfl,ho0,hb⟩;refine ⟨_,rfl,?_⟩;have HO278:=A_ (Kd.R_lower ho0 (below_size uq31));replace BK270:=A_ (blk_below (g:=gb270) (o:=.cells #[.int .i64 0,.int .i64 0,.int .i64 0,.int .i64 0,.int .i64 0] 27 (0,0)) uq35 hb);replace HB:=A_ (below_step uq31 hb);(try clear hb);(try clear hb2);(try clear hk);(try clear hi);(try clear ho0))|((with_reducible refine gate_dst (N:=4) rfl ?_);refine box_event ?hg (N:=4) ?hd (cs:=#[.int .i64 0,.int .i64 0,.int .i64 0,.int .i64 0,.int .i64 0]) (t:=27) ?hr ?_;(case hd=>rfl);(case hg=>rfl);(case hr=>first|(go_simp;done)|(go_simp;rfl));intro gb280 hg w5 hbox hb;have n0_:=A_ (rw_ (rx HO278.out) hb);have n1_:=A_ (blk_below (g:=gb270) (o:=.cells #[.int .i64 0,.int .i64 0,.int .i64 0,.int .i64 0,.int .i64 0] 27 (0,0)) uq35 hb);have n2_:=A_ (below_step uq31 hb);have n3_:=A_ (hbox);have n4_:=A_ ((by rw [hg];exact (below_size uq31) : w.heap.size ≤ gb280));have n5_:=A_ ((by rw [hg];exact (below_size uq31) : w.heap.size ≤ gb280));have n6_:=A_ ((by rw [hg];exact Nat.ne_of_lt (blk_lt (g:=gb270) (o:=.cells #[.int .i64 0,.int .i64 0,.int .i64 0,.int .i64 0,.int .i64 0] 27 (0,0)) uq35) : gb270≠gb280));have n7_:=A_ ((by rw [hg];exact Nat.ne_of_gt (blk_lt (g:=gb270) (o:=.cells #[.int .i64 0,.int .i64 0,.int .i64 0,.int .i64 0,.int .i64 0] 27 (0,0)) uq35) : gb280≠gb270));clear HO278;clear BK270;clear HB;have HO278:=n0_;have BK270:=n1_;have HB:=n2_;have BK280:=n3_;have GW280:=n4_;have GE280:=n5_;have NB270_280:=n6_;have NB280_270:=n7_;clear n0_ n1_ n2_ n3_ n4_ n5_ n6_ n7_;clear hb hbox hg;have hnb6:=NB280_270.out;have hnc6:=NB270_280.out;have hcz7_0 : w5.cell? ⟨gb280,0,none⟩ = some (.int .i64 0):=(blk_cell BK280.out 0).trans rfl;have hcz7_1 : w5.cell? ⟨gb280,1,none⟩ = some (.int .i64 0):=(blk_cell BK280.out 1).trans rfl;have hcz7_2 : w5.cell? ⟨gb280,2,none⟩ = some (.int .i64 0):=(blk_cell BK280.out 2).trans rfl;have hcz7_3 : w5.cell? ⟨gb280,3,none⟩ = some (.int .i64 0):=(blk_cell BK280.out 3).trans rfl;have hcz7_4 : w5.cell? ⟨gb280,4,none⟩ = some (.int .i64 0):=(blk_cell BK280.out 4).trans rfl;have hfz7_0:=blk_frozen BK280.out 0;have hfz7_1:=blk_frozen BK280.out 1;have hfz7_2:=blk_frozen BK280.out 2;have hfz7_3:=blk_frozen BK280.out 3;have hfz7_4:=blk_frozen BK280.out 4;have hcz8_0 : w5.cell? ⟨gb270,0,none⟩ = some (.int .i64 0):=(blk_cell BK270.out 0).trans rfl;have hcz8_1 : w5.cell? ⟨gb270,1,none⟩ = some (.int .i64 0):=(blk_cell BK270.out 1).trans rfl;have hcz8_2 : w5.cell? ⟨gb270,2,none⟩ = some (.int .i64 0):=(blk_cell BK270.out 2).trans rfl;have hcz8_3 : w5.cell? ⟨gb270,3,none⟩ = some (.int .i64 0):=(blk_cell BK270.out 3).trans rfl;have hcz8_4 : w5.cell? ⟨gb270,4,none⟩ = some (.int .i64 0):=(blk_cell BK270.out 4).trans rfl;have hfz8_0:=blk_frozen BK270.out 0;have hfz8_1:=blk_frozen BK270.out 1;have hfz8_2:=blk_frozen BK270.out 2;have hfz8_3:=blk_frozen BK270.out 3;have hfz8_4:=blk_frozen BK270.out 4))
 refine bodyPost_ret (results_ct rfl _ _ gb270 27 #[.int .i64 t271,.int .i64 t272,.int .i64 t273,.int .i64 t274,.int .i64 t275] (0,0) _ rfl (by (with_reducible repeat (first|refine blk_drewN ?_ _|refine blk_drew ?_|refine blk_alloc ?_ _));refine blk_put (cs:=#[.int .i64 t271,.int .i64 t272,.int .i64 t273,.int .i64 t274,.int .i64 0]) ?_ 4 _ rfl;(with_reducible repeat (first|refine blk_drewN ?_ _|refine blk_drew ?_|refine blk_alloc ?_ _));refine blk_put (cs:=#[.int .i64 t271,.int .i64 t272,.int .i64 t273,.int .i64 0,.int .i64 0]) ?_ 3 _ rfl;(with_reducible repeat (first|refine blk_drewN ?_ _|refine blk_drew ?_|refine blk_alloc ?_ _));refine blk_put (cs:=#[.int .i64 t271,.int .i64 t272,.int .i64 0,.int .i64 0,.int .i64 0]) ?_ 2 _ rfl;(with_reducible repeat (first|refine blk_drewN ?_ _|refine blk_drew ?_|refine blk_alloc ?_ _));refine blk_put (cs:=#[.int .i64 t271,.int .i64 0,.int .i64 0,.int .i64 0,.int .i64 0]) ?_ 1 _ rfl;(with_reducible repeat (first|refine blk_drewN ?_ _|refine blk_drew ?_|refine blk_alloc ?_ _));refine blk_put (cs:=#[.int .i64 0,.int .i64 0,.int .i64 0,.int .i64 0,.int .i64 0]) ?_ 0 _ rfl;(with_reducible repeat (first|refine blk_drewN ?_ _|refine blk_drew ?_|refine blk_alloc ?_ _));refine blk_far ?_ NB270_280.out _;(with_reducible repeat (first|refine blk_drewN ?_ _|refine blk_drew ?_|refine blk_alloc ?_ _));refine blk_far ?_ NB270_280.out _;(with_reducible repeat (first|refine blk_drewN ?_ _|refine blk_drew ?_|refine blk_alloc ?_ _));refine blk_far ?_ NB270_280.out _;(with_reducible repeat (first|refine blk_drewN ?_ _|refine blk_drew ?_|refine blk_alloc ?_ _));refine blk_far ?_ NB270_280.out _;(with_reducible repeat (first|refine blk_drewN ?_ _|refine blk_drew ?_|refine blk_alloc ?_ _));refine blk_far ?_ NB270_280.out _;(with_reducible repeat (first|refine blk_drewN ?_ _|refine blk_drew ?_|refine blk_alloc ?_ _));exact BK270.out) Try.underlying27 rfl uq3) rfl ?_
 exact ⟨by first|rfl|(simp [errW_none,errW_some] <;> rfl)|(simp [*,errW_none,errW_some] <;> rfl),by repeat (first|(with_reducible first|exact HB.out|apply ba|apply bb|apply bc|refine below_set ?_ GE270.out|refine below_set ?_ GE280.out)|exact HB.out)⟩

/-! ### shapesearchlaw10_awake: function 16 -/
def shapesearchlaw10_awake.f (k : Nat)  : Option (Bool):=(segment_Encode.f k (([7,7,7] : List Int))).bind fun bt284=>((segment_Summary.f k bt284.1).bind fun bt288=>(if bt284.2 = 0 then (if (bt284.1.length : Int) = 9 then (if 5 ≤ (bt284.1.length : Int) then (if (strOfNums (bt284.1.take 5)).toList = ([0,6,14,0,42] : List UInt8) then (if bt288.2.2.2.2.2 = 0 then (some (bt288.1 == 0 && (bt288.2.1 == 3 && (bt288.2.2.1 == 7 && (bt288.2.2.2.1 == 7 && (bt288.2.2.2.2.1 == 21)))))) else (some false)) else (some false)) else (none)) else (some false)) else (some false)))
theorem shapesearchlaw10_awake.mono : ∀ k,LeO (shapesearchlaw10_awake.f k ) (shapesearchlaw10_awake.f (k + 1) ):=by
 intro  k
 unfold shapesearchlaw10_awake.f
 repeat' first|(with_reducible first|apply segment_Encode.mono|apply segment_Summary.mono|exact lz|refine LeO.ite ?_ ?_|refine LeO.bind ?_ fun _=>?_)
set_option maxHeartbeats 8000000 in
set_option maxRecDepth 100000 in
theorem shapesearchlaw10_awake.calls (k : Nat)  (r : Bool) (w : World) (h : shapesearchlaw10_awake.f k  = some r) :
  Calls Try.prog 16 #[] w fun e w'=>e = .returned (.bool r)∧Below w.heap.size w w':=by
 have hu27:=Try.underlying27
 have HB:=A_ (Below.refl w.heap.size w)
 have H : ((segment_Encode.f k (([7,7,7] : List Int))).bind fun bt284=>((segment_Summary.f k bt284.1).bind fun bt288=>(if bt284.2 = 0 then (if (bt284.1.length : Int) = 9 then (if 5 ≤ (bt284.1.length : Int) then (if (strOfNums (bt284.1.take 5)).toList = ([0,6,14,0,42] : List UInt8) then (if bt288.2.2.2.2.2 = 0 then (some (bt288.1 == 0 && (bt288.2.1 == 3 && (bt288.2.2.1 == 7 && (bt288.2.2.2.1 == 7 && (bt288.2.2.2.2.1 == 21)))))) else (some false)) else (some false)) else (none)) else (some false)) else (some false)))) = some r:=h
 clear h
 obtain ⟨y281,hy281⟩ : ∃ y_ : List Int,y_ = (([7,7,7] : List Int)):=⟨_,rfl⟩
 replace H : ((segment_Encode.f k y281).bind fun bt284=>((segment_Summary.f k bt284.1).bind fun bt288=>(if bt284.2 = 0 then (if (bt284.1.length : Int) = 9 then (if 5 ≤ (bt284.1.length : Int) then (if (strOfNums (bt284.1.take 5)).toList = ([0,6,14,0,42] : List UInt8) then (if bt288.2.2.2.2.2 = 0 then (some (bt288.1 == 0 && (bt288.2.1 == 3 && (bt288.2.2.1 == 7 && (bt288.2.2.2.1 == 7 && (bt288.2.2.2.2.1 == 21)))))) else (some false)) else (some false)) else (none)) else (some false)) else (some false)))) = some r:=by first|(rw [hy281];with_reducible exact H)|(have H2_:=(Option.bind_some _ _).symm.trans H;rw [hy281];with_reducible exact H2_)|(have H2_:=(Option.bind_some _ _).symm.trans H;with_reducible exact H2_)|with_reducible exact H|(rw [hy281];exact H)|exact H
 have Ny281:=A_ hy281
 clear hy281
 replace H:=Option.bind_eq_some_iff.mp H
 obtain ⟨⟨t284,t285⟩,A10,H⟩:=H
 replace H : ((segment_Summary.f k t284).bind fun bt288=>(if t285 = 0 then (if (t284.length : Int) = 9 then (if 5 ≤ (t284.length : Int) then (if (strOfNums (t284.take 5)).toList = ([0,6,14,0,42] : List UInt8) then (if bt288.2.2.2.2.2 = 0 then (some (bt288.1 == 0 && (bt288.2.1 == 3 && (bt288.2.2.1 == 7 && (bt288.2.2.2.1 == 7 && (bt288.2.2.2.2.1 == 21)))))) else (some false)) else (some false)) else (none)) else (some false)) else (some false))) = some r:=H
 have A1:=A_ A10
 clear A10
 replace H:=Option.bind_eq_some_iff.mp H
 obtain ⟨⟨t288,t289,t290,t291,t292,t293⟩,A20,H⟩:=H
 replace H : (if t285 = 0 then (if (t284.length : Int) = 9 then (if 5 ≤ (t284.length : Int) then (if (strOfNums (t284.take 5)).toList = ([0,6,14,0,42] : List UInt8) then (if t293 = 0 then (some (t288 == 0 && (t289 == 3 && (t290 == 7 && (t291 == 7 && (t292 == 21)))))) else (some false)) else (some false)) else (none)) else (some false)) else (some false)) = some r:=H
 have A2:=A_ A20
 clear A20
 by_cases c3 : t285 = 0
 ·
  rw [if_pos c3] at H
  have c3b0 : (t285 == 0) = true:=beq_iff_eq.mpr c3
  have c3b1 : (t285 != 0) = false:=bne_eq_false_iff_eq.mpr c3
  clear c3
  by_cases c4 : (t284.length : Int) = 9
  ·
   rw [if_pos c4] at H
   have c4b0 : ((t284.length : Int) == 9) = true:=beq_iff_eq.mpr c4
   have c4b1 : ((t284.length : Int) != 9) = false:=bne_eq_false_iff_eq.mpr c4
   clear c4
   by_cases c5 : 5 ≤ (t284.length : Int)
   ·
    rw [if_pos c5] at H
    have c5b0:=eq_true c5
    have c5b1 : decide (5 ≤ (t284.length : Int)) = true:=decide_eq_true c5
    clear c5
    obtain ⟨y295,hy295⟩ : ∃ y_ : List Int,y_ = (t284.take 5):=⟨_,rfl⟩
    replace H : (if (strOfNums y295).toList = ([0,6,14,0,42] : List UInt8) then (if t293 = 0 then (some (t288 == 0 && (t289 == 3 && (t290 == 7 && (t291 == 7 && (t292 == 21)))))) else (some false)) else (some false)) = some r:=by first|(rw [hy295];with_reducible exact H)|(have H2_:=(Option.bind_some _ _).symm.trans H;rw [hy295];with_reducible exact H2_)|(have H2_:=(Option.bind_some _ _).symm.trans H;with_reducible exact H2_)|with_reducible exact H|(rw [hy295];exact H)|exact H
    have Ny295:=A_ hy295
    clear hy295
    by_cases c6 : (strOfNums y295).toList = ([0,6,14,0,42] : List UInt8)
    ·
     rw [if_pos c6] at H
     have c6b0 : ((strOfNums y295).toList == ([0,6,14,0,42] : List UInt8)) = true:=beq_iff_eq.mpr c6
     have c6b1 : ((strOfNums y295).toList != ([0,6,14,0,42] : List UInt8)) = false:=bne_eq_false_iff_eq.mpr c6
     clear c6
     by_cases c7 : t293 = 0
     ·
      rw [if_pos c7] at H
      have c7b0 : (t293 == 0) = true:=beq_iff_eq.mpr c7
      have c7b1 : (t293 != 0) = false:=bne_eq_false_iff_eq.mpr c7
      clear c7
      obtain rfl:=Option.some.inj H
      go_enter Try.func16,Try.ntmps16
      go_wp2_with (first|((with_reducible refine gate_dst (N:=6) rfl ?_);(try (refine gate_guard (by rfl) ?_;dsimp only));refine Kd.R_lit (Kd.int .i64) _ 3 ?hg (N:=6) ?hd (xs:=([7,7,7] : List Int)) (inner:=[.int .i64 7,.int .i64 7,.int .i64 7]) (ok:=fun _=>True) (okp:=fun _=>True) ?hr ?hp (fun _ hk=>hk) trivial (Below.refl _ _) (Nat.le_refl _) (by simp) ?_;(case hd=>rfl);(case hg=>rfl);(case hr=>first|(go_simp;done)|(go_simp;rfl));(case hp=>exact (Reps.one (show Kd.M (Kd.int .i64) _ _ _ 7 [.int .i64 7] from rfl) (Reps.one (show Kd.M (Kd.int .i64) _ _ _ 7 [.int .i64 7] from rfl) (Reps.one (show Kd.M (Kd.int .i64) _ _ _ 7 [.int .i64 7] from rfl) (Reps.none _ _)))));intro v282 w8 ho9 hb hg_ hnew_;clear hg_ hnew_;(first|rw [← Ny281.out] at ho9|(simp only [Int.reduceToNat] at ho9;rw [← Ny281.out] at ho9));have HO283:=A_ (Kd.R_lower ho9 (below_size uq0));replace HB:=A_ (below_step uq0 hb);clear hb ho9;obtain ⟨Ao10,co10,eo10⟩:=Kd.R_slice HO283.out;subst eo10)|((with_reducible refine gate_callee (f:=13) rfl ?_);refine goesL_ (some 7) rfl rfl Try.func13 uq3 rfl #[.slice Ao10 y281.length co10] rfl uq15 ?_;(with_reducible refine (segment_Encode.calls k _ _ y281 t284 t285 _ ?side1 ?side2 A1.out).mono ?_);(case side1=>exact cx ((rd_ HO283.out).2.2));(case side2=>exact (rd_ HO283.out).2.1);rintro e w11 ⟨v286,rfl,ho0,hb⟩;refine ⟨_,rfl,?_⟩;replace HO283:=A_ (rw_ (rx HO283.out) hb);have HO287:=A_ (Kd.R_lower ho0 (below_size uq0));replace HB:=A_ (below_step uq0 hb);(try clear hb);(try clear hb2);(try clear hk);(try clear hi);(try clear ho0);obtain ⟨Ao12,co12,eo12⟩:=Kd.R_slice HO287.out;subst eo12)|((with_reducible refine gate_callee (f:=23) rfl ?_);refine goesL_ (some 12) rfl rfl Try.func23 uq3 rfl #[.slice Ao12 t284.length co12] rfl uq15 ?_;(with_reducible refine (segment_Summary.calls k _ _ t284 t288 t289 t290 t291 t292 t293 _ ?side1 ?side2 A2.out).mono ?_);(case side1=>exact cx ((rd_ HO287.out).2.2));(case side2=>exact (rd_ HO287.out).2.1);rintro e w13 ⟨rfl,hb⟩;refine ⟨_,rfl,?_⟩;replace HO283:=A_ (rw_ (rx HO283.out) hb);replace HO287:=A_ (rw_ (rx HO287.out) hb);replace HB:=A_ (below_step uq0 hb);(try clear hb);(try clear hb2);(try clear hk);(try clear hi))|((with_reducible refine gate_dst (N:=3) rfl ?_);(try (refine gate_guard (by rfl) ?_;dsimp only));refine box_event ?hg (N:=3) ?hd (cs:=#[.int .i64 0,.int .i64 0,.int .i64 0,.int .i64 0,.int .i64 0]) (t:=27) ?hr ?_;(case hd=>rfl);(case hg=>rfl);(case hr=>first|(go_simp;done)|(go_simp;rfl));intro gb294 hg w14 hbox hb;have n0_:=A_ (rw_ (rx HO283.out) hb);have n1_:=A_ (rw_ (rx HO287.out) hb);have n2_:=A_ (below_step uq0 hb);have n3_:=A_ (hbox);have n4_:=A_ ((uq8 : w.heap.size ≤ gb294));have n5_:=A_ ((uq8 : w.heap.size ≤ gb294));clear HO283;clear HO287;clear HB;have HO283:=n0_;have HO287:=n1_;have HB:=n2_;have BK294:=n3_;have GW294:=n4_;have GE294:=n5_;clear n0_ n1_ n2_ n3_ n4_ n5_;clear hb hbox hg;have hcz15_0 : w14.cell? ⟨gb294,0,none⟩ = some (.int .i64 0):=(blk_cell BK294.out 0).trans rfl;have hcz15_1 : w14.cell? ⟨gb294,1,none⟩ = some (.int .i64 0):=(blk_cell BK294.out 1).trans rfl;have hcz15_2 : w14.cell? ⟨gb294,2,none⟩ = some (.int .i64 0):=(blk_cell BK294.out 2).trans rfl;have hcz15_3 : w14.cell? ⟨gb294,3,none⟩ = some (.int .i64 0):=(blk_cell BK294.out 3).trans rfl;have hcz15_4 : w14.cell? ⟨gb294,4,none⟩ = some (.int .i64 0):=(blk_cell BK294.out 4).trans rfl;have hfz15_0:=blk_frozen BK294.out 0;have hfz15_1:=blk_frozen BK294.out 1;have hfz15_2:=blk_frozen BK294.out 2;have hfz15_3:=blk_frozen BK294.out 3;have hfz15_4:=blk_frozen BK294.out 4)|((with_reducible refine gate_store (t:=27) (p:=3) rfl ?_);refine store_event (t:=27) (p:=3) (v:=?vo_w16) (w1:=(((((w14.setCell ⟨gb294,0,none⟩ (.int .i64 t288)).setCell ⟨gb294,1,none⟩ (.int .i64 t289)).setCell ⟨gb294,2,none⟩ (.int .i64 t290)).setCell ⟨gb294,3,none⟩ (.int .i64 t291)).setCell ⟨gb294,4,none⟩ (.int .i64 t292))) ?hg ?ho ?hn ?hr ?_;(case ho=>rfl);(case hg=>rfl);(case hn=>rfl);(case hr=>first|(go_simp;done)|(go_simp;rfl));intro w16 hw;have n0_ : Aside0 (Kd.R (Kd.int .i64) 3 w16 w.heap.size (fun _=>True) (.slice Ao10 y281.length co10) y281):=⟨uq41⟩;have n1_ : Aside0 (Kd.R (Kd.int .u8) 5 w16 w.heap.size (fun _=>True) (.slice Ao12 t284.length co12) t284):=⟨uq42⟩;have n2_ : Aside0 (w16.heap[gb294]? = some (.cells #[.int .i64 t288,.int .i64 t289,.int .i64 t290,.int .i64 t291,.int .i64 t292] 27 (0,0))):=⟨uq43⟩;have n3_ : Aside0 (Below w.heap.size w w16):=⟨uq44⟩;clear hw;clear HO283;clear HO287;clear BK294;clear HB;have HO283:=n0_;have HO287:=n1_;have BK294:=n2_;have HB:=n3_;clear n0_ n1_ n2_ n3_;have q17 : (5 : Int) ≤ ((t284.length : Int) : Int):=of_decide_eq_true uq1;obtain ⟨i017,hi017,_,hsz17,_⟩:=info_parts info5;have hroom17 : t284.length ≤ co12:=(rd_ HO287.out).2.1;have hC17 : Kd.C (Kd.int .u8) _ Ao12 t284.length t284:=(rd_ HO287.out).2.2;have hcut17:=cut_to (P:=Try.prog) 29 5 .i64 Try.underlying29 hi017 Ao12 t284.length co12 5 (by omega) q17 hroom17;have hr17:=Kd.C_take (m:=5) hC17 (by omega);have hy17 : y295.length = (5 : Int).toNat:=uq45;rw [← Ny295.out] at hr17;rw [← hy17] at hcut17;have HR298:=A_ hr17;have HC298:=A_ (show y295.length ≤ co12 from by omega);clear hr17 hC17 hroom17 hi017 hsz17;have KY17:=A_ hy17;clear hy17;have KL17:=A_ (show 5 ≤ t284.length from by omega);replace q17:=eq_true q17;have hcv18:=Kd.C_string (P:=Try.prog) (A:=Ao12) (c:=co12) Try.underlying29 Try.underlying5 Try.underlying9 (cx HR298.out);have hcz19_0 : w16.cell? ⟨gb294,0,none⟩ = some (.int .i64 t288):=(blk_cell BK294.out 0).trans rfl;have hcz19_1 : w16.cell? ⟨gb294,1,none⟩ = some (.int .i64 t289):=(blk_cell BK294.out 1).trans rfl;have hcz19_2 : w16.cell? ⟨gb294,2,none⟩ = some (.int .i64 t290):=(blk_cell BK294.out 2).trans rfl;have hcz19_3 : w16.cell? ⟨gb294,3,none⟩ = some (.int .i64 t291):=(blk_cell BK294.out 3).trans rfl;have hcz19_4 : w16.cell? ⟨gb294,4,none⟩ = some (.int .i64 t292):=(blk_cell BK294.out 4).trans rfl;have hfz19_0:=blk_frozen BK294.out 0;have hfz19_1:=blk_frozen BK294.out 1;have hfz19_2:=blk_frozen BK294.out 2;have hfz19_3:=blk_frozen BK294.out 3;have hfz19_4:=blk_frozen BK294.out 4))
      go_ret
      exact ⟨by first|rfl|(simp [errW_none,errW_some] <;> rfl)|(simp [*,errW_none,errW_some] <;> rfl),uq21⟩
     ·
      rw [if_neg c7] at H
      have c7b0 : (t293 == 0) = false:=beq_eq_false_iff_ne.mpr c7
      have c7b1 : (t293 != 0) = true:=bne_iff_ne.mpr c7
      obtain rfl:=Option.some.inj H
      go_enter Try.func16,Try.ntmps16
      go_wp2_with (first|((with_reducible refine gate_dst (N:=6) rfl ?_);(try (refine gate_guard (by rfl) ?_;dsimp only));refine Kd.R_lit (Kd.int .i64) _ 3 ?hg (N:=6) ?hd (xs:=([7,7,7] : List Int)) (inner:=[.int .i64 7,.int .i64 7,.int .i64 7]) (ok:=fun _=>True) (okp:=fun _=>True) ?hr ?hp (fun _ hk=>hk) trivial (Below.refl _ _) (Nat.le_refl _) (by simp) ?_;(case hd=>rfl);(case hg=>rfl);(case hr=>first|(go_simp;done)|(go_simp;rfl));(case hp=>exact (Reps.one (show Kd.M (Kd.int .i64) _ _ _ 7 [.int .i64 7] from rfl) (Reps.one (show Kd.M (Kd.int .i64) _ _ _ 7 [.int .i64 7] from rfl) (Reps.one (show Kd.M (Kd.int .i64) _ _ _ 7 [.int .i64 7] from rfl) (Reps.none _ _)))));intro v282 w20 ho21 hb hg_ hnew_;clear hg_ hnew_;(first|rw [← Ny281.out] at ho21|(simp only [Int.reduceToNat] at ho21;rw [← Ny281.out] at ho21));have HO283:=A_ (Kd.R_lower ho21 (below_size uq0));replace HB:=A_ (below_step uq0 hb);clear hb ho21;obtain ⟨Ao22,co22,eo22⟩:=Kd.R_slice HO283.out;subst eo22)|((with_reducible refine gate_callee (f:=13) rfl ?_);refine goesL_ (some 7) rfl rfl Try.func13 uq3 rfl #[.slice Ao22 y281.length co22] rfl uq15 ?_;(with_reducible refine (segment_Encode.calls k _ _ y281 t284 t285 _ ?side1 ?side2 A1.out).mono ?_);(case side1=>exact cx ((rd_ HO283.out).2.2));(case side2=>exact (rd_ HO283.out).2.1);rintro e w23 ⟨v286,rfl,ho0,hb⟩;refine ⟨_,rfl,?_⟩;replace HO283:=A_ (rw_ (rx HO283.out) hb);have HO287:=A_ (Kd.R_lower ho0 (below_size uq0));replace HB:=A_ (below_step uq0 hb);(try clear hb);(try clear hb2);(try clear hk);(try clear hi);(try clear ho0);obtain ⟨Ao24,co24,eo24⟩:=Kd.R_slice HO287.out;subst eo24)|((with_reducible refine gate_callee (f:=23) rfl ?_);refine goesL_ (some 12) rfl rfl Try.func23 uq3 rfl #[.slice Ao24 t284.length co24] rfl uq15 ?_;(with_reducible refine (segment_Summary.calls k _ _ t284 t288 t289 t290 t291 t292 t293 _ ?side1 ?side2 A2.out).mono ?_);(case side1=>exact cx ((rd_ HO287.out).2.2));(case side2=>exact (rd_ HO287.out).2.1);rintro e w25 ⟨rfl,hb⟩;refine ⟨_,rfl,?_⟩;replace HO283:=A_ (rw_ (rx HO283.out) hb);replace HO287:=A_ (rw_ (rx HO287.out) hb);replace HB:=A_ (below_step uq0 hb);(try clear hb);(try clear hb2);(try clear hk);(try clear hi))|((with_reducible refine gate_dst (N:=3) rfl ?_);(try (refine gate_guard (by rfl) ?_;dsimp only));refine box_event ?hg (N:=3) ?hd (cs:=#[.int .i64 0,.int .i64 0,.int .i64 0,.int .i64 0,.int .i64 0]) (t:=27) ?hr ?_;(case hd=>rfl);(case hg=>rfl);(case hr=>first|(go_simp;done)|(go_simp;rfl));intro gb294 hg w26 hbox hb;have n0_:=A_ (rw_ (rx HO283.out) hb);have n1_:=A_ (rw_ (rx HO287.out) hb);have n2_:=A_ (below_step uq0 hb);have n3_:=A_ (hbox);have n4_:=A_ ((uq8 : w.heap.size ≤ gb294));have n5_:=A_ ((uq8 : w.heap.size ≤ gb294));clear HO283;clear HO287;clear HB;have HO283:=n0_;have HO287:=n1_;have HB:=n2_;have BK294:=n3_;have GW294:=n4_;have GE294:=n5_;clear n0_ n1_ n2_ n3_ n4_ n5_;clear hb hbox hg;have hcz27_0 : w26.cell? ⟨gb294,0,none⟩ = some (.int .i64 0):=(blk_cell BK294.out 0).trans rfl;have hcz27_1 : w26.cell? ⟨gb294,1,none⟩ = some (.int .i64 0):=(blk_cell BK294.out 1).trans rfl;have hcz27_2 : w26.cell? ⟨gb294,2,none⟩ = some (.int .i64 0):=(blk_cell BK294.out 2).trans rfl;have hcz27_3 : w26.cell? ⟨gb294,3,none⟩ = some (.int .i64 0):=(blk_cell BK294.out 3).trans rfl;have hcz27_4 : w26.cell? ⟨gb294,4,none⟩ = some (.int .i64 0):=(blk_cell BK294.out 4).trans rfl;have hfz27_0:=blk_frozen BK294.out 0;have hfz27_1:=blk_frozen BK294.out 1;have hfz27_2:=blk_frozen BK294.out 2;have hfz27_3:=blk_frozen BK294.out 3;have hfz27_4:=blk_frozen BK294.out 4)|((with_reducible refine gate_store (t:=27) (p:=3) rfl ?_);refine store_event (t:=27) (p:=3) (v:=?vo_w28) (w1:=(((((w26.setCell ⟨gb294,0,none⟩ (.int .i64 t288)).setCell ⟨gb294,1,none⟩ (.int .i64 t289)).setCell ⟨gb294,2,none⟩ (.int .i64 t290)).setCell ⟨gb294,3,none⟩ (.int .i64 t291)).setCell ⟨gb294,4,none⟩ (.int .i64 t292))) ?hg ?ho ?hn ?hr ?_;(case ho=>rfl);(case hg=>rfl);(case hn=>rfl);(case hr=>first|(go_simp;done)|(go_simp;rfl));intro w28 hw;have n0_ : Aside0 (Kd.R (Kd.int .i64) 3 w28 w.heap.size (fun _=>True) (.slice Ao22 y281.length co22) y281):=⟨uq41⟩;have n1_ : Aside0 (Kd.R (Kd.int .u8) 5 w28 w.heap.size (fun _=>True) (.slice Ao24 t284.length co24) t284):=⟨uq42⟩;have n2_ : Aside0 (w28.heap[gb294]? = some (.cells #[.int .i64 t288,.int .i64 t289,.int .i64 t290,.int .i64 t291,.int .i64 t292] 27 (0,0))):=⟨uq43⟩;have n3_ : Aside0 (Below w.heap.size w w28):=⟨uq44⟩;clear hw;clear HO283;clear HO287;clear BK294;clear HB;have HO283:=n0_;have HO287:=n1_;have BK294:=n2_;have HB:=n3_;clear n0_ n1_ n2_ n3_;have q29 : (5 : Int) ≤ ((t284.length : Int) : Int):=of_decide_eq_true uq1;obtain ⟨i029,hi029,_,hsz29,_⟩:=info_parts info5;have hroom29 : t284.length ≤ co24:=(rd_ HO287.out).2.1;have hC29 : Kd.C (Kd.int .u8) _ Ao24 t284.length t284:=(rd_ HO287.out).2.2;have hcut29:=cut_to (P:=Try.prog) 29 5 .i64 Try.underlying29 hi029 Ao24 t284.length co24 5 (by omega) q29 hroom29;have hr29:=Kd.C_take (m:=5) hC29 (by omega);have hy29 : y295.length = (5 : Int).toNat:=uq45;rw [← Ny295.out] at hr29;rw [← hy29] at hcut29;have HR298:=A_ hr29;have HC298:=A_ (show y295.length ≤ co24 from by omega);clear hr29 hC29 hroom29 hi029 hsz29;have KY29:=A_ hy29;clear hy29;have KL29:=A_ (show 5 ≤ t284.length from by omega);replace q29:=eq_true q29;have hcv30:=Kd.C_string (P:=Try.prog) (A:=Ao24) (c:=co24) Try.underlying29 Try.underlying5 Try.underlying9 (cx HR298.out)))
      go_ret
      exact ⟨by first|rfl|(simp [errW_none,errW_some] <;> rfl)|(simp [*,errW_none,errW_some] <;> rfl),uq21⟩
    ·
     rw [if_neg c6] at H
     have c6b0 : ((strOfNums y295).toList == ([0,6,14,0,42] : List UInt8)) = false:=beq_eq_false_iff_ne.mpr c6
     have c6b1 : ((strOfNums y295).toList != ([0,6,14,0,42] : List UInt8)) = true:=bne_iff_ne.mpr c6
     obtain rfl:=Option.some.inj H
     go_enter Try.func16,Try.ntmps16
     go_wp2_with (first|((with_reducible refine gate_dst (N:=6) rfl ?_);(try (refine gate_guard (by rfl) ?_;dsimp only));refine Kd.R_lit (Kd.int .i64) _ 3 ?hg (N:=6) ?hd (xs:=([7,7,7] : List Int)) (inner:=[.int .i64 7,.int .i64 7,.int .i64 7]) (ok:=fun _=>True) (okp:=fun _=>True) ?hr ?hp (fun _ hk=>hk) trivial (Below.refl _ _) (Nat.le_refl _) (by simp) ?_;(case hd=>rfl);(case hg=>rfl);(case hr=>first|(go_simp;done)|(go_simp;rfl));(case hp=>exact (Reps.one (show Kd.M (Kd.int .i64) _ _ _ 7 [.int .i64 7] from rfl) (Reps.one (show Kd.M (Kd.int .i64) _ _ _ 7 [.int .i64 7] from rfl) (Reps.one (show Kd.M (Kd.int .i64) _ _ _ 7 [.int .i64 7] from rfl) (Reps.none _ _)))));intro v282 w31 ho32 hb hg_ hnew_;clear hg_ hnew_;(first|rw [← Ny281.out] at ho32|(simp only [Int.reduceToNat] at ho32;rw [← Ny281.out] at ho32));have HO283:=A_ (Kd.R_lower ho32 (below_size uq0));replace HB:=A_ (below_step uq0 hb);clear hb ho32;obtain ⟨Ao33,co33,eo33⟩:=Kd.R_slice HO283.out;subst eo33)|((with_reducible refine gate_callee (f:=13) rfl ?_);refine goesL_ (some 7) rfl rfl Try.func13 uq3 rfl #[.slice Ao33 y281.length co33] rfl uq15 ?_;(with_reducible refine (segment_Encode.calls k _ _ y281 t284 t285 _ ?side1 ?side2 A1.out).mono ?_);(case side1=>exact cx ((rd_ HO283.out).2.2));(case side2=>exact (rd_ HO283.out).2.1);rintro e w34 ⟨v286,rfl,ho0,hb⟩;refine ⟨_,rfl,?_⟩;replace HO283:=A_ (rw_ (rx HO283.out) hb);have HO287:=A_ (Kd.R_lower ho0 (below_size uq0));replace HB:=A_ (below_step uq0 hb);(try clear hb);(try clear hb2);(try clear hk);(try clear hi);(try clear ho0);obtain ⟨Ao35,co35,eo35⟩:=Kd.R_slice HO287.out;subst eo35)|((with_reducible refine gate_callee (f:=23) rfl ?_);refine goesL_ (some 12) rfl rfl Try.func23 uq3 rfl #[.slice Ao35 t284.length co35] rfl uq15 ?_;(with_reducible refine (segment_Summary.calls k _ _ t284 t288 t289 t290 t291 t292 t293 _ ?side1 ?side2 A2.out).mono ?_);(case side1=>exact cx ((rd_ HO287.out).2.2));(case side2=>exact (rd_ HO287.out).2.1);rintro e w36 ⟨rfl,hb⟩;refine ⟨_,rfl,?_⟩;replace HO283:=A_ (rw_ (rx HO283.out) hb);replace HO287:=A_ (rw_ (rx HO287.out) hb);replace HB:=A_ (below_step uq0 hb);(try clear hb);(try clear hb2);(try clear hk);(try clear hi))|((with_reducible refine gate_dst (N:=3) rfl ?_);(try (refine gate_guard (by rfl) ?_;dsimp only));refine box_event ?hg (N:=3) ?hd (cs:=#[.int .i64 0,.int .i64 0,.int .i64 0,.int .i64 0,.int .i64 0]) (t:=27) ?hr ?_;(case hd=>rfl);(case hg=>rfl);(case hr=>first|(go_simp;done)|(go_simp;rfl));intro gb294 hg w37 hbox hb;have n0_:=A_ (rw_ (rx HO283.out) hb);have n1_:=A_ (rw_ (rx HO287.out) hb);have n2_:=A_ (below_step uq0 hb);have n3_:=A_ (hbox);have n4_:=A_ ((uq8 : w.heap.size ≤ gb294));have n5_:=A_ ((uq8 : w.heap.size ≤ gb294));clear HO283;clear HO287;clear HB;have HO283:=n0_;have HO287:=n1_;have HB:=n2_;have BK294:=n3_;have GW294:=n4_;have GE294:=n5_;clear n0_ n1_ n2_ n3_ n4_ n5_;clear hb hbox hg;have hcz38_0 : w37.cell? ⟨gb294,0,none⟩ = some (.int .i64 0):=(blk_cell BK294.out 0).trans rfl;have hcz38_1 : w37.cell? ⟨gb294,1,none⟩ = some (.int .i64 0):=(blk_cell BK294.out 1).trans rfl;have hcz38_2 : w37.cell? ⟨gb294,2,none⟩ = some (.int .i64 0):=(blk_cell BK294.out 2).trans rfl;have hcz38_3 : w37.cell? ⟨gb294,3,none⟩ = some (.int .i64 0):=(blk_cell BK294.out 3).trans rfl;have hcz38_4 : w37.cell? ⟨gb294,4,none⟩ = some (.int .i64 0):=(blk_cell BK294.out 4).trans rfl;have hfz38_0:=blk_frozen BK294.out 0;have hfz38_1:=blk_frozen BK294.out 1;have hfz38_2:=blk_frozen BK294.out 2;have hfz38_3:=blk_frozen BK294.out 3;have hfz38_4:=blk_frozen BK294.out 4)|((with_reducible refine gate_store (t:=27) (p:=3) rfl ?_);refine store_event (t:=27) (p:=3) (v:=?vo_w39) (w1:=(((((w37.setCell ⟨gb294,0,none⟩ (.int .i64 t288)).setCell ⟨gb294,1,none⟩ (.int .i64 t289)).setCell ⟨gb294,2,none⟩ (.int .i64 t290)).setCell ⟨gb294,3,none⟩ (.int .i64 t291)).setCell ⟨gb294,4,none⟩ (.int .i64 t292))) ?hg ?ho ?hn ?hr ?_;(case ho=>rfl);(case hg=>rfl);(case hn=>rfl);(case hr=>first|(go_simp;done)|(go_simp;rfl));intro w39 hw;have n0_ : Aside0 (Kd.R (Kd.int .i64) 3 w39 w.heap.size (fun _=>True) (.slice Ao33 y281.length co33) y281):=⟨uq41⟩;have n1_ : Aside0 (Kd.R (Kd.int .u8) 5 w39 w.heap.size (fun _=>True) (.slice Ao35 t284.length co35) t284):=⟨uq42⟩;have n2_ : Aside0 (w39.heap[gb294]? = some (.cells #[.int .i64 t288,.int .i64 t289,.int .i64 t290,.int .i64 t291,.int .i64 t292] 27 (0,0))):=⟨uq43⟩;have n3_ : Aside0 (Below w.heap.size w w39):=⟨uq44⟩;clear hw;clear HO283;clear HO287;clear BK294;clear HB;have HO283:=n0_;have HO287:=n1_;have BK294:=n2_;have HB:=n3_;clear n0_ n1_ n2_ n3_;have q40 : (5 : Int) ≤ ((t284.length : Int) : Int):=of_decide_eq_true uq1;obtain ⟨i040,hi040,_,hsz40,_⟩:=info_parts info5;have hroom40 : t284.length ≤ co35:=(rd_ HO287.out).2.1;have hC40 : Kd.C (Kd.int .u8) _ Ao35 t284.length t284:=(rd_ HO287.out).2.2;have hcut40:=cut_to (P:=Try.prog) 29 5 .i64 Try.underlying29 hi040 Ao35 t284.length co35 5 (by omega) q40 hroom40;have hr40:=Kd.C_take (m:=5) hC40 (by omega);have hy40 : y295.length = (5 : Int).toNat:=uq45;rw [← Ny295.out] at hr40;rw [← hy40] at hcut40;have HR298:=A_ hr40;have HC298:=A_ (show y295.length ≤ co35 from by omega);clear hr40 hC40 hroom40 hi040 hsz40;have KY40:=A_ hy40;clear hy40;have KL40:=A_ (show 5 ≤ t284.length from by omega);replace q40:=eq_true q40;have hcv41:=Kd.C_string (P:=Try.prog) (A:=Ao35) (c:=co35) Try.underlying29 Try.underlying5 Try.underlying9 (cx HR298.out)))
     go_ret
     exact ⟨by first|rfl|(simp [errW_none,errW_some] <;> rfl)|(simp [*,errW_none,errW_some] <;> rfl),uq21⟩
   ·
    rw [if_neg c5] at H
    exact absurd H (by simp)
  ·
   rw [if_neg c4] at H
   have c4b0 : ((t284.length : Int) == 9) = false:=beq_eq_false_iff_ne.mpr c4
   have c4b1 : ((t284.length : Int) != 9) = true:=bne_iff_ne.mpr c4
   obtain rfl:=Option.some.inj H
   go_enter Try.func16,Try.ntmps16
   go_wp2_with (first|((with_reducible refine gate_dst (N:=6) rfl ?_);(try (refine gate_guard (by rfl) ?_;dsimp only));refine Kd.R_lit (Kd.int .i64) _ 3 ?hg (N:=6) ?hd (xs:=([7,7,7] : List Int)) (inner:=[.int .i64 7,.int .i64 7,.int .i64 7]) (ok:=fun _=>True) (okp:=fun _=>True) ?hr ?hp (fun _ hk=>hk) trivial (Below.refl _ _) (Nat.le_refl _) (by simp) ?_;(case hd=>rfl);(case hg=>rfl);(case hr=>first|(go_simp;done)|(go_simp;rfl));(case hp=>exact (Reps.one (show Kd.M (Kd.int .i64) _ _ _ 7 [.int .i64 7] from rfl) (Reps.one (show Kd.M (Kd.int .i64) _ _ _ 7 [.int .i64 7] from rfl) (Reps.one (show Kd.M (Kd.int .i64) _ _ _ 7 [.int .i64 7] from rfl) (Reps.none _ _)))));intro v282 w42 ho43 hb hg_ hnew_;clear hg_ hnew_;(first|rw [← Ny281.out] at ho43|(simp only [Int.reduceToNat] at ho43;rw [← Ny281.out] at ho43));have HO283:=A_ (Kd.R_lower ho43 (below_size uq0));replace HB:=A_ (below_step uq0 hb);clear hb ho43;obtain ⟨Ao44,co44,eo44⟩:=Kd.R_slice HO283.out;subst eo44)|((with_reducible refine gate_callee (f:=13) rfl ?_);refine goesL_ (some 7) rfl rfl Try.func13 uq3 rfl #[.slice Ao44 y281.length co44] rfl uq15 ?_;(with_reducible refine (segment_Encode.calls k _ _ y281 t284 t285 _ ?side1 ?side2 A1.out).mono ?_);(case side1=>exact cx ((rd_ HO283.out).2.2));(case side2=>exact (rd_ HO283.out).2.1);rintro e w45 ⟨v286,rfl,ho0,hb⟩;refine ⟨_,rfl,?_⟩;replace HO283:=A_ (rw_ (rx HO283.out) hb);have HO287:=A_ (Kd.R_lower ho0 (below_size uq0));replace HB:=A_ (below_step uq0 hb);(try clear hb);(try clear hb2);(try clear hk);(try clear hi);(try clear ho0);obtain ⟨Ao46,co46,eo46⟩:=Kd.R_slice HO287.out;subst eo46)|((with_reducible refine gate_callee (f:=23) rfl ?_);refine goesL_ (some 12) rfl rfl Try.func23 uq3 rfl #[.slice Ao46 t284.length co46] rfl uq15 ?_;(with_reducible refine (segment_Summary.calls k _ _ t284 t288 t289 t290 t291 t292 t293 _ ?side1 ?side2 A2.out).mono ?_);(case side1=>exact cx ((rd_ HO287.out).2.2));(case side2=>exact (rd_ HO287.out).2.1);rintro e w47 ⟨rfl,hb⟩;refine ⟨_,rfl,?_⟩;replace HO283:=A_ (rw_ (rx HO283.out) hb);replace HO287:=A_ (rw_ (rx HO287.out) hb);replace HB:=A_ (below_step uq0 hb);(try clear hb);(try clear hb2);(try clear hk);(try clear hi))|((with_reducible refine gate_dst (N:=3) rfl ?_);(try (refine gate_guard (by rfl) ?_;dsimp only));refine box_event ?hg (N:=3) ?hd (cs:=#[.int .i64 0,.int .i64 0,.int .i64 0,.int .i64 0,.int .i64 0]) (t:=27) ?hr ?_;(case hd=>rfl);(case hg=>rfl);(case hr=>first|(go_simp;done)|(go_simp;rfl));intro gb294 hg w48 hbox hb;have n0_:=A_ (rw_ (rx HO283.out) hb);have n1_:=A_ (rw_ (rx HO287.out) hb);have n2_:=A_ (below_step uq0 hb);have n3_:=A_ (hbox);have n4_:=A_ ((uq8 : w.heap.size ≤ gb294));have n5_:=A_ ((uq8 : w.heap.size ≤ gb294));clear HO283;clear HO287;clear HB;have HO283:=n0_;have HO287:=n1_;have HB:=n2_;have BK294:=n3_;have GW294:=n4_;have GE294:=n5_;clear n0_ n1_ n2_ n3_ n4_ n5_;clear hb hbox hg;have hcz49_0 : w48.cell? ⟨gb294,0,none⟩ = some (.int .i64 0):=(blk_cell BK294.out 0).trans rfl;have hcz49_1 : w48.cell? ⟨gb294,1,none⟩ = some (.int .i64 0):=(blk_cell BK294.out 1).trans rfl;have hcz49_2 : w48.cell? ⟨gb294,2,none⟩ = some (.int .i64 0):=(blk_cell BK294.out 2).trans rfl;have hcz49_3 : w48.cell? ⟨gb294,3,none⟩ = some (.int .i64 0):=(blk_cell BK294.out 3).trans rfl;have hcz49_4 : w48.cell? ⟨gb294,4,none⟩ = some (.int .i64 0):=(blk_cell BK294.out 4).trans rfl;have hfz49_0:=blk_frozen BK294.out 0;have hfz49_1:=blk_frozen BK294.out 1;have hfz49_2:=blk_frozen BK294.out 2;have hfz49_3:=blk_frozen BK294.out 3;have hfz49_4:=blk_frozen BK294.out 4))
   go_ret
   exact ⟨by first|rfl|(simp [errW_none,errW_some] <;> rfl)|(simp [*,errW_none,errW_some] <;> rfl),uq21⟩
 ·
  rw [if_neg c3] at H
  have c3b0 : (t285 == 0) = false:=beq_eq_false_iff_ne.mpr c3
  have c3b1 : (t285 != 0) = true:=bne_iff_ne.mpr c3
  obtain rfl:=Option.some.inj H
  go_enter Try.func16,Try.ntmps16
  go_wp2_with (first|((with_reducible refine gate_dst (N:=6) rfl ?_);(try (refine gate_guard (by rfl) ?_;dsimp only));refine Kd.R_lit (Kd.int .i64) _ 3 ?hg (N:=6) ?hd (xs:=([7,7,7] : List Int)) (inner:=[.int .i64 7,.int .i64 7,.int .i64 7]) (ok:=fun _=>True) (okp:=fun _=>True) ?hr ?hp (fun _ hk=>hk) trivial (Below.refl _ _) (Nat.le_refl _) (by simp) ?_;(case hd=>rfl);(case hg=>rfl);(case hr=>first|(go_simp;done)|(go_simp;rfl));(case hp=>exact (Reps.one (show Kd.M (Kd.int .i64) _ _ _ 7 [.int .i64 7] from rfl) (Reps.one (show Kd.M (Kd.int .i64) _ _ _ 7 [.int .i64 7] from rfl) (Reps.one (show Kd.M (Kd.int .i64) _ _ _ 7 [.int .i64 7] from rfl) (Reps.none _ _)))));intro v282 w50 ho51 hb hg_ hnew_;clear hg_ hnew_;(first|rw [← Ny281.out] at ho51|(simp only [Int.reduceToNat] at ho51;rw [← Ny281.out] at ho51));have HO283:=A_ (Kd.R_lower ho51 (below_size uq0));replace HB:=A_ (below_step uq0 hb);clear hb ho51;obtain ⟨Ao52,co52,eo52⟩:=Kd.R_slice HO283.out;subst eo52)|((with_reducible refine gate_callee (f:=13) rfl ?_);refine goesL_ (some 7) rfl rfl Try.func13 uq3 rfl #[.slice Ao52 y281.length co52] rfl uq15 ?_;(with_reducible refine (segment_Encode.calls k _ _ y281 t284 t285 _ ?side1 ?side2 A1.out).mono ?_);(case side1=>exact cx ((rd_ HO283.out).2.2));(case side2=>exact (rd_ HO283.out).2.1);rintro e w53 ⟨v286,rfl,ho0,hb⟩;refine ⟨_,rfl,?_⟩;replace HO283:=A_ (rw_ (rx HO283.out) hb);have HO287:=A_ (Kd.R_lower ho0 (below_size uq0));replace HB:=A_ (below_step uq0 hb);(try clear hb);(try clear hb2);(try clear hk);(try clear hi);(try clear ho0);obtain ⟨Ao54,co54,eo54⟩:=Kd.R_slice HO287.out;subst eo54)|((with_reducible refine gate_callee (f:=23) rfl ?_);refine goesL_ (some 12) rfl rfl Try.func23 uq3 rfl #[.slice Ao54 t284.length co54] rfl uq15 ?_;(with_reducible refine (segment_Summary.calls k _ _ t284 t288 t289 t290 t291 t292 t293 _ ?side1 ?side2 A2.out).mono ?_);(case side1=>exact cx ((rd_ HO287.out).2.2));(case side2=>exact (rd_ HO287.out).2.1);rintro e w55 ⟨rfl,hb⟩;refine ⟨_,rfl,?_⟩;replace HO283:=A_ (rw_ (rx HO283.out) hb);replace HO287:=A_ (rw_ (rx HO287.out) hb);replace HB:=A_ (below_step uq0 hb);(try clear hb);(try clear hb2);(try clear hk);(try clear hi))|((with_reducible refine gate_dst (N:=3) rfl ?_);(try (refine gate_guard (by rfl) ?_;dsimp only));refine box_event ?hg (N:=3) ?hd (cs:=#[.int .i64 0,.int .i64 0,.int .i64 0,.int .i64 0,.int .i64 0]) (t:=27) ?hr ?_;(case hd=>rfl);(case hg=>rfl);(case hr=>first|(go_simp;done)|(go_simp;rfl));intro gb294 hg w56 hbox hb;have n0_:=A_ (rw_ (rx HO283.out) hb);have n1_:=A_ (rw_ (rx HO287.out) hb);have n2_:=A_ (below_step uq0 hb);have n3_:=A_ (hbox);have n4_:=A_ ((uq8 : w.heap.size ≤ gb294));have n5_:=A_ ((uq8 : w.heap.size ≤ gb294));clear HO283;clear HO287;clear HB;have HO283:=n0_;have HO287:=n1_;have HB:=n2_;have BK294:=n3_;have GW294:=n4_;have GE294:=n5_;clear n0_ n1_ n2_ n3_ n4_ n5_;clear hb hbox hg;have hcz57_0 : w56.cell? ⟨gb294,0,none⟩ = some (.int .i64 0):=(blk_cell BK294.out 0).trans rfl;have hcz57_1 : w56.cell? ⟨gb294,1,none⟩ = some (.int .i64 0):=(blk_cell BK294.out 1).trans rfl;have hcz57_2 : w56.cell? ⟨gb294,2,none⟩ = some (.int .i64 0):=(blk_cell BK294.out 2).trans rfl;have hcz57_3 : w56.cell? ⟨gb294,3,none⟩ = some (.int .i64 0):=(blk_cell BK294.out 3).trans rfl;have hcz57_4 : w56.cell? ⟨gb294,4,none⟩ = some (.int .i64 0):=(blk_cell BK294.out 4).trans rfl;have hfz57_0:=blk_frozen BK294.out 0;have hfz57_1:=blk_frozen BK294.out 1;have hfz57_2:=blk_frozen BK294.out 2;have hfz57_3:=blk_frozen BK294.out 3;have hfz57_4:=blk_frozen BK294.out 4))
  go_ret
  exact ⟨by first|rfl|(simp [errW_none,errW_some] <;> rfl)|(simp [*,errW_none,errW_some] <;> rfl),uq21⟩

/-! ### segment_Decode: function 21 -/
def segment_Decode.f (k : Nat) (l0 : List Int) : Option (List Int × Int):=(segment_open.f k l0).bind fun bt299=>(some (bt299.2.2.2.2.2.1,bt299.2.2.2.2.2.2))
theorem segment_Decode.mono : ∀ a0 k,LeO (segment_Decode.f k a0) (segment_Decode.f (k + 1) a0):=by
 intro a0 k
 unfold segment_Decode.f
 repeat' first|(with_reducible first|apply segment_open.mono|exact lz|refine LeO.ite ?_ ?_|refine LeO.bind ?_ fun _=>?_)
set_option maxHeartbeats 8000000 in
set_option maxRecDepth 100000 in
theorem segment_Decode.calls (k : Nat) (A0 : Option Addr) (c0 : Nat) (l0 : List Int) (r1 : List Int) (r2 : Int) (w : World) (hr0 : Kd.C (Kd.int .u8) w A0 l0.length l0) (hc0 : l0.length ≤ c0) (h : segment_Decode.f k l0 = some (r1,r2)) :
  Calls Try.prog 21 #[.slice A0 l0.length c0] w fun e w'=>∃ v0_ : Value,e = .returned (.tuple #[v0_,.int .i64 r2])∧Kd.R (Kd.int .i64) 3 w' w.heap.size (fun _=>True) v0_ r1∧Below w.heap.size w w':=by
 have hu27:=Try.underlying27
 have HR0:=A_ hr0
 have HC0:=A_ hc0
 clear hr0 hc0
 have HB:=A_ (Below.refl w.heap.size w)
 have H : ((segment_open.f k l0).bind fun bt299=>(some (bt299.2.2.2.2.2.1,bt299.2.2.2.2.2.2))) = some (r1,r2):=h
 clear h
 replace H:=Option.bind_eq_some_iff.mp H
 obtain ⟨⟨t299,t300,t301,t302,t303,t304,t307⟩,A20,H⟩:=H
 replace H : (some (t304,t307)) = some (r1,r2):=H
 have A2:=A_ A20
 clear A20
 simp only [Option.some.injEq,Prod.mk.injEq] at H
 obtain ⟨rfl,rfl⟩:=H
 go_enter Try.func21,Try.ntmps21
 go_wp2_with (first|((with_reducible refine gate_callee (f:=53) rfl ?_);refine goesL_ (some 9) rfl rfl Try.func53 uq3 rfl #[.slice A0 l0.length c0] rfl uq15 ?_;(with_reducible refine (segment_open.calls k _ _ l0 t299 t300 t301 t302 t303 t304 t307 _ ?side1 ?side2 A2.out).mono ?_);(case side1=>exact cx HR0.out);(case side2=>exact HC0.out);rintro e w3 ⟨v305,rfl,ho0,hb⟩;refine ⟨_,rfl,?_⟩;have HO306:=A_ (Kd.R_lower ho0 (below_size uq0));replace HB:=A_ (below_step uq0 hb);(try clear hb);(try clear hb2);(try clear hk);(try clear hi);(try clear ho0))|((with_reducible refine gate_dst (N:=4) rfl ?_);refine box_event ?hg (N:=4) ?hd (cs:=#[.int .i64 0,.int .i64 0,.int .i64 0,.int .i64 0,.int .i64 0]) (t:=27) ?hr ?_;(case hd=>rfl);(case hg=>rfl);(case hr=>first|(go_simp;done)|(go_simp;rfl));intro gb308 hg w4 hbox hb;have n0_:=A_ (rw_ (rx HO306.out) hb);have n1_:=A_ (below_step uq0 hb);have n2_:=A_ (hbox);have n3_:=A_ ((uq8 : w.heap.size ≤ gb308));have n4_:=A_ ((uq8 : w.heap.size ≤ gb308));clear HO306;clear HB;have HO306:=n0_;have HB:=n1_;have BK308:=n2_;have GW308:=n3_;have GE308:=n4_;clear n0_ n1_ n2_ n3_ n4_;clear hb hbox hg;have hcz5_0 : w4.cell? ⟨gb308,0,none⟩ = some (.int .i64 0):=(blk_cell BK308.out 0).trans rfl;have hcz5_1 : w4.cell? ⟨gb308,1,none⟩ = some (.int .i64 0):=(blk_cell BK308.out 1).trans rfl;have hcz5_2 : w4.cell? ⟨gb308,2,none⟩ = some (.int .i64 0):=(blk_cell BK308.out 2).trans rfl;have hcz5_3 : w4.cell? ⟨gb308,3,none⟩ = some (.int .i64 0):=(blk_cell BK308.out 3).trans rfl;have hcz5_4 : w4.cell? ⟨gb308,4,none⟩ = some (.int .i64 0):=(blk_cell BK308.out 4).trans rfl;have hfz5_0:=blk_frozen BK308.out 0;have hfz5_1:=blk_frozen BK308.out 1;have hfz5_2:=blk_frozen BK308.out 2;have hfz5_3:=blk_frozen BK308.out 3;have hfz5_4:=blk_frozen BK308.out 4))
 go_ret2
 exact ⟨_,by first|rfl|(simp [errW_none,errW_some] <;> rfl)|(simp [*,errW_none,errW_some] <;> rfl),by (with_reducible repeat (first|apply ra|apply rb|apply rc));exact rm (Kd.R_far (p:=⟨gb308,4,none⟩) (Kd.R_far (p:=⟨gb308,3,none⟩) (Kd.R_far (p:=⟨gb308,2,none⟩) (Kd.R_far (p:=⟨gb308,1,none⟩) (Kd.R_far (p:=⟨gb308,0,none⟩) (Kd.R_types HO306.out BK308.out (by decide)) (fun _ hk=>hk.2) (.int .i64 t299)) (fun _ hk=>hk.2) (.int .i64 t300)) (fun _ hk=>hk.2) (.int .i64 t301)) (fun _ hk=>hk.2) (.int .i64 t302)) (fun _ hk=>hk.2) (.int .i64 t303)) (fun _ hk=>trivial),by repeat (first|(with_reducible first|exact HB.out|apply ba|apply bb|apply bc|refine below_set ?_ GE308.out)|exact HB.out)⟩

end Go.Proofs.Ytdnhfofmfpgmmaa.PSegmentBack
