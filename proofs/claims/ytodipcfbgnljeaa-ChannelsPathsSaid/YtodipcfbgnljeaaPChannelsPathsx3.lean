/- This file proves, function by function, what the Go functions that one law uses compute; most of it was printed by a program (wip/tools of this session, over the kit's print). -/
import Derived.Test.YtodipcfbgnljeaaPChannelsPathsx0
import Derived.Test.YtodipcfbgnljeaaPChannelsPathsx1
import Derived.Test.YtodipcfbgnljeaaPChannelsPathsx2
namespace Go.Proofs.Ytodipcfbgnljeaa.PChannelsPaths
open Go.RowKit Go.Proofs.YtodipcfbgnljeaaW.PrintWords Go.Proofs.YtodipcfbgnljeaaW.PrintLast Go.Proofs.YtodipcfbgnljeaaW.PrintMore
attribute [local go_sem] max2_int min2_int max_two min_two max_three min_three max_four min_four   -- for this text's walks alone
set_option linter.unusedVariables false
set_option linter.unusedSimpArgs false

/-! ### shapesearchlaw16_bundles: function 9 -/
def shapesearchlaw16_bundles.el (k : Nat) (x y L z : List Int) (s : Int) : Option (List Int × Int) :=
 if x.length = y.length then (shapesearchkeep_Src_N.f L s 2).bind fun c=>if c.1 = 0 then shapesearchkeep_Src_Near.f k L c.2 z else shapesearchkeep_Src_List.f k L c.2 (y.length : Int)
 else shapesearchkeep_Src_List.f k L s (y.length : Int)
def shapesearchlaw16_bundles.go (k : Nat) (x y L : List Int) : Nat → List (List Int) → List (List Int) → Int → Option (List (List Int) × List (List Int) × Int)
 | 0,p,q,s=>some (p,q,s)
 | i + 1,p,q,s=>(shapesearchkeep_Src_Near.f k L s x).bind fun z=>(shapesearchlaw16_bundles.el k x y L z.1 z.2).bind fun v=>shapesearchlaw16_bundles.go k x y L i (p ++ [z.1]) (q ++ [v.1]) v.2
def shapesearchlaw16_bundles.f (k : Nat) (s0_0 : List Int) (s0_1 : Int) : Option (List (List Int) × List (List Int) × Int × Int) :=
 (shapesearchkeep_Src_Uneven.f k s0_0 s0_1).bind fun u=>(shapesearchkeep_Src_N.f s0_0 u.2.2.2 4).bind fun c=>if 0 ≤ c.1∧c.1 ≤ 4 then (shapesearchlaw16_bundles.go k u.1 u.2.1 s0_0 c.1.toNat [u.1] [u.2.1] c.2).bind fun r=>some (r.1,r.2.1,u.2.2.1,r.2.2) else none
theorem shapesearchlaw16_bundles.el_mono (k : Nat) (x y L z : List Int) (s : Int) : LeO (shapesearchlaw16_bundles.el k x y L z s) (shapesearchlaw16_bundles.el (k + 1) x y L z s):=by
 unfold shapesearchlaw16_bundles.el
 exact LeO.ite (LeO.bind (LeO.refl _) fun _=>LeO.ite (shapesearchkeep_Src_Near.mono _ _ _ _) (shapesearchkeep_Src_List.mono _ _ _ _)) (shapesearchkeep_Src_List.mono _ _ _ _)
theorem shapesearchlaw16_bundles.go_mono (k : Nat) (x y L : List Int) : ∀ i p q s,LeO (shapesearchlaw16_bundles.go k x y L i p q s) (shapesearchlaw16_bundles.go (k + 1) x y L i p q s):=by
 intro i
 induction i with
 | zero=>intro p q s;exact LeO.refl _
 | succ i ih=>intro p q s;exact LeO.bind (shapesearchkeep_Src_Near.mono _ _ _ _) fun _=>LeO.bind (shapesearchlaw16_bundles.el_mono _ _ _ _ _ _) fun _=>ih _ _ _
theorem shapesearchlaw16_bundles.mono : ∀ a0 a1 k,LeO (shapesearchlaw16_bundles.f k a0 a1) (shapesearchlaw16_bundles.f (k + 1) a0 a1):=by
 intro a0 a1 k
 unfold shapesearchlaw16_bundles.f
 exact LeO.bind (shapesearchkeep_Src_Uneven.mono _ _ _) fun _=>LeO.bind (LeO.refl _) fun _=>LeO.ite (LeO.bind (shapesearchlaw16_bundles.go_mono _ _ _ _ _ _ _ _) fun _=>LeO.refl _) (LeO.refl _)
/-- What holds of the two bundles that are made. -/
structure shapesearchlaw16_bundles.B (w0 w W : World) (g : Nat) (L : List Int) (s : Int) (vx vp vq : Value) (x : List Int) (p q : List (List Int)) : Prop where
 st : IsS56 w0 W g L s
 bw : Below w0.heap.size w0 W
 kp : KeepBut w W g none
 ws : w0.heap.size ≤ w.heap.size
 x : Kd.R (Kd.int .i64) 3 W w.heap.size (fun _=>True) vx x
 p : Kd.S (Kd.slice 3 (Kd.int .i64)) 22 W w.heap.size (fun k=>some k≠vq.ownBlock) vp p
 q : Kd.S (Kd.slice 3 (Kd.int .i64)) 22 W w.heap.size (fun k=>some k≠vp.ownBlock) vq q
theorem shapesearchlaw16_bundles.B.swap {w0 w W : World} {g : Nat} {L : List Int} {s : Int} {vx vp vq : Value} {x : List Int} {p q : List (List Int)} (h : shapesearchlaw16_bundles.B w0 w W g L s vx vp vq x p q) : shapesearchlaw16_bundles.B w0 w W g L s vx vq vp x q p:=⟨h.st,h.bw,h.kp,h.ws,h.x,h.q,h.p⟩
theorem shapesearchlaw16_bundles.B.pold {w0 w W W1 : World} {g : Nat} {L : List Int} {s : Int} {vx vp vq : Value} {x : List Int} {p q : List (List Int)} (h : shapesearchlaw16_bundles.B w0 w W g L s vx vp vq x p q) (hk : KeepBut W W1 g none) :
  Kd.S (Kd.slice 3 (Kd.int .i64)) 22 W1 w.heap.size (fun k=>some k≠vq.ownBlock∧k < W.heap.size) vp p:=Kd.S_oldK (IsS56.apartS h.st h.p (by decide)) hk
theorem shapesearchlaw16_bundles.B.call {w0 w W W1 : World} {g : Nat} {L : List Int} {s s1 : Int} {vx vp vq : Value} {x : List Int} {p q : List (List Int)} (h : shapesearchlaw16_bundles.B w0 w W g L s vx vp vq x p q) (hi : IsS56 w0 W1 g L s1) (hb : Below w0.heap.size w0 W1) (hk : KeepBut W W1 g none) : shapesearchlaw16_bundles.B w0 w W1 g L s1 vx vp vq x p q :=
 ⟨hi,hb,h.kp.trans hk (.inl rfl),h.ws,rm (Kd.R_oldK (IsS56.apart h.st h.x (by decide)) hk) (fun _ h=>h.1),Kd.S_mono (shapesearchlaw16_bundles.B.pold h hk) (fun _ h=>h.1),Kd.S_mono (shapesearchlaw16_bundles.B.pold h.swap hk) (fun _ h=>h.1)⟩
theorem shapesearchlaw16_bundles.B.size {w0 w W : World} {g : Nat} {L : List Int} {s : Int} {vx vp vq : Value} {x : List Int} {p q : List (List Int)} (h : shapesearchlaw16_bundles.B w0 w W g L s vx vp vq x p q) : w.heap.size ≤ W.heap.size:=h.kp.1
/-- Behind an append to the first bundle. -/
theorem shapesearchlaw16_bundles.B.app {w0 w W W1 : World} {g : Nat} {L : List Int} {s : Int} {vx vp vq vp1 : Value} {x : List Int} {p q p1 : List (List Int)} (h : shapesearchlaw16_bundles.B w0 w W g L s vx vp vq x p q) (hp : Kd.S (Kd.slice 3 (Kd.int .i64)) 22 W1 w.heap.size (fun k=>some k≠vq.ownBlock) vp1 p1)
  (hg : W.grownBy W1 vp.ownBlock) (hat : vp1.ownBlock = vp.ownBlock ∨ ∃ b,vp1.ownBlock = some b∧W.heap.size ≤ b) : shapesearchlaw16_bundles.B w0 w W1 g L s vx vp1 vq x p1 q:=by
 have hne : some g≠vp.ownBlock:=IsS56.own_neS h.st h.p (by decide)
 have hrow : vp.ownBlock = none ∨ ∃ b,vp.ownBlock = some b∧w.heap.size ≤ b:=Kd.S_base2 h.p
 refine ⟨h.st.grown hg hne,?_,h.kp.trans (KeepBut.of_grown hg g) hrow,h.ws,Kd.R_over' h.x (Kd.S_typed h.p) (by decide) hg,hp,?_⟩
 ·
  exact h.bw.grown hg (Nat.le_trans h.ws h.size) (fun k hk=>Nat.le_trans h.ws (Kd.S_base h.p k hk))
 ·
  exact Kd.S_mono (Kd.S_after (ok:=fun _=>True) (Kd.S_mono h.q (fun k hk=>⟨trivial,hk⟩)) hg hat) (fun k hk=>hk.2)
theorem shapesearchlaw16_bundles.one_rep {W : World} {base : Nat} {v : Value} {x : List Int} {ok : Nat → Prop} (h : (Kd.slice 3 (Kd.int .i64)).M W base ok x [v]) : ∀ j x',[x][j]? = some x' → (Kd.slice 3 (Kd.int .i64)).M W base (fun k=>j = 0∧ok k) x' (([v].drop (j * (Kd.slice 3 (Kd.int .i64)).sz)).take (Kd.slice 3 (Kd.int .i64)).sz)
 | 0,x',hj=>by
  cases hj
  exact (Kd.slice 3 (Kd.int .i64)).M_mono (fun k hk=>⟨rfl,hk⟩) h
 | j + 1,x',hj=>by simp at hj
theorem shapesearchlaw16_bundles.near_c {w0 w W : World} {g : Nat} {L : List Int} {s : Int} {vx vp vq : Value} {x : List Int} {p q : List (List Int)} {A : Option Addr} {c : Nat} {z : List Int} {s1 : Int} (k : Nat) (h : shapesearchlaw16_bundles.B w0 w W g L s vx vp vq x p q) {y : List Int} {base : Nat} {ok : Nat → Prop} (hy : Kd.R (Kd.int .i64) 3 W base ok (.slice A y.length c) y) (he : shapesearchkeep_Src_Near.f k L s y = some (z,s1)) :
  Calls Try.prog 19 #[.pointer (some ⟨g,0,none⟩),.slice A y.length c] W fun e W'=>∃ v : Value,e = .returned v∧Kd.R (Kd.int .i64) 3 W' W.heap.size (fun _=>True) v z∧KeepBut W W' g none∧shapesearchlaw16_bundles.B w0 w W' g L s1 vx vp vq x p q :=
 (shapesearchkeep_Src_Near.calls k g L s _ _ y z s1 w0 W h.st h.bw (rd_ hy).2.2 (rd_ hy).2.1 (far_slice (IsS56.own_ne h.st hy (by decide))) he).mono fun e W' ⟨v,e1,e2,e3,e4,e5⟩=>⟨v,e1,e2,e5,shapesearchlaw16_bundles.B.call h e3 e4 e5⟩
theorem shapesearchlaw16_bundles.list_c {w0 w W : World} {g : Nat} {L : List Int} {s : Int} {vx vp vq : Value} {x : List Int} {p q : List (List Int)} {a : Int} {z : List Int} {s1 : Int} (k : Nat) (h : shapesearchlaw16_bundles.B w0 w W g L s vx vp vq x p q) (he : shapesearchkeep_Src_List.f k L s a = some (z,s1)) :
  Calls Try.prog 20 #[.pointer (some ⟨g,0,none⟩),.int .i64 a] W fun e W'=>∃ v : Value,e = .returned v∧Kd.R (Kd.int .i64) 3 W' W.heap.size (fun _=>True) v z∧KeepBut W W' g none∧shapesearchlaw16_bundles.B w0 w W' g L s1 vx vp vq x p q :=
 (shapesearchkeep_Src_List.calls k g L s a z s1 w0 W h.st h.bw he).mono fun e W' ⟨v,e1,e2,e3,e4,e5⟩=>⟨v,e1,e2,e5,shapesearchlaw16_bundles.B.call h e3 e4 e5⟩
theorem shapesearchlaw16_bundles.n_c {w0 w W : World} {g : Nat} {L : List Int} {s : Int} {vx vp vq : Value} {x : List Int} {p q : List (List Int)} {a c s1 : Int} (h : shapesearchlaw16_bundles.B w0 w W g L s vx vp vq x p q) (he : shapesearchkeep_Src_N.f L s a = some (c,s1)) :
  Calls Try.prog 24 #[.pointer (some ⟨g,0,none⟩),.int .i64 a] W fun e W'=>e = .returned (.int .i64 c)∧KeepBut W W' g none∧shapesearchlaw16_bundles.B w0 w W' g L s1 vx vp vq x p q :=
 (shapesearchkeep_Src_N.calls g L s a c s1 w0 W h.st h.bw he).mono fun e W' ⟨e1,e3,e4,e5⟩=>⟨e1,e5,shapesearchlaw16_bundles.B.call h e3 e4 e5⟩
set_option maxHeartbeats 8000000 in
set_option maxRecDepth 100000 in
theorem shapesearchlaw16_bundles.calls (k : Nat) (g : Nat) (s0_0 : List Int) (s0_1 : Int) (r1 : List (List Int)) (r2 : List (List Int)) (r3 : Int) (r4 : Int) (w0 w : World) (hI : IsS56 w0 w g s0_0 s0_1) (hB : Below w0.heap.size w0 w) (h : shapesearchlaw16_bundles.f k s0_0 s0_1 = some (r1,r2,r3,r4)) :
  Calls Try.prog 9 #[.pointer (some ⟨g,0,none⟩)] w fun e w'=>∃ v0_ v1_ : Value,e = .returned (.tuple #[v0_,v1_,.int .i64 r3])∧Kd.S (Kd.slice 3 (Kd.int .i64)) 22 w' w.heap.size (fun k_=>some k_≠(v1_ : Value).ownBlock) v0_ r1∧Kd.S (Kd.slice 3 (Kd.int .i64)) 22 w' w.heap.size (fun k_=>some k_≠(v0_ : Value).ownBlock) v1_ r2∧IsS56 w0 w' g s0_0 r4∧Below w0.heap.size w0 w'∧KeepBut w w' g none:=by
 unfold shapesearchlaw16_bundles.f at h
 obtain ⟨⟨x,y,b,s1⟩,hu,H1⟩:=Option.bind_eq_some_iff.mp h
 obtain ⟨⟨c,s2⟩,hn,H2⟩:=Option.bind_eq_some_iff.mp H1
 clear h H1
 by_cases hc : 0 ≤ c∧c ≤ 4
 case neg=>simp only [if_neg hc] at H2;cases H2
 simp only [if_pos hc] at H2
 obtain ⟨⟨p1,q1,s3⟩,hgo,H3⟩:=Option.bind_eq_some_iff.mp H2
 cases H3
 clear H2
 have HU:=A_ hu
 have HN:=A_ hn
 have HGO:=A_ hgo
 have HI:=A_ hI
 have HB:=A_ hB
 clear hu hn hgo hI hB
 go_enter Try.func9,Try.ntmps9
 go_upto_region 2 with (go_at_call 31;refine (shapesearchkeep_Src_Uneven.calls k g s0_0 s0_1 x y r3 s1 w0 w HI.out HB.out HU.out).mono ?_;rintro e W1 ⟨vx,vy,rfl,hx,hy,hi,hb,hk⟩)
 have hws:=HB.out.size
 obtain ⟨Ax,cx,rfl⟩:=Kd.R_slice hx
 obtain ⟨Ay,cy,rfl⟩:=Kd.R_slice hy
 have HX:=A_ hx
 have HY:=A_ hy
 have HI1:=A_ hi
 have HB1:=A_ hb
 have HK1:=A_ hk
 clear hx hy hi hb hk HI HB
 obtain ⟨m,rfl⟩:=Int.eq_ofNat_of_zero_le hc.1
 have hm4 : m ≤ 4:=by omega
 simp only [Int.toNat_natCast] at HGO
 have hsw:=HK1.out.1
 clear hc
 go_upto_region 3 with (first|((with_reducible refine gate_dst (N:=19) rfl ?_);refine Kd.S_lits (Kd.slice 3 (Kd.int .i64)) (w0:=W1) w.heap.size 22 ?hg (N:=19) ?hd (xs:=[x]) (inner:=[.slice Ax x.length cx]) (ok:=fun _=>True) (fun j k_=>j = 0∧some k_ = (Value.slice Ax x.length cx).ownBlock) ?hr rfl (shapesearchlaw16_bundles.one_rep (Kd.M_row (Kd.R_tight rfl (HX.out)))) (fun i j k_ h1 h2=>h1.1.trans h2.1.symm) (fun _ _ _=>trivial) trivial (Below.refl _ _) ?hbase (by simp) ?_;(case hd=>rfl);(case hg=>rfl);(case hr=>first|(go_simp;done)|(go_simp;rfl));(case hbase=>omega);intro vp Wa hp hbx_ hgp hnp;clear hbx_;have hs_Wa:=hgp.size)|((with_reducible refine gate_dst (N:=21) rfl ?_);refine Kd.S_lits (Kd.slice 3 (Kd.int .i64)) (w0:=Wa) w.heap.size 22 ?hg (N:=21) ?hd (xs:=[y]) (inner:=[.slice Ay y.length cy]) (ok:=fun k_=>some k_≠vp.ownBlock) (fun j k_=>j = 0∧some k_ = (Value.slice Ay y.length cy).ownBlock) ?hr rfl (shapesearchlaw16_bundles.one_rep (Kd.M_row (Kd.R_tight rfl (Kd.R_grown HY.out hgp (fun _ _=>by simp))))) (fun i j k_ h1 h2=>h1.1.trans h2.1.symm) (fun j k_ h1 h2=>by have q1:=rl HY.out k_ h1.2.symm;obtain ⟨b_,q2,q3⟩:=hnp;rw [q2] at h2;injection h2 with h2;omega) (fun h2=>by have:=Kd.S_lt hp _ h2.symm;omega) (Below.refl _ _) ?hbase (by simp) ?_;(case hd=>rfl);(case hg=>rfl);(case hr=>first|(go_simp;done)|(go_simp;rfl));(case hbase=>omega);intro vq Wb hq hbx_ hgq hnq;clear hbx_;have hs_Wb:=hgq.size))
 have HBB:=A_ (show shapesearchlaw16_bundles.B w0 w Wb g s0_0 s1 (.slice Ax x.length cx) vp vq x [x] [y] from
  ⟨(HI1.out.grown hgp (by simp)).grown hgq (by simp),(HB1.out.grown hgp (by omega) (fun k_ hk=>by simp at hk)).grown hgq (by omega) (fun k_ hk=>by simp at hk),(HK1.out.trans (KeepBut.of_grown hgp g) (.inl rfl)).trans (KeepBut.of_grown hgq g) (.inl rfl),hws,
   rm (Kd.R_grown (Kd.R_grown HX.out hgp (fun _ _=>by simp)) hgq (fun _ _=>by simp)) (fun _ _=>trivial),
   Kd.S_mono (Kd.S_grown (Kd.S_bound hp) hgq (fun _ _=>by simp)) (fun k_ hk h2=>by obtain ⟨b_,q2,q3⟩:=hnq;rw [q2] at h2;injection h2 with h2;have:=hk.2.2.1;omega),hq⟩)
 clear hp hq hgp hgq hnp hnq HX HY HI1 HB1 HK1 hs_Wa hs_Wb hsw
 go_wp2_with (go_at_call 24;refine (shapesearchlaw16_bundles.n_c HBB.out HN.out).mono ?_;rintro e W3 ⟨rfl,hk3,hb3⟩;clear hk3)
 have HB3:=A_ hb3
 clear hb3 HBB
 go_loopg [8,9,10] m (fun gk s8 s9 s10 wx=>∃ (i : Nat) (vp vq : Value) (p q : List (List Int)) (s : Int),s8 = vp∧s9 = vq∧s10 = .int .i64 (i : Int)∧i = gk∧i ≤ 4∧p.length + i ≤ 6∧q.length + i ≤ 6∧Aside0 (shapesearchlaw16_bundles.go k x y s0_0 i p q s = some (p1,q1,s3))∧Aside0 (shapesearchlaw16_bundles.B w0 w wx g s0_0 s (.slice Ax x.length cx) vp vq x p q))
 case atStart=>exact ⟨m,vp,vq,[x],[y],s2,rfl,rfl,rfl,rfl,hm4,by simp;omega,by simp;omega,HGO,HB3⟩
 case round =>
  clear HB3 HGO
  obtain ⟨i,vp,vq,p,q,s,rfl,rfl,rfl,rfl,hi4,hpl,hql,HG,HBB⟩:=hrel
  cases i with
  | zero =>
   have hgo:=HG.out
   cases hgo
   go_wp2_with fail
   go_ret3
   exact ⟨_,_,rfl,HBB.out.p,HBB.out.q,HBB.out.st,HBB.out.bw,HBB.out.kp⟩
  | succ i =>
   obtain ⟨⟨z,sz⟩,hzz,hr1⟩:=Option.bind_eq_some_iff.mp HG.out
   obtain ⟨⟨v,sv⟩,hel,hr2⟩:=Option.bind_eq_some_iff.mp hr1
   have HZ:=A_ hzz
   have HG2:=A_ hr2
   have hgt : decide ((i : Int) + 1 > 0) = true:=decide_eq_true (by omega)
   have hgt' : (0 : Int) < (i : Int) + 1:=by omega
   have hwi : IntKind.i64.wrap ((i : Int) + 1 - 1) = (i : Int):=(IntWalk.i64_in _ (by omega)).trans (by omega)
   have hwi2 : IntKind.i64.wrap (i : Int) = (i : Int):=IntWalk.i64_in _ (by omega)
   clear hzz hr1 hr2 HG
   unfold shapesearchlaw16_bundles.el at hel
   go_upto_region 8 with (first|(go_at_call 19;refine (shapesearchlaw16_bundles.near_c k HBB.out HBB.out.x HZ.out).mono ?_;rintro e W2 ⟨vz,rfl,hz,hk2,hb2⟩;obtain ⟨Az,cz,rfl⟩:=Kd.R_slice hz)|((with_reducible refine gate_builtin (b:=.append) (xs:=#[.tmp 31,.tmp 33]) rfl ?_);at_builtin;refine Kd.S_append (Kd.slice 3 (Kd.int .i64)) (w0:=W2) w.heap.size ?gd (.tmp 31) (.tmp 33) 23 22 (.slice none 0 0) 24 ?o1 Try.underlying23 info22 rfl (by decide) (by omega) u8 p z [.slice Az z.length cz] (fun k_=>some k_≠u9.ownBlock) (fun k_=>some k_ = (.slice Az z.length cz : Value).ownBlock) ?e1 ?e2 (Kd.M_row (Kd.R_tight rfl (Kd.R_lower hz (HBB.out).size))) (fun k_ hk_=>⟨fun h2=>by have q1:=rs hz k_ hk_.symm;have q2:=Kd.S_lt (HBB.out).q k_ h2.symm;omega,fun h2=>by have q1:=rs hz k_ hk_.symm;have q2:=Kd.S_lt (HBB.out).p k_ h2.symm;omega⟩) (fun k_ hk_ h2=>by have q2:=Kd.S_lt (hb2).q k_ h2.symm;omega) (Kd.S_mono (shapesearchlaw16_bundles.B.pold (HBB.out) hk2) (fun k_ hk_=>⟨hk_.1,fun h2=>by have q1:=rs hz k_ h2.symm;have:=hk_.2;omega⟩)) (Below.refl _ _) (hb2).size (by omega) ?_;(case gd=>rfl);(case o1=>rfl);(case e1=>rfl);(case e2=>rfl);intro vp1 W4 ho hbx_ hg hat;clear hbx_;have HBW4:=A_ (shapesearchlaw16_bundles.B.app (hb2) ho hg hat)))
   have HZZ:=A_ (Kd.R_over' hz (Kd.S_typed hb2.p) (by decide) hg)
   clear hz hk2 hb2 ho hg hat HBB HZ
   by_cases heq : x.length = y.length
   ·
    rw [if_pos heq] at hel
    obtain ⟨⟨c,sc⟩,hc,hel2⟩:=Option.bind_eq_some_iff.mp hel
    have HC:=A_ hc
    have heb : ((x.length : Int) == (y.length : Int)) = true:=beq_iff_eq.mpr (by omega)
    clear hc hel heq
    by_cases hc0 : c = 0
    ·
     have HV:=A_ (show shapesearchkeep_Src_Near.f k s0_0 sc z = some (v,sv) by rw [← hel2];exact (if_pos hc0).symm)
     have hcb : (c == 0) = true:=beq_iff_eq.mpr hc0
     clear hel2 hc0
     go_upto_region 9 with (go_at_call 24;refine (shapesearchlaw16_bundles.n_c HBW4.out HC.out).mono ?_;rintro e W5 ⟨rfl,hk5,hb5⟩)
     have HZZ5:=A_ (Kd.R_keep (IsS56.apart HBW4.out.st HZZ.out (by decide)) hk5 (fun _ h=>h.2))
     go_wp2_with (first|(go_at_call 19;refine (shapesearchlaw16_bundles.near_c k hb5 HZZ5.out HV.out).mono ?_;rintro e W6 ⟨vv,rfl,hv,hk6,hb6⟩;obtain ⟨Av,cv,rfl⟩:=Kd.R_slice hv)|((with_reducible refine gate_builtin (b:=.append) (xs:=#[.tmp 45,.tmp 49]) rfl ?_);at_builtin;refine Kd.S_append (Kd.slice 3 (Kd.int .i64)) (w0:=W6) w.heap.size ?gd (.tmp 45) (.tmp 49) 23 22 (.slice none 0 0) 24 ?o1 Try.underlying23 info22 rfl (by decide) (by omega) u9 q v [.slice Av v.length cv] (fun k_=>some k_≠vp1.ownBlock) (fun k_=>some k_ = (.slice Av v.length cv : Value).ownBlock) ?e1 ?e2 (Kd.M_row (Kd.R_tight rfl (Kd.R_lower hv (hb5.swap).size))) (fun k_ hk_=>⟨fun h2=>by have q1:=rs hv k_ hk_.symm;have q2:=Kd.S_lt (hb5.swap).q k_ h2.symm;omega,fun h2=>by have q1:=rs hv k_ hk_.symm;have q2:=Kd.S_lt (hb5.swap).p k_ h2.symm;omega⟩) (fun k_ hk_ h2=>by have q2:=Kd.S_lt (hb6.swap).q k_ h2.symm;omega) (Kd.S_mono (shapesearchlaw16_bundles.B.pold (hb5.swap) hk6) (fun k_ hk_=>⟨hk_.1,fun h2=>by have q1:=rs hv k_ h2.symm;have:=hk_.2;omega⟩)) (Below.refl _ _) (hb6.swap).size (by omega) ?_;(case gd=>rfl);(case o1=>rfl);(case e1=>rfl);(case e2=>rfl);intro vq1 W7 ho7 hbx_ hg7 hat7;clear hbx_;have HBW7:=A_ (shapesearchlaw16_bundles.B.app (hb6.swap) ho7 hg7 hat7)))
     go_roundg i
     case measure=>omega
     case rel=>exact ⟨i,vp1,vq1,_,_,_,rfl,rfl,by first|rfl|simp,rfl,by omega,by simp;omega,by simp;omega,HG2,⟨HBW7.out.swap⟩⟩
    ·
     have HV:=A_ (show shapesearchkeep_Src_List.f k s0_0 sc (y.length : Int) = some (v,sv) by rw [← hel2];exact (if_neg hc0).symm)
     have hcb : (c == 0) = false:=beq_eq_false_iff_ne.mpr hc0
     clear hel2 hc0
     go_upto_region 10 with (go_at_call 24;refine (shapesearchlaw16_bundles.n_c HBW4.out HC.out).mono ?_;rintro e W5 ⟨rfl,hk5,hb5⟩)
     go_wp2_with (first|(go_at_call 20;refine (shapesearchlaw16_bundles.list_c k hb5 HV.out).mono ?_;rintro e W6 ⟨vv,rfl,hv,hk6,hb6⟩;obtain ⟨Av,cv,rfl⟩:=Kd.R_slice hv)|((with_reducible refine gate_builtin (b:=.append) (xs:=#[.tmp 51,.tmp 56]) rfl ?_);at_builtin;refine Kd.S_append (Kd.slice 3 (Kd.int .i64)) (w0:=W6) w.heap.size ?gd (.tmp 51) (.tmp 56) 23 22 (.slice none 0 0) 24 ?o1 Try.underlying23 info22 rfl (by decide) (by omega) u9 q v [.slice Av v.length cv] (fun k_=>some k_≠vp1.ownBlock) (fun k_=>some k_ = (.slice Av v.length cv : Value).ownBlock) ?e1 ?e2 (Kd.M_row (Kd.R_tight rfl (Kd.R_lower hv (hb5.swap).size))) (fun k_ hk_=>⟨fun h2=>by have q1:=rs hv k_ hk_.symm;have q2:=Kd.S_lt (hb5.swap).q k_ h2.symm;omega,fun h2=>by have q1:=rs hv k_ hk_.symm;have q2:=Kd.S_lt (hb5.swap).p k_ h2.symm;omega⟩) (fun k_ hk_ h2=>by have q2:=Kd.S_lt (hb6.swap).q k_ h2.symm;omega) (Kd.S_mono (shapesearchlaw16_bundles.B.pold (hb5.swap) hk6) (fun k_ hk_=>⟨hk_.1,fun h2=>by have q1:=rs hv k_ h2.symm;have:=hk_.2;omega⟩)) (Below.refl _ _) (hb6.swap).size (by omega) ?_;(case gd=>rfl);(case o1=>rfl);(case e1=>rfl);(case e2=>rfl);intro vq1 W7 ho7 hbx_ hg7 hat7;clear hbx_;have HBW7:=A_ (shapesearchlaw16_bundles.B.app (hb6.swap) ho7 hg7 hat7)))
     go_roundg i
     case measure=>omega
     case rel=>exact ⟨i,vp1,vq1,_,_,_,rfl,rfl,by first|rfl|simp,rfl,by omega,by simp;omega,by simp;omega,HG2,⟨HBW7.out.swap⟩⟩
   ·
    rw [if_neg heq] at hel
    have HV:=A_ hel
    have heb : ((x.length : Int) == (y.length : Int)) = false:=beq_eq_false_iff_ne.mpr (by omega)
    clear hel heq
    go_upto_region 10 with (fail)
    go_wp2_with (first|(go_at_call 20;refine (shapesearchlaw16_bundles.list_c k HBW4.out HV.out).mono ?_;rintro e W6 ⟨vv,rfl,hv,hk6,hb6⟩;obtain ⟨Av,cv,rfl⟩:=Kd.R_slice hv)|((with_reducible refine gate_builtin (b:=.append) (xs:=#[.tmp 51,.tmp 56]) rfl ?_);at_builtin;refine Kd.S_append (Kd.slice 3 (Kd.int .i64)) (w0:=W6) w.heap.size ?gd (.tmp 51) (.tmp 56) 23 22 (.slice none 0 0) 24 ?o1 Try.underlying23 info22 rfl (by decide) (by omega) u9 q v [.slice Av v.length cv] (fun k_=>some k_≠vp1.ownBlock) (fun k_=>some k_ = (.slice Av v.length cv : Value).ownBlock) ?e1 ?e2 (Kd.M_row (Kd.R_tight rfl (Kd.R_lower hv (HBW4.out.swap).size))) (fun k_ hk_=>⟨fun h2=>by have q1:=rs hv k_ hk_.symm;have q2:=Kd.S_lt (HBW4.out.swap).q k_ h2.symm;omega,fun h2=>by have q1:=rs hv k_ hk_.symm;have q2:=Kd.S_lt (HBW4.out.swap).p k_ h2.symm;omega⟩) (fun k_ hk_ h2=>by have q2:=Kd.S_lt (hb6.swap).q k_ h2.symm;omega) (Kd.S_mono (shapesearchlaw16_bundles.B.pold (HBW4.out.swap) hk6) (fun k_ hk_=>⟨hk_.1,fun h2=>by have q1:=rs hv k_ h2.symm;have:=hk_.2;omega⟩)) (Below.refl _ _) (hb6.swap).size (by omega) ?_;(case gd=>rfl);(case o1=>rfl);(case e1=>rfl);(case e2=>rfl);intro vq1 W7 ho7 hbx_ hg7 hat7;clear hbx_;have HBW7:=A_ (shapesearchlaw16_bundles.B.app (hb6.swap) ho7 hg7 hat7)))
    go_roundg i
    case measure=>omega
    case rel=>exact ⟨i,vp1,vq1,_,_,_,rfl,rfl,by first|rfl|simp,rfl,by omega,by simp;omega,by simp;omega,HG2,⟨HBW7.out.swap⟩⟩

/-! ### shapesearchkeep_New: function 10 -/
def shapesearchkeep_New.f (l0 : List Int) : Option (List Int × Int):=if 0 ≤ (mn (l0.length : Int) 2000) then (if (mn (l0.length : Int) 2000) ≤ (l0.length : Int) then (some (l0.take ((mn (l0.length : Int) 2000) : Int).toNat,0)) else (none)) else (none)
set_option maxHeartbeats 8000000 in
set_option maxRecDepth 100000 in
theorem shapesearchkeep_New.calls (A0 : Option Addr) (c0 : Nat) (l0 : List Int) (r1 : List Int) (r2 : Int) (w0 w : World) (hB : Below w0.heap.size w0 w) (hr0 : Kd.C (Kd.int .i64) w0 A0 l0.length l0) (hc0 : l0.length ≤ c0) (h : shapesearchkeep_New.f l0 = some (r1,r2)) :
  Calls Try.prog 10 #[.slice A0 l0.length c0] w fun e w'=>∃ g_ : Nat,e = .returned (.pointer (some ⟨g_,0,none⟩))∧IsS56 w0 w' g_ r1 r2∧Below w0.heap.size w0 w'∧Below w.heap.size w w':=by
 have hu56:=Try.underlying56
 have HR0:=A_ hr0
 have HC0:=A_ hc0
 clear hr0 hc0
 have HBW:=A_ (Below.refl w.heap.size w)
 have HW0:=A_ hB.size
 have HB:=A_ hB
 clear hB
 have H : (if 0 ≤ (mn (l0.length : Int) 2000) then (if (mn (l0.length : Int) 2000) ≤ (l0.length : Int) then (some (l0.take ((mn (l0.length : Int) 2000) : Int).toNat,0)) else (none)) else (none)) = some (r1,r2):=h
 clear h
 obtain ⟨ji2,hji2⟩ : ∃ j_ : Int,(mn (l0.length : Int) 2000) = j_:=⟨_,rfl⟩
 replace H : (if 0 ≤ (ji2) then (if (ji2) ≤ (l0.length : Int) then (some (l0.take ((ji2) : Int).toNat,0)) else (none)) else (none)) = some (r1,r2):=by first|(rw [hji2] at H;exact H)|(simp only [hji2] at H ⊢;exact H)
 (try (have hji2h : ji2 ≤ 2000:=by (rw [← hji2];unfold mn;(repeat' split) <;> omega)))
 (try (have hji2g : ji2 ≤ 64:=by omega))
 (try (have hji2l : 0 ≤ ji2:=by (rw [← hji2];unfold mn;(repeat' split) <;> omega)))
 (try (have hji2m : 0 ≤ ji2:=by omega))
 have hji2_ : (if 2000 < (l0.length : Int) then 2000 else (l0.length : Int)) = ji2:=hji2
 by_cases c3 : 0 ≤ (ji2)
 ·
  rw [if_pos c3] at H
  have c3b0:=eq_true c3
  have c3b1 : decide (0 ≤ (ji2)) = true:=decide_eq_true c3
  clear c3
  by_cases c4 : (ji2) ≤ (l0.length : Int)
  ·
   rw [if_pos c4] at H
   have c4b0:=eq_true c4
   have c4b1 : decide ((ji2) ≤ (l0.length : Int)) = true:=decide_eq_true c4
   clear c4
   simp only [Option.some.injEq,Prod.mk.injEq] at H
   obtain ⟨rfl,rfl⟩:=H
   obtain ⟨i05,hi05,_,hsz5,_⟩:=info_parts info3
   obtain ⟨hcut5,hA5,hC5⟩:=print_take_of (P:=Try.prog) (Value.int .i64) 0 22 3 .i64 Try.underlying22 hi05 hsz5 A0 c0 l0 (ji2) (of_decide_eq_true (by first|(with_reducible assumption)|assumption)) (of_decide_eq_true (by first|(with_reducible assumption)|assumption)) HC0.out
   have HR227:=A_ (Kd.C_of_reads (h1:=fun _=>rfl) (hA5 _ (Kd.reads_of_C HR0.out)))
   have HC227:=A_ hC5
   clear hA5 hC5 hi05 hsz5
   go_enter Try.func10,Try.ntmps10
   go_wp2_with (first|((with_reducible refine gate_dst (N:=9) rfl ?_);refine box_event ?hg (N:=9) ?hd (cs:=#[.slice A0 (l0.take ((ji2) : Int).toNat).length c0,.int .i64 0]) (t:=56) ?hr ?_;(case hd=>rfl);(case hg=>rfl);(case hr=>first|(go_simp;done)|(go_simp;rfl));intro gb228 hg w6 hbox hb;have n0_:=A_ (below_step HBW.out hb);have n1_:=A_ (below_step (by repeat (first|(with_reducible first|exact HB.out|apply ba|apply bb|apply bc)|exact HB.out)) hb);have n2_:=A_ (hbox);have n3_:=A_ ((by rw [hg];exact (below_size (by repeat (first|(with_reducible first|exact HBW.out|apply ba|apply bb|apply bc)|exact HBW.out))) : w.heap.size ≤ gb228));have n4_:=A_ ((Nat.le_trans HW0.out (by rw [hg];exact (below_size (by repeat (first|(with_reducible first|exact HBW.out|apply ba|apply bb|apply bc)|exact HBW.out))) : w.heap.size ≤ gb228) : w0.heap.size ≤ gb228));clear HBW;clear HB;have HBW:=n0_;have HB:=n1_;have BK228:=n2_;have GW228:=n3_;have GE228:=n4_;clear n0_ n1_ n2_ n3_ n4_;clear hb hbox hg))
   go_ret
   exact ⟨_,rfl,(show IsS56 w0 _ gb228 (l0.take ((ji2) : Int).toNat) 0 from ⟨_,_,by (with_reducible repeat (first|refine blk_drewN ?_ _|refine blk_drew ?_|refine blk_alloc ?_ _));exact BK228.out,GE228.out,HR227.out⟩),by repeat (first|(with_reducible first|exact HB.out|apply ba|apply bb|apply bc|refine below_set ?_ GE228.out)|exact HB.out),by repeat (first|(with_reducible first|exact HBW.out|apply ba|apply bb|apply bc|refine below_set ?_ GW228.out)|exact HBW.out)⟩
  ·
   rw [if_neg c4] at H
   exact absurd H (by simp)
 ·
  rw [if_neg c3] at H
  exact absurd H (by simp)

/-! ### channels_count: function 54 -/
def channels_count.f (l0 : List (List Int)) : Option (Bool):=if (l0.length : Int) ≥ 1 then (some (decide ((l0.length : Int) ≤ 4))) else (some false)
set_option maxHeartbeats 8000000 in
set_option maxRecDepth 100000 in
theorem channels_count.calls (A0 : Option Addr) (c0 : Nat) (l0 : List (List Int)) (r : Bool) (w : World) (hr0 : Kd.C (Kd.slice 3 (Kd.int .i64)) w A0 l0.length l0) (hc0 : l0.length ≤ c0) (h : channels_count.f l0 = some r) :
  Calls Try.prog 54 #[.slice A0 l0.length c0] w fun e w'=>e = .returned (.bool r)∧Drawn0 w w':=by
 have HR0:=A_ hr0
 have HC0:=A_ hc0
 clear hr0 hc0
 have H : (if (l0.length : Int) ≥ 1 then (some (decide ((l0.length : Int) ≤ 4))) else (some false)) = some r:=h
 clear h
 by_cases c2 : (l0.length : Int) ≥ 1
 ·
  rw [if_pos c2] at H
  have c2b0 : decide (1 ≤ (l0.length : Int)) = true:=decide_eq_true c2
  have c2b1 : decide (1 ≤ l0.length) = true:=decide_eq_true (by omega)
  clear c2
  obtain rfl:=Option.some.inj H
  go_enter Try.func54,Try.ntmps54
  go_wp2
  go_ret
  exact ⟨by first|rfl|(simp;done)|(simp [*];done),by repeat (first|exact Drawn0.refl _|apply Drawn0.step)⟩
 ·
  rw [if_neg c2] at H
  have c2b0 : decide (1 ≤ (l0.length : Int)) = false:=decide_eq_false c2
  have c2b1 : decide (1 ≤ l0.length) = false:=decide_eq_false (by omega)
  clear c2
  obtain rfl:=Option.some.inj H
  go_enter Try.func54,Try.ntmps54
  go_wp2
  go_ret
  exact ⟨by first|rfl|(simp;done)|(simp [*];done),by repeat (first|exact Drawn0.refl _|apply Drawn0.step)⟩

/-! ### euclid_length: function 76 -/
def euclid_length.f (l0 : List Int) : Option (Bool):=if (l0.length : Int) ≥ 2 then (some (decide ((l0.length : Int) ≤ 32))) else (some false)
set_option maxHeartbeats 8000000 in
set_option maxRecDepth 100000 in
theorem euclid_length.calls (A0 : Option Addr) (c0 : Nat) (l0 : List Int) (r : Bool) (w : World) (hr0 : Kd.C (Kd.int .i64) w A0 l0.length l0) (hc0 : l0.length ≤ c0) (h : euclid_length.f l0 = some r) :
  Calls Try.prog 76 #[.slice A0 l0.length c0] w fun e w'=>e = .returned (.bool r)∧Drawn0 w w':=by
 have HR0:=A_ hr0
 have HC0:=A_ hc0
 clear hr0 hc0
 have H : (if (l0.length : Int) ≥ 2 then (some (decide ((l0.length : Int) ≤ 32))) else (some false)) = some r:=h
 clear h
 by_cases c2 : (l0.length : Int) ≥ 2
 ·
  rw [if_pos c2] at H
  have c2b0 : decide (2 ≤ (l0.length : Int)) = true:=decide_eq_true c2
  have c2b1 : decide (2 ≤ l0.length) = true:=decide_eq_true (by omega)
  clear c2
  obtain rfl:=Option.some.inj H
  go_enter Try.func76,Try.ntmps76
  go_wp2
  go_ret
  exact ⟨by first|rfl|(simp;done)|(simp [*];done),by repeat (first|exact Drawn0.refl _|apply Drawn0.step)⟩
 ·
  rw [if_neg c2] at H
  have c2b0 : decide (2 ≤ (l0.length : Int)) = false:=decide_eq_false c2
  have c2b1 : decide (2 ≤ l0.length) = false:=decide_eq_false (by omega)
  clear c2
  obtain rfl:=Option.some.inj H
  go_enter Try.func76,Try.ntmps76
  go_wp2
  go_ret
  exact ⟨by first|rfl|(simp;done)|(simp [*];done),by repeat (first|exact Drawn0.refl _|apply Drawn0.step)⟩

/-! ### euclid_samples: function 77 -/
def euclid_samples.l0 : Nat → List Int → Int → Int → Option (Bool)
 | 0,_,_,_=>none
 | k + 1,x5,x6,x7=>if x7 < x6 then (if 0 ≤ x7 then (if x7 < (x5.length : Int) then (if (rd x5 x7) < (-1000) then (some false) else (if (rd x5 x7) > 1000 then (some false) else (euclid_samples.l0 k x5 x6 (wrap64 (x7 + 1))))) else (none)) else (none)) else (some true)
def euclid_samples.f (k : Nat) (l0 : List Int) : Option (Bool):=euclid_samples.l0 k l0 (l0.length : Int) 0
theorem euclid_samples.mono_l : ∀ k,(∀ y0 y1 y2,LeO (euclid_samples.l0 k y0 y1 y2) (euclid_samples.l0 (k + 1) y0 y1 y2))
 | 0=>fun _ _ _ r h=>by simp [euclid_samples.l0] at h
 | k + 1=>by
  have ih0:=euclid_samples.mono_l k
  ·
   intro y0 y1 y2
   unfold euclid_samples.l0
   repeat' first
   | (with_reducible exact ih0 _ _ _)
   | (with_reducible exact LeO.refl _)
   | (with_reducible exact LeO.none _)
   | (with_reducible refine LeO.ite ?_ ?_)
   | (with_reducible refine LeO.bind ?_ (fun _=>?_))
   | exact ih0 _ _ _
   | exact LeO.none _
   | refine LeO.ite ?_ ?_
   | refine LeO.bind ?_ (fun _=>?_)
theorem euclid_samples.mono : ∀ a0 k,LeO (euclid_samples.f k a0) (euclid_samples.f (k + 1) a0):=by
 intro a0 k
 have ih0:=euclid_samples.mono_l k
 unfold euclid_samples.f
 repeat' first
   | (with_reducible exact ih0 _ _ _)
   | (with_reducible exact LeO.refl _)
   | (with_reducible exact LeO.none _)
   | (with_reducible refine LeO.ite ?_ ?_)
   | (with_reducible refine LeO.bind ?_ (fun _=>?_))
   | exact ih0 _ _ _
   | exact LeO.none _
   | refine LeO.ite ?_ ?_
   | refine LeO.bind ?_ (fun _=>?_)
set_option maxHeartbeats 8000000 in
set_option maxRecDepth 100000 in
theorem euclid_samples.calls (k : Nat) (A0 : Option Addr) (c0 : Nat) (l0 : List Int) (r : Bool) (w : World) (hr0 : Kd.C (Kd.int .i64) w A0 l0.length l0) (hc0 : l0.length ≤ c0) (h : euclid_samples.f k l0 = some r) :
  Calls Try.prog 77 #[.slice A0 l0.length c0] w fun e w'=>e = .returned (.bool r)∧Drawn0 w w':=by
 have HR0:=A_ hr0
 have HC0:=A_ hc0
 clear hr0 hc0
 have H : (euclid_samples.l0 k l0 (l0.length : Int) 0) = some r:=h
 clear h
 have H':=A_ H
 clear H
 go_enter Try.func77,Try.ntmps77
 go_wp2
 go_loopg [7] k (fun kq v7 w'=>∃ (x7_1 : Int),v7 = .int .i64 x7_1∧Aside0 (euclid_samples.l0 kq l0 (l0.length : Int) x7_1 = some r)∧Aside0 (kq ≤ k)∧Drawn0 w w')
 case atStart=>exact ⟨(0),(by first|rfl|(simp;done)|(simp [*];done)),H',⟨Nat.le_refl _⟩,by repeat (first|exact Drawn0.refl _|apply Drawn0.step)⟩
 case round =>
  clear H'
  obtain ⟨x7_1,rfl,HA,HK1,⟨m1,rfl⟩⟩:=hrel
  cases gk with
  | zero=>exact absurd HA.out (by simp [euclid_samples.l0])
  | succ k1 =>
   have H:=HA.out
   clear HA
   simp only [euclid_samples.l0] at H
   by_cases c2 : x7_1 < (l0.length : Int)
   ·
    rw [if_pos c2] at H
    have c2b0 : decide (x7_1 < (l0.length : Int)) = true:=decide_eq_true c2
    clear c2
    by_cases c3 : 0 ≤ x7_1
    ·
     rw [if_pos c3] at H
     have c3b0 : decide (0 ≤ x7_1) = true:=decide_eq_true c3
     clear c3
     by_cases c4 : x7_1 < (l0.length : Int)
     ·
      rw [if_pos c4] at H
      have c4b0 : decide (x7_1 < (l0.length : Int)) = true:=decide_eq_true c4
      clear c4
      by_cases c5 : (rd l0 x7_1) < (-1000)
      ·
       rw [if_pos c5] at H
       have c5b0 : decide ((rd l0 x7_1) < (-1000)) = true:=decide_eq_true c5
       clear c5
       obtain rfl:=Option.some.inj H
       have p229 : 0 ≤ (x7_1 : Int):=of_decide_eq_true (by first|(with_reducible assumption)|assumption)
       have q229 : x7_1 < (l0.length : Int):=of_decide_eq_true (by first|(with_reducible assumption)|assumption)
       obtain ⟨ad229,e229,hx229_0⟩:=Kd.at_int HR0.out x7_1 p229 q229
       cases e229
       replace p229:=eq_true p229
       replace q229:=eq_true q229
       go_wp2
       go_ret
       exact ⟨by first|rfl|(simp;done)|(simp [*];done),by repeat (first|exact Drawn0.refl _|apply Drawn0.step)⟩
      ·
       rw [if_neg c5] at H
       have c5b0 : decide ((rd l0 x7_1) < (-1000)) = false:=decide_eq_false c5
       clear c5
       by_cases c6 : (rd l0 x7_1) > 1000
       ·
        rw [if_pos c6] at H
        have c6b0 : decide (1000 < (rd l0 x7_1)) = true:=decide_eq_true c6
        clear c6
        obtain rfl:=Option.some.inj H
        have p229 : 0 ≤ (x7_1 : Int):=of_decide_eq_true (by first|(with_reducible assumption)|assumption)
        have q229 : x7_1 < (l0.length : Int):=of_decide_eq_true (by first|(with_reducible assumption)|assumption)
        obtain ⟨ad229,e229,hx229_0⟩:=Kd.at_int HR0.out x7_1 p229 q229
        cases e229
        replace p229:=eq_true p229
        replace q229:=eq_true q229
        go_wp2
        go_ret
        exact ⟨by first|rfl|(simp;done)|(simp [*];done),by repeat (first|exact Drawn0.refl _|apply Drawn0.step)⟩
       ·
        rw [if_neg c6] at H
        have c6b0 : decide (1000 < (rd l0 x7_1)) = false:=decide_eq_false c6
        clear c6
        have H':=A_ H
        clear H
        have p229 : 0 ≤ (x7_1 : Int):=of_decide_eq_true (by first|(with_reducible assumption)|assumption)
        have q229 : x7_1 < (l0.length : Int):=of_decide_eq_true (by first|(with_reducible assumption)|assumption)
        obtain ⟨ad229,e229,hx229_0⟩:=Kd.at_int HR0.out x7_1 p229 q229
        cases e229
        replace p229:=eq_true p229
        replace q229:=eq_true q229
        go_wp2
        go_roundg k1
        case measure=>have:=HK1.out;omega
        case rel=>exact ⟨(wrap64 (x7_1 + 1)),(by first|rfl|(simp;done)|(simp [*];done)),H',⟨by have:=HK1.out;omega⟩,by repeat (first|exact Drawn0.refl _|apply Drawn0.step)⟩
     ·
      rw [if_neg c4] at H
      exact absurd H (by simp)
    ·
     rw [if_neg c3] at H
     exact absurd H (by simp)
   ·
    rw [if_neg c2] at H
    have c2b0 : decide (x7_1 < (l0.length : Int)) = false:=decide_eq_false c2
    clear c2
    obtain rfl:=Option.some.inj H
    go_wp2
    go_ret
    exact ⟨by first|rfl|(simp;done)|(simp [*];done),by repeat (first|exact Drawn0.refl _|apply Drawn0.step)⟩

/-! ### euclid_check: function 68 -/
mutual
def euclid_check.j0 : Nat → List Int → List Int → Bool → Option (Int)
 | 0,_,_,_=>none
 | k + 1,x0,x1,x5=>if x5 = true then (some 8) else ((euclid_samples.f k x0).bind fun t232=>(if t232 = true then ((euclid_samples.f k x1).bind fun t233=>(euclid_check.j1 k x0 x1 (!t233))) else (euclid_check.j1 k x0 x1 true)))
def euclid_check.j1 : Nat → List Int → List Int → Bool → Option (Int)
 | 0,_,_,_=>none
 | k + 1,x0,x1,x14=>if x14 = true then (some 12) else (if (x0.length : Int) = (x1.length : Int) then (some 0) else (some 8))
end
def euclid_check.f (k : Nat) (l0 : List Int) (l1 : List Int) : Option (Int):=(euclid_length.f l0).bind fun t230=>(if t230 = true then ((euclid_length.f l1).bind fun t231=>(euclid_check.j0 k l0 l1 (!t231))) else (euclid_check.j0 k l0 l1 true))
theorem euclid_check.mono_l : ∀ k,(∀ y0 y1 y2,LeO (euclid_check.j0 k y0 y1 y2) (euclid_check.j0 (k + 1) y0 y1 y2))∧(∀ y0 y1 y2,LeO (euclid_check.j1 k y0 y1 y2) (euclid_check.j1 (k + 1) y0 y1 y2))
 | 0=>⟨fun _ _ _ r h=>by simp [euclid_check.j0] at h,fun _ _ _ r h=>by simp [euclid_check.j1] at h⟩
 | k + 1=>by
  obtain ⟨ih0,ih1⟩:=euclid_check.mono_l k
  refine ⟨?_,?_⟩
  ·
   intro y0 y1 y2
   unfold euclid_check.j0
   repeat' first
   | (with_reducible exact ih0 _ _ _)
   | (with_reducible exact ih1 _ _ _)
   | (with_reducible exact euclid_samples.mono _ _)
   | (with_reducible exact LeO.refl _)
   | (with_reducible exact LeO.none _)
   | (with_reducible refine LeO.ite ?_ ?_)
   | (with_reducible refine LeO.bind ?_ (fun _=>?_))
   | exact ih0 _ _ _
   | exact ih1 _ _ _
   | exact euclid_samples.mono _ _
   | exact LeO.none _
   | refine LeO.ite ?_ ?_
   | refine LeO.bind ?_ (fun _=>?_)
  ·
   intro y0 y1 y2
   unfold euclid_check.j1
   repeat' first
   | (with_reducible exact ih0 _ _ _)
   | (with_reducible exact ih1 _ _ _)
   | (with_reducible exact euclid_samples.mono _ _)
   | (with_reducible exact LeO.refl _)
   | (with_reducible exact LeO.none _)
   | (with_reducible refine LeO.ite ?_ ?_)
   | (with_reducible refine LeO.bind ?_ (fun _=>?_))
   | exact ih0 _ _ _
   | exact ih1 _ _ _
   | exact euclid_samples.mono _ _
   | exact LeO.none _
   | refine LeO.ite ?_ ?_
   | refine LeO.bind ?_ (fun _=>?_)
theorem euclid_check.mono : ∀ a0 a1 k,LeO (euclid_check.f k a0 a1) (euclid_check.f (k + 1) a0 a1):=by
 intro a0 a1 k
 obtain ⟨ih0,ih1⟩:=euclid_check.mono_l k
 unfold euclid_check.f
 repeat' first
   | (with_reducible exact ih0 _ _ _)
   | (with_reducible exact ih1 _ _ _)
   | (with_reducible exact euclid_samples.mono _ _)
   | (with_reducible exact LeO.refl _)
   | (with_reducible exact LeO.none _)
   | (with_reducible refine LeO.ite ?_ ?_)
   | (with_reducible refine LeO.bind ?_ (fun _=>?_))
   | exact ih0 _ _ _
   | exact ih1 _ _ _
   | exact euclid_samples.mono _ _
   | exact LeO.none _
   | refine LeO.ite ?_ ?_
   | refine LeO.bind ?_ (fun _=>?_)
set_option maxHeartbeats 8000000 in
set_option maxRecDepth 100000 in
theorem euclid_check.calls (k : Nat) (A0 : Option Addr) (c0 : Nat) (l0 : List Int) (A1 : Option Addr) (c1 : Nat) (l1 : List Int) (r : Int) (w : World) (hr0 : Kd.C (Kd.int .i64) w A0 l0.length l0) (hc0 : l0.length ≤ c0) (hr1 : Kd.C (Kd.int .i64) w A1 l1.length l1) (hc1 : l1.length ≤ c1) (h : euclid_check.f k l0 l1 = some r) :
  Calls Try.prog 68 #[.slice A0 l0.length c0,.slice A1 l1.length c1] w fun e w'=>e = .returned (.int .i64 r)∧Drawn0 w w':=by
 have HR0:=A_ hr0
 have HC0:=A_ hc0
 clear hr0 hc0
 have HR1:=A_ hr1
 have HC1:=A_ hc1
 clear hr1 hc1
 have H : ((euclid_length.f l0).bind fun t230=>(if t230 = true then ((euclid_length.f l1).bind fun t231=>(euclid_check.j0 k l0 l1 (!t231))) else (euclid_check.j0 k l0 l1 true))) = some r:=h
 clear h
 have HC3:=A_ H
 clear H
 go_enter Try.func68,Try.ntmps68
 go_upto_region 1 with (fail)
 go_cut [5] (fun v5 wc=>∃ (kq : Nat) (x5_2 : Bool),v5 = .bool x5_2∧Aside0 (euclid_check.j0 kq l0 l1 x5_2 = some r)∧Aside0 (kq ≤ k)∧Drawn0 w wc)
 case first =>
  have H:=HC3.out
  clear HC3
  replace H:=Option.bind_eq_some_iff.mp H
  obtain ⟨t230,A40,H⟩:=H
  replace H : (if t230 = true then ((euclid_length.f l1).bind fun t231=>(euclid_check.j0 k l0 l1 (!t231))) else (euclid_check.j0 k l0 l1 true)) = some r:=H
  have A4:=A_ A40
  clear A40
  by_cases c5 : t230 = true
  ·
   subst c5
   have H1 : ((euclid_length.f l1).bind fun t231=>(euclid_check.j0 k l0 l1 (!t231))) = some r:=by rw [if_pos rfl] at H;exact H
   clear H
   have H:=H1
   clear H1
   replace H:=Option.bind_eq_some_iff.mp H
   obtain ⟨t231,A60,H⟩:=H
   replace H : (euclid_check.j0 k l0 l1 (!t231)) = some r:=H
   have A6:=A_ A60
   clear A60
   have H':=A_ H
   clear H
   go_wp2_with (first|((with_reducible refine gate_callee (f:=76) rfl ?_);refine goesL_ (some 7) rfl rfl Try.func76 (by kernel_rfl) rfl #[.slice A0 l0.length c0] rfl (by (try simp only [List.map_toArray,List.map_cons,List.map_nil]);first|done|rfl|(simp only [List.length_drop,List.length_take];rfl)) ?_;(with_reducible refine (euclid_length.calls _ _ l0 true _ ?side1 ?side2 A4.out).mono ?_);(case side1=>repeat (first|exact HR0.out|(with_reducible refine ca ?_ _)|(with_reducible refine cb ?_ _)|(with_reducible refine cc ?_)));(case side2=>exact HC0.out);rintro e w' ⟨rfl,⟨nd,rfl⟩⟩;refine ⟨_,rfl,?_⟩)|(go_at_call 76;(with_reducible refine (euclid_length.calls _ _ l1 t231 _ ?side1 ?side2 A6.out).mono ?_);(case side1=>repeat (first|exact HR1.out|(with_reducible refine ca ?_ _)|(with_reducible refine cb ?_ _)|(with_reducible refine cc ?_)));(case side2=>exact HC1.out);rintro e w' ⟨rfl,⟨nd,rfl⟩⟩))
   go_meet
   case rel=>exact ⟨_,(!t231),(by first|rfl|(simp;done)|(simp [*];done)),H',⟨by first|omega|exact Nat.le_refl _⟩,by repeat (first|exact Drawn0.refl _|apply Drawn0.step)⟩
  ·
   replace c5:=Bool.eq_false_iff.mpr c5
   subst c5
   have H1 : (euclid_check.j0 k l0 l1 true) = some r:=by rw [if_neg (show ¬ (false = true) by decide)] at H;exact H
   clear H
   have H:=H1
   clear H1
   have H':=A_ H
   clear H
   go_wp2_with (first|((with_reducible refine gate_callee (f:=76) rfl ?_);refine goesL_ (some 7) rfl rfl Try.func76 (by kernel_rfl) rfl #[.slice A0 l0.length c0] rfl (by (try simp only [List.map_toArray,List.map_cons,List.map_nil]);first|done|rfl|(simp only [List.length_drop,List.length_take];rfl)) ?_;(with_reducible refine (euclid_length.calls _ _ l0 false _ ?side1 ?side2 A4.out).mono ?_);(case side1=>repeat (first|exact HR0.out|(with_reducible refine ca ?_ _)|(with_reducible refine cb ?_ _)|(with_reducible refine cc ?_)));(case side2=>exact HC0.out);rintro e w' ⟨rfl,⟨nd,rfl⟩⟩;refine ⟨_,rfl,?_⟩))
   go_meet
   case rel=>exact ⟨_,(true),(by first|rfl|(simp;done)|(simp [*];done)),H',⟨by first|omega|exact Nat.le_refl _⟩,by repeat (first|exact Drawn0.refl _|apply Drawn0.step)⟩
 case rest =>
  clear HC3
  try clear c1
  try clear p2
  try clear c5
  try clear c6
  obtain ⟨kq,x5_2,rfl,HA,HJ2,⟨mc2,rfl⟩⟩:=hcut
  cases kq with
  | zero=>exact absurd HA.out (by simp [euclid_check.j0])
  | succ kj2 =>
   have H:=HA.out
   clear HA
   simp only [euclid_check.j0] at H
   by_cases c7 : x5_2 = true
   ·
    subst c7
    have H1 : (some 8) = some r:=by rw [if_pos rfl] at H;exact H
    clear H
    have H:=H1
    clear H1
    obtain rfl:=Option.some.inj H
    go_wp2
    go_ret
    exact ⟨by first|rfl|(simp;done)|(simp [*];done),by repeat (first|exact Drawn0.refl _|apply Drawn0.step)⟩
   ·
    replace c7:=Bool.eq_false_iff.mpr c7
    subst c7
    have H1 : ((euclid_samples.f kj2 l0).bind fun t232=>(if t232 = true then ((euclid_samples.f kj2 l1).bind fun t233=>(euclid_check.j1 kj2 l0 l1 (!t233))) else (euclid_check.j1 kj2 l0 l1 true))) = some r:=by rw [if_neg (show ¬ (false = true) by decide)] at H;exact H
    clear H
    have H:=H1
    clear H1
    have HC8:=A_ H
    clear H
    go_upto_region 3 with (fail)
    go_cut [14] (fun v14 wc=>∃ (kq : Nat) (x14_7 : Bool),v14 = .bool x14_7∧Aside0 (euclid_check.j1 kq l0 l1 x14_7 = some r)∧Aside0 (kq ≤ kj2)∧Drawn0 w wc)
    case first =>
     have H:=HC8.out
     clear HC8
     replace H:=Option.bind_eq_some_iff.mp H
     obtain ⟨t232,A90,H⟩:=H
     replace H : (if t232 = true then ((euclid_samples.f kj2 l1).bind fun t233=>(euclid_check.j1 kj2 l0 l1 (!t233))) else (euclid_check.j1 kj2 l0 l1 true)) = some r:=H
     have A9:=A_ A90
     clear A90
     by_cases c10 : t232 = true
     ·
      subst c10
      have H1 : ((euclid_samples.f kj2 l1).bind fun t233=>(euclid_check.j1 kj2 l0 l1 (!t233))) = some r:=by rw [if_pos rfl] at H;exact H
      clear H
      have H:=H1
      clear H1
      replace H:=Option.bind_eq_some_iff.mp H
      obtain ⟨t233,A110,H⟩:=H
      replace H : (euclid_check.j1 kj2 l0 l1 (!t233)) = some r:=H
      have A11:=A_ A110
      clear A110
      have H':=A_ H
      clear H
      go_wp2_with (first|((with_reducible refine gate_callee (f:=77) rfl ?_);refine goesL_ (some 16) rfl rfl Try.func77 (by kernel_rfl) rfl #[.slice A0 l0.length c0] rfl (by (try simp only [List.map_toArray,List.map_cons,List.map_nil]);first|done|rfl|(simp only [List.length_drop,List.length_take];rfl)) ?_;(with_reducible refine (euclid_samples.calls kj2 _ _ l0 true _ ?side1 ?side2 A9.out).mono ?_);(case side1=>repeat (first|exact HR0.out|(with_reducible refine ca ?_ _)|(with_reducible refine cb ?_ _)|(with_reducible refine cc ?_)));(case side2=>exact HC0.out);rintro e w' ⟨rfl,⟨nd,rfl⟩⟩;refine ⟨_,rfl,?_⟩)|(go_at_call 77;(with_reducible refine (euclid_samples.calls kj2 _ _ l1 t233 _ ?side1 ?side2 A11.out).mono ?_);(case side1=>repeat (first|exact HR1.out|(with_reducible refine ca ?_ _)|(with_reducible refine cb ?_ _)|(with_reducible refine cc ?_)));(case side2=>exact HC1.out);rintro e w' ⟨rfl,⟨nd,rfl⟩⟩))
      go_meet
      case rel=>exact ⟨_,(!t233),(by first|rfl|(simp;done)|(simp [*];done)),H',⟨by have:=HJ2.out;first|omega|exact Nat.le_refl _⟩,by repeat (first|exact Drawn0.refl _|apply Drawn0.step)⟩
     ·
      replace c10:=Bool.eq_false_iff.mpr c10
      subst c10
      have H1 : (euclid_check.j1 kj2 l0 l1 true) = some r:=by rw [if_neg (show ¬ (false = true) by decide)] at H;exact H
      clear H
      have H:=H1
      clear H1
      have H':=A_ H
      clear H
      go_wp2_with (first|((with_reducible refine gate_callee (f:=77) rfl ?_);refine goesL_ (some 16) rfl rfl Try.func77 (by kernel_rfl) rfl #[.slice A0 l0.length c0] rfl (by (try simp only [List.map_toArray,List.map_cons,List.map_nil]);first|done|rfl|(simp only [List.length_drop,List.length_take];rfl)) ?_;(with_reducible refine (euclid_samples.calls kj2 _ _ l0 false _ ?side1 ?side2 A9.out).mono ?_);(case side1=>repeat (first|exact HR0.out|(with_reducible refine ca ?_ _)|(with_reducible refine cb ?_ _)|(with_reducible refine cc ?_)));(case side2=>exact HC0.out);rintro e w' ⟨rfl,⟨nd,rfl⟩⟩;refine ⟨_,rfl,?_⟩))
      go_meet
      case rel=>exact ⟨_,(true),(by first|rfl|(simp;done)|(simp [*];done)),H',⟨by have:=HJ2.out;first|omega|exact Nat.le_refl _⟩,by repeat (first|exact Drawn0.refl _|apply Drawn0.step)⟩
    case rest =>
     clear HC8
     try clear c1
     try clear c2
     try clear p2
     try clear c5
     try clear c6
     try clear c7
     try clear c10
     try clear p2
     obtain ⟨kq,x14_7,rfl,HA,HJ7,⟨mc7,rfl⟩⟩:=hcut
     cases kq with
     | zero=>exact absurd HA.out (by simp [euclid_check.j1])
     | succ kj7 =>
      have H:=HA.out
      clear HA
      simp only [euclid_check.j1] at H
      by_cases c12 : x14_7 = true
      ·
       subst c12
       have H1 : (some 12) = some r:=by rw [if_pos rfl] at H;exact H
       clear H
       have H:=H1
       clear H1
       obtain rfl:=Option.some.inj H
       go_wp2
       go_ret
       exact ⟨by first|rfl|(simp;done)|(simp [*];done),by repeat (first|exact Drawn0.refl _|apply Drawn0.step)⟩
      ·
       replace c12:=Bool.eq_false_iff.mpr c12
       subst c12
       have H1 : (if (l0.length : Int) = (l1.length : Int) then (some 0) else (some 8)) = some r:=by rw [if_neg (show ¬ (false = true) by decide)] at H;exact H
       clear H
       have H:=H1
       clear H1
       by_cases c13 : (l0.length : Int) = (l1.length : Int)
       ·
        rw [if_pos c13] at H
        have c13b0 : ((l0.length : Int) == (l1.length : Int)) = true:=beq_iff_eq.mpr c13
        have c13b1 : ((l0.length : Int) != (l1.length : Int)) = false:=bne_eq_false_iff_eq.mpr c13
        have c13b2 : (l0.length == l1.length) = true:=by first|simpa using c13|(simp at c13 ⊢;omega)
        clear c13
        obtain rfl:=Option.some.inj H
        go_wp2
        go_ret
        exact ⟨by first|rfl|(simp;done)|(simp [*];done),by repeat (first|exact Drawn0.refl _|apply Drawn0.step)⟩
       ·
        rw [if_neg c13] at H
        have c13b0 : ((l0.length : Int) == (l1.length : Int)) = false:=beq_eq_false_iff_ne.mpr c13
        have c13b1 : ((l0.length : Int) != (l1.length : Int)) = true:=bne_iff_ne.mpr c13
        have c13b2 : (l0.length == l1.length) = false:=by first|simpa using c13|(simp at c13 ⊢;omega)
        obtain rfl:=Option.some.inj H
        go_wp2
        go_ret
        exact ⟨by first|rfl|(simp;done)|(simp [*];done),by repeat (first|exact Drawn0.refl _|apply Drawn0.step)⟩

/-! ### euclid_square: function 69 -/
def euclid_square.l0 : Nat → List Int → Int → List Int → Int → Int → Option (Int)
 | 0,_,_,_,_,_=>none
 | k + 1,x1,x5,x8,x9,x10=>if x10 < x9 then (if 0 ≤ x10 then (if x10 < (x8.length : Int) then (if x10 < (x1.length : Int) then (euclid_square.l0 k x1 (wrap64 (x5 + (wrap64 ((wrap64 ((rd x8 x10) - (rd x1 x10))) * (wrap64 ((rd x8 x10) - (rd x1 x10))))))) x8 x9 (wrap64 (x10 + 1))) else (none)) else (none)) else (none)) else (some x5)
def euclid_square.f (k : Nat) (l0 : List Int) (l1 : List Int) : Option (Int):=euclid_square.l0 k l1 0 l0 (l0.length : Int) 0
theorem euclid_square.mono_l : ∀ k,(∀ y0 y1 y2 y3 y4,LeO (euclid_square.l0 k y0 y1 y2 y3 y4) (euclid_square.l0 (k + 1) y0 y1 y2 y3 y4))
 | 0=>fun _ _ _ _ _ r h=>by simp [euclid_square.l0] at h
 | k + 1=>by
  have ih0:=euclid_square.mono_l k
  ·
   intro y0 y1 y2 y3 y4
   unfold euclid_square.l0
   repeat' first
   | (with_reducible exact ih0 _ _ _ _ _)
   | (with_reducible exact LeO.refl _)
   | (with_reducible exact LeO.none _)
   | (with_reducible refine LeO.ite ?_ ?_)
   | (with_reducible refine LeO.bind ?_ (fun _=>?_))
   | exact ih0 _ _ _ _ _
   | exact LeO.none _
   | refine LeO.ite ?_ ?_
   | refine LeO.bind ?_ (fun _=>?_)
theorem euclid_square.mono : ∀ a0 a1 k,LeO (euclid_square.f k a0 a1) (euclid_square.f (k + 1) a0 a1):=by
 intro a0 a1 k
 have ih0:=euclid_square.mono_l k
 unfold euclid_square.f
 repeat' first
   | (with_reducible exact ih0 _ _ _ _ _)
   | (with_reducible exact LeO.refl _)
   | (with_reducible exact LeO.none _)
   | (with_reducible refine LeO.ite ?_ ?_)
   | (with_reducible refine LeO.bind ?_ (fun _=>?_))
   | exact ih0 _ _ _ _ _
   | exact LeO.none _
   | refine LeO.ite ?_ ?_
   | refine LeO.bind ?_ (fun _=>?_)
set_option maxHeartbeats 8000000 in
set_option maxRecDepth 100000 in
theorem euclid_square.calls (k : Nat) (A0 : Option Addr) (c0 : Nat) (l0 : List Int) (A1 : Option Addr) (c1 : Nat) (l1 : List Int) (r : Int) (w : World) (hr0 : Kd.C (Kd.int .i64) w A0 l0.length l0) (hc0 : l0.length ≤ c0) (hr1 : Kd.C (Kd.int .i64) w A1 l1.length l1) (hc1 : l1.length ≤ c1) (h : euclid_square.f k l0 l1 = some r) :
  Calls Try.prog 69 #[.slice A0 l0.length c0,.slice A1 l1.length c1] w fun e w'=>e = .returned (.int .i64 r)∧Drawn0 w w':=by
 have HR0:=A_ hr0
 have HC0:=A_ hc0
 clear hr0 hc0
 have HR1:=A_ hr1
 have HC1:=A_ hc1
 clear hr1 hc1
 have H : (euclid_square.l0 k l1 0 l0 (l0.length : Int) 0) = some r:=h
 clear h
 have H':=A_ H
 clear H
 go_enter Try.func69,Try.ntmps69
 go_wp2
 repeat (go_quiet (fail);try go_wp2)
 go_loopg [5,10] k (fun kq v5 v10 w'=>∃ (x5_1 : Int) (x10_1 : Int),v5 = .int .i64 x5_1∧v10 = .int .i64 x10_1∧Aside0 (euclid_square.l0 kq l1 x5_1 l0 (l0.length : Int) x10_1 = some r)∧Aside0 (kq ≤ k)∧Drawn0 w w')
 case atStart=>exact ⟨(0),(0),(by first|rfl|(simp;done)|(simp [*];done)),(by first|rfl|(simp;done)|(simp [*];done)),H',⟨Nat.le_refl _⟩,by repeat (first|exact Drawn0.refl _|apply Drawn0.step)⟩
 case round =>
  clear H'
  try clear c1
  try clear p2
  obtain ⟨x5_1,x10_1,rfl,rfl,HA,HK1,⟨m1,rfl⟩⟩:=hrel
  cases gk with
  | zero=>exact absurd HA.out (by simp [euclid_square.l0])
  | succ k1 =>
   have H:=HA.out
   clear HA
   simp only [euclid_square.l0] at H
   by_cases c3 : x10_1 < (l0.length : Int)
   ·
    rw [if_pos c3] at H
    have c3b0 : decide (x10_1 < (l0.length : Int)) = true:=decide_eq_true c3
    clear c3
    by_cases c4 : 0 ≤ x10_1
    ·
     rw [if_pos c4] at H
     have c4b0 : decide (0 ≤ x10_1) = true:=decide_eq_true c4
     clear c4
     by_cases c5 : x10_1 < (l0.length : Int)
     ·
      rw [if_pos c5] at H
      have c5b0 : decide (x10_1 < (l0.length : Int)) = true:=decide_eq_true c5
      clear c5
      by_cases c6 : x10_1 < (l1.length : Int)
      ·
       rw [if_pos c6] at H
       have c6b0 : decide (x10_1 < (l1.length : Int)) = true:=decide_eq_true c6
       clear c6
       have H':=A_ H
       clear H
       have p234 : 0 ≤ (x10_1 : Int):=of_decide_eq_true (by first|(with_reducible assumption)|assumption)
       have q234 : x10_1 < (l0.length : Int):=of_decide_eq_true (by first|(with_reducible assumption)|assumption)
       obtain ⟨ad234,e234,hx234_0⟩:=Kd.at_int HR0.out x10_1 p234 q234
       cases e234
       replace p234:=eq_true p234
       replace q234:=eq_true q234
       have p235 : 0 ≤ (x10_1 : Int):=of_decide_eq_true (by first|(with_reducible assumption)|assumption)
       have q235 : x10_1 < (l1.length : Int):=of_decide_eq_true (by first|(with_reducible assumption)|assumption)
       obtain ⟨ad235,e235,hx235_0⟩:=Kd.at_int HR1.out x10_1 p235 q235
       cases e235
       replace p235:=eq_true p235
       replace q235:=eq_true q235
       have p236 : 0 ≤ (x10_1 : Int):=of_decide_eq_true (by first|(with_reducible assumption)|assumption)
       have q236 : x10_1 < (l1.length : Int):=of_decide_eq_true (by first|(with_reducible assumption)|assumption)
       obtain ⟨ad236,e236,hx236_0⟩:=Kd.at_int HR1.out x10_1 p236 q236
       obtain rfl : ad235 = ad236:=(by injection e236)
       replace p236:=eq_true p236
       replace q236:=eq_true q236
       go_wp2
       repeat (go_quiet (fail);try go_wp2)
       go_roundg k1
       case measure=>have:=HK1.out;omega
       case rel=>exact ⟨(wrap64 (x5_1 + (wrap64 ((wrap64 ((rd l0 x10_1) - (rd l1 x10_1))) * (wrap64 ((rd l0 x10_1) - (rd l1 x10_1))))))),(wrap64 (x10_1 + 1)),(by first|rfl|(simp;done)|(simp [*];done)),(by first|rfl|(simp;done)|(simp [*];done)),H',⟨by have:=HK1.out;omega⟩,by repeat (first|exact Drawn0.refl _|apply Drawn0.step)⟩
      ·
       rw [if_neg c6] at H
       exact absurd H (by simp)
     ·
      rw [if_neg c5] at H
      exact absurd H (by simp)
    ·
     rw [if_neg c4] at H
     exact absurd H (by simp)
   ·
    rw [if_neg c3] at H
    have c3b0 : decide (x10_1 < (l0.length : Int)) = false:=decide_eq_false c3
    clear c3
    obtain rfl:=Option.some.inj H
    go_wp2
    repeat (go_quiet (fail);try go_wp2)
    go_ret
    exact ⟨by first|rfl|(simp;done)|(simp [*];done),by repeat (first|exact Drawn0.refl _|apply Drawn0.step)⟩

/-! ### euclid_Distance: function 61 -/
def euclid_Distance.f (k : Nat) (l0 : List Int) (l1 : List Int) : Option (Int × Int):=(euclid_check.f k l0 l1).bind fun t237=>(if t237 = 0 then ((euclid_square.f k l0 l1).bind fun t238=>(some (t238,0))) else (some (0,t237)))
theorem euclid_Distance.mono : ∀ a0 a1 k,LeO (euclid_Distance.f k a0 a1) (euclid_Distance.f (k + 1) a0 a1):=by
 intro a0 a1 k
 unfold euclid_Distance.f
 repeat' first
   | (with_reducible exact euclid_check.mono _ _ _)
   | (with_reducible exact euclid_square.mono _ _ _)
   | (with_reducible exact LeO.refl _)
   | (with_reducible exact LeO.none _)
   | (with_reducible refine LeO.ite ?_ ?_)
   | (with_reducible refine LeO.bind ?_ (fun _=>?_))
   | exact euclid_check.mono _ _ _
   | exact euclid_square.mono _ _ _
   | exact LeO.none _
   | refine LeO.ite ?_ ?_
   | refine LeO.bind ?_ (fun _=>?_)
set_option maxHeartbeats 8000000 in
set_option maxRecDepth 100000 in
theorem euclid_Distance.calls (k : Nat) (A0 : Option Addr) (c0 : Nat) (l0 : List Int) (A1 : Option Addr) (c1 : Nat) (l1 : List Int) (r1 : Int) (r2 : Int) (w : World) (hr0 : Kd.C (Kd.int .i64) w A0 l0.length l0) (hc0 : l0.length ≤ c0) (hr1 : Kd.C (Kd.int .i64) w A1 l1.length l1) (hc1 : l1.length ≤ c1) (h : euclid_Distance.f k l0 l1 = some (r1,r2)) :
  Calls Try.prog 61 #[.slice A0 l0.length c0,.slice A1 l1.length c1] w fun e w'=>e = .returned (.tuple #[.int .i64 r1,.int .i64 r2])∧Drawn0 w w':=by
 have HR0:=A_ hr0
 have HC0:=A_ hc0
 clear hr0 hc0
 have HR1:=A_ hr1
 have HC1:=A_ hc1
 clear hr1 hc1
 have H : ((euclid_check.f k l0 l1).bind fun t237=>(if t237 = 0 then ((euclid_square.f k l0 l1).bind fun t238=>(some (t238,0))) else (some (0,t237)))) = some (r1,r2):=h
 clear h
 replace H:=Option.bind_eq_some_iff.mp H
 obtain ⟨t237,A30,H⟩:=H
 replace H : (if t237 = 0 then ((euclid_square.f k l0 l1).bind fun t238=>(some (t238,0))) else (some (0,t237))) = some (r1,r2):=H
 have A3:=A_ A30
 clear A30
 by_cases c4 : t237 = 0
 ·
  rw [if_pos c4] at H
  have c4b0 : (t237 == 0) = true:=beq_iff_eq.mpr c4
  have c4b1 : (t237 != 0) = false:=bne_eq_false_iff_eq.mpr c4
  clear c4
  replace H:=Option.bind_eq_some_iff.mp H
  obtain ⟨t238,A50,H⟩:=H
  replace H : (some (t238,0)) = some (r1,r2):=H
  have A5:=A_ A50
  clear A50
  simp only [Option.some.injEq,Prod.mk.injEq] at H
  obtain ⟨rfl,rfl⟩:=H
  go_enter Try.func61,Try.ntmps61
  go_wp2_with (first|((with_reducible refine gate_callee (f:=68) rfl ?_);refine goesL_ (some 9) rfl rfl Try.func68 (by kernel_rfl) rfl #[.slice A0 l0.length c0,.slice A1 l1.length c1] rfl (by (try simp only [List.map_toArray,List.map_cons,List.map_nil]);first|done|rfl|(simp only [List.length_drop,List.length_take];rfl)) ?_;(with_reducible refine (euclid_check.calls k _ _ l0 _ _ l1 t237 _ ?side1 ?side2 ?side3 ?side4 A3.out).mono ?_);(case side1=>repeat (first|exact HR0.out|(with_reducible refine ca ?_ _)|(with_reducible refine cb ?_ _)|(with_reducible refine cc ?_)));(case side2=>exact HC0.out);(case side3=>repeat (first|exact HR1.out|(with_reducible refine ca ?_ _)|(with_reducible refine cb ?_ _)|(with_reducible refine cc ?_)));(case side4=>exact HC1.out);rintro e w' ⟨rfl,⟨nd,rfl⟩⟩;refine ⟨_,rfl,?_⟩)|((with_reducible refine gate_callee (f:=69) rfl ?_);refine goesL_ (some 15) rfl rfl Try.func69 (by kernel_rfl) rfl #[.slice A0 l0.length c0,.slice A1 l1.length c1] rfl (by (try simp only [List.map_toArray,List.map_cons,List.map_nil]);first|done|rfl|(simp only [List.length_drop,List.length_take];rfl)) ?_;(with_reducible refine (euclid_square.calls k _ _ l0 _ _ l1 t238 _ ?side1 ?side2 ?side3 ?side4 A5.out).mono ?_);(case side1=>repeat (first|exact HR0.out|(with_reducible refine ca ?_ _)|(with_reducible refine cb ?_ _)|(with_reducible refine cc ?_)));(case side2=>exact HC0.out);(case side3=>repeat (first|exact HR1.out|(with_reducible refine ca ?_ _)|(with_reducible refine cb ?_ _)|(with_reducible refine cc ?_)));(case side4=>exact HC1.out);rintro e w' ⟨rfl,⟨nd,rfl⟩⟩;refine ⟨_,rfl,?_⟩))
  go_ret2
  exact ⟨by first|rfl|(simp;done)|(simp [*];done),by repeat (first|exact Drawn0.refl _|apply Drawn0.step)⟩
 ·
  rw [if_neg c4] at H
  have c4b0 : (t237 == 0) = false:=beq_eq_false_iff_ne.mpr c4
  have c4b1 : (t237 != 0) = true:=bne_iff_ne.mpr c4
  simp only [Option.some.injEq,Prod.mk.injEq] at H
  obtain ⟨rfl,rfl⟩:=H
  go_enter Try.func61,Try.ntmps61
  go_wp2_with (first|((with_reducible refine gate_callee (f:=68) rfl ?_);refine goesL_ (some 9) rfl rfl Try.func68 (by kernel_rfl) rfl #[.slice A0 l0.length c0,.slice A1 l1.length c1] rfl (by (try simp only [List.map_toArray,List.map_cons,List.map_nil]);first|done|rfl|(simp only [List.length_drop,List.length_take];rfl)) ?_;(with_reducible refine (euclid_check.calls k _ _ l0 _ _ l1 t237 _ ?side1 ?side2 ?side3 ?side4 A3.out).mono ?_);(case side1=>repeat (first|exact HR0.out|(with_reducible refine ca ?_ _)|(with_reducible refine cb ?_ _)|(with_reducible refine cc ?_)));(case side2=>exact HC0.out);(case side3=>repeat (first|exact HR1.out|(with_reducible refine ca ?_ _)|(with_reducible refine cb ?_ _)|(with_reducible refine cc ?_)));(case side4=>exact HC1.out);rintro e w' ⟨rfl,⟨nd,rfl⟩⟩;refine ⟨_,rfl,?_⟩))
  go_ret2
  exact ⟨by first|rfl|(simp;done)|(simp [*];done),by repeat (first|exact Drawn0.refl _|apply Drawn0.step)⟩

end Go.Proofs.Ytodipcfbgnljeaa.PChannelsPaths
