/- This file proves, function by function, what the Go functions that one law uses compute; most of it was printed by a program (wip/tools of this session, over the kit's print). -/
import Derived.Test.YtdnhfofmfpgmmaaPSegmentBackx0
namespace Go.Proofs.Ytdnhfofmfpgmmaa.PSegmentBack
open Go.RowKit Go.Proofs.YtdnhfofmfpgmmaaW.PrintWords Go.Proofs.YtdnhfofmfpgmmaaW.PrintLast Go.Proofs.YtdnhfofmfpgmmaaW.PrintMore
attribute [local go_sem] max2_int min2_int max_two min_two max_three min_three max_four min_four   -- for this text's walks alone
set_option linter.unusedVariables false
set_option linter.unusedSimpArgs false

/-! ### shapesearchkeep_Mod: function 26 -/
def shapesearchkeep_Mod.f (a0 : Int) (a1 : Int) : Option (Int):=if a1 < 1 then (some 0) else (if a1 = 0 then (none) else (if (Int.tmod a0 a1) < 0 then (some (wrap64 ((Int.tmod a0 a1) + a1))) else (some (Int.tmod a0 a1))))
set_option maxHeartbeats 8000000 in
set_option maxRecDepth 100000 in
theorem shapesearchkeep_Mod.calls (a0 : Int) (a1 : Int) (r : Int) (w : World) (h : shapesearchkeep_Mod.f a0 a1 = some r) :
  Calls Try.prog 26 #[.int .i64 a0,.int .i64 a1] w fun e w'=>e = .returned (.int .i64 r)∧Drawn0 w w':=by
 have H : (if a1 < 1 then (some 0) else (if a1 = 0 then (none) else (if (Int.tmod a0 a1) < 0 then (some (wrap64 ((Int.tmod a0 a1) + a1))) else (some (Int.tmod a0 a1))))) = some r:=h
 clear h
 by_cases c3 : a1 < 1
 ·
  rw [if_pos c3] at H
  have c3b0 : decide (a1 < 1) = true:=decide_eq_true c3
  clear c3
  obtain rfl:=Option.some.inj H
  go_enter Try.func26,Try.ntmps26
  go_wp2
  go_ret
  exact ⟨by first|rfl|(simp;done)|(simp [*];done),uq7⟩
 ·
  rw [if_neg c3] at H
  have c3b0 : decide (a1 < 1) = false:=decide_eq_false c3
  clear c3
  by_cases c4 : a1 = 0
  ·
   rw [if_pos c4] at H
   exact absurd H (by simp)
  ·
   rw [if_neg c4] at H
   have c4b0 : (a1 == 0) = false:=beq_eq_false_iff_ne.mpr c4
   have c4b1 : (a1 != 0) = true:=bne_iff_ne.mpr c4
   by_cases c5 : (Int.tmod a0 a1) < 0
   ·
    rw [if_pos c5] at H
    have c5b0 : decide ((Int.tmod a0 a1) < 0) = true:=decide_eq_true c5
    clear c5
    obtain rfl:=Option.some.inj H
    go_enter Try.func26,Try.ntmps26
    go_wp2
    go_ret
    exact ⟨by first|rfl|(simp;done)|(simp [*];done),uq7⟩
   ·
    rw [if_neg c5] at H
    have c5b0 : decide ((Int.tmod a0 a1) < 0) = false:=decide_eq_false c5
    clear c5
    obtain rfl:=Option.some.inj H
    go_enter Try.func26,Try.ntmps26
    go_wp2
    go_ret
    exact ⟨by first|rfl|(simp;done)|(simp [*];done),uq7⟩

/-- A state of type 76 at block g of W; what its slices lead to came in by w0. -/
def IsS76 (w0 W : World) (g : Nat) (f0 : List Int) (f1 : Int) : Prop:=∃ A0 c0,W.heap[g]? = some (.cells #[.slice A0 f0.length c0,.int .i64 f1] 76 (0,0))∧w0.heap.size ≤ g∧Kd.C (Kd.int .i64) w0 A0 f0.length f0
theorem IsS76.grown {w0 W : World} {g : Nat} {f0 : List Int} {f1 : Int} {W1 : World} {row : Option Nat} (h : IsS76 w0 W g f0 f1) (hw : W.grownBy W1 row) (hne : some g≠row) : IsS76 w0 W1 g f0 f1:=by
 obtain ⟨A0,c0,hb,hg,hr0⟩:=h
 exact ⟨A0,c0,blk_grown hb hw hne,hg,hr0⟩
theorem IsS76.own_neN {w0 W : World} {g : Nat} {f0 : List Int} {f1 : Int} {α : Type} {d : Kd α} {e : Nat} {base : Nat} {ok : Nat → Prop} {v : Value} {xs : List α} (h : IsS76 w0 W g f0 f1) (ho : Kd.N d e W base ok v xs) (ht : e≠76) : some g≠v.ownBlock:=by
 obtain ⟨A0,c0,hb,hg,hr0⟩:=h
 exact Kd.N_ne ho hb ht
theorem IsS76.fresh {w0 W : World} {g : Nat} {f0 : List Int} {f1 : Int} (h : IsS76 w0 W g f0 f1) : ∀ k,W.heap.size ≤ k → k≠g:=by
 obtain ⟨A0,c0,hb,hg,hr0⟩:=h
 exact Kd.freshB hb
theorem IsS76.kept {w0 W : World} {g : Nat} {f0 : List Int} {f1 : Int} {W1 : World} {S : Nat → Prop} (h : IsS76 w0 W g f0 f1) (hk : Kept W W1 S) (hne : ¬ S g) : IsS76 w0 W1 g f0 f1:=by
 obtain ⟨A0,c0,hb,hg,hr0⟩:=h
 exact ⟨A0,c0,blk_kept hb hk hne,hg,hr0⟩
theorem IsS76.below {w0 W : World} {g : Nat} {f0 : List Int} {f1 : Int} {W1 : World} (h : IsS76 w0 W g f0 f1) (hw : Below W.heap.size W W1) : IsS76 w0 W1 g f0 f1:=h.grown (grown_of_below hw none) (by simp)
theorem IsS76.alloc {w0 W : World} {g : Nat} {f0 : List Int} {f1 : Int} (h : IsS76 w0 W g f0 f1) (o : Obj) : IsS76 w0 (W.alloc o) g f0 f1:=h.below (below_alloc (Below.refl _ _) o)
theorem IsS76.drewN {w0 W : World} {g : Nat} {f0 : List Int} {f1 : Int} (h : IsS76 w0 W g f0 f1) (m : Nat) : IsS76 w0 (W.drewN m) g f0 f1:=h
theorem IsS76.drew {w0 W : World} {g : Nat} {f0 : List Int} {f1 : Int} (h : IsS76 w0 W g f0 f1) : IsS76 w0 W.drew g f0 f1:=h
theorem IsS76.at_ {w0 W : World} {g : Nat} {f0 : List Int} {f1 : Int} {w' : World} {m : Nat} (hq : W.drewN m = w') (h : IsS76 w0 W g f0 f1) : IsS76 w0 w' g f0 f1:=by subst hq;exact IsS76.drewN h m
theorem IsS76.apart {w0 W : World} {g : Nat} {f0 : List Int} {f1 : Int} {α : Type} {d : Kd α} {e : Nat} {base : Nat} {ok : Nat → Prop} {v : Value} {xs : List α} (h : IsS76 w0 W g f0 f1) (ho : d.R e W base ok v xs) (ht : ∀ q,q ∈ e :: d.E → q≠76) : d.R e W base (fun k=>ok k∧k≠g) v xs:=by
 obtain ⟨A0,c0,hb,hg,hr0⟩:=h
 exact Kd.R_types ho hb ht
theorem IsS76.own_ne {w0 W : World} {g : Nat} {f0 : List Int} {f1 : Int} {α : Type} {d : Kd α} {e : Nat} {base : Nat} {ok : Nat → Prop} {v : Value} {xs : List α} (h : IsS76 w0 W g f0 f1) (ho : d.R e W base ok v xs) (ht : e≠76) : some g≠v.ownBlock:=by
 obtain ⟨A0,c0,hb,hg,hr0⟩:=h
 exact Kd.R_ne ho hb ht
theorem IsS76.apartQ {w0 W : World} {g : Nat} {f0 : List Int} {f1 : Int} {α : Type} {d : Kd α} {e : Nat} {base : Nat} {ok : Nat → Prop} {v : Value} {xs : List α} (h : IsS76 w0 W g f0 f1) (ho : d.Q e W base ok v xs) (ht : ∀ q,q ∈ e :: d.E → q≠76) : d.Q e W base (fun k=>ok k∧k≠g) v xs:=by
 obtain ⟨A0,c0,hb,hg,hr0⟩:=h
 exact Kd.Q_types ho hb ht
theorem IsS76.own_neQ {w0 W : World} {g : Nat} {f0 : List Int} {f1 : Int} {α : Type} {d : Kd α} {e : Nat} {base : Nat} {ok : Nat → Prop} {v : Value} {xs : List α} (h : IsS76 w0 W g f0 f1) (ho : d.Q e W base ok v xs) (ht : e≠76) : some g≠v.ownBlock:=by
 obtain ⟨A0,c0,hb,hg,hr0⟩:=h
 exact Kd.Q_ne ho hb ht
theorem IsS76.apartS {w0 W : World} {g : Nat} {f0 : List Int} {f1 : Int} {α : Type} {d : Kd α} {e : Nat} {base : Nat} {ok : Nat → Prop} {v : Value} {xs : List α} (h : IsS76 w0 W g f0 f1) (ho : d.S e W base ok v xs) (ht : ∀ q,q ∈ e :: d.E → q≠76) : d.S e W base (fun k=>ok k∧k≠g) v xs:=by
 obtain ⟨A0,c0,hb,hg,hr0⟩:=h
 exact Kd.S_types ho hb ht
theorem IsS76.own_neS {w0 W : World} {g : Nat} {f0 : List Int} {f1 : Int} {α : Type} {d : Kd α} {e : Nat} {base : Nat} {ok : Nat → Prop} {v : Value} {xs : List α} (h : IsS76 w0 W g f0 f1) (ho : d.S e W base ok v xs) (ht : e≠76) : some g≠v.ownBlock:=by
 obtain ⟨A0,c0,hb,hg,hr0⟩:=h
 exact Kd.S_ne ho hb ht
theorem IsS76.lt {w0 W : World} {g : Nat} {f0 : List Int} {f1 : Int} (h : IsS76 w0 W g f0 f1) : g < W.heap.size:=by
 obtain ⟨A0,c0,hb,hg,hr0⟩:=h
 exact blk_lt hb
theorem IsS76.ge {w0 W : World} {g : Nat} {f0 : List Int} {f1 : Int} (h : IsS76 w0 W g f0 f1) : w0.heap.size ≤ g:=by
 obtain ⟨A0,c0,hb,hg,hr0⟩:=h
 exact hg
theorem IsS76.ne_blk {w0 W : World} {g : Nat} {f0 : List Int} {f1 : Int} {a : Nat} {cs : Array Value} {t : TypeId} {fr : Nat × Nat} (h : IsS76 w0 W g f0 f1) (hb2 : W.heap[a]? = some (.cells cs t fr)) (ht : t≠76) : g≠a:=by
 obtain ⟨A0,c0,hb,hg,hr0⟩:=h
 rintro rfl
 rw [hb] at hb2
 injection hb2 with hb2
 injection hb2 with _ ht2
 exact ht ht2.symm
theorem IsS76.far {w0 W : World} {g : Nat} {f0 : List Int} {f1 : Int} {p : Addr} (h : IsS76 w0 W g f0 f1) (hne : g≠p.block) (u : Value) : IsS76 w0 (W.setCell p u) g f0 f1:=by
 obtain ⟨A0,c0,hb,hg,hr0⟩:=h
 exact ⟨A0,c0,blk_far hb hne u,hg,hr0⟩
theorem cellS76_0 {W : World} {g : Nat} {A0 : Option Addr} {c0 : Nat} {f0 : List Int} {f1 : Int} (h : W.heap[g]? = some (.cells #[.slice A0 f0.length c0,.int .i64 f1] 76 (0,0))) : W.cell? ⟨g,0,none⟩ = some (.slice A0 f0.length c0):=(blk_cell h 0).trans rfl
theorem cellS76_1 {W : World} {g : Nat} {A0 : Option Addr} {c0 : Nat} {f0 : List Int} {f1 : Int} (h : W.heap[g]? = some (.cells #[.slice A0 f0.length c0,.int .i64 f1] 76 (0,0))) : W.cell? ⟨g,1,none⟩ = some (.int .i64 f1):=(blk_cell h 1).trans rfl
theorem IsS76.set_1 {w0 W : World} {g : Nat} {f0 : List Int} {f1 : Int} (h : IsS76 w0 W g f0 f1) (x : Int) : IsS76 w0 (W.setCell ⟨g,1,none⟩ (.int .i64 x)) g f0 x:=by
 obtain ⟨A0,c0,hb,hg,hr0⟩:=h
 exact ⟨A0,c0,by simpa using blk_set hb 1 (.int .i64 x),hg,hr0⟩
theorem IsS76.new (w0 W : World) (A0 : Option Addr) (c0 : Nat) (f0 : List Int) (f1 : Int) (hB : Below w0.heap.size w0 W) (hr0 : Kd.C (Kd.int .i64) w0 A0 f0.length f0) : IsS76 w0 (W.alloc (.cells #[.slice A0 f0.length c0,.int .i64 f1] 76)) W.heap.size f0 f1:=⟨A0,c0,by simpa using heap_alloc_new W _,hB.size,hr0⟩

/-! ### shapesearchkeep_Src_Raw: function 59 -/
def shapesearchkeep_Src_Raw.f (s0_0 : List Int) (s0_1 : Int) : Option (Int × Int):=if s0_1 ≥ (s0_0.length : Int) then (some (0,s0_1)) else (if 0 ≤ (wrap64 ((wrap64 (s0_1 + 1)) - 1)) then (if (wrap64 ((wrap64 (s0_1 + 1)) - 1)) < (s0_0.length : Int) then (some (rd s0_0 (wrap64 ((wrap64 (s0_1 + 1)) - 1)),wrap64 (s0_1 + 1))) else (none)) else (none))
set_option maxHeartbeats 8000000 in
set_option maxRecDepth 100000 in
theorem shapesearchkeep_Src_Raw.calls (g : Nat) (s0_0 : List Int) (s0_1 : Int) (r1 : Int) (r2 : Int) (w0 w : World) (hI : IsS76 w0 w g s0_0 s0_1) (hB : Below w0.heap.size w0 w) (h : shapesearchkeep_Src_Raw.f s0_0 s0_1 = some (r1,r2)) :
  Calls Try.prog 59 #[.pointer (some ⟨g,0,none⟩)] w fun e w'=>e = .returned (.int .i64 r1)∧IsS76 w0 w' g s0_0 r2∧Below w0.heap.size w0 w'∧KeepBut w w' g none:=by
 have HI0:=A_ hI
 have HK:=A_ (KeepBut.refl w g none)
 have HL:=A_ hB.size
 clear hI
 have HW0:=A_ hB.size
 have HB:=A_ hB
 clear hB
 have H : (if s0_1 ≥ (s0_0.length : Int) then (some (0,s0_1)) else (if 0 ≤ (wrap64 ((wrap64 (s0_1 + 1)) - 1)) then (if (wrap64 ((wrap64 (s0_1 + 1)) - 1)) < (s0_0.length : Int) then (some (rd s0_0 (wrap64 ((wrap64 (s0_1 + 1)) - 1)),wrap64 (s0_1 + 1))) else (none)) else (none))) = some (r1,r2):=h
 clear h
 by_cases c2 : s0_1 ≥ (s0_0.length : Int)
 ·
  rw [if_pos c2] at H
  have c2b0 : decide ((s0_0.length : Int) ≤ s0_1) = true:=decide_eq_true c2
  clear c2
  simp only [Option.some.injEq,Prod.mk.injEq] at H
  obtain ⟨rfl,rfl⟩:=H
  obtain ⟨ASz3_0,cSz3_0,HGz3,hgz3,HSz3_0⟩:=HI0.out
  have hcz3_0:=cellS76_0 HGz3
  have hcz3_1:=cellS76_1 HGz3
  have hfz3_1:=blk_frozen HGz3 1
  clear HGz3 hgz3
  go_enter Try.func59,Try.ntmps59
  go_wp2
  repeat (go_quiet (fail);try go_wp2)
  go_ret
  exact ⟨by first|rfl|(simp [errW_none,errW_some] <;> rfl)|(simp [*,errW_none,errW_some] <;> rfl),uq4,uq6,uq5⟩
 ·
  rw [if_neg c2] at H
  have c2b0 : decide ((s0_0.length : Int) ≤ s0_1) = false:=decide_eq_false c2
  clear c2
  obtain ⟨ji4,hji4⟩ : ∃ j_ : Int,(wrap64 ((wrap64 (s0_1 + 1)) - 1)) = j_:=⟨_,rfl⟩
  replace H : (if 0 ≤ (ji4) then (if (ji4) < (s0_0.length : Int) then (some (rd s0_0 (ji4),wrap64 (s0_1 + 1))) else (none)) else (none)) = some (r1,r2):=by first|(rw [hji4] at H;exact H)|(simp only [hji4] at H ⊢;exact H)
  have hji4w : (IntKind.i64.wrap ((wrap64 (s0_1 + 1)) - 1)) = ji4:=(i64_w _).trans hji4
  by_cases c5 : 0 ≤ (ji4)
  ·
   rw [if_pos c5] at H
   have c5b0 : decide (0 ≤ (ji4)) = true:=decide_eq_true c5
   clear c5
   by_cases c6 : (ji4) < (s0_0.length : Int)
   ·
    rw [if_pos c6] at H
    have c6b0 : decide ((ji4) < (s0_0.length : Int)) = true:=decide_eq_true c6
    clear c6
    simp only [Option.some.injEq,Prod.mk.injEq] at H
    obtain ⟨rfl,rfl⟩:=H
    obtain ⟨ASz7_0,cSz7_0,HGz7,hgz7,HSz7_0⟩:=HI0.out
    have hcz7_0:=cellS76_0 HGz7
    have hcz7_1:=cellS76_1 HGz7
    have hfz7_1:=blk_frozen HGz7 1
    clear HGz7 hgz7
    have p101 : 0 ≤ ((ji4) : Int):=of_decide_eq_true uq1
    have q101 : (ji4) < (s0_0.length : Int):=of_decide_eq_true uq1
    obtain ⟨ad101,e101,hx101_0⟩:=Kd.at_int HSz7_0 (ji4) p101 q101
    cases e101
    have hn101_0 : ad101.block≠g:=Nat.ne_of_lt (Nat.lt_of_lt_of_le (by have:=World.block_lt_of_cell? _ _ hx101_0;first|rwa [add_block] at this|exact this) (IsS76.ge HI0.out))
    replace hx101_0:=pw_cell_below HB.out hx101_0
    replace hx101_0:=(cell_far (p:=⟨g,1,none⟩) (by first|(rw [add_block];exact hn101_0)|(show (Addr.add _ _).block≠_;rw [add_block];exact hn101_0)|exact hn101_0) (.int .i64 (wrap64 (s0_1 + 1)))).trans hx101_0
    (try have hy101_0:=fun (n_ : Nat)=>(show (((w.drewN n_).setCell ⟨g,1,none⟩ (.int .i64 (wrap64 (s0_1 + 1))))).cell? _ = some _ from hx101_0))
    clear hn101_0
    replace p101:=eq_true p101
    replace q101:=eq_true q101
    go_enter Try.func59,Try.ntmps59
    go_wp2
    repeat (go_quiet (fail);try go_wp2)
    go_ret
    exact ⟨by first|rfl|(simp [errW_none,errW_some] <;> rfl)|(simp only [← hji4];first|rfl|(simp [errW_none,errW_some] <;> rfl))|(simp [*,errW_none,errW_some] <;> rfl),uq4,uq6,uq5⟩
   ·
    rw [if_neg c6] at H
    exact absurd H (by simp)
  ·
   rw [if_neg c5] at H
   exact absurd H (by simp)

/-! ### shapesearchkeep_Src_N: function 33 -/
def shapesearchkeep_Src_N.f (s0_0 : List Int) (s0_1 : Int) (a1 : Int) : Option (Int × Int):=(shapesearchkeep_Src_Raw.f s0_0 s0_1).bind fun bt102=>((shapesearchkeep_Mod.f bt102.1 a1).bind fun t104=>(some (t104,bt102.2)))
set_option maxHeartbeats 8000000 in
set_option maxRecDepth 100000 in
theorem shapesearchkeep_Src_N.calls (g : Nat) (s0_0 : List Int) (s0_1 : Int) (a1 : Int) (r1 : Int) (r2 : Int) (w0 w : World) (hI : IsS76 w0 w g s0_0 s0_1) (hB : Below w0.heap.size w0 w) (h : shapesearchkeep_Src_N.f s0_0 s0_1 a1 = some (r1,r2)) :
  Calls Try.prog 33 #[.pointer (some ⟨g,0,none⟩),.int .i64 a1] w fun e w'=>e = .returned (.int .i64 r1)∧IsS76 w0 w' g s0_0 r2∧Below w0.heap.size w0 w'∧KeepBut w w' g none:=by
 have HI0:=A_ hI
 have HK:=A_ (KeepBut.refl w g none)
 have HL:=A_ hB.size
 clear hI
 have HW0:=A_ hB.size
 have HB:=A_ hB
 clear hB
 have H : ((shapesearchkeep_Src_Raw.f s0_0 s0_1).bind fun bt102=>((shapesearchkeep_Mod.f bt102.1 a1).bind fun t104=>(some (t104,bt102.2)))) = some (r1,r2):=h
 clear h
 replace H:=Option.bind_eq_some_iff.mp H
 obtain ⟨⟨t102,t103⟩,A30,H⟩:=H
 replace H : ((shapesearchkeep_Mod.f t102 a1).bind fun t104=>(some (t104,t103))) = some (r1,r2):=H
 have A3:=A_ A30
 clear A30
 replace H:=Option.bind_eq_some_iff.mp H
 obtain ⟨t104,A40,H⟩:=H
 replace H : (some (t104,t103)) = some (r1,r2):=H
 have A4:=A_ A40
 clear A40
 simp only [Option.some.injEq,Prod.mk.injEq] at H
 obtain ⟨rfl,rfl⟩:=H
 go_enter Try.func33,Try.ntmps33
 go_wp2_with (first|((with_reducible refine gate_callee (f:=59) rfl ?_);refine gl (some 6) Try.func59 #[.pointer (some ⟨g,0,none⟩)] ?_;(with_reducible refine (shapesearchkeep_Src_Raw.calls g s0_0 s0_1 t102 t103 w0 _ ?side1 ?side2 A3.out).mono ?_);(case side1=>exact uq4);(case side2=>exact uq6);rintro e w5 ⟨rfl,hi,hb,hk⟩;refine ⟨_,rfl,?_⟩;replace HK:=A_ (KeepBut.trans uq5 hk (.inl rfl));replace HB:=A_ (hb);replace HI0:=A_ (hi);(try clear hb);(try clear hb2);(try clear hk);(try clear hi))|((with_reducible refine gate_callee (f:=26) rfl ?_);refine gl (some 8) Try.func26 #[.int .i64 t102,.int .i64 a1] ?_;(with_reducible refine (shapesearchkeep_Mod.calls t102 a1 t104 _ A4.out).mono ?_);rintro e w' ⟨rfl,⟨nd,rfl⟩⟩;refine ⟨_,rfl,?_⟩))
 go_ret
 exact ⟨by first|rfl|(simp [errW_none,errW_some] <;> rfl)|(simp [*,errW_none,errW_some] <;> rfl),uq4,uq6,uq5⟩

/-! ### shapesearchkeep_Src_Pick: function 34 -/
def shapesearchkeep_Src_Pick.f (s0_0 : List Int) (s0_1 : Int) (l1 : List Int) : Option (Int × Int):=(shapesearchkeep_Src_N.f s0_0 s0_1 (l1.length : Int)).bind fun bt105=>(if 0 ≤ bt105.1 then (if bt105.1 < (l1.length : Int) then (some (rd l1 bt105.1,bt105.2)) else (none)) else (none))
set_option maxHeartbeats 8000000 in
set_option maxRecDepth 100000 in
theorem shapesearchkeep_Src_Pick.calls (g : Nat) (s0_0 : List Int) (s0_1 : Int) (A1 : Option Addr) (c1 : Nat) (l1 : List Int) (r1 : Int) (r2 : Int) (w0 w : World) (hI : IsS76 w0 w g s0_0 s0_1) (hB : Below w0.heap.size w0 w) (hr1 : Kd.C (Kd.int .i64) w A1 l1.length l1) (hc1 : l1.length ≤ c1) (hf1 : ∀ ad,A1 = some ad → 0 < l1.length → ad.block≠g) (h : shapesearchkeep_Src_Pick.f s0_0 s0_1 l1 = some (r1,r2)) :
  Calls Try.prog 34 #[.pointer (some ⟨g,0,none⟩),.slice A1 l1.length c1] w fun e w'=>e = .returned (.int .i64 r1)∧IsS76 w0 w' g s0_0 r2∧Below w0.heap.size w0 w'∧KeepBut w w' g none:=by
 have HR1:=A_ hr1
 have HC1:=A_ hc1
 clear hr1 hc1
 have HI0:=A_ hI
 have HK:=A_ (KeepBut.refl w g none)
 have HL:=A_ hB.size
 clear hI
 have HW0:=A_ hB.size
 have HB:=A_ hB
 clear hB
 have H : ((shapesearchkeep_Src_N.f s0_0 s0_1 (l1.length : Int)).bind fun bt105=>(if 0 ≤ bt105.1 then (if bt105.1 < (l1.length : Int) then (some (rd l1 bt105.1,bt105.2)) else (none)) else (none))) = some (r1,r2):=h
 clear h
 replace H:=Option.bind_eq_some_iff.mp H
 obtain ⟨⟨t105,t106⟩,A30,H⟩:=H
 replace H : (if 0 ≤ t105 then (if t105 < (l1.length : Int) then (some (rd l1 t105,t106)) else (none)) else (none)) = some (r1,r2):=H
 have A3:=A_ A30
 clear A30
 by_cases c4 : 0 ≤ t105
 ·
  rw [if_pos c4] at H
  have c4b0 : decide (0 ≤ t105) = true:=decide_eq_true c4
  clear c4
  by_cases c5 : t105 < (l1.length : Int)
  ·
   rw [if_pos c5] at H
   have c5b0 : decide (t105 < (l1.length : Int)) = true:=decide_eq_true c5
   clear c5
   simp only [Option.some.injEq,Prod.mk.injEq] at H
   obtain ⟨rfl,rfl⟩:=H
   go_enter Try.func34,Try.ntmps34
   go_wp2_with (first|((with_reducible refine gate_callee (f:=33) rfl ?_);refine gl (some 9) Try.func33 #[.pointer (some ⟨g,0,none⟩),.int .i64 (l1.length : Int)] ?_;(with_reducible refine (shapesearchkeep_Src_N.calls g s0_0 s0_1 (l1.length : Int) t105 t106 w0 _ ?side1 ?side2 A3.out).mono ?_);(case side1=>exact uq4);(case side2=>exact uq6);rintro e w6 ⟨rfl,hi,hb,hk⟩;refine ⟨_,rfl,?_⟩;replace HK:=A_ (KeepBut.trans uq5 hk (.inl rfl));replace HB:=A_ (hb);replace HI0:=A_ (hi);(try clear hb);(try clear hb2);(try clear hk);(try clear hi);have p107 : 0 ≤ (t105 : Int):=of_decide_eq_true uq1;have q107 : t105 < (l1.length : Int):=of_decide_eq_true uq1;obtain ⟨ad107,e107,hx107_0⟩:=Kd.at_int HR1.out t105 p107 q107;cases e107;replace hx107_0:=keep_cell HK.out hx107_0 (by first|(rw [add_block];exact hf1 _ rfl (by omega))|exact hf1 _ rfl (by omega)|exact hf1 ad107 rfl (by omega));replace p107:=eq_true p107;replace q107:=eq_true q107))
   go_ret
   exact ⟨by first|rfl|(simp [errW_none,errW_some] <;> rfl)|(simp [*,errW_none,errW_some] <;> rfl),uq4,uq6,uq5⟩
  ·
   rw [if_neg c5] at H
   exact absurd H (by simp)
 ·
  rw [if_neg c4] at H
  exact absurd H (by simp)

/-! ### shapesearchkeep_Src_Range: function 35 -/
def shapesearchkeep_Src_Range.f (s0_0 : List Int) (s0_1 : Int) (a1 : Int) (a2 : Int) : Option (Int × Int):=(shapesearchkeep_Src_N.f s0_0 s0_1 (wrap64 ((wrap64 (a2 - a1)) + 1))).bind fun bt108=>(some (wrap64 (a1 + bt108.1),bt108.2))
set_option maxHeartbeats 8000000 in
set_option maxRecDepth 100000 in
theorem shapesearchkeep_Src_Range.calls (g : Nat) (s0_0 : List Int) (s0_1 : Int) (a1 : Int) (a2 : Int) (r1 : Int) (r2 : Int) (w0 w : World) (hI : IsS76 w0 w g s0_0 s0_1) (hB : Below w0.heap.size w0 w) (h : shapesearchkeep_Src_Range.f s0_0 s0_1 a1 a2 = some (r1,r2)) :
  Calls Try.prog 35 #[.pointer (some ⟨g,0,none⟩),.int .i64 a1,.int .i64 a2] w fun e w'=>e = .returned (.int .i64 r1)∧IsS76 w0 w' g s0_0 r2∧Below w0.heap.size w0 w'∧KeepBut w w' g none:=by
 have HI0:=A_ hI
 have HK:=A_ (KeepBut.refl w g none)
 have HL:=A_ hB.size
 clear hI
 have HW0:=A_ hB.size
 have HB:=A_ hB
 clear hB
 have H : ((shapesearchkeep_Src_N.f s0_0 s0_1 (wrap64 ((wrap64 (a2 - a1)) + 1))).bind fun bt108=>(some (wrap64 (a1 + bt108.1),bt108.2))) = some (r1,r2):=h
 clear h
 replace H:=Option.bind_eq_some_iff.mp H
 obtain ⟨⟨t108,t109⟩,A40,H⟩:=H
 replace H : (some (wrap64 (a1 + t108),t109)) = some (r1,r2):=H
 have A4:=A_ A40
 clear A40
 simp only [Option.some.injEq,Prod.mk.injEq] at H
 obtain ⟨rfl,rfl⟩:=H
 go_enter Try.func35,Try.ntmps35
 go_wp2_with (first|((with_reducible refine gate_callee (f:=33) rfl ?_);refine gl (some 13) Try.func33 #[.pointer (some ⟨g,0,none⟩),.int .i64 (wrap64 ((wrap64 (a2 - a1)) + 1))] ?_;(with_reducible refine (shapesearchkeep_Src_N.calls g s0_0 s0_1 (wrap64 ((wrap64 (a2 - a1)) + 1)) t108 t109 w0 _ ?side1 ?side2 A4.out).mono ?_);(case side1=>exact uq4);(case side2=>exact uq6);rintro e w5 ⟨rfl,hi,hb,hk⟩;refine ⟨_,rfl,?_⟩;replace HK:=A_ (KeepBut.trans uq5 hk (.inl rfl));replace HB:=A_ (hb);replace HI0:=A_ (hi);(try clear hb);(try clear hb2);(try clear hk);(try clear hi)))
 go_ret
 exact ⟨by first|rfl|(simp [errW_none,errW_some] <;> rfl)|(simp [*,errW_none,errW_some] <;> rfl),uq4,uq6,uq5⟩

/-! ### shapesearchkeep_clip: function 61 -/
def shapesearchkeep_clip.f (a0 : Int) : Option (Int):=some (mn (mx a0 (-1000)) 1000)
set_option maxHeartbeats 8000000 in
set_option maxRecDepth 100000 in
theorem shapesearchkeep_clip.calls (a0 : Int) (r : Int) (w : World) (h : shapesearchkeep_clip.f a0 = some r) :
  Calls Try.prog 61 #[.int .i64 a0] w fun e w'=>e = .returned (.int .i64 r)∧Below w.heap.size w w':=by
 have HB:=A_ (Below.refl w.heap.size w)
 have H : (some (mn (mx a0 (-1000)) 1000)) = some r:=h
 clear h
 obtain ⟨ji2,hji2⟩ : ∃ j_ : Int,(mx a0 (-1000)) = j_:=⟨_,rfl⟩
 replace H : (some (mn (ji2) 1000)) = some r:=by first|(rw [hji2] at H;exact H)|(simp only [hji2] at H ⊢;exact H)
 have hji2_ : (if a0 < (-1000) then (-1000) else a0) = ji2:=hji2
 obtain ⟨ji3,hji3⟩ : ∃ j_ : Int,(mn (ji2) 1000) = j_:=⟨_,rfl⟩
 replace H : (some ji3) = some r:=by first|(rw [hji3] at H;exact H)|(simp only [hji3] at H ⊢;exact H)
 have hji3_ : (if 1000 < (ji2) then 1000 else (ji2)) = ji3:=hji3
 obtain rfl:=Option.some.inj H
 go_enter Try.func61,Try.ntmps61
 go_wp2
 go_ret
 exact ⟨by first|rfl|(simp [errW_none,errW_some] <;> rfl)|(simp only [← hji2,← hji3];first|rfl|(simp [errW_none,errW_some] <;> rfl))|(simp [*,errW_none,errW_some] <;> rfl),uq0⟩

/-! ### shapesearchkeep_Src_List: function 40 -/
mutual
def shapesearchkeep_Src_List.j0 : Nat → Int → Int → Int → Int → List Int → Int → Option (List Int × Int)
 | 0,_,_,_,_,_,_=>none
 | k + 1,x1,x5,x6,x7,x1000,x1001=>shapesearchkeep_Src_List.l0 k x1 x5 x6 x7 ([] : List Int) 0 x1000 x1001
def shapesearchkeep_Src_List.l0 : Nat → Int → Int → Int → Int → List Int → Int → List Int → Int → Option (List Int × Int)
 | 0,_,_,_,_,_,_,_,_=>none
 | k + 1,x1,x5,x6,x7,x8,x9,x1000,x1001=>if x9 < x1 then (if x5 = 0 then (shapesearchkeep_Src_List.j2 k x1 x5 x6 x7 x8 x9 x5 (x5 == 0) x1000 x1001) else (shapesearchkeep_Src_List.j2 k x1 x5 x6 x7 x8 x9 x5 (x5 == 1) x1000 x1001)) else (some (x8,x1001))
def shapesearchkeep_Src_List.j2 : Nat → Int → Int → Int → Int → List Int → Int → Int → Bool → List Int → Int → Option (List Int × Int)
 | 0,_,_,_,_,_,_,_,_,_,_=>none
 | k + 1,x1,x5,x6,x7,x8,x9,x25,x32,x1000,x1001=>if x32 = true then ((shapesearchkeep_Src_Range.f x1000 x1001 (wrap64 (-x6)) x6).bind fun bt121=>(if x8.length < 17592186044416 then (shapesearchkeep_Src_List.l0 k x1 x5 x6 x7 (x8 ++ [bt121.1]) (wrap64 (x9 + 1)) x1000 bt121.2) else (none))) else (if x25 = 2 then (shapesearchkeep_Src_List.j3 k x1 x5 x6 x7 x8 x9 x25 (x25 == 2) x1000 x1001) else (shapesearchkeep_Src_List.j3 k x1 x5 x6 x7 x8 x9 x25 (x25 == 3) x1000 x1001))
def shapesearchkeep_Src_List.j3 : Nat → Int → Int → Int → Int → List Int → Int → Int → Bool → List Int → Int → Option (List Int × Int)
 | 0,_,_,_,_,_,_,_,_,_,_=>none
 | k + 1,x1,x5,x6,x7,x8,x9,x25,x43,x1000,x1001=>if x43 = true then ((shapesearchkeep_Src_Range.f x1000 x1001 (wrap64 (-x6)) x6).bind fun bt126=>((shapesearchkeep_clip.f (wrap64 (x7 + bt126.1))).bind fun t128=>(if x8.length < 17592186044416 then (shapesearchkeep_Src_List.l0 k x1 x5 x6 t128 (x8 ++ [t128]) (wrap64 (x9 + 1)) x1000 bt126.2) else (none)))) else (if x25 = 4 then ((shapesearchkeep_Src_N.f x1000 x1001 4).bind fun bt132=>(if bt132.1 = 0 then ((shapesearchkeep_Src_Range.f x1000 bt132.2 (wrap64 (-x6)) x6).bind fun bt134=>(if x8.length < 17592186044416 then (shapesearchkeep_Src_List.l0 k x1 x5 x6 bt134.1 (x8 ++ [bt134.1]) (wrap64 (x9 + 1)) x1000 bt134.2) else (none))) else (if x8.length < 17592186044416 then (shapesearchkeep_Src_List.l0 k x1 x5 x6 x7 (x8 ++ [x7]) (wrap64 (x9 + 1)) x1000 bt132.2) else (none)))) else ((shapesearchkeep_Src_Pick.f x1000 x1001 (([(-1000),1000,1000,0] : List Int))).bind fun bt145=>(if x8.length < 17592186044416 then (shapesearchkeep_Src_List.l0 k x1 x5 x6 x7 (x8 ++ [bt145.1]) (wrap64 (x9 + 1)) x1000 bt145.2) else (none))))
end
def shapesearchkeep_Src_List.f (k : Nat) (s0_0 : List Int) (s0_1 : Int) (a1 : Int) : Option (List Int × Int):=(shapesearchkeep_Src_N.f s0_0 s0_1 6).bind fun bt110=>((shapesearchkeep_Src_Pick.f s0_0 bt110.2 (([1,3,10,100,1000] : List Int))).bind fun bt115=>((shapesearchkeep_Src_N.f s0_0 bt115.2 3).bind fun bt117=>(if bt117.1 = 0 then ((shapesearchkeep_Src_Range.f s0_0 bt117.2 (-1000) 1000).bind fun bt119=>(shapesearchkeep_Src_List.j0 k a1 bt110.1 bt115.1 bt119.1 s0_0 bt119.2)) else (shapesearchkeep_Src_List.j0 k a1 bt110.1 bt115.1 0 s0_0 bt117.2))))
theorem shapesearchkeep_Src_List.mono_l : ∀ k,(∀ y0 y1 y2 y3 y4 y5,LeO (shapesearchkeep_Src_List.j0 k y0 y1 y2 y3 y4 y5) (shapesearchkeep_Src_List.j0 (k + 1) y0 y1 y2 y3 y4 y5))∧(∀ y0 y1 y2 y3 y4 y5 y6 y7,LeO (shapesearchkeep_Src_List.l0 k y0 y1 y2 y3 y4 y5 y6 y7) (shapesearchkeep_Src_List.l0 (k + 1) y0 y1 y2 y3 y4 y5 y6 y7))∧(∀ y0 y1 y2 y3 y4 y5 y6 y7 y8 y9,LeO (shapesearchkeep_Src_List.j2 k y0 y1 y2 y3 y4 y5 y6 y7 y8 y9) (shapesearchkeep_Src_List.j2 (k + 1) y0 y1 y2 y3 y4 y5 y6 y7 y8 y9))∧(∀ y0 y1 y2 y3 y4 y5 y6 y7 y8 y9,LeO (shapesearchkeep_Src_List.j3 k y0 y1 y2 y3 y4 y5 y6 y7 y8 y9) (shapesearchkeep_Src_List.j3 (k + 1) y0 y1 y2 y3 y4 y5 y6 y7 y8 y9))
 | 0=>⟨fun _ _ _ _ _ _ r h=>by simp [shapesearchkeep_Src_List.j0] at h,fun _ _ _ _ _ _ _ _ r h=>by simp [shapesearchkeep_Src_List.l0] at h,fun _ _ _ _ _ _ _ _ _ _ r h=>by simp [shapesearchkeep_Src_List.j2] at h,fun _ _ _ _ _ _ _ _ _ _ r h=>by simp [shapesearchkeep_Src_List.j3] at h⟩
 | k + 1=>by
  obtain ⟨ih0,ih1,ih2,ih3⟩:=shapesearchkeep_Src_List.mono_l k
  refine ⟨?_,?_,?_,?_⟩
  ·
   intro y0 y1 y2 y3 y4 y5
   unfold shapesearchkeep_Src_List.j0
   repeat' first|(with_reducible first|apply ih0|apply ih1|apply ih2|apply ih3|exact lz|refine LeO.ite ?_ ?_|refine LeO.bind ?_ fun _=>?_)
  ·
   intro y0 y1 y2 y3 y4 y5 y6 y7
   unfold shapesearchkeep_Src_List.l0
   repeat' first|(with_reducible first|apply ih0|apply ih1|apply ih2|apply ih3|exact lz|refine LeO.ite ?_ ?_|refine LeO.bind ?_ fun _=>?_)
  ·
   intro y0 y1 y2 y3 y4 y5 y6 y7 y8 y9
   unfold shapesearchkeep_Src_List.j2
   repeat' first|(with_reducible first|apply ih0|apply ih1|apply ih2|apply ih3|exact lz|refine LeO.ite ?_ ?_|refine LeO.bind ?_ fun _=>?_)
  ·
   intro y0 y1 y2 y3 y4 y5 y6 y7 y8 y9
   unfold shapesearchkeep_Src_List.j3
   repeat' first|(with_reducible first|apply ih0|apply ih1|apply ih2|apply ih3|exact lz|refine LeO.ite ?_ ?_|refine LeO.bind ?_ fun _=>?_)
theorem shapesearchkeep_Src_List.mono : ∀ a0 a1 a2 k,LeO (shapesearchkeep_Src_List.f k a0 a1 a2) (shapesearchkeep_Src_List.f (k + 1) a0 a1 a2):=by
 intro a0 a1 a2 k
 obtain ⟨ih0,ih1,ih2,ih3⟩:=shapesearchkeep_Src_List.mono_l k
 unfold shapesearchkeep_Src_List.f
 repeat' first|(with_reducible first|apply ih0|apply ih1|apply ih2|apply ih3|exact lz|refine LeO.ite ?_ ?_|refine LeO.bind ?_ fun _=>?_)
set_option maxHeartbeats 8000000 in
set_option maxRecDepth 100000 in
theorem shapesearchkeep_Src_List.calls (k : Nat) (g : Nat) (s0_0 : List Int) (s0_1 : Int) (a1 : Int) (r1 : List Int) (r2 : Int) (w0 w : World) (hI : IsS76 w0 w g s0_0 s0_1) (hB : Below w0.heap.size w0 w) (h : shapesearchkeep_Src_List.f k s0_0 s0_1 a1 = some (r1,r2)) :
  Calls Try.prog 40 #[.pointer (some ⟨g,0,none⟩),.int .i64 a1] w fun e w'=>∃ v0_ : Value,e = .returned (v0_)∧Kd.R (Kd.int .i64) 3 w' w.heap.size (fun _=>True) v0_ r1∧IsS76 w0 w' g s0_0 r2∧Below w0.heap.size w0 w'∧KeepBut w w' g none:=by
 have HI0:=A_ hI
 have HK:=A_ (KeepBut.refl w g none)
 have HL:=A_ hB.size
 clear hI
 have HW0:=A_ hB.size
 have HB:=A_ hB
 clear hB
 have H : ((shapesearchkeep_Src_N.f s0_0 s0_1 6).bind fun bt110=>((shapesearchkeep_Src_Pick.f s0_0 bt110.2 (([1,3,10,100,1000] : List Int))).bind fun bt115=>((shapesearchkeep_Src_N.f s0_0 bt115.2 3).bind fun bt117=>(if bt117.1 = 0 then ((shapesearchkeep_Src_Range.f s0_0 bt117.2 (-1000) 1000).bind fun bt119=>(shapesearchkeep_Src_List.j0 k a1 bt110.1 bt115.1 bt119.1 s0_0 bt119.2)) else (shapesearchkeep_Src_List.j0 k a1 bt110.1 bt115.1 0 s0_0 bt117.2))))) = some (r1,r2):=h
 clear h
 replace H:=Option.bind_eq_some_iff.mp H
 obtain ⟨⟨t110,t111⟩,A30,H⟩:=H
 replace H : ((shapesearchkeep_Src_Pick.f s0_0 t111 (([1,3,10,100,1000] : List Int))).bind fun bt115=>((shapesearchkeep_Src_N.f s0_0 bt115.2 3).bind fun bt117=>(if bt117.1 = 0 then ((shapesearchkeep_Src_Range.f s0_0 bt117.2 (-1000) 1000).bind fun bt119=>(shapesearchkeep_Src_List.j0 k a1 t110 bt115.1 bt119.1 s0_0 bt119.2)) else (shapesearchkeep_Src_List.j0 k a1 t110 bt115.1 0 s0_0 bt117.2)))) = some (r1,r2):=H
 have A3:=A_ A30
 clear A30
 obtain ⟨y112,hy112⟩ : ∃ y_ : List Int,y_ = (([1,3,10,100,1000] : List Int)):=⟨_,rfl⟩
 replace H : ((shapesearchkeep_Src_Pick.f s0_0 t111 y112).bind fun bt115=>((shapesearchkeep_Src_N.f s0_0 bt115.2 3).bind fun bt117=>(if bt117.1 = 0 then ((shapesearchkeep_Src_Range.f s0_0 bt117.2 (-1000) 1000).bind fun bt119=>(shapesearchkeep_Src_List.j0 k a1 t110 bt115.1 bt119.1 s0_0 bt119.2)) else (shapesearchkeep_Src_List.j0 k a1 t110 bt115.1 0 s0_0 bt117.2)))) = some (r1,r2):=by first|(rw [hy112];with_reducible exact H)|(have H2_:=(Option.bind_some _ _).symm.trans H;rw [hy112];with_reducible exact H2_)|(have H2_:=(Option.bind_some _ _).symm.trans H;with_reducible exact H2_)|with_reducible exact H|(rw [hy112];exact H)|exact H
 have Ny112:=A_ hy112
 clear hy112
 replace H:=Option.bind_eq_some_iff.mp H
 obtain ⟨⟨t115,t116⟩,A40,H⟩:=H
 replace H : ((shapesearchkeep_Src_N.f s0_0 t116 3).bind fun bt117=>(if bt117.1 = 0 then ((shapesearchkeep_Src_Range.f s0_0 bt117.2 (-1000) 1000).bind fun bt119=>(shapesearchkeep_Src_List.j0 k a1 t110 t115 bt119.1 s0_0 bt119.2)) else (shapesearchkeep_Src_List.j0 k a1 t110 t115 0 s0_0 bt117.2))) = some (r1,r2):=H
 have A4:=A_ A40
 clear A40
 replace H:=Option.bind_eq_some_iff.mp H
 obtain ⟨⟨t117,t118⟩,A50,H⟩:=H
 replace H : (if t117 = 0 then ((shapesearchkeep_Src_Range.f s0_0 t118 (-1000) 1000).bind fun bt119=>(shapesearchkeep_Src_List.j0 k a1 t110 t115 bt119.1 s0_0 bt119.2)) else (shapesearchkeep_Src_List.j0 k a1 t110 t115 0 s0_0 t118)) = some (r1,r2):=H
 have A5:=A_ A50
 clear A50
 have HC6:=A_ H
 clear H
 go_enter Try.func40,Try.ntmps40
 go_upto_if 17 with (first|((with_reducible refine gate_callee (f:=33) rfl ?_);refine gl (some 11) Try.func33 #[.pointer (some ⟨g,0,none⟩),.int .i64 6] ?_;(with_reducible refine (shapesearchkeep_Src_N.calls g s0_0 s0_1 6 t110 t111 w0 _ ?side1 ?side2 A3.out).mono ?_);(case side1=>exact uq4);(case side2=>exact uq6);rintro e w7 ⟨rfl,hi,hb,hk⟩;refine ⟨_,rfl,?_⟩;replace HK:=A_ (KeepBut.trans uq5 hk (.inl rfl));replace HB:=A_ (hb);replace HI0:=A_ (hi);(try clear hb);(try clear hb2);(try clear hk);(try clear hi))|((with_reducible refine gate_dst (N:=13) rfl ?_);refine Kd.R_lit (Kd.int .i64) _ 3 ?hg (N:=13) ?hd (xs:=([1,3,10,100,1000] : List Int)) (inner:=[.int .i64 1,.int .i64 3,.int .i64 10,.int .i64 100,.int .i64 1000]) (ok:=fun _=>True) (okp:=fun _=>True) ?hr ?hp (fun _ hk=>hk) trivial (Below.refl _ _) (Nat.le_refl _) (by simp) ?_;(case hd=>rfl);(case hg=>rfl);(case hr=>first|(go_simp;done)|(go_simp;rfl));(case hp=>exact (Reps.one (show Kd.M (Kd.int .i64) _ _ _ 1 [.int .i64 1] from rfl) (Reps.one (show Kd.M (Kd.int .i64) _ _ _ 3 [.int .i64 3] from rfl) (Reps.one (show Kd.M (Kd.int .i64) _ _ _ 10 [.int .i64 10] from rfl) (Reps.one (show Kd.M (Kd.int .i64) _ _ _ 100 [.int .i64 100] from rfl) (Reps.one (show Kd.M (Kd.int .i64) _ _ _ 1000 [.int .i64 1000] from rfl) (Reps.none _ _)))))));intro v113 w8 ho9 hb hg_ hnew_;clear hg_ hnew_;(first|rw [← Ny112.out] at ho9|(simp only [Int.reduceToNat] at ho9;rw [← Ny112.out] at ho9));have HO114:=A_ (Kd.R_lower ho9 (keep_size (w:=w) (g:=g) (row:=none) uq5));replace HI0:=A_ (IsS76.below uq4 hb);replace HK:=A_ (KeepBut.trans uq5 (KeepBut.of_below hb g none) (.inl rfl));replace HB:=A_ (below_step uq6 hb);clear hb ho9;obtain ⟨Ao10,co10,eo10⟩:=Kd.R_slice HO114.out;subst eo10)|((with_reducible refine gate_callee (f:=34) rfl ?_);refine gl (some 14) Try.func34 #[.pointer (some ⟨g,0,none⟩),.slice Ao10 y112.length co10] ?_;(with_reducible refine (shapesearchkeep_Src_Pick.calls g s0_0 t111 _ _ y112 t115 t116 w0 _ ?side1 ?side2 ?side3 ?side4 ?side5 A4.out).mono ?_);(case side1=>exact uq4);(case side2=>exact uq6);(case side3=>exact cx ((rd_ HO114.out).2.2));(case side4=>exact (rd_ HO114.out).2.1);(case side5=>exact far_slice (IsS76.own_ne HI0.out HO114.out (by decide)));rintro e w11 ⟨rfl,hi,hb,hk⟩;refine ⟨_,rfl,?_⟩;replace HO114:=A_ (rm (Kd.R_keep (IsS76.apart (show IsS76 w0 _ g s0_0 t111 from uq4) (rx HO114.out) (by decide)) hk (fun _ h=>h.2)) (fun _ h=>h.1));replace HK:=A_ (KeepBut.trans uq5 hk (.inl rfl));replace HB:=A_ (hb);replace HI0:=A_ (hi);(try clear hb);(try clear hb2);(try clear hk);(try clear hi))|((with_reducible refine gate_callee (f:=33) rfl ?_);refine gl (some 16) Try.func33 #[.pointer (some ⟨g,0,none⟩),.int .i64 3] ?_;(with_reducible refine (shapesearchkeep_Src_N.calls g s0_0 t116 3 t117 t118 w0 _ ?side1 ?side2 A5.out).mono ?_);(case side1=>exact uq4);(case side2=>exact uq6);rintro e w12 ⟨rfl,hi,hb,hk⟩;refine ⟨_,rfl,?_⟩;replace HO114:=A_ (rm (Kd.R_keep (IsS76.apart (show IsS76 w0 _ g s0_0 t116 from uq4) (rx HO114.out) (by decide)) hk (fun _ h=>h.2)) (fun _ h=>h.1));replace HK:=A_ (KeepBut.trans uq5 hk (.inl rfl));replace HB:=A_ (hb);replace HI0:=A_ (hi);(try clear hb);(try clear hb2);(try clear hk);(try clear hi)))
 (try simp only [Act.put,List.setIfInBounds_toArray,List.set_cons_zero,List.set_cons_succ])
 go_cut [7] (fun v7 wc=>∃ (kq : Nat) (x7_5 : Int) (x1001_5 : Int),v7 = .int .i64 x7_5∧Aside0 (shapesearchkeep_Src_List.j0 kq a1 t110 t115 x7_5 s0_0 x1001_5 = some (r1,r2))∧Aside0 (kq ≤ k)∧Aside0 (IsS76 w0 wc g s0_0 x1001_5)∧Aside0 (KeepBut w wc g none)∧Aside0 (Below w0.heap.size w0 wc))
 case first =>
  have H:=HC6.out
  clear HC6
  by_cases c13 : t117 = 0
  ·
   rw [if_pos c13] at H
   have c13b0 : (t117 == 0) = true:=beq_iff_eq.mpr c13
   have c13b1 : (t117 != 0) = false:=bne_eq_false_iff_eq.mpr c13
   clear c13
   (first|rw [c13b0]|(simp only [i64_w,i32_w];rw [c13b0])|skip)
   replace H:=Option.bind_eq_some_iff.mp H
   obtain ⟨⟨t119,t120⟩,A140,H⟩:=H
   replace H : (shapesearchkeep_Src_List.j0 k a1 t110 t115 t119 s0_0 t120) = some (r1,r2):=H
   have A14:=A_ A140
   clear A140
   have H':=A_ H
   clear H
   go_wp2_with (first|((with_reducible refine gate_callee (f:=35) rfl ?_);refine gl (some 19) Try.func35 #[.pointer (some ⟨g,0,none⟩),.int .i64 (-1000),.int .i64 1000] ?_;(with_reducible refine (shapesearchkeep_Src_Range.calls g s0_0 t118 (-1000) 1000 t119 t120 w0 _ ?side1 ?side2 A14.out).mono ?_);(case side1=>exact uq4);(case side2=>exact uq6);rintro e w15 ⟨rfl,hi,hb,hk⟩;refine ⟨_,rfl,?_⟩;replace HO114:=A_ (rm (Kd.R_keep (IsS76.apart (show IsS76 w0 _ g s0_0 t118 from uq4) (rx HO114.out) (by decide)) hk (fun _ h=>h.2)) (fun _ h=>h.1));replace HK:=A_ (KeepBut.trans uq5 hk (.inl rfl));replace HB:=A_ (hb);replace HI0:=A_ (hi);(try clear hb);(try clear hb2);(try clear hk);(try clear hi)))
   go_meet
   case rel=>exact ⟨_,(t119),(t120),uq2,H',⟨by first|omega|exact Nat.le_refl _⟩,⟨uq4⟩,⟨uq5⟩,⟨uq6⟩⟩
  ·
   rw [if_neg c13] at H
   have c13b0 : (t117 == 0) = false:=beq_eq_false_iff_ne.mpr c13
   have c13b1 : (t117 != 0) = true:=bne_iff_ne.mpr c13
   (first|rw [c13b0]|(simp only [i64_w,i32_w];rw [c13b0])|skip)
   have H':=A_ H
   clear H
   go_wp2
   go_meet
   case rel=>exact ⟨_,(0),(t118),uq2,H',⟨by first|omega|exact Nat.le_refl _⟩,⟨uq4⟩,⟨uq5⟩,⟨uq6⟩⟩
 case rest =>
  clear HC6
  try clear c1
  try clear p2
  try clear c3
  try clear c4
  try clear c13
  try clear c13b0
  try clear c13b1
  obtain ⟨kq,x7_5,x1001_5,rfl,HA,HJ5,HI0,HK,HB⟩:=hcut
  cases kq with
  | zero=>exact absurd HA.out (by simp [shapesearchkeep_Src_List.j0])
  | succ kj5 =>
   have H:=HA.out
   clear HA
   simp only [shapesearchkeep_Src_List.j0] at H
   have H':=A_ H
   clear H
   go_wp2
   go_loopg [7,8,9] kj5 (fun kq v7 v8 v9 w'=>∃ (x7_2 : Int) (x8_2 : List Int) (x9_2 : Int) (x1001_2 : Int),v7 = .int .i64 x7_2∧v9 = .int .i64 x9_2∧Aside0 (shapesearchkeep_Src_List.l0 kq a1 t110 t115 x7_2 x8_2 x9_2 s0_0 x1001_2 = some (r1,r2))∧Aside0 (kq ≤ kj5)∧Aside0 (Kd.R (Kd.int .i64) 3 w' w.heap.size (fun _=>True) v8 x8_2)∧Aside0 (IsS76 w0 w' g s0_0 x1001_2)∧Aside0 (KeepBut w w' g none)∧Aside0 (Below w0.heap.size w0 w'))
   case atStart=>exact ⟨(x7_5),(([] : List Int)),(0),(x1001_5),uq2,uq2,H',⟨Nat.le_refl _⟩,⟨by first|exact Kd.R_nil _ _ _ _ _|exact Kd.N_nil _ _ _ _ _|exact Kd.V_nil _ _ _ _ _|exact Kd.Q_nil _ _ _ _ _|exact Kd.S_nil _ _ _ _ _⟩,⟨uq4⟩,⟨uq5⟩,⟨uq6⟩⟩
   case round =>
    clear H'
    try clear c1
    try clear p2
    try clear c3
    try clear c4
    try clear c13
    try clear c13b0
    try clear c13b1
    try clear p2
    obtain ⟨x7_2,x8_2,x9_2,x1001_2,rfl,rfl,HA,HK2,HO_8,HI0,HK,HB⟩:=hrel
    cases gk with
    | zero=>exact absurd HA.out (by simp [shapesearchkeep_Src_List.l0])
    | succ k2 =>
     have H:=HA.out
     clear HA
     simp only [shapesearchkeep_Src_List.l0] at H
     by_cases c16 : x9_2 < a1
     ·
      rw [if_pos c16] at H
      have c16b0 : decide (x9_2 < a1) = true:=decide_eq_true c16
      clear c16
      have HC17:=A_ H
      clear H
      go_upto_if 32 with (fail)
      go_cut [32] (fun v32 wc=>∃ (kq : Nat) (x32_16 : Bool),v32 = .bool x32_16∧Aside0 (shapesearchkeep_Src_List.j2 kq a1 t110 t115 x7_2 x8_2 x9_2 t110 x32_16 s0_0 x1001_2 = some (r1,r2))∧Aside0 (kq ≤ k2)∧Aside0 (Kd.R (Kd.int .i64) 3 wc w.heap.size (fun _=>True) u8 x8_2)∧Aside0 (IsS76 w0 wc g s0_0 x1001_2)∧Aside0 (KeepBut w wc g none)∧Aside0 (Below w0.heap.size w0 wc))
      case first =>
       have H:=HC17.out
       clear HC17
       by_cases c18 : t110 = 0
       ·
        rw [if_pos c18] at H
        have c18b0 : (t110 == 0) = true:=beq_iff_eq.mpr c18
        have c18b1 : (t110 != 0) = false:=bne_eq_false_iff_eq.mpr c18
        clear c18
        (first|rw [c18b0]|(simp only [i64_w,i32_w];rw [c18b0])|skip)
        have H':=A_ H
        clear H
        go_wp2
        go_meet
        case rel=>exact ⟨_,((t110 == 0)),uq2,H',⟨by have:=HJ5.out;have:=HK2.out;first|omega|exact Nat.le_refl _⟩,⟨rx HO_8.out⟩,⟨uq4⟩,⟨uq5⟩,⟨uq6⟩⟩
       ·
        rw [if_neg c18] at H
        have c18b0 : (t110 == 0) = false:=beq_eq_false_iff_ne.mpr c18
        have c18b1 : (t110 != 0) = true:=bne_iff_ne.mpr c18
        (first|rw [c18b0]|(simp only [i64_w,i32_w];rw [c18b0])|skip)
        have H':=A_ H
        clear H
        go_wp2
        go_meet
        case rel=>exact ⟨_,((t110 == 1)),uq2,H',⟨by have:=HJ5.out;have:=HK2.out;first|omega|exact Nat.le_refl _⟩,⟨rx HO_8.out⟩,⟨uq4⟩,⟨uq5⟩,⟨uq6⟩⟩
      case rest =>
       clear HC17
       try clear c1
       try clear p2
       try clear c3
       try clear c4
       try clear c13
       try clear c13b0
       try clear c13b1
       try clear c16
       try clear c16b0
       try clear c18
       try clear c18b0
       try clear c18b1
       try clear p2
       obtain ⟨kq,x32_16,rfl,HA,HJ16,HO_8,HI0,HK,HB⟩:=hcut
       cases kq with
       | zero=>exact absurd HA.out (by simp [shapesearchkeep_Src_List.j2])
       | succ kj16 =>
        have H:=HA.out
        clear HA
        simp only [shapesearchkeep_Src_List.j2] at H
        by_cases c19 : x32_16 = true
        ·
         subst c19
         have H1 : ((shapesearchkeep_Src_Range.f s0_0 x1001_2 (wrap64 (-t115)) t115).bind fun bt121=>(if x8_2.length < 17592186044416 then (shapesearchkeep_Src_List.l0 kj16 a1 t110 t115 x7_2 (x8_2 ++ [bt121.1]) (wrap64 (x9_2 + 1)) s0_0 bt121.2) else (none))) = some (r1,r2):=by rw [if_pos rfl] at H;exact H
         clear H
         have H:=H1
         clear H1
         replace H:=Option.bind_eq_some_iff.mp H
         obtain ⟨⟨t121,t122⟩,A200,H⟩:=H
         replace H : (if x8_2.length < 17592186044416 then (shapesearchkeep_Src_List.l0 kj16 a1 t110 t115 x7_2 (x8_2 ++ [t121]) (wrap64 (x9_2 + 1)) s0_0 t122) else (none)) = some (r1,r2):=H
         have A20:=A_ A200
         clear A200
         by_cases c21 : x8_2.length < 17592186044416
         ·
          rw [if_pos c21] at H
          have LMc21:=A_ c21
          clear c21
          obtain ⟨y123,hy123⟩ : ∃ y_ : List Int,y_ = (x8_2 ++ [t121]):=⟨_,rfl⟩
          replace H : (shapesearchkeep_Src_List.l0 kj16 a1 t110 t115 x7_2 y123 (wrap64 (x9_2 + 1)) s0_0 t122) = some (r1,r2):=by first|(rw [hy123];with_reducible exact H)|(have H2_:=(Option.bind_some _ _).symm.trans H;rw [hy123];with_reducible exact H2_)|(have H2_:=(Option.bind_some _ _).symm.trans H;with_reducible exact H2_)|with_reducible exact H|(rw [hy123];exact H)|exact H
          have Ny123:=A_ hy123
          clear hy123
          have H':=A_ H
          clear H
          go_wp2_with (first|((with_reducible refine gate_callee (f:=35) rfl ?_);refine gl (some 40) Try.func35 #[.pointer (some ⟨g,0,none⟩),.int .i64 (wrap64 (-t115)),.int .i64 t115] ?_;(with_reducible refine (shapesearchkeep_Src_Range.calls g s0_0 x1001_2 (wrap64 (-t115)) t115 t121 t122 w0 _ ?side1 ?side2 A20.out).mono ?_);(case side1=>exact uq4);(case side2=>exact uq6);rintro e w22 ⟨rfl,hi,hb,hk⟩;refine ⟨_,rfl,?_⟩;replace HO_8:=A_ (rm (Kd.R_keep (IsS76.apart (show IsS76 w0 _ g s0_0 x1001_2 from uq4) (rx HO_8.out) (by decide)) hk (fun _ h=>h.2)) (fun _ h=>h.1));replace HK:=A_ (KeepBut.trans uq5 hk (.inl rfl));replace HB:=A_ (hb);replace HI0:=A_ (hi);(try clear hb);(try clear hb2);(try clear hk);(try clear hi))|((with_reducible refine gate_builtin (b:=.append) (xs:=#[.tmp 35,.tmp 41]) rfl ?_);at_builtin;refine Kd.R_append (Kd.int .i64) w.heap.size rfl (.tmp 35) (.tmp 41) 22 3 (.int .i64 0) 8 rfl Try.underlying22 info3 rfl (by decide) (by omega) u8 x8_2 t121 [.int .i64 t121] (fun _=>True) (fun _=>False) rfl rfl ?aP (fun _ hk=>hk.elim) ?aF ?aO (Below.refl _ _) ?aS ?aL ?_;(case aP=>exact rfl);(case aF=>exact (fun _ _=>trivial));(case aO=>exact (rx HO_8.out));(case aS=>exact (keep_size (w:=w) (g:=g) (row:=none) uq5));(case aL=>have:=LMc21.out;omega);intro v124 w23 ho hb hg hat;rw [← Ny123.out] at ho;replace HI0:=A_ (IsS76.grown uq4 hg (IsS76.own_ne HI0.out HO_8.out (by decide)));replace HB:=A_ (below_weaken uq6 HL.out hb);replace HK:=A_ (KeepBut.trans uq5 (KeepBut.of_grown hg g) (Kd.R_base2 HO_8.out));have HO125:=A_ (ho);clear HO_8;clear ho hb hg hat))
          go_roundg kj16
          case measure=>have:=HJ5.out;have:=HK2.out;have:=HJ16.out;omega
          case rel=>exact ⟨(x7_2),(y123),(wrap64 (x9_2 + 1)),(t122),uq2,uq2,H',⟨by have:=HJ5.out;have:=HK2.out;have:=HJ16.out;omega⟩,⟨rx HO125.out⟩,⟨uq4⟩,⟨uq5⟩,⟨uq6⟩⟩
         ·
          rw [if_neg c21] at H
          exact absurd H (by simp)
        ·
         replace c19:=Bool.eq_false_iff.mpr c19
         subst c19
         have H1 : (if t110 = 2 then (shapesearchkeep_Src_List.j3 kj16 a1 t110 t115 x7_2 x8_2 x9_2 t110 (t110 == 2) s0_0 x1001_2) else (shapesearchkeep_Src_List.j3 kj16 a1 t110 t115 x7_2 x8_2 x9_2 t110 (t110 == 3) s0_0 x1001_2)) = some (r1,r2):=by rw [if_neg (show ¬ (false = true) by decide)] at H;exact H
         clear H
         have H:=H1
         clear H1
         have HC24:=A_ H
         clear H
         go_upto_if 43 with (fail)
         go_cut [43] (fun v43 wc=>∃ (kq : Nat) (x43_23 : Bool),v43 = .bool x43_23∧Aside0 (shapesearchkeep_Src_List.j3 kq a1 t110 t115 x7_2 x8_2 x9_2 t110 x43_23 s0_0 x1001_2 = some (r1,r2))∧Aside0 (kq ≤ kj16)∧Aside0 (Kd.R (Kd.int .i64) 3 wc w.heap.size (fun _=>True) u8 x8_2)∧Aside0 (IsS76 w0 wc g s0_0 x1001_2)∧Aside0 (KeepBut w wc g none)∧Aside0 (Below w0.heap.size w0 wc))
         case first =>
          have H:=HC24.out
          clear HC24
          by_cases c25 : t110 = 2
          ·
           rw [if_pos c25] at H
           have c25b0 : (t110 == 2) = true:=beq_iff_eq.mpr c25
           have c25b1 : (t110 != 2) = false:=bne_eq_false_iff_eq.mpr c25
           clear c25
           (first|rw [c25b0]|(simp only [i64_w,i32_w];rw [c25b0])|skip)
           have H':=A_ H
           clear H
           go_wp2
           go_meet
           case rel=>exact ⟨_,((t110 == 2)),uq2,H',⟨by have:=HJ5.out;have:=HK2.out;have:=HJ16.out;first|omega|exact Nat.le_refl _⟩,⟨rx HO_8.out⟩,⟨uq4⟩,⟨uq5⟩,⟨uq6⟩⟩
          ·
           rw [if_neg c25] at H
           have c25b0 : (t110 == 2) = false:=beq_eq_false_iff_ne.mpr c25
           have c25b1 : (t110 != 2) = true:=bne_iff_ne.mpr c25
           (first|rw [c25b0]|(simp only [i64_w,i32_w];rw [c25b0])|skip)
           have H':=A_ H
           clear H
           go_wp2
           go_meet
           case rel=>exact ⟨_,((t110 == 3)),uq2,H',⟨by have:=HJ5.out;have:=HK2.out;have:=HJ16.out;first|omega|exact Nat.le_refl _⟩,⟨rx HO_8.out⟩,⟨uq4⟩,⟨uq5⟩,⟨uq6⟩⟩
         case rest =>
          clear HC24
          try clear c1
          try clear c2
          try clear p2
          try clear c3
          try clear c4
          try clear p6
          try clear c13
          try clear c13b0
          try clear c13b1
          try clear c16
          try clear c16b0
          try clear c18
          try clear c18b0
          try clear c18b1
          try clear c19
          try clear c21
          try clear c25
          try clear c25b0
          try clear c25b1
          try clear p2
          obtain ⟨kq,x43_23,rfl,HA,HJ23,HO_8,HI0,HK,HB⟩:=hcut
          cases kq with
          | zero=>exact absurd HA.out (by simp [shapesearchkeep_Src_List.j3])
          | succ kj23 =>
           have H:=HA.out
           clear HA
           simp only [shapesearchkeep_Src_List.j3] at H
           by_cases c26 : x43_23 = true
           ·
            subst c26
            have H1 : ((shapesearchkeep_Src_Range.f s0_0 x1001_2 (wrap64 (-t115)) t115).bind fun bt126=>((shapesearchkeep_clip.f (wrap64 (x7_2 + bt126.1))).bind fun t128=>(if x8_2.length < 17592186044416 then (shapesearchkeep_Src_List.l0 kj23 a1 t110 t115 t128 (x8_2 ++ [t128]) (wrap64 (x9_2 + 1)) s0_0 bt126.2) else (none)))) = some (r1,r2):=by rw [if_pos rfl] at H;exact H
            clear H
            have H:=H1
            clear H1
            replace H:=Option.bind_eq_some_iff.mp H
            obtain ⟨⟨t126,t127⟩,A270,H⟩:=H
            replace H : ((shapesearchkeep_clip.f (wrap64 (x7_2 + t126))).bind fun t128=>(if x8_2.length < 17592186044416 then (shapesearchkeep_Src_List.l0 kj23 a1 t110 t115 t128 (x8_2 ++ [t128]) (wrap64 (x9_2 + 1)) s0_0 t127) else (none))) = some (r1,r2):=H
            have A27:=A_ A270
            clear A270
            replace H:=Option.bind_eq_some_iff.mp H
            obtain ⟨t128,A280,H⟩:=H
            replace H : (if x8_2.length < 17592186044416 then (shapesearchkeep_Src_List.l0 kj23 a1 t110 t115 t128 (x8_2 ++ [t128]) (wrap64 (x9_2 + 1)) s0_0 t127) else (none)) = some (r1,r2):=H
            have A28:=A_ A280
            clear A280
            by_cases c29 : x8_2.length < 17592186044416
            ·
             rw [if_pos c29] at H
             have LMc29:=A_ c29
             clear c29
             obtain ⟨y129,hy129⟩ : ∃ y_ : List Int,y_ = (x8_2 ++ [t128]):=⟨_,rfl⟩
             replace H : (shapesearchkeep_Src_List.l0 kj23 a1 t110 t115 t128 y129 (wrap64 (x9_2 + 1)) s0_0 t127) = some (r1,r2):=by first|(rw [hy129];with_reducible exact H)|(have H2_:=(Option.bind_some _ _).symm.trans H;rw [hy129];with_reducible exact H2_)|(have H2_:=(Option.bind_some _ _).symm.trans H;with_reducible exact H2_)|with_reducible exact H|(rw [hy129];exact H)|exact H
             have Ny129:=A_ hy129
             clear hy129
             have H':=A_ H
             clear H
             go_wp2_with (first|((with_reducible refine gate_callee (f:=35) rfl ?_);refine gl (some 51) Try.func35 #[.pointer (some ⟨g,0,none⟩),.int .i64 (wrap64 (-t115)),.int .i64 t115] ?_;(with_reducible refine (shapesearchkeep_Src_Range.calls g s0_0 x1001_2 (wrap64 (-t115)) t115 t126 t127 w0 _ ?side1 ?side2 A27.out).mono ?_);(case side1=>exact uq4);(case side2=>exact uq6);rintro e w30 ⟨rfl,hi,hb,hk⟩;refine ⟨_,rfl,?_⟩;replace HO_8:=A_ (rm (Kd.R_keep (IsS76.apart (show IsS76 w0 _ g s0_0 x1001_2 from uq4) (rx HO_8.out) (by decide)) hk (fun _ h=>h.2)) (fun _ h=>h.1));replace HK:=A_ (KeepBut.trans uq5 hk (.inl rfl));replace HB:=A_ (hb);replace HI0:=A_ (hi);(try clear hb);(try clear hb2);(try clear hk);(try clear hi))|((with_reducible refine gate_callee (f:=61) rfl ?_);refine gl (some 53) Try.func61 #[.int .i64 (wrap64 (x7_2 + t126))] ?_;(with_reducible refine (shapesearchkeep_clip.calls (wrap64 (x7_2 + t126)) t128 _ A28.out).mono ?_);rintro e w31 ⟨rfl,hb⟩;refine ⟨_,rfl,?_⟩;replace HO_8:=A_ (rw_ (rx HO_8.out) hb);replace HI0:=A_ (IsS76.below uq4 hb);replace HK:=A_ (KeepBut.trans uq5 (KeepBut.of_below hb g none) (.inl rfl));replace HB:=A_ (below_step uq6 hb);(try clear hb);(try clear hb2);(try clear hk);(try clear hi))|((with_reducible refine gate_builtin (b:=.append) (xs:=#[.tmp 54,.tmp 56]) rfl ?_);at_builtin;refine Kd.R_append (Kd.int .i64) w.heap.size rfl (.tmp 54) (.tmp 56) 22 3 (.int .i64 0) 8 rfl Try.underlying22 info3 rfl (by decide) (by omega) u8 x8_2 t128 [.int .i64 t128] (fun _=>True) (fun _=>False) rfl rfl ?aP (fun _ hk=>hk.elim) ?aF ?aO (Below.refl _ _) ?aS ?aL ?_;(case aP=>exact rfl);(case aF=>exact (fun _ _=>trivial));(case aO=>exact (rx HO_8.out));(case aS=>exact (keep_size (w:=w) (g:=g) (row:=none) uq5));(case aL=>have:=LMc29.out;omega);intro v130 w32 ho hb hg hat;rw [← Ny129.out] at ho;replace HI0:=A_ (IsS76.grown uq4 hg (IsS76.own_ne HI0.out HO_8.out (by decide)));replace HB:=A_ (below_weaken uq6 HL.out hb);replace HK:=A_ (KeepBut.trans uq5 (KeepBut.of_grown hg g) (Kd.R_base2 HO_8.out));have HO131:=A_ (ho);clear HO_8;clear ho hb hg hat))
             go_roundg kj23
             case measure=>have:=HJ5.out;have:=HK2.out;have:=HJ16.out;have:=HJ23.out;omega
             case rel=>exact ⟨(t128),(y129),(wrap64 (x9_2 + 1)),(t127),uq2,uq2,H',⟨by have:=HJ5.out;have:=HK2.out;have:=HJ16.out;have:=HJ23.out;omega⟩,⟨rx HO131.out⟩,⟨uq4⟩,⟨uq5⟩,⟨uq6⟩⟩
            ·
             rw [if_neg c29] at H
             exact absurd H (by simp)
           ·
            replace c26:=Bool.eq_false_iff.mpr c26
            subst c26
            have H1 : (if t110 = 4 then ((shapesearchkeep_Src_N.f s0_0 x1001_2 4).bind fun bt132=>(if bt132.1 = 0 then ((shapesearchkeep_Src_Range.f s0_0 bt132.2 (wrap64 (-t115)) t115).bind fun bt134=>(if x8_2.length < 17592186044416 then (shapesearchkeep_Src_List.l0 kj23 a1 t110 t115 bt134.1 (x8_2 ++ [bt134.1]) (wrap64 (x9_2 + 1)) s0_0 bt134.2) else (none))) else (if x8_2.length < 17592186044416 then (shapesearchkeep_Src_List.l0 kj23 a1 t110 t115 x7_2 (x8_2 ++ [x7_2]) (wrap64 (x9_2 + 1)) s0_0 bt132.2) else (none)))) else ((shapesearchkeep_Src_Pick.f s0_0 x1001_2 (([(-1000),1000,1000,0] : List Int))).bind fun bt145=>(if x8_2.length < 17592186044416 then (shapesearchkeep_Src_List.l0 kj23 a1 t110 t115 x7_2 (x8_2 ++ [bt145.1]) (wrap64 (x9_2 + 1)) s0_0 bt145.2) else (none)))) = some (r1,r2):=by rw [if_neg (show ¬ (false = true) by decide)] at H;exact H
            clear H
            have H:=H1
            clear H1
            by_cases c33 : t110 = 4
            ·
             rw [if_pos c33] at H
             have c33b0 : (t110 == 4) = true:=beq_iff_eq.mpr c33
             have c33b1 : (t110 != 4) = false:=bne_eq_false_iff_eq.mpr c33
             clear c33
             replace H:=Option.bind_eq_some_iff.mp H
             obtain ⟨⟨t132,t133⟩,A340,H⟩:=H
             replace H : (if t132 = 0 then ((shapesearchkeep_Src_Range.f s0_0 t133 (wrap64 (-t115)) t115).bind fun bt134=>(if x8_2.length < 17592186044416 then (shapesearchkeep_Src_List.l0 kj23 a1 t110 t115 bt134.1 (x8_2 ++ [bt134.1]) (wrap64 (x9_2 + 1)) s0_0 bt134.2) else (none))) else (if x8_2.length < 17592186044416 then (shapesearchkeep_Src_List.l0 kj23 a1 t110 t115 x7_2 (x8_2 ++ [x7_2]) (wrap64 (x9_2 + 1)) s0_0 t133) else (none))) = some (r1,r2):=H
             have A34:=A_ A340
             clear A340
             by_cases c35 : t132 = 0
             ·
              rw [if_pos c35] at H
              have c35b0 : (t132 == 0) = true:=beq_iff_eq.mpr c35
              have c35b1 : (t132 != 0) = false:=bne_eq_false_iff_eq.mpr c35
              clear c35
              replace H:=Option.bind_eq_some_iff.mp H
              obtain ⟨⟨t134,t135⟩,A360,H⟩:=H
              replace H : (if x8_2.length < 17592186044416 then (shapesearchkeep_Src_List.l0 kj23 a1 t110 t115 t134 (x8_2 ++ [t134]) (wrap64 (x9_2 + 1)) s0_0 t135) else (none)) = some (r1,r2):=H
              have A36:=A_ A360
              clear A360
              by_cases c37 : x8_2.length < 17592186044416
              ·
               rw [if_pos c37] at H
               have LMc37:=A_ c37
               clear c37
               obtain ⟨y136,hy136⟩ : ∃ y_ : List Int,y_ = (x8_2 ++ [t134]):=⟨_,rfl⟩
               replace H : (shapesearchkeep_Src_List.l0 kj23 a1 t110 t115 t134 y136 (wrap64 (x9_2 + 1)) s0_0 t135) = some (r1,r2):=by first|(rw [hy136];with_reducible exact H)|(have H2_:=(Option.bind_some _ _).symm.trans H;rw [hy136];with_reducible exact H2_)|(have H2_:=(Option.bind_some _ _).symm.trans H;with_reducible exact H2_)|with_reducible exact H|(rw [hy136];exact H)|exact H
               have Ny136:=A_ hy136
               clear hy136
               have H':=A_ H
               clear H
               go_wp2_with (first|((with_reducible refine gate_callee (f:=33) rfl ?_);refine gl (some 61) Try.func33 #[.pointer (some ⟨g,0,none⟩),.int .i64 4] ?_;(with_reducible refine (shapesearchkeep_Src_N.calls g s0_0 x1001_2 4 t132 t133 w0 _ ?side1 ?side2 A34.out).mono ?_);(case side1=>exact uq4);(case side2=>exact uq6);rintro e w38 ⟨rfl,hi,hb,hk⟩;refine ⟨_,rfl,?_⟩;replace HO_8:=A_ (rm (Kd.R_keep (IsS76.apart (show IsS76 w0 _ g s0_0 x1001_2 from uq4) (rx HO_8.out) (by decide)) hk (fun _ h=>h.2)) (fun _ h=>h.1));replace HK:=A_ (KeepBut.trans uq5 hk (.inl rfl));replace HB:=A_ (hb);replace HI0:=A_ (hi);(try clear hb);(try clear hb2);(try clear hk);(try clear hi))|((with_reducible refine gate_callee (f:=35) rfl ?_);refine gl (some 67) Try.func35 #[.pointer (some ⟨g,0,none⟩),.int .i64 (wrap64 (-t115)),.int .i64 t115] ?_;(with_reducible refine (shapesearchkeep_Src_Range.calls g s0_0 t133 (wrap64 (-t115)) t115 t134 t135 w0 _ ?side1 ?side2 A36.out).mono ?_);(case side1=>exact uq4);(case side2=>exact uq6);rintro e w39 ⟨rfl,hi,hb,hk⟩;refine ⟨_,rfl,?_⟩;replace HO_8:=A_ (rm (Kd.R_keep (IsS76.apart (show IsS76 w0 _ g s0_0 t133 from uq4) (rx HO_8.out) (by decide)) hk (fun _ h=>h.2)) (fun _ h=>h.1));replace HK:=A_ (KeepBut.trans uq5 hk (.inl rfl));replace HB:=A_ (hb);replace HI0:=A_ (hi);(try clear hb);(try clear hb2);(try clear hk);(try clear hi))|((with_reducible refine gate_builtin (b:=.append) (xs:=#[.tmp 68,.tmp 70]) rfl ?_);at_builtin;refine Kd.R_append (Kd.int .i64) w.heap.size rfl (.tmp 68) (.tmp 70) 22 3 (.int .i64 0) 8 rfl Try.underlying22 info3 rfl (by decide) (by omega) u8 x8_2 t134 [.int .i64 t134] (fun _=>True) (fun _=>False) rfl rfl ?aP (fun _ hk=>hk.elim) ?aF ?aO (Below.refl _ _) ?aS ?aL ?_;(case aP=>exact rfl);(case aF=>exact (fun _ _=>trivial));(case aO=>exact (rx HO_8.out));(case aS=>exact (keep_size (w:=w) (g:=g) (row:=none) uq5));(case aL=>have:=LMc37.out;omega);intro v137 w40 ho hb hg hat;rw [← Ny136.out] at ho;replace HI0:=A_ (IsS76.grown uq4 hg (IsS76.own_ne HI0.out HO_8.out (by decide)));replace HB:=A_ (below_weaken uq6 HL.out hb);replace HK:=A_ (KeepBut.trans uq5 (KeepBut.of_grown hg g) (Kd.R_base2 HO_8.out));have HO138:=A_ (ho);clear HO_8;clear ho hb hg hat))
               go_roundg kj23
               case measure=>have:=HJ5.out;have:=HK2.out;have:=HJ16.out;have:=HJ23.out;omega
               case rel=>exact ⟨(t134),(y136),(wrap64 (x9_2 + 1)),(t135),uq2,uq2,H',⟨by have:=HJ5.out;have:=HK2.out;have:=HJ16.out;have:=HJ23.out;omega⟩,⟨rx HO138.out⟩,⟨uq4⟩,⟨uq5⟩,⟨uq6⟩⟩
              ·
               rw [if_neg c37] at H
               exact absurd H (by simp)
             ·
              rw [if_neg c35] at H
              have c35b0 : (t132 == 0) = false:=beq_eq_false_iff_ne.mpr c35
              have c35b1 : (t132 != 0) = true:=bne_iff_ne.mpr c35
              by_cases c41 : x8_2.length < 17592186044416
              ·
               rw [if_pos c41] at H
               have LMc41:=A_ c41
               clear c41
               obtain ⟨y139,hy139⟩ : ∃ y_ : List Int,y_ = (x8_2 ++ [x7_2]):=⟨_,rfl⟩
               replace H : (shapesearchkeep_Src_List.l0 kj23 a1 t110 t115 x7_2 y139 (wrap64 (x9_2 + 1)) s0_0 t133) = some (r1,r2):=by first|(rw [hy139];with_reducible exact H)|(have H2_:=(Option.bind_some _ _).symm.trans H;rw [hy139];with_reducible exact H2_)|(have H2_:=(Option.bind_some _ _).symm.trans H;with_reducible exact H2_)|with_reducible exact H|(rw [hy139];exact H)|exact H
               have Ny139:=A_ hy139
               clear hy139
               have H':=A_ H
               clear H
               go_wp2_with (first|((with_reducible refine gate_callee (f:=33) rfl ?_);refine gl (some 61) Try.func33 #[.pointer (some ⟨g,0,none⟩),.int .i64 4] ?_;(with_reducible refine (shapesearchkeep_Src_N.calls g s0_0 x1001_2 4 t132 t133 w0 _ ?side1 ?side2 A34.out).mono ?_);(case side1=>exact uq4);(case side2=>exact uq6);rintro e w42 ⟨rfl,hi,hb,hk⟩;refine ⟨_,rfl,?_⟩;replace HO_8:=A_ (rm (Kd.R_keep (IsS76.apart (show IsS76 w0 _ g s0_0 x1001_2 from uq4) (rx HO_8.out) (by decide)) hk (fun _ h=>h.2)) (fun _ h=>h.1));replace HK:=A_ (KeepBut.trans uq5 hk (.inl rfl));replace HB:=A_ (hb);replace HI0:=A_ (hi);(try clear hb);(try clear hb2);(try clear hk);(try clear hi))|((with_reducible refine gate_builtin (b:=.append) (xs:=#[.tmp 68,.tmp 70]) rfl ?_);at_builtin;refine Kd.R_append (Kd.int .i64) w.heap.size rfl (.tmp 68) (.tmp 70) 22 3 (.int .i64 0) 8 rfl Try.underlying22 info3 rfl (by decide) (by omega) u8 x8_2 x7_2 [.int .i64 x7_2] (fun _=>True) (fun _=>False) rfl rfl ?aP (fun _ hk=>hk.elim) ?aF ?aO (Below.refl _ _) ?aS ?aL ?_;(case aP=>exact rfl);(case aF=>exact (fun _ _=>trivial));(case aO=>exact (rx HO_8.out));(case aS=>exact (keep_size (w:=w) (g:=g) (row:=none) uq5));(case aL=>have:=LMc41.out;omega);intro v140 w43 ho hb hg hat;rw [← Ny139.out] at ho;replace HI0:=A_ (IsS76.grown uq4 hg (IsS76.own_ne HI0.out HO_8.out (by decide)));replace HB:=A_ (below_weaken uq6 HL.out hb);replace HK:=A_ (KeepBut.trans uq5 (KeepBut.of_grown hg g) (Kd.R_base2 HO_8.out));have HO141:=A_ (ho);clear HO_8;clear ho hb hg hat))
               go_roundg kj23
               case measure=>have:=HJ5.out;have:=HK2.out;have:=HJ16.out;have:=HJ23.out;omega
               case rel=>exact ⟨(x7_2),(y139),(wrap64 (x9_2 + 1)),(t133),uq2,uq2,H',⟨by have:=HJ5.out;have:=HK2.out;have:=HJ16.out;have:=HJ23.out;omega⟩,⟨rx HO141.out⟩,⟨uq4⟩,⟨uq5⟩,⟨uq6⟩⟩
              ·
               rw [if_neg c41] at H
               exact absurd H (by simp)
            ·
             rw [if_neg c33] at H
             have c33b0 : (t110 == 4) = false:=beq_eq_false_iff_ne.mpr c33
             have c33b1 : (t110 != 4) = true:=bne_iff_ne.mpr c33
             obtain ⟨y142,hy142⟩ : ∃ y_ : List Int,y_ = (([(-1000),1000,1000,0] : List Int)):=⟨_,rfl⟩
             replace H : ((shapesearchkeep_Src_Pick.f s0_0 x1001_2 y142).bind fun bt145=>(if x8_2.length < 17592186044416 then (shapesearchkeep_Src_List.l0 kj23 a1 t110 t115 x7_2 (x8_2 ++ [bt145.1]) (wrap64 (x9_2 + 1)) s0_0 bt145.2) else (none))) = some (r1,r2):=by first|(rw [hy142];with_reducible exact H)|(have H2_:=(Option.bind_some _ _).symm.trans H;rw [hy142];with_reducible exact H2_)|(have H2_:=(Option.bind_some _ _).symm.trans H;with_reducible exact H2_)|with_reducible exact H|(rw [hy142];exact H)|exact H
             have Ny142:=A_ hy142
             clear hy142
             replace H:=Option.bind_eq_some_iff.mp H
             obtain ⟨⟨t145,t146⟩,A440,H⟩:=H
             replace H : (if x8_2.length < 17592186044416 then (shapesearchkeep_Src_List.l0 kj23 a1 t110 t115 x7_2 (x8_2 ++ [t145]) (wrap64 (x9_2 + 1)) s0_0 t146) else (none)) = some (r1,r2):=H
             have A44:=A_ A440
             clear A440
             by_cases c45 : x8_2.length < 17592186044416
             ·
              rw [if_pos c45] at H
              have LMc45:=A_ c45
              clear c45
              obtain ⟨y147,hy147⟩ : ∃ y_ : List Int,y_ = (x8_2 ++ [t145]):=⟨_,rfl⟩
              replace H : (shapesearchkeep_Src_List.l0 kj23 a1 t110 t115 x7_2 y147 (wrap64 (x9_2 + 1)) s0_0 t146) = some (r1,r2):=by first|(rw [hy147];with_reducible exact H)|(have H2_:=(Option.bind_some _ _).symm.trans H;rw [hy147];with_reducible exact H2_)|(have H2_:=(Option.bind_some _ _).symm.trans H;with_reducible exact H2_)|with_reducible exact H|(rw [hy147];exact H)|exact H
              have Ny147:=A_ hy147
              clear hy147
              have H':=A_ H
              clear H
              go_wp2_with (first|((with_reducible refine gate_dst (N:=28) rfl ?_);refine Kd.R_lit (Kd.int .i64) _ 3 ?hg (N:=28) ?hd (xs:=([(-1000),1000,1000,0] : List Int)) (inner:=[.int .i64 (-1000),.int .i64 1000,.int .i64 1000,.int .i64 0]) (ok:=fun _=>True) (okp:=fun _=>True) ?hr ?hp (fun _ hk=>hk) trivial (Below.refl _ _) (Nat.le_refl _) (by simp) ?_;(case hd=>rfl);(case hg=>rfl);(case hr=>first|(go_simp;done)|(go_simp;rfl));(case hp=>exact (Reps.one (show Kd.M (Kd.int .i64) _ _ _ (-1000) [.int .i64 (-1000)] from rfl) (Reps.one (show Kd.M (Kd.int .i64) _ _ _ 1000 [.int .i64 1000] from rfl) (Reps.one (show Kd.M (Kd.int .i64) _ _ _ 1000 [.int .i64 1000] from rfl) (Reps.one (show Kd.M (Kd.int .i64) _ _ _ 0 [.int .i64 0] from rfl) (Reps.none _ _))))));intro v143 w46 ho47 hb hg_ hnew_;clear hg_ hnew_;(first|rw [← Ny142.out] at ho47|(simp only [Int.reduceToNat] at ho47;rw [← Ny142.out] at ho47));have n0_:=A_ (re (rx HO_8.out) (rs ho47) hb);have n1_:=A_ (Kd.R_lower (rn ho47 (rl (rx HO_8.out))) (keep_size (w:=w) (g:=g) (row:=none) uq5));have n2_:=A_ (IsS76.below uq4 hb);have n3_:=A_ (KeepBut.trans uq5 (KeepBut.of_below hb g none) (.inl rfl));have n4_:=A_ (below_step uq6 hb);clear HO_8;clear HI0;clear HK;clear HB;have HO_8:=n0_;have HO144:=n1_;have HI0:=n2_;have HK:=n3_;have HB:=n4_;clear n0_ n1_ n2_ n3_ n4_;clear hb ho47;obtain ⟨Ao48,co48,eo48⟩:=Kd.R_slice HO144.out;subst eo48)|((with_reducible refine gate_callee (f:=34) rfl ?_);refine gl (some 29) Try.func34 #[.pointer (some ⟨g,0,none⟩),.slice Ao48 y142.length co48] ?_;(with_reducible refine (shapesearchkeep_Src_Pick.calls g s0_0 x1001_2 _ _ y142 t145 t146 w0 _ ?side1 ?side2 ?side3 ?side4 ?side5 A44.out).mono ?_);(case side1=>exact uq4);(case side2=>exact uq6);(case side3=>exact cx ((rd_ HO144.out).2.2));(case side4=>exact (rd_ HO144.out).2.1);(case side5=>exact far_slice (IsS76.own_ne HI0.out HO144.out (by decide)));rintro e w49 ⟨rfl,hi,hb,hk⟩;refine ⟨_,rfl,?_⟩;replace HO_8:=A_ (rm (Kd.R_keep (IsS76.apart (show IsS76 w0 _ g s0_0 x1001_2 from uq4) (rx HO_8.out) (by decide)) hk (fun _ h=>h.2)) (fun _ h=>h.1));replace HO144:=A_ (rm (Kd.R_keep (IsS76.apart (show IsS76 w0 _ g s0_0 x1001_2 from uq4) (rx HO144.out) (by decide)) hk (fun _ h=>h.2)) (fun _ h=>h.1));replace HK:=A_ (KeepBut.trans uq5 hk (.inl rfl));replace HB:=A_ (hb);replace HI0:=A_ (hi);(try clear hb);(try clear hb2);(try clear hk);(try clear hi))|((with_reducible refine gate_builtin (b:=.append) (xs:=#[.tmp 26,.tmp 30]) rfl ?_);at_builtin;refine Kd.R_append (Kd.int .i64) w.heap.size rfl (.tmp 26) (.tmp 30) 22 3 (.int .i64 0) 8 rfl Try.underlying22 info3 rfl (by decide) (by omega) u8 x8_2 t145 [.int .i64 t145] (fun k_=>nb k_ (.slice Ao48 y142.length co48)) (fun _=>False) rfl rfl ?aP (fun _ hk=>hk.elim) ?aF ?aO (Below.refl _ _) ?aS ?aL ?_;(case aP=>exact rfl);(case aF=>exact (fun k_ hk=>rh (rl (rx HO144.out)) k_ hk));(case aO=>exact (by (with_reducible repeat (first|apply ra|apply rb|apply rc));exact rm HO_8.out (fun _ hk=>hk.2)));(case aS=>exact (keep_size (w:=w) (g:=g) (row:=none) uq5));(case aL=>have:=LMc45.out;omega);intro v148 w50 ho hb hg hat;rw [← Ny147.out] at ho;replace HI0:=A_ (IsS76.grown uq4 hg (IsS76.own_ne HI0.out HO_8.out (by decide)));replace HO144:=A_ (rf (ok:=(fun _=>True)) (by (with_reducible repeat (first|apply ra|apply rb|apply rc));first|exact HO144.out|exact rm HO144.out (fun _ h_=>⟨trivial,h_⟩)) hg hat);replace HB:=A_ (below_weaken uq6 HL.out hb);replace HK:=A_ (KeepBut.trans uq5 (KeepBut.of_grown hg g) (Kd.R_base2 HO_8.out));have HO149:=A_ (ho);clear HO_8;clear ho hb hg hat))
              go_roundg kj23
              case measure=>have:=HJ5.out;have:=HK2.out;have:=HJ16.out;have:=HJ23.out;omega
              case rel=>exact ⟨(x7_2),(y147),(wrap64 (x9_2 + 1)),(t146),uq2,uq2,H',⟨by have:=HJ5.out;have:=HK2.out;have:=HJ16.out;have:=HJ23.out;omega⟩,⟨by (with_reducible repeat (first|apply ra|apply rb|apply rc));exact rm HO149.out (fun _ hk=>trivial)⟩,⟨uq4⟩,⟨uq5⟩,⟨uq6⟩⟩
             ·
              rw [if_neg c45] at H
              exact absurd H (by simp)
     ·
      rw [if_neg c16] at H
      have c16b0 : decide (x9_2 < a1) = false:=decide_eq_false c16
      clear c16
      simp only [Option.some.injEq,Prod.mk.injEq] at H
      obtain ⟨rfl,rfl⟩:=H
      go_wp2
      go_ret
      exact ⟨_,by first|rfl|(simp [errW_none,errW_some] <;> rfl)|(simp [*,errW_none,errW_some] <;> rfl),rx HO_8.out,uq4,uq6,uq5⟩

/-! ### shapesearchlaw10_made: function 10 -/
def shapesearchlaw10_made.f (k : Nat) (s0_0 : List Int) (s0_1 : Int) : Option (List Int × Int):=(shapesearchkeep_Src_Pick.f s0_0 s0_1 (([4,12,64] : List Int))).bind fun bt153=>((shapesearchkeep_Src_Range.f s0_0 bt153.2 1 bt153.1).bind fun bt155=>((shapesearchkeep_Src_List.f k s0_0 bt155.2 bt155.1).bind fun bt157=>(some (bt157.1,bt157.2))))
theorem shapesearchlaw10_made.mono : ∀ a0 a1 k,LeO (shapesearchlaw10_made.f k a0 a1) (shapesearchlaw10_made.f (k + 1) a0 a1):=by
 intro a0 a1 k
 unfold shapesearchlaw10_made.f
 repeat' first|(with_reducible first|apply shapesearchkeep_Src_List.mono|exact lz|refine LeO.ite ?_ ?_|refine LeO.bind ?_ fun _=>?_)
set_option maxHeartbeats 8000000 in
set_option maxRecDepth 100000 in
theorem shapesearchlaw10_made.calls (k : Nat) (g : Nat) (s0_0 : List Int) (s0_1 : Int) (r1 : List Int) (r2 : Int) (w0 w : World) (hI : IsS76 w0 w g s0_0 s0_1) (hB : Below w0.heap.size w0 w) (h : shapesearchlaw10_made.f k s0_0 s0_1 = some (r1,r2)) :
  Calls Try.prog 10 #[.pointer (some ⟨g,0,none⟩)] w fun e w'=>∃ v0_ : Value,e = .returned (v0_)∧Kd.R (Kd.int .i64) 3 w' w.heap.size (fun _=>True) v0_ r1∧IsS76 w0 w' g s0_0 r2∧Below w0.heap.size w0 w'∧KeepBut w w' g none:=by
 have HI0:=A_ hI
 have HK:=A_ (KeepBut.refl w g none)
 have HL:=A_ hB.size
 clear hI
 have HW0:=A_ hB.size
 have HB:=A_ hB
 clear hB
 have H : ((shapesearchkeep_Src_Pick.f s0_0 s0_1 (([4,12,64] : List Int))).bind fun bt153=>((shapesearchkeep_Src_Range.f s0_0 bt153.2 1 bt153.1).bind fun bt155=>((shapesearchkeep_Src_List.f k s0_0 bt155.2 bt155.1).bind fun bt157=>(some (bt157.1,bt157.2))))) = some (r1,r2):=h
 clear h
 obtain ⟨y150,hy150⟩ : ∃ y_ : List Int,y_ = (([4,12,64] : List Int)):=⟨_,rfl⟩
 replace H : ((shapesearchkeep_Src_Pick.f s0_0 s0_1 y150).bind fun bt153=>((shapesearchkeep_Src_Range.f s0_0 bt153.2 1 bt153.1).bind fun bt155=>((shapesearchkeep_Src_List.f k s0_0 bt155.2 bt155.1).bind fun bt157=>(some (bt157.1,bt157.2))))) = some (r1,r2):=by first|(rw [hy150];with_reducible exact H)|(have H2_:=(Option.bind_some _ _).symm.trans H;rw [hy150];with_reducible exact H2_)|(have H2_:=(Option.bind_some _ _).symm.trans H;with_reducible exact H2_)|with_reducible exact H|(rw [hy150];exact H)|exact H
 have Ny150:=A_ hy150
 clear hy150
 replace H:=Option.bind_eq_some_iff.mp H
 obtain ⟨⟨t153,t154⟩,A20,H⟩:=H
 replace H : ((shapesearchkeep_Src_Range.f s0_0 t154 1 t153).bind fun bt155=>((shapesearchkeep_Src_List.f k s0_0 bt155.2 bt155.1).bind fun bt157=>(some (bt157.1,bt157.2)))) = some (r1,r2):=H
 have A2:=A_ A20
 clear A20
 replace H:=Option.bind_eq_some_iff.mp H
 obtain ⟨⟨t155,t156⟩,A30,H⟩:=H
 replace H : ((shapesearchkeep_Src_List.f k s0_0 t156 t155).bind fun bt157=>(some (bt157.1,bt157.2))) = some (r1,r2):=H
 have A3:=A_ A30
 clear A30
 replace H:=Option.bind_eq_some_iff.mp H
 obtain ⟨⟨t157,t160⟩,A40,H⟩:=H
 replace H : (some (t157,t160)) = some (r1,r2):=H
 have A4:=A_ A40
 clear A40
 simp only [Option.some.injEq,Prod.mk.injEq] at H
 obtain ⟨rfl,rfl⟩:=H
 go_enter Try.func10,Try.ntmps10
 go_wp2_with (first|((with_reducible refine gate_dst (N:=6) rfl ?_);refine Kd.R_lit (Kd.int .i64) _ 3 ?hg (N:=6) ?hd (xs:=([4,12,64] : List Int)) (inner:=[.int .i64 4,.int .i64 12,.int .i64 64]) (ok:=fun _=>True) (okp:=fun _=>True) ?hr ?hp (fun _ hk=>hk) trivial (Below.refl _ _) (Nat.le_refl _) (by simp) ?_;(case hd=>rfl);(case hg=>rfl);(case hr=>first|(go_simp;done)|(go_simp;rfl));(case hp=>exact (Reps.one (show Kd.M (Kd.int .i64) _ _ _ 4 [.int .i64 4] from rfl) (Reps.one (show Kd.M (Kd.int .i64) _ _ _ 12 [.int .i64 12] from rfl) (Reps.one (show Kd.M (Kd.int .i64) _ _ _ 64 [.int .i64 64] from rfl) (Reps.none _ _)))));intro v151 w5 ho6 hb hg_ hnew_;clear hg_ hnew_;(first|rw [← Ny150.out] at ho6|(simp only [Int.reduceToNat] at ho6;rw [← Ny150.out] at ho6));have HO152:=A_ (Kd.R_lower ho6 (keep_size (w:=w) (g:=g) (row:=none) uq5));replace HI0:=A_ (IsS76.below uq4 hb);replace HK:=A_ (KeepBut.trans uq5 (KeepBut.of_below hb g none) (.inl rfl));replace HB:=A_ (below_step uq6 hb);clear hb ho6;obtain ⟨Ao7,co7,eo7⟩:=Kd.R_slice HO152.out;subst eo7)|((with_reducible refine gate_callee (f:=34) rfl ?_);refine gl (some 7) Try.func34 #[.pointer (some ⟨g,0,none⟩),.slice Ao7 y150.length co7] ?_;(with_reducible refine (shapesearchkeep_Src_Pick.calls g s0_0 s0_1 _ _ y150 t153 t154 w0 _ ?side1 ?side2 ?side3 ?side4 ?side5 A2.out).mono ?_);(case side1=>exact uq4);(case side2=>exact uq6);(case side3=>exact cx ((rd_ HO152.out).2.2));(case side4=>exact (rd_ HO152.out).2.1);(case side5=>exact far_slice (IsS76.own_ne HI0.out HO152.out (by decide)));rintro e w8 ⟨rfl,hi,hb,hk⟩;refine ⟨_,rfl,?_⟩;replace HO152:=A_ (rm (Kd.R_keep (IsS76.apart (show IsS76 w0 _ g s0_0 s0_1 from uq4) (rx HO152.out) (by decide)) hk (fun _ h=>h.2)) (fun _ h=>h.1));replace HK:=A_ (KeepBut.trans uq5 hk (.inl rfl));replace HB:=A_ (hb);replace HI0:=A_ (hi);(try clear hb);(try clear hb2);(try clear hk);(try clear hi))|((with_reducible refine gate_callee (f:=35) rfl ?_);refine gl (some 8) Try.func35 #[.pointer (some ⟨g,0,none⟩),.int .i64 1,.int .i64 t153] ?_;(with_reducible refine (shapesearchkeep_Src_Range.calls g s0_0 t154 1 t153 t155 t156 w0 _ ?side1 ?side2 A3.out).mono ?_);(case side1=>exact uq4);(case side2=>exact uq6);rintro e w9 ⟨rfl,hi,hb,hk⟩;refine ⟨_,rfl,?_⟩;replace HO152:=A_ (rm (Kd.R_keep (IsS76.apart (show IsS76 w0 _ g s0_0 t154 from uq4) (rx HO152.out) (by decide)) hk (fun _ h=>h.2)) (fun _ h=>h.1));replace HK:=A_ (KeepBut.trans uq5 hk (.inl rfl));replace HB:=A_ (hb);replace HI0:=A_ (hi);(try clear hb);(try clear hb2);(try clear hk);(try clear hi))|((with_reducible refine gate_callee (f:=40) rfl ?_);refine gl (some 9) Try.func40 #[.pointer (some ⟨g,0,none⟩),.int .i64 t155] ?_;(with_reducible refine (shapesearchkeep_Src_List.calls k g s0_0 t156 t155 t157 t160 w0 _ ?side1 ?side2 A4.out).mono ?_);(case side1=>exact uq4);(case side2=>exact uq6);rintro e w10 ⟨v158,rfl,ho0,hi,hb,hk⟩;refine ⟨_,rfl,?_⟩;have n0_:=A_ (rm (Kd.R_told (Kd.R_oldK (IsS76.apart (show IsS76 w0 _ g s0_0 t156 from uq4) (rx HO152.out) (by decide)) hk) (rs ho0)) (fun _ h_=>h_.1));have n1_:=A_ (Kd.R_lower (rn ho0 (rl (rx HO152.out))) (keep_size (w:=w) (g:=g) (row:=none) uq5));have n2_:=A_ (KeepBut.trans uq5 hk (.inl rfl));have n3_:=A_ (hb);have n4_:=A_ (hi);clear HO152;clear HK;clear HB;clear HI0;have HO152:=n0_;have HO159:=n1_;have HK:=n2_;have HB:=n3_;have HI0:=n4_;clear n0_ n1_ n2_ n3_ n4_;(try clear hb);(try clear hb2);(try clear hk);(try clear hi);(try clear ho0)))
 go_ret
 exact ⟨_,by first|rfl|(simp [errW_none,errW_some] <;> rfl)|(simp [*,errW_none,errW_some] <;> rfl),by (with_reducible repeat (first|apply ra|apply rb|apply rc));exact rm HO159.out (fun _ hk=>trivial),uq4,uq6,uq5⟩

/-! ### shapesearchkeep_New: function 11 -/
def shapesearchkeep_New.f (l0 : List Int) : Option (List Int × Int):=if 0 ≤ (mn (l0.length : Int) 2000) then (if (mn (l0.length : Int) 2000) ≤ (l0.length : Int) then (some (l0.take ((mn (l0.length : Int) 2000) : Int).toNat,0)) else (none)) else (none)
set_option maxHeartbeats 8000000 in
set_option maxRecDepth 100000 in
theorem shapesearchkeep_New.calls (A0 : Option Addr) (c0 : Nat) (l0 : List Int) (r1 : List Int) (r2 : Int) (w0 w : World) (hB : Below w0.heap.size w0 w) (hr0 : Kd.C (Kd.int .i64) w0 A0 l0.length l0) (hc0 : l0.length ≤ c0) (h : shapesearchkeep_New.f l0 = some (r1,r2)) :
  Calls Try.prog 11 #[.slice A0 l0.length c0] w fun e w'=>∃ g_ : Nat,e = .returned (.pointer (some ⟨g_,0,none⟩))∧IsS76 w0 w' g_ r1 r2∧Below w0.heap.size w0 w'∧Below w.heap.size w w':=by
 have hu76:=Try.underlying76
 have HR0:=A_ hr0
 have HC0:=A_ hc0
 clear hr0 hc0
 have HBW:=A_ (Below.refl w.heap.size w)
 have HW0:=A_ hB.size
 have HB:=A_ hB
 clear hB
 have H : (if 0 ≤ (mn (l0.length : Int) 2000) then (if (mn (l0.length : Int) 2000) ≤ (l0.length : Int) then (some (l0.take ((mn (l0.length : Int) 2000) : Int).toNat,0)) else (none)) else (none)) = some (r1,r2):=h
 clear h
 obtain ⟨ji2,hji2⟩ : ∃ j_ : Int,(mn (l0.length : Int) 2000) = j_:=⟨_,rfl⟩
 replace H : (if 0 ≤ (ji2) then (if (ji2) ≤ (l0.length : Int) then (some (l0.take ((ji2) : Int).toNat,0)) else (none)) else (none)) = some (r1,r2):=by first|(rw [hji2] at H;exact H)|(simp only [hji2] at H ⊢;exact H)
 (try (have hji2h : ji2 ≤ 2000:=by (rw [← hji2];unfold mn;(repeat' split) <;> omega)))
 (try (have hji2g : ji2 ≤ 64:=by omega))
 (try (have hji2l : 0 ≤ ji2:=by (rw [← hji2];unfold mn;(repeat' split) <;> omega)))
 (try (have hji2m : 0 ≤ ji2:=by omega))
 have hji2_ : (if 2000 < (l0.length : Int) then 2000 else (l0.length : Int)) = ji2:=hji2
 by_cases c3 : 0 ≤ (ji2)
 ·
  rw [if_pos c3] at H
  have c3b0:=eq_true c3
  have c3b1 : decide (0 ≤ (ji2)) = true:=decide_eq_true c3
  clear c3
  by_cases c4 : (ji2) ≤ (l0.length : Int)
  ·
   rw [if_pos c4] at H
   have c4b0:=eq_true c4
   have c4b1 : decide ((ji2) ≤ (l0.length : Int)) = true:=decide_eq_true c4
   clear c4
   simp only [Option.some.injEq,Prod.mk.injEq] at H
   obtain ⟨rfl,rfl⟩:=H
   obtain ⟨i05,hi05,_,hsz5,_⟩:=info_parts info3
   obtain ⟨hcut5,hA5,hC5⟩:=print_take_of (P:=Try.prog) (Value.int .i64) 0 22 3 .i64 Try.underlying22 hi05 hsz5 A0 c0 l0 (ji2) (of_decide_eq_true uq1) (of_decide_eq_true uq1) HC0.out
   have HR161:=A_ (Kd.C_of_reads (h1:=fun _=>rfl) (hA5 _ (Kd.reads_of_C HR0.out)))
   have HC161:=A_ hC5
   clear hA5 hC5 hi05 hsz5
   go_enter Try.func11,Try.ntmps11
   go_wp2_with (first|((with_reducible refine gate_dst (N:=9) rfl ?_);refine box_event ?hg (N:=9) ?hd (cs:=#[.slice A0 (l0.take ((ji2) : Int).toNat).length c0,.int .i64 0]) (t:=76) ?hr ?_;(case hd=>rfl);(case hg=>rfl);(case hr=>first|(go_simp;done)|(go_simp;rfl));intro gb162 hg w6 hbox hb;have n0_:=A_ (below_step HBW.out hb);have n1_:=A_ (below_step uq0 hb);have n2_:=A_ (hbox);have n3_:=A_ ((by rw [hg];exact (below_size (by repeat (first|(with_reducible first|exact HBW.out|apply ba|apply bb|apply bc)|exact HBW.out))) : w.heap.size ≤ gb162));have n4_:=A_ ((Nat.le_trans HW0.out (by rw [hg];exact (below_size (by repeat (first|(with_reducible first|exact HBW.out|apply ba|apply bb|apply bc)|exact HBW.out))) : w.heap.size ≤ gb162) : w0.heap.size ≤ gb162));clear HBW;clear HB;have HBW:=n0_;have HB:=n1_;have BK162:=n2_;have GW162:=n3_;have GE162:=n4_;clear n0_ n1_ n2_ n3_ n4_;clear hb hbox hg))
   go_ret
   exact ⟨_,rfl,(show IsS76 w0 _ gb162 (l0.take ((ji2) : Int).toNat) 0 from ⟨_,_,by (with_reducible repeat (first|refine blk_drewN ?_ _|refine blk_drew ?_|refine blk_alloc ?_ _));exact BK162.out,GE162.out,HR161.out⟩),by repeat (first|(with_reducible first|exact HB.out|apply ba|apply bb|apply bc|refine below_set ?_ GE162.out)|exact HB.out),by repeat (first|(with_reducible first|exact HBW.out|apply ba|apply bb|apply bc|refine below_set ?_ GW162.out)|exact HBW.out)⟩
  ·
   rw [if_neg c4] at H
   exact absurd H (by simp)
 ·
  rw [if_neg c3] at H
  exact absurd H (by simp)

/-! ### shapesearchref10_Measure: function 12 -/
def shapesearchref10_Measure.f (l0 : List Int) : Option (Int × Int × Int × Int × Int):=if 0 < l0.length∧l0.length ≤ 140737488351232 then some (0,(l0.length : Int),XMea.go l0 (rd l0 0) (rd l0 0) 0) else none
theorem shapesearchref10_Measure.calls (A0 : Option Addr) (c0 : Nat) (l0 : List Int) (r1 : Int) (r2 : Int) (r3 : Int) (r4 : Int) (r5 : Int) (w : World) (hr0 : Kd.C (Kd.int .i64) w A0 l0.length l0) (hc0 : l0.length ≤ c0) (h : shapesearchref10_Measure.f l0 = some (r1,r2,r3,r4,r5)) :
  Calls Try.prog 12 #[.slice A0 l0.length c0] w fun e w'=>e = .returned (.agg #[.int .i64 r1,.int .i64 r2,.int .i64 r3,.int .i64 r4,.int .i64 r5])∧Below w.heap.size w w':=by
 unfold shapesearchref10_Measure.f at h
 by_cases hl : 0 < l0.length∧l0.length ≤ 140737488351232
 ·
  rw [if_pos hl] at h
  obtain ⟨rfl,rfl,hgo⟩ : 0 = r1∧(l0.length : Int) = r2∧XMea.go l0 (rd l0 0) (rd l0 0) 0 = (r3,r4,r5):=by
   have e:=Option.some.inj h
   simp only [Prod.mk.injEq] at e
   exact ⟨e.1,e.2.1,Prod.ext_iff.2 (by simp [e.2.2])⟩
  exact XMea.calls A0 c0 l0 r3 r4 r5 w hr0 hl.1 hl.2 hgo
 ·
  rw [if_neg hl] at h
  cases h

end Go.Proofs.Ytdnhfofmfpgmmaa.PSegmentBack
