/- This file proves, function by function, what the Go functions that one law uses compute; most of it was printed by a program (wip/tools of this session, over the kit's print). -/
import Derived.Test.YtodipcfbgnljeaaPChannelsPathsx0
namespace Go.Proofs.Ytodipcfbgnljeaa.PChannelsPaths
open Go.RowKit Go.Proofs.YtodipcfbgnljeaaW.PrintWords Go.Proofs.YtodipcfbgnljeaaW.PrintLast Go.Proofs.YtodipcfbgnljeaaW.PrintMore
attribute [local go_sem] max2_int min2_int max_two min_two max_three min_three max_four min_four   -- for this text's walks alone
set_option linter.unusedVariables false
set_option linter.unusedSimpArgs false

/-! ### shapesearchkeep_Mod: function 28 -/
def shapesearchkeep_Mod.f (a0 : Int) (a1 : Int) : Option (Int):=if a1 < 1 then (some 0) else (if a1 = 0 then (none) else (if (Int.tmod a0 a1) < 0 then (some (wrap64 ((Int.tmod a0 a1) + a1))) else (some (Int.tmod a0 a1))))
set_option maxHeartbeats 8000000 in
set_option maxRecDepth 100000 in
theorem shapesearchkeep_Mod.calls (a0 : Int) (a1 : Int) (r : Int) (w : World) (h : shapesearchkeep_Mod.f a0 a1 = some r) :
  Calls Try.prog 28 #[.int .i64 a0,.int .i64 a1] w fun e w'=>e = .returned (.int .i64 r)∧Drawn0 w w':=by
 have H : (if a1 < 1 then (some 0) else (if a1 = 0 then (none) else (if (Int.tmod a0 a1) < 0 then (some (wrap64 ((Int.tmod a0 a1) + a1))) else (some (Int.tmod a0 a1))))) = some r:=h
 clear h
 by_cases c3 : a1 < 1
 ·
  rw [if_pos c3] at H
  have c3b0 : decide (a1 < 1) = true:=decide_eq_true c3
  clear c3
  obtain rfl:=Option.some.inj H
  go_enter Try.func28,Try.ntmps28
  go_wp2
  go_ret
  exact ⟨by first|rfl|(simp;done)|(simp [*];done),by repeat (first|exact Drawn0.refl _|apply Drawn0.step)⟩
 ·
  rw [if_neg c3] at H
  have c3b0 : decide (a1 < 1) = false:=decide_eq_false c3
  clear c3
  by_cases c4 : a1 = 0
  ·
   rw [if_pos c4] at H
   exact absurd H (by simp)
  ·
   rw [if_neg c4] at H
   have c4b0 : (a1 == 0) = false:=beq_eq_false_iff_ne.mpr c4
   have c4b1 : (a1 != 0) = true:=bne_iff_ne.mpr c4
   by_cases c5 : (Int.tmod a0 a1) < 0
   ·
    rw [if_pos c5] at H
    have c5b0 : decide ((Int.tmod a0 a1) < 0) = true:=decide_eq_true c5
    clear c5
    obtain rfl:=Option.some.inj H
    go_enter Try.func28,Try.ntmps28
    go_wp2
    go_ret
    exact ⟨by first|rfl|(simp;done)|(simp [*];done),by repeat (first|exact Drawn0.refl _|apply Drawn0.step)⟩
   ·
    rw [if_neg c5] at H
    have c5b0 : decide ((Int.tmod a0 a1) < 0) = false:=decide_eq_false c5
    clear c5
    obtain rfl:=Option.some.inj H
    go_enter Try.func28,Try.ntmps28
    go_wp2
    go_ret
    exact ⟨by first|rfl|(simp;done)|(simp [*];done),by repeat (first|exact Drawn0.refl _|apply Drawn0.step)⟩

/-- A state of type 56 at block g of W; what its slices lead to came in by w0. -/
def IsS56 (w0 W : World) (g : Nat) (f0 : List Int) (f1 : Int) : Prop:=∃ A0 c0,W.heap[g]? = some (.cells #[.slice A0 f0.length c0,.int .i64 f1] 56 (0,0))∧w0.heap.size ≤ g∧Kd.C (Kd.int .i64) w0 A0 f0.length f0
theorem IsS56.grown {w0 W : World} {g : Nat} {f0 : List Int} {f1 : Int} {W1 : World} {row : Option Nat} (h : IsS56 w0 W g f0 f1) (hw : W.grownBy W1 row) (hne : some g≠row) : IsS56 w0 W1 g f0 f1:=by
 obtain ⟨A0,c0,hb,hg,hr0⟩:=h
 exact ⟨A0,c0,blk_grown hb hw hne,hg,hr0⟩
theorem IsS56.own_neN {w0 W : World} {g : Nat} {f0 : List Int} {f1 : Int} {α : Type} {d : Kd α} {e : Nat} {base : Nat} {ok : Nat → Prop} {v : Value} {xs : List α} (h : IsS56 w0 W g f0 f1) (ho : Kd.N d e W base ok v xs) (ht : e≠56) : some g≠v.ownBlock:=by
 obtain ⟨A0,c0,hb,hg,hr0⟩:=h
 exact Kd.N_ne ho hb ht
theorem IsS56.fresh {w0 W : World} {g : Nat} {f0 : List Int} {f1 : Int} (h : IsS56 w0 W g f0 f1) : ∀ k,W.heap.size ≤ k → k≠g:=by
 obtain ⟨A0,c0,hb,hg,hr0⟩:=h
 exact Kd.freshB hb
theorem IsS56.kept {w0 W : World} {g : Nat} {f0 : List Int} {f1 : Int} {W1 : World} {S : Nat → Prop} (h : IsS56 w0 W g f0 f1) (hk : Kept W W1 S) (hne : ¬ S g) : IsS56 w0 W1 g f0 f1:=by
 obtain ⟨A0,c0,hb,hg,hr0⟩:=h
 exact ⟨A0,c0,blk_kept hb hk hne,hg,hr0⟩
theorem IsS56.below {w0 W : World} {g : Nat} {f0 : List Int} {f1 : Int} {W1 : World} (h : IsS56 w0 W g f0 f1) (hw : Below W.heap.size W W1) : IsS56 w0 W1 g f0 f1:=h.grown (grown_of_below hw none) (by simp)
theorem IsS56.alloc {w0 W : World} {g : Nat} {f0 : List Int} {f1 : Int} (h : IsS56 w0 W g f0 f1) (o : Obj) : IsS56 w0 (W.alloc o) g f0 f1:=h.below (below_alloc (Below.refl _ _) o)
theorem IsS56.drewN {w0 W : World} {g : Nat} {f0 : List Int} {f1 : Int} (h : IsS56 w0 W g f0 f1) (m : Nat) : IsS56 w0 (W.drewN m) g f0 f1:=h
theorem IsS56.drew {w0 W : World} {g : Nat} {f0 : List Int} {f1 : Int} (h : IsS56 w0 W g f0 f1) : IsS56 w0 W.drew g f0 f1:=h
theorem IsS56.at_ {w0 W : World} {g : Nat} {f0 : List Int} {f1 : Int} {w' : World} {m : Nat} (hq : W.drewN m = w') (h : IsS56 w0 W g f0 f1) : IsS56 w0 w' g f0 f1:=by subst hq;exact IsS56.drewN h m
theorem IsS56.apart {w0 W : World} {g : Nat} {f0 : List Int} {f1 : Int} {α : Type} {d : Kd α} {e : Nat} {base : Nat} {ok : Nat → Prop} {v : Value} {xs : List α} (h : IsS56 w0 W g f0 f1) (ho : d.R e W base ok v xs) (ht : ∀ q,q ∈ e :: d.E → q≠56) : d.R e W base (fun k=>ok k∧k≠g) v xs:=by
 obtain ⟨A0,c0,hb,hg,hr0⟩:=h
 exact Kd.R_types ho hb ht
theorem IsS56.own_ne {w0 W : World} {g : Nat} {f0 : List Int} {f1 : Int} {α : Type} {d : Kd α} {e : Nat} {base : Nat} {ok : Nat → Prop} {v : Value} {xs : List α} (h : IsS56 w0 W g f0 f1) (ho : d.R e W base ok v xs) (ht : e≠56) : some g≠v.ownBlock:=by
 obtain ⟨A0,c0,hb,hg,hr0⟩:=h
 exact Kd.R_ne ho hb ht
theorem IsS56.apartQ {w0 W : World} {g : Nat} {f0 : List Int} {f1 : Int} {α : Type} {d : Kd α} {e : Nat} {base : Nat} {ok : Nat → Prop} {v : Value} {xs : List α} (h : IsS56 w0 W g f0 f1) (ho : d.Q e W base ok v xs) (ht : ∀ q,q ∈ e :: d.E → q≠56) : d.Q e W base (fun k=>ok k∧k≠g) v xs:=by
 obtain ⟨A0,c0,hb,hg,hr0⟩:=h
 exact Kd.Q_types ho hb ht
theorem IsS56.own_neQ {w0 W : World} {g : Nat} {f0 : List Int} {f1 : Int} {α : Type} {d : Kd α} {e : Nat} {base : Nat} {ok : Nat → Prop} {v : Value} {xs : List α} (h : IsS56 w0 W g f0 f1) (ho : d.Q e W base ok v xs) (ht : e≠56) : some g≠v.ownBlock:=by
 obtain ⟨A0,c0,hb,hg,hr0⟩:=h
 exact Kd.Q_ne ho hb ht
theorem IsS56.apartS {w0 W : World} {g : Nat} {f0 : List Int} {f1 : Int} {α : Type} {d : Kd α} {e : Nat} {base : Nat} {ok : Nat → Prop} {v : Value} {xs : List α} (h : IsS56 w0 W g f0 f1) (ho : d.S e W base ok v xs) (ht : ∀ q,q ∈ e :: d.E → q≠56) : d.S e W base (fun k=>ok k∧k≠g) v xs:=by
 obtain ⟨A0,c0,hb,hg,hr0⟩:=h
 exact Kd.S_types ho hb ht
theorem IsS56.own_neS {w0 W : World} {g : Nat} {f0 : List Int} {f1 : Int} {α : Type} {d : Kd α} {e : Nat} {base : Nat} {ok : Nat → Prop} {v : Value} {xs : List α} (h : IsS56 w0 W g f0 f1) (ho : d.S e W base ok v xs) (ht : e≠56) : some g≠v.ownBlock:=by
 obtain ⟨A0,c0,hb,hg,hr0⟩:=h
 exact Kd.S_ne ho hb ht
theorem IsS56.lt {w0 W : World} {g : Nat} {f0 : List Int} {f1 : Int} (h : IsS56 w0 W g f0 f1) : g < W.heap.size:=by
 obtain ⟨A0,c0,hb,hg,hr0⟩:=h
 exact blk_lt hb
theorem IsS56.ge {w0 W : World} {g : Nat} {f0 : List Int} {f1 : Int} (h : IsS56 w0 W g f0 f1) : w0.heap.size ≤ g:=by
 obtain ⟨A0,c0,hb,hg,hr0⟩:=h
 exact hg
theorem IsS56.ne_blk {w0 W : World} {g : Nat} {f0 : List Int} {f1 : Int} {a : Nat} {cs : Array Value} {t : TypeId} {fr : Nat × Nat} (h : IsS56 w0 W g f0 f1) (hb2 : W.heap[a]? = some (.cells cs t fr)) (ht : t≠56) : g≠a:=by
 obtain ⟨A0,c0,hb,hg,hr0⟩:=h
 rintro rfl
 rw [hb] at hb2
 injection hb2 with hb2
 injection hb2 with _ ht2
 exact ht ht2.symm
theorem IsS56.far {w0 W : World} {g : Nat} {f0 : List Int} {f1 : Int} {p : Addr} (h : IsS56 w0 W g f0 f1) (hne : g≠p.block) (u : Value) : IsS56 w0 (W.setCell p u) g f0 f1:=by
 obtain ⟨A0,c0,hb,hg,hr0⟩:=h
 exact ⟨A0,c0,blk_far hb hne u,hg,hr0⟩
theorem cellS56_0 {W : World} {g : Nat} {A0 : Option Addr} {c0 : Nat} {f0 : List Int} {f1 : Int} (h : W.heap[g]? = some (.cells #[.slice A0 f0.length c0,.int .i64 f1] 56 (0,0))) : W.cell? ⟨g,0,none⟩ = some (.slice A0 f0.length c0):=(blk_cell h 0).trans rfl
theorem cellS56_1 {W : World} {g : Nat} {A0 : Option Addr} {c0 : Nat} {f0 : List Int} {f1 : Int} (h : W.heap[g]? = some (.cells #[.slice A0 f0.length c0,.int .i64 f1] 56 (0,0))) : W.cell? ⟨g,1,none⟩ = some (.int .i64 f1):=(blk_cell h 1).trans rfl
theorem IsS56.set_1 {w0 W : World} {g : Nat} {f0 : List Int} {f1 : Int} (h : IsS56 w0 W g f0 f1) (x : Int) : IsS56 w0 (W.setCell ⟨g,1,none⟩ (.int .i64 x)) g f0 x:=by
 obtain ⟨A0,c0,hb,hg,hr0⟩:=h
 exact ⟨A0,c0,by simpa using blk_set hb 1 (.int .i64 x),hg,hr0⟩
theorem IsS56.new (w0 W : World) (A0 : Option Addr) (c0 : Nat) (f0 : List Int) (f1 : Int) (hB : Below w0.heap.size w0 W) (hr0 : Kd.C (Kd.int .i64) w0 A0 f0.length f0) : IsS56 w0 (W.alloc (.cells #[.slice A0 f0.length c0,.int .i64 f1] 56)) W.heap.size f0 f1:=⟨A0,c0,by simpa using heap_alloc_new W _,hB.size,hr0⟩

/-! ### shapesearchkeep_Src_Raw: function 51 -/
def shapesearchkeep_Src_Raw.f (s0_0 : List Int) (s0_1 : Int) : Option (Int × Int):=if s0_1 ≥ (s0_0.length : Int) then (some (0,s0_1)) else (if 0 ≤ (wrap64 ((wrap64 (s0_1 + 1)) - 1)) then (if (wrap64 ((wrap64 (s0_1 + 1)) - 1)) < (s0_0.length : Int) then (some (rd s0_0 (wrap64 ((wrap64 (s0_1 + 1)) - 1)),wrap64 (s0_1 + 1))) else (none)) else (none))
set_option maxHeartbeats 8000000 in
set_option maxRecDepth 100000 in
theorem shapesearchkeep_Src_Raw.calls (g : Nat) (s0_0 : List Int) (s0_1 : Int) (r1 : Int) (r2 : Int) (w0 w : World) (hI : IsS56 w0 w g s0_0 s0_1) (hB : Below w0.heap.size w0 w) (h : shapesearchkeep_Src_Raw.f s0_0 s0_1 = some (r1,r2)) :
  Calls Try.prog 51 #[.pointer (some ⟨g,0,none⟩)] w fun e w'=>e = .returned (.int .i64 r1)∧IsS56 w0 w' g s0_0 r2∧Below w0.heap.size w0 w'∧KeepBut w w' g none:=by
 have HI0:=A_ hI
 have HK:=A_ (KeepBut.refl w g none)
 have HL:=A_ hB.size
 clear hI
 have HW0:=A_ hB.size
 have HB:=A_ hB
 clear hB
 have H : (if s0_1 ≥ (s0_0.length : Int) then (some (0,s0_1)) else (if 0 ≤ (wrap64 ((wrap64 (s0_1 + 1)) - 1)) then (if (wrap64 ((wrap64 (s0_1 + 1)) - 1)) < (s0_0.length : Int) then (some (rd s0_0 (wrap64 ((wrap64 (s0_1 + 1)) - 1)),wrap64 (s0_1 + 1))) else (none)) else (none))) = some (r1,r2):=h
 clear h
 by_cases c2 : s0_1 ≥ (s0_0.length : Int)
 ·
  rw [if_pos c2] at H
  have c2b0 : decide ((s0_0.length : Int) ≤ s0_1) = true:=decide_eq_true c2
  clear c2
  simp only [Option.some.injEq,Prod.mk.injEq] at H
  obtain ⟨rfl,rfl⟩:=H
  obtain ⟨ASz3_0,cSz3_0,HGz3,hgz3,HSz3_0⟩:=HI0.out
  have hcz3_0:=cellS56_0 HGz3
  have hcz3_1:=cellS56_1 HGz3
  have hfz3_1:=blk_frozen HGz3 1
  clear HGz3 hgz3
  go_enter Try.func51,Try.ntmps51
  go_wp2
  repeat (go_quiet (fail);try go_wp2)
  go_ret
  exact ⟨by first|rfl|(simp [errW_none,errW_some] <;> rfl)|(simp [*,errW_none,errW_some] <;> rfl),by repeat (first|(with_reducible first|exact HI0.out|apply IsS56.alloc|apply IsS56.drewN|apply IsS56.drew|apply IsS56.set_1)|exact HI0.out),by repeat (first|(with_reducible first|exact HB.out|apply ba|apply bb|apply bc|refine below_set ?_ (IsS56.ge HI0.out))|exact HB.out),by repeat (first|(with_reducible first|exact HK.out|apply KeepBut.set_|apply keep_drewN|apply keep_drew|apply keep_alloc)|exact HK.out)⟩
 ·
  rw [if_neg c2] at H
  have c2b0 : decide ((s0_0.length : Int) ≤ s0_1) = false:=decide_eq_false c2
  clear c2
  obtain ⟨ji4,hji4⟩ : ∃ j_ : Int,(wrap64 ((wrap64 (s0_1 + 1)) - 1)) = j_:=⟨_,rfl⟩
  replace H : (if 0 ≤ (ji4) then (if (ji4) < (s0_0.length : Int) then (some (rd s0_0 (ji4),wrap64 (s0_1 + 1))) else (none)) else (none)) = some (r1,r2):=by first|(rw [hji4] at H;exact H)|(simp only [hji4] at H ⊢;exact H)
  have hji4w : (IntKind.i64.wrap ((wrap64 (s0_1 + 1)) - 1)) = ji4:=(i64_w _).trans hji4
  by_cases c5 : 0 ≤ (ji4)
  ·
   rw [if_pos c5] at H
   have c5b0 : decide (0 ≤ (ji4)) = true:=decide_eq_true c5
   clear c5
   by_cases c6 : (ji4) < (s0_0.length : Int)
   ·
    rw [if_pos c6] at H
    have c6b0 : decide ((ji4) < (s0_0.length : Int)) = true:=decide_eq_true c6
    clear c6
    simp only [Option.some.injEq,Prod.mk.injEq] at H
    obtain ⟨rfl,rfl⟩:=H
    obtain ⟨ASz7_0,cSz7_0,HGz7,hgz7,HSz7_0⟩:=HI0.out
    have hcz7_0:=cellS56_0 HGz7
    have hcz7_1:=cellS56_1 HGz7
    have hfz7_1:=blk_frozen HGz7 1
    clear HGz7 hgz7
    have p101 : 0 ≤ ((ji4) : Int):=of_decide_eq_true (by first|(with_reducible assumption)|assumption)
    have q101 : (ji4) < (s0_0.length : Int):=of_decide_eq_true (by first|(with_reducible assumption)|assumption)
    obtain ⟨ad101,e101,hx101_0⟩:=Kd.at_int HSz7_0 (ji4) p101 q101
    cases e101
    have hn101_0 : ad101.block≠g:=Nat.ne_of_lt (Nat.lt_of_lt_of_le (by have:=World.block_lt_of_cell? _ _ hx101_0;first|rwa [add_block] at this|exact this) (IsS56.ge HI0.out))
    replace hx101_0:=pw_cell_below HB.out hx101_0
    replace hx101_0:=(cell_far (p:=⟨g,1,none⟩) (by first|(rw [add_block];exact hn101_0)|(show (Addr.add _ _).block≠_;rw [add_block];exact hn101_0)|exact hn101_0) (.int .i64 (wrap64 (s0_1 + 1)))).trans hx101_0
    (try have hy101_0:=fun (n_ : Nat)=>(show (((w.drewN n_).setCell ⟨g,1,none⟩ (.int .i64 (wrap64 (s0_1 + 1))))).cell? _ = some _ from hx101_0))
    clear hn101_0
    replace p101:=eq_true p101
    replace q101:=eq_true q101
    go_enter Try.func51,Try.ntmps51
    go_wp2
    repeat (go_quiet (fail);try go_wp2)
    go_ret
    exact ⟨by first|rfl|(simp [errW_none,errW_some] <;> rfl)|(simp only [← hji4];first|rfl|(simp [errW_none,errW_some] <;> rfl))|(simp [*,errW_none,errW_some] <;> rfl),by repeat (first|(with_reducible first|exact HI0.out|apply IsS56.alloc|apply IsS56.drewN|apply IsS56.drew|apply IsS56.set_1)|exact HI0.out),by repeat (first|(with_reducible first|exact HB.out|apply ba|apply bb|apply bc|refine below_set ?_ (IsS56.ge HI0.out))|exact HB.out),by repeat (first|(with_reducible first|exact HK.out|apply KeepBut.set_|apply keep_drewN|apply keep_drew|apply keep_alloc)|exact HK.out)⟩
   ·
    rw [if_neg c6] at H
    exact absurd H (by simp)
  ·
   rw [if_neg c5] at H
   exact absurd H (by simp)

/-! ### shapesearchkeep_Src_N: function 24 -/
def shapesearchkeep_Src_N.f (s0_0 : List Int) (s0_1 : Int) (a1 : Int) : Option (Int × Int):=(shapesearchkeep_Src_Raw.f s0_0 s0_1).bind fun bt102=>((shapesearchkeep_Mod.f bt102.1 a1).bind fun t104=>(some (t104,bt102.2)))
set_option maxHeartbeats 8000000 in
set_option maxRecDepth 100000 in
theorem shapesearchkeep_Src_N.calls (g : Nat) (s0_0 : List Int) (s0_1 : Int) (a1 : Int) (r1 : Int) (r2 : Int) (w0 w : World) (hI : IsS56 w0 w g s0_0 s0_1) (hB : Below w0.heap.size w0 w) (h : shapesearchkeep_Src_N.f s0_0 s0_1 a1 = some (r1,r2)) :
  Calls Try.prog 24 #[.pointer (some ⟨g,0,none⟩),.int .i64 a1] w fun e w'=>e = .returned (.int .i64 r1)∧IsS56 w0 w' g s0_0 r2∧Below w0.heap.size w0 w'∧KeepBut w w' g none:=by
 have HI0:=A_ hI
 have HK:=A_ (KeepBut.refl w g none)
 have HL:=A_ hB.size
 clear hI
 have HW0:=A_ hB.size
 have HB:=A_ hB
 clear hB
 have H : ((shapesearchkeep_Src_Raw.f s0_0 s0_1).bind fun bt102=>((shapesearchkeep_Mod.f bt102.1 a1).bind fun t104=>(some (t104,bt102.2)))) = some (r1,r2):=h
 clear h
 replace H:=Option.bind_eq_some_iff.mp H
 obtain ⟨⟨t102,t103⟩,A30,H⟩:=H
 replace H : ((shapesearchkeep_Mod.f t102 a1).bind fun t104=>(some (t104,t103))) = some (r1,r2):=H
 have A3:=A_ A30
 clear A30
 replace H:=Option.bind_eq_some_iff.mp H
 obtain ⟨t104,A40,H⟩:=H
 replace H : (some (t104,t103)) = some (r1,r2):=H
 have A4:=A_ A40
 clear A40
 simp only [Option.some.injEq,Prod.mk.injEq] at H
 obtain ⟨rfl,rfl⟩:=H
 go_enter Try.func24,Try.ntmps24
 go_wp2_with (first|((with_reducible refine gate_callee (f:=51) rfl ?_);refine goesL_ (some 6) rfl rfl Try.func51 (by kernel_rfl) rfl #[.pointer (some ⟨g,0,none⟩)] rfl (by (try simp only [List.map_toArray,List.map_cons,List.map_nil]);first|done|rfl|(simp only [List.length_drop,List.length_take];rfl)) ?_;(with_reducible refine (shapesearchkeep_Src_Raw.calls g s0_0 s0_1 t102 t103 w0 _ ?side1 ?side2 A3.out).mono ?_);(case side1=>repeat (first|(with_reducible first|exact HI0.out|apply IsS56.alloc|apply IsS56.drewN|apply IsS56.drew|apply IsS56.set_1)|exact HI0.out));(case side2=>repeat (first|(with_reducible first|exact HB.out|apply ba|apply bb|apply bc|refine below_set ?_ (IsS56.ge HI0.out))|exact HB.out));rintro e w5 ⟨rfl,hi,hb,hk⟩;refine ⟨_,rfl,?_⟩;have n0_:=A_ (KeepBut.trans (by repeat (first|(with_reducible first|exact HK.out|apply KeepBut.set_|apply keep_drewN|apply keep_drew|apply keep_alloc)|exact HK.out)) hk (.inl rfl));have n1_:=A_ (hb);have n2_:=A_ (hi);clear HK;clear HB;clear HI0;have HK:=n0_;have HB:=n1_;have HI0:=n2_;clear n0_ n1_ n2_;(try clear hb);(try clear hb2);(try clear hk);(try clear hi))|((with_reducible refine gate_callee (f:=28) rfl ?_);refine goesL_ (some 8) rfl rfl Try.func28 (by kernel_rfl) rfl #[.int .i64 t102,.int .i64 a1] rfl (by (try simp only [List.map_toArray,List.map_cons,List.map_nil]);first|done|rfl|(simp only [List.length_drop,List.length_take];rfl)) ?_;(with_reducible refine (shapesearchkeep_Mod.calls t102 a1 t104 _ A4.out).mono ?_);rintro e w' ⟨rfl,⟨nd,rfl⟩⟩;refine ⟨_,rfl,?_⟩))
 go_ret
 exact ⟨by first|rfl|(simp [errW_none,errW_some] <;> rfl)|(simp [*,errW_none,errW_some] <;> rfl),by repeat (first|(with_reducible first|exact HI0.out|apply IsS56.alloc|apply IsS56.drewN|apply IsS56.drew|apply IsS56.set_1)|exact HI0.out),by repeat (first|(with_reducible first|exact HB.out|apply ba|apply bb|apply bc|refine below_set ?_ (IsS56.ge HI0.out))|exact HB.out),by repeat (first|(with_reducible first|exact HK.out|apply KeepBut.set_|apply keep_drewN|apply keep_drew|apply keep_alloc)|exact HK.out)⟩

/-! ### shapesearchkeep_Src_Range: function 45 -/
def shapesearchkeep_Src_Range.f (s0_0 : List Int) (s0_1 : Int) (a1 : Int) (a2 : Int) : Option (Int × Int):=(shapesearchkeep_Src_N.f s0_0 s0_1 (wrap64 ((wrap64 (a2 - a1)) + 1))).bind fun bt105=>(some (wrap64 (a1 + bt105.1),bt105.2))
set_option maxHeartbeats 8000000 in
set_option maxRecDepth 100000 in
theorem shapesearchkeep_Src_Range.calls (g : Nat) (s0_0 : List Int) (s0_1 : Int) (a1 : Int) (a2 : Int) (r1 : Int) (r2 : Int) (w0 w : World) (hI : IsS56 w0 w g s0_0 s0_1) (hB : Below w0.heap.size w0 w) (h : shapesearchkeep_Src_Range.f s0_0 s0_1 a1 a2 = some (r1,r2)) :
  Calls Try.prog 45 #[.pointer (some ⟨g,0,none⟩),.int .i64 a1,.int .i64 a2] w fun e w'=>e = .returned (.int .i64 r1)∧IsS56 w0 w' g s0_0 r2∧Below w0.heap.size w0 w'∧KeepBut w w' g none:=by
 have HI0:=A_ hI
 have HK:=A_ (KeepBut.refl w g none)
 have HL:=A_ hB.size
 clear hI
 have HW0:=A_ hB.size
 have HB:=A_ hB
 clear hB
 have H : ((shapesearchkeep_Src_N.f s0_0 s0_1 (wrap64 ((wrap64 (a2 - a1)) + 1))).bind fun bt105=>(some (wrap64 (a1 + bt105.1),bt105.2))) = some (r1,r2):=h
 clear h
 replace H:=Option.bind_eq_some_iff.mp H
 obtain ⟨⟨t105,t106⟩,A40,H⟩:=H
 replace H : (some (wrap64 (a1 + t105),t106)) = some (r1,r2):=H
 have A4:=A_ A40
 clear A40
 simp only [Option.some.injEq,Prod.mk.injEq] at H
 obtain ⟨rfl,rfl⟩:=H
 go_enter Try.func45,Try.ntmps45
 go_wp2_with (first|((with_reducible refine gate_callee (f:=24) rfl ?_);refine goesL_ (some 13) rfl rfl Try.func24 (by kernel_rfl) rfl #[.pointer (some ⟨g,0,none⟩),.int .i64 (wrap64 ((wrap64 (a2 - a1)) + 1))] rfl (by (try simp only [List.map_toArray,List.map_cons,List.map_nil]);first|done|rfl|(simp only [List.length_drop,List.length_take];rfl)) ?_;(with_reducible refine (shapesearchkeep_Src_N.calls g s0_0 s0_1 (wrap64 ((wrap64 (a2 - a1)) + 1)) t105 t106 w0 _ ?side1 ?side2 A4.out).mono ?_);(case side1=>repeat (first|(with_reducible first|exact HI0.out|apply IsS56.alloc|apply IsS56.drewN|apply IsS56.drew|apply IsS56.set_1)|exact HI0.out));(case side2=>repeat (first|(with_reducible first|exact HB.out|apply ba|apply bb|apply bc|refine below_set ?_ (IsS56.ge HI0.out))|exact HB.out));rintro e w5 ⟨rfl,hi,hb,hk⟩;refine ⟨_,rfl,?_⟩;have n0_:=A_ (KeepBut.trans (by repeat (first|(with_reducible first|exact HK.out|apply KeepBut.set_|apply keep_drewN|apply keep_drew|apply keep_alloc)|exact HK.out)) hk (.inl rfl));have n1_:=A_ (hb);have n2_:=A_ (hi);clear HK;clear HB;clear HI0;have HK:=n0_;have HB:=n1_;have HI0:=n2_;clear n0_ n1_ n2_;(try clear hb);(try clear hb2);(try clear hk);(try clear hi)))
 go_ret
 exact ⟨by first|rfl|(simp [errW_none,errW_some] <;> rfl)|(simp [*,errW_none,errW_some] <;> rfl),by repeat (first|(with_reducible first|exact HI0.out|apply IsS56.alloc|apply IsS56.drewN|apply IsS56.drew|apply IsS56.set_1)|exact HI0.out),by repeat (first|(with_reducible first|exact HB.out|apply ba|apply bb|apply bc|refine below_set ?_ (IsS56.ge HI0.out))|exact HB.out),by repeat (first|(with_reducible first|exact HK.out|apply KeepBut.set_|apply keep_drewN|apply keep_drew|apply keep_alloc)|exact HK.out)⟩

/-! ### shapesearchkeep_clip: function 46 -/
def shapesearchkeep_clip.f (a0 : Int) : Option (Int):=some (mn (mx a0 (-1000)) 1000)
set_option maxHeartbeats 8000000 in
set_option maxRecDepth 100000 in
theorem shapesearchkeep_clip.calls (a0 : Int) (r : Int) (w : World) (h : shapesearchkeep_clip.f a0 = some r) :
  Calls Try.prog 46 #[.int .i64 a0] w fun e w'=>e = .returned (.int .i64 r)∧Below w.heap.size w w':=by
 have HB:=A_ (Below.refl w.heap.size w)
 have H : (some (mn (mx a0 (-1000)) 1000)) = some r:=h
 clear h
 obtain ⟨ji2,hji2⟩ : ∃ j_ : Int,(mx a0 (-1000)) = j_:=⟨_,rfl⟩
 replace H : (some (mn (ji2) 1000)) = some r:=by first|(rw [hji2] at H;exact H)|(simp only [hji2] at H ⊢;exact H)
 have hji2_ : (if a0 < (-1000) then (-1000) else a0) = ji2:=hji2
 obtain ⟨ji3,hji3⟩ : ∃ j_ : Int,(mn (ji2) 1000) = j_:=⟨_,rfl⟩
 replace H : (some ji3) = some r:=by first|(rw [hji3] at H;exact H)|(simp only [hji3] at H ⊢;exact H)
 have hji3_ : (if 1000 < (ji2) then 1000 else (ji2)) = ji3:=hji3
 obtain rfl:=Option.some.inj H
 go_enter Try.func46,Try.ntmps46
 go_wp2
 go_ret
 exact ⟨by first|rfl|(simp [errW_none,errW_some] <;> rfl)|(simp only [← hji2,← hji3];first|rfl|(simp [errW_none,errW_some] <;> rfl))|(simp [*,errW_none,errW_some] <;> rfl),by repeat (first|(with_reducible first|exact HB.out|apply ba|apply bb|apply bc)|exact HB.out)⟩

/-! ### shapesearchkeep_Src_Near: function 19 -/
def shapesearchkeep_Src_Near.l0 : Nat → List Int → Int → Int → Int → List Int → Int → Int → List Int → Int → Option (List Int × Int)
 | 0,_,_,_,_,_,_,_,_,_=>none
 | k + 1,x1,x5,x6,x7,x8,x20,x21,x1000,x1001=>if x21 < x20 then (if x5 = 1 then (if 0 ≤ x21 then (if x21 < (x8.length : Int) then ((shapesearchkeep_Src_Range.f x1000 x1001 (-2) 2).bind fun bt120=>((shapesearchkeep_clip.f (wrap64 ((rd x8 x21) + bt120.1))).bind fun t122=>(shapesearchkeep_Src_Near.l0 k x1 x5 x6 x7 (x8.set (x21 : Int).toNat t122) x20 (wrap64 (x21 + 1)) x1000 bt120.2))) else (none)) else (none)) else (if x5 = 2 then (if 0 ≤ x21 then (if x21 < (x8.length : Int) then ((shapesearchkeep_clip.f (wrap64 ((rd x8 x21) + x6))).bind fun t125=>(shapesearchkeep_Src_Near.l0 k x1 x5 x6 x7 (x8.set (x21 : Int).toNat t125) x20 (wrap64 (x21 + 1)) x1000 x1001)) else (none)) else (none)) else (if x5 = 3 then (if 0 ≤ x21 then (if x21 < (x8.length : Int) then ((shapesearchkeep_clip.f (wrap64 ((wrap64 ((rd x8 x21) * x7)) + x6))).bind fun t128=>(shapesearchkeep_Src_Near.l0 k x1 x5 x6 x7 (x8.set (x21 : Int).toNat t128) x20 (wrap64 (x21 + 1)) x1000 x1001)) else (none)) else (none)) else (if x5 = 4 then (if 0 ≤ (wrap64 ((wrap64 ((x1.length : Int) - 1)) - x21)) then (if (wrap64 ((wrap64 ((x1.length : Int) - 1)) - x21)) < (x1.length : Int) then (if 0 ≤ x21 then (if x21 < (x8.length : Int) then (shapesearchkeep_Src_Near.l0 k x1 x5 x6 x7 (x8.set (x21 : Int).toNat (rd x1 (wrap64 ((wrap64 ((x1.length : Int) - 1)) - x21)))) x20 (wrap64 (x21 + 1)) x1000 x1001) else (none)) else (none)) else (none)) else (none)) else (if x5 = 5 then ((shapesearchkeep_Src_Range.f x1000 x1001 (-1) 1).bind fun bt132=>((shapesearchkeep_Mod.f (wrap64 (x21 + bt132.1)) (x1.length : Int)).bind fun t134=>(if 0 ≤ t134 then (if t134 < (x1.length : Int) then (if 0 ≤ x21 then (if x21 < (x8.length : Int) then (shapesearchkeep_Src_Near.l0 k x1 x5 x6 x7 (x8.set (x21 : Int).toNat (rd x1 t134)) x20 (wrap64 (x21 + 1)) x1000 bt132.2) else (none)) else (none)) else (none)) else (none)))) else (if x5 = 6 then (if 0 ≤ x21 then (if x21 < (x8.length : Int) then ((shapesearchkeep_clip.f (wrap64 (x6 - (wrap64 ((rd x8 x21) * x7))))).bind fun t138=>(shapesearchkeep_Src_Near.l0 k x1 x5 x6 x7 (x8.set (x21 : Int).toNat t138) x20 (wrap64 (x21 + 1)) x1000 x1001)) else (none)) else (none)) else (shapesearchkeep_Src_Near.l0 k x1 x5 x6 x7 x8 x20 (wrap64 (x21 + 1)) x1000 x1001))))))) else (some (x8,x1001))
def shapesearchkeep_Src_Near.f (k : Nat) (s0_0 : List Int) (s0_1 : Int) (l1 : List Int) : Option (List Int × Int):=(shapesearchkeep_Src_N.f s0_0 s0_1 7).bind fun bt107=>((shapesearchkeep_Src_Range.f s0_0 bt107.2 (-20) 20).bind fun bt109=>((shapesearchkeep_Src_Range.f s0_0 bt109.2 1 3).bind fun bt111=>((some (([] : List Int) : List Int)).bind fun y113=>(if y113.length + l1.length < 17592186044416 then ((some (y113 ++ l1 : List Int)).bind fun y116=>(shapesearchkeep_Src_Near.l0 k l1 bt107.1 bt109.1 bt111.1 y116 (y116.length : Int) 0 s0_0 bt111.2)) else (none)))))
theorem shapesearchkeep_Src_Near.mono_l : ∀ k,(∀ y0 y1 y2 y3 y4 y5 y6 y7 y8,LeO (shapesearchkeep_Src_Near.l0 k y0 y1 y2 y3 y4 y5 y6 y7 y8) (shapesearchkeep_Src_Near.l0 (k + 1) y0 y1 y2 y3 y4 y5 y6 y7 y8))
 | 0=>fun _ _ _ _ _ _ _ _ _ r h=>by simp [shapesearchkeep_Src_Near.l0] at h
 | k + 1=>by
  have ih0:=shapesearchkeep_Src_Near.mono_l k
  ·
   intro y0 y1 y2 y3 y4 y5 y6 y7 y8
   unfold shapesearchkeep_Src_Near.l0
   repeat' first
   | (with_reducible exact ih0 _ _ _ _ _ _ _ _ _)
   | (with_reducible exact LeO.refl _)
   | (with_reducible exact LeO.none _)
   | (with_reducible refine LeO.ite ?_ ?_)
   | (with_reducible refine LeO.bind ?_ (fun _=>?_))
   | exact ih0 _ _ _ _ _ _ _ _ _
   | exact LeO.none _
   | refine LeO.ite ?_ ?_
   | refine LeO.bind ?_ (fun _=>?_)
theorem shapesearchkeep_Src_Near.mono : ∀ a0 a1 a2 k,LeO (shapesearchkeep_Src_Near.f k a0 a1 a2) (shapesearchkeep_Src_Near.f (k + 1) a0 a1 a2):=by
 intro a0 a1 a2 k
 have ih0:=shapesearchkeep_Src_Near.mono_l k
 unfold shapesearchkeep_Src_Near.f
 repeat' first
   | (with_reducible exact ih0 _ _ _ _ _ _ _ _ _)
   | (with_reducible exact LeO.refl _)
   | (with_reducible exact LeO.none _)
   | (with_reducible refine LeO.ite ?_ ?_)
   | (with_reducible refine LeO.bind ?_ (fun _=>?_))
   | exact ih0 _ _ _ _ _ _ _ _ _
   | exact LeO.none _
   | refine LeO.ite ?_ ?_
   | refine LeO.bind ?_ (fun _=>?_)
def shapesearchkeep_Src_Near.T8 : Bool × List (List Nat × List Nat):=(true,[([],[]),([],[]),([],[]),([],[]),([2,3],[2,3]),([4],[4]),([],[]),([6],[6]),([5,7],[5,7]),([8,7],[8]),([0,1,0,1,2,3,4,5,6,7,8,9],[0,1]),([10,9,9,0,1,2,3,4,5,6,7,8,9],[9,10])])
def shapesearchkeep_Src_Near.B8 : List Nat:=[0,0,0,0,12,28,0,64,252,508,1023,2047]
theorem shapesearchkeep_Src_Near.tab8 : rtab .any (opsOf Try.f19 8) = shapesearchkeep_Src_Near.T8:=by kernel_rfl
theorem shapesearchkeep_Src_Near.bits8 : waitsOk shapesearchkeep_Src_Near.T8.2 shapesearchkeep_Src_Near.B8 = true:=by kernel_rfl
set_option maxHeartbeats 8000000 in
set_option maxRecDepth 100000 in
theorem shapesearchkeep_Src_Near.calls (k : Nat) (g : Nat) (s0_0 : List Int) (s0_1 : Int) (A1 : Option Addr) (c1 : Nat) (l1 : List Int) (r1 : List Int) (r2 : Int) (w0 w : World) (hI : IsS56 w0 w g s0_0 s0_1) (hB : Below w0.heap.size w0 w) (hr1 : Kd.C (Kd.int .i64) w A1 l1.length l1) (hc1 : l1.length ≤ c1) (hf1 : ∀ ad,A1 = some ad → 0 < l1.length → ad.block≠g) (h : shapesearchkeep_Src_Near.f k s0_0 s0_1 l1 = some (r1,r2)) :
  Calls Try.prog 19 #[.pointer (some ⟨g,0,none⟩),.slice A1 l1.length c1] w fun e w'=>∃ v0_ : Value,e = .returned (v0_)∧Kd.R (Kd.int .i64) 3 w' w.heap.size (fun _=>True) v0_ r1∧IsS56 w0 w' g s0_0 r2∧Below w0.heap.size w0 w'∧KeepBut w w' g none:=by
 have HR1:=A_ hr1
 have HC1:=A_ hc1
 clear hr1 hc1
 have HI0:=A_ hI
 have HK:=A_ (KeepBut.refl w g none)
 have HL:=A_ hB.size
 clear hI
 have HW0:=A_ hB.size
 have HB:=A_ hB
 clear hB
 have H : ((shapesearchkeep_Src_N.f s0_0 s0_1 7).bind fun bt107=>((shapesearchkeep_Src_Range.f s0_0 bt107.2 (-20) 20).bind fun bt109=>((shapesearchkeep_Src_Range.f s0_0 bt109.2 1 3).bind fun bt111=>((some (([] : List Int) : List Int)).bind fun y113=>(if y113.length + l1.length < 17592186044416 then ((some (y113 ++ l1 : List Int)).bind fun y116=>(shapesearchkeep_Src_Near.l0 k l1 bt107.1 bt109.1 bt111.1 y116 (y116.length : Int) 0 s0_0 bt111.2)) else (none)))))) = some (r1,r2):=h
 clear h
 replace H:=Option.bind_eq_some_iff.mp H
 obtain ⟨⟨t107,t108⟩,A30,H⟩:=H
 replace H : ((shapesearchkeep_Src_Range.f s0_0 t108 (-20) 20).bind fun bt109=>((shapesearchkeep_Src_Range.f s0_0 bt109.2 1 3).bind fun bt111=>((some (([] : List Int) : List Int)).bind fun y113=>(if y113.length + l1.length < 17592186044416 then ((some (y113 ++ l1 : List Int)).bind fun y116=>(shapesearchkeep_Src_Near.l0 k l1 t107 bt109.1 bt111.1 y116 (y116.length : Int) 0 s0_0 bt111.2)) else (none))))) = some (r1,r2):=H
 have A3:=A_ A30
 clear A30
 replace H:=Option.bind_eq_some_iff.mp H
 obtain ⟨⟨t109,t110⟩,A40,H⟩:=H
 replace H : ((shapesearchkeep_Src_Range.f s0_0 t110 1 3).bind fun bt111=>((some (([] : List Int) : List Int)).bind fun y113=>(if y113.length + l1.length < 17592186044416 then ((some (y113 ++ l1 : List Int)).bind fun y116=>(shapesearchkeep_Src_Near.l0 k l1 t107 t109 bt111.1 y116 (y116.length : Int) 0 s0_0 bt111.2)) else (none)))) = some (r1,r2):=H
 have A4:=A_ A40
 clear A40
 replace H:=Option.bind_eq_some_iff.mp H
 obtain ⟨⟨t111,t112⟩,A50,H⟩:=H
 replace H : ((some (([] : List Int) : List Int)).bind fun y113=>(if y113.length + l1.length < 17592186044416 then ((some (y113 ++ l1 : List Int)).bind fun y116=>(shapesearchkeep_Src_Near.l0 k l1 t107 t109 t111 y116 (y116.length : Int) 0 s0_0 t112)) else (none))) = some (r1,r2):=H
 have A5:=A_ A50
 clear A50
 obtain ⟨y113,hy113⟩ : ∃ y_ : List Int,y_ = (([] : List Int)):=⟨_,rfl⟩
 replace H : (if y113.length + l1.length < 17592186044416 then ((some (y113 ++ l1 : List Int)).bind fun y116=>(shapesearchkeep_Src_Near.l0 k l1 t107 t109 t111 y116 (y116.length : Int) 0 s0_0 t112)) else (none)) = some (r1,r2):=by first|(rw [hy113];with_reducible exact H)|(have H2_:=(Option.bind_some _ _).symm.trans H;rw [hy113];with_reducible exact H2_)|(have H2_:=(Option.bind_some _ _).symm.trans H;with_reducible exact H2_)|with_reducible exact H|(rw [hy113];exact H)|exact H
 have Ny113:=A_ hy113
 clear hy113
 by_cases c6 : y113.length + l1.length < 17592186044416
 ·
  rw [if_pos c6] at H
  have LMc6:=A_ c6
  clear c6
  obtain ⟨y116,hy116⟩ : ∃ y_ : List Int,y_ = (y113 ++ l1):=⟨_,rfl⟩
  replace H : (shapesearchkeep_Src_Near.l0 k l1 t107 t109 t111 y116 (y116.length : Int) 0 s0_0 t112) = some (r1,r2):=by first|(rw [hy116];with_reducible exact H)|(have H2_:=(Option.bind_some _ _).symm.trans H;rw [hy116];with_reducible exact H2_)|(have H2_:=(Option.bind_some _ _).symm.trans H;with_reducible exact H2_)|with_reducible exact H|(rw [hy116];exact H)|exact H
  have Ny116:=A_ hy116
  clear hy116
  have H':=A_ H
  clear H
  go_enter Try.func19,Try.ntmps19
  go_wp2_with (first|((with_reducible refine gate_callee (f:=24) rfl ?_);refine goesL_ (some 11) rfl rfl Try.func24 (by kernel_rfl) rfl #[.pointer (some ⟨g,0,none⟩),.int .i64 7] rfl (by (try simp only [List.map_toArray,List.map_cons,List.map_nil]);first|done|rfl|(simp only [List.length_drop,List.length_take];rfl)) ?_;(with_reducible refine (shapesearchkeep_Src_N.calls g s0_0 s0_1 7 t107 t108 w0 _ ?side1 ?side2 A3.out).mono ?_);(case side1=>repeat (first|(with_reducible first|exact HI0.out|apply IsS56.alloc|apply IsS56.drewN|apply IsS56.drew|apply IsS56.set_1)|exact HI0.out));(case side2=>repeat (first|(with_reducible first|exact HB.out|apply ba|apply bb|apply bc|refine below_set ?_ (IsS56.ge HI0.out))|exact HB.out));rintro e w7 ⟨rfl,hi,hb,hk⟩;refine ⟨_,rfl,?_⟩;have n0_:=A_ (KeepBut.trans (by repeat (first|(with_reducible first|exact HK.out|apply KeepBut.set_|apply keep_drewN|apply keep_drew|apply keep_alloc)|exact HK.out)) hk (.inl rfl));have n1_:=A_ (hb);have n2_:=A_ (hi);clear HK;clear HB;clear HI0;have HK:=n0_;have HB:=n1_;have HI0:=n2_;clear n0_ n1_ n2_;(try clear hb);(try clear hb2);(try clear hk);(try clear hi))|((with_reducible refine gate_callee (f:=45) rfl ?_);refine goesL_ (some 13) rfl rfl Try.func45 (by kernel_rfl) rfl #[.pointer (some ⟨g,0,none⟩),.int .i64 (-20),.int .i64 20] rfl (by (try simp only [List.map_toArray,List.map_cons,List.map_nil]);first|done|rfl|(simp only [List.length_drop,List.length_take];rfl)) ?_;(with_reducible refine (shapesearchkeep_Src_Range.calls g s0_0 t108 (-20) 20 t109 t110 w0 _ ?side1 ?side2 A4.out).mono ?_);(case side1=>repeat (first|(with_reducible first|exact HI0.out|apply IsS56.alloc|apply IsS56.drewN|apply IsS56.drew|apply IsS56.set_1)|exact HI0.out));(case side2=>repeat (first|(with_reducible first|exact HB.out|apply ba|apply bb|apply bc|refine below_set ?_ (IsS56.ge HI0.out))|exact HB.out));rintro e w8 ⟨rfl,hi,hb,hk⟩;refine ⟨_,rfl,?_⟩;have n0_:=A_ (KeepBut.trans (by repeat (first|(with_reducible first|exact HK.out|apply KeepBut.set_|apply keep_drewN|apply keep_drew|apply keep_alloc)|exact HK.out)) hk (.inl rfl));have n1_:=A_ (hb);have n2_:=A_ (hi);clear HK;clear HB;clear HI0;have HK:=n0_;have HB:=n1_;have HI0:=n2_;clear n0_ n1_ n2_;(try clear hb);(try clear hb2);(try clear hk);(try clear hi))|((with_reducible refine gate_callee (f:=45) rfl ?_);refine goesL_ (some 15) rfl rfl Try.func45 (by kernel_rfl) rfl #[.pointer (some ⟨g,0,none⟩),.int .i64 1,.int .i64 3] rfl (by (try simp only [List.map_toArray,List.map_cons,List.map_nil]);first|done|rfl|(simp only [List.length_drop,List.length_take];rfl)) ?_;(with_reducible refine (shapesearchkeep_Src_Range.calls g s0_0 t110 1 3 t111 t112 w0 _ ?side1 ?side2 A5.out).mono ?_);(case side1=>repeat (first|(with_reducible first|exact HI0.out|apply IsS56.alloc|apply IsS56.drewN|apply IsS56.drew|apply IsS56.set_1)|exact HI0.out));(case side2=>repeat (first|(with_reducible first|exact HB.out|apply ba|apply bb|apply bc|refine below_set ?_ (IsS56.ge HI0.out))|exact HB.out));rintro e w9 ⟨rfl,hi,hb,hk⟩;refine ⟨_,rfl,?_⟩;have n0_:=A_ (KeepBut.trans (by repeat (first|(with_reducible first|exact HK.out|apply KeepBut.set_|apply keep_drewN|apply keep_drew|apply keep_alloc)|exact HK.out)) hk (.inl rfl));have n1_:=A_ (hb);have n2_:=A_ (hi);clear HK;clear HB;clear HI0;have HK:=n0_;have HB:=n1_;have HI0:=n2_;clear n0_ n1_ n2_;(try clear hb);(try clear hb2);(try clear hk);(try clear hi))|((with_reducible refine gate_dst (N:=16) rfl ?_);refine Kd.R_lit (Kd.int .i64) _ 3 ?hg (N:=16) ?hd (xs:=([] : List Int)) (inner:=[]) (ok:=fun _=>True) (okp:=fun _=>True) ?hr ?hp (fun _ hk=>hk) trivial (Below.refl _ _) (Nat.le_refl _) (by simp) ?_;(case hd=>rfl);(case hg=>rfl);(case hr=>first|(go_simp;done)|(go_simp;rfl));(case hp=>exact (Reps.none _ _));intro v114 w10 ho11 hb hg_ hnew_;clear hg_ hnew_;(first|rw [← Ny113.out] at ho11|(simp only [Int.reduceToNat] at ho11;rw [← Ny113.out] at ho11));have n0_:=A_ (Kd.R_lower ho11 (keep_size (w:=w) (g:=g) (row:=none) (by repeat (first|(with_reducible first|exact HK.out|apply KeepBut.set_|apply keep_drewN|apply keep_drew|apply keep_alloc)|exact HK.out))));have n1_:=A_ (IsS56.below (by repeat (first|(with_reducible first|exact HI0.out|apply IsS56.alloc|apply IsS56.drewN|apply IsS56.drew|apply IsS56.set_1)|exact HI0.out)) hb);have n2_:=A_ (KeepBut.trans (by repeat (first|(with_reducible first|exact HK.out|apply KeepBut.set_|apply keep_drewN|apply keep_drew|apply keep_alloc)|exact HK.out)) (KeepBut.of_below hb g none) (.inl rfl));have n3_:=A_ (below_step (by repeat (first|(with_reducible first|exact HB.out|apply ba|apply bb|apply bc|refine below_set ?_ (IsS56.ge HI0.out))|exact HB.out)) hb);clear HI0;clear HK;clear HB;have HO115:=n0_;have HI0:=n1_;have HK:=n2_;have HB:=n3_;clear n0_ n1_ n2_ n3_;clear hb ho11)|((with_reducible refine gate_builtin (b:=.append) (xs:=#[.tmp 16,.tmp 17]) rfl ?_);at_builtin;refine Kd.R_append_rows (Kd.int .i64) w.heap.size rfl (.tmp 16) (.tmp 17) 22 3 (.int .i64 0) 8 rfl Try.underlying22 info3 rfl (by decide) (by omega) v114 y113 l1 _ _ _ (fun _=>True) (fun _=>False) rfl rfl ?aO ?aR (fun _ _ h=>h) (fun _ h=>h.elim) ?aF (Below.refl _ _) ?aS ?aL ?_;(case aR=>exact Kd.C_keep 0 HR1.out (by repeat (first|(with_reducible first|exact HK.out|apply KeepBut.set_|apply keep_drewN|apply keep_drew|apply keep_alloc)|exact HK.out)) hf1);(case aF=>exact (fun _ _=>trivial));(case aO=>exact (by (with_reducible repeat (first|apply ra|apply rb|apply rc));exact HO115.out));(case aS=>exact (keep_size (w:=w) (g:=g) (row:=none) (by repeat (first|(with_reducible first|exact HK.out|apply KeepBut.set_|apply keep_drewN|apply keep_drew|apply keep_alloc)|exact HK.out))));(case aL=>have:=LMc6.out;omega);intro v117 w12 ho hb hg hat;rw [← Ny116.out] at ho;have n0_:=A_ (IsS56.grown (by repeat (first|(with_reducible first|exact HI0.out|apply IsS56.alloc|apply IsS56.drewN|apply IsS56.drew|apply IsS56.set_1)|exact HI0.out)) hg (IsS56.own_ne HI0.out HO115.out (by decide)));have n1_:=A_ (below_weaken (by repeat (first|(with_reducible first|exact HB.out|apply ba|apply bb|apply bc|refine below_set ?_ (IsS56.ge HI0.out))|exact HB.out)) HL.out hb);have n2_:=A_ (KeepBut.trans (by repeat (first|(with_reducible first|exact HK.out|apply KeepBut.set_|apply keep_drewN|apply keep_drew|apply keep_alloc)|exact HK.out)) (KeepBut.of_grown hg g) (Kd.R_base2 HO115.out));have n3_:=A_ (ho);clear HI0;clear HB;clear HK;clear HO115;have HI0:=n0_;have HB:=n1_;have HK:=n2_;have HO118:=n3_;clear n0_ n1_ n2_ n3_;clear ho hb hg hat;obtain ⟨Ao13,co13,eo13⟩:=Kd.R_slice HO118.out;subst eo13))
  go_loopg [21] k (fun kq v21 w'=>∃ (x8_1 : List Int) (x21_1 : Int) (x1001_1 : Int),v21 = .int .i64 x21_1∧Aside0 (shapesearchkeep_Src_Near.l0 kq l1 t107 t109 t111 x8_1 (y116.length : Int) x21_1 s0_0 x1001_1 = some (r1,r2))∧Aside0 (kq ≤ k)∧Aside0 (Kd.R (Kd.int .i64) 3 w' w.heap.size (fun _=>True) (.slice Ao13 y116.length co13) x8_1)∧Aside0 (IsS56 w0 w' g s0_0 x1001_1)∧Aside0 (KeepBut w w' g none)∧Aside0 (Below w0.heap.size w0 w'))
  case atStart=>exact ⟨(y116),(0),(t112),(by first|rfl|(simp;done)|(simp [*];done)),H',⟨Nat.le_refl _⟩,⟨by (with_reducible repeat (first|apply ra|apply rb|apply rc));exact HO118.out⟩,⟨by repeat (first|(with_reducible first|exact HI0.out|apply IsS56.alloc|apply IsS56.drewN|apply IsS56.drew|apply IsS56.set_1)|exact HI0.out)⟩,⟨by repeat (first|(with_reducible first|exact HK.out|apply KeepBut.set_|apply keep_drewN|apply keep_drew|apply keep_alloc)|exact HK.out)⟩,⟨by repeat (first|(with_reducible first|exact HB.out|apply ba|apply bb|apply bc|refine below_set ?_ (IsS56.ge HI0.out))|exact HB.out)⟩⟩
  case round =>
   clear H'
   try clear c1
   try clear c2
   try clear p2
   try clear c4
   try clear c6
   obtain ⟨x8_1,x21_1,x1001_1,rfl,HA,HK1,HO_8,HI0,HK,HB⟩:=hrel
   have hl8_1:=(rd_ HO_8.out).1
   rw [hl8_1] at HO_8
   (try simp only [hl8_1])
   cases gk with
   | zero=>exact absurd HA.out (by simp [shapesearchkeep_Src_Near.l0])
   | succ k1 =>
    have H:=HA.out
    clear HA
    simp only [shapesearchkeep_Src_Near.l0] at H
    by_cases c14 : x21_1 < (y116.length : Int)
    ·
     rw [if_pos c14] at H
     have c14b0 : decide (x21_1 < (y116.length : Int)) = true:=decide_eq_true c14
     (try (have c14b0h:=c14b0;simp only [hl8_1] at c14b0h))
     clear c14
     by_cases c15 : t107 = 1
     ·
      rw [if_pos c15] at H
      have c15b0 : (t107 == 1) = true:=beq_iff_eq.mpr c15
      have c15b1 : (t107 != 1) = false:=bne_eq_false_iff_eq.mpr c15
      clear c15
      by_cases c16 : 0 ≤ x21_1
      ·
       rw [if_pos c16] at H
       have c16b0 : decide (0 ≤ x21_1) = true:=decide_eq_true c16
       clear c16
       by_cases c17 : x21_1 < (x8_1.length : Int)
       ·
        rw [if_pos c17] at H
        have c17b0 : decide (x21_1 < (x8_1.length : Int)) = true:=decide_eq_true c17
        (try (have c17b0h:=c17b0;simp only [hl8_1] at c17b0h))
        clear c17
        replace H:=Option.bind_eq_some_iff.mp H
        obtain ⟨⟨t120,t121⟩,A180,H⟩:=H
        replace H : ((shapesearchkeep_clip.f (wrap64 ((rd x8_1 x21_1) + t120))).bind fun t122=>(shapesearchkeep_Src_Near.l0 k1 l1 t107 t109 t111 (x8_1.set (x21_1 : Int).toNat t122) (y116.length : Int) (wrap64 (x21_1 + 1)) s0_0 t121)) = some (r1,r2):=H
        have A18:=A_ A180
        clear A180
        replace H:=Option.bind_eq_some_iff.mp H
        obtain ⟨t122,A190,H⟩:=H
        replace H : (shapesearchkeep_Src_Near.l0 k1 l1 t107 t109 t111 (x8_1.set (x21_1 : Int).toNat t122) (y116.length : Int) (wrap64 (x21_1 + 1)) s0_0 t121) = some (r1,r2):=H
        have A19:=A_ A190
        clear A190
        obtain ⟨y123,hy123⟩ : ∃ y_ : List Int,y_ = (x8_1.set (x21_1 : Int).toNat t122):=⟨_,rfl⟩
        replace H : (shapesearchkeep_Src_Near.l0 k1 l1 t107 t109 t111 y123 (y116.length : Int) (wrap64 (x21_1 + 1)) s0_0 t121) = some (r1,r2):=by first|(rw [hy123];with_reducible exact H)|(have H2_:=(Option.bind_some _ _).symm.trans H;rw [hy123];with_reducible exact H2_)|(have H2_:=(Option.bind_some _ _).symm.trans H;with_reducible exact H2_)|with_reducible exact H|(rw [hy123];exact H)|exact H
        have Ny123:=A_ hy123
        clear hy123
        have H':=A_ H
        clear H
        try go_wp2
        have n0_:=A_ (Kd.R_drew HO_8.out)
        have n1_:=A_ (IsS56.drew HI0.out)
        have n2_:=A_ (keep_drew HK.out)
        have n3_:=A_ (below_drew1 HB.out)
        clear HO_8
        clear HI0
        clear HK
        clear HB
        have HO_8:=n0_
        have HI0:=n1_
        have HK:=n2_
        have HB:=n3_
        clear n0_ n1_ n2_ n3_
        have p119 : 0 ≤ (x21_1 : Int):=of_decide_eq_true (by first|(with_reducible assumption)|assumption)
        have q119 : x21_1 < (x8_1.length : Int):=of_decide_eq_true (by first|(with_reducible assumption)|assumption)
        obtain ⟨ad119,e119,hx119_0⟩:=Kd.at_int (rd_ HO_8.out).2.2 x21_1 p119 q119
        cases e119
        replace p119:=eq_true p119
        replace q119:=eq_true q119
        refine start_ (n:=12) (S:=fun w'=>w'.cell? (ad119.add (x21_1).toNat) = some (.int .i64 (rd x8_1 x21_1))) (ds:=[11]) #[false,false,false,false,false,false,false,false,false,false,false,false] (by kernel_rfl) rfl rfl (hx119_0) (fun hHeld=>?_);refine with_tabW shapesearchkeep_Src_Near.tab8 shapesearchkeep_Src_Near.bits8 (fun HT_ HW_=>?_)
        generalize wr.drew = w21 at HO_8 HI0 HK HB hx119_0 hHeld ⊢
        refine pure_ (i:=0) (N:=some 27) (v:=?_) (a':=?_) #[true,false,false,false,false,false,false,false,false,false,false,false] rfl rfl (any_of HT_.out (by kernel_rfl)) (fun _ _ _ h=>h) (Or.inl ⟨by rfl,?_⟩) ?_ ?_
        rotate_left
        ·
         intro w'
         go_simp
         with_reducible rfl
        rotate_left
        ·
         simp only [Act.put,sa,sb,sc,i64_w,i32_w]
         rfl
        refine pure_ (i:=1) (N:=some 28) (v:=?_) (a':=?_) #[true,true,false,false,false,false,false,false,false,false,false,false] rfl rfl (any_of HT_.out (by kernel_rfl)) (fun _ _ _ h=>h) (Or.inl ⟨by rfl,?_⟩) ?_ ?_
        rotate_left
        ·
         intro w'
         go_simp
         with_reducible rfl
        rotate_left
        ·
         simp only [Act.put,sa,sb,sc,i64_w,i32_w]
         rfl
        refine pure_ (i:=2) (N:=some 29) (v:=?_) (a':=?_) #[true,true,true,false,false,false,false,false,false,false,false,false] rfl rfl (any_of HT_.out (by kernel_rfl)) (fun _ _ _ h=>h) (Or.inl ⟨by rfl,?_⟩) ?_ ?_
        rotate_left
        ·
         intro w'
         go_simp
         with_reducible rfl
        rotate_left
        ·
         simp only [Act.put,sa,sb,sc,i64_w,i32_w]
         rfl
        refine pure_ (i:=3) (N:=some 30) (v:=?_) (a':=?_) #[true,true,true,true,false,false,false,false,false,false,false,false] rfl rfl (any_of HT_.out (by kernel_rfl)) (fun _ _ _ h=>h) (Or.inl ⟨by rfl,?_⟩) ?_ ?_
        rotate_left
        ·
         intro w'
         go_simp
         with_reducible rfl
        rotate_left
        ·
         simp only [Act.put,sa,sb,sc,i64_w,i32_w]
         rfl
        refine pure_ (i:=4) (N:=some 31) (v:=?_) (a':=?_) #[true,true,true,true,true,false,false,false,false,false,false,false] rfl rfl (any_of HT_.out (by kernel_rfl)) (fun _ _ _ h=>h) (Or.inl ⟨by rfl,?_⟩) ?_ ?_
        rotate_left
        ·
         intro w'
         go_simp
         with_reducible rfl
        rotate_left
        ·
         simp only [Act.put,sa,sb,sc,i64_w,i32_w]
         rfl
        refine pure_ (i:=6) (N:=some 33) (v:=?_) (a':=?_) #[true,true,true,true,true,false,true,false,false,false,false,false] rfl rfl (any_of HT_.out (by kernel_rfl)) (fun _ _ _ h=>h) (Or.inl ⟨by rfl,?_⟩) ?_ ?_
        rotate_left
        ·
         intro w'
         go_simp
         with_reducible rfl
        rotate_left
        ·
         simp only [Act.put,sa,sb,sc,i64_w,i32_w]
         rfl
        refine take_ (i:=5) (N:=some 32) (v:=?_) (a':=?_) #[true,true,true,true,true,true,true,false,false,false,false,false] rfl rfl (take_ofW HT_.out HW_.out (by kernel_rfl)) (fun _ _ _ h=>h) (Or.inl ⟨by rfl,?_⟩) hHeld ?_ ?_
        rotate_left
        ·
         intro w' s0
         go_simp
         with_reducible rfl
        rotate_left
        ·
         simp only [Act.put,sa,sb,sc,i64_w,i32_w]
         rfl
        refine one_ (i:=7) (N:=some 34) #[true,true,true,true,true,true,true,true,false,false,false,false] rfl rfl (one_of HT_.out (by kernel_rfl)) (by decide) (fun K hK=>?_)
        refine goes_ Try.func45 (by kernel_rfl) rfl #[.pointer (some ⟨g,0,none⟩),.int .i64 (-2),.int .i64 2] (by rfl) rfl rfl (by (try simp only [List.map_toArray,List.map_cons,List.map_nil]);first|done|rfl|(simp only [List.length_drop,List.length_take];rfl)) ?_
        with_reducible refine (shapesearchkeep_Src_Range.calls g s0_0 x1001_1 (-2) 2 t120 t121 w0 _ ?side1 ?side2 A18.out).mono ?_
        (case side1=>repeat (first|(with_reducible first|exact HI0.out|apply IsS56.alloc|apply IsS56.drewN|apply IsS56.drew|apply IsS56.set_1)|exact HI0.out))
        (case side2=>repeat (first|(with_reducible first|exact HB.out|apply ba|apply bb|apply bc|refine below_set ?_ (IsS56.ge HI0.out))|exact HB.out))
        rintro e w22 ⟨rfl,hi,hb,hk⟩
        have HS0_:=keep_cell hk (hHeld) (by first|(rw [add_block];exact Kd.own_blk (IsS56.own_ne HI0.out HO_8.out (by decide)))|(show (Addr.add _ _).block≠_;rw [add_block];exact Kd.own_blk (IsS56.own_ne HI0.out HO_8.out (by decide)))|exact Kd.own_blk (IsS56.own_ne HI0.out HO_8.out (by decide)))
        refine ⟨_,rfl,?_⟩
        have n0_:=A_ (rm (Kd.R_keep (IsS56.apart (show IsS56 w0 _ g s0_0 x1001_1 from by repeat (first|(with_reducible first|exact HI0.out|apply IsS56.alloc|apply IsS56.drewN|apply IsS56.drew|apply IsS56.set_1)|exact HI0.out)) (by (with_reducible repeat (first|apply ra|apply rb|apply rc));exact HO_8.out) (by decide)) hk (fun _ h=>h.2)) (fun _ h=>h.1))
        have n1_:=A_ (KeepBut.trans (by repeat (first|(with_reducible first|exact HK.out|apply KeepBut.set_|apply keep_drewN|apply keep_drew|apply keep_alloc)|exact HK.out)) hk (.inl rfl))
        have n2_:=A_ (hb)
        have n3_:=A_ (hi)
        clear HO_8
        clear HK
        clear HB
        clear HI0
        have HO_8:=n0_
        have HK:=n1_
        have HB:=n2_
        have HI0:=n3_
        clear n0_ n1_ n2_ n3_
        (try clear hb)
        (try clear hb2)
        (try clear hk)
        (try clear hi)
        refine hK.out _ _ (HS0_) (fun hHeld=>?_)
        clear hK K
        refine norm_ (a':=?_) ?_ ?_
        rotate_left
        ·
         show Act.put _ (some 34) _ = _
         simp only [Act.put,sa,sb,sc,i64_w,i32_w]
         rfl
        refine pure_ (i:=8) (N:=some 35) (v:=?_) (a':=?_) #[true,true,true,true,true,true,true,true,true,false,false,false] rfl rfl (any_of HT_.out (by kernel_rfl)) (fun _ _ _ h=>h) (Or.inl ⟨by rfl,?_⟩) ?_ ?_
        rotate_left
        ·
         intro w'
         go_simp
         with_reducible rfl
        rotate_left
        ·
         simp only [Act.put,sa,sb,sc,i64_w,i32_w]
         rfl
        refine one_ (i:=9) (N:=some 36) #[true,true,true,true,true,true,true,true,true,true,false,false] rfl rfl (one_of HT_.out (by kernel_rfl)) (by decide) (fun K hK=>?_)
        refine goes_ Try.func46 (by kernel_rfl) rfl #[.int .i64 (wrap64 ((rd x8_1 x21_1) + t120))] (by rfl) rfl rfl (by (try simp only [List.map_toArray,List.map_cons,List.map_nil]);first|done|rfl|(simp only [List.length_drop,List.length_take];rfl)) ?_
        with_reducible refine (shapesearchkeep_clip.calls (wrap64 ((rd x8_1 x21_1) + t120)) t122 _ A19.out).mono ?_
        rintro e w23 ⟨rfl,hb⟩
        have HS0_:=(hb.cell (World.block_lt_of_cell? _ _ (hHeld))).trans (hHeld)
        refine ⟨_,rfl,?_⟩
        have n0_:=A_ (rw_ (by (with_reducible repeat (first|apply ra|apply rb|apply rc));exact HO_8.out) hb)
        have n1_:=A_ (IsS56.below (by repeat (first|(with_reducible first|exact HI0.out|apply IsS56.alloc|apply IsS56.drewN|apply IsS56.drew|apply IsS56.set_1)|exact HI0.out)) hb)
        have n2_:=A_ (KeepBut.trans (by repeat (first|(with_reducible first|exact HK.out|apply KeepBut.set_|apply keep_drewN|apply keep_drew|apply keep_alloc)|exact HK.out)) (KeepBut.of_below hb g none) (.inl rfl))
        have n3_:=A_ (below_step (by repeat (first|(with_reducible first|exact HB.out|apply ba|apply bb|apply bc|refine below_set ?_ (IsS56.ge HI0.out))|exact HB.out)) hb)
        clear HO_8
        clear HI0
        clear HK
        clear HB
        have HO_8:=n0_
        have HI0:=n1_
        have HK:=n2_
        have HB:=n3_
        clear n0_ n1_ n2_ n3_
        (try clear hb)
        (try clear hb2)
        (try clear hk)
        (try clear hi)
        have p20 : 0 ≤ (x21_1 : Int):=of_decide_eq_true (by first|(with_reducible assumption)|assumption)
        have q20 : (x21_1 : Int) < ((x8_1.length : Int) : Int):=of_decide_eq_true (by first|(with_reducible assumption)|assumption)
        obtain ⟨go20,co20,eo20,gb20,gl20,cl20,HG20⟩:=Kd.R_form HO_8.out (by omega)
        (first|cases eo20|(injection eo20 with ea_ en_ ec_;(first|subst ea_|(injection ea_ with ea_;subst ea_));subst ec_;clear en_))
        have GB20:=A_ gb20
        have GG20:=A_ HG20
        clear gb20 gl20 HG20
        (first|simp only [add_plain] at hx119_0|skip)
        obtain ⟨hx20_0,hf20_0⟩:=Kd.R_celln 0 HO_8.out (x21_1 : Int) p20 q20
        replace p20:=eq_true p20
        replace q20:=eq_true q20
        have HN0_go20:=A_ (show g≠go20 from by have h_:=IsS56.own_ne HI0.out HO_8.out (by decide);intro e_;exact h_ (by rw [e_];rfl))
        have HP24:=Kd.R_putn HO_8.out (x21_1 : Int) t122
        rw [← Ny123.out] at HP24
        have HQ24:=A_ HP24
        clear HP24
        refine hK.out _ _ (HS0_) (fun hHeld=>?_)
        clear hK K
        refine norm_ (a':=?_) ?_ ?_
        rotate_left
        ·
         show Act.put _ (some 36) _ = _
         simp only [Act.put,sa,sb,sc,i64_w,i32_w]
         rfl
        refine pure_ (i:=10) (N:=some 37) (v:=?_) (a':=?_) #[true,true,true,true,true,true,true,true,true,true,true,false] rfl rfl (any_of HT_.out (by kernel_rfl)) (fun _ _ _ h=>h) (Or.inl ⟨by rfl,?_⟩) ?_ ?_
        rotate_left
        ·
         intro w'
         go_simp
         with_reducible rfl
        rotate_left
        ·
         simp only [Act.put,sa,sb,sc,i64_w,i32_w]
         rfl
        refine last_ (i:=11) (N:=none) #[true,true,true,true,true,true,true,true,true,true,true,true] rfl rfl (one_of HT_.out (by kernel_rfl)) (by decide) (fun K hK=>?_)
        refine skip_ (w1:=?_) (by rfl) rfl ?_ ?_
        rotate_left
        ·
         go_simp
         rfl
        refine hK.out _ _ ?_
        clear hK K
        refine done_ (done_of HT_.out (by kernel_rfl)) ?_
        try go_wp2
        (try simp only [← hl8_1])
        go_roundg k1
        case measure=>have:=HK1.out;omega
        case rel=>exact ⟨(y123),(wrap64 (x21_1 + 1)),(t121),(by first|rfl|(simp;done)|(simp [*];done)),H',⟨by have:=HK1.out;omega⟩,⟨by (try simp only [hl8_1]);(with_reducible repeat (first|apply ra|apply rb|apply rc));exact HQ24.out⟩,⟨by repeat (first|(with_reducible first|exact HI0.out|apply IsS56.alloc|apply IsS56.drewN|apply IsS56.drew|apply IsS56.set_1|refine IsS56.far ?_ HN0_go20.out _)|exact HI0.out)⟩,⟨by repeat (first|(with_reducible first|exact HK.out|apply KeepBut.set_|apply keep_drewN|apply keep_drew|apply keep_alloc|refine keep_far ?_ GB20.out _)|exact HK.out)⟩,⟨by repeat (first|(with_reducible first|exact HB.out|apply ba|apply bb|apply bc|refine below_set ?_ (Nat.le_trans HL.out GB20.out)|refine below_set ?_ (IsS56.ge HI0.out))|exact HB.out)⟩⟩
       ·
        rw [if_neg c17] at H
        exact absurd H (by simp)
      ·
       rw [if_neg c16] at H
       exact absurd H (by simp)
     ·
      rw [if_neg c15] at H
      have c15b0 : (t107 == 1) = false:=beq_eq_false_iff_ne.mpr c15
      have c15b1 : (t107 != 1) = true:=bne_iff_ne.mpr c15
      by_cases c25 : t107 = 2
      ·
       rw [if_pos c25] at H
       have c25b0 : (t107 == 2) = true:=beq_iff_eq.mpr c25
       have c25b1 : (t107 != 2) = false:=bne_eq_false_iff_eq.mpr c25
       clear c25
       by_cases c26 : 0 ≤ x21_1
       ·
        rw [if_pos c26] at H
        have c26b0 : decide (0 ≤ x21_1) = true:=decide_eq_true c26
        clear c26
        by_cases c27 : x21_1 < (x8_1.length : Int)
        ·
         rw [if_pos c27] at H
         have c27b0 : decide (x21_1 < (x8_1.length : Int)) = true:=decide_eq_true c27
         (try (have c27b0h:=c27b0;simp only [hl8_1] at c27b0h))
         clear c27
         replace H:=Option.bind_eq_some_iff.mp H
         obtain ⟨t125,A280,H⟩:=H
         replace H : (shapesearchkeep_Src_Near.l0 k1 l1 t107 t109 t111 (x8_1.set (x21_1 : Int).toNat t125) (y116.length : Int) (wrap64 (x21_1 + 1)) s0_0 x1001_1) = some (r1,r2):=H
         have A28:=A_ A280
         clear A280
         obtain ⟨y126,hy126⟩ : ∃ y_ : List Int,y_ = (x8_1.set (x21_1 : Int).toNat t125):=⟨_,rfl⟩
         replace H : (shapesearchkeep_Src_Near.l0 k1 l1 t107 t109 t111 y126 (y116.length : Int) (wrap64 (x21_1 + 1)) s0_0 x1001_1) = some (r1,r2):=by first|(rw [hy126];with_reducible exact H)|(have H2_:=(Option.bind_some _ _).symm.trans H;rw [hy126];with_reducible exact H2_)|(have H2_:=(Option.bind_some _ _).symm.trans H;with_reducible exact H2_)|with_reducible exact H|(rw [hy126];exact H)|exact H
         have Ny126:=A_ hy126
         clear hy126
         have H':=A_ H
         clear H
         have p124 : 0 ≤ (x21_1 : Int):=of_decide_eq_true (by first|(with_reducible assumption)|assumption)
         have q124 : x21_1 < (x8_1.length : Int):=of_decide_eq_true (by first|(with_reducible assumption)|assumption)
         obtain ⟨ad124,e124,hx124_0⟩:=Kd.at_int (rd_ HO_8.out).2.2 x21_1 p124 q124
         cases e124
         replace p124:=eq_true p124
         replace q124:=eq_true q124
         go_wp2_with (first|((with_reducible refine gate_callee (f:=46) rfl ?_);refine goesL_ (some 48) rfl rfl Try.func46 (by kernel_rfl) rfl #[.int .i64 (wrap64 ((rd x8_1 x21_1) + t109))] rfl (by (try simp only [List.map_toArray,List.map_cons,List.map_nil]);first|done|rfl|(simp only [List.length_drop,List.length_take];rfl)) ?_;(with_reducible refine (shapesearchkeep_clip.calls (wrap64 ((rd x8_1 x21_1) + t109)) t125 _ A28.out).mono ?_);rintro e w30 ⟨rfl,hb⟩;refine ⟨_,rfl,?_⟩;have n0_:=A_ (rw_ (by (with_reducible repeat (first|apply ra|apply rb|apply rc));exact HO_8.out) hb);have n1_:=A_ (IsS56.below (by repeat (first|(with_reducible first|exact HI0.out|apply IsS56.alloc|apply IsS56.drewN|apply IsS56.drew|apply IsS56.set_1)|exact HI0.out)) hb);have n2_:=A_ (KeepBut.trans (by repeat (first|(with_reducible first|exact HK.out|apply KeepBut.set_|apply keep_drewN|apply keep_drew|apply keep_alloc)|exact HK.out)) (KeepBut.of_below hb g none) (.inl rfl));have n3_:=A_ (below_step (by repeat (first|(with_reducible first|exact HB.out|apply ba|apply bb|apply bc|refine below_set ?_ (IsS56.ge HI0.out))|exact HB.out)) hb);clear HO_8;clear HI0;clear HK;clear HB;have HO_8:=n0_;have HI0:=n1_;have HK:=n2_;have HB:=n3_;clear n0_ n1_ n2_ n3_;(try clear hb);(try clear hb2);(try clear hk);(try clear hi);have p29 : 0 ≤ (x21_1 : Int):=of_decide_eq_true (by first|(with_reducible assumption)|assumption);have q29 : (x21_1 : Int) < ((x8_1.length : Int) : Int):=of_decide_eq_true (by first|(with_reducible assumption)|assumption);obtain ⟨go29,co29,eo29,gb29,gl29,cl29,HG29⟩:=Kd.R_form HO_8.out (by omega);(first|cases eo29|(injection eo29 with ea_ en_ ec_;(first|subst ea_|(injection ea_ with ea_;subst ea_));subst ec_;clear en_));have GB29:=A_ gb29;have GG29:=A_ HG29;clear gb29 gl29 HG29;(first|simp only [add_plain] at hx124_0|skip);obtain ⟨hx29_0,hf29_0⟩:=Kd.R_celln 0 HO_8.out (x21_1 : Int) p29 q29;replace p29:=eq_true p29;replace q29:=eq_true q29;obtain ⟨hy31_,hz31_⟩:=Kd.R_celln 0 HO_8.out (x21_1 : Int) (of_decide_eq_true (by first|(with_reducible assumption)|assumption)) (of_decide_eq_true (by first|(with_reducible assumption)|assumption));have HP31:=Kd.R_putg HO_8.out (x21_1 : Int) t125)|((with_reducible refine gate_store (t:=3) (p:=49) rfl ?_);refine store_event (t:=3) (p:=49) (v:=?vo_w32) (w1:=(w30.setCell ⟨go29,(x21_1 : Int).toNat,none⟩ (.int .i64 t125))) ?hg ?ho ?hn ?hr ?_;(case ho=>rfl);(case hg=>rfl);(case hn=>rfl);(case hr=>first|(go_simp;done)|(go_simp;rfl));intro w32 hw;have hg : w30.grownBy w32 (some go29):=(by rw [hw];exact HP31.2);have hp_ : Kd.R (Kd.int .i64) 3 w32 w.heap.size (fun _=>True) (.slice (some ⟨go29,0,none⟩) x8_1.length co13) y126:=(by rw [hw,Ny126.out];exact HP31.1);clear HP31;have n0_:=A_ (hp_);have n1_:=A_ (IsS56.grown (by repeat (first|(with_reducible first|exact HI0.out|apply IsS56.alloc|apply IsS56.drewN|apply IsS56.drew|apply IsS56.set_1)|exact HI0.out)) hg (IsS56.own_ne HI0.out HO_8.out (by decide)));have n2_:=A_ ((by rw [hw];exact below_set (HB.out) (Nat.le_trans HL.out GB29.out) : Below w0.heap.size w0 w32));have n3_:=A_ (KeepBut.trans (by repeat (first|(with_reducible first|exact HK.out|apply KeepBut.set_|apply keep_drewN|apply keep_drew|apply keep_alloc)|exact HK.out)) (KeepBut.of_grown hg g) (Kd.R_base2 HO_8.out));clear HO_8;clear HI0;clear HB;clear HK;have HO_8:=n0_;have HI0:=n1_;have HB:=n2_;have HK:=n3_;clear n0_ n1_ n2_ n3_;clear hg hw hp_))
         (try simp only [← hl8_1])
         go_roundg k1
         case measure=>have:=HK1.out;omega
         case rel=>exact ⟨(y126),(wrap64 (x21_1 + 1)),(x1001_1),(by first|rfl|(simp;done)|(simp [*];done)),H',⟨by have:=HK1.out;omega⟩,⟨by (try simp only [hl8_1]);(with_reducible repeat (first|apply ra|apply rb|apply rc));exact HO_8.out⟩,⟨by repeat (first|(with_reducible first|exact HI0.out|apply IsS56.alloc|apply IsS56.drewN|apply IsS56.drew|apply IsS56.set_1)|exact HI0.out)⟩,⟨by repeat (first|(with_reducible first|exact HK.out|apply KeepBut.set_|apply keep_drewN|apply keep_drew|apply keep_alloc)|exact HK.out)⟩,⟨by repeat (first|(with_reducible first|exact HB.out|apply ba|apply bb|apply bc|refine below_set ?_ (IsS56.ge HI0.out))|exact HB.out)⟩⟩
        ·
         rw [if_neg c27] at H
         exact absurd H (by simp)
       ·
        rw [if_neg c26] at H
        exact absurd H (by simp)
      ·
       rw [if_neg c25] at H
       have c25b0 : (t107 == 2) = false:=beq_eq_false_iff_ne.mpr c25
       have c25b1 : (t107 != 2) = true:=bne_iff_ne.mpr c25
       by_cases c33 : t107 = 3
       ·
        rw [if_pos c33] at H
        have c33b0 : (t107 == 3) = true:=beq_iff_eq.mpr c33
        have c33b1 : (t107 != 3) = false:=bne_eq_false_iff_eq.mpr c33
        clear c33
        by_cases c34 : 0 ≤ x21_1
        ·
         rw [if_pos c34] at H
         have c34b0 : decide (0 ≤ x21_1) = true:=decide_eq_true c34
         clear c34
         by_cases c35 : x21_1 < (x8_1.length : Int)
         ·
          rw [if_pos c35] at H
          have c35b0 : decide (x21_1 < (x8_1.length : Int)) = true:=decide_eq_true c35
          (try (have c35b0h:=c35b0;simp only [hl8_1] at c35b0h))
          clear c35
          replace H:=Option.bind_eq_some_iff.mp H
          obtain ⟨t128,A360,H⟩:=H
          replace H : (shapesearchkeep_Src_Near.l0 k1 l1 t107 t109 t111 (x8_1.set (x21_1 : Int).toNat t128) (y116.length : Int) (wrap64 (x21_1 + 1)) s0_0 x1001_1) = some (r1,r2):=H
          have A36:=A_ A360
          clear A360
          obtain ⟨y129,hy129⟩ : ∃ y_ : List Int,y_ = (x8_1.set (x21_1 : Int).toNat t128):=⟨_,rfl⟩
          replace H : (shapesearchkeep_Src_Near.l0 k1 l1 t107 t109 t111 y129 (y116.length : Int) (wrap64 (x21_1 + 1)) s0_0 x1001_1) = some (r1,r2):=by first|(rw [hy129];with_reducible exact H)|(have H2_:=(Option.bind_some _ _).symm.trans H;rw [hy129];with_reducible exact H2_)|(have H2_:=(Option.bind_some _ _).symm.trans H;with_reducible exact H2_)|with_reducible exact H|(rw [hy129];exact H)|exact H
          have Ny129:=A_ hy129
          clear hy129
          have H':=A_ H
          clear H
          have p127 : 0 ≤ (x21_1 : Int):=of_decide_eq_true (by first|(with_reducible assumption)|assumption)
          have q127 : x21_1 < (x8_1.length : Int):=of_decide_eq_true (by first|(with_reducible assumption)|assumption)
          obtain ⟨ad127,e127,hx127_0⟩:=Kd.at_int (rd_ HO_8.out).2.2 x21_1 p127 q127
          cases e127
          replace p127:=eq_true p127
          replace q127:=eq_true q127
          go_wp2_with (first|((with_reducible refine gate_callee (f:=46) rfl ?_);refine goesL_ (some 62) rfl rfl Try.func46 (by kernel_rfl) rfl #[.int .i64 (wrap64 ((wrap64 ((rd x8_1 x21_1) * t111)) + t109))] rfl (by (try simp only [List.map_toArray,List.map_cons,List.map_nil]);first|done|rfl|(simp only [List.length_drop,List.length_take];rfl)) ?_;(with_reducible refine (shapesearchkeep_clip.calls (wrap64 ((wrap64 ((rd x8_1 x21_1) * t111)) + t109)) t128 _ A36.out).mono ?_);rintro e w38 ⟨rfl,hb⟩;refine ⟨_,rfl,?_⟩;have n0_:=A_ (rw_ (by (with_reducible repeat (first|apply ra|apply rb|apply rc));exact HO_8.out) hb);have n1_:=A_ (IsS56.below (by repeat (first|(with_reducible first|exact HI0.out|apply IsS56.alloc|apply IsS56.drewN|apply IsS56.drew|apply IsS56.set_1)|exact HI0.out)) hb);have n2_:=A_ (KeepBut.trans (by repeat (first|(with_reducible first|exact HK.out|apply KeepBut.set_|apply keep_drewN|apply keep_drew|apply keep_alloc)|exact HK.out)) (KeepBut.of_below hb g none) (.inl rfl));have n3_:=A_ (below_step (by repeat (first|(with_reducible first|exact HB.out|apply ba|apply bb|apply bc|refine below_set ?_ (IsS56.ge HI0.out))|exact HB.out)) hb);clear HO_8;clear HI0;clear HK;clear HB;have HO_8:=n0_;have HI0:=n1_;have HK:=n2_;have HB:=n3_;clear n0_ n1_ n2_ n3_;(try clear hb);(try clear hb2);(try clear hk);(try clear hi);have p37 : 0 ≤ (x21_1 : Int):=of_decide_eq_true (by first|(with_reducible assumption)|assumption);have q37 : (x21_1 : Int) < ((x8_1.length : Int) : Int):=of_decide_eq_true (by first|(with_reducible assumption)|assumption);obtain ⟨go37,co37,eo37,gb37,gl37,cl37,HG37⟩:=Kd.R_form HO_8.out (by omega);(first|cases eo37|(injection eo37 with ea_ en_ ec_;(first|subst ea_|(injection ea_ with ea_;subst ea_));subst ec_;clear en_));have GB37:=A_ gb37;have GG37:=A_ HG37;clear gb37 gl37 HG37;(first|simp only [add_plain] at hx127_0|skip);obtain ⟨hx37_0,hf37_0⟩:=Kd.R_celln 0 HO_8.out (x21_1 : Int) p37 q37;replace p37:=eq_true p37;replace q37:=eq_true q37;obtain ⟨hy39_,hz39_⟩:=Kd.R_celln 0 HO_8.out (x21_1 : Int) (of_decide_eq_true (by first|(with_reducible assumption)|assumption)) (of_decide_eq_true (by first|(with_reducible assumption)|assumption));have HP39:=Kd.R_putg HO_8.out (x21_1 : Int) t128)|((with_reducible refine gate_store (t:=3) (p:=63) rfl ?_);refine store_event (t:=3) (p:=63) (v:=?vo_w40) (w1:=(w38.setCell ⟨go37,(x21_1 : Int).toNat,none⟩ (.int .i64 t128))) ?hg ?ho ?hn ?hr ?_;(case ho=>rfl);(case hg=>rfl);(case hn=>rfl);(case hr=>first|(go_simp;done)|(go_simp;rfl));intro w40 hw;have hg : w38.grownBy w40 (some go37):=(by rw [hw];exact HP39.2);have hp_ : Kd.R (Kd.int .i64) 3 w40 w.heap.size (fun _=>True) (.slice (some ⟨go37,0,none⟩) x8_1.length co13) y129:=(by rw [hw,Ny129.out];exact HP39.1);clear HP39;have n0_:=A_ (hp_);have n1_:=A_ (IsS56.grown (by repeat (first|(with_reducible first|exact HI0.out|apply IsS56.alloc|apply IsS56.drewN|apply IsS56.drew|apply IsS56.set_1)|exact HI0.out)) hg (IsS56.own_ne HI0.out HO_8.out (by decide)));have n2_:=A_ ((by rw [hw];exact below_set (HB.out) (Nat.le_trans HL.out GB37.out) : Below w0.heap.size w0 w40));have n3_:=A_ (KeepBut.trans (by repeat (first|(with_reducible first|exact HK.out|apply KeepBut.set_|apply keep_drewN|apply keep_drew|apply keep_alloc)|exact HK.out)) (KeepBut.of_grown hg g) (Kd.R_base2 HO_8.out));clear HO_8;clear HI0;clear HB;clear HK;have HO_8:=n0_;have HI0:=n1_;have HB:=n2_;have HK:=n3_;clear n0_ n1_ n2_ n3_;clear hg hw hp_))
          (try simp only [← hl8_1])
          go_roundg k1
          case measure=>have:=HK1.out;omega
          case rel=>exact ⟨(y129),(wrap64 (x21_1 + 1)),(x1001_1),(by first|rfl|(simp;done)|(simp [*];done)),H',⟨by have:=HK1.out;omega⟩,⟨by (try simp only [hl8_1]);(with_reducible repeat (first|apply ra|apply rb|apply rc));exact HO_8.out⟩,⟨by repeat (first|(with_reducible first|exact HI0.out|apply IsS56.alloc|apply IsS56.drewN|apply IsS56.drew|apply IsS56.set_1)|exact HI0.out)⟩,⟨by repeat (first|(with_reducible first|exact HK.out|apply KeepBut.set_|apply keep_drewN|apply keep_drew|apply keep_alloc)|exact HK.out)⟩,⟨by repeat (first|(with_reducible first|exact HB.out|apply ba|apply bb|apply bc|refine below_set ?_ (IsS56.ge HI0.out))|exact HB.out)⟩⟩
         ·
          rw [if_neg c35] at H
          exact absurd H (by simp)
        ·
         rw [if_neg c34] at H
         exact absurd H (by simp)
       ·
        rw [if_neg c33] at H
        have c33b0 : (t107 == 3) = false:=beq_eq_false_iff_ne.mpr c33
        have c33b1 : (t107 != 3) = true:=bne_iff_ne.mpr c33
        by_cases c41 : t107 = 4
        ·
         rw [if_pos c41] at H
         have c41b0 : (t107 == 4) = true:=beq_iff_eq.mpr c41
         have c41b1 : (t107 != 4) = false:=bne_eq_false_iff_eq.mpr c41
         clear c41
         obtain ⟨ji42,hji42⟩ : ∃ j_ : Int,(wrap64 ((wrap64 ((l1.length : Int) - 1)) - x21_1)) = j_:=⟨_,rfl⟩
         replace H : (if 0 ≤ (ji42) then (if (ji42) < (l1.length : Int) then (if 0 ≤ x21_1 then (if x21_1 < (x8_1.length : Int) then (shapesearchkeep_Src_Near.l0 k1 l1 t107 t109 t111 (x8_1.set (x21_1 : Int).toNat (rd l1 (ji42))) (y116.length : Int) (wrap64 (x21_1 + 1)) s0_0 x1001_1) else (none)) else (none)) else (none)) else (none)) = some (r1,r2):=by first|(rw [hji42] at H;exact H)|(simp only [hji42] at H ⊢;exact H)
         have hji42w : (IntKind.i64.wrap ((wrap64 ((l1.length : Int) - 1)) - x21_1)) = ji42:=(i64_w _).trans hji42
         by_cases c43 : 0 ≤ (ji42)
         ·
          rw [if_pos c43] at H
          have c43b0 : decide (0 ≤ (ji42)) = true:=decide_eq_true c43
          clear c43
          by_cases c44 : (ji42) < (l1.length : Int)
          ·
           rw [if_pos c44] at H
           have c44b0 : decide ((ji42) < (l1.length : Int)) = true:=decide_eq_true c44
           (try (have c44b0h:=c44b0;simp only [hl8_1] at c44b0h))
           clear c44
           by_cases c45 : 0 ≤ x21_1
           ·
            rw [if_pos c45] at H
            have c45b0 : decide (0 ≤ x21_1) = true:=decide_eq_true c45
            clear c45
            by_cases c46 : x21_1 < (x8_1.length : Int)
            ·
             rw [if_pos c46] at H
             have c46b0 : decide (x21_1 < (x8_1.length : Int)) = true:=decide_eq_true c46
             (try (have c46b0h:=c46b0;simp only [hl8_1] at c46b0h))
             clear c46
             obtain ⟨y131,hy131⟩ : ∃ y_ : List Int,y_ = (x8_1.set (x21_1 : Int).toNat (rd l1 (ji42))):=⟨_,rfl⟩
             replace H : (shapesearchkeep_Src_Near.l0 k1 l1 t107 t109 t111 y131 (y116.length : Int) (wrap64 (x21_1 + 1)) s0_0 x1001_1) = some (r1,r2):=by first|(rw [hy131];with_reducible exact H)|(have H2_:=(Option.bind_some _ _).symm.trans H;rw [hy131];with_reducible exact H2_)|(have H2_:=(Option.bind_some _ _).symm.trans H;with_reducible exact H2_)|with_reducible exact H|(rw [hy131];exact H)|exact H
             have Ny131:=A_ hy131
             clear hy131
             have H':=A_ H
             clear H
             have p130 : 0 ≤ ((ji42) : Int):=of_decide_eq_true (by first|(with_reducible assumption)|assumption)
             have q130 : (ji42) < (l1.length : Int):=of_decide_eq_true (by first|(with_reducible assumption)|assumption)
             obtain ⟨ad130,e130,hx130_0⟩:=Kd.at_int HR1.out (ji42) p130 q130
             cases e130
             replace hx130_0:=keep_cell HK.out hx130_0 (by first|(rw [add_block];exact hf1 _ rfl (by omega))|exact hf1 _ rfl (by omega)|exact hf1 ad130 rfl (by omega))
             replace p130:=eq_true p130
             replace q130:=eq_true q130
             have p47 : 0 ≤ (x21_1 : Int):=of_decide_eq_true (by first|(with_reducible assumption)|assumption)
             have q47 : (x21_1 : Int) < ((x8_1.length : Int) : Int):=of_decide_eq_true (by first|(with_reducible assumption)|assumption)
             obtain ⟨go47,co47,eo47,gb47,gl47,cl47,HG47⟩:=Kd.R_form HO_8.out (by omega)
             (first|cases eo47|(injection eo47 with ea_ en_ ec_;(first|subst ea_|(injection ea_ with ea_;subst ea_));subst ec_;clear en_))
             have GB47:=A_ gb47
             have GG47:=A_ HG47
             clear gb47 gl47 HG47
             obtain ⟨hx47_0,hf47_0⟩:=Kd.R_celln 0 HO_8.out (x21_1 : Int) p47 q47
             replace p47:=eq_true p47
             replace q47:=eq_true q47
             have HP48:=Kd.R_putg HO_8.out (x21_1 : Int) (rd l1 (ji42))
             go_wp2_with (first|((with_reducible refine gate_store (t:=3) (p:=76) rfl ?_);refine store_event (t:=3) (p:=76) (v:=?vo_w49) (w1:=(wr.setCell ⟨go47,(x21_1 : Int).toNat,none⟩ (.int .i64 (rd l1 (ji42))))) ?hg ?ho ?hn ?hr ?_;(case ho=>rfl);(case hg=>rfl);(case hn=>rfl);(case hr=>first|(go_simp;done)|(go_simp;rfl));intro w49 hw;have hg : wr.grownBy w49 (some go47):=(by rw [hw];exact HP48.2);have hp_ : Kd.R (Kd.int .i64) 3 w49 w.heap.size (fun _=>True) (.slice (some ⟨go47,0,none⟩) x8_1.length co13) y131:=(by rw [hw,Ny131.out];exact HP48.1);clear HP48;have n0_:=A_ (hp_);have n1_:=A_ (IsS56.grown (by repeat (first|(with_reducible first|exact HI0.out|apply IsS56.alloc|apply IsS56.drewN|apply IsS56.drew|apply IsS56.set_1)|exact HI0.out)) hg (IsS56.own_ne HI0.out HO_8.out (by decide)));have n2_:=A_ ((by rw [hw];exact below_set (HB.out) (Nat.le_trans HL.out GB47.out) : Below w0.heap.size w0 w49));have n3_:=A_ (KeepBut.trans (by repeat (first|(with_reducible first|exact HK.out|apply KeepBut.set_|apply keep_drewN|apply keep_drew|apply keep_alloc)|exact HK.out)) (KeepBut.of_grown hg g) (Kd.R_base2 HO_8.out));clear HO_8;clear HI0;clear HB;clear HK;have HO_8:=n0_;have HI0:=n1_;have HB:=n2_;have HK:=n3_;clear n0_ n1_ n2_ n3_;clear hg hw hp_))
             (try simp only [← hl8_1])
             go_roundg k1
             case measure=>have:=HK1.out;omega
             case rel=>exact ⟨(y131),(wrap64 (x21_1 + 1)),(x1001_1),(by first|rfl|(simp;done)|(simp [*];done)),H',⟨by have:=HK1.out;omega⟩,⟨by (try simp only [hl8_1]);(with_reducible repeat (first|apply ra|apply rb|apply rc));exact HO_8.out⟩,⟨by repeat (first|(with_reducible first|exact HI0.out|apply IsS56.alloc|apply IsS56.drewN|apply IsS56.drew|apply IsS56.set_1)|exact HI0.out)⟩,⟨by repeat (first|(with_reducible first|exact HK.out|apply KeepBut.set_|apply keep_drewN|apply keep_drew|apply keep_alloc)|exact HK.out)⟩,⟨by repeat (first|(with_reducible first|exact HB.out|apply ba|apply bb|apply bc|refine below_set ?_ (IsS56.ge HI0.out))|exact HB.out)⟩⟩
            ·
             rw [if_neg c46] at H
             exact absurd H (by simp)
           ·
            rw [if_neg c45] at H
            exact absurd H (by simp)
          ·
           rw [if_neg c44] at H
           exact absurd H (by simp)
         ·
          rw [if_neg c43] at H
          exact absurd H (by simp)
        ·
         rw [if_neg c41] at H
         have c41b0 : (t107 == 4) = false:=beq_eq_false_iff_ne.mpr c41
         have c41b1 : (t107 != 4) = true:=bne_iff_ne.mpr c41
         by_cases c50 : t107 = 5
         ·
          rw [if_pos c50] at H
          have c50b0 : (t107 == 5) = true:=beq_iff_eq.mpr c50
          have c50b1 : (t107 != 5) = false:=bne_eq_false_iff_eq.mpr c50
          clear c50
          replace H:=Option.bind_eq_some_iff.mp H
          obtain ⟨⟨t132,t133⟩,A510,H⟩:=H
          replace H : ((shapesearchkeep_Mod.f (wrap64 (x21_1 + t132)) (l1.length : Int)).bind fun t134=>(if 0 ≤ t134 then (if t134 < (l1.length : Int) then (if 0 ≤ x21_1 then (if x21_1 < (x8_1.length : Int) then (shapesearchkeep_Src_Near.l0 k1 l1 t107 t109 t111 (x8_1.set (x21_1 : Int).toNat (rd l1 t134)) (y116.length : Int) (wrap64 (x21_1 + 1)) s0_0 t133) else (none)) else (none)) else (none)) else (none))) = some (r1,r2):=H
          have A51:=A_ A510
          clear A510
          replace H:=Option.bind_eq_some_iff.mp H
          obtain ⟨t134,A520,H⟩:=H
          replace H : (if 0 ≤ t134 then (if t134 < (l1.length : Int) then (if 0 ≤ x21_1 then (if x21_1 < (x8_1.length : Int) then (shapesearchkeep_Src_Near.l0 k1 l1 t107 t109 t111 (x8_1.set (x21_1 : Int).toNat (rd l1 t134)) (y116.length : Int) (wrap64 (x21_1 + 1)) s0_0 t133) else (none)) else (none)) else (none)) else (none)) = some (r1,r2):=H
          have A52:=A_ A520
          clear A520
          by_cases c53 : 0 ≤ t134
          ·
           rw [if_pos c53] at H
           have c53b0 : decide (0 ≤ t134) = true:=decide_eq_true c53
           clear c53
           by_cases c54 : t134 < (l1.length : Int)
           ·
            rw [if_pos c54] at H
            have c54b0 : decide (t134 < (l1.length : Int)) = true:=decide_eq_true c54
            (try (have c54b0h:=c54b0;simp only [hl8_1] at c54b0h))
            clear c54
            by_cases c55 : 0 ≤ x21_1
            ·
             rw [if_pos c55] at H
             have c55b0 : decide (0 ≤ x21_1) = true:=decide_eq_true c55
             clear c55
             by_cases c56 : x21_1 < (x8_1.length : Int)
             ·
              rw [if_pos c56] at H
              have c56b0 : decide (x21_1 < (x8_1.length : Int)) = true:=decide_eq_true c56
              (try (have c56b0h:=c56b0;simp only [hl8_1] at c56b0h))
              clear c56
              obtain ⟨y136,hy136⟩ : ∃ y_ : List Int,y_ = (x8_1.set (x21_1 : Int).toNat (rd l1 t134)):=⟨_,rfl⟩
              replace H : (shapesearchkeep_Src_Near.l0 k1 l1 t107 t109 t111 y136 (y116.length : Int) (wrap64 (x21_1 + 1)) s0_0 t133) = some (r1,r2):=by first|(rw [hy136];with_reducible exact H)|(have H2_:=(Option.bind_some _ _).symm.trans H;rw [hy136];with_reducible exact H2_)|(have H2_:=(Option.bind_some _ _).symm.trans H;with_reducible exact H2_)|with_reducible exact H|(rw [hy136];exact H)|exact H
              have Ny136:=A_ hy136
              clear hy136
              have H':=A_ H
              clear H
              go_wp2_with (first|((with_reducible refine gate_callee (f:=45) rfl ?_);refine goesL_ (some 84) rfl rfl Try.func45 (by kernel_rfl) rfl #[.pointer (some ⟨g,0,none⟩),.int .i64 (-1),.int .i64 1] rfl (by (try simp only [List.map_toArray,List.map_cons,List.map_nil]);first|done|rfl|(simp only [List.length_drop,List.length_take];rfl)) ?_;(with_reducible refine (shapesearchkeep_Src_Range.calls g s0_0 x1001_1 (-1) 1 t132 t133 w0 _ ?side1 ?side2 A51.out).mono ?_);(case side1=>repeat (first|(with_reducible first|exact HI0.out|apply IsS56.alloc|apply IsS56.drewN|apply IsS56.drew|apply IsS56.set_1)|exact HI0.out));(case side2=>repeat (first|(with_reducible first|exact HB.out|apply ba|apply bb|apply bc|refine below_set ?_ (IsS56.ge HI0.out))|exact HB.out));rintro e w58 ⟨rfl,hi,hb,hk⟩;refine ⟨_,rfl,?_⟩;have n0_:=A_ (rm (Kd.R_keep (IsS56.apart (show IsS56 w0 _ g s0_0 x1001_1 from by repeat (first|(with_reducible first|exact HI0.out|apply IsS56.alloc|apply IsS56.drewN|apply IsS56.drew|apply IsS56.set_1)|exact HI0.out)) (by (with_reducible repeat (first|apply ra|apply rb|apply rc));exact HO_8.out) (by decide)) hk (fun _ h=>h.2)) (fun _ h=>h.1));have n1_:=A_ (KeepBut.trans (by repeat (first|(with_reducible first|exact HK.out|apply KeepBut.set_|apply keep_drewN|apply keep_drew|apply keep_alloc)|exact HK.out)) hk (.inl rfl));have n2_:=A_ (hb);have n3_:=A_ (hi);clear HO_8;clear HK;clear HB;clear HI0;have HO_8:=n0_;have HK:=n1_;have HB:=n2_;have HI0:=n3_;clear n0_ n1_ n2_ n3_;(try clear hb);(try clear hb2);(try clear hk);(try clear hi))|((with_reducible refine gate_callee (f:=28) rfl ?_);refine goesL_ (some 88) rfl rfl Try.func28 (by kernel_rfl) rfl #[.int .i64 (wrap64 (x21_1 + t132)),.int .i64 (l1.length : Int)] rfl (by (try simp only [List.map_toArray,List.map_cons,List.map_nil]);first|done|rfl|(simp only [List.length_drop,List.length_take];rfl)) ?_;(with_reducible refine (shapesearchkeep_Mod.calls (wrap64 (x21_1 + t132)) (l1.length : Int) t134 _ A52.out).mono ?_);rintro e w' ⟨rfl,⟨nd,rfl⟩⟩;refine ⟨_,rfl,?_⟩;(try (rw [drewN_self w58];generalize hq_ : World.drewN w58 _ = w58;have n0_ : Aside0 (Kd.R (Kd.int .i64) 3 w58 w.heap.size (fun _=>True) (.slice Ao13 x8_1.length co13) x8_1):=⟨by rw [← hq_];exact (by (with_reducible repeat (first|apply ra|apply rb|apply rc));exact HO_8.out)⟩;have n1_ : Aside0 (IsS56 w0 w58 g s0_0 t133):=⟨by rw [← hq_];exact (by repeat (first|(with_reducible first|exact HI0.out|apply IsS56.alloc|apply IsS56.drewN|apply IsS56.drew|apply IsS56.set_1)|exact HI0.out))⟩;have n2_ : Aside0 (KeepBut w w58 g none):=⟨by rw [← hq_];exact (by repeat (first|(with_reducible first|exact HK.out|apply KeepBut.set_|apply keep_drewN|apply keep_drew|apply keep_alloc)|exact HK.out))⟩;have n3_ : Aside0 (Below w0.heap.size w0 w58):=⟨by rw [← hq_];exact (by repeat (first|(with_reducible first|exact HB.out|apply ba|apply bb|apply bc|refine below_set ?_ (IsS56.ge HI0.out))|exact HB.out))⟩;clear HO_8 HI0 HK HB hq_;have HO_8:=n0_;have HI0:=n1_;have HK:=n2_;have HB:=n3_;clear n0_ n1_ n2_ n3_));have p135 : 0 ≤ (t134 : Int):=of_decide_eq_true (by first|(with_reducible assumption)|assumption);have q135 : t134 < (l1.length : Int):=of_decide_eq_true (by first|(with_reducible assumption)|assumption);obtain ⟨ad135,e135,hx135_0⟩:=Kd.at_int HR1.out t134 p135 q135;cases e135;replace hx135_0:=keep_cell HK.out hx135_0 (by first|(rw [add_block];exact hf1 _ rfl (by omega))|exact hf1 _ rfl (by omega)|exact hf1 ad135 rfl (by omega));replace p135:=eq_true p135;replace q135:=eq_true q135;have p57 : 0 ≤ (x21_1 : Int):=of_decide_eq_true (by first|(with_reducible assumption)|assumption);have q57 : (x21_1 : Int) < ((x8_1.length : Int) : Int):=of_decide_eq_true (by first|(with_reducible assumption)|assumption);obtain ⟨go57,co57,eo57,gb57,gl57,cl57,HG57⟩:=Kd.R_form HO_8.out (by omega);(first|cases eo57|(injection eo57 with ea_ en_ ec_;(first|subst ea_|(injection ea_ with ea_;subst ea_));subst ec_;clear en_));have GB57:=A_ gb57;have GG57:=A_ HG57;clear gb57 gl57 HG57;obtain ⟨hx57_0,hf57_0⟩:=Kd.R_celln 0 HO_8.out (x21_1 : Int) p57 q57;replace p57:=eq_true p57;replace q57:=eq_true q57;obtain ⟨hy59_,hz59_⟩:=Kd.R_celln 0 HO_8.out (x21_1 : Int) (of_decide_eq_true (by first|(with_reducible assumption)|assumption)) (of_decide_eq_true (by first|(with_reducible assumption)|assumption));have HP59:=Kd.R_putg HO_8.out (x21_1 : Int) (rd l1 t134))|((with_reducible refine gate_store (t:=3) (p:=91) rfl ?_);refine store_event (t:=3) (p:=91) (v:=?vo_w60) (w1:=(w58.setCell ⟨go57,(x21_1 : Int).toNat,none⟩ (.int .i64 (rd l1 t134)))) ?hg ?ho ?hn ?hr ?_;(case ho=>rfl);(case hg=>rfl);(case hn=>rfl);(case hr=>first|(go_simp;done)|(go_simp;rfl));intro w60 hw;have hg : w58.grownBy w60 (some go57):=(by rw [hw];exact HP59.2);have hp_ : Kd.R (Kd.int .i64) 3 w60 w.heap.size (fun _=>True) (.slice (some ⟨go57,0,none⟩) x8_1.length co13) y136:=(by rw [hw,Ny136.out];exact HP59.1);clear HP59;have n0_:=A_ (hp_);have n1_:=A_ (IsS56.grown (by repeat (first|(with_reducible first|exact HI0.out|apply IsS56.alloc|apply IsS56.drewN|apply IsS56.drew|apply IsS56.set_1)|exact HI0.out)) hg (IsS56.own_ne HI0.out HO_8.out (by decide)));have n2_:=A_ ((by rw [hw];exact below_set (HB.out) (Nat.le_trans HL.out GB57.out) : Below w0.heap.size w0 w60));have n3_:=A_ (KeepBut.trans (by repeat (first|(with_reducible first|exact HK.out|apply KeepBut.set_|apply keep_drewN|apply keep_drew|apply keep_alloc)|exact HK.out)) (KeepBut.of_grown hg g) (Kd.R_base2 HO_8.out));clear HO_8;clear HI0;clear HB;clear HK;have HO_8:=n0_;have HI0:=n1_;have HB:=n2_;have HK:=n3_;clear n0_ n1_ n2_ n3_;clear hg hw hp_))
              (try simp only [← hl8_1])
              go_roundg k1
              case measure=>have:=HK1.out;omega
              case rel=>exact ⟨(y136),(wrap64 (x21_1 + 1)),(t133),(by first|rfl|(simp;done)|(simp [*];done)),H',⟨by have:=HK1.out;omega⟩,⟨by (try simp only [hl8_1]);(with_reducible repeat (first|apply ra|apply rb|apply rc));exact HO_8.out⟩,⟨by repeat (first|(with_reducible first|exact HI0.out|apply IsS56.alloc|apply IsS56.drewN|apply IsS56.drew|apply IsS56.set_1)|exact HI0.out)⟩,⟨by repeat (first|(with_reducible first|exact HK.out|apply KeepBut.set_|apply keep_drewN|apply keep_drew|apply keep_alloc)|exact HK.out)⟩,⟨by repeat (first|(with_reducible first|exact HB.out|apply ba|apply bb|apply bc|refine below_set ?_ (IsS56.ge HI0.out))|exact HB.out)⟩⟩
             ·
              rw [if_neg c56] at H
              exact absurd H (by simp)
            ·
             rw [if_neg c55] at H
             exact absurd H (by simp)
           ·
            rw [if_neg c54] at H
            exact absurd H (by simp)
          ·
           rw [if_neg c53] at H
           exact absurd H (by simp)
         ·
          rw [if_neg c50] at H
          have c50b0 : (t107 == 5) = false:=beq_eq_false_iff_ne.mpr c50
          have c50b1 : (t107 != 5) = true:=bne_iff_ne.mpr c50
          by_cases c61 : t107 = 6
          ·
           rw [if_pos c61] at H
           have c61b0 : (t107 == 6) = true:=beq_iff_eq.mpr c61
           have c61b1 : (t107 != 6) = false:=bne_eq_false_iff_eq.mpr c61
           clear c61
           by_cases c62 : 0 ≤ x21_1
           ·
            rw [if_pos c62] at H
            have c62b0 : decide (0 ≤ x21_1) = true:=decide_eq_true c62
            clear c62
            by_cases c63 : x21_1 < (x8_1.length : Int)
            ·
             rw [if_pos c63] at H
             have c63b0 : decide (x21_1 < (x8_1.length : Int)) = true:=decide_eq_true c63
             (try (have c63b0h:=c63b0;simp only [hl8_1] at c63b0h))
             clear c63
             replace H:=Option.bind_eq_some_iff.mp H
             obtain ⟨t138,A640,H⟩:=H
             replace H : (shapesearchkeep_Src_Near.l0 k1 l1 t107 t109 t111 (x8_1.set (x21_1 : Int).toNat t138) (y116.length : Int) (wrap64 (x21_1 + 1)) s0_0 x1001_1) = some (r1,r2):=H
             have A64:=A_ A640
             clear A640
             obtain ⟨y139,hy139⟩ : ∃ y_ : List Int,y_ = (x8_1.set (x21_1 : Int).toNat t138):=⟨_,rfl⟩
             replace H : (shapesearchkeep_Src_Near.l0 k1 l1 t107 t109 t111 y139 (y116.length : Int) (wrap64 (x21_1 + 1)) s0_0 x1001_1) = some (r1,r2):=by first|(rw [hy139];with_reducible exact H)|(have H2_:=(Option.bind_some _ _).symm.trans H;rw [hy139];with_reducible exact H2_)|(have H2_:=(Option.bind_some _ _).symm.trans H;with_reducible exact H2_)|with_reducible exact H|(rw [hy139];exact H)|exact H
             have Ny139:=A_ hy139
             clear hy139
             have H':=A_ H
             clear H
             have p137 : 0 ≤ (x21_1 : Int):=of_decide_eq_true (by first|(with_reducible assumption)|assumption)
             have q137 : x21_1 < (x8_1.length : Int):=of_decide_eq_true (by first|(with_reducible assumption)|assumption)
             obtain ⟨ad137,e137,hx137_0⟩:=Kd.at_int (rd_ HO_8.out).2.2 x21_1 p137 q137
             cases e137
             replace p137:=eq_true p137
             replace q137:=eq_true q137
             go_wp2_with (first|((with_reducible refine gate_callee (f:=46) rfl ?_);refine goesL_ (some 104) rfl rfl Try.func46 (by kernel_rfl) rfl #[.int .i64 (wrap64 (t109 - (wrap64 ((rd x8_1 x21_1) * t111))))] rfl (by (try simp only [List.map_toArray,List.map_cons,List.map_nil]);first|done|rfl|(simp only [List.length_drop,List.length_take];rfl)) ?_;(with_reducible refine (shapesearchkeep_clip.calls (wrap64 (t109 - (wrap64 ((rd x8_1 x21_1) * t111)))) t138 _ A64.out).mono ?_);rintro e w66 ⟨rfl,hb⟩;refine ⟨_,rfl,?_⟩;have n0_:=A_ (rw_ (by (with_reducible repeat (first|apply ra|apply rb|apply rc));exact HO_8.out) hb);have n1_:=A_ (IsS56.below (by repeat (first|(with_reducible first|exact HI0.out|apply IsS56.alloc|apply IsS56.drewN|apply IsS56.drew|apply IsS56.set_1)|exact HI0.out)) hb);have n2_:=A_ (KeepBut.trans (by repeat (first|(with_reducible first|exact HK.out|apply KeepBut.set_|apply keep_drewN|apply keep_drew|apply keep_alloc)|exact HK.out)) (KeepBut.of_below hb g none) (.inl rfl));have n3_:=A_ (below_step (by repeat (first|(with_reducible first|exact HB.out|apply ba|apply bb|apply bc|refine below_set ?_ (IsS56.ge HI0.out))|exact HB.out)) hb);clear HO_8;clear HI0;clear HK;clear HB;have HO_8:=n0_;have HI0:=n1_;have HK:=n2_;have HB:=n3_;clear n0_ n1_ n2_ n3_;(try clear hb);(try clear hb2);(try clear hk);(try clear hi);have p65 : 0 ≤ (x21_1 : Int):=of_decide_eq_true (by first|(with_reducible assumption)|assumption);have q65 : (x21_1 : Int) < ((x8_1.length : Int) : Int):=of_decide_eq_true (by first|(with_reducible assumption)|assumption);obtain ⟨go65,co65,eo65,gb65,gl65,cl65,HG65⟩:=Kd.R_form HO_8.out (by omega);(first|cases eo65|(injection eo65 with ea_ en_ ec_;(first|subst ea_|(injection ea_ with ea_;subst ea_));subst ec_;clear en_));have GB65:=A_ gb65;have GG65:=A_ HG65;clear gb65 gl65 HG65;(first|simp only [add_plain] at hx137_0|skip);obtain ⟨hx65_0,hf65_0⟩:=Kd.R_celln 0 HO_8.out (x21_1 : Int) p65 q65;replace p65:=eq_true p65;replace q65:=eq_true q65;obtain ⟨hy67_,hz67_⟩:=Kd.R_celln 0 HO_8.out (x21_1 : Int) (of_decide_eq_true (by first|(with_reducible assumption)|assumption)) (of_decide_eq_true (by first|(with_reducible assumption)|assumption));have HP67:=Kd.R_putg HO_8.out (x21_1 : Int) t138)|((with_reducible refine gate_store (t:=3) (p:=105) rfl ?_);refine store_event (t:=3) (p:=105) (v:=?vo_w68) (w1:=(w66.setCell ⟨go65,(x21_1 : Int).toNat,none⟩ (.int .i64 t138))) ?hg ?ho ?hn ?hr ?_;(case ho=>rfl);(case hg=>rfl);(case hn=>rfl);(case hr=>first|(go_simp;done)|(go_simp;rfl));intro w68 hw;have hg : w66.grownBy w68 (some go65):=(by rw [hw];exact HP67.2);have hp_ : Kd.R (Kd.int .i64) 3 w68 w.heap.size (fun _=>True) (.slice (some ⟨go65,0,none⟩) x8_1.length co13) y139:=(by rw [hw,Ny139.out];exact HP67.1);clear HP67;have n0_:=A_ (hp_);have n1_:=A_ (IsS56.grown (by repeat (first|(with_reducible first|exact HI0.out|apply IsS56.alloc|apply IsS56.drewN|apply IsS56.drew|apply IsS56.set_1)|exact HI0.out)) hg (IsS56.own_ne HI0.out HO_8.out (by decide)));have n2_:=A_ ((by rw [hw];exact below_set (HB.out) (Nat.le_trans HL.out GB65.out) : Below w0.heap.size w0 w68));have n3_:=A_ (KeepBut.trans (by repeat (first|(with_reducible first|exact HK.out|apply KeepBut.set_|apply keep_drewN|apply keep_drew|apply keep_alloc)|exact HK.out)) (KeepBut.of_grown hg g) (Kd.R_base2 HO_8.out));clear HO_8;clear HI0;clear HB;clear HK;have HO_8:=n0_;have HI0:=n1_;have HB:=n2_;have HK:=n3_;clear n0_ n1_ n2_ n3_;clear hg hw hp_))
             (try simp only [← hl8_1])
             go_roundg k1
             case measure=>have:=HK1.out;omega
             case rel=>exact ⟨(y139),(wrap64 (x21_1 + 1)),(x1001_1),(by first|rfl|(simp;done)|(simp [*];done)),H',⟨by have:=HK1.out;omega⟩,⟨by (try simp only [hl8_1]);(with_reducible repeat (first|apply ra|apply rb|apply rc));exact HO_8.out⟩,⟨by repeat (first|(with_reducible first|exact HI0.out|apply IsS56.alloc|apply IsS56.drewN|apply IsS56.drew|apply IsS56.set_1)|exact HI0.out)⟩,⟨by repeat (first|(with_reducible first|exact HK.out|apply KeepBut.set_|apply keep_drewN|apply keep_drew|apply keep_alloc)|exact HK.out)⟩,⟨by repeat (first|(with_reducible first|exact HB.out|apply ba|apply bb|apply bc|refine below_set ?_ (IsS56.ge HI0.out))|exact HB.out)⟩⟩
            ·
             rw [if_neg c63] at H
             exact absurd H (by simp)
           ·
            rw [if_neg c62] at H
            exact absurd H (by simp)
          ·
           rw [if_neg c61] at H
           have c61b0 : (t107 == 6) = false:=beq_eq_false_iff_ne.mpr c61
           have c61b1 : (t107 != 6) = true:=bne_iff_ne.mpr c61
           have H':=A_ H
           clear H
           go_wp2
           (try simp only [← hl8_1])
           go_roundg k1
           case measure=>have:=HK1.out;omega
           case rel=>exact ⟨(x8_1),(wrap64 (x21_1 + 1)),(x1001_1),(by first|rfl|(simp;done)|(simp [*];done)),H',⟨by have:=HK1.out;omega⟩,⟨by (try simp only [hl8_1]);(with_reducible repeat (first|apply ra|apply rb|apply rc));exact HO_8.out⟩,⟨by repeat (first|(with_reducible first|exact HI0.out|apply IsS56.alloc|apply IsS56.drewN|apply IsS56.drew|apply IsS56.set_1)|exact HI0.out)⟩,⟨by repeat (first|(with_reducible first|exact HK.out|apply KeepBut.set_|apply keep_drewN|apply keep_drew|apply keep_alloc)|exact HK.out)⟩,⟨by repeat (first|(with_reducible first|exact HB.out|apply ba|apply bb|apply bc|refine below_set ?_ (IsS56.ge HI0.out))|exact HB.out)⟩⟩
    ·
     rw [if_neg c14] at H
     have c14b0 : decide (x21_1 < (y116.length : Int)) = false:=decide_eq_false c14
     (try (have c14b0h:=c14b0;simp only [hl8_1] at c14b0h))
     clear c14
     simp only [Option.some.injEq,Prod.mk.injEq] at H
     obtain ⟨rfl,rfl⟩:=H
     go_wp2
     go_ret
     exact ⟨_,by first|rfl|(simp [errW_none,errW_some] <;> rfl)|(simp [*,errW_none,errW_some] <;> rfl),by (with_reducible repeat (first|apply ra|apply rb|apply rc));exact HO_8.out,by repeat (first|(with_reducible first|exact HI0.out|apply IsS56.alloc|apply IsS56.drewN|apply IsS56.drew|apply IsS56.set_1)|exact HI0.out),by repeat (first|(with_reducible first|exact HB.out|apply ba|apply bb|apply bc|refine below_set ?_ (IsS56.ge HI0.out))|exact HB.out),by repeat (first|(with_reducible first|exact HK.out|apply KeepBut.set_|apply keep_drewN|apply keep_drew|apply keep_alloc)|exact HK.out)⟩
 ·
  rw [if_neg c6] at H
  exact absurd H (by simp)

/-! ### shapesearchkeep_Src_Pick: function 47 -/
def shapesearchkeep_Src_Pick.f (s0_0 : List Int) (s0_1 : Int) (l1 : List Int) : Option (Int × Int):=(shapesearchkeep_Src_N.f s0_0 s0_1 (l1.length : Int)).bind fun bt140=>(if 0 ≤ bt140.1 then (if bt140.1 < (l1.length : Int) then (some (rd l1 bt140.1,bt140.2)) else (none)) else (none))
set_option maxHeartbeats 8000000 in
set_option maxRecDepth 100000 in
theorem shapesearchkeep_Src_Pick.calls (g : Nat) (s0_0 : List Int) (s0_1 : Int) (A1 : Option Addr) (c1 : Nat) (l1 : List Int) (r1 : Int) (r2 : Int) (w0 w : World) (hI : IsS56 w0 w g s0_0 s0_1) (hB : Below w0.heap.size w0 w) (hr1 : Kd.C (Kd.int .i64) w A1 l1.length l1) (hc1 : l1.length ≤ c1) (hf1 : ∀ ad,A1 = some ad → 0 < l1.length → ad.block≠g) (h : shapesearchkeep_Src_Pick.f s0_0 s0_1 l1 = some (r1,r2)) :
  Calls Try.prog 47 #[.pointer (some ⟨g,0,none⟩),.slice A1 l1.length c1] w fun e w'=>e = .returned (.int .i64 r1)∧IsS56 w0 w' g s0_0 r2∧Below w0.heap.size w0 w'∧KeepBut w w' g none:=by
 have HR1:=A_ hr1
 have HC1:=A_ hc1
 clear hr1 hc1
 have HI0:=A_ hI
 have HK:=A_ (KeepBut.refl w g none)
 have HL:=A_ hB.size
 clear hI
 have HW0:=A_ hB.size
 have HB:=A_ hB
 clear hB
 have H : ((shapesearchkeep_Src_N.f s0_0 s0_1 (l1.length : Int)).bind fun bt140=>(if 0 ≤ bt140.1 then (if bt140.1 < (l1.length : Int) then (some (rd l1 bt140.1,bt140.2)) else (none)) else (none))) = some (r1,r2):=h
 clear h
 replace H:=Option.bind_eq_some_iff.mp H
 obtain ⟨⟨t140,t141⟩,A30,H⟩:=H
 replace H : (if 0 ≤ t140 then (if t140 < (l1.length : Int) then (some (rd l1 t140,t141)) else (none)) else (none)) = some (r1,r2):=H
 have A3:=A_ A30
 clear A30
 by_cases c4 : 0 ≤ t140
 ·
  rw [if_pos c4] at H
  have c4b0 : decide (0 ≤ t140) = true:=decide_eq_true c4
  clear c4
  by_cases c5 : t140 < (l1.length : Int)
  ·
   rw [if_pos c5] at H
   have c5b0 : decide (t140 < (l1.length : Int)) = true:=decide_eq_true c5
   clear c5
   simp only [Option.some.injEq,Prod.mk.injEq] at H
   obtain ⟨rfl,rfl⟩:=H
   go_enter Try.func47,Try.ntmps47
   go_wp2_with (first|((with_reducible refine gate_callee (f:=24) rfl ?_);refine goesL_ (some 9) rfl rfl Try.func24 (by kernel_rfl) rfl #[.pointer (some ⟨g,0,none⟩),.int .i64 (l1.length : Int)] rfl (by (try simp only [List.map_toArray,List.map_cons,List.map_nil]);first|done|rfl|(simp only [List.length_drop,List.length_take];rfl)) ?_;(with_reducible refine (shapesearchkeep_Src_N.calls g s0_0 s0_1 (l1.length : Int) t140 t141 w0 _ ?side1 ?side2 A3.out).mono ?_);(case side1=>repeat (first|(with_reducible first|exact HI0.out|apply IsS56.alloc|apply IsS56.drewN|apply IsS56.drew|apply IsS56.set_1)|exact HI0.out));(case side2=>repeat (first|(with_reducible first|exact HB.out|apply ba|apply bb|apply bc|refine below_set ?_ (IsS56.ge HI0.out))|exact HB.out));rintro e w6 ⟨rfl,hi,hb,hk⟩;refine ⟨_,rfl,?_⟩;have n0_:=A_ (KeepBut.trans (by repeat (first|(with_reducible first|exact HK.out|apply KeepBut.set_|apply keep_drewN|apply keep_drew|apply keep_alloc)|exact HK.out)) hk (.inl rfl));have n1_:=A_ (hb);have n2_:=A_ (hi);clear HK;clear HB;clear HI0;have HK:=n0_;have HB:=n1_;have HI0:=n2_;clear n0_ n1_ n2_;(try clear hb);(try clear hb2);(try clear hk);(try clear hi);have p142 : 0 ≤ (t140 : Int):=of_decide_eq_true (by first|(with_reducible assumption)|assumption);have q142 : t140 < (l1.length : Int):=of_decide_eq_true (by first|(with_reducible assumption)|assumption);obtain ⟨ad142,e142,hx142_0⟩:=Kd.at_int HR1.out t140 p142 q142;cases e142;replace hx142_0:=keep_cell HK.out hx142_0 (by first|(rw [add_block];exact hf1 _ rfl (by omega))|exact hf1 _ rfl (by omega)|exact hf1 ad142 rfl (by omega));replace p142:=eq_true p142;replace q142:=eq_true q142))
   go_ret
   exact ⟨by first|rfl|(simp [errW_none,errW_some] <;> rfl)|(simp [*,errW_none,errW_some] <;> rfl),by repeat (first|(with_reducible first|exact HI0.out|apply IsS56.alloc|apply IsS56.drewN|apply IsS56.drew|apply IsS56.set_1)|exact HI0.out),by repeat (first|(with_reducible first|exact HB.out|apply ba|apply bb|apply bc|refine below_set ?_ (IsS56.ge HI0.out))|exact HB.out),by repeat (first|(with_reducible first|exact HK.out|apply KeepBut.set_|apply keep_drewN|apply keep_drew|apply keep_alloc)|exact HK.out)⟩
  ·
   rw [if_neg c5] at H
   exact absurd H (by simp)
 ·
  rw [if_neg c4] at H
  exact absurd H (by simp)

end Go.Proofs.Ytodipcfbgnljeaa.PChannelsPaths
