/- This file proves, function by function, what the Go functions that one law uses compute; most of it was printed by a program (wip/tools of this session, over the kit's print). -/
import Derived.Test.YtmckmjpfcgmalaaPNormalRangex0
namespace Go.Proofs.Ytmckmjpfcgmalaa.PNormalRange
open Go.RowKit Go.Proofs.YtmckmjpfcgmalaaW.PrintWords Go.Proofs.YtmckmjpfcgmalaaW.PrintLast Go.Proofs.YtmckmjpfcgmalaaW.PrintMore
attribute [local go_sem] max2_int min2_int max_two min_two max_three min_three max_four min_four   -- for this text's walks alone
set_option linter.unusedVariables false
set_option linter.unusedSimpArgs false

/-- A state of type 58 at block g of W; what its slices lead to came in by w0. -/
def IsS58 (w0 W : World) (g : Nat) (f0 : List Int) (f1 : Int) : Prop:=∃ A0 c0,W.heap[g]? = some (.cells #[.slice A0 f0.length c0,.int .i64 f1] 58 (0,0))∧w0.heap.size ≤ g∧Kd.C (Kd.int .i64) w0 A0 f0.length f0
theorem IsS58.grown {w0 W : World} {g : Nat} {f0 : List Int} {f1 : Int} {W1 : World} {row : Option Nat} (h : IsS58 w0 W g f0 f1) (hw : W.grownBy W1 row) (hne : some g≠row) : IsS58 w0 W1 g f0 f1:=by
 obtain ⟨A0,c0,hb,hg,hr0⟩:=h
 exact ⟨A0,c0,blk_grown hb hw hne,hg,hr0⟩
theorem IsS58.own_neN {w0 W : World} {g : Nat} {f0 : List Int} {f1 : Int} {α : Type} {d : Kd α} {e : Nat} {base : Nat} {ok : Nat → Prop} {v : Value} {xs : List α} (h : IsS58 w0 W g f0 f1) (ho : Kd.N d e W base ok v xs) (ht : e≠58) : some g≠v.ownBlock:=by
 obtain ⟨A0,c0,hb,hg,hr0⟩:=h
 exact Kd.N_ne ho hb ht
theorem IsS58.fresh {w0 W : World} {g : Nat} {f0 : List Int} {f1 : Int} (h : IsS58 w0 W g f0 f1) : ∀ k,W.heap.size ≤ k → k≠g:=by
 obtain ⟨A0,c0,hb,hg,hr0⟩:=h
 exact Kd.freshB hb
theorem IsS58.kept {w0 W : World} {g : Nat} {f0 : List Int} {f1 : Int} {W1 : World} {S : Nat → Prop} (h : IsS58 w0 W g f0 f1) (hk : Kept W W1 S) (hne : ¬ S g) : IsS58 w0 W1 g f0 f1:=by
 obtain ⟨A0,c0,hb,hg,hr0⟩:=h
 exact ⟨A0,c0,blk_kept hb hk hne,hg,hr0⟩
theorem IsS58.below {w0 W : World} {g : Nat} {f0 : List Int} {f1 : Int} {W1 : World} (h : IsS58 w0 W g f0 f1) (hw : Below W.heap.size W W1) : IsS58 w0 W1 g f0 f1:=h.grown (grown_of_below hw none) (by simp)
theorem IsS58.alloc {w0 W : World} {g : Nat} {f0 : List Int} {f1 : Int} (h : IsS58 w0 W g f0 f1) (o : Obj) : IsS58 w0 (W.alloc o) g f0 f1:=h.below (below_alloc (Below.refl _ _) o)
theorem IsS58.drewN {w0 W : World} {g : Nat} {f0 : List Int} {f1 : Int} (h : IsS58 w0 W g f0 f1) (m : Nat) : IsS58 w0 (W.drewN m) g f0 f1:=h
theorem IsS58.drew {w0 W : World} {g : Nat} {f0 : List Int} {f1 : Int} (h : IsS58 w0 W g f0 f1) : IsS58 w0 W.drew g f0 f1:=h
theorem IsS58.at_ {w0 W : World} {g : Nat} {f0 : List Int} {f1 : Int} {w' : World} {m : Nat} (hq : W.drewN m = w') (h : IsS58 w0 W g f0 f1) : IsS58 w0 w' g f0 f1:=by subst hq;exact IsS58.drewN h m
theorem IsS58.apart {w0 W : World} {g : Nat} {f0 : List Int} {f1 : Int} {α : Type} {d : Kd α} {e : Nat} {base : Nat} {ok : Nat → Prop} {v : Value} {xs : List α} (h : IsS58 w0 W g f0 f1) (ho : d.R e W base ok v xs) (ht : ∀ q,q ∈ e :: d.E → q≠58) : d.R e W base (fun k=>ok k∧k≠g) v xs:=by
 obtain ⟨A0,c0,hb,hg,hr0⟩:=h
 exact Kd.R_types ho hb ht
theorem IsS58.own_ne {w0 W : World} {g : Nat} {f0 : List Int} {f1 : Int} {α : Type} {d : Kd α} {e : Nat} {base : Nat} {ok : Nat → Prop} {v : Value} {xs : List α} (h : IsS58 w0 W g f0 f1) (ho : d.R e W base ok v xs) (ht : e≠58) : some g≠v.ownBlock:=by
 obtain ⟨A0,c0,hb,hg,hr0⟩:=h
 exact Kd.R_ne ho hb ht
theorem IsS58.apartQ {w0 W : World} {g : Nat} {f0 : List Int} {f1 : Int} {α : Type} {d : Kd α} {e : Nat} {base : Nat} {ok : Nat → Prop} {v : Value} {xs : List α} (h : IsS58 w0 W g f0 f1) (ho : d.Q e W base ok v xs) (ht : ∀ q,q ∈ e :: d.E → q≠58) : d.Q e W base (fun k=>ok k∧k≠g) v xs:=by
 obtain ⟨A0,c0,hb,hg,hr0⟩:=h
 exact Kd.Q_types ho hb ht
theorem IsS58.own_neQ {w0 W : World} {g : Nat} {f0 : List Int} {f1 : Int} {α : Type} {d : Kd α} {e : Nat} {base : Nat} {ok : Nat → Prop} {v : Value} {xs : List α} (h : IsS58 w0 W g f0 f1) (ho : d.Q e W base ok v xs) (ht : e≠58) : some g≠v.ownBlock:=by
 obtain ⟨A0,c0,hb,hg,hr0⟩:=h
 exact Kd.Q_ne ho hb ht
theorem IsS58.apartS {w0 W : World} {g : Nat} {f0 : List Int} {f1 : Int} {α : Type} {d : Kd α} {e : Nat} {base : Nat} {ok : Nat → Prop} {v : Value} {xs : List α} (h : IsS58 w0 W g f0 f1) (ho : d.S e W base ok v xs) (ht : ∀ q,q ∈ e :: d.E → q≠58) : d.S e W base (fun k=>ok k∧k≠g) v xs:=by
 obtain ⟨A0,c0,hb,hg,hr0⟩:=h
 exact Kd.S_types ho hb ht
theorem IsS58.own_neS {w0 W : World} {g : Nat} {f0 : List Int} {f1 : Int} {α : Type} {d : Kd α} {e : Nat} {base : Nat} {ok : Nat → Prop} {v : Value} {xs : List α} (h : IsS58 w0 W g f0 f1) (ho : d.S e W base ok v xs) (ht : e≠58) : some g≠v.ownBlock:=by
 obtain ⟨A0,c0,hb,hg,hr0⟩:=h
 exact Kd.S_ne ho hb ht
theorem IsS58.lt {w0 W : World} {g : Nat} {f0 : List Int} {f1 : Int} (h : IsS58 w0 W g f0 f1) : g < W.heap.size:=by
 obtain ⟨A0,c0,hb,hg,hr0⟩:=h
 exact blk_lt hb
theorem IsS58.ge {w0 W : World} {g : Nat} {f0 : List Int} {f1 : Int} (h : IsS58 w0 W g f0 f1) : w0.heap.size ≤ g:=by
 obtain ⟨A0,c0,hb,hg,hr0⟩:=h
 exact hg
theorem IsS58.ne_blk {w0 W : World} {g : Nat} {f0 : List Int} {f1 : Int} {a : Nat} {cs : Array Value} {t : TypeId} {fr : Nat × Nat} (h : IsS58 w0 W g f0 f1) (hb2 : W.heap[a]? = some (.cells cs t fr)) (ht : t≠58) : g≠a:=by
 obtain ⟨A0,c0,hb,hg,hr0⟩:=h
 rintro rfl
 rw [hb] at hb2
 injection hb2 with hb2
 injection hb2 with _ ht2
 exact ht ht2.symm
theorem IsS58.far {w0 W : World} {g : Nat} {f0 : List Int} {f1 : Int} {p : Addr} (h : IsS58 w0 W g f0 f1) (hne : g≠p.block) (u : Value) : IsS58 w0 (W.setCell p u) g f0 f1:=by
 obtain ⟨A0,c0,hb,hg,hr0⟩:=h
 exact ⟨A0,c0,blk_far hb hne u,hg,hr0⟩
theorem cellS58_0 {W : World} {g : Nat} {A0 : Option Addr} {c0 : Nat} {f0 : List Int} {f1 : Int} (h : W.heap[g]? = some (.cells #[.slice A0 f0.length c0,.int .i64 f1] 58 (0,0))) : W.cell? ⟨g,0,none⟩ = some (.slice A0 f0.length c0):=(blk_cell h 0).trans rfl
theorem cellS58_1 {W : World} {g : Nat} {A0 : Option Addr} {c0 : Nat} {f0 : List Int} {f1 : Int} (h : W.heap[g]? = some (.cells #[.slice A0 f0.length c0,.int .i64 f1] 58 (0,0))) : W.cell? ⟨g,1,none⟩ = some (.int .i64 f1):=(blk_cell h 1).trans rfl
theorem IsS58.set_1 {w0 W : World} {g : Nat} {f0 : List Int} {f1 : Int} (h : IsS58 w0 W g f0 f1) (x : Int) : IsS58 w0 (W.setCell ⟨g,1,none⟩ (.int .i64 x)) g f0 x:=by
 obtain ⟨A0,c0,hb,hg,hr0⟩:=h
 exact ⟨A0,c0,by simpa using blk_set hb 1 (.int .i64 x),hg,hr0⟩
theorem IsS58.new (w0 W : World) (A0 : Option Addr) (c0 : Nat) (f0 : List Int) (f1 : Int) (hB : Below w0.heap.size w0 W) (hr0 : Kd.C (Kd.int .i64) w0 A0 f0.length f0) : IsS58 w0 (W.alloc (.cells #[.slice A0 f0.length c0,.int .i64 f1] 58)) W.heap.size f0 f1:=⟨A0,c0,by simpa using heap_alloc_new W _,hB.size,hr0⟩

/-! ### shapesearchkeep_New: function 9 -/
def shapesearchkeep_New.f (l0 : List Int) : Option (List Int × Int):=if 0 ≤ (mn (l0.length : Int) 2000) then (if (mn (l0.length : Int) 2000) ≤ (l0.length : Int) then (some (l0.take ((mn (l0.length : Int) 2000) : Int).toNat,0)) else (none)) else (none)
set_option maxHeartbeats 8000000 in
set_option maxRecDepth 100000 in
theorem shapesearchkeep_New.calls (A0 : Option Addr) (c0 : Nat) (l0 : List Int) (r1 : List Int) (r2 : Int) (w0 w : World) (hB : Below w0.heap.size w0 w) (hr0 : Kd.C (Kd.int .i64) w0 A0 l0.length l0) (hc0 : l0.length ≤ c0) (h : shapesearchkeep_New.f l0 = some (r1,r2)) :
  Calls Try.prog 9 #[.slice A0 l0.length c0] w fun e w'=>∃ g_ : Nat,e = .returned (.pointer (some ⟨g_,0,none⟩))∧IsS58 w0 w' g_ r1 r2∧Below w0.heap.size w0 w'∧Below w.heap.size w w':=by
 have hu58:=Try.underlying58
 have HR0:=A_ hr0
 have HC0:=A_ hc0
 clear hr0 hc0
 have HBW:=A_ (Below.refl w.heap.size w)
 have HW0:=A_ hB.size
 have HB:=A_ hB
 clear hB
 have H : (if 0 ≤ (mn (l0.length : Int) 2000) then (if (mn (l0.length : Int) 2000) ≤ (l0.length : Int) then (some (l0.take ((mn (l0.length : Int) 2000) : Int).toNat,0)) else (none)) else (none)) = some (r1,r2):=h
 clear h
 obtain ⟨ji2,hji2⟩ : ∃ j_ : Int,(mn (l0.length : Int) 2000) = j_:=⟨_,rfl⟩
 replace H : (if 0 ≤ (ji2) then (if (ji2) ≤ (l0.length : Int) then (some (l0.take ((ji2) : Int).toNat,0)) else (none)) else (none)) = some (r1,r2):=by first|(rw [hji2] at H;exact H)|(simp only [hji2] at H ⊢;exact H)
 (try (have hji2h : ji2 ≤ 2000:=by (rw [← hji2];unfold mn;(repeat' split) <;> omega)))
 (try (have hji2g : ji2 ≤ 64:=by omega))
 (try (have hji2l : 0 ≤ ji2:=by (rw [← hji2];unfold mn;(repeat' split) <;> omega)))
 (try (have hji2m : 0 ≤ ji2:=by omega))
 have hji2_ : (if 2000 < (l0.length : Int) then 2000 else (l0.length : Int)) = ji2:=hji2
 by_cases c3 : 0 ≤ (ji2)
 ·
  rw [if_pos c3] at H
  have c3b0:=eq_true c3
  have c3b1 : decide (0 ≤ (ji2)) = true:=decide_eq_true c3
  clear c3
  by_cases c4 : (ji2) ≤ (l0.length : Int)
  ·
   rw [if_pos c4] at H
   have c4b0:=eq_true c4
   have c4b1 : decide ((ji2) ≤ (l0.length : Int)) = true:=decide_eq_true c4
   clear c4
   simp only [Option.some.injEq,Prod.mk.injEq] at H
   obtain ⟨rfl,rfl⟩:=H
   obtain ⟨i05,hi05,_,hsz5,_⟩:=info_parts info3
   obtain ⟨hcut5,hA5,hC5⟩:=print_take_of (P:=Try.prog) (Value.int .i64) 0 22 3 .i64 Try.underlying22 hi05 hsz5 A0 c0 l0 (ji2) (of_decide_eq_true (by first|(with_reducible assumption)|assumption)) (of_decide_eq_true (by first|(with_reducible assumption)|assumption)) HC0.out
   have HR101:=A_ (Kd.C_of_reads (h1:=fun _=>rfl) (hA5 _ (Kd.reads_of_C HR0.out)))
   have HC101:=A_ hC5
   clear hA5 hC5 hi05 hsz5
   go_enter Try.func9,Try.ntmps9
   go_wp2_with (first|((with_reducible refine gate_dst (N:=9) rfl ?_);refine box_event ?hg (N:=9) ?hd (cs:=#[.slice A0 (l0.take ((ji2) : Int).toNat).length c0,.int .i64 0]) (t:=58) ?hr ?_;(case hd=>rfl);(case hg=>rfl);(case hr=>first|(go_simp;done)|(go_simp;rfl));intro gb102 hg w6 hbox hb;have n0_:=A_ (below_step HBW.out hb);have n1_:=A_ (below_step (by repeat (first|(with_reducible first|exact HB.out|apply ba|apply bb|apply bc)|exact HB.out)) hb);have n2_:=A_ (hbox);have n3_:=A_ ((by rw [hg];exact (below_size (by repeat (first|(with_reducible first|exact HBW.out|apply ba|apply bb|apply bc)|exact HBW.out))) : w.heap.size ≤ gb102));have n4_:=A_ ((Nat.le_trans HW0.out (by rw [hg];exact (below_size (by repeat (first|(with_reducible first|exact HBW.out|apply ba|apply bb|apply bc)|exact HBW.out))) : w.heap.size ≤ gb102) : w0.heap.size ≤ gb102));clear HBW;clear HB;have HBW:=n0_;have HB:=n1_;have BK102:=n2_;have GW102:=n3_;have GE102:=n4_;clear n0_ n1_ n2_ n3_ n4_;clear hb hbox hg))
   go_ret
   exact ⟨_,rfl,(show IsS58 w0 _ gb102 (l0.take ((ji2) : Int).toNat) 0 from ⟨_,_,by (with_reducible repeat (first|refine blk_drewN ?_ _|refine blk_drew ?_|refine blk_alloc ?_ _));exact BK102.out,GE102.out,HR101.out⟩),by repeat (first|(with_reducible first|exact HB.out|apply ba|apply bb|apply bc|refine below_set ?_ GE102.out)|exact HB.out),by repeat (first|(with_reducible first|exact HBW.out|apply ba|apply bb|apply bc|refine below_set ?_ GW102.out)|exact HBW.out)⟩
  ·
   rw [if_neg c4] at H
   exact absurd H (by simp)
 ·
  rw [if_neg c3] at H
  exact absurd H (by simp)

/-! ### shapesearchkeep_Mod: function 21 -/
def shapesearchkeep_Mod.f (a0 : Int) (a1 : Int) : Option (Int):=if a1 < 1 then (some 0) else (if a1 = 0 then (none) else (if (Int.tmod a0 a1) < 0 then (some (wrap64 ((Int.tmod a0 a1) + a1))) else (some (Int.tmod a0 a1))))
set_option maxHeartbeats 8000000 in
set_option maxRecDepth 100000 in
theorem shapesearchkeep_Mod.calls (a0 : Int) (a1 : Int) (r : Int) (w : World) (h : shapesearchkeep_Mod.f a0 a1 = some r) :
  Calls Try.prog 21 #[.int .i64 a0,.int .i64 a1] w fun e w'=>e = .returned (.int .i64 r)∧Drawn0 w w':=by
 have H : (if a1 < 1 then (some 0) else (if a1 = 0 then (none) else (if (Int.tmod a0 a1) < 0 then (some (wrap64 ((Int.tmod a0 a1) + a1))) else (some (Int.tmod a0 a1))))) = some r:=h
 clear h
 by_cases c3 : a1 < 1
 ·
  rw [if_pos c3] at H
  have c3b0 : decide (a1 < 1) = true:=decide_eq_true c3
  clear c3
  obtain rfl:=Option.some.inj H
  go_enter Try.func21,Try.ntmps21
  go_wp2
  go_ret
  exact ⟨by first|rfl|(simp;done)|(simp [*];done),by repeat (first|exact Drawn0.refl _|apply Drawn0.step)⟩
 ·
  rw [if_neg c3] at H
  have c3b0 : decide (a1 < 1) = false:=decide_eq_false c3
  clear c3
  by_cases c4 : a1 = 0
  ·
   rw [if_pos c4] at H
   exact absurd H (by simp)
  ·
   rw [if_neg c4] at H
   have c4b0 : (a1 == 0) = false:=beq_eq_false_iff_ne.mpr c4
   have c4b1 : (a1 != 0) = true:=bne_iff_ne.mpr c4
   by_cases c5 : (Int.tmod a0 a1) < 0
   ·
    rw [if_pos c5] at H
    have c5b0 : decide ((Int.tmod a0 a1) < 0) = true:=decide_eq_true c5
    clear c5
    obtain rfl:=Option.some.inj H
    go_enter Try.func21,Try.ntmps21
    go_wp2
    go_ret
    exact ⟨by first|rfl|(simp;done)|(simp [*];done),by repeat (first|exact Drawn0.refl _|apply Drawn0.step)⟩
   ·
    rw [if_neg c5] at H
    have c5b0 : decide ((Int.tmod a0 a1) < 0) = false:=decide_eq_false c5
    clear c5
    obtain rfl:=Option.some.inj H
    go_enter Try.func21,Try.ntmps21
    go_wp2
    go_ret
    exact ⟨by first|rfl|(simp;done)|(simp [*];done),by repeat (first|exact Drawn0.refl _|apply Drawn0.step)⟩

/-! ### shapesearchkeep_Src_Raw: function 45 -/
def shapesearchkeep_Src_Raw.f (s0_0 : List Int) (s0_1 : Int) : Option (Int × Int):=if s0_1 ≥ (s0_0.length : Int) then (some (0,s0_1)) else (if 0 ≤ (wrap64 ((wrap64 (s0_1 + 1)) - 1)) then (if (wrap64 ((wrap64 (s0_1 + 1)) - 1)) < (s0_0.length : Int) then (some (rd s0_0 (wrap64 ((wrap64 (s0_1 + 1)) - 1)),wrap64 (s0_1 + 1))) else (none)) else (none))
set_option maxHeartbeats 8000000 in
set_option maxRecDepth 100000 in
theorem shapesearchkeep_Src_Raw.calls (g : Nat) (s0_0 : List Int) (s0_1 : Int) (r1 : Int) (r2 : Int) (w0 w : World) (hI : IsS58 w0 w g s0_0 s0_1) (hB : Below w0.heap.size w0 w) (h : shapesearchkeep_Src_Raw.f s0_0 s0_1 = some (r1,r2)) :
  Calls Try.prog 45 #[.pointer (some ⟨g,0,none⟩)] w fun e w'=>e = .returned (.int .i64 r1)∧IsS58 w0 w' g s0_0 r2∧Below w0.heap.size w0 w'∧KeepBut w w' g none:=by
 have HI0:=A_ hI
 have HK:=A_ (KeepBut.refl w g none)
 have HL:=A_ hB.size
 clear hI
 have HW0:=A_ hB.size
 have HB:=A_ hB
 clear hB
 have H : (if s0_1 ≥ (s0_0.length : Int) then (some (0,s0_1)) else (if 0 ≤ (wrap64 ((wrap64 (s0_1 + 1)) - 1)) then (if (wrap64 ((wrap64 (s0_1 + 1)) - 1)) < (s0_0.length : Int) then (some (rd s0_0 (wrap64 ((wrap64 (s0_1 + 1)) - 1)),wrap64 (s0_1 + 1))) else (none)) else (none))) = some (r1,r2):=h
 clear h
 by_cases c2 : s0_1 ≥ (s0_0.length : Int)
 ·
  rw [if_pos c2] at H
  have c2b0 : decide ((s0_0.length : Int) ≤ s0_1) = true:=decide_eq_true c2
  clear c2
  simp only [Option.some.injEq,Prod.mk.injEq] at H
  obtain ⟨rfl,rfl⟩:=H
  obtain ⟨ASz3_0,cSz3_0,HGz3,hgz3,HSz3_0⟩:=HI0.out
  have hcz3_0:=cellS58_0 HGz3
  have hcz3_1:=cellS58_1 HGz3
  have hfz3_1:=blk_frozen HGz3 1
  clear HGz3 hgz3
  go_enter Try.func45,Try.ntmps45
  go_wp2
  repeat (go_quiet (fail);try go_wp2)
  go_ret
  exact ⟨by first|rfl|(simp [errW_none,errW_some] <;> rfl)|(simp [*,errW_none,errW_some] <;> rfl),by repeat (first|(with_reducible first|exact HI0.out|apply IsS58.alloc|apply IsS58.drewN|apply IsS58.drew|apply IsS58.set_1)|exact HI0.out),by repeat (first|(with_reducible first|exact HB.out|apply ba|apply bb|apply bc|refine below_set ?_ (IsS58.ge HI0.out))|exact HB.out),by repeat (first|(with_reducible first|exact HK.out|apply KeepBut.set_|apply keep_drewN|apply keep_drew|apply keep_alloc)|exact HK.out)⟩
 ·
  rw [if_neg c2] at H
  have c2b0 : decide ((s0_0.length : Int) ≤ s0_1) = false:=decide_eq_false c2
  clear c2
  obtain ⟨ji4,hji4⟩ : ∃ j_ : Int,(wrap64 ((wrap64 (s0_1 + 1)) - 1)) = j_:=⟨_,rfl⟩
  replace H : (if 0 ≤ (ji4) then (if (ji4) < (s0_0.length : Int) then (some (rd s0_0 (ji4),wrap64 (s0_1 + 1))) else (none)) else (none)) = some (r1,r2):=by first|(rw [hji4] at H;exact H)|(simp only [hji4] at H ⊢;exact H)
  have hji4w : (IntKind.i64.wrap ((wrap64 (s0_1 + 1)) - 1)) = ji4:=(i64_w _).trans hji4
  by_cases c5 : 0 ≤ (ji4)
  ·
   rw [if_pos c5] at H
   have c5b0 : decide (0 ≤ (ji4)) = true:=decide_eq_true c5
   clear c5
   by_cases c6 : (ji4) < (s0_0.length : Int)
   ·
    rw [if_pos c6] at H
    have c6b0 : decide ((ji4) < (s0_0.length : Int)) = true:=decide_eq_true c6
    clear c6
    simp only [Option.some.injEq,Prod.mk.injEq] at H
    obtain ⟨rfl,rfl⟩:=H
    obtain ⟨ASz7_0,cSz7_0,HGz7,hgz7,HSz7_0⟩:=HI0.out
    have hcz7_0:=cellS58_0 HGz7
    have hcz7_1:=cellS58_1 HGz7
    have hfz7_1:=blk_frozen HGz7 1
    clear HGz7 hgz7
    have p103 : 0 ≤ ((ji4) : Int):=of_decide_eq_true (by first|(with_reducible assumption)|assumption)
    have q103 : (ji4) < (s0_0.length : Int):=of_decide_eq_true (by first|(with_reducible assumption)|assumption)
    obtain ⟨ad103,e103,hx103_0⟩:=Kd.at_int HSz7_0 (ji4) p103 q103
    cases e103
    have hn103_0 : ad103.block≠g:=Nat.ne_of_lt (Nat.lt_of_lt_of_le (by have:=World.block_lt_of_cell? _ _ hx103_0;first|rwa [add_block] at this|exact this) (IsS58.ge HI0.out))
    replace hx103_0:=pw_cell_below HB.out hx103_0
    replace hx103_0:=(cell_far (p:=⟨g,1,none⟩) (by first|(rw [add_block];exact hn103_0)|(show (Addr.add _ _).block≠_;rw [add_block];exact hn103_0)|exact hn103_0) (.int .i64 (wrap64 (s0_1 + 1)))).trans hx103_0
    (try have hy103_0:=fun (n_ : Nat)=>(show (((w.drewN n_).setCell ⟨g,1,none⟩ (.int .i64 (wrap64 (s0_1 + 1))))).cell? _ = some _ from hx103_0))
    clear hn103_0
    replace p103:=eq_true p103
    replace q103:=eq_true q103
    go_enter Try.func45,Try.ntmps45
    go_wp2
    repeat (go_quiet (fail);try go_wp2)
    go_ret
    exact ⟨by first|rfl|(simp [errW_none,errW_some] <;> rfl)|(simp only [← hji4];first|rfl|(simp [errW_none,errW_some] <;> rfl))|(simp [*,errW_none,errW_some] <;> rfl),by repeat (first|(with_reducible first|exact HI0.out|apply IsS58.alloc|apply IsS58.drewN|apply IsS58.drew|apply IsS58.set_1)|exact HI0.out),by repeat (first|(with_reducible first|exact HB.out|apply ba|apply bb|apply bc|refine below_set ?_ (IsS58.ge HI0.out))|exact HB.out),by repeat (first|(with_reducible first|exact HK.out|apply KeepBut.set_|apply keep_drewN|apply keep_drew|apply keep_alloc)|exact HK.out)⟩
   ·
    rw [if_neg c6] at H
    exact absurd H (by simp)
  ·
   rw [if_neg c5] at H
   exact absurd H (by simp)

/-! ### shapesearchkeep_Src_N: function 23 -/
def shapesearchkeep_Src_N.f (s0_0 : List Int) (s0_1 : Int) (a1 : Int) : Option (Int × Int):=(shapesearchkeep_Src_Raw.f s0_0 s0_1).bind fun bt104=>((shapesearchkeep_Mod.f bt104.1 a1).bind fun t106=>(some (t106,bt104.2)))
set_option maxHeartbeats 8000000 in
set_option maxRecDepth 100000 in
theorem shapesearchkeep_Src_N.calls (g : Nat) (s0_0 : List Int) (s0_1 : Int) (a1 : Int) (r1 : Int) (r2 : Int) (w0 w : World) (hI : IsS58 w0 w g s0_0 s0_1) (hB : Below w0.heap.size w0 w) (h : shapesearchkeep_Src_N.f s0_0 s0_1 a1 = some (r1,r2)) :
  Calls Try.prog 23 #[.pointer (some ⟨g,0,none⟩),.int .i64 a1] w fun e w'=>e = .returned (.int .i64 r1)∧IsS58 w0 w' g s0_0 r2∧Below w0.heap.size w0 w'∧KeepBut w w' g none:=by
 have HI0:=A_ hI
 have HK:=A_ (KeepBut.refl w g none)
 have HL:=A_ hB.size
 clear hI
 have HW0:=A_ hB.size
 have HB:=A_ hB
 clear hB
 have H : ((shapesearchkeep_Src_Raw.f s0_0 s0_1).bind fun bt104=>((shapesearchkeep_Mod.f bt104.1 a1).bind fun t106=>(some (t106,bt104.2)))) = some (r1,r2):=h
 clear h
 replace H:=Option.bind_eq_some_iff.mp H
 obtain ⟨⟨t104,t105⟩,A30,H⟩:=H
 replace H : ((shapesearchkeep_Mod.f t104 a1).bind fun t106=>(some (t106,t105))) = some (r1,r2):=H
 have A3:=A_ A30
 clear A30
 replace H:=Option.bind_eq_some_iff.mp H
 obtain ⟨t106,A40,H⟩:=H
 replace H : (some (t106,t105)) = some (r1,r2):=H
 have A4:=A_ A40
 clear A40
 simp only [Option.some.injEq,Prod.mk.injEq] at H
 obtain ⟨rfl,rfl⟩:=H
 go_enter Try.func23,Try.ntmps23
 go_wp2_with (first|((with_reducible refine gate_callee (f:=45) rfl ?_);refine goesL_ (some 6) rfl rfl Try.func45 (by kernel_rfl) rfl #[.pointer (some ⟨g,0,none⟩)] rfl (by (try simp only [List.map_toArray,List.map_cons,List.map_nil]);first|done|rfl|(simp only [List.length_drop,List.length_take];rfl)) ?_;(with_reducible refine (shapesearchkeep_Src_Raw.calls g s0_0 s0_1 t104 t105 w0 _ ?side1 ?side2 A3.out).mono ?_);(case side1=>repeat (first|(with_reducible first|exact HI0.out|apply IsS58.alloc|apply IsS58.drewN|apply IsS58.drew|apply IsS58.set_1)|exact HI0.out));(case side2=>repeat (first|(with_reducible first|exact HB.out|apply ba|apply bb|apply bc|refine below_set ?_ (IsS58.ge HI0.out))|exact HB.out));rintro e w5 ⟨rfl,hi,hb,hk⟩;refine ⟨_,rfl,?_⟩;have n0_:=A_ (KeepBut.trans (by repeat (first|(with_reducible first|exact HK.out|apply KeepBut.set_|apply keep_drewN|apply keep_drew|apply keep_alloc)|exact HK.out)) hk (.inl rfl));have n1_:=A_ (hb);have n2_:=A_ (hi);clear HK;clear HB;clear HI0;have HK:=n0_;have HB:=n1_;have HI0:=n2_;clear n0_ n1_ n2_;(try clear hb);(try clear hb2);(try clear hk);(try clear hi))|((with_reducible refine gate_callee (f:=21) rfl ?_);refine goesL_ (some 8) rfl rfl Try.func21 (by kernel_rfl) rfl #[.int .i64 t104,.int .i64 a1] rfl (by (try simp only [List.map_toArray,List.map_cons,List.map_nil]);first|done|rfl|(simp only [List.length_drop,List.length_take];rfl)) ?_;(with_reducible refine (shapesearchkeep_Mod.calls t104 a1 t106 _ A4.out).mono ?_);rintro e w' ⟨rfl,⟨nd,rfl⟩⟩;refine ⟨_,rfl,?_⟩))
 go_ret
 exact ⟨by first|rfl|(simp [errW_none,errW_some] <;> rfl)|(simp [*,errW_none,errW_some] <;> rfl),by repeat (first|(with_reducible first|exact HI0.out|apply IsS58.alloc|apply IsS58.drewN|apply IsS58.drew|apply IsS58.set_1)|exact HI0.out),by repeat (first|(with_reducible first|exact HB.out|apply ba|apply bb|apply bc|refine below_set ?_ (IsS58.ge HI0.out))|exact HB.out),by repeat (first|(with_reducible first|exact HK.out|apply KeepBut.set_|apply keep_drewN|apply keep_drew|apply keep_alloc)|exact HK.out)⟩

/-! ### shapesearchkeep_Src_Range: function 20 -/
def shapesearchkeep_Src_Range.f (s0_0 : List Int) (s0_1 : Int) (a1 : Int) (a2 : Int) : Option (Int × Int):=(shapesearchkeep_Src_N.f s0_0 s0_1 (wrap64 ((wrap64 (a2 - a1)) + 1))).bind fun bt107=>(some (wrap64 (a1 + bt107.1),bt107.2))
set_option maxHeartbeats 8000000 in
set_option maxRecDepth 100000 in
theorem shapesearchkeep_Src_Range.calls (g : Nat) (s0_0 : List Int) (s0_1 : Int) (a1 : Int) (a2 : Int) (r1 : Int) (r2 : Int) (w0 w : World) (hI : IsS58 w0 w g s0_0 s0_1) (hB : Below w0.heap.size w0 w) (h : shapesearchkeep_Src_Range.f s0_0 s0_1 a1 a2 = some (r1,r2)) :
  Calls Try.prog 20 #[.pointer (some ⟨g,0,none⟩),.int .i64 a1,.int .i64 a2] w fun e w'=>e = .returned (.int .i64 r1)∧IsS58 w0 w' g s0_0 r2∧Below w0.heap.size w0 w'∧KeepBut w w' g none:=by
 have HI0:=A_ hI
 have HK:=A_ (KeepBut.refl w g none)
 have HL:=A_ hB.size
 clear hI
 have HW0:=A_ hB.size
 have HB:=A_ hB
 clear hB
 have H : ((shapesearchkeep_Src_N.f s0_0 s0_1 (wrap64 ((wrap64 (a2 - a1)) + 1))).bind fun bt107=>(some (wrap64 (a1 + bt107.1),bt107.2))) = some (r1,r2):=h
 clear h
 replace H:=Option.bind_eq_some_iff.mp H
 obtain ⟨⟨t107,t108⟩,A40,H⟩:=H
 replace H : (some (wrap64 (a1 + t107),t108)) = some (r1,r2):=H
 have A4:=A_ A40
 clear A40
 simp only [Option.some.injEq,Prod.mk.injEq] at H
 obtain ⟨rfl,rfl⟩:=H
 go_enter Try.func20,Try.ntmps20
 go_wp2_with (first|((with_reducible refine gate_callee (f:=23) rfl ?_);refine goesL_ (some 13) rfl rfl Try.func23 (by kernel_rfl) rfl #[.pointer (some ⟨g,0,none⟩),.int .i64 (wrap64 ((wrap64 (a2 - a1)) + 1))] rfl (by (try simp only [List.map_toArray,List.map_cons,List.map_nil]);first|done|rfl|(simp only [List.length_drop,List.length_take];rfl)) ?_;(with_reducible refine (shapesearchkeep_Src_N.calls g s0_0 s0_1 (wrap64 ((wrap64 (a2 - a1)) + 1)) t107 t108 w0 _ ?side1 ?side2 A4.out).mono ?_);(case side1=>repeat (first|(with_reducible first|exact HI0.out|apply IsS58.alloc|apply IsS58.drewN|apply IsS58.drew|apply IsS58.set_1)|exact HI0.out));(case side2=>repeat (first|(with_reducible first|exact HB.out|apply ba|apply bb|apply bc|refine below_set ?_ (IsS58.ge HI0.out))|exact HB.out));rintro e w5 ⟨rfl,hi,hb,hk⟩;refine ⟨_,rfl,?_⟩;have n0_:=A_ (KeepBut.trans (by repeat (first|(with_reducible first|exact HK.out|apply KeepBut.set_|apply keep_drewN|apply keep_drew|apply keep_alloc)|exact HK.out)) hk (.inl rfl));have n1_:=A_ (hb);have n2_:=A_ (hi);clear HK;clear HB;clear HI0;have HK:=n0_;have HB:=n1_;have HI0:=n2_;clear n0_ n1_ n2_;(try clear hb);(try clear hb2);(try clear hk);(try clear hi)))
 go_ret
 exact ⟨by first|rfl|(simp [errW_none,errW_some] <;> rfl)|(simp [*,errW_none,errW_some] <;> rfl),by repeat (first|(with_reducible first|exact HI0.out|apply IsS58.alloc|apply IsS58.drewN|apply IsS58.drew|apply IsS58.set_1)|exact HI0.out),by repeat (first|(with_reducible first|exact HB.out|apply ba|apply bb|apply bc|refine below_set ?_ (IsS58.ge HI0.out))|exact HB.out),by repeat (first|(with_reducible first|exact HK.out|apply KeepBut.set_|apply keep_drewN|apply keep_drew|apply keep_alloc)|exact HK.out)⟩

/-! ### shapesearchkeep_Src_Pick: function 38 -/
def shapesearchkeep_Src_Pick.f (s0_0 : List Int) (s0_1 : Int) (l1 : List Int) : Option (Int × Int):=(shapesearchkeep_Src_N.f s0_0 s0_1 (l1.length : Int)).bind fun bt109=>(if 0 ≤ bt109.1 then (if bt109.1 < (l1.length : Int) then (some (rd l1 bt109.1,bt109.2)) else (none)) else (none))
set_option maxHeartbeats 8000000 in
set_option maxRecDepth 100000 in
theorem shapesearchkeep_Src_Pick.calls (g : Nat) (s0_0 : List Int) (s0_1 : Int) (A1 : Option Addr) (c1 : Nat) (l1 : List Int) (r1 : Int) (r2 : Int) (w0 w : World) (hI : IsS58 w0 w g s0_0 s0_1) (hB : Below w0.heap.size w0 w) (hr1 : Kd.C (Kd.int .i64) w A1 l1.length l1) (hc1 : l1.length ≤ c1) (hf1 : ∀ ad,A1 = some ad → 0 < l1.length → ad.block≠g) (h : shapesearchkeep_Src_Pick.f s0_0 s0_1 l1 = some (r1,r2)) :
  Calls Try.prog 38 #[.pointer (some ⟨g,0,none⟩),.slice A1 l1.length c1] w fun e w'=>e = .returned (.int .i64 r1)∧IsS58 w0 w' g s0_0 r2∧Below w0.heap.size w0 w'∧KeepBut w w' g none:=by
 have HR1:=A_ hr1
 have HC1:=A_ hc1
 clear hr1 hc1
 have HI0:=A_ hI
 have HK:=A_ (KeepBut.refl w g none)
 have HL:=A_ hB.size
 clear hI
 have HW0:=A_ hB.size
 have HB:=A_ hB
 clear hB
 have H : ((shapesearchkeep_Src_N.f s0_0 s0_1 (l1.length : Int)).bind fun bt109=>(if 0 ≤ bt109.1 then (if bt109.1 < (l1.length : Int) then (some (rd l1 bt109.1,bt109.2)) else (none)) else (none))) = some (r1,r2):=h
 clear h
 replace H:=Option.bind_eq_some_iff.mp H
 obtain ⟨⟨t109,t110⟩,A30,H⟩:=H
 replace H : (if 0 ≤ t109 then (if t109 < (l1.length : Int) then (some (rd l1 t109,t110)) else (none)) else (none)) = some (r1,r2):=H
 have A3:=A_ A30
 clear A30
 by_cases c4 : 0 ≤ t109
 ·
  rw [if_pos c4] at H
  have c4b0 : decide (0 ≤ t109) = true:=decide_eq_true c4
  clear c4
  by_cases c5 : t109 < (l1.length : Int)
  ·
   rw [if_pos c5] at H
   have c5b0 : decide (t109 < (l1.length : Int)) = true:=decide_eq_true c5
   clear c5
   simp only [Option.some.injEq,Prod.mk.injEq] at H
   obtain ⟨rfl,rfl⟩:=H
   go_enter Try.func38,Try.ntmps38
   go_wp2_with (first|((with_reducible refine gate_callee (f:=23) rfl ?_);refine goesL_ (some 9) rfl rfl Try.func23 (by kernel_rfl) rfl #[.pointer (some ⟨g,0,none⟩),.int .i64 (l1.length : Int)] rfl (by (try simp only [List.map_toArray,List.map_cons,List.map_nil]);first|done|rfl|(simp only [List.length_drop,List.length_take];rfl)) ?_;(with_reducible refine (shapesearchkeep_Src_N.calls g s0_0 s0_1 (l1.length : Int) t109 t110 w0 _ ?side1 ?side2 A3.out).mono ?_);(case side1=>repeat (first|(with_reducible first|exact HI0.out|apply IsS58.alloc|apply IsS58.drewN|apply IsS58.drew|apply IsS58.set_1)|exact HI0.out));(case side2=>repeat (first|(with_reducible first|exact HB.out|apply ba|apply bb|apply bc|refine below_set ?_ (IsS58.ge HI0.out))|exact HB.out));rintro e w6 ⟨rfl,hi,hb,hk⟩;refine ⟨_,rfl,?_⟩;have n0_:=A_ (KeepBut.trans (by repeat (first|(with_reducible first|exact HK.out|apply KeepBut.set_|apply keep_drewN|apply keep_drew|apply keep_alloc)|exact HK.out)) hk (.inl rfl));have n1_:=A_ (hb);have n2_:=A_ (hi);clear HK;clear HB;clear HI0;have HK:=n0_;have HB:=n1_;have HI0:=n2_;clear n0_ n1_ n2_;(try clear hb);(try clear hb2);(try clear hk);(try clear hi);have p111 : 0 ≤ (t109 : Int):=of_decide_eq_true (by first|(with_reducible assumption)|assumption);have q111 : t109 < (l1.length : Int):=of_decide_eq_true (by first|(with_reducible assumption)|assumption);obtain ⟨ad111,e111,hx111_0⟩:=Kd.at_int HR1.out t109 p111 q111;cases e111;replace hx111_0:=keep_cell HK.out hx111_0 (by first|(rw [add_block];exact hf1 _ rfl (by omega))|exact hf1 _ rfl (by omega)|exact hf1 ad111 rfl (by omega));replace p111:=eq_true p111;replace q111:=eq_true q111))
   go_ret
   exact ⟨by first|rfl|(simp [errW_none,errW_some] <;> rfl)|(simp [*,errW_none,errW_some] <;> rfl),by repeat (first|(with_reducible first|exact HI0.out|apply IsS58.alloc|apply IsS58.drewN|apply IsS58.drew|apply IsS58.set_1)|exact HI0.out),by repeat (first|(with_reducible first|exact HB.out|apply ba|apply bb|apply bc|refine below_set ?_ (IsS58.ge HI0.out))|exact HB.out),by repeat (first|(with_reducible first|exact HK.out|apply KeepBut.set_|apply keep_drewN|apply keep_drew|apply keep_alloc)|exact HK.out)⟩
  ·
   rw [if_neg c5] at H
   exact absurd H (by simp)
 ·
  rw [if_neg c4] at H
  exact absurd H (by simp)

/-! ### shapesearchkeep_clip: function 39 -/
def shapesearchkeep_clip.f (a0 : Int) : Option (Int):=some (mn (mx a0 (-1000)) 1000)
set_option maxHeartbeats 8000000 in
set_option maxRecDepth 100000 in
theorem shapesearchkeep_clip.calls (a0 : Int) (r : Int) (w : World) (h : shapesearchkeep_clip.f a0 = some r) :
  Calls Try.prog 39 #[.int .i64 a0] w fun e w'=>e = .returned (.int .i64 r)∧Below w.heap.size w w':=by
 have HB:=A_ (Below.refl w.heap.size w)
 have H : (some (mn (mx a0 (-1000)) 1000)) = some r:=h
 clear h
 obtain ⟨ji2,hji2⟩ : ∃ j_ : Int,(mx a0 (-1000)) = j_:=⟨_,rfl⟩
 replace H : (some (mn (ji2) 1000)) = some r:=by first|(rw [hji2] at H;exact H)|(simp only [hji2] at H ⊢;exact H)
 have hji2_ : (if a0 < (-1000) then (-1000) else a0) = ji2:=hji2
 obtain ⟨ji3,hji3⟩ : ∃ j_ : Int,(mn (ji2) 1000) = j_:=⟨_,rfl⟩
 replace H : (some ji3) = some r:=by first|(rw [hji3] at H;exact H)|(simp only [hji3] at H ⊢;exact H)
 have hji3_ : (if 1000 < (ji2) then 1000 else (ji2)) = ji3:=hji3
 obtain rfl:=Option.some.inj H
 go_enter Try.func39,Try.ntmps39
 go_wp2
 go_ret
 exact ⟨by first|rfl|(simp [errW_none,errW_some] <;> rfl)|(simp only [← hji2,← hji3];first|rfl|(simp [errW_none,errW_some] <;> rfl))|(simp [*,errW_none,errW_some] <;> rfl),by repeat (first|(with_reducible first|exact HB.out|apply ba|apply bb|apply bc)|exact HB.out)⟩

/-! ### shapesearchkeep_Src_List: function 19 -/
mutual
def shapesearchkeep_Src_List.j0 : Nat → Int → Int → Int → Int → List Int → Int → Option (List Int × Int)
 | 0,_,_,_,_,_,_=>none
 | k + 1,x1,x5,x6,x7,x1000,x1001=>shapesearchkeep_Src_List.l0 k x1 x5 x6 x7 ([] : List Int) 0 x1000 x1001
def shapesearchkeep_Src_List.l0 : Nat → Int → Int → Int → Int → List Int → Int → List Int → Int → Option (List Int × Int)
 | 0,_,_,_,_,_,_,_,_=>none
 | k + 1,x1,x5,x6,x7,x8,x9,x1000,x1001=>if x9 < x1 then (if x5 = 0 then (shapesearchkeep_Src_List.j2 k x1 x5 x6 x7 x8 x9 x5 (x5 == 0) x1000 x1001) else (shapesearchkeep_Src_List.j2 k x1 x5 x6 x7 x8 x9 x5 (x5 == 1) x1000 x1001)) else (some (x8,x1001))
def shapesearchkeep_Src_List.j2 : Nat → Int → Int → Int → Int → List Int → Int → Int → Bool → List Int → Int → Option (List Int × Int)
 | 0,_,_,_,_,_,_,_,_,_,_=>none
 | k + 1,x1,x5,x6,x7,x8,x9,x25,x32,x1000,x1001=>if x32 = true then ((shapesearchkeep_Src_Range.f x1000 x1001 (wrap64 (-x6)) x6).bind fun bt123=>(if x8.length < 17592186044416 then (shapesearchkeep_Src_List.l0 k x1 x5 x6 x7 (x8 ++ [bt123.1]) (wrap64 (x9 + 1)) x1000 bt123.2) else (none))) else (if x25 = 2 then (shapesearchkeep_Src_List.j3 k x1 x5 x6 x7 x8 x9 x25 (x25 == 2) x1000 x1001) else (shapesearchkeep_Src_List.j3 k x1 x5 x6 x7 x8 x9 x25 (x25 == 3) x1000 x1001))
def shapesearchkeep_Src_List.j3 : Nat → Int → Int → Int → Int → List Int → Int → Int → Bool → List Int → Int → Option (List Int × Int)
 | 0,_,_,_,_,_,_,_,_,_,_=>none
 | k + 1,x1,x5,x6,x7,x8,x9,x25,x43,x1000,x1001=>if x43 = true then ((shapesearchkeep_Src_Range.f x1000 x1001 (wrap64 (-x6)) x6).bind fun bt128=>((shapesearchkeep_clip.f (wrap64 (x7 + bt128.1))).bind fun t130=>(if x8.length < 17592186044416 then (shapesearchkeep_Src_List.l0 k x1 x5 x6 t130 (x8 ++ [t130]) (wrap64 (x9 + 1)) x1000 bt128.2) else (none)))) else (if x25 = 4 then ((shapesearchkeep_Src_N.f x1000 x1001 4).bind fun bt134=>(if bt134.1 = 0 then ((shapesearchkeep_Src_Range.f x1000 bt134.2 (wrap64 (-x6)) x6).bind fun bt136=>(if x8.length < 17592186044416 then (shapesearchkeep_Src_List.l0 k x1 x5 x6 bt136.1 (x8 ++ [bt136.1]) (wrap64 (x9 + 1)) x1000 bt136.2) else (none))) else (if x8.length < 17592186044416 then (shapesearchkeep_Src_List.l0 k x1 x5 x6 x7 (x8 ++ [x7]) (wrap64 (x9 + 1)) x1000 bt134.2) else (none)))) else ((shapesearchkeep_Src_Pick.f x1000 x1001 (([(-1000),1000,1000,0] : List Int))).bind fun bt147=>(if x8.length < 17592186044416 then (shapesearchkeep_Src_List.l0 k x1 x5 x6 x7 (x8 ++ [bt147.1]) (wrap64 (x9 + 1)) x1000 bt147.2) else (none))))
end
def shapesearchkeep_Src_List.f (k : Nat) (s0_0 : List Int) (s0_1 : Int) (a1 : Int) : Option (List Int × Int):=(shapesearchkeep_Src_N.f s0_0 s0_1 6).bind fun bt112=>((shapesearchkeep_Src_Pick.f s0_0 bt112.2 (([1,3,10,100,1000] : List Int))).bind fun bt117=>((shapesearchkeep_Src_N.f s0_0 bt117.2 3).bind fun bt119=>(if bt119.1 = 0 then ((shapesearchkeep_Src_Range.f s0_0 bt119.2 (-1000) 1000).bind fun bt121=>(shapesearchkeep_Src_List.j0 k a1 bt112.1 bt117.1 bt121.1 s0_0 bt121.2)) else (shapesearchkeep_Src_List.j0 k a1 bt112.1 bt117.1 0 s0_0 bt119.2))))
theorem shapesearchkeep_Src_List.mono_l : ∀ k,(∀ y0 y1 y2 y3 y4 y5,LeO (shapesearchkeep_Src_List.j0 k y0 y1 y2 y3 y4 y5) (shapesearchkeep_Src_List.j0 (k + 1) y0 y1 y2 y3 y4 y5))∧(∀ y0 y1 y2 y3 y4 y5 y6 y7,LeO (shapesearchkeep_Src_List.l0 k y0 y1 y2 y3 y4 y5 y6 y7) (shapesearchkeep_Src_List.l0 (k + 1) y0 y1 y2 y3 y4 y5 y6 y7))∧(∀ y0 y1 y2 y3 y4 y5 y6 y7 y8 y9,LeO (shapesearchkeep_Src_List.j2 k y0 y1 y2 y3 y4 y5 y6 y7 y8 y9) (shapesearchkeep_Src_List.j2 (k + 1) y0 y1 y2 y3 y4 y5 y6 y7 y8 y9))∧(∀ y0 y1 y2 y3 y4 y5 y6 y7 y8 y9,LeO (shapesearchkeep_Src_List.j3 k y0 y1 y2 y3 y4 y5 y6 y7 y8 y9) (shapesearchkeep_Src_List.j3 (k + 1) y0 y1 y2 y3 y4 y5 y6 y7 y8 y9))
 | 0=>⟨fun _ _ _ _ _ _ r h=>by simp [shapesearchkeep_Src_List.j0] at h,fun _ _ _ _ _ _ _ _ r h=>by simp [shapesearchkeep_Src_List.l0] at h,fun _ _ _ _ _ _ _ _ _ _ r h=>by simp [shapesearchkeep_Src_List.j2] at h,fun _ _ _ _ _ _ _ _ _ _ r h=>by simp [shapesearchkeep_Src_List.j3] at h⟩
 | k + 1=>by
  obtain ⟨ih0,ih1,ih2,ih3⟩:=shapesearchkeep_Src_List.mono_l k
  refine ⟨?_,?_,?_,?_⟩
  ·
   intro y0 y1 y2 y3 y4 y5
   unfold shapesearchkeep_Src_List.j0
   repeat' first
   | (with_reducible exact ih0 _ _ _ _ _ _)
   | (with_reducible exact ih1 _ _ _ _ _ _ _ _)
   | (with_reducible exact ih2 _ _ _ _ _ _ _ _ _ _)
   | (with_reducible exact ih3 _ _ _ _ _ _ _ _ _ _)
   | (with_reducible exact LeO.refl _)
   | (with_reducible exact LeO.none _)
   | (with_reducible refine LeO.ite ?_ ?_)
   | (with_reducible refine LeO.bind ?_ (fun _=>?_))
   | exact ih0 _ _ _ _ _ _
   | exact ih1 _ _ _ _ _ _ _ _
   | exact ih2 _ _ _ _ _ _ _ _ _ _
   | exact ih3 _ _ _ _ _ _ _ _ _ _
   | exact LeO.none _
   | refine LeO.ite ?_ ?_
   | refine LeO.bind ?_ (fun _=>?_)
  ·
   intro y0 y1 y2 y3 y4 y5 y6 y7
   unfold shapesearchkeep_Src_List.l0
   repeat' first
   | (with_reducible exact ih0 _ _ _ _ _ _)
   | (with_reducible exact ih1 _ _ _ _ _ _ _ _)
   | (with_reducible exact ih2 _ _ _ _ _ _ _ _ _ _)
   | (with_reducible exact ih3 _ _ _ _ _ _ _ _ _ _)
   | (with_reducible exact LeO.refl _)
   | (with_reducible exact LeO.none _)
   | (with_reducible refine LeO.ite ?_ ?_)
   | (with_reducible refine LeO.bind ?_ (fun _=>?_))
   | exact ih0 _ _ _ _ _ _
   | exact ih1 _ _ _ _ _ _ _ _
   | exact ih2 _ _ _ _ _ _ _ _ _ _
   | exact ih3 _ _ _ _ _ _ _ _ _ _
   | exact LeO.none _
   | refine LeO.ite ?_ ?_
   | refine LeO.bind ?_ (fun _=>?_)
  ·
   intro y0 y1 y2 y3 y4 y5 y6 y7 y8 y9
   unfold shapesearchkeep_Src_List.j2
   repeat' first
   | (with_reducible exact ih0 _ _ _ _ _ _)
   | (with_reducible exact ih1 _ _ _ _ _ _ _ _)
   | (with_reducible exact ih2 _ _ _ _ _ _ _ _ _ _)
   | (with_reducible exact ih3 _ _ _ _ _ _ _ _ _ _)
   | (with_reducible exact LeO.refl _)
   | (with_reducible exact LeO.none _)
   | (with_reducible refine LeO.ite ?_ ?_)
   | (with_reducible refine LeO.bind ?_ (fun _=>?_))
   | exact ih0 _ _ _ _ _ _
   | exact ih1 _ _ _ _ _ _ _ _
   | exact ih2 _ _ _ _ _ _ _ _ _ _
   | exact ih3 _ _ _ _ _ _ _ _ _ _
   | exact LeO.none _
   | refine LeO.ite ?_ ?_
   | refine LeO.bind ?_ (fun _=>?_)
  ·
   intro y0 y1 y2 y3 y4 y5 y6 y7 y8 y9
   unfold shapesearchkeep_Src_List.j3
   repeat' first
   | (with_reducible exact ih0 _ _ _ _ _ _)
   | (with_reducible exact ih1 _ _ _ _ _ _ _ _)
   | (with_reducible exact ih2 _ _ _ _ _ _ _ _ _ _)
   | (with_reducible exact ih3 _ _ _ _ _ _ _ _ _ _)
   | (with_reducible exact LeO.refl _)
   | (with_reducible exact LeO.none _)
   | (with_reducible refine LeO.ite ?_ ?_)
   | (with_reducible refine LeO.bind ?_ (fun _=>?_))
   | exact ih0 _ _ _ _ _ _
   | exact ih1 _ _ _ _ _ _ _ _
   | exact ih2 _ _ _ _ _ _ _ _ _ _
   | exact ih3 _ _ _ _ _ _ _ _ _ _
   | exact LeO.none _
   | refine LeO.ite ?_ ?_
   | refine LeO.bind ?_ (fun _=>?_)
theorem shapesearchkeep_Src_List.mono : ∀ a0 a1 a2 k,LeO (shapesearchkeep_Src_List.f k a0 a1 a2) (shapesearchkeep_Src_List.f (k + 1) a0 a1 a2):=by
 intro a0 a1 a2 k
 obtain ⟨ih0,ih1,ih2,ih3⟩:=shapesearchkeep_Src_List.mono_l k
 unfold shapesearchkeep_Src_List.f
 repeat' first
   | (with_reducible exact ih0 _ _ _ _ _ _)
   | (with_reducible exact ih1 _ _ _ _ _ _ _ _)
   | (with_reducible exact ih2 _ _ _ _ _ _ _ _ _ _)
   | (with_reducible exact ih3 _ _ _ _ _ _ _ _ _ _)
   | (with_reducible exact LeO.refl _)
   | (with_reducible exact LeO.none _)
   | (with_reducible refine LeO.ite ?_ ?_)
   | (with_reducible refine LeO.bind ?_ (fun _=>?_))
   | exact ih0 _ _ _ _ _ _
   | exact ih1 _ _ _ _ _ _ _ _
   | exact ih2 _ _ _ _ _ _ _ _ _ _
   | exact ih3 _ _ _ _ _ _ _ _ _ _
   | exact LeO.none _
   | refine LeO.ite ?_ ?_
   | refine LeO.bind ?_ (fun _=>?_)
set_option maxHeartbeats 8000000 in
set_option maxRecDepth 100000 in
theorem shapesearchkeep_Src_List.calls (k : Nat) (g : Nat) (s0_0 : List Int) (s0_1 : Int) (a1 : Int) (r1 : List Int) (r2 : Int) (w0 w : World) (hI : IsS58 w0 w g s0_0 s0_1) (hB : Below w0.heap.size w0 w) (h : shapesearchkeep_Src_List.f k s0_0 s0_1 a1 = some (r1,r2)) :
  Calls Try.prog 19 #[.pointer (some ⟨g,0,none⟩),.int .i64 a1] w fun e w'=>∃ v0_ : Value,e = .returned (v0_)∧Kd.R (Kd.int .i64) 3 w' w.heap.size (fun _=>True) v0_ r1∧IsS58 w0 w' g s0_0 r2∧Below w0.heap.size w0 w'∧KeepBut w w' g none:=by
 have HI0:=A_ hI
 have HK:=A_ (KeepBut.refl w g none)
 have HL:=A_ hB.size
 clear hI
 have HW0:=A_ hB.size
 have HB:=A_ hB
 clear hB
 have H : ((shapesearchkeep_Src_N.f s0_0 s0_1 6).bind fun bt112=>((shapesearchkeep_Src_Pick.f s0_0 bt112.2 (([1,3,10,100,1000] : List Int))).bind fun bt117=>((shapesearchkeep_Src_N.f s0_0 bt117.2 3).bind fun bt119=>(if bt119.1 = 0 then ((shapesearchkeep_Src_Range.f s0_0 bt119.2 (-1000) 1000).bind fun bt121=>(shapesearchkeep_Src_List.j0 k a1 bt112.1 bt117.1 bt121.1 s0_0 bt121.2)) else (shapesearchkeep_Src_List.j0 k a1 bt112.1 bt117.1 0 s0_0 bt119.2))))) = some (r1,r2):=h
 clear h
 replace H:=Option.bind_eq_some_iff.mp H
 obtain ⟨⟨t112,t113⟩,A30,H⟩:=H
 replace H : ((shapesearchkeep_Src_Pick.f s0_0 t113 (([1,3,10,100,1000] : List Int))).bind fun bt117=>((shapesearchkeep_Src_N.f s0_0 bt117.2 3).bind fun bt119=>(if bt119.1 = 0 then ((shapesearchkeep_Src_Range.f s0_0 bt119.2 (-1000) 1000).bind fun bt121=>(shapesearchkeep_Src_List.j0 k a1 t112 bt117.1 bt121.1 s0_0 bt121.2)) else (shapesearchkeep_Src_List.j0 k a1 t112 bt117.1 0 s0_0 bt119.2)))) = some (r1,r2):=H
 have A3:=A_ A30
 clear A30
 obtain ⟨y114,hy114⟩ : ∃ y_ : List Int,y_ = (([1,3,10,100,1000] : List Int)):=⟨_,rfl⟩
 replace H : ((shapesearchkeep_Src_Pick.f s0_0 t113 y114).bind fun bt117=>((shapesearchkeep_Src_N.f s0_0 bt117.2 3).bind fun bt119=>(if bt119.1 = 0 then ((shapesearchkeep_Src_Range.f s0_0 bt119.2 (-1000) 1000).bind fun bt121=>(shapesearchkeep_Src_List.j0 k a1 t112 bt117.1 bt121.1 s0_0 bt121.2)) else (shapesearchkeep_Src_List.j0 k a1 t112 bt117.1 0 s0_0 bt119.2)))) = some (r1,r2):=by first|(rw [hy114];with_reducible exact H)|(have H2_:=(Option.bind_some _ _).symm.trans H;rw [hy114];with_reducible exact H2_)|(have H2_:=(Option.bind_some _ _).symm.trans H;with_reducible exact H2_)|with_reducible exact H|(rw [hy114];exact H)|exact H
 have Ny114:=A_ hy114
 clear hy114
 replace H:=Option.bind_eq_some_iff.mp H
 obtain ⟨⟨t117,t118⟩,A40,H⟩:=H
 replace H : ((shapesearchkeep_Src_N.f s0_0 t118 3).bind fun bt119=>(if bt119.1 = 0 then ((shapesearchkeep_Src_Range.f s0_0 bt119.2 (-1000) 1000).bind fun bt121=>(shapesearchkeep_Src_List.j0 k a1 t112 t117 bt121.1 s0_0 bt121.2)) else (shapesearchkeep_Src_List.j0 k a1 t112 t117 0 s0_0 bt119.2))) = some (r1,r2):=H
 have A4:=A_ A40
 clear A40
 replace H:=Option.bind_eq_some_iff.mp H
 obtain ⟨⟨t119,t120⟩,A50,H⟩:=H
 replace H : (if t119 = 0 then ((shapesearchkeep_Src_Range.f s0_0 t120 (-1000) 1000).bind fun bt121=>(shapesearchkeep_Src_List.j0 k a1 t112 t117 bt121.1 s0_0 bt121.2)) else (shapesearchkeep_Src_List.j0 k a1 t112 t117 0 s0_0 t120)) = some (r1,r2):=H
 have A5:=A_ A50
 clear A50
 have HC6:=A_ H
 clear H
 go_enter Try.func19,Try.ntmps19
 go_upto_if 17 with (first|((with_reducible refine gate_callee (f:=23) rfl ?_);refine goesL_ (some 11) rfl rfl Try.func23 (by kernel_rfl) rfl #[.pointer (some ⟨g,0,none⟩),.int .i64 6] rfl (by (try simp only [List.map_toArray,List.map_cons,List.map_nil]);first|done|rfl|(simp only [List.length_drop,List.length_take];rfl)) ?_;(with_reducible refine (shapesearchkeep_Src_N.calls g s0_0 s0_1 6 t112 t113 w0 _ ?side1 ?side2 A3.out).mono ?_);(case side1=>repeat (first|(with_reducible first|exact HI0.out|apply IsS58.alloc|apply IsS58.drewN|apply IsS58.drew|apply IsS58.set_1)|exact HI0.out));(case side2=>repeat (first|(with_reducible first|exact HB.out|apply ba|apply bb|apply bc|refine below_set ?_ (IsS58.ge HI0.out))|exact HB.out));rintro e w7 ⟨rfl,hi,hb,hk⟩;refine ⟨_,rfl,?_⟩;have n0_:=A_ (KeepBut.trans (by repeat (first|(with_reducible first|exact HK.out|apply KeepBut.set_|apply keep_drewN|apply keep_drew|apply keep_alloc)|exact HK.out)) hk (.inl rfl));have n1_:=A_ (hb);have n2_:=A_ (hi);clear HK;clear HB;clear HI0;have HK:=n0_;have HB:=n1_;have HI0:=n2_;clear n0_ n1_ n2_;(try clear hb);(try clear hb2);(try clear hk);(try clear hi))|((with_reducible refine gate_dst (N:=13) rfl ?_);refine Kd.R_lit (Kd.int .i64) _ 3 ?hg (N:=13) ?hd (xs:=([1,3,10,100,1000] : List Int)) (inner:=[.int .i64 1,.int .i64 3,.int .i64 10,.int .i64 100,.int .i64 1000]) (ok:=fun _=>True) (okp:=fun _=>True) ?hr ?hp (fun _ hk=>hk) trivial (Below.refl _ _) (Nat.le_refl _) (by simp) ?_;(case hd=>rfl);(case hg=>rfl);(case hr=>first|(go_simp;done)|(go_simp;rfl));(case hp=>exact (Reps.one (show Kd.M (Kd.int .i64) _ _ _ 1 [.int .i64 1] from rfl) (Reps.one (show Kd.M (Kd.int .i64) _ _ _ 3 [.int .i64 3] from rfl) (Reps.one (show Kd.M (Kd.int .i64) _ _ _ 10 [.int .i64 10] from rfl) (Reps.one (show Kd.M (Kd.int .i64) _ _ _ 100 [.int .i64 100] from rfl) (Reps.one (show Kd.M (Kd.int .i64) _ _ _ 1000 [.int .i64 1000] from rfl) (Reps.none _ _)))))));intro v115 w8 ho9 hb hg_ hnew_;clear hg_ hnew_;(first|rw [← Ny114.out] at ho9|(simp only [Int.reduceToNat] at ho9;rw [← Ny114.out] at ho9));have n0_:=A_ (Kd.R_lower ho9 (keep_size (w:=w) (g:=g) (row:=none) (by repeat (first|(with_reducible first|exact HK.out|apply KeepBut.set_|apply keep_drewN|apply keep_drew|apply keep_alloc)|exact HK.out))));have n1_:=A_ (IsS58.below (by repeat (first|(with_reducible first|exact HI0.out|apply IsS58.alloc|apply IsS58.drewN|apply IsS58.drew|apply IsS58.set_1)|exact HI0.out)) hb);have n2_:=A_ (KeepBut.trans (by repeat (first|(with_reducible first|exact HK.out|apply KeepBut.set_|apply keep_drewN|apply keep_drew|apply keep_alloc)|exact HK.out)) (KeepBut.of_below hb g none) (.inl rfl));have n3_:=A_ (below_step (by repeat (first|(with_reducible first|exact HB.out|apply ba|apply bb|apply bc|refine below_set ?_ (IsS58.ge HI0.out))|exact HB.out)) hb);clear HI0;clear HK;clear HB;have HO116:=n0_;have HI0:=n1_;have HK:=n2_;have HB:=n3_;clear n0_ n1_ n2_ n3_;clear hb ho9;obtain ⟨Ao10,co10,eo10⟩:=Kd.R_slice HO116.out;subst eo10)|((with_reducible refine gate_callee (f:=38) rfl ?_);refine goesL_ (some 14) rfl rfl Try.func38 (by kernel_rfl) rfl #[.pointer (some ⟨g,0,none⟩),.slice Ao10 y114.length co10] rfl (by (try simp only [List.map_toArray,List.map_cons,List.map_nil]);first|done|rfl|(simp only [List.length_drop,List.length_take];rfl)) ?_;(with_reducible refine (shapesearchkeep_Src_Pick.calls g s0_0 t113 _ _ y114 t117 t118 w0 _ ?side1 ?side2 ?side3 ?side4 ?side5 A4.out).mono ?_);(case side1=>repeat (first|(with_reducible first|exact HI0.out|apply IsS58.alloc|apply IsS58.drewN|apply IsS58.drew|apply IsS58.set_1)|exact HI0.out));(case side2=>repeat (first|(with_reducible first|exact HB.out|apply ba|apply bb|apply bc|refine below_set ?_ (IsS58.ge HI0.out))|exact HB.out));(case side3=>repeat (first|exact (rd_ HO116.out).2.2|(with_reducible refine ca ?_ _)|(with_reducible refine cb ?_ _)|(with_reducible refine cc ?_)));(case side4=>exact (rd_ HO116.out).2.1);(case side5=>exact far_slice (IsS58.own_ne HI0.out HO116.out (by decide)));rintro e w11 ⟨rfl,hi,hb,hk⟩;refine ⟨_,rfl,?_⟩;have n0_:=A_ (rm (Kd.R_keep (IsS58.apart (show IsS58 w0 _ g s0_0 t113 from by repeat (first|(with_reducible first|exact HI0.out|apply IsS58.alloc|apply IsS58.drewN|apply IsS58.drew|apply IsS58.set_1)|exact HI0.out)) (by (with_reducible repeat (first|apply ra|apply rb|apply rc));exact HO116.out) (by decide)) hk (fun _ h=>h.2)) (fun _ h=>h.1));have n1_:=A_ (KeepBut.trans (by repeat (first|(with_reducible first|exact HK.out|apply KeepBut.set_|apply keep_drewN|apply keep_drew|apply keep_alloc)|exact HK.out)) hk (.inl rfl));have n2_:=A_ (hb);have n3_:=A_ (hi);clear HO116;clear HK;clear HB;clear HI0;have HO116:=n0_;have HK:=n1_;have HB:=n2_;have HI0:=n3_;clear n0_ n1_ n2_ n3_;(try clear hb);(try clear hb2);(try clear hk);(try clear hi))|((with_reducible refine gate_callee (f:=23) rfl ?_);refine goesL_ (some 16) rfl rfl Try.func23 (by kernel_rfl) rfl #[.pointer (some ⟨g,0,none⟩),.int .i64 3] rfl (by (try simp only [List.map_toArray,List.map_cons,List.map_nil]);first|done|rfl|(simp only [List.length_drop,List.length_take];rfl)) ?_;(with_reducible refine (shapesearchkeep_Src_N.calls g s0_0 t118 3 t119 t120 w0 _ ?side1 ?side2 A5.out).mono ?_);(case side1=>repeat (first|(with_reducible first|exact HI0.out|apply IsS58.alloc|apply IsS58.drewN|apply IsS58.drew|apply IsS58.set_1)|exact HI0.out));(case side2=>repeat (first|(with_reducible first|exact HB.out|apply ba|apply bb|apply bc|refine below_set ?_ (IsS58.ge HI0.out))|exact HB.out));rintro e w12 ⟨rfl,hi,hb,hk⟩;refine ⟨_,rfl,?_⟩;have n0_:=A_ (rm (Kd.R_keep (IsS58.apart (show IsS58 w0 _ g s0_0 t118 from by repeat (first|(with_reducible first|exact HI0.out|apply IsS58.alloc|apply IsS58.drewN|apply IsS58.drew|apply IsS58.set_1)|exact HI0.out)) (by (with_reducible repeat (first|apply ra|apply rb|apply rc));exact HO116.out) (by decide)) hk (fun _ h=>h.2)) (fun _ h=>h.1));have n1_:=A_ (KeepBut.trans (by repeat (first|(with_reducible first|exact HK.out|apply KeepBut.set_|apply keep_drewN|apply keep_drew|apply keep_alloc)|exact HK.out)) hk (.inl rfl));have n2_:=A_ (hb);have n3_:=A_ (hi);clear HO116;clear HK;clear HB;clear HI0;have HO116:=n0_;have HK:=n1_;have HB:=n2_;have HI0:=n3_;clear n0_ n1_ n2_ n3_;(try clear hb);(try clear hb2);(try clear hk);(try clear hi)))
 (try simp only [Act.put,List.setIfInBounds_toArray,List.set_cons_zero,List.set_cons_succ])
 go_cut [7] (fun v7 wc=>∃ (kq : Nat) (x7_5 : Int) (x1001_5 : Int),v7 = .int .i64 x7_5∧Aside0 (shapesearchkeep_Src_List.j0 kq a1 t112 t117 x7_5 s0_0 x1001_5 = some (r1,r2))∧Aside0 (kq ≤ k)∧Aside0 (IsS58 w0 wc g s0_0 x1001_5)∧Aside0 (KeepBut w wc g none)∧Aside0 (Below w0.heap.size w0 wc))
 case first =>
  have H:=HC6.out
  clear HC6
  by_cases c13 : t119 = 0
  ·
   rw [if_pos c13] at H
   have c13b0 : (t119 == 0) = true:=beq_iff_eq.mpr c13
   have c13b1 : (t119 != 0) = false:=bne_eq_false_iff_eq.mpr c13
   clear c13
   (first|rw [c13b0]|(simp only [i64_w,i32_w];rw [c13b0])|skip)
   replace H:=Option.bind_eq_some_iff.mp H
   obtain ⟨⟨t121,t122⟩,A140,H⟩:=H
   replace H : (shapesearchkeep_Src_List.j0 k a1 t112 t117 t121 s0_0 t122) = some (r1,r2):=H
   have A14:=A_ A140
   clear A140
   have H':=A_ H
   clear H
   go_wp2_with (first|((with_reducible refine gate_callee (f:=20) rfl ?_);refine goesL_ (some 19) rfl rfl Try.func20 (by kernel_rfl) rfl #[.pointer (some ⟨g,0,none⟩),.int .i64 (-1000),.int .i64 1000] rfl (by (try simp only [List.map_toArray,List.map_cons,List.map_nil]);first|done|rfl|(simp only [List.length_drop,List.length_take];rfl)) ?_;(with_reducible refine (shapesearchkeep_Src_Range.calls g s0_0 t120 (-1000) 1000 t121 t122 w0 _ ?side1 ?side2 A14.out).mono ?_);(case side1=>repeat (first|(with_reducible first|exact HI0.out|apply IsS58.alloc|apply IsS58.drewN|apply IsS58.drew|apply IsS58.set_1)|exact HI0.out));(case side2=>repeat (first|(with_reducible first|exact HB.out|apply ba|apply bb|apply bc|refine below_set ?_ (IsS58.ge HI0.out))|exact HB.out));rintro e w15 ⟨rfl,hi,hb,hk⟩;refine ⟨_,rfl,?_⟩;have n0_:=A_ (rm (Kd.R_keep (IsS58.apart (show IsS58 w0 _ g s0_0 t120 from by repeat (first|(with_reducible first|exact HI0.out|apply IsS58.alloc|apply IsS58.drewN|apply IsS58.drew|apply IsS58.set_1)|exact HI0.out)) (by (with_reducible repeat (first|apply ra|apply rb|apply rc));exact HO116.out) (by decide)) hk (fun _ h=>h.2)) (fun _ h=>h.1));have n1_:=A_ (KeepBut.trans (by repeat (first|(with_reducible first|exact HK.out|apply KeepBut.set_|apply keep_drewN|apply keep_drew|apply keep_alloc)|exact HK.out)) hk (.inl rfl));have n2_:=A_ (hb);have n3_:=A_ (hi);clear HO116;clear HK;clear HB;clear HI0;have HO116:=n0_;have HK:=n1_;have HB:=n2_;have HI0:=n3_;clear n0_ n1_ n2_ n3_;(try clear hb);(try clear hb2);(try clear hk);(try clear hi)))
   go_meet
   case rel=>exact ⟨_,(t121),(t122),(by first|rfl|(simp;done)|(simp [*];done)),H',⟨by first|omega|exact Nat.le_refl _⟩,⟨by repeat (first|(with_reducible first|exact HI0.out|apply IsS58.alloc|apply IsS58.drewN|apply IsS58.drew|apply IsS58.set_1)|exact HI0.out)⟩,⟨by repeat (first|(with_reducible first|exact HK.out|apply KeepBut.set_|apply keep_drewN|apply keep_drew|apply keep_alloc)|exact HK.out)⟩,⟨by repeat (first|(with_reducible first|exact HB.out|apply ba|apply bb|apply bc|refine below_set ?_ (IsS58.ge HI0.out))|exact HB.out)⟩⟩
  ·
   rw [if_neg c13] at H
   have c13b0 : (t119 == 0) = false:=beq_eq_false_iff_ne.mpr c13
   have c13b1 : (t119 != 0) = true:=bne_iff_ne.mpr c13
   (first|rw [c13b0]|(simp only [i64_w,i32_w];rw [c13b0])|skip)
   have H':=A_ H
   clear H
   go_wp2
   go_meet
   case rel=>exact ⟨_,(0),(t120),(by first|rfl|(simp;done)|(simp [*];done)),H',⟨by first|omega|exact Nat.le_refl _⟩,⟨by repeat (first|(with_reducible first|exact HI0.out|apply IsS58.alloc|apply IsS58.drewN|apply IsS58.drew|apply IsS58.set_1)|exact HI0.out)⟩,⟨by repeat (first|(with_reducible first|exact HK.out|apply KeepBut.set_|apply keep_drewN|apply keep_drew|apply keep_alloc)|exact HK.out)⟩,⟨by repeat (first|(with_reducible first|exact HB.out|apply ba|apply bb|apply bc|refine below_set ?_ (IsS58.ge HI0.out))|exact HB.out)⟩⟩
 case rest =>
  clear HC6
  try clear c1
  try clear c2
  try clear p2
  try clear c3
  try clear c13
  try clear c13b0
  try clear c13b1
  obtain ⟨kq,x7_5,x1001_5,rfl,HA,HJ5,HI0,HK,HB⟩:=hcut
  cases kq with
  | zero=>exact absurd HA.out (by simp [shapesearchkeep_Src_List.j0])
  | succ kj5 =>
   have H:=HA.out
   clear HA
   simp only [shapesearchkeep_Src_List.j0] at H
   have H':=A_ H
   clear H
   go_wp2
   go_loopg [7,8,9] kj5 (fun kq v7 v8 v9 w'=>∃ (x7_2 : Int) (x8_2 : List Int) (x9_2 : Int) (x1001_2 : Int),v7 = .int .i64 x7_2∧v9 = .int .i64 x9_2∧Aside0 (shapesearchkeep_Src_List.l0 kq a1 t112 t117 x7_2 x8_2 x9_2 s0_0 x1001_2 = some (r1,r2))∧Aside0 (kq ≤ kj5)∧Aside0 (Kd.R (Kd.int .i64) 3 w' w.heap.size (fun _=>True) v8 x8_2)∧Aside0 (IsS58 w0 w' g s0_0 x1001_2)∧Aside0 (KeepBut w w' g none)∧Aside0 (Below w0.heap.size w0 w'))
   case atStart=>exact ⟨(x7_5),(([] : List Int)),(0),(x1001_5),(by first|rfl|(simp;done)|(simp [*];done)),(by first|rfl|(simp;done)|(simp [*];done)),H',⟨Nat.le_refl _⟩,⟨by first|exact Kd.R_nil _ _ _ _ _|exact Kd.N_nil _ _ _ _ _|exact Kd.V_nil _ _ _ _ _|exact Kd.Q_nil _ _ _ _ _|exact Kd.S_nil _ _ _ _ _⟩,⟨by repeat (first|(with_reducible first|exact HI0.out|apply IsS58.alloc|apply IsS58.drewN|apply IsS58.drew|apply IsS58.set_1)|exact HI0.out)⟩,⟨by repeat (first|(with_reducible first|exact HK.out|apply KeepBut.set_|apply keep_drewN|apply keep_drew|apply keep_alloc)|exact HK.out)⟩,⟨by repeat (first|(with_reducible first|exact HB.out|apply ba|apply bb|apply bc|refine below_set ?_ (IsS58.ge HI0.out))|exact HB.out)⟩⟩
   case round =>
    clear H'
    try clear c1
    try clear c2
    try clear p2
    try clear c3
    try clear c13
    try clear c13b0
    try clear c13b1
    try clear p2
    obtain ⟨x7_2,x8_2,x9_2,x1001_2,rfl,rfl,HA,HK2,HO_8,HI0,HK,HB⟩:=hrel
    cases gk with
    | zero=>exact absurd HA.out (by simp [shapesearchkeep_Src_List.l0])
    | succ k2 =>
     have H:=HA.out
     clear HA
     simp only [shapesearchkeep_Src_List.l0] at H
     by_cases c16 : x9_2 < a1
     ·
      rw [if_pos c16] at H
      have c16b0 : decide (x9_2 < a1) = true:=decide_eq_true c16
      clear c16
      have HC17:=A_ H
      clear H
      go_upto_if 32 with (fail)
      go_cut [32] (fun v32 wc=>∃ (kq : Nat) (x32_16 : Bool),v32 = .bool x32_16∧Aside0 (shapesearchkeep_Src_List.j2 kq a1 t112 t117 x7_2 x8_2 x9_2 t112 x32_16 s0_0 x1001_2 = some (r1,r2))∧Aside0 (kq ≤ k2)∧Aside0 (Kd.R (Kd.int .i64) 3 wc w.heap.size (fun _=>True) u8 x8_2)∧Aside0 (IsS58 w0 wc g s0_0 x1001_2)∧Aside0 (KeepBut w wc g none)∧Aside0 (Below w0.heap.size w0 wc))
      case first =>
       have H:=HC17.out
       clear HC17
       by_cases c18 : t112 = 0
       ·
        rw [if_pos c18] at H
        have c18b0 : (t112 == 0) = true:=beq_iff_eq.mpr c18
        have c18b1 : (t112 != 0) = false:=bne_eq_false_iff_eq.mpr c18
        clear c18
        (first|rw [c18b0]|(simp only [i64_w,i32_w];rw [c18b0])|skip)
        have H':=A_ H
        clear H
        go_wp2
        go_meet
        case rel=>exact ⟨_,((t112 == 0)),(by first|rfl|(simp;done)|(simp [*];done)),H',⟨by have:=HJ5.out;have:=HK2.out;first|omega|exact Nat.le_refl _⟩,⟨by (with_reducible repeat (first|apply ra|apply rb|apply rc));exact HO_8.out⟩,⟨by repeat (first|(with_reducible first|exact HI0.out|apply IsS58.alloc|apply IsS58.drewN|apply IsS58.drew|apply IsS58.set_1)|exact HI0.out)⟩,⟨by repeat (first|(with_reducible first|exact HK.out|apply KeepBut.set_|apply keep_drewN|apply keep_drew|apply keep_alloc)|exact HK.out)⟩,⟨by repeat (first|(with_reducible first|exact HB.out|apply ba|apply bb|apply bc|refine below_set ?_ (IsS58.ge HI0.out))|exact HB.out)⟩⟩
       ·
        rw [if_neg c18] at H
        have c18b0 : (t112 == 0) = false:=beq_eq_false_iff_ne.mpr c18
        have c18b1 : (t112 != 0) = true:=bne_iff_ne.mpr c18
        (first|rw [c18b0]|(simp only [i64_w,i32_w];rw [c18b0])|skip)
        have H':=A_ H
        clear H
        go_wp2
        go_meet
        case rel=>exact ⟨_,((t112 == 1)),(by first|rfl|(simp;done)|(simp [*];done)),H',⟨by have:=HJ5.out;have:=HK2.out;first|omega|exact Nat.le_refl _⟩,⟨by (with_reducible repeat (first|apply ra|apply rb|apply rc));exact HO_8.out⟩,⟨by repeat (first|(with_reducible first|exact HI0.out|apply IsS58.alloc|apply IsS58.drewN|apply IsS58.drew|apply IsS58.set_1)|exact HI0.out)⟩,⟨by repeat (first|(with_reducible first|exact HK.out|apply KeepBut.set_|apply keep_drewN|apply keep_drew|apply keep_alloc)|exact HK.out)⟩,⟨by repeat (first|(with_reducible first|exact HB.out|apply ba|apply bb|apply bc|refine below_set ?_ (IsS58.ge HI0.out))|exact HB.out)⟩⟩
      case rest =>
       clear HC17
       try clear c1
       try clear c2
       try clear p2
       try clear c3
       try clear c13
       try clear c13b0
       try clear c13b1
       try clear c16
       try clear c16b0
       try clear c18
       try clear c18b0
       try clear c18b1
       try clear p2
       obtain ⟨kq,x32_16,rfl,HA,HJ16,HO_8,HI0,HK,HB⟩:=hcut
       cases kq with
       | zero=>exact absurd HA.out (by simp [shapesearchkeep_Src_List.j2])
       | succ kj16 =>
        have H:=HA.out
        clear HA
        simp only [shapesearchkeep_Src_List.j2] at H
        by_cases c19 : x32_16 = true
        ·
         subst c19
         have H1 : ((shapesearchkeep_Src_Range.f s0_0 x1001_2 (wrap64 (-t117)) t117).bind fun bt123=>(if x8_2.length < 17592186044416 then (shapesearchkeep_Src_List.l0 kj16 a1 t112 t117 x7_2 (x8_2 ++ [bt123.1]) (wrap64 (x9_2 + 1)) s0_0 bt123.2) else (none))) = some (r1,r2):=by rw [if_pos rfl] at H;exact H
         clear H
         have H:=H1
         clear H1
         replace H:=Option.bind_eq_some_iff.mp H
         obtain ⟨⟨t123,t124⟩,A200,H⟩:=H
         replace H : (if x8_2.length < 17592186044416 then (shapesearchkeep_Src_List.l0 kj16 a1 t112 t117 x7_2 (x8_2 ++ [t123]) (wrap64 (x9_2 + 1)) s0_0 t124) else (none)) = some (r1,r2):=H
         have A20:=A_ A200
         clear A200
         by_cases c21 : x8_2.length < 17592186044416
         ·
          rw [if_pos c21] at H
          have LMc21:=A_ c21
          clear c21
          obtain ⟨y125,hy125⟩ : ∃ y_ : List Int,y_ = (x8_2 ++ [t123]):=⟨_,rfl⟩
          replace H : (shapesearchkeep_Src_List.l0 kj16 a1 t112 t117 x7_2 y125 (wrap64 (x9_2 + 1)) s0_0 t124) = some (r1,r2):=by first|(rw [hy125];with_reducible exact H)|(have H2_:=(Option.bind_some _ _).symm.trans H;rw [hy125];with_reducible exact H2_)|(have H2_:=(Option.bind_some _ _).symm.trans H;with_reducible exact H2_)|with_reducible exact H|(rw [hy125];exact H)|exact H
          have Ny125:=A_ hy125
          clear hy125
          have H':=A_ H
          clear H
          go_wp2_with (first|((with_reducible refine gate_callee (f:=20) rfl ?_);refine goesL_ (some 40) rfl rfl Try.func20 (by kernel_rfl) rfl #[.pointer (some ⟨g,0,none⟩),.int .i64 (wrap64 (-t117)),.int .i64 t117] rfl (by (try simp only [List.map_toArray,List.map_cons,List.map_nil]);first|done|rfl|(simp only [List.length_drop,List.length_take];rfl)) ?_;(with_reducible refine (shapesearchkeep_Src_Range.calls g s0_0 x1001_2 (wrap64 (-t117)) t117 t123 t124 w0 _ ?side1 ?side2 A20.out).mono ?_);(case side1=>repeat (first|(with_reducible first|exact HI0.out|apply IsS58.alloc|apply IsS58.drewN|apply IsS58.drew|apply IsS58.set_1)|exact HI0.out));(case side2=>repeat (first|(with_reducible first|exact HB.out|apply ba|apply bb|apply bc|refine below_set ?_ (IsS58.ge HI0.out))|exact HB.out));rintro e w22 ⟨rfl,hi,hb,hk⟩;refine ⟨_,rfl,?_⟩;have n0_:=A_ (rm (Kd.R_keep (IsS58.apart (show IsS58 w0 _ g s0_0 x1001_2 from by repeat (first|(with_reducible first|exact HI0.out|apply IsS58.alloc|apply IsS58.drewN|apply IsS58.drew|apply IsS58.set_1)|exact HI0.out)) (by (with_reducible repeat (first|apply ra|apply rb|apply rc));exact HO_8.out) (by decide)) hk (fun _ h=>h.2)) (fun _ h=>h.1));have n1_:=A_ (KeepBut.trans (by repeat (first|(with_reducible first|exact HK.out|apply KeepBut.set_|apply keep_drewN|apply keep_drew|apply keep_alloc)|exact HK.out)) hk (.inl rfl));have n2_:=A_ (hb);have n3_:=A_ (hi);clear HO_8;clear HK;clear HB;clear HI0;have HO_8:=n0_;have HK:=n1_;have HB:=n2_;have HI0:=n3_;clear n0_ n1_ n2_ n3_;(try clear hb);(try clear hb2);(try clear hk);(try clear hi))|((with_reducible refine gate_builtin (b:=.append) (xs:=#[.tmp 35,.tmp 41]) rfl ?_);at_builtin;refine Kd.R_append (Kd.int .i64) w.heap.size rfl (.tmp 35) (.tmp 41) 22 3 (.int .i64 0) 8 rfl Try.underlying22 info3 rfl (by decide) (by omega) u8 x8_2 t123 [.int .i64 t123] (fun _=>True) (fun _=>False) rfl rfl ?aP (fun _ hk=>hk.elim) ?aF ?aO (Below.refl _ _) ?aS ?aL ?_;(case aP=>exact rfl);(case aF=>exact (fun _ _=>trivial));(case aO=>exact (by (with_reducible repeat (first|apply ra|apply rb|apply rc));exact HO_8.out));(case aS=>exact (keep_size (w:=w) (g:=g) (row:=none) (by repeat (first|(with_reducible first|exact HK.out|apply KeepBut.set_|apply keep_drewN|apply keep_drew|apply keep_alloc)|exact HK.out))));(case aL=>have:=LMc21.out;omega);intro v126 w23 ho hb hg hat;rw [← Ny125.out] at ho;have n0_:=A_ (IsS58.grown (by repeat (first|(with_reducible first|exact HI0.out|apply IsS58.alloc|apply IsS58.drewN|apply IsS58.drew|apply IsS58.set_1)|exact HI0.out)) hg (IsS58.own_ne HI0.out HO_8.out (by decide)));have n1_:=A_ (below_weaken (by repeat (first|(with_reducible first|exact HB.out|apply ba|apply bb|apply bc|refine below_set ?_ (IsS58.ge HI0.out))|exact HB.out)) HL.out hb);have n2_:=A_ (KeepBut.trans (by repeat (first|(with_reducible first|exact HK.out|apply KeepBut.set_|apply keep_drewN|apply keep_drew|apply keep_alloc)|exact HK.out)) (KeepBut.of_grown hg g) (Kd.R_base2 HO_8.out));have n3_:=A_ (ho);clear HI0;clear HB;clear HK;clear HO_8;have HI0:=n0_;have HB:=n1_;have HK:=n2_;have HO127:=n3_;clear n0_ n1_ n2_ n3_;clear ho hb hg hat))
          go_roundg kj16
          case measure=>have:=HJ5.out;have:=HK2.out;have:=HJ16.out;omega
          case rel=>exact ⟨(x7_2),(y125),(wrap64 (x9_2 + 1)),(t124),(by first|rfl|(simp;done)|(simp [*];done)),(by first|rfl|(simp;done)|(simp [*];done)),H',⟨by have:=HJ5.out;have:=HK2.out;have:=HJ16.out;omega⟩,⟨by (with_reducible repeat (first|apply ra|apply rb|apply rc));exact HO127.out⟩,⟨by repeat (first|(with_reducible first|exact HI0.out|apply IsS58.alloc|apply IsS58.drewN|apply IsS58.drew|apply IsS58.set_1)|exact HI0.out)⟩,⟨by repeat (first|(with_reducible first|exact HK.out|apply KeepBut.set_|apply keep_drewN|apply keep_drew|apply keep_alloc)|exact HK.out)⟩,⟨by repeat (first|(with_reducible first|exact HB.out|apply ba|apply bb|apply bc|refine below_set ?_ (IsS58.ge HI0.out))|exact HB.out)⟩⟩
         ·
          rw [if_neg c21] at H
          exact absurd H (by simp)
        ·
         replace c19:=Bool.eq_false_iff.mpr c19
         subst c19
         have H1 : (if t112 = 2 then (shapesearchkeep_Src_List.j3 kj16 a1 t112 t117 x7_2 x8_2 x9_2 t112 (t112 == 2) s0_0 x1001_2) else (shapesearchkeep_Src_List.j3 kj16 a1 t112 t117 x7_2 x8_2 x9_2 t112 (t112 == 3) s0_0 x1001_2)) = some (r1,r2):=by rw [if_neg (show ¬ (false = true) by decide)] at H;exact H
         clear H
         have H:=H1
         clear H1
         have HC24:=A_ H
         clear H
         go_upto_if 43 with (fail)
         go_cut [43] (fun v43 wc=>∃ (kq : Nat) (x43_23 : Bool),v43 = .bool x43_23∧Aside0 (shapesearchkeep_Src_List.j3 kq a1 t112 t117 x7_2 x8_2 x9_2 t112 x43_23 s0_0 x1001_2 = some (r1,r2))∧Aside0 (kq ≤ kj16)∧Aside0 (Kd.R (Kd.int .i64) 3 wc w.heap.size (fun _=>True) u8 x8_2)∧Aside0 (IsS58 w0 wc g s0_0 x1001_2)∧Aside0 (KeepBut w wc g none)∧Aside0 (Below w0.heap.size w0 wc))
         case first =>
          have H:=HC24.out
          clear HC24
          by_cases c25 : t112 = 2
          ·
           rw [if_pos c25] at H
           have c25b0 : (t112 == 2) = true:=beq_iff_eq.mpr c25
           have c25b1 : (t112 != 2) = false:=bne_eq_false_iff_eq.mpr c25
           clear c25
           (first|rw [c25b0]|(simp only [i64_w,i32_w];rw [c25b0])|skip)
           have H':=A_ H
           clear H
           go_wp2
           go_meet
           case rel=>exact ⟨_,((t112 == 2)),(by first|rfl|(simp;done)|(simp [*];done)),H',⟨by have:=HJ5.out;have:=HK2.out;have:=HJ16.out;first|omega|exact Nat.le_refl _⟩,⟨by (with_reducible repeat (first|apply ra|apply rb|apply rc));exact HO_8.out⟩,⟨by repeat (first|(with_reducible first|exact HI0.out|apply IsS58.alloc|apply IsS58.drewN|apply IsS58.drew|apply IsS58.set_1)|exact HI0.out)⟩,⟨by repeat (first|(with_reducible first|exact HK.out|apply KeepBut.set_|apply keep_drewN|apply keep_drew|apply keep_alloc)|exact HK.out)⟩,⟨by repeat (first|(with_reducible first|exact HB.out|apply ba|apply bb|apply bc|refine below_set ?_ (IsS58.ge HI0.out))|exact HB.out)⟩⟩
          ·
           rw [if_neg c25] at H
           have c25b0 : (t112 == 2) = false:=beq_eq_false_iff_ne.mpr c25
           have c25b1 : (t112 != 2) = true:=bne_iff_ne.mpr c25
           (first|rw [c25b0]|(simp only [i64_w,i32_w];rw [c25b0])|skip)
           have H':=A_ H
           clear H
           go_wp2
           go_meet
           case rel=>exact ⟨_,((t112 == 3)),(by first|rfl|(simp;done)|(simp [*];done)),H',⟨by have:=HJ5.out;have:=HK2.out;have:=HJ16.out;first|omega|exact Nat.le_refl _⟩,⟨by (with_reducible repeat (first|apply ra|apply rb|apply rc));exact HO_8.out⟩,⟨by repeat (first|(with_reducible first|exact HI0.out|apply IsS58.alloc|apply IsS58.drewN|apply IsS58.drew|apply IsS58.set_1)|exact HI0.out)⟩,⟨by repeat (first|(with_reducible first|exact HK.out|apply KeepBut.set_|apply keep_drewN|apply keep_drew|apply keep_alloc)|exact HK.out)⟩,⟨by repeat (first|(with_reducible first|exact HB.out|apply ba|apply bb|apply bc|refine below_set ?_ (IsS58.ge HI0.out))|exact HB.out)⟩⟩
         case rest =>
          clear HC24
          try clear c1
          try clear c2
          try clear p2
          try clear c3
          try clear p6
          try clear c13
          try clear c13b0
          try clear c13b1
          try clear c16
          try clear c16b0
          try clear c18
          try clear c18b0
          try clear c18b1
          try clear c19
          try clear c20
          try clear c21
          try clear c23
          try clear c25
          try clear c25b0
          try clear c25b1
          try clear p2
          obtain ⟨kq,x43_23,rfl,HA,HJ23,HO_8,HI0,HK,HB⟩:=hcut
          cases kq with
          | zero=>exact absurd HA.out (by simp [shapesearchkeep_Src_List.j3])
          | succ kj23 =>
           have H:=HA.out
           clear HA
           simp only [shapesearchkeep_Src_List.j3] at H
           by_cases c26 : x43_23 = true
           ·
            subst c26
            have H1 : ((shapesearchkeep_Src_Range.f s0_0 x1001_2 (wrap64 (-t117)) t117).bind fun bt128=>((shapesearchkeep_clip.f (wrap64 (x7_2 + bt128.1))).bind fun t130=>(if x8_2.length < 17592186044416 then (shapesearchkeep_Src_List.l0 kj23 a1 t112 t117 t130 (x8_2 ++ [t130]) (wrap64 (x9_2 + 1)) s0_0 bt128.2) else (none)))) = some (r1,r2):=by rw [if_pos rfl] at H;exact H
            clear H
            have H:=H1
            clear H1
            replace H:=Option.bind_eq_some_iff.mp H
            obtain ⟨⟨t128,t129⟩,A270,H⟩:=H
            replace H : ((shapesearchkeep_clip.f (wrap64 (x7_2 + t128))).bind fun t130=>(if x8_2.length < 17592186044416 then (shapesearchkeep_Src_List.l0 kj23 a1 t112 t117 t130 (x8_2 ++ [t130]) (wrap64 (x9_2 + 1)) s0_0 t129) else (none))) = some (r1,r2):=H
            have A27:=A_ A270
            clear A270
            replace H:=Option.bind_eq_some_iff.mp H
            obtain ⟨t130,A280,H⟩:=H
            replace H : (if x8_2.length < 17592186044416 then (shapesearchkeep_Src_List.l0 kj23 a1 t112 t117 t130 (x8_2 ++ [t130]) (wrap64 (x9_2 + 1)) s0_0 t129) else (none)) = some (r1,r2):=H
            have A28:=A_ A280
            clear A280
            by_cases c29 : x8_2.length < 17592186044416
            ·
             rw [if_pos c29] at H
             have LMc29:=A_ c29
             clear c29
             obtain ⟨y131,hy131⟩ : ∃ y_ : List Int,y_ = (x8_2 ++ [t130]):=⟨_,rfl⟩
             replace H : (shapesearchkeep_Src_List.l0 kj23 a1 t112 t117 t130 y131 (wrap64 (x9_2 + 1)) s0_0 t129) = some (r1,r2):=by first|(rw [hy131];with_reducible exact H)|(have H2_:=(Option.bind_some _ _).symm.trans H;rw [hy131];with_reducible exact H2_)|(have H2_:=(Option.bind_some _ _).symm.trans H;with_reducible exact H2_)|with_reducible exact H|(rw [hy131];exact H)|exact H
             have Ny131:=A_ hy131
             clear hy131
             have H':=A_ H
             clear H
             go_wp2_with (first|((with_reducible refine gate_callee (f:=20) rfl ?_);refine goesL_ (some 51) rfl rfl Try.func20 (by kernel_rfl) rfl #[.pointer (some ⟨g,0,none⟩),.int .i64 (wrap64 (-t117)),.int .i64 t117] rfl (by (try simp only [List.map_toArray,List.map_cons,List.map_nil]);first|done|rfl|(simp only [List.length_drop,List.length_take];rfl)) ?_;(with_reducible refine (shapesearchkeep_Src_Range.calls g s0_0 x1001_2 (wrap64 (-t117)) t117 t128 t129 w0 _ ?side1 ?side2 A27.out).mono ?_);(case side1=>repeat (first|(with_reducible first|exact HI0.out|apply IsS58.alloc|apply IsS58.drewN|apply IsS58.drew|apply IsS58.set_1)|exact HI0.out));(case side2=>repeat (first|(with_reducible first|exact HB.out|apply ba|apply bb|apply bc|refine below_set ?_ (IsS58.ge HI0.out))|exact HB.out));rintro e w30 ⟨rfl,hi,hb,hk⟩;refine ⟨_,rfl,?_⟩;have n0_:=A_ (rm (Kd.R_keep (IsS58.apart (show IsS58 w0 _ g s0_0 x1001_2 from by repeat (first|(with_reducible first|exact HI0.out|apply IsS58.alloc|apply IsS58.drewN|apply IsS58.drew|apply IsS58.set_1)|exact HI0.out)) (by (with_reducible repeat (first|apply ra|apply rb|apply rc));exact HO_8.out) (by decide)) hk (fun _ h=>h.2)) (fun _ h=>h.1));have n1_:=A_ (KeepBut.trans (by repeat (first|(with_reducible first|exact HK.out|apply KeepBut.set_|apply keep_drewN|apply keep_drew|apply keep_alloc)|exact HK.out)) hk (.inl rfl));have n2_:=A_ (hb);have n3_:=A_ (hi);clear HO_8;clear HK;clear HB;clear HI0;have HO_8:=n0_;have HK:=n1_;have HB:=n2_;have HI0:=n3_;clear n0_ n1_ n2_ n3_;(try clear hb);(try clear hb2);(try clear hk);(try clear hi))|((with_reducible refine gate_callee (f:=39) rfl ?_);refine goesL_ (some 53) rfl rfl Try.func39 (by kernel_rfl) rfl #[.int .i64 (wrap64 (x7_2 + t128))] rfl (by (try simp only [List.map_toArray,List.map_cons,List.map_nil]);first|done|rfl|(simp only [List.length_drop,List.length_take];rfl)) ?_;(with_reducible refine (shapesearchkeep_clip.calls (wrap64 (x7_2 + t128)) t130 _ A28.out).mono ?_);rintro e w31 ⟨rfl,hb⟩;refine ⟨_,rfl,?_⟩;have n0_:=A_ (rw_ (by (with_reducible repeat (first|apply ra|apply rb|apply rc));exact HO_8.out) hb);have n1_:=A_ (IsS58.below (by repeat (first|(with_reducible first|exact HI0.out|apply IsS58.alloc|apply IsS58.drewN|apply IsS58.drew|apply IsS58.set_1)|exact HI0.out)) hb);have n2_:=A_ (KeepBut.trans (by repeat (first|(with_reducible first|exact HK.out|apply KeepBut.set_|apply keep_drewN|apply keep_drew|apply keep_alloc)|exact HK.out)) (KeepBut.of_below hb g none) (.inl rfl));have n3_:=A_ (below_step (by repeat (first|(with_reducible first|exact HB.out|apply ba|apply bb|apply bc|refine below_set ?_ (IsS58.ge HI0.out))|exact HB.out)) hb);clear HO_8;clear HI0;clear HK;clear HB;have HO_8:=n0_;have HI0:=n1_;have HK:=n2_;have HB:=n3_;clear n0_ n1_ n2_ n3_;(try clear hb);(try clear hb2);(try clear hk);(try clear hi))|((with_reducible refine gate_builtin (b:=.append) (xs:=#[.tmp 54,.tmp 56]) rfl ?_);at_builtin;refine Kd.R_append (Kd.int .i64) w.heap.size rfl (.tmp 54) (.tmp 56) 22 3 (.int .i64 0) 8 rfl Try.underlying22 info3 rfl (by decide) (by omega) u8 x8_2 t130 [.int .i64 t130] (fun _=>True) (fun _=>False) rfl rfl ?aP (fun _ hk=>hk.elim) ?aF ?aO (Below.refl _ _) ?aS ?aL ?_;(case aP=>exact rfl);(case aF=>exact (fun _ _=>trivial));(case aO=>exact (by (with_reducible repeat (first|apply ra|apply rb|apply rc));exact HO_8.out));(case aS=>exact (keep_size (w:=w) (g:=g) (row:=none) (by repeat (first|(with_reducible first|exact HK.out|apply KeepBut.set_|apply keep_drewN|apply keep_drew|apply keep_alloc)|exact HK.out))));(case aL=>have:=LMc29.out;omega);intro v132 w32 ho hb hg hat;rw [← Ny131.out] at ho;have n0_:=A_ (IsS58.grown (by repeat (first|(with_reducible first|exact HI0.out|apply IsS58.alloc|apply IsS58.drewN|apply IsS58.drew|apply IsS58.set_1)|exact HI0.out)) hg (IsS58.own_ne HI0.out HO_8.out (by decide)));have n1_:=A_ (below_weaken (by repeat (first|(with_reducible first|exact HB.out|apply ba|apply bb|apply bc|refine below_set ?_ (IsS58.ge HI0.out))|exact HB.out)) HL.out hb);have n2_:=A_ (KeepBut.trans (by repeat (first|(with_reducible first|exact HK.out|apply KeepBut.set_|apply keep_drewN|apply keep_drew|apply keep_alloc)|exact HK.out)) (KeepBut.of_grown hg g) (Kd.R_base2 HO_8.out));have n3_:=A_ (ho);clear HI0;clear HB;clear HK;clear HO_8;have HI0:=n0_;have HB:=n1_;have HK:=n2_;have HO133:=n3_;clear n0_ n1_ n2_ n3_;clear ho hb hg hat))
             go_roundg kj23
             case measure=>have:=HJ5.out;have:=HK2.out;have:=HJ16.out;have:=HJ23.out;omega
             case rel=>exact ⟨(t130),(y131),(wrap64 (x9_2 + 1)),(t129),(by first|rfl|(simp;done)|(simp [*];done)),(by first|rfl|(simp;done)|(simp [*];done)),H',⟨by have:=HJ5.out;have:=HK2.out;have:=HJ16.out;have:=HJ23.out;omega⟩,⟨by (with_reducible repeat (first|apply ra|apply rb|apply rc));exact HO133.out⟩,⟨by repeat (first|(with_reducible first|exact HI0.out|apply IsS58.alloc|apply IsS58.drewN|apply IsS58.drew|apply IsS58.set_1)|exact HI0.out)⟩,⟨by repeat (first|(with_reducible first|exact HK.out|apply KeepBut.set_|apply keep_drewN|apply keep_drew|apply keep_alloc)|exact HK.out)⟩,⟨by repeat (first|(with_reducible first|exact HB.out|apply ba|apply bb|apply bc|refine below_set ?_ (IsS58.ge HI0.out))|exact HB.out)⟩⟩
            ·
             rw [if_neg c29] at H
             exact absurd H (by simp)
           ·
            replace c26:=Bool.eq_false_iff.mpr c26
            subst c26
            have H1 : (if t112 = 4 then ((shapesearchkeep_Src_N.f s0_0 x1001_2 4).bind fun bt134=>(if bt134.1 = 0 then ((shapesearchkeep_Src_Range.f s0_0 bt134.2 (wrap64 (-t117)) t117).bind fun bt136=>(if x8_2.length < 17592186044416 then (shapesearchkeep_Src_List.l0 kj23 a1 t112 t117 bt136.1 (x8_2 ++ [bt136.1]) (wrap64 (x9_2 + 1)) s0_0 bt136.2) else (none))) else (if x8_2.length < 17592186044416 then (shapesearchkeep_Src_List.l0 kj23 a1 t112 t117 x7_2 (x8_2 ++ [x7_2]) (wrap64 (x9_2 + 1)) s0_0 bt134.2) else (none)))) else ((shapesearchkeep_Src_Pick.f s0_0 x1001_2 (([(-1000),1000,1000,0] : List Int))).bind fun bt147=>(if x8_2.length < 17592186044416 then (shapesearchkeep_Src_List.l0 kj23 a1 t112 t117 x7_2 (x8_2 ++ [bt147.1]) (wrap64 (x9_2 + 1)) s0_0 bt147.2) else (none)))) = some (r1,r2):=by rw [if_neg (show ¬ (false = true) by decide)] at H;exact H
            clear H
            have H:=H1
            clear H1
            by_cases c33 : t112 = 4
            ·
             rw [if_pos c33] at H
             have c33b0 : (t112 == 4) = true:=beq_iff_eq.mpr c33
             have c33b1 : (t112 != 4) = false:=bne_eq_false_iff_eq.mpr c33
             clear c33
             replace H:=Option.bind_eq_some_iff.mp H
             obtain ⟨⟨t134,t135⟩,A340,H⟩:=H
             replace H : (if t134 = 0 then ((shapesearchkeep_Src_Range.f s0_0 t135 (wrap64 (-t117)) t117).bind fun bt136=>(if x8_2.length < 17592186044416 then (shapesearchkeep_Src_List.l0 kj23 a1 t112 t117 bt136.1 (x8_2 ++ [bt136.1]) (wrap64 (x9_2 + 1)) s0_0 bt136.2) else (none))) else (if x8_2.length < 17592186044416 then (shapesearchkeep_Src_List.l0 kj23 a1 t112 t117 x7_2 (x8_2 ++ [x7_2]) (wrap64 (x9_2 + 1)) s0_0 t135) else (none))) = some (r1,r2):=H
             have A34:=A_ A340
             clear A340
             by_cases c35 : t134 = 0
             ·
              rw [if_pos c35] at H
              have c35b0 : (t134 == 0) = true:=beq_iff_eq.mpr c35
              have c35b1 : (t134 != 0) = false:=bne_eq_false_iff_eq.mpr c35
              clear c35
              replace H:=Option.bind_eq_some_iff.mp H
              obtain ⟨⟨t136,t137⟩,A360,H⟩:=H
              replace H : (if x8_2.length < 17592186044416 then (shapesearchkeep_Src_List.l0 kj23 a1 t112 t117 t136 (x8_2 ++ [t136]) (wrap64 (x9_2 + 1)) s0_0 t137) else (none)) = some (r1,r2):=H
              have A36:=A_ A360
              clear A360
              by_cases c37 : x8_2.length < 17592186044416
              ·
               rw [if_pos c37] at H
               have LMc37:=A_ c37
               clear c37
               obtain ⟨y138,hy138⟩ : ∃ y_ : List Int,y_ = (x8_2 ++ [t136]):=⟨_,rfl⟩
               replace H : (shapesearchkeep_Src_List.l0 kj23 a1 t112 t117 t136 y138 (wrap64 (x9_2 + 1)) s0_0 t137) = some (r1,r2):=by first|(rw [hy138];with_reducible exact H)|(have H2_:=(Option.bind_some _ _).symm.trans H;rw [hy138];with_reducible exact H2_)|(have H2_:=(Option.bind_some _ _).symm.trans H;with_reducible exact H2_)|with_reducible exact H|(rw [hy138];exact H)|exact H
               have Ny138:=A_ hy138
               clear hy138
               have H':=A_ H
               clear H
               go_wp2_with (first|((with_reducible refine gate_callee (f:=23) rfl ?_);refine goesL_ (some 61) rfl rfl Try.func23 (by kernel_rfl) rfl #[.pointer (some ⟨g,0,none⟩),.int .i64 4] rfl (by (try simp only [List.map_toArray,List.map_cons,List.map_nil]);first|done|rfl|(simp only [List.length_drop,List.length_take];rfl)) ?_;(with_reducible refine (shapesearchkeep_Src_N.calls g s0_0 x1001_2 4 t134 t135 w0 _ ?side1 ?side2 A34.out).mono ?_);(case side1=>repeat (first|(with_reducible first|exact HI0.out|apply IsS58.alloc|apply IsS58.drewN|apply IsS58.drew|apply IsS58.set_1)|exact HI0.out));(case side2=>repeat (first|(with_reducible first|exact HB.out|apply ba|apply bb|apply bc|refine below_set ?_ (IsS58.ge HI0.out))|exact HB.out));rintro e w38 ⟨rfl,hi,hb,hk⟩;refine ⟨_,rfl,?_⟩;have n0_:=A_ (rm (Kd.R_keep (IsS58.apart (show IsS58 w0 _ g s0_0 x1001_2 from by repeat (first|(with_reducible first|exact HI0.out|apply IsS58.alloc|apply IsS58.drewN|apply IsS58.drew|apply IsS58.set_1)|exact HI0.out)) (by (with_reducible repeat (first|apply ra|apply rb|apply rc));exact HO_8.out) (by decide)) hk (fun _ h=>h.2)) (fun _ h=>h.1));have n1_:=A_ (KeepBut.trans (by repeat (first|(with_reducible first|exact HK.out|apply KeepBut.set_|apply keep_drewN|apply keep_drew|apply keep_alloc)|exact HK.out)) hk (.inl rfl));have n2_:=A_ (hb);have n3_:=A_ (hi);clear HO_8;clear HK;clear HB;clear HI0;have HO_8:=n0_;have HK:=n1_;have HB:=n2_;have HI0:=n3_;clear n0_ n1_ n2_ n3_;(try clear hb);(try clear hb2);(try clear hk);(try clear hi))|((with_reducible refine gate_callee (f:=20) rfl ?_);refine goesL_ (some 67) rfl rfl Try.func20 (by kernel_rfl) rfl #[.pointer (some ⟨g,0,none⟩),.int .i64 (wrap64 (-t117)),.int .i64 t117] rfl (by (try simp only [List.map_toArray,List.map_cons,List.map_nil]);first|done|rfl|(simp only [List.length_drop,List.length_take];rfl)) ?_;(with_reducible refine (shapesearchkeep_Src_Range.calls g s0_0 t135 (wrap64 (-t117)) t117 t136 t137 w0 _ ?side1 ?side2 A36.out).mono ?_);(case side1=>repeat (first|(with_reducible first|exact HI0.out|apply IsS58.alloc|apply IsS58.drewN|apply IsS58.drew|apply IsS58.set_1)|exact HI0.out));(case side2=>repeat (first|(with_reducible first|exact HB.out|apply ba|apply bb|apply bc|refine below_set ?_ (IsS58.ge HI0.out))|exact HB.out));rintro e w39 ⟨rfl,hi,hb,hk⟩;refine ⟨_,rfl,?_⟩;have n0_:=A_ (rm (Kd.R_keep (IsS58.apart (show IsS58 w0 _ g s0_0 t135 from by repeat (first|(with_reducible first|exact HI0.out|apply IsS58.alloc|apply IsS58.drewN|apply IsS58.drew|apply IsS58.set_1)|exact HI0.out)) (by (with_reducible repeat (first|apply ra|apply rb|apply rc));exact HO_8.out) (by decide)) hk (fun _ h=>h.2)) (fun _ h=>h.1));have n1_:=A_ (KeepBut.trans (by repeat (first|(with_reducible first|exact HK.out|apply KeepBut.set_|apply keep_drewN|apply keep_drew|apply keep_alloc)|exact HK.out)) hk (.inl rfl));have n2_:=A_ (hb);have n3_:=A_ (hi);clear HO_8;clear HK;clear HB;clear HI0;have HO_8:=n0_;have HK:=n1_;have HB:=n2_;have HI0:=n3_;clear n0_ n1_ n2_ n3_;(try clear hb);(try clear hb2);(try clear hk);(try clear hi))|((with_reducible refine gate_builtin (b:=.append) (xs:=#[.tmp 68,.tmp 70]) rfl ?_);at_builtin;refine Kd.R_append (Kd.int .i64) w.heap.size rfl (.tmp 68) (.tmp 70) 22 3 (.int .i64 0) 8 rfl Try.underlying22 info3 rfl (by decide) (by omega) u8 x8_2 t136 [.int .i64 t136] (fun _=>True) (fun _=>False) rfl rfl ?aP (fun _ hk=>hk.elim) ?aF ?aO (Below.refl _ _) ?aS ?aL ?_;(case aP=>exact rfl);(case aF=>exact (fun _ _=>trivial));(case aO=>exact (by (with_reducible repeat (first|apply ra|apply rb|apply rc));exact HO_8.out));(case aS=>exact (keep_size (w:=w) (g:=g) (row:=none) (by repeat (first|(with_reducible first|exact HK.out|apply KeepBut.set_|apply keep_drewN|apply keep_drew|apply keep_alloc)|exact HK.out))));(case aL=>have:=LMc37.out;omega);intro v139 w40 ho hb hg hat;rw [← Ny138.out] at ho;have n0_:=A_ (IsS58.grown (by repeat (first|(with_reducible first|exact HI0.out|apply IsS58.alloc|apply IsS58.drewN|apply IsS58.drew|apply IsS58.set_1)|exact HI0.out)) hg (IsS58.own_ne HI0.out HO_8.out (by decide)));have n1_:=A_ (below_weaken (by repeat (first|(with_reducible first|exact HB.out|apply ba|apply bb|apply bc|refine below_set ?_ (IsS58.ge HI0.out))|exact HB.out)) HL.out hb);have n2_:=A_ (KeepBut.trans (by repeat (first|(with_reducible first|exact HK.out|apply KeepBut.set_|apply keep_drewN|apply keep_drew|apply keep_alloc)|exact HK.out)) (KeepBut.of_grown hg g) (Kd.R_base2 HO_8.out));have n3_:=A_ (ho);clear HI0;clear HB;clear HK;clear HO_8;have HI0:=n0_;have HB:=n1_;have HK:=n2_;have HO140:=n3_;clear n0_ n1_ n2_ n3_;clear ho hb hg hat))
               go_roundg kj23
               case measure=>have:=HJ5.out;have:=HK2.out;have:=HJ16.out;have:=HJ23.out;omega
               case rel=>exact ⟨(t136),(y138),(wrap64 (x9_2 + 1)),(t137),(by first|rfl|(simp;done)|(simp [*];done)),(by first|rfl|(simp;done)|(simp [*];done)),H',⟨by have:=HJ5.out;have:=HK2.out;have:=HJ16.out;have:=HJ23.out;omega⟩,⟨by (with_reducible repeat (first|apply ra|apply rb|apply rc));exact HO140.out⟩,⟨by repeat (first|(with_reducible first|exact HI0.out|apply IsS58.alloc|apply IsS58.drewN|apply IsS58.drew|apply IsS58.set_1)|exact HI0.out)⟩,⟨by repeat (first|(with_reducible first|exact HK.out|apply KeepBut.set_|apply keep_drewN|apply keep_drew|apply keep_alloc)|exact HK.out)⟩,⟨by repeat (first|(with_reducible first|exact HB.out|apply ba|apply bb|apply bc|refine below_set ?_ (IsS58.ge HI0.out))|exact HB.out)⟩⟩
              ·
               rw [if_neg c37] at H
               exact absurd H (by simp)
             ·
              rw [if_neg c35] at H
              have c35b0 : (t134 == 0) = false:=beq_eq_false_iff_ne.mpr c35
              have c35b1 : (t134 != 0) = true:=bne_iff_ne.mpr c35
              by_cases c41 : x8_2.length < 17592186044416
              ·
               rw [if_pos c41] at H
               have LMc41:=A_ c41
               clear c41
               obtain ⟨y141,hy141⟩ : ∃ y_ : List Int,y_ = (x8_2 ++ [x7_2]):=⟨_,rfl⟩
               replace H : (shapesearchkeep_Src_List.l0 kj23 a1 t112 t117 x7_2 y141 (wrap64 (x9_2 + 1)) s0_0 t135) = some (r1,r2):=by first|(rw [hy141];with_reducible exact H)|(have H2_:=(Option.bind_some _ _).symm.trans H;rw [hy141];with_reducible exact H2_)|(have H2_:=(Option.bind_some _ _).symm.trans H;with_reducible exact H2_)|with_reducible exact H|(rw [hy141];exact H)|exact H
               have Ny141:=A_ hy141
               clear hy141
               have H':=A_ H
               clear H
               go_wp2_with (first|((with_reducible refine gate_callee (f:=23) rfl ?_);refine goesL_ (some 61) rfl rfl Try.func23 (by kernel_rfl) rfl #[.pointer (some ⟨g,0,none⟩),.int .i64 4] rfl (by (try simp only [List.map_toArray,List.map_cons,List.map_nil]);first|done|rfl|(simp only [List.length_drop,List.length_take];rfl)) ?_;(with_reducible refine (shapesearchkeep_Src_N.calls g s0_0 x1001_2 4 t134 t135 w0 _ ?side1 ?side2 A34.out).mono ?_);(case side1=>repeat (first|(with_reducible first|exact HI0.out|apply IsS58.alloc|apply IsS58.drewN|apply IsS58.drew|apply IsS58.set_1)|exact HI0.out));(case side2=>repeat (first|(with_reducible first|exact HB.out|apply ba|apply bb|apply bc|refine below_set ?_ (IsS58.ge HI0.out))|exact HB.out));rintro e w42 ⟨rfl,hi,hb,hk⟩;refine ⟨_,rfl,?_⟩;have n0_:=A_ (rm (Kd.R_keep (IsS58.apart (show IsS58 w0 _ g s0_0 x1001_2 from by repeat (first|(with_reducible first|exact HI0.out|apply IsS58.alloc|apply IsS58.drewN|apply IsS58.drew|apply IsS58.set_1)|exact HI0.out)) (by (with_reducible repeat (first|apply ra|apply rb|apply rc));exact HO_8.out) (by decide)) hk (fun _ h=>h.2)) (fun _ h=>h.1));have n1_:=A_ (KeepBut.trans (by repeat (first|(with_reducible first|exact HK.out|apply KeepBut.set_|apply keep_drewN|apply keep_drew|apply keep_alloc)|exact HK.out)) hk (.inl rfl));have n2_:=A_ (hb);have n3_:=A_ (hi);clear HO_8;clear HK;clear HB;clear HI0;have HO_8:=n0_;have HK:=n1_;have HB:=n2_;have HI0:=n3_;clear n0_ n1_ n2_ n3_;(try clear hb);(try clear hb2);(try clear hk);(try clear hi))|((with_reducible refine gate_builtin (b:=.append) (xs:=#[.tmp 68,.tmp 70]) rfl ?_);at_builtin;refine Kd.R_append (Kd.int .i64) w.heap.size rfl (.tmp 68) (.tmp 70) 22 3 (.int .i64 0) 8 rfl Try.underlying22 info3 rfl (by decide) (by omega) u8 x8_2 x7_2 [.int .i64 x7_2] (fun _=>True) (fun _=>False) rfl rfl ?aP (fun _ hk=>hk.elim) ?aF ?aO (Below.refl _ _) ?aS ?aL ?_;(case aP=>exact rfl);(case aF=>exact (fun _ _=>trivial));(case aO=>exact (by (with_reducible repeat (first|apply ra|apply rb|apply rc));exact HO_8.out));(case aS=>exact (keep_size (w:=w) (g:=g) (row:=none) (by repeat (first|(with_reducible first|exact HK.out|apply KeepBut.set_|apply keep_drewN|apply keep_drew|apply keep_alloc)|exact HK.out))));(case aL=>have:=LMc41.out;omega);intro v142 w43 ho hb hg hat;rw [← Ny141.out] at ho;have n0_:=A_ (IsS58.grown (by repeat (first|(with_reducible first|exact HI0.out|apply IsS58.alloc|apply IsS58.drewN|apply IsS58.drew|apply IsS58.set_1)|exact HI0.out)) hg (IsS58.own_ne HI0.out HO_8.out (by decide)));have n1_:=A_ (below_weaken (by repeat (first|(with_reducible first|exact HB.out|apply ba|apply bb|apply bc|refine below_set ?_ (IsS58.ge HI0.out))|exact HB.out)) HL.out hb);have n2_:=A_ (KeepBut.trans (by repeat (first|(with_reducible first|exact HK.out|apply KeepBut.set_|apply keep_drewN|apply keep_drew|apply keep_alloc)|exact HK.out)) (KeepBut.of_grown hg g) (Kd.R_base2 HO_8.out));have n3_:=A_ (ho);clear HI0;clear HB;clear HK;clear HO_8;have HI0:=n0_;have HB:=n1_;have HK:=n2_;have HO143:=n3_;clear n0_ n1_ n2_ n3_;clear ho hb hg hat))
               go_roundg kj23
               case measure=>have:=HJ5.out;have:=HK2.out;have:=HJ16.out;have:=HJ23.out;omega
               case rel=>exact ⟨(x7_2),(y141),(wrap64 (x9_2 + 1)),(t135),(by first|rfl|(simp;done)|(simp [*];done)),(by first|rfl|(simp;done)|(simp [*];done)),H',⟨by have:=HJ5.out;have:=HK2.out;have:=HJ16.out;have:=HJ23.out;omega⟩,⟨by (with_reducible repeat (first|apply ra|apply rb|apply rc));exact HO143.out⟩,⟨by repeat (first|(with_reducible first|exact HI0.out|apply IsS58.alloc|apply IsS58.drewN|apply IsS58.drew|apply IsS58.set_1)|exact HI0.out)⟩,⟨by repeat (first|(with_reducible first|exact HK.out|apply KeepBut.set_|apply keep_drewN|apply keep_drew|apply keep_alloc)|exact HK.out)⟩,⟨by repeat (first|(with_reducible first|exact HB.out|apply ba|apply bb|apply bc|refine below_set ?_ (IsS58.ge HI0.out))|exact HB.out)⟩⟩
              ·
               rw [if_neg c41] at H
               exact absurd H (by simp)
            ·
             rw [if_neg c33] at H
             have c33b0 : (t112 == 4) = false:=beq_eq_false_iff_ne.mpr c33
             have c33b1 : (t112 != 4) = true:=bne_iff_ne.mpr c33
             obtain ⟨y144,hy144⟩ : ∃ y_ : List Int,y_ = (([(-1000),1000,1000,0] : List Int)):=⟨_,rfl⟩
             replace H : ((shapesearchkeep_Src_Pick.f s0_0 x1001_2 y144).bind fun bt147=>(if x8_2.length < 17592186044416 then (shapesearchkeep_Src_List.l0 kj23 a1 t112 t117 x7_2 (x8_2 ++ [bt147.1]) (wrap64 (x9_2 + 1)) s0_0 bt147.2) else (none))) = some (r1,r2):=by first|(rw [hy144];with_reducible exact H)|(have H2_:=(Option.bind_some _ _).symm.trans H;rw [hy144];with_reducible exact H2_)|(have H2_:=(Option.bind_some _ _).symm.trans H;with_reducible exact H2_)|with_reducible exact H|(rw [hy144];exact H)|exact H
             have Ny144:=A_ hy144
             clear hy144
             replace H:=Option.bind_eq_some_iff.mp H
             obtain ⟨⟨t147,t148⟩,A440,H⟩:=H
             replace H : (if x8_2.length < 17592186044416 then (shapesearchkeep_Src_List.l0 kj23 a1 t112 t117 x7_2 (x8_2 ++ [t147]) (wrap64 (x9_2 + 1)) s0_0 t148) else (none)) = some (r1,r2):=H
             have A44:=A_ A440
             clear A440
             by_cases c45 : x8_2.length < 17592186044416
             ·
              rw [if_pos c45] at H
              have LMc45:=A_ c45
              clear c45
              obtain ⟨y149,hy149⟩ : ∃ y_ : List Int,y_ = (x8_2 ++ [t147]):=⟨_,rfl⟩
              replace H : (shapesearchkeep_Src_List.l0 kj23 a1 t112 t117 x7_2 y149 (wrap64 (x9_2 + 1)) s0_0 t148) = some (r1,r2):=by first|(rw [hy149];with_reducible exact H)|(have H2_:=(Option.bind_some _ _).symm.trans H;rw [hy149];with_reducible exact H2_)|(have H2_:=(Option.bind_some _ _).symm.trans H;with_reducible exact H2_)|with_reducible exact H|(rw [hy149];exact H)|exact H
              have Ny149:=A_ hy149
              clear hy149
              have H':=A_ H
              clear H
              go_wp2_with (first|((with_reducible refine gate_dst (N:=28) rfl ?_);refine Kd.R_lit (Kd.int .i64) _ 3 ?hg (N:=28) ?hd (xs:=([(-1000),1000,1000,0] : List Int)) (inner:=[.int .i64 (-1000),.int .i64 1000,.int .i64 1000,.int .i64 0]) (ok:=fun _=>True) (okp:=fun _=>True) ?hr ?hp (fun _ hk=>hk) trivial (Below.refl _ _) (Nat.le_refl _) (by simp) ?_;(case hd=>rfl);(case hg=>rfl);(case hr=>first|(go_simp;done)|(go_simp;rfl));(case hp=>exact (Reps.one (show Kd.M (Kd.int .i64) _ _ _ (-1000) [.int .i64 (-1000)] from rfl) (Reps.one (show Kd.M (Kd.int .i64) _ _ _ 1000 [.int .i64 1000] from rfl) (Reps.one (show Kd.M (Kd.int .i64) _ _ _ 1000 [.int .i64 1000] from rfl) (Reps.one (show Kd.M (Kd.int .i64) _ _ _ 0 [.int .i64 0] from rfl) (Reps.none _ _))))));intro v145 w46 ho47 hb hg_ hnew_;clear hg_ hnew_;(first|rw [← Ny144.out] at ho47|(simp only [Int.reduceToNat] at ho47;rw [← Ny144.out] at ho47));have n0_:=A_ (re (by (with_reducible repeat (first|apply ra|apply rb|apply rc));exact HO_8.out) (rs ho47) hb);have n1_:=A_ (Kd.R_lower (rn ho47 (rl (by (with_reducible repeat (first|apply ra|apply rb|apply rc));exact HO_8.out))) (keep_size (w:=w) (g:=g) (row:=none) (by repeat (first|(with_reducible first|exact HK.out|apply KeepBut.set_|apply keep_drewN|apply keep_drew|apply keep_alloc)|exact HK.out))));have n2_:=A_ (IsS58.below (by repeat (first|(with_reducible first|exact HI0.out|apply IsS58.alloc|apply IsS58.drewN|apply IsS58.drew|apply IsS58.set_1)|exact HI0.out)) hb);have n3_:=A_ (KeepBut.trans (by repeat (first|(with_reducible first|exact HK.out|apply KeepBut.set_|apply keep_drewN|apply keep_drew|apply keep_alloc)|exact HK.out)) (KeepBut.of_below hb g none) (.inl rfl));have n4_:=A_ (below_step (by repeat (first|(with_reducible first|exact HB.out|apply ba|apply bb|apply bc|refine below_set ?_ (IsS58.ge HI0.out))|exact HB.out)) hb);clear HO_8;clear HI0;clear HK;clear HB;have HO_8:=n0_;have HO146:=n1_;have HI0:=n2_;have HK:=n3_;have HB:=n4_;clear n0_ n1_ n2_ n3_ n4_;clear hb ho47;obtain ⟨Ao48,co48,eo48⟩:=Kd.R_slice HO146.out;subst eo48)|((with_reducible refine gate_callee (f:=38) rfl ?_);refine goesL_ (some 29) rfl rfl Try.func38 (by kernel_rfl) rfl #[.pointer (some ⟨g,0,none⟩),.slice Ao48 y144.length co48] rfl (by (try simp only [List.map_toArray,List.map_cons,List.map_nil]);first|done|rfl|(simp only [List.length_drop,List.length_take];rfl)) ?_;(with_reducible refine (shapesearchkeep_Src_Pick.calls g s0_0 x1001_2 _ _ y144 t147 t148 w0 _ ?side1 ?side2 ?side3 ?side4 ?side5 A44.out).mono ?_);(case side1=>repeat (first|(with_reducible first|exact HI0.out|apply IsS58.alloc|apply IsS58.drewN|apply IsS58.drew|apply IsS58.set_1)|exact HI0.out));(case side2=>repeat (first|(with_reducible first|exact HB.out|apply ba|apply bb|apply bc|refine below_set ?_ (IsS58.ge HI0.out))|exact HB.out));(case side3=>repeat (first|exact (rd_ HO146.out).2.2|(with_reducible refine ca ?_ _)|(with_reducible refine cb ?_ _)|(with_reducible refine cc ?_)));(case side4=>exact (rd_ HO146.out).2.1);(case side5=>exact far_slice (IsS58.own_ne HI0.out HO146.out (by decide)));rintro e w49 ⟨rfl,hi,hb,hk⟩;refine ⟨_,rfl,?_⟩;have n0_:=A_ (rm (Kd.R_keep (IsS58.apart (show IsS58 w0 _ g s0_0 x1001_2 from by repeat (first|(with_reducible first|exact HI0.out|apply IsS58.alloc|apply IsS58.drewN|apply IsS58.drew|apply IsS58.set_1)|exact HI0.out)) (by (with_reducible repeat (first|apply ra|apply rb|apply rc));exact HO_8.out) (by decide)) hk (fun _ h=>h.2)) (fun _ h=>h.1));have n1_:=A_ (rm (Kd.R_keep (IsS58.apart (show IsS58 w0 _ g s0_0 x1001_2 from by repeat (first|(with_reducible first|exact HI0.out|apply IsS58.alloc|apply IsS58.drewN|apply IsS58.drew|apply IsS58.set_1)|exact HI0.out)) (by (with_reducible repeat (first|apply ra|apply rb|apply rc));exact HO146.out) (by decide)) hk (fun _ h=>h.2)) (fun _ h=>h.1));have n2_:=A_ (KeepBut.trans (by repeat (first|(with_reducible first|exact HK.out|apply KeepBut.set_|apply keep_drewN|apply keep_drew|apply keep_alloc)|exact HK.out)) hk (.inl rfl));have n3_:=A_ (hb);have n4_:=A_ (hi);clear HO_8;clear HO146;clear HK;clear HB;clear HI0;have HO_8:=n0_;have HO146:=n1_;have HK:=n2_;have HB:=n3_;have HI0:=n4_;clear n0_ n1_ n2_ n3_ n4_;(try clear hb);(try clear hb2);(try clear hk);(try clear hi))|((with_reducible refine gate_builtin (b:=.append) (xs:=#[.tmp 26,.tmp 30]) rfl ?_);at_builtin;refine Kd.R_append (Kd.int .i64) w.heap.size rfl (.tmp 26) (.tmp 30) 22 3 (.int .i64 0) 8 rfl Try.underlying22 info3 rfl (by decide) (by omega) u8 x8_2 t147 [.int .i64 t147] (fun k_=>nb k_ (.slice Ao48 y144.length co48)) (fun _=>False) rfl rfl ?aP (fun _ hk=>hk.elim) ?aF ?aO (Below.refl _ _) ?aS ?aL ?_;(case aP=>exact rfl);(case aF=>exact (fun k_ hk=>rh (rl (by (with_reducible repeat (first|apply ra|apply rb|apply rc));exact HO146.out)) k_ hk));(case aO=>exact (by (with_reducible repeat (first|apply ra|apply rb|apply rc));exact rm HO_8.out (fun _ hk=>hk.2)));(case aS=>exact (keep_size (w:=w) (g:=g) (row:=none) (by repeat (first|(with_reducible first|exact HK.out|apply KeepBut.set_|apply keep_drewN|apply keep_drew|apply keep_alloc)|exact HK.out))));(case aL=>have:=LMc45.out;omega);intro v150 w50 ho hb hg hat;rw [← Ny149.out] at ho;have n0_:=A_ (IsS58.grown (by repeat (first|(with_reducible first|exact HI0.out|apply IsS58.alloc|apply IsS58.drewN|apply IsS58.drew|apply IsS58.set_1)|exact HI0.out)) hg (IsS58.own_ne HI0.out HO_8.out (by decide)));have n1_:=A_ (rf (ok:=(fun _=>True)) (by (with_reducible repeat (first|apply ra|apply rb|apply rc));first|exact HO146.out|exact rm HO146.out (fun _ h_=>⟨trivial,h_⟩)) hg hat);have n2_:=A_ (below_weaken (by repeat (first|(with_reducible first|exact HB.out|apply ba|apply bb|apply bc|refine below_set ?_ (IsS58.ge HI0.out))|exact HB.out)) HL.out hb);have n3_:=A_ (KeepBut.trans (by repeat (first|(with_reducible first|exact HK.out|apply KeepBut.set_|apply keep_drewN|apply keep_drew|apply keep_alloc)|exact HK.out)) (KeepBut.of_grown hg g) (Kd.R_base2 HO_8.out));have n4_:=A_ (ho);clear HI0;clear HO146;clear HB;clear HK;clear HO_8;have HI0:=n0_;have HO146:=n1_;have HB:=n2_;have HK:=n3_;have HO151:=n4_;clear n0_ n1_ n2_ n3_ n4_;clear ho hb hg hat))
              go_roundg kj23
              case measure=>have:=HJ5.out;have:=HK2.out;have:=HJ16.out;have:=HJ23.out;omega
              case rel=>exact ⟨(x7_2),(y149),(wrap64 (x9_2 + 1)),(t148),(by first|rfl|(simp;done)|(simp [*];done)),(by first|rfl|(simp;done)|(simp [*];done)),H',⟨by have:=HJ5.out;have:=HK2.out;have:=HJ16.out;have:=HJ23.out;omega⟩,⟨by (with_reducible repeat (first|apply ra|apply rb|apply rc));exact rm HO151.out (fun _ hk=>trivial)⟩,⟨by repeat (first|(with_reducible first|exact HI0.out|apply IsS58.alloc|apply IsS58.drewN|apply IsS58.drew|apply IsS58.set_1)|exact HI0.out)⟩,⟨by repeat (first|(with_reducible first|exact HK.out|apply KeepBut.set_|apply keep_drewN|apply keep_drew|apply keep_alloc)|exact HK.out)⟩,⟨by repeat (first|(with_reducible first|exact HB.out|apply ba|apply bb|apply bc|refine below_set ?_ (IsS58.ge HI0.out))|exact HB.out)⟩⟩
             ·
              rw [if_neg c45] at H
              exact absurd H (by simp)
     ·
      rw [if_neg c16] at H
      have c16b0 : decide (x9_2 < a1) = false:=decide_eq_false c16
      clear c16
      simp only [Option.some.injEq,Prod.mk.injEq] at H
      obtain ⟨rfl,rfl⟩:=H
      go_wp2
      go_ret
      exact ⟨_,by first|rfl|(simp [errW_none,errW_some] <;> rfl)|(simp [*,errW_none,errW_some] <;> rfl),by (with_reducible repeat (first|apply ra|apply rb|apply rc));exact HO_8.out,by repeat (first|(with_reducible first|exact HI0.out|apply IsS58.alloc|apply IsS58.drewN|apply IsS58.drew|apply IsS58.set_1)|exact HI0.out),by repeat (first|(with_reducible first|exact HB.out|apply ba|apply bb|apply bc|refine below_set ?_ (IsS58.ge HI0.out))|exact HB.out),by repeat (first|(with_reducible first|exact HK.out|apply KeepBut.set_|apply keep_drewN|apply keep_drew|apply keep_alloc)|exact HK.out)⟩

/-! ### shapesearchkeep_Src_Length: function 31 -/
def shapesearchkeep_Src_Length.f (s0_0 : List Int) (s0_1 : Int) : Option (Int × Int):=(shapesearchkeep_Src_N.f s0_0 s0_1 8).bind fun bt152=>(if bt152.1 = 7 then ((shapesearchkeep_Src_Range.f s0_0 bt152.2 13 32).bind fun bt154=>(some (bt154.1,bt154.2))) else ((shapesearchkeep_Src_Range.f s0_0 bt152.2 2 12).bind fun bt156=>(some (bt156.1,bt156.2))))
set_option maxHeartbeats 8000000 in
set_option maxRecDepth 100000 in
theorem shapesearchkeep_Src_Length.calls (g : Nat) (s0_0 : List Int) (s0_1 : Int) (r1 : Int) (r2 : Int) (w0 w : World) (hI : IsS58 w0 w g s0_0 s0_1) (hB : Below w0.heap.size w0 w) (h : shapesearchkeep_Src_Length.f s0_0 s0_1 = some (r1,r2)) :
  Calls Try.prog 31 #[.pointer (some ⟨g,0,none⟩)] w fun e w'=>e = .returned (.int .i64 r1)∧IsS58 w0 w' g s0_0 r2∧Below w0.heap.size w0 w'∧KeepBut w w' g none:=by
 have HI0:=A_ hI
 have HK:=A_ (KeepBut.refl w g none)
 have HL:=A_ hB.size
 clear hI
 have HW0:=A_ hB.size
 have HB:=A_ hB
 clear hB
 have H : ((shapesearchkeep_Src_N.f s0_0 s0_1 8).bind fun bt152=>(if bt152.1 = 7 then ((shapesearchkeep_Src_Range.f s0_0 bt152.2 13 32).bind fun bt154=>(some (bt154.1,bt154.2))) else ((shapesearchkeep_Src_Range.f s0_0 bt152.2 2 12).bind fun bt156=>(some (bt156.1,bt156.2))))) = some (r1,r2):=h
 clear h
 replace H:=Option.bind_eq_some_iff.mp H
 obtain ⟨⟨t152,t153⟩,A20,H⟩:=H
 replace H : (if t152 = 7 then ((shapesearchkeep_Src_Range.f s0_0 t153 13 32).bind fun bt154=>(some (bt154.1,bt154.2))) else ((shapesearchkeep_Src_Range.f s0_0 t153 2 12).bind fun bt156=>(some (bt156.1,bt156.2)))) = some (r1,r2):=H
 have A2:=A_ A20
 clear A20
 by_cases c3 : t152 = 7
 ·
  rw [if_pos c3] at H
  have c3b0 : (t152 == 7) = true:=beq_iff_eq.mpr c3
  have c3b1 : (t152 != 7) = false:=bne_eq_false_iff_eq.mpr c3
  clear c3
  replace H:=Option.bind_eq_some_iff.mp H
  obtain ⟨⟨t154,t155⟩,A40,H⟩:=H
  replace H : (some (t154,t155)) = some (r1,r2):=H
  have A4:=A_ A40
  clear A40
  simp only [Option.some.injEq,Prod.mk.injEq] at H
  obtain ⟨rfl,rfl⟩:=H
  go_enter Try.func31,Try.ntmps31
  go_wp2_with (first|((with_reducible refine gate_callee (f:=23) rfl ?_);refine goesL_ (some 4) rfl rfl Try.func23 (by kernel_rfl) rfl #[.pointer (some ⟨g,0,none⟩),.int .i64 8] rfl (by (try simp only [List.map_toArray,List.map_cons,List.map_nil]);first|done|rfl|(simp only [List.length_drop,List.length_take];rfl)) ?_;(with_reducible refine (shapesearchkeep_Src_N.calls g s0_0 s0_1 8 t152 t153 w0 _ ?side1 ?side2 A2.out).mono ?_);(case side1=>repeat (first|(with_reducible first|exact HI0.out|apply IsS58.alloc|apply IsS58.drewN|apply IsS58.drew|apply IsS58.set_1)|exact HI0.out));(case side2=>repeat (first|(with_reducible first|exact HB.out|apply ba|apply bb|apply bc|refine below_set ?_ (IsS58.ge HI0.out))|exact HB.out));rintro e w5 ⟨rfl,hi,hb,hk⟩;refine ⟨_,rfl,?_⟩;have n0_:=A_ (KeepBut.trans (by repeat (first|(with_reducible first|exact HK.out|apply KeepBut.set_|apply keep_drewN|apply keep_drew|apply keep_alloc)|exact HK.out)) hk (.inl rfl));have n1_:=A_ (hb);have n2_:=A_ (hi);clear HK;clear HB;clear HI0;have HK:=n0_;have HB:=n1_;have HI0:=n2_;clear n0_ n1_ n2_;(try clear hb);(try clear hb2);(try clear hk);(try clear hi))|((with_reducible refine gate_callee (f:=20) rfl ?_);refine goesL_ (some 7) rfl rfl Try.func20 (by kernel_rfl) rfl #[.pointer (some ⟨g,0,none⟩),.int .i64 13,.int .i64 32] rfl (by (try simp only [List.map_toArray,List.map_cons,List.map_nil]);first|done|rfl|(simp only [List.length_drop,List.length_take];rfl)) ?_;(with_reducible refine (shapesearchkeep_Src_Range.calls g s0_0 t153 13 32 t154 t155 w0 _ ?side1 ?side2 A4.out).mono ?_);(case side1=>repeat (first|(with_reducible first|exact HI0.out|apply IsS58.alloc|apply IsS58.drewN|apply IsS58.drew|apply IsS58.set_1)|exact HI0.out));(case side2=>repeat (first|(with_reducible first|exact HB.out|apply ba|apply bb|apply bc|refine below_set ?_ (IsS58.ge HI0.out))|exact HB.out));rintro e w6 ⟨rfl,hi,hb,hk⟩;refine ⟨_,rfl,?_⟩;have n0_:=A_ (KeepBut.trans (by repeat (first|(with_reducible first|exact HK.out|apply KeepBut.set_|apply keep_drewN|apply keep_drew|apply keep_alloc)|exact HK.out)) hk (.inl rfl));have n1_:=A_ (hb);have n2_:=A_ (hi);clear HK;clear HB;clear HI0;have HK:=n0_;have HB:=n1_;have HI0:=n2_;clear n0_ n1_ n2_;(try clear hb);(try clear hb2);(try clear hk);(try clear hi)))
  go_ret
  exact ⟨by first|rfl|(simp [errW_none,errW_some] <;> rfl)|(simp [*,errW_none,errW_some] <;> rfl),by repeat (first|(with_reducible first|exact HI0.out|apply IsS58.alloc|apply IsS58.drewN|apply IsS58.drew|apply IsS58.set_1)|exact HI0.out),by repeat (first|(with_reducible first|exact HB.out|apply ba|apply bb|apply bc|refine below_set ?_ (IsS58.ge HI0.out))|exact HB.out),by repeat (first|(with_reducible first|exact HK.out|apply KeepBut.set_|apply keep_drewN|apply keep_drew|apply keep_alloc)|exact HK.out)⟩
 ·
  rw [if_neg c3] at H
  have c3b0 : (t152 == 7) = false:=beq_eq_false_iff_ne.mpr c3
  have c3b1 : (t152 != 7) = true:=bne_iff_ne.mpr c3
  replace H:=Option.bind_eq_some_iff.mp H
  obtain ⟨⟨t156,t157⟩,A70,H⟩:=H
  replace H : (some (t156,t157)) = some (r1,r2):=H
  have A7:=A_ A70
  clear A70
  simp only [Option.some.injEq,Prod.mk.injEq] at H
  obtain ⟨rfl,rfl⟩:=H
  go_enter Try.func31,Try.ntmps31
  go_wp2_with (first|((with_reducible refine gate_callee (f:=23) rfl ?_);refine goesL_ (some 4) rfl rfl Try.func23 (by kernel_rfl) rfl #[.pointer (some ⟨g,0,none⟩),.int .i64 8] rfl (by (try simp only [List.map_toArray,List.map_cons,List.map_nil]);first|done|rfl|(simp only [List.length_drop,List.length_take];rfl)) ?_;(with_reducible refine (shapesearchkeep_Src_N.calls g s0_0 s0_1 8 t152 t153 w0 _ ?side1 ?side2 A2.out).mono ?_);(case side1=>repeat (first|(with_reducible first|exact HI0.out|apply IsS58.alloc|apply IsS58.drewN|apply IsS58.drew|apply IsS58.set_1)|exact HI0.out));(case side2=>repeat (first|(with_reducible first|exact HB.out|apply ba|apply bb|apply bc|refine below_set ?_ (IsS58.ge HI0.out))|exact HB.out));rintro e w8 ⟨rfl,hi,hb,hk⟩;refine ⟨_,rfl,?_⟩;have n0_:=A_ (KeepBut.trans (by repeat (first|(with_reducible first|exact HK.out|apply KeepBut.set_|apply keep_drewN|apply keep_drew|apply keep_alloc)|exact HK.out)) hk (.inl rfl));have n1_:=A_ (hb);have n2_:=A_ (hi);clear HK;clear HB;clear HI0;have HK:=n0_;have HB:=n1_;have HI0:=n2_;clear n0_ n1_ n2_;(try clear hb);(try clear hb2);(try clear hk);(try clear hi))|((with_reducible refine gate_callee (f:=20) rfl ?_);refine goesL_ (some 9) rfl rfl Try.func20 (by kernel_rfl) rfl #[.pointer (some ⟨g,0,none⟩),.int .i64 2,.int .i64 12] rfl (by (try simp only [List.map_toArray,List.map_cons,List.map_nil]);first|done|rfl|(simp only [List.length_drop,List.length_take];rfl)) ?_;(with_reducible refine (shapesearchkeep_Src_Range.calls g s0_0 t153 2 12 t156 t157 w0 _ ?side1 ?side2 A7.out).mono ?_);(case side1=>repeat (first|(with_reducible first|exact HI0.out|apply IsS58.alloc|apply IsS58.drewN|apply IsS58.drew|apply IsS58.set_1)|exact HI0.out));(case side2=>repeat (first|(with_reducible first|exact HB.out|apply ba|apply bb|apply bc|refine below_set ?_ (IsS58.ge HI0.out))|exact HB.out));rintro e w9 ⟨rfl,hi,hb,hk⟩;refine ⟨_,rfl,?_⟩;have n0_:=A_ (KeepBut.trans (by repeat (first|(with_reducible first|exact HK.out|apply KeepBut.set_|apply keep_drewN|apply keep_drew|apply keep_alloc)|exact HK.out)) hk (.inl rfl));have n1_:=A_ (hb);have n2_:=A_ (hi);clear HK;clear HB;clear HI0;have HK:=n0_;have HB:=n1_;have HI0:=n2_;clear n0_ n1_ n2_;(try clear hb);(try clear hb2);(try clear hk);(try clear hi)))
  go_ret
  exact ⟨by first|rfl|(simp [errW_none,errW_some] <;> rfl)|(simp [*,errW_none,errW_some] <;> rfl),by repeat (first|(with_reducible first|exact HI0.out|apply IsS58.alloc|apply IsS58.drewN|apply IsS58.drew|apply IsS58.set_1)|exact HI0.out),by repeat (first|(with_reducible first|exact HB.out|apply ba|apply bb|apply bc|refine below_set ?_ (IsS58.ge HI0.out))|exact HB.out),by repeat (first|(with_reducible first|exact HK.out|apply KeepBut.set_|apply keep_drewN|apply keep_drew|apply keep_alloc)|exact HK.out)⟩

end Go.Proofs.Ytmckmjpfcgmalaa.PNormalRange
