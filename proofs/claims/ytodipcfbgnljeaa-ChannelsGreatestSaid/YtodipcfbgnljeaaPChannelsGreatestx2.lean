/- This file proves, function by function, what the Go functions that one law uses compute; most of it was printed by a program (wip/tools of this session, over the kit's print). -/
import Derived.Test.YtodipcfbgnljeaaPChannelsGreatestx0
namespace Go.Proofs.Ytodipcfbgnljeaa.PChannelsGreatest
open Go.RowKit Go.Proofs.YtodipcfbgnljeaaW.PrintWords Go.Proofs.YtodipcfbgnljeaaW.PrintLast Go.Proofs.YtodipcfbgnljeaaW.PrintMore
attribute [local go_sem] max2_int min2_int max_two min_two max_three min_three max_four min_four   -- for this text's walks alone
set_option linter.unusedVariables false
set_option linter.unusedSimpArgs false

/-- A state of type 56 at block g of W; what its slices lead to came in by w0. -/
def IsS56 (w0 W : World) (g : Nat) (f0 : List Int) (f1 : Int) : Prop:=∃ A0 c0,W.heap[g]? = some (.cells #[.slice A0 f0.length c0,.int .i64 f1] 56 (0,0))∧w0.heap.size ≤ g∧Kd.C (Kd.int .i64) w0 A0 f0.length f0
theorem IsS56.grown {w0 W : World} {g : Nat} {f0 : List Int} {f1 : Int} {W1 : World} {row : Option Nat} (h : IsS56 w0 W g f0 f1) (hw : W.grownBy W1 row) (hne : some g≠row) : IsS56 w0 W1 g f0 f1:=by
 obtain ⟨A0,c0,hb,hg,hr0⟩:=h
 exact ⟨A0,c0,blk_grown hb hw hne,hg,hr0⟩
theorem IsS56.own_neN {w0 W : World} {g : Nat} {f0 : List Int} {f1 : Int} {α : Type} {d : Kd α} {e : Nat} {base : Nat} {ok : Nat → Prop} {v : Value} {xs : List α} (h : IsS56 w0 W g f0 f1) (ho : Kd.N d e W base ok v xs) (ht : e≠56) : some g≠v.ownBlock:=by
 obtain ⟨A0,c0,hb,hg,hr0⟩:=h
 exact Kd.N_ne ho hb ht
theorem IsS56.fresh {w0 W : World} {g : Nat} {f0 : List Int} {f1 : Int} (h : IsS56 w0 W g f0 f1) : ∀ k,W.heap.size ≤ k → k≠g:=by
 obtain ⟨A0,c0,hb,hg,hr0⟩:=h
 exact Kd.freshB hb
theorem IsS56.kept {w0 W : World} {g : Nat} {f0 : List Int} {f1 : Int} {W1 : World} {S : Nat → Prop} (h : IsS56 w0 W g f0 f1) (hk : Kept W W1 S) (hne : ¬ S g) : IsS56 w0 W1 g f0 f1:=by
 obtain ⟨A0,c0,hb,hg,hr0⟩:=h
 exact ⟨A0,c0,blk_kept hb hk hne,hg,hr0⟩
theorem IsS56.below {w0 W : World} {g : Nat} {f0 : List Int} {f1 : Int} {W1 : World} (h : IsS56 w0 W g f0 f1) (hw : Below W.heap.size W W1) : IsS56 w0 W1 g f0 f1:=h.grown (grown_of_below hw none) (by simp)
theorem IsS56.alloc {w0 W : World} {g : Nat} {f0 : List Int} {f1 : Int} (h : IsS56 w0 W g f0 f1) (o : Obj) : IsS56 w0 (W.alloc o) g f0 f1:=h.below (below_alloc (Below.refl _ _) o)
theorem IsS56.drewN {w0 W : World} {g : Nat} {f0 : List Int} {f1 : Int} (h : IsS56 w0 W g f0 f1) (m : Nat) : IsS56 w0 (W.drewN m) g f0 f1:=h
theorem IsS56.drew {w0 W : World} {g : Nat} {f0 : List Int} {f1 : Int} (h : IsS56 w0 W g f0 f1) : IsS56 w0 W.drew g f0 f1:=h
theorem IsS56.at_ {w0 W : World} {g : Nat} {f0 : List Int} {f1 : Int} {w' : World} {m : Nat} (hq : W.drewN m = w') (h : IsS56 w0 W g f0 f1) : IsS56 w0 w' g f0 f1:=by subst hq;exact IsS56.drewN h m
theorem IsS56.apart {w0 W : World} {g : Nat} {f0 : List Int} {f1 : Int} {α : Type} {d : Kd α} {e : Nat} {base : Nat} {ok : Nat → Prop} {v : Value} {xs : List α} (h : IsS56 w0 W g f0 f1) (ho : d.R e W base ok v xs) (ht : ∀ q,q ∈ e :: d.E → q≠56) : d.R e W base (fun k=>ok k∧k≠g) v xs:=by
 obtain ⟨A0,c0,hb,hg,hr0⟩:=h
 exact Kd.R_types ho hb ht
theorem IsS56.own_ne {w0 W : World} {g : Nat} {f0 : List Int} {f1 : Int} {α : Type} {d : Kd α} {e : Nat} {base : Nat} {ok : Nat → Prop} {v : Value} {xs : List α} (h : IsS56 w0 W g f0 f1) (ho : d.R e W base ok v xs) (ht : e≠56) : some g≠v.ownBlock:=by
 obtain ⟨A0,c0,hb,hg,hr0⟩:=h
 exact Kd.R_ne ho hb ht
theorem IsS56.apartQ {w0 W : World} {g : Nat} {f0 : List Int} {f1 : Int} {α : Type} {d : Kd α} {e : Nat} {base : Nat} {ok : Nat → Prop} {v : Value} {xs : List α} (h : IsS56 w0 W g f0 f1) (ho : d.Q e W base ok v xs) (ht : ∀ q,q ∈ e :: d.E → q≠56) : d.Q e W base (fun k=>ok k∧k≠g) v xs:=by
 obtain ⟨A0,c0,hb,hg,hr0⟩:=h
 exact Kd.Q_types ho hb ht
theorem IsS56.own_neQ {w0 W : World} {g : Nat} {f0 : List Int} {f1 : Int} {α : Type} {d : Kd α} {e : Nat} {base : Nat} {ok : Nat → Prop} {v : Value} {xs : List α} (h : IsS56 w0 W g f0 f1) (ho : d.Q e W base ok v xs) (ht : e≠56) : some g≠v.ownBlock:=by
 obtain ⟨A0,c0,hb,hg,hr0⟩:=h
 exact Kd.Q_ne ho hb ht
theorem IsS56.apartS {w0 W : World} {g : Nat} {f0 : List Int} {f1 : Int} {α : Type} {d : Kd α} {e : Nat} {base : Nat} {ok : Nat → Prop} {v : Value} {xs : List α} (h : IsS56 w0 W g f0 f1) (ho : d.S e W base ok v xs) (ht : ∀ q,q ∈ e :: d.E → q≠56) : d.S e W base (fun k=>ok k∧k≠g) v xs:=by
 obtain ⟨A0,c0,hb,hg,hr0⟩:=h
 exact Kd.S_types ho hb ht
theorem IsS56.own_neS {w0 W : World} {g : Nat} {f0 : List Int} {f1 : Int} {α : Type} {d : Kd α} {e : Nat} {base : Nat} {ok : Nat → Prop} {v : Value} {xs : List α} (h : IsS56 w0 W g f0 f1) (ho : d.S e W base ok v xs) (ht : e≠56) : some g≠v.ownBlock:=by
 obtain ⟨A0,c0,hb,hg,hr0⟩:=h
 exact Kd.S_ne ho hb ht
theorem IsS56.lt {w0 W : World} {g : Nat} {f0 : List Int} {f1 : Int} (h : IsS56 w0 W g f0 f1) : g < W.heap.size:=by
 obtain ⟨A0,c0,hb,hg,hr0⟩:=h
 exact blk_lt hb
theorem IsS56.ge {w0 W : World} {g : Nat} {f0 : List Int} {f1 : Int} (h : IsS56 w0 W g f0 f1) : w0.heap.size ≤ g:=by
 obtain ⟨A0,c0,hb,hg,hr0⟩:=h
 exact hg
theorem IsS56.ne_blk {w0 W : World} {g : Nat} {f0 : List Int} {f1 : Int} {a : Nat} {cs : Array Value} {t : TypeId} {fr : Nat × Nat} (h : IsS56 w0 W g f0 f1) (hb2 : W.heap[a]? = some (.cells cs t fr)) (ht : t≠56) : g≠a:=by
 obtain ⟨A0,c0,hb,hg,hr0⟩:=h
 rintro rfl
 rw [hb] at hb2
 injection hb2 with hb2
 injection hb2 with _ ht2
 exact ht ht2.symm
theorem IsS56.far {w0 W : World} {g : Nat} {f0 : List Int} {f1 : Int} {p : Addr} (h : IsS56 w0 W g f0 f1) (hne : g≠p.block) (u : Value) : IsS56 w0 (W.setCell p u) g f0 f1:=by
 obtain ⟨A0,c0,hb,hg,hr0⟩:=h
 exact ⟨A0,c0,blk_far hb hne u,hg,hr0⟩
theorem cellS56_0 {W : World} {g : Nat} {A0 : Option Addr} {c0 : Nat} {f0 : List Int} {f1 : Int} (h : W.heap[g]? = some (.cells #[.slice A0 f0.length c0,.int .i64 f1] 56 (0,0))) : W.cell? ⟨g,0,none⟩ = some (.slice A0 f0.length c0):=(blk_cell h 0).trans rfl
theorem cellS56_1 {W : World} {g : Nat} {A0 : Option Addr} {c0 : Nat} {f0 : List Int} {f1 : Int} (h : W.heap[g]? = some (.cells #[.slice A0 f0.length c0,.int .i64 f1] 56 (0,0))) : W.cell? ⟨g,1,none⟩ = some (.int .i64 f1):=(blk_cell h 1).trans rfl
theorem IsS56.set_1 {w0 W : World} {g : Nat} {f0 : List Int} {f1 : Int} (h : IsS56 w0 W g f0 f1) (x : Int) : IsS56 w0 (W.setCell ⟨g,1,none⟩ (.int .i64 x)) g f0 x:=by
 obtain ⟨A0,c0,hb,hg,hr0⟩:=h
 exact ⟨A0,c0,by simpa using blk_set hb 1 (.int .i64 x),hg,hr0⟩
theorem IsS56.new (w0 W : World) (A0 : Option Addr) (c0 : Nat) (f0 : List Int) (f1 : Int) (hB : Below w0.heap.size w0 W) (hr0 : Kd.C (Kd.int .i64) w0 A0 f0.length f0) : IsS56 w0 (W.alloc (.cells #[.slice A0 f0.length c0,.int .i64 f1] 56)) W.heap.size f0 f1:=⟨A0,c0,by simpa using heap_alloc_new W _,hB.size,hr0⟩

/-! ### shapesearchkeep_New: function 10 -/
def shapesearchkeep_New.f (l0 : List Int) : Option (List Int × Int):=if 0 ≤ (mn (l0.length : Int) 2000) then (if (mn (l0.length : Int) 2000) ≤ (l0.length : Int) then (some (l0.take ((mn (l0.length : Int) 2000) : Int).toNat,0)) else (none)) else (none)
set_option maxHeartbeats 8000000 in
set_option maxRecDepth 100000 in
theorem shapesearchkeep_New.calls (A0 : Option Addr) (c0 : Nat) (l0 : List Int) (r1 : List Int) (r2 : Int) (w0 w : World) (hB : Below w0.heap.size w0 w) (hr0 : Kd.C (Kd.int .i64) w0 A0 l0.length l0) (hc0 : l0.length ≤ c0) (h : shapesearchkeep_New.f l0 = some (r1,r2)) :
  Calls Try.prog 10 #[.slice A0 l0.length c0] w fun e w'=>∃ g_ : Nat,e = .returned (.pointer (some ⟨g_,0,none⟩))∧IsS56 w0 w' g_ r1 r2∧Below w0.heap.size w0 w'∧Below w.heap.size w w':=by
 have hu56:=Try.underlying56
 have HR0:=A_ hr0
 have HC0:=A_ hc0
 clear hr0 hc0
 have HBW:=A_ (Below.refl w.heap.size w)
 have HW0:=A_ hB.size
 have HB:=A_ hB
 clear hB
 have H : (if 0 ≤ (mn (l0.length : Int) 2000) then (if (mn (l0.length : Int) 2000) ≤ (l0.length : Int) then (some (l0.take ((mn (l0.length : Int) 2000) : Int).toNat,0)) else (none)) else (none)) = some (r1,r2):=h
 clear h
 obtain ⟨ji2,hji2⟩ : ∃ j_ : Int,(mn (l0.length : Int) 2000) = j_:=⟨_,rfl⟩
 replace H : (if 0 ≤ (ji2) then (if (ji2) ≤ (l0.length : Int) then (some (l0.take ((ji2) : Int).toNat,0)) else (none)) else (none)) = some (r1,r2):=by first|(rw [hji2] at H;exact H)|(simp only [hji2] at H ⊢;exact H)
 (try (have hji2h : ji2 ≤ 2000:=by (rw [← hji2];unfold mn;(repeat' split) <;> omega)))
 (try (have hji2g : ji2 ≤ 64:=by omega))
 (try (have hji2l : 0 ≤ ji2:=by (rw [← hji2];unfold mn;(repeat' split) <;> omega)))
 (try (have hji2m : 0 ≤ ji2:=by omega))
 have hji2_ : (if 2000 < (l0.length : Int) then 2000 else (l0.length : Int)) = ji2:=hji2
 by_cases c3 : 0 ≤ (ji2)
 ·
  rw [if_pos c3] at H
  have c3b0:=eq_true c3
  have c3b1 : decide (0 ≤ (ji2)) = true:=decide_eq_true c3
  clear c3
  by_cases c4 : (ji2) ≤ (l0.length : Int)
  ·
   rw [if_pos c4] at H
   have c4b0:=eq_true c4
   have c4b1 : decide ((ji2) ≤ (l0.length : Int)) = true:=decide_eq_true c4
   clear c4
   simp only [Option.some.injEq,Prod.mk.injEq] at H
   obtain ⟨rfl,rfl⟩:=H
   obtain ⟨i05,hi05,_,hsz5,_⟩:=info_parts info3
   obtain ⟨hcut5,hA5,hC5⟩:=print_take_of (P:=Try.prog) (Value.int .i64) 0 22 3 .i64 Try.underlying22 hi05 hsz5 A0 c0 l0 (ji2) (of_decide_eq_true (by first|(with_reducible assumption)|assumption)) (of_decide_eq_true (by first|(with_reducible assumption)|assumption)) HC0.out
   have HR101:=A_ (Kd.C_of_reads (h1:=fun _=>rfl) (hA5 _ (Kd.reads_of_C HR0.out)))
   have HC101:=A_ hC5
   clear hA5 hC5 hi05 hsz5
   go_enter Try.func10,Try.ntmps10
   go_wp2_with (first|((with_reducible refine gate_dst (N:=9) rfl ?_);refine box_event ?hg (N:=9) ?hd (cs:=#[.slice A0 (l0.take ((ji2) : Int).toNat).length c0,.int .i64 0]) (t:=56) ?hr ?_;(case hd=>rfl);(case hg=>rfl);(case hr=>first|(go_simp;done)|(go_simp;rfl));intro gb102 hg w6 hbox hb;have n0_:=A_ (below_step HBW.out hb);have n1_:=A_ (below_step (by repeat (first|(with_reducible first|exact HB.out|apply ba|apply bb|apply bc)|exact HB.out)) hb);have n2_:=A_ (hbox);have n3_:=A_ ((by rw [hg];exact (below_size (by repeat (first|(with_reducible first|exact HBW.out|apply ba|apply bb|apply bc)|exact HBW.out))) : w.heap.size ≤ gb102));have n4_:=A_ ((Nat.le_trans HW0.out (by rw [hg];exact (below_size (by repeat (first|(with_reducible first|exact HBW.out|apply ba|apply bb|apply bc)|exact HBW.out))) : w.heap.size ≤ gb102) : w0.heap.size ≤ gb102));clear HBW;clear HB;have HBW:=n0_;have HB:=n1_;have BK102:=n2_;have GW102:=n3_;have GE102:=n4_;clear n0_ n1_ n2_ n3_ n4_;clear hb hbox hg))
   go_ret
   exact ⟨_,rfl,(show IsS56 w0 _ gb102 (l0.take ((ji2) : Int).toNat) 0 from ⟨_,_,by (with_reducible repeat (first|refine blk_drewN ?_ _|refine blk_drew ?_|refine blk_alloc ?_ _));exact BK102.out,GE102.out,HR101.out⟩),by repeat (first|(with_reducible first|exact HB.out|apply ba|apply bb|apply bc|refine below_set ?_ GE102.out)|exact HB.out),by repeat (first|(with_reducible first|exact HBW.out|apply ba|apply bb|apply bc|refine below_set ?_ GW102.out)|exact HBW.out)⟩
  ·
   rw [if_neg c4] at H
   exact absurd H (by simp)
 ·
  rw [if_neg c3] at H
  exact absurd H (by simp)

/-! ### channels_count: function 54 -/
def channels_count.f (l0 : List (List Int)) : Option (Bool):=if (l0.length : Int) ≥ 1 then (some (decide ((l0.length : Int) ≤ 4))) else (some false)
set_option maxHeartbeats 8000000 in
set_option maxRecDepth 100000 in
theorem channels_count.calls (A0 : Option Addr) (c0 : Nat) (l0 : List (List Int)) (r : Bool) (w : World) (hr0 : Kd.C (Kd.slice 3 (Kd.int .i64)) w A0 l0.length l0) (hc0 : l0.length ≤ c0) (h : channels_count.f l0 = some r) :
  Calls Try.prog 54 #[.slice A0 l0.length c0] w fun e w'=>e = .returned (.bool r)∧Drawn0 w w':=by
 have HR0:=A_ hr0
 have HC0:=A_ hc0
 clear hr0 hc0
 have H : (if (l0.length : Int) ≥ 1 then (some (decide ((l0.length : Int) ≤ 4))) else (some false)) = some r:=h
 clear h
 by_cases c2 : (l0.length : Int) ≥ 1
 ·
  rw [if_pos c2] at H
  have c2b0 : decide (1 ≤ (l0.length : Int)) = true:=decide_eq_true c2
  have c2b1 : decide (1 ≤ l0.length) = true:=decide_eq_true (by omega)
  clear c2
  obtain rfl:=Option.some.inj H
  go_enter Try.func54,Try.ntmps54
  go_wp2
  go_ret
  exact ⟨by first|rfl|(simp;done)|(simp [*];done),by repeat (first|exact Drawn0.refl _|apply Drawn0.step)⟩
 ·
  rw [if_neg c2] at H
  have c2b0 : decide (1 ≤ (l0.length : Int)) = false:=decide_eq_false c2
  have c2b1 : decide (1 ≤ l0.length) = false:=decide_eq_false (by omega)
  clear c2
  obtain rfl:=Option.some.inj H
  go_enter Try.func54,Try.ntmps54
  go_wp2
  go_ret
  exact ⟨by first|rfl|(simp;done)|(simp [*];done),by repeat (first|exact Drawn0.refl _|apply Drawn0.step)⟩

/-! ### euclid_length: function 76 -/
def euclid_length.f (l0 : List Int) : Option (Bool):=if (l0.length : Int) ≥ 2 then (some (decide ((l0.length : Int) ≤ 32))) else (some false)
set_option maxHeartbeats 8000000 in
set_option maxRecDepth 100000 in
theorem euclid_length.calls (A0 : Option Addr) (c0 : Nat) (l0 : List Int) (r : Bool) (w : World) (hr0 : Kd.C (Kd.int .i64) w A0 l0.length l0) (hc0 : l0.length ≤ c0) (h : euclid_length.f l0 = some r) :
  Calls Try.prog 76 #[.slice A0 l0.length c0] w fun e w'=>e = .returned (.bool r)∧Drawn0 w w':=by
 have HR0:=A_ hr0
 have HC0:=A_ hc0
 clear hr0 hc0
 have H : (if (l0.length : Int) ≥ 2 then (some (decide ((l0.length : Int) ≤ 32))) else (some false)) = some r:=h
 clear h
 by_cases c2 : (l0.length : Int) ≥ 2
 ·
  rw [if_pos c2] at H
  have c2b0 : decide (2 ≤ (l0.length : Int)) = true:=decide_eq_true c2
  have c2b1 : decide (2 ≤ l0.length) = true:=decide_eq_true (by omega)
  clear c2
  obtain rfl:=Option.some.inj H
  go_enter Try.func76,Try.ntmps76
  go_wp2
  go_ret
  exact ⟨by first|rfl|(simp;done)|(simp [*];done),by repeat (first|exact Drawn0.refl _|apply Drawn0.step)⟩
 ·
  rw [if_neg c2] at H
  have c2b0 : decide (2 ≤ (l0.length : Int)) = false:=decide_eq_false c2
  have c2b1 : decide (2 ≤ l0.length) = false:=decide_eq_false (by omega)
  clear c2
  obtain rfl:=Option.some.inj H
  go_enter Try.func76,Try.ntmps76
  go_wp2
  go_ret
  exact ⟨by first|rfl|(simp;done)|(simp [*];done),by repeat (first|exact Drawn0.refl _|apply Drawn0.step)⟩

/-! ### euclid_samples: function 77 -/
def euclid_samples.l0 : Nat → List Int → Int → Int → Option (Bool)
 | 0,_,_,_=>none
 | k + 1,x5,x6,x7=>if x7 < x6 then (if 0 ≤ x7 then (if x7 < (x5.length : Int) then (if (rd x5 x7) < (-1000) then (some false) else (if (rd x5 x7) > 1000 then (some false) else (euclid_samples.l0 k x5 x6 (wrap64 (x7 + 1))))) else (none)) else (none)) else (some true)
def euclid_samples.f (k : Nat) (l0 : List Int) : Option (Bool):=euclid_samples.l0 k l0 (l0.length : Int) 0
theorem euclid_samples.mono_l : ∀ k,(∀ y0 y1 y2,LeO (euclid_samples.l0 k y0 y1 y2) (euclid_samples.l0 (k + 1) y0 y1 y2))
 | 0=>fun _ _ _ r h=>by simp [euclid_samples.l0] at h
 | k + 1=>by
  have ih0:=euclid_samples.mono_l k
  ·
   intro y0 y1 y2
   unfold euclid_samples.l0
   repeat' first
   | (with_reducible exact ih0 _ _ _)
   | (with_reducible exact LeO.refl _)
   | (with_reducible exact LeO.none _)
   | (with_reducible refine LeO.ite ?_ ?_)
   | (with_reducible refine LeO.bind ?_ (fun _=>?_))
   | exact ih0 _ _ _
   | exact LeO.none _
   | refine LeO.ite ?_ ?_
   | refine LeO.bind ?_ (fun _=>?_)
theorem euclid_samples.mono : ∀ a0 k,LeO (euclid_samples.f k a0) (euclid_samples.f (k + 1) a0):=by
 intro a0 k
 have ih0:=euclid_samples.mono_l k
 unfold euclid_samples.f
 repeat' first
   | (with_reducible exact ih0 _ _ _)
   | (with_reducible exact LeO.refl _)
   | (with_reducible exact LeO.none _)
   | (with_reducible refine LeO.ite ?_ ?_)
   | (with_reducible refine LeO.bind ?_ (fun _=>?_))
   | exact ih0 _ _ _
   | exact LeO.none _
   | refine LeO.ite ?_ ?_
   | refine LeO.bind ?_ (fun _=>?_)
set_option maxHeartbeats 8000000 in
set_option maxRecDepth 100000 in
theorem euclid_samples.calls (k : Nat) (A0 : Option Addr) (c0 : Nat) (l0 : List Int) (r : Bool) (w : World) (hr0 : Kd.C (Kd.int .i64) w A0 l0.length l0) (hc0 : l0.length ≤ c0) (h : euclid_samples.f k l0 = some r) :
  Calls Try.prog 77 #[.slice A0 l0.length c0] w fun e w'=>e = .returned (.bool r)∧Drawn0 w w':=by
 have HR0:=A_ hr0
 have HC0:=A_ hc0
 clear hr0 hc0
 have H : (euclid_samples.l0 k l0 (l0.length : Int) 0) = some r:=h
 clear h
 have H':=A_ H
 clear H
 go_enter Try.func77,Try.ntmps77
 go_wp2
 go_loopg [7] k (fun kq v7 w'=>∃ (x7_1 : Int),v7 = .int .i64 x7_1∧Aside0 (euclid_samples.l0 kq l0 (l0.length : Int) x7_1 = some r)∧Aside0 (kq ≤ k)∧Drawn0 w w')
 case atStart=>exact ⟨(0),(by first|rfl|(simp;done)|(simp [*];done)),H',⟨Nat.le_refl _⟩,by repeat (first|exact Drawn0.refl _|apply Drawn0.step)⟩
 case round =>
  clear H'
  obtain ⟨x7_1,rfl,HA,HK1,⟨m1,rfl⟩⟩:=hrel
  cases gk with
  | zero=>exact absurd HA.out (by simp [euclid_samples.l0])
  | succ k1 =>
   have H:=HA.out
   clear HA
   simp only [euclid_samples.l0] at H
   by_cases c2 : x7_1 < (l0.length : Int)
   ·
    rw [if_pos c2] at H
    have c2b0 : decide (x7_1 < (l0.length : Int)) = true:=decide_eq_true c2
    clear c2
    by_cases c3 : 0 ≤ x7_1
    ·
     rw [if_pos c3] at H
     have c3b0 : decide (0 ≤ x7_1) = true:=decide_eq_true c3
     clear c3
     by_cases c4 : x7_1 < (l0.length : Int)
     ·
      rw [if_pos c4] at H
      have c4b0 : decide (x7_1 < (l0.length : Int)) = true:=decide_eq_true c4
      clear c4
      by_cases c5 : (rd l0 x7_1) < (-1000)
      ·
       rw [if_pos c5] at H
       have c5b0 : decide ((rd l0 x7_1) < (-1000)) = true:=decide_eq_true c5
       clear c5
       obtain rfl:=Option.some.inj H
       have p103 : 0 ≤ (x7_1 : Int):=of_decide_eq_true (by first|(with_reducible assumption)|assumption)
       have q103 : x7_1 < (l0.length : Int):=of_decide_eq_true (by first|(with_reducible assumption)|assumption)
       obtain ⟨ad103,e103,hx103_0⟩:=Kd.at_int HR0.out x7_1 p103 q103
       cases e103
       replace p103:=eq_true p103
       replace q103:=eq_true q103
       go_wp2
       go_ret
       exact ⟨by first|rfl|(simp;done)|(simp [*];done),by repeat (first|exact Drawn0.refl _|apply Drawn0.step)⟩
      ·
       rw [if_neg c5] at H
       have c5b0 : decide ((rd l0 x7_1) < (-1000)) = false:=decide_eq_false c5
       clear c5
       by_cases c6 : (rd l0 x7_1) > 1000
       ·
        rw [if_pos c6] at H
        have c6b0 : decide (1000 < (rd l0 x7_1)) = true:=decide_eq_true c6
        clear c6
        obtain rfl:=Option.some.inj H
        have p103 : 0 ≤ (x7_1 : Int):=of_decide_eq_true (by first|(with_reducible assumption)|assumption)
        have q103 : x7_1 < (l0.length : Int):=of_decide_eq_true (by first|(with_reducible assumption)|assumption)
        obtain ⟨ad103,e103,hx103_0⟩:=Kd.at_int HR0.out x7_1 p103 q103
        cases e103
        replace p103:=eq_true p103
        replace q103:=eq_true q103
        go_wp2
        go_ret
        exact ⟨by first|rfl|(simp;done)|(simp [*];done),by repeat (first|exact Drawn0.refl _|apply Drawn0.step)⟩
       ·
        rw [if_neg c6] at H
        have c6b0 : decide (1000 < (rd l0 x7_1)) = false:=decide_eq_false c6
        clear c6
        have H':=A_ H
        clear H
        have p103 : 0 ≤ (x7_1 : Int):=of_decide_eq_true (by first|(with_reducible assumption)|assumption)
        have q103 : x7_1 < (l0.length : Int):=of_decide_eq_true (by first|(with_reducible assumption)|assumption)
        obtain ⟨ad103,e103,hx103_0⟩:=Kd.at_int HR0.out x7_1 p103 q103
        cases e103
        replace p103:=eq_true p103
        replace q103:=eq_true q103
        go_wp2
        go_roundg k1
        case measure=>have:=HK1.out;omega
        case rel=>exact ⟨(wrap64 (x7_1 + 1)),(by first|rfl|(simp;done)|(simp [*];done)),H',⟨by have:=HK1.out;omega⟩,by repeat (first|exact Drawn0.refl _|apply Drawn0.step)⟩
     ·
      rw [if_neg c4] at H
      exact absurd H (by simp)
    ·
     rw [if_neg c3] at H
     exact absurd H (by simp)
   ·
    rw [if_neg c2] at H
    have c2b0 : decide (x7_1 < (l0.length : Int)) = false:=decide_eq_false c2
    clear c2
    obtain rfl:=Option.some.inj H
    go_wp2
    go_ret
    exact ⟨by first|rfl|(simp;done)|(simp [*];done),by repeat (first|exact Drawn0.refl _|apply Drawn0.step)⟩

/-! ### euclid_check: function 68 -/
mutual
def euclid_check.j0 : Nat → List Int → List Int → Bool → Option (Int)
 | 0,_,_,_=>none
 | k + 1,x0,x1,x5=>if x5 = true then (some 8) else ((euclid_samples.f k x0).bind fun t106=>(if t106 = true then ((euclid_samples.f k x1).bind fun t107=>(euclid_check.j1 k x0 x1 (!t107))) else (euclid_check.j1 k x0 x1 true)))
def euclid_check.j1 : Nat → List Int → List Int → Bool → Option (Int)
 | 0,_,_,_=>none
 | k + 1,x0,x1,x14=>if x14 = true then (some 12) else (if (x0.length : Int) = (x1.length : Int) then (some 0) else (some 8))
end
def euclid_check.f (k : Nat) (l0 : List Int) (l1 : List Int) : Option (Int):=(euclid_length.f l0).bind fun t104=>(if t104 = true then ((euclid_length.f l1).bind fun t105=>(euclid_check.j0 k l0 l1 (!t105))) else (euclid_check.j0 k l0 l1 true))
theorem euclid_check.mono_l : ∀ k,(∀ y0 y1 y2,LeO (euclid_check.j0 k y0 y1 y2) (euclid_check.j0 (k + 1) y0 y1 y2))∧(∀ y0 y1 y2,LeO (euclid_check.j1 k y0 y1 y2) (euclid_check.j1 (k + 1) y0 y1 y2))
 | 0=>⟨fun _ _ _ r h=>by simp [euclid_check.j0] at h,fun _ _ _ r h=>by simp [euclid_check.j1] at h⟩
 | k + 1=>by
  obtain ⟨ih0,ih1⟩:=euclid_check.mono_l k
  refine ⟨?_,?_⟩
  ·
   intro y0 y1 y2
   unfold euclid_check.j0
   repeat' first
   | (with_reducible exact ih0 _ _ _)
   | (with_reducible exact ih1 _ _ _)
   | (with_reducible exact euclid_samples.mono _ _)
   | (with_reducible exact LeO.refl _)
   | (with_reducible exact LeO.none _)
   | (with_reducible refine LeO.ite ?_ ?_)
   | (with_reducible refine LeO.bind ?_ (fun _=>?_))
   | exact ih0 _ _ _
   | exact ih1 _ _ _
   | exact euclid_samples.mono _ _
   | exact LeO.none _
   | refine LeO.ite ?_ ?_
   | refine LeO.bind ?_ (fun _=>?_)
  ·
   intro y0 y1 y2
   unfold euclid_check.j1
   repeat' first
   | (with_reducible exact ih0 _ _ _)
   | (with_reducible exact ih1 _ _ _)
   | (with_reducible exact euclid_samples.mono _ _)
   | (with_reducible exact LeO.refl _)
   | (with_reducible exact LeO.none _)
   | (with_reducible refine LeO.ite ?_ ?_)
   | (with_reducible refine LeO.bind ?_ (fun _=>?_))
   | exact ih0 _ _ _
   | exact ih1 _ _ _
   | exact euclid_samples.mono _ _
   | exact LeO.none _
   | refine LeO.ite ?_ ?_
   | refine LeO.bind ?_ (fun _=>?_)
theorem euclid_check.mono : ∀ a0 a1 k,LeO (euclid_check.f k a0 a1) (euclid_check.f (k + 1) a0 a1):=by
 intro a0 a1 k
 obtain ⟨ih0,ih1⟩:=euclid_check.mono_l k
 unfold euclid_check.f
 repeat' first
   | (with_reducible exact ih0 _ _ _)
   | (with_reducible exact ih1 _ _ _)
   | (with_reducible exact euclid_samples.mono _ _)
   | (with_reducible exact LeO.refl _)
   | (with_reducible exact LeO.none _)
   | (with_reducible refine LeO.ite ?_ ?_)
   | (with_reducible refine LeO.bind ?_ (fun _=>?_))
   | exact ih0 _ _ _
   | exact ih1 _ _ _
   | exact euclid_samples.mono _ _
   | exact LeO.none _
   | refine LeO.ite ?_ ?_
   | refine LeO.bind ?_ (fun _=>?_)
set_option maxHeartbeats 8000000 in
set_option maxRecDepth 100000 in
theorem euclid_check.calls (k : Nat) (A0 : Option Addr) (c0 : Nat) (l0 : List Int) (A1 : Option Addr) (c1 : Nat) (l1 : List Int) (r : Int) (w : World) (hr0 : Kd.C (Kd.int .i64) w A0 l0.length l0) (hc0 : l0.length ≤ c0) (hr1 : Kd.C (Kd.int .i64) w A1 l1.length l1) (hc1 : l1.length ≤ c1) (h : euclid_check.f k l0 l1 = some r) :
  Calls Try.prog 68 #[.slice A0 l0.length c0,.slice A1 l1.length c1] w fun e w'=>e = .returned (.int .i64 r)∧Drawn0 w w':=by
 have HR0:=A_ hr0
 have HC0:=A_ hc0
 clear hr0 hc0
 have HR1:=A_ hr1
 have HC1:=A_ hc1
 clear hr1 hc1
 have H : ((euclid_length.f l0).bind fun t104=>(if t104 = true then ((euclid_length.f l1).bind fun t105=>(euclid_check.j0 k l0 l1 (!t105))) else (euclid_check.j0 k l0 l1 true))) = some r:=h
 clear h
 have HC3:=A_ H
 clear H
 go_enter Try.func68,Try.ntmps68
 go_upto_region 1 with (fail)
 go_cut [5] (fun v5 wc=>∃ (kq : Nat) (x5_2 : Bool),v5 = .bool x5_2∧Aside0 (euclid_check.j0 kq l0 l1 x5_2 = some r)∧Aside0 (kq ≤ k)∧Drawn0 w wc)
 case first =>
  have H:=HC3.out
  clear HC3
  replace H:=Option.bind_eq_some_iff.mp H
  obtain ⟨t104,A40,H⟩:=H
  replace H : (if t104 = true then ((euclid_length.f l1).bind fun t105=>(euclid_check.j0 k l0 l1 (!t105))) else (euclid_check.j0 k l0 l1 true)) = some r:=H
  have A4:=A_ A40
  clear A40
  by_cases c5 : t104 = true
  ·
   subst c5
   have H1 : ((euclid_length.f l1).bind fun t105=>(euclid_check.j0 k l0 l1 (!t105))) = some r:=by rw [if_pos rfl] at H;exact H
   clear H
   have H:=H1
   clear H1
   replace H:=Option.bind_eq_some_iff.mp H
   obtain ⟨t105,A60,H⟩:=H
   replace H : (euclid_check.j0 k l0 l1 (!t105)) = some r:=H
   have A6:=A_ A60
   clear A60
   have H':=A_ H
   clear H
   go_wp2_with (first|((with_reducible refine gate_callee (f:=76) rfl ?_);refine goesL_ (some 7) rfl rfl Try.func76 (by kernel_rfl) rfl #[.slice A0 l0.length c0] rfl (by (try simp only [List.map_toArray,List.map_cons,List.map_nil]);first|done|rfl|(simp only [List.length_drop,List.length_take];rfl)) ?_;(with_reducible refine (euclid_length.calls _ _ l0 true _ ?side1 ?side2 A4.out).mono ?_);(case side1=>repeat (first|exact HR0.out|(with_reducible refine ca ?_ _)|(with_reducible refine cb ?_ _)|(with_reducible refine cc ?_)));(case side2=>exact HC0.out);rintro e w' ⟨rfl,⟨nd,rfl⟩⟩;refine ⟨_,rfl,?_⟩)|(go_at_call 76;(with_reducible refine (euclid_length.calls _ _ l1 t105 _ ?side1 ?side2 A6.out).mono ?_);(case side1=>repeat (first|exact HR1.out|(with_reducible refine ca ?_ _)|(with_reducible refine cb ?_ _)|(with_reducible refine cc ?_)));(case side2=>exact HC1.out);rintro e w' ⟨rfl,⟨nd,rfl⟩⟩))
   go_meet
   case rel=>exact ⟨_,(!t105),(by first|rfl|(simp;done)|(simp [*];done)),H',⟨by first|omega|exact Nat.le_refl _⟩,by repeat (first|exact Drawn0.refl _|apply Drawn0.step)⟩
  ·
   replace c5:=Bool.eq_false_iff.mpr c5
   subst c5
   have H1 : (euclid_check.j0 k l0 l1 true) = some r:=by rw [if_neg (show ¬ (false = true) by decide)] at H;exact H
   clear H
   have H:=H1
   clear H1
   have H':=A_ H
   clear H
   go_wp2_with (first|((with_reducible refine gate_callee (f:=76) rfl ?_);refine goesL_ (some 7) rfl rfl Try.func76 (by kernel_rfl) rfl #[.slice A0 l0.length c0] rfl (by (try simp only [List.map_toArray,List.map_cons,List.map_nil]);first|done|rfl|(simp only [List.length_drop,List.length_take];rfl)) ?_;(with_reducible refine (euclid_length.calls _ _ l0 false _ ?side1 ?side2 A4.out).mono ?_);(case side1=>repeat (first|exact HR0.out|(with_reducible refine ca ?_ _)|(with_reducible refine cb ?_ _)|(with_reducible refine cc ?_)));(case side2=>exact HC0.out);rintro e w' ⟨rfl,⟨nd,rfl⟩⟩;refine ⟨_,rfl,?_⟩))
   go_meet
   case rel=>exact ⟨_,(true),(by first|rfl|(simp;done)|(simp [*];done)),H',⟨by first|omega|exact Nat.le_refl _⟩,by repeat (first|exact Drawn0.refl _|apply Drawn0.step)⟩
 case rest =>
  clear HC3
  try clear c1
  try clear p2
  try clear c5
  try clear c6
  obtain ⟨kq,x5_2,rfl,HA,HJ2,⟨mc2,rfl⟩⟩:=hcut
  cases kq with
  | zero=>exact absurd HA.out (by simp [euclid_check.j0])
  | succ kj2 =>
   have H:=HA.out
   clear HA
   simp only [euclid_check.j0] at H
   by_cases c7 : x5_2 = true
   ·
    subst c7
    have H1 : (some 8) = some r:=by rw [if_pos rfl] at H;exact H
    clear H
    have H:=H1
    clear H1
    obtain rfl:=Option.some.inj H
    go_wp2
    go_ret
    exact ⟨by first|rfl|(simp;done)|(simp [*];done),by repeat (first|exact Drawn0.refl _|apply Drawn0.step)⟩
   ·
    replace c7:=Bool.eq_false_iff.mpr c7
    subst c7
    have H1 : ((euclid_samples.f kj2 l0).bind fun t106=>(if t106 = true then ((euclid_samples.f kj2 l1).bind fun t107=>(euclid_check.j1 kj2 l0 l1 (!t107))) else (euclid_check.j1 kj2 l0 l1 true))) = some r:=by rw [if_neg (show ¬ (false = true) by decide)] at H;exact H
    clear H
    have H:=H1
    clear H1
    have HC8:=A_ H
    clear H
    go_upto_region 3 with (fail)
    go_cut [14] (fun v14 wc=>∃ (kq : Nat) (x14_7 : Bool),v14 = .bool x14_7∧Aside0 (euclid_check.j1 kq l0 l1 x14_7 = some r)∧Aside0 (kq ≤ kj2)∧Drawn0 w wc)
    case first =>
     have H:=HC8.out
     clear HC8
     replace H:=Option.bind_eq_some_iff.mp H
     obtain ⟨t106,A90,H⟩:=H
     replace H : (if t106 = true then ((euclid_samples.f kj2 l1).bind fun t107=>(euclid_check.j1 kj2 l0 l1 (!t107))) else (euclid_check.j1 kj2 l0 l1 true)) = some r:=H
     have A9:=A_ A90
     clear A90
     by_cases c10 : t106 = true
     ·
      subst c10
      have H1 : ((euclid_samples.f kj2 l1).bind fun t107=>(euclid_check.j1 kj2 l0 l1 (!t107))) = some r:=by rw [if_pos rfl] at H;exact H
      clear H
      have H:=H1
      clear H1
      replace H:=Option.bind_eq_some_iff.mp H
      obtain ⟨t107,A110,H⟩:=H
      replace H : (euclid_check.j1 kj2 l0 l1 (!t107)) = some r:=H
      have A11:=A_ A110
      clear A110
      have H':=A_ H
      clear H
      go_wp2_with (first|((with_reducible refine gate_callee (f:=77) rfl ?_);refine goesL_ (some 16) rfl rfl Try.func77 (by kernel_rfl) rfl #[.slice A0 l0.length c0] rfl (by (try simp only [List.map_toArray,List.map_cons,List.map_nil]);first|done|rfl|(simp only [List.length_drop,List.length_take];rfl)) ?_;(with_reducible refine (euclid_samples.calls kj2 _ _ l0 true _ ?side1 ?side2 A9.out).mono ?_);(case side1=>repeat (first|exact HR0.out|(with_reducible refine ca ?_ _)|(with_reducible refine cb ?_ _)|(with_reducible refine cc ?_)));(case side2=>exact HC0.out);rintro e w' ⟨rfl,⟨nd,rfl⟩⟩;refine ⟨_,rfl,?_⟩)|(go_at_call 77;(with_reducible refine (euclid_samples.calls kj2 _ _ l1 t107 _ ?side1 ?side2 A11.out).mono ?_);(case side1=>repeat (first|exact HR1.out|(with_reducible refine ca ?_ _)|(with_reducible refine cb ?_ _)|(with_reducible refine cc ?_)));(case side2=>exact HC1.out);rintro e w' ⟨rfl,⟨nd,rfl⟩⟩))
      go_meet
      case rel=>exact ⟨_,(!t107),(by first|rfl|(simp;done)|(simp [*];done)),H',⟨by have:=HJ2.out;first|omega|exact Nat.le_refl _⟩,by repeat (first|exact Drawn0.refl _|apply Drawn0.step)⟩
     ·
      replace c10:=Bool.eq_false_iff.mpr c10
      subst c10
      have H1 : (euclid_check.j1 kj2 l0 l1 true) = some r:=by rw [if_neg (show ¬ (false = true) by decide)] at H;exact H
      clear H
      have H:=H1
      clear H1
      have H':=A_ H
      clear H
      go_wp2_with (first|((with_reducible refine gate_callee (f:=77) rfl ?_);refine goesL_ (some 16) rfl rfl Try.func77 (by kernel_rfl) rfl #[.slice A0 l0.length c0] rfl (by (try simp only [List.map_toArray,List.map_cons,List.map_nil]);first|done|rfl|(simp only [List.length_drop,List.length_take];rfl)) ?_;(with_reducible refine (euclid_samples.calls kj2 _ _ l0 false _ ?side1 ?side2 A9.out).mono ?_);(case side1=>repeat (first|exact HR0.out|(with_reducible refine ca ?_ _)|(with_reducible refine cb ?_ _)|(with_reducible refine cc ?_)));(case side2=>exact HC0.out);rintro e w' ⟨rfl,⟨nd,rfl⟩⟩;refine ⟨_,rfl,?_⟩))
      go_meet
      case rel=>exact ⟨_,(true),(by first|rfl|(simp;done)|(simp [*];done)),H',⟨by have:=HJ2.out;first|omega|exact Nat.le_refl _⟩,by repeat (first|exact Drawn0.refl _|apply Drawn0.step)⟩
    case rest =>
     clear HC8
     try clear c1
     try clear c2
     try clear p2
     try clear c5
     try clear c6
     try clear c7
     try clear c10
     try clear p2
     obtain ⟨kq,x14_7,rfl,HA,HJ7,⟨mc7,rfl⟩⟩:=hcut
     cases kq with
     | zero=>exact absurd HA.out (by simp [euclid_check.j1])
     | succ kj7 =>
      have H:=HA.out
      clear HA
      simp only [euclid_check.j1] at H
      by_cases c12 : x14_7 = true
      ·
       subst c12
       have H1 : (some 12) = some r:=by rw [if_pos rfl] at H;exact H
       clear H
       have H:=H1
       clear H1
       obtain rfl:=Option.some.inj H
       go_wp2
       go_ret
       exact ⟨by first|rfl|(simp;done)|(simp [*];done),by repeat (first|exact Drawn0.refl _|apply Drawn0.step)⟩
      ·
       replace c12:=Bool.eq_false_iff.mpr c12
       subst c12
       have H1 : (if (l0.length : Int) = (l1.length : Int) then (some 0) else (some 8)) = some r:=by rw [if_neg (show ¬ (false = true) by decide)] at H;exact H
       clear H
       have H:=H1
       clear H1
       by_cases c13 : (l0.length : Int) = (l1.length : Int)
       ·
        rw [if_pos c13] at H
        have c13b0 : ((l0.length : Int) == (l1.length : Int)) = true:=beq_iff_eq.mpr c13
        have c13b1 : ((l0.length : Int) != (l1.length : Int)) = false:=bne_eq_false_iff_eq.mpr c13
        have c13b2 : (l0.length == l1.length) = true:=by first|simpa using c13|(simp at c13 ⊢;omega)
        clear c13
        obtain rfl:=Option.some.inj H
        go_wp2
        go_ret
        exact ⟨by first|rfl|(simp;done)|(simp [*];done),by repeat (first|exact Drawn0.refl _|apply Drawn0.step)⟩
       ·
        rw [if_neg c13] at H
        have c13b0 : ((l0.length : Int) == (l1.length : Int)) = false:=beq_eq_false_iff_ne.mpr c13
        have c13b1 : ((l0.length : Int) != (l1.length : Int)) = true:=bne_iff_ne.mpr c13
        have c13b2 : (l0.length == l1.length) = false:=by first|simpa using c13|(simp at c13 ⊢;omega)
        obtain rfl:=Option.some.inj H
        go_wp2
        go_ret
        exact ⟨by first|rfl|(simp;done)|(simp [*];done),by repeat (first|exact Drawn0.refl _|apply Drawn0.step)⟩

/-! ### euclid_square: function 69 -/
def euclid_square.l0 : Nat → List Int → Int → List Int → Int → Int → Option (Int)
 | 0,_,_,_,_,_=>none
 | k + 1,x1,x5,x8,x9,x10=>if x10 < x9 then (if 0 ≤ x10 then (if x10 < (x8.length : Int) then (if x10 < (x1.length : Int) then (euclid_square.l0 k x1 (wrap64 (x5 + (wrap64 ((wrap64 ((rd x8 x10) - (rd x1 x10))) * (wrap64 ((rd x8 x10) - (rd x1 x10))))))) x8 x9 (wrap64 (x10 + 1))) else (none)) else (none)) else (none)) else (some x5)
def euclid_square.f (k : Nat) (l0 : List Int) (l1 : List Int) : Option (Int):=euclid_square.l0 k l1 0 l0 (l0.length : Int) 0
theorem euclid_square.mono_l : ∀ k,(∀ y0 y1 y2 y3 y4,LeO (euclid_square.l0 k y0 y1 y2 y3 y4) (euclid_square.l0 (k + 1) y0 y1 y2 y3 y4))
 | 0=>fun _ _ _ _ _ r h=>by simp [euclid_square.l0] at h
 | k + 1=>by
  have ih0:=euclid_square.mono_l k
  ·
   intro y0 y1 y2 y3 y4
   unfold euclid_square.l0
   repeat' first
   | (with_reducible exact ih0 _ _ _ _ _)
   | (with_reducible exact LeO.refl _)
   | (with_reducible exact LeO.none _)
   | (with_reducible refine LeO.ite ?_ ?_)
   | (with_reducible refine LeO.bind ?_ (fun _=>?_))
   | exact ih0 _ _ _ _ _
   | exact LeO.none _
   | refine LeO.ite ?_ ?_
   | refine LeO.bind ?_ (fun _=>?_)
theorem euclid_square.mono : ∀ a0 a1 k,LeO (euclid_square.f k a0 a1) (euclid_square.f (k + 1) a0 a1):=by
 intro a0 a1 k
 have ih0:=euclid_square.mono_l k
 unfold euclid_square.f
 repeat' first
   | (with_reducible exact ih0 _ _ _ _ _)
   | (with_reducible exact LeO.refl _)
   | (with_reducible exact LeO.none _)
   | (with_reducible refine LeO.ite ?_ ?_)
   | (with_reducible refine LeO.bind ?_ (fun _=>?_))
   | exact ih0 _ _ _ _ _
   | exact LeO.none _
   | refine LeO.ite ?_ ?_
   | refine LeO.bind ?_ (fun _=>?_)
set_option maxHeartbeats 8000000 in
set_option maxRecDepth 100000 in
theorem euclid_square.calls (k : Nat) (A0 : Option Addr) (c0 : Nat) (l0 : List Int) (A1 : Option Addr) (c1 : Nat) (l1 : List Int) (r : Int) (w : World) (hr0 : Kd.C (Kd.int .i64) w A0 l0.length l0) (hc0 : l0.length ≤ c0) (hr1 : Kd.C (Kd.int .i64) w A1 l1.length l1) (hc1 : l1.length ≤ c1) (h : euclid_square.f k l0 l1 = some r) :
  Calls Try.prog 69 #[.slice A0 l0.length c0,.slice A1 l1.length c1] w fun e w'=>e = .returned (.int .i64 r)∧Drawn0 w w':=by
 have HR0:=A_ hr0
 have HC0:=A_ hc0
 clear hr0 hc0
 have HR1:=A_ hr1
 have HC1:=A_ hc1
 clear hr1 hc1
 have H : (euclid_square.l0 k l1 0 l0 (l0.length : Int) 0) = some r:=h
 clear h
 have H':=A_ H
 clear H
 go_enter Try.func69,Try.ntmps69
 go_wp2
 repeat (go_quiet (fail);try go_wp2)
 go_loopg [5,10] k (fun kq v5 v10 w'=>∃ (x5_1 : Int) (x10_1 : Int),v5 = .int .i64 x5_1∧v10 = .int .i64 x10_1∧Aside0 (euclid_square.l0 kq l1 x5_1 l0 (l0.length : Int) x10_1 = some r)∧Aside0 (kq ≤ k)∧Drawn0 w w')
 case atStart=>exact ⟨(0),(0),(by first|rfl|(simp;done)|(simp [*];done)),(by first|rfl|(simp;done)|(simp [*];done)),H',⟨Nat.le_refl _⟩,by repeat (first|exact Drawn0.refl _|apply Drawn0.step)⟩
 case round =>
  clear H'
  try clear c1
  try clear p2
  obtain ⟨x5_1,x10_1,rfl,rfl,HA,HK1,⟨m1,rfl⟩⟩:=hrel
  cases gk with
  | zero=>exact absurd HA.out (by simp [euclid_square.l0])
  | succ k1 =>
   have H:=HA.out
   clear HA
   simp only [euclid_square.l0] at H
   by_cases c3 : x10_1 < (l0.length : Int)
   ·
    rw [if_pos c3] at H
    have c3b0 : decide (x10_1 < (l0.length : Int)) = true:=decide_eq_true c3
    clear c3
    by_cases c4 : 0 ≤ x10_1
    ·
     rw [if_pos c4] at H
     have c4b0 : decide (0 ≤ x10_1) = true:=decide_eq_true c4
     clear c4
     by_cases c5 : x10_1 < (l0.length : Int)
     ·
      rw [if_pos c5] at H
      have c5b0 : decide (x10_1 < (l0.length : Int)) = true:=decide_eq_true c5
      clear c5
      by_cases c6 : x10_1 < (l1.length : Int)
      ·
       rw [if_pos c6] at H
       have c6b0 : decide (x10_1 < (l1.length : Int)) = true:=decide_eq_true c6
       clear c6
       have H':=A_ H
       clear H
       have p108 : 0 ≤ (x10_1 : Int):=of_decide_eq_true (by first|(with_reducible assumption)|assumption)
       have q108 : x10_1 < (l0.length : Int):=of_decide_eq_true (by first|(with_reducible assumption)|assumption)
       obtain ⟨ad108,e108,hx108_0⟩:=Kd.at_int HR0.out x10_1 p108 q108
       cases e108
       replace p108:=eq_true p108
       replace q108:=eq_true q108
       have p109 : 0 ≤ (x10_1 : Int):=of_decide_eq_true (by first|(with_reducible assumption)|assumption)
       have q109 : x10_1 < (l1.length : Int):=of_decide_eq_true (by first|(with_reducible assumption)|assumption)
       obtain ⟨ad109,e109,hx109_0⟩:=Kd.at_int HR1.out x10_1 p109 q109
       cases e109
       replace p109:=eq_true p109
       replace q109:=eq_true q109
       have p110 : 0 ≤ (x10_1 : Int):=of_decide_eq_true (by first|(with_reducible assumption)|assumption)
       have q110 : x10_1 < (l1.length : Int):=of_decide_eq_true (by first|(with_reducible assumption)|assumption)
       obtain ⟨ad110,e110,hx110_0⟩:=Kd.at_int HR1.out x10_1 p110 q110
       obtain rfl : ad109 = ad110:=(by injection e110)
       replace p110:=eq_true p110
       replace q110:=eq_true q110
       go_wp2
       repeat (go_quiet (fail);try go_wp2)
       go_roundg k1
       case measure=>have:=HK1.out;omega
       case rel=>exact ⟨(wrap64 (x5_1 + (wrap64 ((wrap64 ((rd l0 x10_1) - (rd l1 x10_1))) * (wrap64 ((rd l0 x10_1) - (rd l1 x10_1))))))),(wrap64 (x10_1 + 1)),(by first|rfl|(simp;done)|(simp [*];done)),(by first|rfl|(simp;done)|(simp [*];done)),H',⟨by have:=HK1.out;omega⟩,by repeat (first|exact Drawn0.refl _|apply Drawn0.step)⟩
      ·
       rw [if_neg c6] at H
       exact absurd H (by simp)
     ·
      rw [if_neg c5] at H
      exact absurd H (by simp)
    ·
     rw [if_neg c4] at H
     exact absurd H (by simp)
   ·
    rw [if_neg c3] at H
    have c3b0 : decide (x10_1 < (l0.length : Int)) = false:=decide_eq_false c3
    clear c3
    obtain rfl:=Option.some.inj H
    go_wp2
    repeat (go_quiet (fail);try go_wp2)
    go_ret
    exact ⟨by first|rfl|(simp;done)|(simp [*];done),by repeat (first|exact Drawn0.refl _|apply Drawn0.step)⟩

/-! ### euclid_Distance: function 61 -/
def euclid_Distance.f (k : Nat) (l0 : List Int) (l1 : List Int) : Option (Int × Int):=(euclid_check.f k l0 l1).bind fun t111=>(if t111 = 0 then ((euclid_square.f k l0 l1).bind fun t112=>(some (t112,0))) else (some (0,t111)))
theorem euclid_Distance.mono : ∀ a0 a1 k,LeO (euclid_Distance.f k a0 a1) (euclid_Distance.f (k + 1) a0 a1):=by
 intro a0 a1 k
 unfold euclid_Distance.f
 repeat' first
   | (with_reducible exact euclid_check.mono _ _ _)
   | (with_reducible exact euclid_square.mono _ _ _)
   | (with_reducible exact LeO.refl _)
   | (with_reducible exact LeO.none _)
   | (with_reducible refine LeO.ite ?_ ?_)
   | (with_reducible refine LeO.bind ?_ (fun _=>?_))
   | exact euclid_check.mono _ _ _
   | exact euclid_square.mono _ _ _
   | exact LeO.none _
   | refine LeO.ite ?_ ?_
   | refine LeO.bind ?_ (fun _=>?_)
set_option maxHeartbeats 8000000 in
set_option maxRecDepth 100000 in
theorem euclid_Distance.calls (k : Nat) (A0 : Option Addr) (c0 : Nat) (l0 : List Int) (A1 : Option Addr) (c1 : Nat) (l1 : List Int) (r1 : Int) (r2 : Int) (w : World) (hr0 : Kd.C (Kd.int .i64) w A0 l0.length l0) (hc0 : l0.length ≤ c0) (hr1 : Kd.C (Kd.int .i64) w A1 l1.length l1) (hc1 : l1.length ≤ c1) (h : euclid_Distance.f k l0 l1 = some (r1,r2)) :
  Calls Try.prog 61 #[.slice A0 l0.length c0,.slice A1 l1.length c1] w fun e w'=>e = .returned (.tuple #[.int .i64 r1,.int .i64 r2])∧Drawn0 w w':=by
 have HR0:=A_ hr0
 have HC0:=A_ hc0
 clear hr0 hc0
 have HR1:=A_ hr1
 have HC1:=A_ hc1
 clear hr1 hc1
 have H : ((euclid_check.f k l0 l1).bind fun t111=>(if t111 = 0 then ((euclid_square.f k l0 l1).bind fun t112=>(some (t112,0))) else (some (0,t111)))) = some (r1,r2):=h
 clear h
 replace H:=Option.bind_eq_some_iff.mp H
 obtain ⟨t111,A30,H⟩:=H
 replace H : (if t111 = 0 then ((euclid_square.f k l0 l1).bind fun t112=>(some (t112,0))) else (some (0,t111))) = some (r1,r2):=H
 have A3:=A_ A30
 clear A30
 by_cases c4 : t111 = 0
 ·
  rw [if_pos c4] at H
  have c4b0 : (t111 == 0) = true:=beq_iff_eq.mpr c4
  have c4b1 : (t111 != 0) = false:=bne_eq_false_iff_eq.mpr c4
  clear c4
  replace H:=Option.bind_eq_some_iff.mp H
  obtain ⟨t112,A50,H⟩:=H
  replace H : (some (t112,0)) = some (r1,r2):=H
  have A5:=A_ A50
  clear A50
  simp only [Option.some.injEq,Prod.mk.injEq] at H
  obtain ⟨rfl,rfl⟩:=H
  go_enter Try.func61,Try.ntmps61
  go_wp2_with (first|((with_reducible refine gate_callee (f:=68) rfl ?_);refine goesL_ (some 9) rfl rfl Try.func68 (by kernel_rfl) rfl #[.slice A0 l0.length c0,.slice A1 l1.length c1] rfl (by (try simp only [List.map_toArray,List.map_cons,List.map_nil]);first|done|rfl|(simp only [List.length_drop,List.length_take];rfl)) ?_;(with_reducible refine (euclid_check.calls k _ _ l0 _ _ l1 t111 _ ?side1 ?side2 ?side3 ?side4 A3.out).mono ?_);(case side1=>repeat (first|exact HR0.out|(with_reducible refine ca ?_ _)|(with_reducible refine cb ?_ _)|(with_reducible refine cc ?_)));(case side2=>exact HC0.out);(case side3=>repeat (first|exact HR1.out|(with_reducible refine ca ?_ _)|(with_reducible refine cb ?_ _)|(with_reducible refine cc ?_)));(case side4=>exact HC1.out);rintro e w' ⟨rfl,⟨nd,rfl⟩⟩;refine ⟨_,rfl,?_⟩)|((with_reducible refine gate_callee (f:=69) rfl ?_);refine goesL_ (some 15) rfl rfl Try.func69 (by kernel_rfl) rfl #[.slice A0 l0.length c0,.slice A1 l1.length c1] rfl (by (try simp only [List.map_toArray,List.map_cons,List.map_nil]);first|done|rfl|(simp only [List.length_drop,List.length_take];rfl)) ?_;(with_reducible refine (euclid_square.calls k _ _ l0 _ _ l1 t112 _ ?side1 ?side2 ?side3 ?side4 A5.out).mono ?_);(case side1=>repeat (first|exact HR0.out|(with_reducible refine ca ?_ _)|(with_reducible refine cb ?_ _)|(with_reducible refine cc ?_)));(case side2=>exact HC0.out);(case side3=>repeat (first|exact HR1.out|(with_reducible refine ca ?_ _)|(with_reducible refine cb ?_ _)|(with_reducible refine cc ?_)));(case side4=>exact HC1.out);rintro e w' ⟨rfl,⟨nd,rfl⟩⟩;refine ⟨_,rfl,?_⟩))
  go_ret2
  exact ⟨by first|rfl|(simp;done)|(simp [*];done),by repeat (first|exact Drawn0.refl _|apply Drawn0.step)⟩
 ·
  rw [if_neg c4] at H
  have c4b0 : (t111 == 0) = false:=beq_eq_false_iff_ne.mpr c4
  have c4b1 : (t111 != 0) = true:=bne_iff_ne.mpr c4
  simp only [Option.some.injEq,Prod.mk.injEq] at H
  obtain ⟨rfl,rfl⟩:=H
  go_enter Try.func61,Try.ntmps61
  go_wp2_with (first|((with_reducible refine gate_callee (f:=68) rfl ?_);refine goesL_ (some 9) rfl rfl Try.func68 (by kernel_rfl) rfl #[.slice A0 l0.length c0,.slice A1 l1.length c1] rfl (by (try simp only [List.map_toArray,List.map_cons,List.map_nil]);first|done|rfl|(simp only [List.length_drop,List.length_take];rfl)) ?_;(with_reducible refine (euclid_check.calls k _ _ l0 _ _ l1 t111 _ ?side1 ?side2 ?side3 ?side4 A3.out).mono ?_);(case side1=>repeat (first|exact HR0.out|(with_reducible refine ca ?_ _)|(with_reducible refine cb ?_ _)|(with_reducible refine cc ?_)));(case side2=>exact HC0.out);(case side3=>repeat (first|exact HR1.out|(with_reducible refine ca ?_ _)|(with_reducible refine cb ?_ _)|(with_reducible refine cc ?_)));(case side4=>exact HC1.out);rintro e w' ⟨rfl,⟨nd,rfl⟩⟩;refine ⟨_,rfl,?_⟩))
  go_ret2
  exact ⟨by first|rfl|(simp;done)|(simp [*];done),by repeat (first|exact Drawn0.refl _|apply Drawn0.step)⟩

end Go.Proofs.Ytodipcfbgnljeaa.PChannelsGreatest
