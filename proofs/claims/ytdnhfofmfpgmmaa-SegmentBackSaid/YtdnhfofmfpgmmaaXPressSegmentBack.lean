/- This file gives short names to proofs of small goals that come again and again: each is a lemma whose premise is shown by a fixed row of tactics. -/
import Derived.Test.YtdnhfofmfpgmmaaXShort
import Derived.Test.YtdnhfofmfpgmmaaWLast
import Derived.Test.YtdnhfofmfpgmmaaWTab
namespace Go.Proofs.YtdnhfofmfpgmmaaW.PrintWords
open Go.RowKit Go.Proofs.YtdnhfofmfpgmmaaW.PrintWords Go.Proofs.YtdnhfofmfpgmmaaW.PrintLast Go.Proofs.YtdnhfofmfpgmmaaW.PrintMore
theorem rx {p q : Prop} (h : q) (t : q → p:=by intro h_;(with_reducible repeat (first|apply ra|apply rb|apply rc));exact h_) : p:=t h
theorem nx {p q : Prop} (h : q) (t : q → p:=by intro h_;(with_reducible repeat (first|apply na|apply nd_|apply ne_));exact h_) : p:=t h
theorem sx {p q : Prop} (h : q) (t : q → p:=by intro h_;(with_reducible repeat (first|apply sa_|apply sd_|apply se_));exact h_) : p:=t h
theorem cx {p q : Prop} (h : q) (t : q → p:=by intro h_;repeat (first|(with_reducible exact h_)|(with_reducible refine ca ?_ _)|(with_reducible refine cb ?_ _)|(with_reducible refine cc ?_)|exact h_)) : p:=t h
theorem lz {p : Prop} (h : p:=by with_reducible first|exact LeO.refl _|exact LeO.none _) : p:=h
section
variable {P : Program} {ops : Array Oper} {Q : Exit → Act → World → Prop} {md : Region.Mode} {S : World → Prop} {ds : List Nat}
theorem gl {rest : List Oper} {oi : Oper} {a : Act} {w : World} (N : Option Tmp) {f : FuncId} {fn : Func} {as : Array Operand} {ts : Array TypeId} (hf : P.funcs[f]? = some fn) (args : Array Value)
    (h : Calls P f args w fun e w' => ∃ v, e = .returned v ∧ wpList P ops Q rest (a.put N v) w')
    (hd : oi.dst = N:=by rfl) (hg : oi.guard = none:=by rfl) (hop : oi.op = .call { callee := .value (.func f), args := as, argTypes := ts }:=by rfl)
    (hname : (fn.name == "runtime.NumGoroutine") = false:=by kernel_rfl) (hb : fn.body.isSome = true:=by rfl) (hargs : as.map a.eval = args:=by (try simp only [List.map_toArray,List.map_cons,List.map_nil]);first|done|rfl|(simp only [List.length_drop,List.length_take];rfl)) : wpList P ops Q (oi :: rest) a w:=
  goesL_ N hd hg hf hname hb args hop hargs h
theorem pu {i : Nat} {N : Option Tmp} {oi : Oper} {v : Value} {fuel : Nat} {l : Array Bool} {a : Act} {w : World} (l' : Array Bool) (hy : ∀ W, (execOp a.eval oi).run P W = .ok (.value v) W) {a' : Act} (ha : a.put N v = a')
    (h : wpAnyLast P md ops Q S ds fuel l' a' w) (hi : ops[i]? = some oi:=by rfl) (hN : oi.dst = N:=by rfl) (hc : anyB md ops l l' i = true:=by exact any_of HT_.out (by kernel_rfl)) (hQ : ∀ c a w, Q (.panic c) (a.put oi.dst v) w → Q (.panic c) a w:=by exact fun _ _ _ h=>h)
    (hw : Region.wanted oi (yielded ops a.tmps) = true:=by rfl) : wpAnyLast P md ops Q S ds (fuel + 1) l a w:=
  pure_ l' hi hN hc hQ (Or.inl ⟨hw,hy⟩) ha h
theorem tk {i : Nat} {N : Option Tmp} {oi : Oper} {v : Value} {fuel : Nat} {l : Array Bool} {a : Act} {w : World} (l' : Array Bool) (hy : ∀ W, S W → (execOp a.eval oi).run P W = .ok (.value v) W) (hS : S w) {a' : Act} (ha : a.put N v = a')
    (h : wpAnyLast P md ops Q S ds fuel l' a' w) (hi : ops[i]? = some oi:=by rfl) (hN : oi.dst = N:=by rfl) (hc : takeB md ops ds l l' i = true:=by exact take_ofW HT_.out HW_.out (by kernel_rfl)) (hQ : ∀ c a w, Q (.panic c) (a.put oi.dst v) w → Q (.panic c) a w:=by exact fun _ _ _ h=>h)
    (hw : Region.wanted oi (yielded ops a.tmps) = true:=by rfl) : wpAnyLast P md ops Q S ds (fuel + 1) l a w:=
  take_ l' hi hN hc hQ (Or.inl ⟨hw,hy⟩) hS ha h
end
theorem uq0 {p : Prop} (h : p:=by repeat (first|(with_reducible first|exact HB.out|apply ba|apply bb|apply bc)|exact HB.out)) : p:=h
theorem uq1 {p : Prop} (h : p:=by first|(with_reducible assumption)|assumption) : p:=h
theorem uq2 {p : Prop} (h : p:=by first|rfl|(simp;done)|(simp [*];done)) : p:=h
theorem uq3 {p : Prop} (h : p:=by kernel_rfl) : p:=h
theorem uq4 {p : Prop} (h : p:=by repeat (first|(with_reducible first|exact HI0.out|apply IsS76.alloc|apply IsS76.drewN|apply IsS76.drew|apply IsS76.set_1)|exact HI0.out)) : p:=h
theorem uq5 {p : Prop} (h : p:=by repeat (first|(with_reducible first|exact HK.out|apply KeepBut.set_|apply keep_drewN|apply keep_drew|apply keep_alloc)|exact HK.out)) : p:=h
theorem uq6 {p : Prop} (h : p:=by repeat (first|(with_reducible first|exact HB.out|apply ba|apply bb|apply bc|refine below_set ?_ (IsS76.ge HI0.out))|exact HB.out)) : p:=h
theorem uq7 {p : Prop} (h : p:=by repeat (first|exact Drawn0.refl _|apply Drawn0.step)) : p:=h
theorem uq8 {p : Prop} (h : p:=by rw [hg];exact (below_size (by repeat (first|(with_reducible first|exact HB.out|apply ba|apply bb|apply bc)|exact HB.out)))) : p:=h
theorem uq9 {p : Prop} (h : p:=by repeat (first|(with_reducible first|exact HB.out|apply ba|apply bb|apply bc|refine below_set ?_ GE206.out)|exact HB.out)) : p:=h
theorem uq10 {p : Prop} (h : p:=by (with_reducible repeat (first|refine blk_drewN ?_ _|refine blk_drew ?_|refine blk_alloc ?_ _));exact BK206.out) : p:=h
theorem uq11 {p : Prop} (h : p:=by repeat (first|(with_reducible first|exact HB.out|apply ba|apply bb|apply bc|refine below_set ?_ GE251.out|refine below_set ?_ GE252.out)|exact HB.out)) : p:=h
theorem uq12 {p : Prop} (h : p:=by (with_reducible repeat (first|refine blk_drewN ?_ _|refine blk_drew ?_|refine blk_alloc ?_ _));exact BK239.out) : p:=h
theorem uq13 {p : Prop} (h : p:=by repeat (first|(with_reducible first|exact HB.out|apply ba|apply bb|apply bc|refine below_set ?_ GE239.out|refine below_set ?_ GE240.out)|exact HB.out)) : p:=h
theorem uq14 {p : Prop} (h : p:=by (with_reducible repeat (first|refine blk_drewN ?_ _|refine blk_drew ?_|refine blk_alloc ?_ _));exact BK251.out) : p:=h
theorem uq15 {p : Prop} (h : p:=by (try simp only [List.map_toArray,List.map_cons,List.map_nil]);first|done|rfl|(simp only [List.length_drop,List.length_take];rfl)|((try rw [KY17.out]);(try rw [KY29.out]);(try rw [KY40.out]);rfl)) : p:=h
theorem uq16 {p : Prop} (h : p:=by go_simp;rfl) : p:=h
theorem uq17 {p : Prop} (h : p:=by (with_reducible repeat (first|refine blk_drewN ?_ _|refine blk_drew ?_|refine blk_alloc ?_ _));exact BK252.out) : p:=h
theorem uq18 {p : Prop} (h : p:=by repeat (first|(with_reducible first|exact HB.out|apply ba|apply bb|apply bc|refine below_set ?_ (IsS76.ge HI314.out))|exact HB.out)) : p:=h
theorem uq19 {p : Prop} (h : p:=by repeat (first|(with_reducible first|exact HB.out|apply ba|apply bb|apply bc|refine below_set ?_ GE193.out)|exact HB.out)) : p:=h
theorem uq20 {p : Prop} (h : p:=by repeat (first|(with_reducible first|exact HB.out|apply ba|apply bb|apply bc|refine below_set ?_ GE333.out|refine below_set ?_ GE340.out)|exact HB.out)) : p:=h
theorem uq21 {p : Prop} (h : p:=by repeat (first|(with_reducible first|exact HB.out|apply ba|apply bb|apply bc|refine below_set ?_ GE294.out)|exact HB.out)) : p:=h
theorem uq22 {p : Prop} (h : p:=by have:=hz.out;have:=hi.out;omega) : p:=h
theorem uq23 {p : Prop} (h : p:=by (with_reducible repeat (first|refine blk_drewN ?_ _|refine blk_drew ?_|refine blk_alloc ?_ _));exact BK240.out) : p:=h
theorem uq24 {p : Prop} (h : p:=by repeat (first|(with_reducible first|exact HI314.out|apply IsS76.alloc|apply IsS76.drewN|apply IsS76.drew|apply IsS76.set_1)|exact HI314.out)) : p:=h
theorem uq25 {p : Prop} (h : p:=by (with_reducible repeat (first|refine blk_drewN ?_ _|refine blk_drew ?_|refine blk_alloc ?_ _));exact BK333.out) : p:=h
theorem uq26 {p : Prop} (h : p:=by (with_reducible repeat (first|refine blk_drewN ?_ _|refine blk_drew ?_|refine blk_alloc ?_ _));exact BK193.out) : p:=h
theorem uq27 {p : Prop} (h : p:=by (with_reducible repeat (first|apply ra|apply rb|apply rc));first|exact HO216.out|exact rm HO216.out (fun _ h_=>⟨trivial,h_⟩)) : p:=h
theorem uq28 {p : Prop} (h : p:=by repeat (first|(with_reducible first|exact HB.out|apply ba|apply bb|apply bc|refine below_set ?_ GE239.out)|exact HB.out)) : p:=h
theorem uq29 {p : Prop} (h : p:=by (with_reducible repeat (first|refine blk_drewN ?_ _|refine blk_drew ?_|refine blk_alloc ?_ _));exact BK231.out) : p:=h
theorem uq30 {p : Prop} (h : p:=by repeat (first|(with_reducible first|exact HB.out|apply ba|apply bb|apply bc|refine below_set ?_ GE231.out|refine below_set ?_ GE232.out)|exact HB.out)) : p:=h
theorem uq31 {p : Prop} (h : p:=by repeat (first|(with_reducible first|exact HB.out|apply ba|apply bb|apply bc|refine below_set ?_ GE270.out)|exact HB.out)) : p:=h
theorem uq32 {p : Prop} (h : p:=by repeat (first|(with_reducible first|exact HB.out|apply ba|apply bb|apply bc|refine below_set ?_ (IsS76.ge HI314.out)|refine below_set ?_ GE333.out)|exact HB.out)) : p:=h
theorem uq33 {p : Prop} (h : p:=by rw [hg];exact (below_size (by repeat (first|(with_reducible first|exact HB.out|apply ba|apply bb|apply bc|refine below_set ?_ GE239.out)|exact HB.out)))) : p:=h
theorem uq34 {p : Prop} (h : p:=by (try simp only [List.map_toArray,List.map_cons,List.map_nil]);first|done|rfl|(simp only [List.length_drop,List.length_take];rfl)) : p:=h
theorem uq35 {p : Prop} (h : p:=by (with_reducible repeat (first|refine blk_drewN ?_ _|refine blk_drew ?_|refine blk_alloc ?_ _));exact BK270.out) : p:=h
theorem uq36 {p : Prop} (h : p:=by repeat (first|(with_reducible first|exact HB.out|apply ba|apply bb|apply bc|refine below_set ?_ GE333.out)|exact HB.out)) : p:=h
theorem uq37 {p : Prop} (h : p:=by repeat (first|(with_reducible first|exact HB.out|apply ba|apply bb|apply bc|refine below_set ?_ GE179.out)|exact HB.out)) : p:=h
theorem uq38 {p : Prop} (h : p:=by (with_reducible repeat (first|apply ra|apply rb|apply rc));exact rm HO220.out (fun _ hk=>hk.2)) : p:=h
theorem uq39 {p : Prop} (h : p:=by repeat (first|(with_reducible first|exact HB.out|apply ba|apply bb|apply bc|refine below_set ?_ GE231.out)|exact HB.out)) : p:=h
theorem uq40 {p : Prop} (h : p:=by repeat (first|(with_reducible first|exact HB.out|apply ba|apply bb|apply bc|refine below_set ?_ GE251.out)|exact HB.out)) : p:=h
theorem uq41 {p : Prop} (h : p:=by rw [hw];exact (by (with_reducible repeat (first|apply ra|apply rb|apply rc));exact rm (Kd.R_far (p:=⟨gb294,4,none⟩) (Kd.R_far (p:=⟨gb294,3,none⟩) (Kd.R_far (p:=⟨gb294,2,none⟩) (Kd.R_far (p:=⟨gb294,1,none⟩) (Kd.R_far (p:=⟨gb294,0,none⟩) (Kd.R_types HO283.out BK294.out (by decide)) (fun _ hk=>hk.2) (.int .i64 t288)) (fun _ hk=>hk.2) (.int .i64 t289)) (fun _ hk=>hk.2) (.int .i64 t290)) (fun _ hk=>hk.2) (.int .i64 t291)) (fun _ hk=>hk.2) (.int .i64 t292)) (fun _ hk=>trivial))) : p:=h
theorem uq42 {p : Prop} (h : p:=by rw [hw];exact (by (with_reducible repeat (first|apply ra|apply rb|apply rc));exact rm (Kd.R_far (p:=⟨gb294,4,none⟩) (Kd.R_far (p:=⟨gb294,3,none⟩) (Kd.R_far (p:=⟨gb294,2,none⟩) (Kd.R_far (p:=⟨gb294,1,none⟩) (Kd.R_far (p:=⟨gb294,0,none⟩) (Kd.R_types HO287.out BK294.out (by decide)) (fun _ hk=>hk.2) (.int .i64 t288)) (fun _ hk=>hk.2) (.int .i64 t289)) (fun _ hk=>hk.2) (.int .i64 t290)) (fun _ hk=>hk.2) (.int .i64 t291)) (fun _ hk=>hk.2) (.int .i64 t292)) (fun _ hk=>trivial))) : p:=h
theorem uq43 {p : Prop} (h : p:=by rw [hw];exact (by (with_reducible repeat (first|refine blk_drewN ?_ _|refine blk_drew ?_|refine blk_alloc ?_ _));refine blk_put (cs:=#[.int .i64 t288,.int .i64 t289,.int .i64 t290,.int .i64 t291,.int .i64 0]) ?_ 4 _ rfl;(with_reducible repeat (first|refine blk_drewN ?_ _|refine blk_drew ?_|refine blk_alloc ?_ _));refine blk_put (cs:=#[.int .i64 t288,.int .i64 t289,.int .i64 t290,.int .i64 0,.int .i64 0]) ?_ 3 _ rfl;(with_reducible repeat (first|refine blk_drewN ?_ _|refine blk_drew ?_|refine blk_alloc ?_ _));refine blk_put (cs:=#[.int .i64 t288,.int .i64 t289,.int .i64 0,.int .i64 0,.int .i64 0]) ?_ 2 _ rfl;(with_reducible repeat (first|refine blk_drewN ?_ _|refine blk_drew ?_|refine blk_alloc ?_ _));refine blk_put (cs:=#[.int .i64 t288,.int .i64 0,.int .i64 0,.int .i64 0,.int .i64 0]) ?_ 1 _ rfl;(with_reducible repeat (first|refine blk_drewN ?_ _|refine blk_drew ?_|refine blk_alloc ?_ _));refine blk_put (cs:=#[.int .i64 0,.int .i64 0,.int .i64 0,.int .i64 0,.int .i64 0]) ?_ 0 _ rfl;(with_reducible repeat (first|refine blk_drewN ?_ _|refine blk_drew ?_|refine blk_alloc ?_ _));exact BK294.out)) : p:=h
theorem uq44 {p : Prop} (h : p:=by rw [hw];exact (by repeat (first|(with_reducible first|exact HB.out|apply ba|apply bb|apply bc|refine below_set ?_ GE294.out)|exact HB.out))) : p:=h
theorem uq45 {p : Prop} (h : p:=by rw [Ny295.out,List.length_take];omega) : p:=h
theorem uq46 {p : Prop} (h : p:=by (with_reducible repeat (first|refine blk_drewN ?_ _|refine blk_drew ?_|refine blk_alloc ?_ _));exact BK340.out) : p:=h
end Go.Proofs.YtdnhfofmfpgmmaaW.PrintWords
