/- This file gives the steps of a region of open order with their side conditions shown by fixed rows of tactics. -/
import Derived.Test.YtdnhfofmfpgmmaaXWords
import Derived.Test.YtdnhfofmfpgmmaaWLast
import Derived.Test.YtdnhfofmfpgmmaaWTab
set_option linter.unusedVariables false
namespace Go.Proofs.YtdnhfofmfpgmmaaW.PrintWords
open Go.RowKit Go.Proofs.YtdnhfofmfpgmmaaW.PrintWords Go.Proofs.YtdnhfofmfpgmmaaW.PrintLast
section
variable {P : Program} {ops : Array Oper} {Q : Exit → Act → World → Prop} {md : Region.Mode} {S : World → Prop} {ds : List Nat}
theorem pk {i : Nat} {N : Option Tmp} {oi : Oper} {v : Value} {fuel : Nat} {l : Array Bool} {a : Act} {w : World} (l' : Array Bool) (hy : ∀ W, (execOp a.eval oi).run P W = .ok (.value v) W) {a' : Act} (ha : a.put N v = a')
    (h : wpAnyLast P md ops Q S ds fuel l' a' w) (hi : ops[i]? = some oi := by rfl) (hN : oi.dst = N := by rfl) (hc : anyB md ops l l' i = true := by kernel_rfl) (hQ : ∀ c a w, Q (.panic c) (a.put oi.dst v) w → Q (.panic c) a w := by exact fun _ _ _ h => h)
    (hw : Region.wanted oi (yielded ops a.tmps) = true := by rfl) : wpAnyLast P md ops Q S ds (fuel + 1) l a w :=
  pure_ l' hi hN hc hQ (Or.inl ⟨hw, hy⟩) ha h
theorem lk {i : Nat} {N : Option Tmp} {oi : Oper} {v : Value} {fuel : Nat} {l : Array Bool} {a : Act} {w : World} (l' : Array Bool) (hy : ∀ W, S W → (execOp a.eval oi).run P W = .ok (.value v) W) (hS : S w) {a' : Act} (ha : a.put N v = a')
    (h : wpAnyLast P md ops Q S ds fuel l' a' w) (hi : ops[i]? = some oi := by rfl) (hN : oi.dst = N := by rfl) (hc : takeB md ops ds l l' i = true := by kernel_rfl) (hQ : ∀ c a w, Q (.panic c) (a.put oi.dst v) w → Q (.panic c) a w := by exact fun _ _ _ h => h)
    (hw : Region.wanted oi (yielded ops a.tmps) = true := by rfl) : wpAnyLast P md ops Q S ds (fuel + 1) l a w :=
  take_ l' hi hN hc hQ (Or.inl ⟨hw, hy⟩) hS ha h
/-- One operation alone may come up: it is a load (or whatever yields a value and leaves the world). -/
theorem ek {i : Nat} {N : Option Tmp} {oi : Oper} {v : Value} {fuel : Nat} {l : Array Bool} {a : Act} {w : World} (l' : Array Bool) (hy : (execOp a.eval oi).run P w = .ok (.value v) w) (hS : S w) {a' : Act} (ha : a.put N v = a')
    (h : wpAnyLast P md ops Q S ds fuel l' a' w) (hi : ops[i]? = some oi := by rfl) (hN : oi.dst = N := by rfl) (hc : readyB md ops l l' i = true := by kernel_rfl) (hd : i ∉ ds := by decide)
    (hw : Region.wanted oi (yielded ops a.tmps) = true := by rfl) : wpAnyLast P md ops Q S ds (fuel + 1) l a w := by
  subst ha
  exact one_ l' hi hN hc hd fun K hK => value_ hw hN hy (hK.out _ _ hS fun _ => h)
/-- One operation alone may come up: a store. -/
theorem sk {i : Nat} {oi : Oper} {fuel : Nat} {l : Array Bool} {a : Act} {w w1 : World} (l' : Array Bool) (hy : (execOp a.eval oi).run P w = .ok .skip w1) (hS : S w1)
    (h : wpAnyLast P md ops Q S ds fuel l' a w1) (hi : ops[i]? = some oi := by rfl) (hN : oi.dst = none := by rfl) (hc : readyB md ops l l' i = true := by kernel_rfl) (hd : i ∉ ds := by decide)
    (hw : Region.wanted oi (yielded ops a.tmps) = true := by rfl) : wpAnyLast P md ops Q S ds (fuel + 1) l a w :=
  one_ l' hi hN hc hd fun K hK => skip_ hw hN hy (hK.out _ _ hS fun _ => h)
/-- One operation alone may come up: a call. -/
theorem ck {i : Nat} {N : Option Tmp} {oi : Oper} {fuel : Nat} {l : Array Bool} {a : Act} {w : World} (l' : Array Bool) (f : FuncId) (args : Array Value) (hy : (execOp a.eval oi).run P w = .ok (.enter f args) w)
    (h : Calls P f args w fun e w' => ∃ v, e = .returned v ∧ S w' ∧ wpAnyLast P md ops Q S ds fuel l' (a.put N v) w')
    (hi : ops[i]? = some oi := by rfl) (hN : oi.dst = N := by rfl) (hc : readyB md ops l l' i = true := by kernel_rfl) (hd : i ∉ ds := by decide)
    (hw : Region.wanted oi (yielded ops a.tmps) = true := by rfl) : wpAnyLast P md ops Q S ds (fuel + 1) l a w :=
  one_ l' hi hN hc hd fun K hK => call_ f args hw hN hy (h.mono fun e w' hh => by
    obtain ⟨v, he, hS, hx⟩ := hh
    exact ⟨v, he, hK.out _ _ hS fun _ => hx⟩)
/-- Two loads in either order. -/
theorem twk {i j : Nat} {Ni Nj : Option Tmp} {oi oj : Oper} {vi vj : Value} {fuel : Nat} {l : Array Bool} {a : Act} {w : World} (li lj lb : Array Bool) (hy : (execOp a.eval oi).run P w = .ok (.value vi) w) (hz : (execOp a.eval oj).run P w = .ok (.value vj) w)
    (hS : S w) {a' : Act} (h : wpAnyLast P md ops Q S ds fuel lb a' w)
    (hi : ops[i]? = some oi := by rfl) (hj : ops[j]? = some oj := by rfl) (hNi : oi.dst = Ni := by rfl) (hNj : oj.dst = Nj := by rfl)
    (hyj : (execOp (a.put Ni vi).eval oj).run P w = .ok (.value vj) w := by first | (go_simp; done) | (go_simp; rfl)) (hyi : (execOp (a.put Nj vj).eval oi).run P w = .ok (.value vi) w := by first | (go_simp; done) | (go_simp; rfl))
    (ha : (a.put Ni vi).put Nj vj = a' := by rfl) (ha2 : (a.put Nj vj).put Ni vi = a' := by rfl)
    (hc : (Region.ready md ops l == [i, j] && l.setIfInBounds i true == li && l.setIfInBounds j true == lj) = true := by kernel_rfl) (hcj : readyB md ops li lb j = true := by kernel_rfl) (hci : readyB md ops lj lb i = true := by kernel_rfl) (hdi : i ∉ ds := by decide) (hdj : j ∉ ds := by decide)
    (hwi : Region.wanted oi (yielded ops a.tmps) = true := by rfl) (hwj : Region.wanted oj (yielded ops a.tmps) = true := by rfl)
    (hwi2 : Region.wanted oi (yielded ops (a.put Nj vj).tmps) = true := by rfl) (hwj2 : Region.wanted oj (yielded ops (a.put Ni vi).tmps) = true := by rfl) : wpAnyLast P md ops Q S ds (fuel + 1 + 1) l a w :=
  two_ li lj hi hj hNi hNj hc hdi hdj
    (fun K hK => value_ hwi hNi hy (hK.out _ _ hS fun _ => ek lb hyj hS ha h hj hNj hcj hdj hwj2))
    (fun K hK => value_ hwj hNj hz (hK.out _ _ hS fun _ => ek lb hyi hS ha2 h hi hNi hci hdi hwi2))
/-- Three loads in any order. -/
theorem thk {i j k : Nat} {Ni Nj Nk : Option Tmp} {oi oj ok : Oper} {vi vj vk : Value} {fuel : Nat} {l : Array Bool} {a : Act} {w : World} (li lj lk lij lik ljk lb : Array Bool)
    (hyi : (execOp a.eval oi).run P w = .ok (.value vi) w)
    (hyj : (execOp a.eval oj).run P w = .ok (.value vj) w)
    (hyk : (execOp a.eval ok).run P w = .ok (.value vk) w)
    (hS : S w) {a' : Act} (h : wpAnyLast P md ops Q S ds fuel lb a' w)
    (hi : ops[i]? = some oi := by rfl) (hj : ops[j]? = some oj := by rfl) (hk : ops[k]? = some ok := by rfl) (hNi : oi.dst = Ni := by rfl) (hNj : oj.dst = Nj := by rfl) (hNk : ok.dst = Nk := by rfl)
    (hyij : (execOp (a.put Ni vi).eval oj).run P w = .ok (.value vj) w := by first | (go_simp; done) | (go_simp; rfl))
    (hyik : (execOp (a.put Ni vi).eval ok).run P w = .ok (.value vk) w := by first | (go_simp; done) | (go_simp; rfl))
    (hyji : (execOp (a.put Nj vj).eval oi).run P w = .ok (.value vi) w := by first | (go_simp; done) | (go_simp; rfl))
    (hyjk : (execOp (a.put Nj vj).eval ok).run P w = .ok (.value vk) w := by first | (go_simp; done) | (go_simp; rfl))
    (hyki : (execOp (a.put Nk vk).eval oi).run P w = .ok (.value vi) w := by first | (go_simp; done) | (go_simp; rfl))
    (hykj : (execOp (a.put Nk vk).eval oj).run P w = .ok (.value vj) w := by first | (go_simp; done) | (go_simp; rfl))
    (hyijk : (execOp ((a.put Ni vi).put Nj vj).eval ok).run P w = .ok (.value vk) w := by first | (go_simp; done) | (go_simp; rfl))
    (hyikj : (execOp ((a.put Ni vi).put Nk vk).eval oj).run P w = .ok (.value vj) w := by first | (go_simp; done) | (go_simp; rfl))
    (hyjik : (execOp ((a.put Nj vj).put Ni vi).eval ok).run P w = .ok (.value vk) w := by first | (go_simp; done) | (go_simp; rfl))
    (hyjki : (execOp ((a.put Nj vj).put Nk vk).eval oi).run P w = .ok (.value vi) w := by first | (go_simp; done) | (go_simp; rfl))
    (hykij : (execOp ((a.put Nk vk).put Ni vi).eval oj).run P w = .ok (.value vj) w := by first | (go_simp; done) | (go_simp; rfl))
    (hykji : (execOp ((a.put Nk vk).put Nj vj).eval oi).run P w = .ok (.value vi) w := by first | (go_simp; done) | (go_simp; rfl))
    (haijk : ((a.put Ni vi).put Nj vj).put Nk vk = a' := by rfl)
    (haikj : ((a.put Ni vi).put Nk vk).put Nj vj = a' := by rfl)
    (hajik : ((a.put Nj vj).put Ni vi).put Nk vk = a' := by rfl)
    (hajki : ((a.put Nj vj).put Nk vk).put Ni vi = a' := by rfl)
    (hakij : ((a.put Nk vk).put Ni vi).put Nj vj = a' := by rfl)
    (hakji : ((a.put Nk vk).put Nj vj).put Ni vi = a' := by rfl)
    (hc : (Region.ready md ops l == [i, j, k] && l.setIfInBounds i true == li && l.setIfInBounds j true == lj && l.setIfInBounds k true == lk) = true := by kernel_rfl)
    (hci : (Region.ready md ops li == [j, k] && li.setIfInBounds j true == lij && li.setIfInBounds k true == lik) = true := by kernel_rfl)
    (hcj : (Region.ready md ops lj == [i, k] && lj.setIfInBounds i true == lij && lj.setIfInBounds k true == ljk) = true := by kernel_rfl)
    (hck : (Region.ready md ops lk == [i, j] && lk.setIfInBounds i true == lik && lk.setIfInBounds j true == ljk) = true := by kernel_rfl)
    (hdk : readyB md ops lij lb k = true := by kernel_rfl)
    (hdj : readyB md ops lik lb j = true := by kernel_rfl)
    (hdi : readyB md ops ljk lb i = true := by kernel_rfl)
    (hdi0 : i ∉ ds := by decide) (hdj0 : j ∉ ds := by decide) (hdk0 : k ∉ ds := by decide)
    (hwi : Region.wanted oi (yielded ops a.tmps) = true := by rfl)
    (hwj : Region.wanted oj (yielded ops a.tmps) = true := by rfl)
    (hwk : Region.wanted ok (yielded ops a.tmps) = true := by rfl)
    (hwij : Region.wanted oj (yielded ops (a.put Ni vi).tmps) = true := by rfl)
    (hwik : Region.wanted ok (yielded ops (a.put Ni vi).tmps) = true := by rfl)
    (hwji : Region.wanted oi (yielded ops (a.put Nj vj).tmps) = true := by rfl)
    (hwjk : Region.wanted ok (yielded ops (a.put Nj vj).tmps) = true := by rfl)
    (hwki : Region.wanted oi (yielded ops (a.put Nk vk).tmps) = true := by rfl)
    (hwkj : Region.wanted oj (yielded ops (a.put Nk vk).tmps) = true := by rfl)
    (hwijk : Region.wanted ok (yielded ops ((a.put Ni vi).put Nj vj).tmps) = true := by rfl)
    (hwikj : Region.wanted oj (yielded ops ((a.put Ni vi).put Nk vk).tmps) = true := by rfl)
    (hwjik : Region.wanted ok (yielded ops ((a.put Nj vj).put Ni vi).tmps) = true := by rfl)
    (hwjki : Region.wanted oi (yielded ops ((a.put Nj vj).put Nk vk).tmps) = true := by rfl)
    (hwkij : Region.wanted oj (yielded ops ((a.put Nk vk).put Ni vi).tmps) = true := by rfl)
    (hwkji : Region.wanted oi (yielded ops ((a.put Nk vk).put Nj vj).tmps) = true := by rfl) : wpAnyLast P md ops Q S ds (fuel + 1 + 1 + 1) l a w :=
  three_ li lj lk hi hj hk hNi hNj hNk hc hdi0 hdj0 hdk0
    (fun K hK => value_ hwi hNi hyi (hK.out _ _ hS fun _ => two_ lij lik hj hk hNj hNk hci hdj0 hdk0
      (fun K hK => value_ hwij hNj hyij (hK.out _ _ hS fun _ => ek lb hyijk hS haijk h hk hNk hdk hdk0 hwijk))
      (fun K hK => value_ hwik hNk hyik (hK.out _ _ hS fun _ => ek lb hyikj hS haikj h hj hNj hdj hdj0 hwikj))))
    (fun K hK => value_ hwj hNj hyj (hK.out _ _ hS fun _ => two_ lij ljk hi hk hNi hNk hcj hdi0 hdk0
      (fun K hK => value_ hwji hNi hyji (hK.out _ _ hS fun _ => ek lb hyjik hS hajik h hk hNk hdk hdk0 hwjik))
      (fun K hK => value_ hwjk hNk hyjk (hK.out _ _ hS fun _ => ek lb hyjki hS hajki h hi hNi hdi hdi0 hwjki))))
    (fun K hK => value_ hwk hNk hyk (hK.out _ _ hS fun _ => two_ lik ljk hi hj hNi hNj hck hdi0 hdj0
      (fun K hK => value_ hwki hNi hyki (hK.out _ _ hS fun _ => ek lb hykij hS hakij h hj hNj hdj hdj0 hwkij))
      (fun K hK => value_ hwkj hNj hykj (hK.out _ _ hS fun _ => ek lb hykji hS hakji h hi hNi hdi hdi0 hwkji))))
/-- Three loads in any order, each with an operation that waits for it alone. -/
theorem thp {i j k ri rj rk : Nat} {Ni Nj Nk Mi Mj Mk : Option Tmp} {oi oj ok qi qj qk : Oper} {vi vj vk ui uj uk : Value} {fuel : Nat} {l : Array Bool} {a : Act} {w : World}
    (li lj lk mi mj mk lij lik lji ljk lki lkj mij mik mjk nk nj ni lb : Array Bool)
    (hyi : (execOp a.eval oi).run P w = .ok (.value vi) w)
    (hyj : (execOp a.eval oj).run P w = .ok (.value vj) w)
    (hyk : (execOp a.eval ok).run P w = .ok (.value vk) w)
    (hzi : ∀ W, (execOp (a.put Ni vi).eval qi).run P W = .ok (.value ui) W)
    (hzj : ∀ W, (execOp (a.put Nj vj).eval qj).run P W = .ok (.value uj) W)
    (hzk : ∀ W, (execOp (a.put Nk vk).eval qk).run P W = .ok (.value uk) W)
    (hS : S w) {a' : Act} (h : wpAnyLast P md ops Q S ds fuel lb a' w)
    (hi : ops[i]? = some oi := by rfl) (gi : ops[ri]? = some qi := by rfl) (hj : ops[j]? = some oj := by rfl) (gj : ops[rj]? = some qj := by rfl) (hk : ops[k]? = some ok := by rfl) (gk : ops[rk]? = some qk := by rfl)
    (hNi : oi.dst = Ni := by rfl) (hMi : qi.dst = Mi := by rfl) (hNj : oj.dst = Nj := by rfl) (hMj : qj.dst = Mj := by rfl) (hNk : ok.dst = Nk := by rfl) (hMk : qk.dst = Mk := by rfl)
    (hyij : (execOp ((a.put Ni vi).put Mi ui).eval oj).run P w = .ok (.value vj) w := by first | (go_simp; done) | (go_simp; rfl)) (hzij : ∀ W, (execOp (((a.put Ni vi).put Mi ui).put Nj vj).eval qj).run P W = .ok (.value uj) W := by first | (intro _; go_simp; done) | (intro _; go_simp; rfl))
    (hyik : (execOp ((a.put Ni vi).put Mi ui).eval ok).run P w = .ok (.value vk) w := by first | (go_simp; done) | (go_simp; rfl)) (hzik : ∀ W, (execOp (((a.put Ni vi).put Mi ui).put Nk vk).eval qk).run P W = .ok (.value uk) W := by first | (intro _; go_simp; done) | (intro _; go_simp; rfl))
    (hyji : (execOp ((a.put Nj vj).put Mj uj).eval oi).run P w = .ok (.value vi) w := by first | (go_simp; done) | (go_simp; rfl)) (hzji : ∀ W, (execOp (((a.put Nj vj).put Mj uj).put Ni vi).eval qi).run P W = .ok (.value ui) W := by first | (intro _; go_simp; done) | (intro _; go_simp; rfl))
    (hyjk : (execOp ((a.put Nj vj).put Mj uj).eval ok).run P w = .ok (.value vk) w := by first | (go_simp; done) | (go_simp; rfl)) (hzjk : ∀ W, (execOp (((a.put Nj vj).put Mj uj).put Nk vk).eval qk).run P W = .ok (.value uk) W := by first | (intro _; go_simp; done) | (intro _; go_simp; rfl))
    (hyki : (execOp ((a.put Nk vk).put Mk uk).eval oi).run P w = .ok (.value vi) w := by first | (go_simp; done) | (go_simp; rfl)) (hzki : ∀ W, (execOp (((a.put Nk vk).put Mk uk).put Ni vi).eval qi).run P W = .ok (.value ui) W := by first | (intro _; go_simp; done) | (intro _; go_simp; rfl))
    (hykj : (execOp ((a.put Nk vk).put Mk uk).eval oj).run P w = .ok (.value vj) w := by first | (go_simp; done) | (go_simp; rfl)) (hzkj : ∀ W, (execOp (((a.put Nk vk).put Mk uk).put Nj vj).eval qj).run P W = .ok (.value uj) W := by first | (intro _; go_simp; done) | (intro _; go_simp; rfl))
    (hyijk : (execOp ((((a.put Ni vi).put Mi ui).put Nj vj).put Mj uj).eval ok).run P w = .ok (.value vk) w := by first | (go_simp; done) | (go_simp; rfl)) (hzijk : ∀ W, (execOp (((((a.put Ni vi).put Mi ui).put Nj vj).put Mj uj).put Nk vk).eval qk).run P W = .ok (.value uk) W := by first | (intro _; go_simp; done) | (intro _; go_simp; rfl))
    (hyikj : (execOp ((((a.put Ni vi).put Mi ui).put Nk vk).put Mk uk).eval oj).run P w = .ok (.value vj) w := by first | (go_simp; done) | (go_simp; rfl)) (hzikj : ∀ W, (execOp (((((a.put Ni vi).put Mi ui).put Nk vk).put Mk uk).put Nj vj).eval qj).run P W = .ok (.value uj) W := by first | (intro _; go_simp; done) | (intro _; go_simp; rfl))
    (hyjik : (execOp ((((a.put Nj vj).put Mj uj).put Ni vi).put Mi ui).eval ok).run P w = .ok (.value vk) w := by first | (go_simp; done) | (go_simp; rfl)) (hzjik : ∀ W, (execOp (((((a.put Nj vj).put Mj uj).put Ni vi).put Mi ui).put Nk vk).eval qk).run P W = .ok (.value uk) W := by first | (intro _; go_simp; done) | (intro _; go_simp; rfl))
    (hyjki : (execOp ((((a.put Nj vj).put Mj uj).put Nk vk).put Mk uk).eval oi).run P w = .ok (.value vi) w := by first | (go_simp; done) | (go_simp; rfl)) (hzjki : ∀ W, (execOp (((((a.put Nj vj).put Mj uj).put Nk vk).put Mk uk).put Ni vi).eval qi).run P W = .ok (.value ui) W := by first | (intro _; go_simp; done) | (intro _; go_simp; rfl))
    (hykij : (execOp ((((a.put Nk vk).put Mk uk).put Ni vi).put Mi ui).eval oj).run P w = .ok (.value vj) w := by first | (go_simp; done) | (go_simp; rfl)) (hzkij : ∀ W, (execOp (((((a.put Nk vk).put Mk uk).put Ni vi).put Mi ui).put Nj vj).eval qj).run P W = .ok (.value uj) W := by first | (intro _; go_simp; done) | (intro _; go_simp; rfl))
    (hykji : (execOp ((((a.put Nk vk).put Mk uk).put Nj vj).put Mj uj).eval oi).run P w = .ok (.value vi) w := by first | (go_simp; done) | (go_simp; rfl)) (hzkji : ∀ W, (execOp (((((a.put Nk vk).put Mk uk).put Nj vj).put Mj uj).put Ni vi).eval qi).run P W = .ok (.value ui) W := by first | (intro _; go_simp; done) | (intro _; go_simp; rfl))
    (haijk : ((((((a.put Ni vi).put Mi ui).put Nj vj).put Mj uj).put Nk vk).put Mk uk) = a' := by rfl)
    (haikj : ((((((a.put Ni vi).put Mi ui).put Nk vk).put Mk uk).put Nj vj).put Mj uj) = a' := by rfl)
    (hajik : ((((((a.put Nj vj).put Mj uj).put Ni vi).put Mi ui).put Nk vk).put Mk uk) = a' := by rfl)
    (hajki : ((((((a.put Nj vj).put Mj uj).put Nk vk).put Mk uk).put Ni vi).put Mi ui) = a' := by rfl)
    (hakij : ((((((a.put Nk vk).put Mk uk).put Ni vi).put Mi ui).put Nj vj).put Mj uj) = a' := by rfl)
    (hakji : ((((((a.put Nk vk).put Mk uk).put Nj vj).put Mj uj).put Ni vi).put Mi ui) = a' := by rfl)
    (hc : (Region.ready md ops l == [i, j, k] && l.setIfInBounds i true == li && l.setIfInBounds j true == lj && l.setIfInBounds k true == lk) = true := by kernel_rfl)
    (cai : anyB md ops li mi ri = true := by kernel_rfl) (caj : anyB md ops lj mj rj = true := by kernel_rfl) (cak : anyB md ops lk mk rk = true := by kernel_rfl)
    (hci : (Region.ready md ops mi == [j, k] && mi.setIfInBounds j true == lij && mi.setIfInBounds k true == lik) = true := by kernel_rfl)
    (hcj : (Region.ready md ops mj == [i, k] && mj.setIfInBounds i true == lji && mj.setIfInBounds k true == ljk) = true := by kernel_rfl)
    (hck : (Region.ready md ops mk == [i, j] && mk.setIfInBounds i true == lki && mk.setIfInBounds j true == lkj) = true := by kernel_rfl)
    (caij : anyB md ops lij mij rj = true := by kernel_rfl)
    (caik : anyB md ops lik mik rk = true := by kernel_rfl)
    (caji : anyB md ops lji mij ri = true := by kernel_rfl)
    (cajk : anyB md ops ljk mjk rk = true := by kernel_rfl)
    (caki : anyB md ops lki mik ri = true := by kernel_rfl)
    (cakj : anyB md ops lkj mjk rj = true := by kernel_rfl)
    (hdi : readyB md ops mjk ni i = true := by kernel_rfl) (cei : anyB md ops ni lb ri = true := by kernel_rfl)
    (hdj : readyB md ops mik nj j = true := by kernel_rfl) (cej : anyB md ops nj lb rj = true := by kernel_rfl)
    (hdk : readyB md ops mij nk k = true := by kernel_rfl) (cek : anyB md ops nk lb rk = true := by kernel_rfl)
    (hdi0 : i ∉ ds := by decide) (hdj0 : j ∉ ds := by decide) (hdk0 : k ∉ ds := by decide)
    (hQi : ∀ v c a w, Q (.panic c) (Act.put a qi.dst v) w → Q (.panic c) a w := by exact fun _ _ _ _ h => h)
    (hQj : ∀ v c a w, Q (.panic c) (Act.put a qj.dst v) w → Q (.panic c) a w := by exact fun _ _ _ _ h => h)
    (hQk : ∀ v c a w, Q (.panic c) (Act.put a qk.dst v) w → Q (.panic c) a w := by exact fun _ _ _ _ h => h)
    (hwi : Region.wanted oi (yielded ops a.tmps) = true := by rfl) (hvi : Region.wanted qi (yielded ops (a.put Ni vi).tmps) = true := by rfl)
    (hwj : Region.wanted oj (yielded ops a.tmps) = true := by rfl) (hvj : Region.wanted qj (yielded ops (a.put Nj vj).tmps) = true := by rfl)
    (hwk : Region.wanted ok (yielded ops a.tmps) = true := by rfl) (hvk : Region.wanted qk (yielded ops (a.put Nk vk).tmps) = true := by rfl)
    (hwij : Region.wanted oj (yielded ops ((a.put Ni vi).put Mi ui).tmps) = true := by rfl) (hvij : Region.wanted qj (yielded ops (((a.put Ni vi).put Mi ui).put Nj vj).tmps) = true := by rfl)
    (hwik : Region.wanted ok (yielded ops ((a.put Ni vi).put Mi ui).tmps) = true := by rfl) (hvik : Region.wanted qk (yielded ops (((a.put Ni vi).put Mi ui).put Nk vk).tmps) = true := by rfl)
    (hwji : Region.wanted oi (yielded ops ((a.put Nj vj).put Mj uj).tmps) = true := by rfl) (hvji : Region.wanted qi (yielded ops (((a.put Nj vj).put Mj uj).put Ni vi).tmps) = true := by rfl)
    (hwjk : Region.wanted ok (yielded ops ((a.put Nj vj).put Mj uj).tmps) = true := by rfl) (hvjk : Region.wanted qk (yielded ops (((a.put Nj vj).put Mj uj).put Nk vk).tmps) = true := by rfl)
    (hwki : Region.wanted oi (yielded ops ((a.put Nk vk).put Mk uk).tmps) = true := by rfl) (hvki : Region.wanted qi (yielded ops (((a.put Nk vk).put Mk uk).put Ni vi).tmps) = true := by rfl)
    (hwkj : Region.wanted oj (yielded ops ((a.put Nk vk).put Mk uk).tmps) = true := by rfl) (hvkj : Region.wanted qj (yielded ops (((a.put Nk vk).put Mk uk).put Nj vj).tmps) = true := by rfl)
    (hwijk : Region.wanted ok (yielded ops ((((a.put Ni vi).put Mi ui).put Nj vj).put Mj uj).tmps) = true := by rfl) (hvijk : Region.wanted qk (yielded ops (((((a.put Ni vi).put Mi ui).put Nj vj).put Mj uj).put Nk vk).tmps) = true := by rfl)
    (hwikj : Region.wanted oj (yielded ops ((((a.put Ni vi).put Mi ui).put Nk vk).put Mk uk).tmps) = true := by rfl) (hvikj : Region.wanted qj (yielded ops (((((a.put Ni vi).put Mi ui).put Nk vk).put Mk uk).put Nj vj).tmps) = true := by rfl)
    (hwjik : Region.wanted ok (yielded ops ((((a.put Nj vj).put Mj uj).put Ni vi).put Mi ui).tmps) = true := by rfl) (hvjik : Region.wanted qk (yielded ops (((((a.put Nj vj).put Mj uj).put Ni vi).put Mi ui).put Nk vk).tmps) = true := by rfl)
    (hwjki : Region.wanted oi (yielded ops ((((a.put Nj vj).put Mj uj).put Nk vk).put Mk uk).tmps) = true := by rfl) (hvjki : Region.wanted qi (yielded ops (((((a.put Nj vj).put Mj uj).put Nk vk).put Mk uk).put Ni vi).tmps) = true := by rfl)
    (hwkij : Region.wanted oj (yielded ops ((((a.put Nk vk).put Mk uk).put Ni vi).put Mi ui).tmps) = true := by rfl) (hvkij : Region.wanted qj (yielded ops (((((a.put Nk vk).put Mk uk).put Ni vi).put Mi ui).put Nj vj).tmps) = true := by rfl)
    (hwkji : Region.wanted oi (yielded ops ((((a.put Nk vk).put Mk uk).put Nj vj).put Mj uj).tmps) = true := by rfl) (hvkji : Region.wanted qi (yielded ops (((((a.put Nk vk).put Mk uk).put Nj vj).put Mj uj).put Ni vi).tmps) = true := by rfl) : wpAnyLast P md ops Q S ds (fuel + 1 + 1 + 1 + 1 + 1 + 1) l a w :=
  three_ li lj lk hi hj hk hNi hNj hNk hc hdi0 hdj0 hdk0
    (fun K hK => value_ hwi hNi hyi (hK.out _ _ hS fun _ => pk mi hzi rfl (two_ lij lik hj hk hNj hNk hci hdj0 hdk0
      (fun K hK => value_ hwij hNj hyij (hK.out _ _ hS fun _ => pk mij hzij rfl (ek nk hyijk hS rfl (pk lb hzijk rfl (haijk ▸ h) gk hMk cek (fun c a w => hQk _ c a w) hvijk) hk hNk hdk hdk0 hwijk) gj hMj caij (fun c a w => hQj _ c a w) hvij))
      (fun K hK => value_ hwik hNk hyik (hK.out _ _ hS fun _ => pk mik hzik rfl (ek nj hyikj hS rfl (pk lb hzikj rfl (haikj ▸ h) gj hMj cej (fun c a w => hQj _ c a w) hvikj) hj hNj hdj hdj0 hwikj) gk hMk caik (fun c a w => hQk _ c a w) hvik))) gi hMi cai (fun c a w => hQi _ c a w) hvi))
    (fun K hK => value_ hwj hNj hyj (hK.out _ _ hS fun _ => pk mj hzj rfl (two_ lji ljk hi hk hNi hNk hcj hdi0 hdk0
      (fun K hK => value_ hwji hNi hyji (hK.out _ _ hS fun _ => pk mij hzji rfl (ek nk hyjik hS rfl (pk lb hzjik rfl (hajik ▸ h) gk hMk cek (fun c a w => hQk _ c a w) hvjik) hk hNk hdk hdk0 hwjik) gi hMi caji (fun c a w => hQi _ c a w) hvji))
      (fun K hK => value_ hwjk hNk hyjk (hK.out _ _ hS fun _ => pk mjk hzjk rfl (ek ni hyjki hS rfl (pk lb hzjki rfl (hajki ▸ h) gi hMi cei (fun c a w => hQi _ c a w) hvjki) hi hNi hdi hdi0 hwjki) gk hMk cajk (fun c a w => hQk _ c a w) hvjk))) gj hMj caj (fun c a w => hQj _ c a w) hvj))
    (fun K hK => value_ hwk hNk hyk (hK.out _ _ hS fun _ => pk mk hzk rfl (two_ lki lkj hi hj hNi hNj hck hdi0 hdj0
      (fun K hK => value_ hwki hNi hyki (hK.out _ _ hS fun _ => pk mik hzki rfl (ek nj hykij hS rfl (pk lb hzkij rfl (hakij ▸ h) gj hMj cej (fun c a w => hQj _ c a w) hvkij) hj hNj hdj hdj0 hwkij) gi hMi caki (fun c a w => hQi _ c a w) hvki))
      (fun K hK => value_ hwkj hNj hykj (hK.out _ _ hS fun _ => pk mjk hzkj rfl (ek ni hykji hS rfl (pk lb hzkji rfl (hakji ▸ h) gi hMi cei (fun c a w => hQi _ c a w) hvkji) hi hNi hdi hdi0 hwkji) gj hMj cakj (fun c a w => hQj _ c a w) hvkj))) gk hMk cak (fun c a w => hQk _ c a w) hvk))
end
end Go.Proofs.YtdnhfofmfpgmmaaW.PrintWords
