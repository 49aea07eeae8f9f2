/- This file proves that readings at equal small steps take two bytes each behind the first. -/
import Derived.Test.YtgmiilolikbekaaPPacketCompactx3
import Derived.Test.YtgmiilolikbekaaBase
set_option linter.unusedVariables false
namespace Go.Proofs.Ytgmiilolikbekaa.Pure
open Go.RowKit Go.Proofs.Ytgmiilolikbekaa.PPacketCompact Go.Proofs.YtgmiilolikbekaaW.PrintWords Go.Proofs.YtgmiilolikbekaaW.PrintLast Go.Proofs.YtgmiilolikbekaaW.PrintMore Go.Proofs.Ytgmiilolikbekaa.Base
/-! ### numbers as bytes -/
def foldN (n : Int) : Nat := if 0 ≤ n then (2 * n).toNat else (-2 * n - 1).toNat
theorem wu64 (n : Int) : IntKind.u64.wrap n = n % 18446744073709551616 := by
  have e : (2 : Int) ^ IntKind.u64.bits = 18446744073709551616 := rfl
  simp [IntKind.wrap, IntKind.bits, IntKind.signed]
theorem xor_ones (a : Nat) (h : a < 18446744073709551616) : Go.bits .xor .u64 (a : Int) 18446744073709551615 = ((18446744073709551615 - a : Nat) : Int) := by
  have e : BitVec.ofInt 64 18446744073709551615 = BitVec.allOnes 64 := by decide
  have e2 : BitVec.ofInt 64 (a : Int) = BitVec.ofNat 64 a := BitVec.ofInt_natCast 64 a
  show IntKind.u64.wrap ((BitVec.ofInt 64 (a : Int) ^^^ BitVec.ofInt 64 18446744073709551615).toNat : Int) = _
  rw [e, e2, BitVec.xor_allOnes, BitVec.toNat_not, BitVec.toNat_ofNat, wu64]
  have : (2 : Nat) ^ 64 = 18446744073709551616 := rfl
  omega
theorem xor_zero64 (a : Nat) (h : a < 18446744073709551616) : Go.bits .xor .u64 (a : Int) 0 = (a : Int) := by
  have e2 : BitVec.ofInt 64 (a : Int) = BitVec.ofNat 64 a := BitVec.ofInt_natCast 64 a
  have e : BitVec.ofInt 64 0 = 0#64 := by decide
  show IntKind.u64.wrap ((BitVec.ofInt 64 (a : Int) ^^^ BitVec.ofInt 64 0).toNat : Int) = _
  rw [e, e2, BitVec.xor_zero, BitVec.toNat_ofNat, wu64]
  have : (2 : Nat) ^ 64 = 18446744073709551616 := rfl
  omega
theorem foldN_lt {n : Int} (h1 : -9223372036854775808 ≤ n) (h2 : n ≤ 9223372036854775807) : foldN n < 18446744073709551616 := by unfold foldN; split <;> omega
theorem fold_is {n : Int} (h1 : -9223372036854775808 ≤ n) (h2 : n ≤ 9223372036854775807) : Go.bits .xor .u64 (IntKind.u64.wrap ((IntKind.u64.wrap n) * 2)) (IntKind.u64.wrap (n / 9223372036854775808)) = (foldN n : Int) := by
  rw [wu64, wu64, wu64]
  by_cases h : 0 ≤ n
  · have e1 : n % 18446744073709551616 * 2 % 18446744073709551616 = ((2 * n).toNat : Int) := by omega
    have e2 : n / 9223372036854775808 % 18446744073709551616 = 0 := by omega
    rw [e1, e2, xor_zero64 _ (by omega)]
    unfold foldN
    rw [if_pos h]
  · have e1 : n % 18446744073709551616 * 2 % 18446744073709551616 = ((2 * n + 18446744073709551616).toNat : Int) := by omega
    have e2 : n / 9223372036854775808 % 18446744073709551616 = 18446744073709551615 := by omega
    rw [e1, e2, xor_ones _ (by omega)]
    unfold foldN
    rw [if_neg h]
    omega
def encN (u : Nat) : List Int := if h : u < 128 then [(u : Int)] else ((u % 128 + 128 : Nat) : Int) :: encN (u / 128)
termination_by u
decreasing_by omega
theorem encN_short {u : Nat} (h : u < 128) : encN u = [(u : Int)] := by rw [encN, dif_pos h]
theorem encN_long {u : Nat} (h : ¬ u < 128) : encN u = ((u % 128 + 128 : Nat) : Int) :: encN (u / 128) := by rw [encN, dif_neg h]
theorem encN_pos (u : Nat) : 1 ≤ (encN u).length := by
  by_cases h : u < 128
  · rw [encN_short h]
    exact Nat.le_refl _
  · rw [encN_long h]
    simp
theorem encN_len : ∀ (k u : Nat), u < 128 ^ (k + 1) → (encN u).length ≤ k + 1
  | 0, u, h => by rw [encN_short (by simpa using h)]; exact Nat.le_refl _
  | k + 1, u, h => by
    by_cases hu : u < 128
    · rw [encN_short hu]
      simp
    · rw [encN_long hu]
      have := encN_len k (u / 128) (by rw [Nat.pow_succ] at h; exact Nat.div_lt_of_lt_mul (by rw [Nat.mul_comm]; exact h))
      simpa using this
theorem encN_ten {u : Nat} (h : u < 18446744073709551616) : (encN u).length ≤ 10 := encN_len 9 u (Nat.lt_of_lt_of_le h (by decide))
theorem encN_mono : ∀ (k u v : Nat), u < k → u ≤ v → (encN u).length ≤ (encN v).length
  | 0, u, v, h, _ => absurd h (Nat.not_lt_zero _)
  | k + 1, u, v, h, huv => by
    by_cases hu : u < 128
    · rw [encN_short hu]
      exact encN_pos v
    · rw [encN_long hu, encN_long (show ¬ v < 128 by omega)]
      have := encN_mono k (u / 128) (v / 128) (by omega) (by omega)
      simpa using this
theorem or_high : ∀ i < 256, Go.bits .or .u8 ((i : Nat) : Int) 128 = ((i % 128 + 128 : Nat) : Int) := by decide +kernel
theorem put_loop : ∀ (k u : Nat), u < k → ∀ (out : List Int), out.length + (encN u).length ≤ 140737488355328 → Ev (fun n => codec_PutInt.l0 n (u : Int) out) (out ++ encN u)
  | 0, u, h, _, _ => absurd h (Nat.not_lt_zero _)
  | k + 1, u, h, out, hb => by
    have hp := encN_pos u
    refine Ev.step (fun n => by rw [codec_PutInt.l0]) ?_
    by_cases hu : u < 128
    · refine Ev.neg (by omega) (Ev.pos (by omega) ?_)
      rw [encN_short hu]
      have e : (u : Int) % 256 = u := by omega
      rw [e]
      exact Ev.now _
    · rw [encN_long hu] at hb ⊢
      have hp' := encN_pos (u / 128)
      rw [List.length_cons] at hb
      refine Ev.pos (by omega) (Ev.pos (by omega) ?_)
      have e1 : (u : Int) / 128 = ((u / 128 : Nat) : Int) := by omega
      have e2 : (u : Int) % 256 = ((u % 256 : Nat) : Int) := by omega
      have e3 : u % 256 % 128 = u % 128 := by omega
      rw [e1, e2, or_high _ (by omega), e3]
      have := put_loop k (u / 128) (by omega) (out ++ [((u % 128 + 128 : Nat) : Int)]) (by rw [List.length_append, List.length_singleton]; omega)
      rw [List.append_assoc] at this
      exact this
theorem put_is {n : Int} (h1 : -9223372036854775808 ≤ n) (h2 : n ≤ 9223372036854775807) (l : List Int) (hl : l.length ≤ 1000000) : Ev (fun k => codec_PutInt.f k l n) (l ++ encN (foldN n)) := by
  have h3 := encN_ten (foldN_lt h1 h2)
  unfold codec_PutInt.f
  refine Ev.pos (by simp; omega) ?_
  rw [fold_is h1 h2, List.nil_append]
  exact put_loop _ _ (Nat.lt_succ_self _) l (by omega)
/-! ### the law's own writer of numbers -/
theorem folded_is {n : Int} (h1 : -9223372036854775808 ≤ n) (h2 : n ≤ 9223372036854775807) : shapesearchref03_Folded.f n = some (foldN n : Int) := by
  unfold shapesearchref03_Folded.f foldN
  by_cases h : 0 ≤ n
  · rw [if_pos h, if_pos h, wu64, wu64]
    congr 1
    omega
  · rw [if_neg h, if_neg h, w64 (n := n + 1) (by omega) (by omega), w64 (n := -(n + 1)) (by omega) (by omega), wu64, wu64, wu64]
    congr 1
    omega
theorem refput_loop : ∀ (k u : Nat), u < k → u < 18446744073709551616 → ∀ (out : List Int), out.length + (encN u).length ≤ 140737488355328 → Ev (fun n => shapesearchref03_PutInt.l0 n out (u : Int)) (out ++ encN u)
  | 0, u, h, _, _, _ => absurd h (Nat.not_lt_zero _)
  | k + 1, u, h, h64, out, hb => by
    have hp := encN_pos u
    refine Ev.step (fun n => by rw [shapesearchref03_PutInt.l0]) ?_
    by_cases hu : u < 128
    · refine Ev.neg (by omega) (Ev.pos (by omega) ?_)
      rw [encN_short hu]
      have e : (u : Int) % 256 = u := by omega
      rw [e]
      exact Ev.now _
    · rw [encN_long hu] at hb ⊢
      have hp' := encN_pos (u / 128)
      rw [List.length_cons] at hb
      refine Ev.pos (by omega) (Ev.pos (by omega) ?_)
      have e1 : Int.tdiv (u : Int) 128 = ((u / 128 : Nat) : Int) := rfl
      have e2 : Int.tmod (u : Int) 128 = ((u % 128 : Nat) : Int) := rfl
      have e3 : IntKind.u64.wrap ((u / 128 : Nat) : Int) = ((u / 128 : Nat) : Int) := by rw [wu64]; omega
      have e4 : IntKind.u64.wrap (((u % 128 : Nat) : Int) + 128) % 256 = ((u % 128 + 128 : Nat) : Int) := by rw [wu64]; omega
      rw [e1, e2, e3, e4]
      have := refput_loop k (u / 128) (by omega) (by omega) (out ++ [((u % 128 + 128 : Nat) : Int)]) (by rw [List.length_append, List.length_singleton]; omega)
      rw [List.append_assoc] at this
      exact this
theorem refput_is {n : Int} (h1 : -9223372036854775808 ≤ n) (h2 : n ≤ 9223372036854775807) (l : List Int) (hl : l.length ≤ 1000000) : Ev (fun k => shapesearchref03_PutInt.f k l n) (l ++ encN (foldN n)) := by
  have h3 := encN_ten (foldN_lt h1 h2)
  unfold shapesearchref03_PutInt.f
  refine Ev.bind (Ev.now _) (Ev.pos (by simp; omega) ?_)
  rw [folded_is h1 h2, List.nil_append]
  exact Ev.bind (Ev.now _) (refput_loop _ _ (Nat.lt_succ_self _) (foldN_lt h1 h2) l (by omega))
theorem refsum_ev (l : List Int) (hl : l.length ≤ 1000000) : EvP (fun k => shapesearchref03_Sum.f k l) (fun _ => True) := by
  have key : ∀ (d i : Nat), i + d = l.length → ∀ x : Int, EvP (fun k => shapesearchref03_Sum.l0 k l x (l.length : Int) (i : Int)) (fun _ => True) := by
    intro d
    induction d with
    | zero =>
      intro i hi x
      exact EvP.step (fun k => by rw [shapesearchref03_Sum.l0]) (EvP.neg (by omega) (EvP.ret trivial))
    | succ d ih =>
      intro i hi x
      refine EvP.step (fun k => by rw [shapesearchref03_Sum.l0]) (EvP.pos (by omega) (EvP.pos (by omega) (EvP.pos (by omega) ?_)))
      have inner : ∀ (e j : Nat), j + e = 8 → ∀ y : Int, EvP (fun k => shapesearchref03_Sum.l1 k l y (j : Int) (l.length : Int) (i : Int)) (fun _ => True) := by
        intro e
        induction e with
        | zero =>
          intro j hj y
          refine EvP.step (fun k => by rw [shapesearchref03_Sum.l1]) (EvP.neg (by omega) ?_)
          rw [w_succ (by omega)]
          exact ih (i + 1) (by omega) y
        | succ e ih2 =>
          intro j hj y
          have hj1 : j + 1 + e = 8 := by omega
          refine EvP.step (fun k => by rw [shapesearchref03_Sum.l1]) (EvP.pos (by omega) ?_)
          rw [w_succ (by omega)]
          exact EvP.ite (fun _ => ih2 (j + 1) hj1 _) (fun _ => ih2 (j + 1) hj1 _)
      exact inner 8 0 rfl _
  exact key l.length 0 (by omega) _
theorem refsealed_ev (l : List Int) (hl : l.length ≤ 1000000) : EvP (fun k => shapesearchref03_Sealed.f k l) (fun r => r.length = l.length + 4) := by
  unfold shapesearchref03_Sealed.f
  refine EvP.bind (refsum_ev l hl) (fun s _ => EvP.bind1 (Ev.now _) (EvP.pos (by simp; omega) (EvP.bind1 (Ev.now _) (EvP.bind1 (Ev.now _) (EvP.pos (by simp; omega) (EvP.ret ?_))))))
  simp
/-! ### readings as bytes -/
def Vrd (r : S25) : Prop := 0 ≤ r.f0 ∧ r.f0 ≤ 1099511627776 ∧ -1000 ≤ r.f1 ∧ r.f1 ≤ 1000
def sealB (b : List Int) : List Int := b ++ [(X.crc b) % 256, (X.crc b / 256) % 256, (X.crc b / 65536) % 256, (X.crc b / 16777216) % 256]
def encR : Int → Int → List S25 → List Int
  | _, _, [] => []
  | p, q, r :: l => encN (foldN (r.f0 - p)) ++ encN (foldN (r.f1 - q)) ++ encR r.f0 r.f1 l
theorem rdT_nat (l : List S25) (i : Nat) (h : i < l.length) : rd_T25 l (i : Int) = l[i] := by
  unfold rd_T25
  rw [Int.toNat_natCast, List.getD_eq_getElem?_getD, List.getElem?_eq_getElem h]
  rfl
theorem valid_is {r : S25} (h : Vrd r) : packet_valid.f r.f0 r.f1 = some true := by
  obtain ⟨h1, h2, h3, h4⟩ := h
  unfold packet_valid.f
  rw [if_pos h1, if_pos h2, if_pos h3, decide_eq_true h4]
theorem encR_len : ∀ (l : List S25), (∀ r ∈ l, Vrd r) → ∀ p q : Int, 0 ≤ p → p ≤ 1099511627776 → -1000 ≤ q → q ≤ 1000 → (encR p q l).length ≤ 20 * l.length
  | [], _, _, _, _, _, _, _ => by simp [encR]
  | r :: l, h, p, q, p0, p1, q0, q1 => by
    obtain ⟨h1, h2, h3, h4⟩ := h r (by simp)
    have ih := encR_len l (fun s hs => h s (by simp [hs])) r.f0 r.f1 h1 h2 h3 h4
    have a := encN_ten (foldN_lt (n := r.f0 - p) (by omega) (by omega))
    have b := encN_ten (foldN_lt (n := r.f1 - q) (by omega) (by omega))
    simp only [encR, List.length_append, List.length_cons]
    omega
theorem Encode_l0 (x4 : List Int) (h4 : x4.length ≤ 100) (l : List S25) (hv : ∀ r ∈ l, Vrd r) (hl : l.length ≤ 2000) (d : Nat) :
    ∀ (i : Nat) (x6 : List Int) (p q : Int), i + d = l.length → x6.length ≤ 20 * i → 0 ≤ p → p ≤ 1099511627776 → -1000 ≤ q → q ≤ 1000 →
      Ev (fun k => packet_Encode.l0 k x4 x6 l (l.length : Int) (i : Int) p q) (sealB (x4 ++ (x6 ++ encR p q (l.drop i))), 0) := by
  induction d with
  | zero =>
    intro i x6 p q hi h6 p0 p1 q0 q1
    refine Ev.step (fun k => by rw [packet_Encode.l0]) (Ev.neg (by omega) (Ev.pos (by omega) ?_))
    rw [show l.drop i = [] from List.drop_eq_nil_of_le (by omega)]
    have e : encR p q [] = [] := rfl
    rw [e, List.append_nil]
    refine Ev.bind (Ev.now _) (Ev.bind (Ev.now (X.crc (x4 ++ x6))) (Ev.bind (Ev.now _) (Ev.pos (by simp; omega) (Ev.now _))))
  | succ d ih =>
    intro i x6 p q hi h6 p0 p1 q0 q1
    have hlt : i < l.length := by omega
    have hi1 : i + 1 + d = l.length := by omega
    have hr := hv l[i] (List.getElem_mem _)
    have hr' := hr
    obtain ⟨h1, h2, h3, h5⟩ := hr'
    refine Ev.step (fun k => by rw [packet_Encode.l0]) (Ev.pos (by omega) (Ev.pos (by omega) (Ev.pos (by omega) ?_)))
    rw [rdT_nat l i hlt, valid_is hr, List.drop_eq_getElem_cons hlt, w_succ (by omega)]
    generalize l[i] = r at *
    have a := encN_ten (foldN_lt (n := r.f0 - p) (by omega) (by omega))
    have b := encN_ten (foldN_lt (n := r.f1 - q) (by omega) (by omega))
    rw [w64 (n := r.f0 - p) (by omega) (by omega), w64 (n := r.f1 - q) (by omega) (by omega)]
    refine Ev.bind (Ev.now _) (Ev.pos rfl (Ev.bind (put_is (by omega) (by omega) [] (by simp)) (Ev.bind (put_is (by omega) (by omega) _ (by simp; omega)) ?_)))
    rw [List.nil_append]
    refine Ev.pos (by rw [List.length_append]; omega) ?_
    have := ih (i + 1) (x6 ++ (encN (foldN (r.f0 - p)) ++ encN (foldN (r.f1 - q)))) r.f0 r.f1 hi1 (by rw [List.length_append, List.length_append]; omega) h1 h2 h3 h5
    rw [List.append_assoc] at this
    exact this
theorem Encode_is (l : List S25) (hv : ∀ r ∈ l, Vrd r) (hl : l.length ≤ 2000) : Ev (fun k => packet_Encode.f k l) (sealB (([84, 83, 49] ++ encN (foldN (l.length : Int))) ++ encR 0 0 l), 0) := by
  unfold packet_Encode.f
  refine Ev.neg (by omega) (Ev.bind (put_is (by omega) (by omega) _ (by simp)) ?_)
  have a := encN_ten (foldN_lt (n := (l.length : Int)) (by omega) (by omega))
  have := Encode_l0 ([84, 83, 49] ++ encN (foldN (l.length : Int))) (by simp; omega) l hv hl l.length 0 [] 0 0 (by omega) (by simp) (by omega) (by omega) (by omega) (by omega)
  rw [List.drop_zero, List.nil_append] at this
  exact this
theorem awake_is : Ev (fun k => shapesearchlaw06_awake.f k) true := Ev.of shapesearchlaw06_awake.mono (k := 40) (by decide +kernel)
theorem refvalid_is {r : S25} (h : Vrd r) : shapesearchref05_Valid.f r.f0 r.f1 = some true := by
  obtain ⟨h1, h2, h3, h4⟩ := h
  unfold shapesearchref05_Valid.f shapesearchref04_Sample.f
  rw [if_pos h1, if_pos h2, if_pos h3, decide_eq_true h4]
  rfl
/-- The law's own writer, of one reading. -/
theorem refone {r : S25} (h : Vrd r) : EvP (fun k => shapesearchref06_Encode.f k [r]) (fun x => x.1.length = 8 + (encN (foldN r.f0)).length + (encN (foldN r.f1)).length ∧ x.2 = 0) := by
  have hv := refvalid_is h
  obtain ⟨h1, h2, h3, h4⟩ := h
  have e0 : rd_T25 [r] 0 = r := rfl
  have l1 : (([r] : List S25).length : Int) = 1 := rfl
  have chk : Ev (fun k => shapesearchref05_Check.f k [r]) 0 := by
    unfold shapesearchref05_Check.f
    refine Ev.neg (by (try rw [l1]); decide) (Ev.step (fun k => by rw [shapesearchref05_Check.l0]) (Ev.pos (by (try rw [l1]); decide) (Ev.pos (by (try rw [l1]); decide) (Ev.pos (by (try rw [l1]); decide) ?_))))
    rw [e0, hv]
    refine Ev.bind (Ev.now _) (Ev.pos rfl (Ev.step (fun k => by rw [shapesearchref05_Check.l0]) (Ev.neg (by rw [l1, w64 (by omega) (by omega)]; decide) (Ev.now _))))
  have a := encN_ten (foldN_lt (n := r.f0) (by omega) (by omega))
  have b := encN_ten (foldN_lt (n := r.f1) (by omega) (by omega))
  unfold shapesearchref06_Encode.f
  refine EvP.bind1 chk (EvP.pos rfl (EvP.bind1 (refput_is (n := 1) (by omega) (by omega) [84, 83, 49] (by simp)) ?_))
  have e1 : encN (foldN 1) = [2] := encN_short (u := 2) (by omega)
  rw [e1]
  refine EvP.step (fun k => by rw [shapesearchref06_Encode.l0]) (EvP.pos (by (try rw [l1]); decide) (EvP.pos (by (try rw [l1]); decide) (EvP.pos (by (try rw [l1]); decide) ?_)))
  rw [e0, Int.sub_zero, Int.sub_zero, w64 (n := r.f0) (by omega) (by omega), w64 (n := r.f1) (by omega) (by omega)]
  refine EvP.bind1 (refput_is (by omega) (by omega) _ (by simp)) (EvP.bind1 (refput_is (by omega) (by omega) _ (by simp; omega)) ?_)
  refine EvP.step (fun k => by rw [shapesearchref06_Encode.l0]) (EvP.neg (by rw [l1, w64 (by omega) (by omega)]; decide) ?_)
  refine EvP.bind (refsealed_ev _ (by simp; omega)) (fun s hs => EvP.ret ⟨?_, rfl⟩)
  dsimp only
  rw [hs]
  simp
  omega
/-- Readings at equal steps. -/
def ari (t v dt dv : Int) : Nat → List S25
  | 0 => []
  | n + 1 => ⟨t, v⟩ :: ari (t + dt) (v + dv) dt dv n
theorem ari_len : ∀ (n : Nat) (t v dt dv : Int), (ari t v dt dv n).length = n
  | 0, _, _, _, _ => rfl
  | n + 1, t, v, dt, dv => by simp only [ari, List.length_cons, ari_len n]
theorem ari_snoc : ∀ (n : Nat) (t v dt dv : Int), ari t v dt dv n ++ [⟨t + n * dt, v + n * dv⟩] = ari t v dt dv (n + 1)
  | 0, t, v, dt, dv => by simp [ari]
  | n + 1, t, v, dt, dv => by
    have ih := ari_snoc n (t + dt) (v + dv) dt dv
    have e : ((n + 1 : Nat) : Int) = (n : Int) + 1 := by omega
    have e1 : t + ((n : Int) + 1) * dt = t + dt + n * dt := by rw [Int.add_mul]; omega
    have e2 : v + ((n : Int) + 1) * dv = v + dv + n * dv := by rw [Int.add_mul]; omega
    rw [e, e1, e2]
    show ⟨t, v⟩ :: (ari (t + dt) (v + dv) dt dv n ++ _) = ⟨t, v⟩ :: ari (t + dt) (v + dv) dt dv (n + 1)
    rw [ih]
theorem encR_ari {dt dv : Int} (h1 : 0 ≤ dt) (h2 : dt ≤ 63) (h3 : -63 ≤ dv) (h4 : dv ≤ 63) : ∀ (n : Nat) (t v : Int), (encR t v (ari (t + dt) (v + dv) dt dv n)).length = 2 * n
  | 0, _, _ => rfl
  | n + 1, t, v => by
    have ih := encR_ari h1 h2 h3 h4 n (t + dt) (v + dv)
    have e1 : t + dt - t = dt := by omega
    have e2 : v + dv - v = dv := by omega
    simp only [ari, encR, e1, e2]
    rw [encN_short (u := foldN dt) (by unfold foldN; split <;> omega), encN_short (u := foldN dv) (by unfold foldN; split <;> omega), List.length_append, ih]
    simp
    omega
theorem sealB_len (b : List Int) : (sealB b).length = b.length + 4 := by simp [sealB]
theorem compact_j1 {dt dv t : Int} (h1 : 0 ≤ dt) (h2 : dt ≤ 63) (h3 : -63 ≤ dv) (h4 : dv ≤ 63) (n : Nat) (hn : n ≤ 60) (hv : ∀ r ∈ ari t 0 dt dv n, Vrd r) :
    EvP (fun k => shapesearchlaw06_PacketCompact.j1 k (ari t 0 dt dv n)) (fun x => x = true) := by
  have hl := ari_len n t 0 dt dv
  have enc := Encode_is _ hv (by omega)
  refine EvP.step (fun k => by rw [shapesearchlaw06_PacketCompact.j1]) (EvP.bind1 enc ?_)
  have hn1 : (encN (foldN ((ari t 0 dt dv n).length : Int))).length = 1 := by
    rw [hl, encN_short (u := foldN (n : Int)) (by unfold foldN; split <;> omega)]
    rfl
  have lb : (sealB (([84, 83, 49] ++ encN (foldN ((ari t 0 dt dv n).length : Int))) ++ encR 0 0 (ari t 0 dt dv n))).length = 8 + (encR 0 0 (ari t 0 dt dv n)).length := by
    rw [sealB_len, List.length_append, List.length_append, hn1]
    simp
    omega
  dsimp only
  rw [lb]
  cases n with
  | zero => exact EvP.pos rfl (EvP.pos rfl (EvP.pos rfl (EvP.bind1 awake_is (EvP.ret rfl))))
  | succ m =>
    have e1 : (ari t 0 dt dv (m + 1)).take 1 = [⟨t, 0⟩] := rfl
    rw [e1]
    refine EvP.neg (by omega) (EvP.pos (by omega) (EvP.bind (refone (hv ⟨t, 0⟩ (by simp [ari]))) (fun x hx => ?_)))
    have e2 : (encR 0 0 (ari t 0 dt dv (m + 1))).length = (encN (foldN t)).length + (encN (foldN 0)).length + 2 * m := by
      have e := encR_ari h1 h2 h3 h4 m t 0
      simp only [ari, encR, Int.sub_zero]
      rw [List.length_append, List.length_append, e]
    have ht := hv ⟨t, 0⟩ (by simp [ari])
    obtain ⟨t0, t1, _, _⟩ := ht
    dsimp only at t0 t1
    have a := encN_ten (foldN_lt (n := t) (by omega) (by omega))
    have b := encN_ten (foldN_lt (n := 0) (by omega) (by omega))
    refine EvP.pos rfl (EvP.pos ?_ (EvP.bind1 awake_is (EvP.ret rfl)))
    have hx1 := hx.1
    dsimp only at hx1
    rw [hx1, hl, e2]
    have e3 : wrap64 (((m + 1 : Nat) : Int) - 1) = m := by rw [w64 (by omega) (by omega)]; omega
    rw [e3, w64 (n := 2 * (m : Int)) (by omega) (by omega), w64 (by omega) (by omega)]
    omega
theorem PacketCompact : shapesearchlaw06_PacketCompact.Pure := by
  intro a0 a1 a2 a3 h0 h1 h2 h3
  refine EvP.rounds ?_
  unfold shapesearchlaw06_PacketCompact.f
  have u0 := b_u32 h0
  have u1 := b_u8 h1
  have u2 := b_u8 h2
  have u3 := b_u8 h3
  rw [w64 (n := a0) (by omega) (by omega)]
  have m1 : Int.tmod (wrap64 a1) 64 = a1 % 64 := by rw [w64 (n := a1) (by omega) (by omega), Int.tmod_eq_emod_of_nonneg (by omega)]
  have m2 : wrap64 (Int.tmod (wrap64 a2) 127 - 63) = a2 % 127 - 63 := by rw [w64 (n := a2) (by omega) (by omega), Int.tmod_eq_emod_of_nonneg (by omega), w64 (by omega) (by omega)]
  have m3 : Int.tmod (wrap64 a3) 60 = a3 % 60 := by rw [w64 (n := a3) (by omega) (by omega), Int.tmod_eq_emod_of_nonneg (by omega)]
  have key : ∀ (d i : Nat) (t v : Int), i + d = 60 → t = a0 + i * (a1 % 64) → v = 0 + i * (a2 % 127 - 63) → -900 ≤ v → v ≤ 900 → a0 ≤ t → t ≤ a0 + 63 * i → (∀ r ∈ ari a0 0 (a1 % 64) (a2 % 127 - 63) i, Vrd r) →
      EvP (fun k => shapesearchlaw06_PacketCompact.l0 k a1 a2 a3 (ari a0 0 (a1 % 64) (a2 % 127 - 63) i) t v (i : Int)) (fun x => x = true) := by
    intro d
    induction d with
    | zero =>
      intro i t v hi ht hv v0 v1 t0 t1 hr
      refine EvP.step (fun k => by rw [shapesearchlaw06_PacketCompact.l0]) (EvP.neg (by rw [m3]; omega) ?_)
      exact compact_j1 (by omega) (by omega) (by omega) (by omega) i (by omega) hr
    | succ d ih =>
      intro i t v hi ht hv v0 v1 t0 t1 hr
      have hi1 : i + 1 + d = 60 := by omega
      have hn : ((i + 1 : Nat) : Int) = (i : Int) + 1 := by omega
      have hla := ari_len i a0 0 (a1 % 64) (a2 % 127 - 63)
      refine EvP.step (fun k => by rw [shapesearchlaw06_PacketCompact.l0]) (EvP.ite (fun _ => EvP.pos (by omega) ?_) (fun _ => ?_))
      · rw [m1, m2, w_succ (by omega), w64 (n := v + (a2 % 127 - 63)) (by omega) (by omega), w64 (n := t + a1 % 64) (by omega) (by omega)]
        have es : ari a0 0 (a1 % 64) (a2 % 127 - 63) i ++ [(⟨t, v⟩ : S25)] = ari a0 0 (a1 % 64) (a2 % 127 - 63) (i + 1) := by
          rw [ht, hv]
          exact ari_snoc i a0 0 _ _
        have hr' : ∀ r ∈ ari a0 0 (a1 % 64) (a2 % 127 - 63) (i + 1), Vrd r := by
          rw [← es]
          intro r h
          rcases List.mem_append.1 h with h | h
          · exact hr r h
          · have : r = ⟨t, v⟩ := by simpa using h
            subst this
            exact ⟨by dsimp only; omega, by dsimp only; omega, by dsimp only; omega, by dsimp only; omega⟩
        rw [es]
        refine EvP.bind1 (Ev.now _) (EvP.ite (fun _ => ?_) (fun _ => EvP.ite (fun _ => ?_) (fun _ => ?_)))
        · exact compact_j1 (by omega) (by omega) (by omega) (by omega) (i + 1) (by omega) hr'
        · exact compact_j1 (by omega) (by omega) (by omega) (by omega) (i + 1) (by omega) hr'
        · exact ih (i + 1) _ _ hi1 (by rw [hn, Int.add_mul, ht]; omega) (by rw [hn, Int.add_mul, hv]; omega) (by omega) (by omega) (by omega) (by rw [hn]; omega) hr'
      · exact compact_j1 (by omega) (by omega) (by omega) (by omega) i (by omega) hr
  exact key 60 0 a0 0 rfl (by omega) (by omega) (by omega) (by omega) (by omega) (by omega) (fun r h => by cases h)

end Go.Proofs.Ytgmiilolikbekaa.Pure
