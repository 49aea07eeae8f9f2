/- This file proves that two lists of readings have the same bytes just when they are the same. -/
import Derived.Test.YtgmiilolikbekaaPPacketOrdersx4
import Derived.Test.YtgmiilolikbekaaBase
set_option linter.unusedVariables false
namespace Go.Proofs.Ytgmiilolikbekaa.Pure
open Go.RowKit Go.Proofs.Ytgmiilolikbekaa.PPacketOrders Go.Proofs.YtgmiilolikbekaaW.PrintWords Go.Proofs.YtgmiilolikbekaaW.PrintLast Go.Proofs.YtgmiilolikbekaaW.PrintMore Go.Proofs.Ytgmiilolikbekaa.Base
/-! ### numbers as bytes -/
def foldN (n : Int) : Nat := if 0 ≤ n then (2 * n).toNat else (-2 * n - 1).toNat
theorem wu64 (n : Int) : IntKind.u64.wrap n = n % 18446744073709551616 := by
  have e : (2 : Int) ^ IntKind.u64.bits = 18446744073709551616 := rfl
  simp [IntKind.wrap, IntKind.bits, IntKind.signed]
theorem xor_ones (a : Nat) (h : a < 18446744073709551616) : Go.bits .xor .u64 (a : Int) 18446744073709551615 = ((18446744073709551615 - a : Nat) : Int) := by
  have e : BitVec.ofInt 64 18446744073709551615 = BitVec.allOnes 64 := by decide
  have e2 : BitVec.ofInt 64 (a : Int) = BitVec.ofNat 64 a := BitVec.ofInt_natCast 64 a
  show IntKind.u64.wrap ((BitVec.ofInt 64 (a : Int) ^^^ BitVec.ofInt 64 18446744073709551615).toNat : Int) = _
  rw [e, e2, BitVec.xor_allOnes, BitVec.toNat_not, BitVec.toNat_ofNat, wu64]
  have : (2 : Nat) ^ 64 = 18446744073709551616 := rfl
  omega
theorem xor_zero64 (a : Nat) (h : a < 18446744073709551616) : Go.bits .xor .u64 (a : Int) 0 = (a : Int) := by
  have e2 : BitVec.ofInt 64 (a : Int) = BitVec.ofNat 64 a := BitVec.ofInt_natCast 64 a
  have e : BitVec.ofInt 64 0 = 0#64 := by decide
  show IntKind.u64.wrap ((BitVec.ofInt 64 (a : Int) ^^^ BitVec.ofInt 64 0).toNat : Int) = _
  rw [e, e2, BitVec.xor_zero, BitVec.toNat_ofNat, wu64]
  have : (2 : Nat) ^ 64 = 18446744073709551616 := rfl
  omega
theorem foldN_lt {n : Int} (h1 : -9223372036854775808 ≤ n) (h2 : n ≤ 9223372036854775807) : foldN n < 18446744073709551616 := by unfold foldN; split <;> omega
theorem fold_is {n : Int} (h1 : -9223372036854775808 ≤ n) (h2 : n ≤ 9223372036854775807) : Go.bits .xor .u64 (IntKind.u64.wrap ((IntKind.u64.wrap n) * 2)) (IntKind.u64.wrap (n / 9223372036854775808)) = (foldN n : Int) := by
  rw [wu64, wu64, wu64]
  by_cases h : 0 ≤ n
  · have e1 : n % 18446744073709551616 * 2 % 18446744073709551616 = ((2 * n).toNat : Int) := by omega
    have e2 : n / 9223372036854775808 % 18446744073709551616 = 0 := by omega
    rw [e1, e2, xor_zero64 _ (by omega)]
    unfold foldN
    rw [if_pos h]
  · have e1 : n % 18446744073709551616 * 2 % 18446744073709551616 = ((2 * n + 18446744073709551616).toNat : Int) := by omega
    have e2 : n / 9223372036854775808 % 18446744073709551616 = 18446744073709551615 := by omega
    rw [e1, e2, xor_ones _ (by omega)]
    unfold foldN
    rw [if_neg h]
    omega
def encN (u : Nat) : List Int := if h : u < 128 then [(u : Int)] else ((u % 128 + 128 : Nat) : Int) :: encN (u / 128)
termination_by u
decreasing_by omega
theorem encN_short {u : Nat} (h : u < 128) : encN u = [(u : Int)] := by rw [encN, dif_pos h]
theorem encN_long {u : Nat} (h : ¬ u < 128) : encN u = ((u % 128 + 128 : Nat) : Int) :: encN (u / 128) := by rw [encN, dif_neg h]
theorem encN_pos (u : Nat) : 1 ≤ (encN u).length := by
  by_cases h : u < 128
  · rw [encN_short h]
    exact Nat.le_refl _
  · rw [encN_long h]
    simp
theorem encN_len : ∀ (k u : Nat), u < 128 ^ (k + 1) → (encN u).length ≤ k + 1
  | 0, u, h => by rw [encN_short (by simpa using h)]; exact Nat.le_refl _
  | k + 1, u, h => by
    by_cases hu : u < 128
    · rw [encN_short hu]
      simp
    · rw [encN_long hu]
      have := encN_len k (u / 128) (by rw [Nat.pow_succ] at h; exact Nat.div_lt_of_lt_mul (by rw [Nat.mul_comm]; exact h))
      simpa using this
theorem encN_ten {u : Nat} (h : u < 18446744073709551616) : (encN u).length ≤ 10 := encN_len 9 u (Nat.lt_of_lt_of_le h (by decide))
theorem encN_mono : ∀ (k u v : Nat), u < k → u ≤ v → (encN u).length ≤ (encN v).length
  | 0, u, v, h, _ => absurd h (Nat.not_lt_zero _)
  | k + 1, u, v, h, huv => by
    by_cases hu : u < 128
    · rw [encN_short hu]
      exact encN_pos v
    · rw [encN_long hu, encN_long (show ¬ v < 128 by omega)]
      have := encN_mono k (u / 128) (v / 128) (by omega) (by omega)
      simpa using this
theorem or_high : ∀ i < 256, Go.bits .or .u8 ((i : Nat) : Int) 128 = ((i % 128 + 128 : Nat) : Int) := by decide +kernel
theorem put_loop : ∀ (k u : Nat), u < k → ∀ (out : List Int), out.length + (encN u).length ≤ 140737488355328 → Ev (fun n => codec_PutInt.l0 n (u : Int) out) (out ++ encN u)
  | 0, u, h, _, _ => absurd h (Nat.not_lt_zero _)
  | k + 1, u, h, out, hb => by
    have hp := encN_pos u
    refine Ev.step (fun n => by rw [codec_PutInt.l0]) ?_
    by_cases hu : u < 128
    · refine Ev.neg (by omega) (Ev.pos (by omega) ?_)
      rw [encN_short hu]
      have e : (u : Int) % 256 = u := by omega
      rw [e]
      exact Ev.now _
    · rw [encN_long hu] at hb ⊢
      have hp' := encN_pos (u / 128)
      rw [List.length_cons] at hb
      refine Ev.pos (by omega) (Ev.pos (by omega) ?_)
      have e1 : (u : Int) / 128 = ((u / 128 : Nat) : Int) := by omega
      have e2 : (u : Int) % 256 = ((u % 256 : Nat) : Int) := by omega
      have e3 : u % 256 % 128 = u % 128 := by omega
      rw [e1, e2, or_high _ (by omega), e3]
      have := put_loop k (u / 128) (by omega) (out ++ [((u % 128 + 128 : Nat) : Int)]) (by rw [List.length_append, List.length_singleton]; omega)
      rw [List.append_assoc] at this
      exact this
theorem put_is {n : Int} (h1 : -9223372036854775808 ≤ n) (h2 : n ≤ 9223372036854775807) (l : List Int) (hl : l.length ≤ 1000000) : Ev (fun k => codec_PutInt.f k l n) (l ++ encN (foldN n)) := by
  have h3 := encN_ten (foldN_lt h1 h2)
  unfold codec_PutInt.f
  refine Ev.pos (by simp; omega) ?_
  rw [fold_is h1 h2, List.nil_append]
  exact put_loop _ _ (Nat.lt_succ_self _) l (by omega)
/-! ### readings as bytes -/
def Vrd (r : S25) : Prop := 0 ≤ r.f0 ∧ r.f0 ≤ 1099511627776 ∧ -1000 ≤ r.f1 ∧ r.f1 ≤ 1000
def sealB (b : List Int) : List Int := b ++ [(X.crc b) % 256, (X.crc b / 256) % 256, (X.crc b / 65536) % 256, (X.crc b / 16777216) % 256]
def encR : Int → Int → List S25 → List Int
  | _, _, [] => []
  | p, q, r :: l => encN (foldN (r.f0 - p)) ++ encN (foldN (r.f1 - q)) ++ encR r.f0 r.f1 l
theorem rdT_nat (l : List S25) (i : Nat) (h : i < l.length) : rd_T25 l (i : Int) = l[i] := by
  unfold rd_T25
  rw [Int.toNat_natCast, List.getD_eq_getElem?_getD, List.getElem?_eq_getElem h]
  rfl
theorem valid_is {r : S25} (h : Vrd r) : packet_valid.f r.f0 r.f1 = some true := by
  obtain ⟨h1, h2, h3, h4⟩ := h
  unfold packet_valid.f
  rw [if_pos h1, if_pos h2, if_pos h3, decide_eq_true h4]
theorem encR_len : ∀ (l : List S25), (∀ r ∈ l, Vrd r) → ∀ p q : Int, 0 ≤ p → p ≤ 1099511627776 → -1000 ≤ q → q ≤ 1000 → (encR p q l).length ≤ 20 * l.length
  | [], _, _, _, _, _, _, _ => by simp [encR]
  | r :: l, h, p, q, p0, p1, q0, q1 => by
    obtain ⟨h1, h2, h3, h4⟩ := h r (by simp)
    have ih := encR_len l (fun s hs => h s (by simp [hs])) r.f0 r.f1 h1 h2 h3 h4
    have a := encN_ten (foldN_lt (n := r.f0 - p) (by omega) (by omega))
    have b := encN_ten (foldN_lt (n := r.f1 - q) (by omega) (by omega))
    simp only [encR, List.length_append, List.length_cons]
    omega
theorem Encode_l0 (x4 : List Int) (h4 : x4.length ≤ 100) (l : List S25) (hv : ∀ r ∈ l, Vrd r) (hl : l.length ≤ 2000) (d : Nat) :
    ∀ (i : Nat) (x6 : List Int) (p q : Int), i + d = l.length → x6.length ≤ 20 * i → 0 ≤ p → p ≤ 1099511627776 → -1000 ≤ q → q ≤ 1000 →
      Ev (fun k => packet_Encode.l0 k x4 x6 l (l.length : Int) (i : Int) p q) (sealB (x4 ++ (x6 ++ encR p q (l.drop i))), 0) := by
  induction d with
  | zero =>
    intro i x6 p q hi h6 p0 p1 q0 q1
    refine Ev.step (fun k => by rw [packet_Encode.l0]) (Ev.neg (by omega) (Ev.pos (by omega) ?_))
    rw [show l.drop i = [] from List.drop_eq_nil_of_le (by omega)]
    have e : encR p q [] = [] := rfl
    rw [e, List.append_nil]
    refine Ev.bind (Ev.now _) (Ev.bind (Ev.now (X.crc (x4 ++ x6))) (Ev.bind (Ev.now _) (Ev.pos (by simp; omega) (Ev.now _))))
  | succ d ih =>
    intro i x6 p q hi h6 p0 p1 q0 q1
    have hlt : i < l.length := by omega
    have hi1 : i + 1 + d = l.length := by omega
    have hr := hv l[i] (List.getElem_mem _)
    have hr' := hr
    obtain ⟨h1, h2, h3, h5⟩ := hr'
    refine Ev.step (fun k => by rw [packet_Encode.l0]) (Ev.pos (by omega) (Ev.pos (by omega) (Ev.pos (by omega) ?_)))
    rw [rdT_nat l i hlt, valid_is hr, List.drop_eq_getElem_cons hlt, w_succ (by omega)]
    generalize l[i] = r at *
    have a := encN_ten (foldN_lt (n := r.f0 - p) (by omega) (by omega))
    have b := encN_ten (foldN_lt (n := r.f1 - q) (by omega) (by omega))
    rw [w64 (n := r.f0 - p) (by omega) (by omega), w64 (n := r.f1 - q) (by omega) (by omega)]
    refine Ev.bind (Ev.now _) (Ev.pos rfl (Ev.bind (put_is (by omega) (by omega) [] (by simp)) (Ev.bind (put_is (by omega) (by omega) _ (by simp; omega)) ?_)))
    rw [List.nil_append]
    refine Ev.pos (by rw [List.length_append]; omega) ?_
    have := ih (i + 1) (x6 ++ (encN (foldN (r.f0 - p)) ++ encN (foldN (r.f1 - q)))) r.f0 r.f1 hi1 (by rw [List.length_append, List.length_append]; omega) h1 h2 h3 h5
    rw [List.append_assoc] at this
    exact this
theorem Encode_is (l : List S25) (hv : ∀ r ∈ l, Vrd r) (hl : l.length ≤ 2000) : Ev (fun k => packet_Encode.f k l) (sealB (([84, 83, 49] ++ encN (foldN (l.length : Int))) ++ encR 0 0 l), 0) := by
  unfold packet_Encode.f
  refine Ev.neg (by omega) (Ev.bind (put_is (by omega) (by omega) _ (by simp)) ?_)
  have a := encN_ten (foldN_lt (n := (l.length : Int)) (by omega) (by omega))
  have := Encode_l0 ([84, 83, 49] ++ encN (foldN (l.length : Int))) (by simp; omega) l hv hl l.length 0 [] 0 0 (by omega) (by simp) (by omega) (by omega) (by omega) (by omega)
  rw [List.drop_zero, List.nil_append] at this
  exact this
theorem awake_is : Ev (fun k => shapesearchlaw06_awake.f k) true := Ev.of shapesearchlaw06_awake.mono (k := 40) (by decide +kernel)
/-! ### numbers out of a list -/
theorem keep_New (l0 : List Int) (h : ∀ x ∈ l0, (Lit.int .i64 x).wf = true) (hl : l0.length ≤ maxLen) : EvP (fun _ => shapesearchkeep_New.f l0) (fun r => Src r.1 r.2) := by
  have e : mn (l0.length : Int) 2000 = ((min l0.length 2000 : Nat) : Int) := by unfold mn; split <;> omega
  unfold shapesearchkeep_New.f
  rw [e]
  refine EvP.pos (by omega) (EvP.pos (by omega) (EvP.ret ?_))
  refine ⟨Int.le_refl _, by omega, by rw [List.length_take]; omega, fun x hx => b_i64 (h x (List.mem_of_mem_take hx))⟩
theorem keep_Raw (s : List Int) (a : Int) (h : Src s a) : EvP (fun _ => shapesearchkeep_Src_Raw.f s a) (fun r => Src s r.2 ∧ -9223372036854775808 ≤ r.1 ∧ r.1 ≤ 9223372036854775807) := by
  obtain ⟨h0, h1, h2, h3⟩ := h
  unfold shapesearchkeep_Src_Raw.f
  refine EvP.ite (fun hc => EvP.ret ⟨⟨h0, h1, h2, h3⟩, by omega, by omega⟩) (fun hc => ?_)
  have hw : wrap64 (a + 1) = a + 1 := w64 (by omega) (by omega)
  have hw2 : wrap64 (a + 1 - 1) = a := by rw [w64 (by omega) (by omega)]; omega
  rw [hw, hw2]
  have hm := h3 _ (rd_mem s a h0 (by omega))
  exact EvP.pos h0 (EvP.pos (by omega) (EvP.ret ⟨⟨by omega, by omega, h2, h3⟩, hm⟩))
theorem keep_Mod (a n : Int) (ha : -9223372036854775808 ≤ a) (ha' : a ≤ 9223372036854775807) (hn : 1 ≤ n) (hn' : n ≤ 9223372036854775807) : EvP (fun _ => shapesearchkeep_Mod.f a n) (fun t => 0 ≤ t ∧ t < n) := by
  have h1 := Int.tmod_lt_of_pos a (show 0 < n by omega)
  have h2 := Int.lt_tmod_of_pos a (show 0 < n by omega)
  unfold shapesearchkeep_Mod.f
  refine EvP.neg (by omega) (EvP.neg (by omega) (EvP.ite (fun hc => EvP.ret ?_) (fun hc => EvP.ret ?_)))
  · rw [w64 (by omega) (by omega)]
    omega
  · omega
theorem keep_N (s : List Int) (a n : Int) (h : Src s a) (hn : 1 ≤ n) (hn' : n ≤ 9223372036854775807) : EvP (fun _ => shapesearchkeep_Src_N.f s a n) (fun r => Src s r.2 ∧ 0 ≤ r.1 ∧ r.1 < n) := by
  unfold shapesearchkeep_Src_N.f
  refine EvP.bind (keep_Raw s a h) (fun x hx => EvP.bind (keep_Mod x.1 n hx.2.1 hx.2.2 hn hn') (fun t ht => EvP.ret ⟨hx.1, ht⟩))
theorem keep_Range (s : List Int) (a lo hi : Int) (h : Src s a) (hlo : -1000000000000 ≤ lo) (hlh : lo ≤ hi) (hhi : hi ≤ 1000000000000) : EvP (fun _ => shapesearchkeep_Src_Range.f s a lo hi) (fun r => Src s r.2 ∧ lo ≤ r.1 ∧ r.1 ≤ hi) := by
  have e1 : wrap64 (hi - lo) = hi - lo := w64 (by omega) (by omega)
  have e2 : wrap64 (hi - lo + 1) = hi - lo + 1 := w64 (by omega) (by omega)
  unfold shapesearchkeep_Src_Range.f
  rw [e1, e2]
  refine EvP.bind (keep_N s a (hi - lo + 1) h (by omega) (by omega)) (fun x hx => EvP.ret ⟨hx.1, ?_⟩)
  have e3 : wrap64 (lo + x.1) = lo + x.1 := w64 (by omega) (by omega)
  show lo ≤ wrap64 (lo + x.1) ∧ wrap64 (lo + x.1) ≤ hi
  rw [e3]
  omega
theorem keep_Pick (s : List Int) (a : Int) (l : List Int) (h : Src s a) (hl : 1 ≤ l.length) (hl' : l.length ≤ 1000000) : EvP (fun _ => shapesearchkeep_Src_Pick.f s a l) (fun r => Src s r.2 ∧ r.1 ∈ l) := by
  unfold shapesearchkeep_Src_Pick.f
  exact EvP.bind (keep_N s a l.length h (by omega) (by omega)) (fun x hx => EvP.pos hx.2.1 (EvP.pos hx.2.2 (EvP.ret ⟨hx.1, rd_mem l x.1 hx.2.1 hx.2.2⟩)))
/-! ### strings of bytes -/
def bts (l : List Int) : Prop := ∀ x ∈ l, 0 ≤ x ∧ x ≤ 255
theorem toList_loop (bs : ByteArray) (d : Nat) : ∀ (i : Nat) (r : List UInt8), i + d = bs.size → ByteArray.toList.loop bs i r = r.reverse ++ bs.data.toList.drop i := by
  induction d with
  | zero =>
    intro i r hi
    unfold ByteArray.toList.loop
    rw [if_neg (by omega), show bs.data.toList.drop i = [] from List.drop_eq_nil_of_le (by rw [Array.length_toList]; show bs.size ≤ i; omega), List.append_nil]
  | succ d ih =>
    intro i r hi
    have hlt : i < bs.data.toList.length := by rw [Array.length_toList]; show i < bs.size; omega
    unfold ByteArray.toList.loop
    rw [if_pos (by omega), ih (i + 1) _ (by omega), List.drop_eq_getElem_cons hlt]
    have e : bs.get! i = bs.data.toList[i] := by
      rw [Array.getElem_toList]
      show bs.data[i]! = _
      exact getElem!_pos bs.data i (by rw [← Array.length_toList]; exact hlt)
    rw [e]
    simp
theorem toList_data (bs : ByteArray) : bs.toList = bs.data.toList := toList_loop bs bs.size 0 [] (by omega)
theorem str_inj {A B : List Int} (hA : bts A) (hB : bts B) (h : (strOfNums A).toList = (strOfNums B).toList) : A = B := by
  rw [toList_data, toList_data] at h
  have h' : A.map (fun n => UInt8.ofNat n.toNat) = B.map (fun n => UInt8.ofNat n.toNat) := h
  have back : ∀ C : List Int, bts C → (C.map (fun n => UInt8.ofNat n.toNat)).map (fun u => (u.toNat : Int)) = C := by
    intro C hC
    rw [List.map_map]
    refine (List.map_congr_left (fun x hx => ?_)).trans (List.map_id C)
    have := hC x hx
    show ((UInt8.ofNat x.toNat).toNat : Int) = x
    rw [UInt8.toNat_ofNat']
    omega
  rw [← back A hA, ← back B hB, h']
/-! ### what is written can be told apart -/
theorem encN_bts : ∀ (k u : Nat), u < k → bts (encN u)
  | 0, u, h => absurd h (Nat.not_lt_zero _)
  | k + 1, u, h => by
    intro x hx
    by_cases hu : u < 128
    · rw [encN_short hu] at hx
      have : x = (u : Int) := by simpa using hx
      omega
    · rw [encN_long hu] at hx
      rcases List.mem_cons.1 hx with rfl | hx
      · omega
      · exact encN_bts k (u / 128) (by omega) x hx
theorem encN_cancel : ∀ (k u : Nat), u < k → ∀ (v : Nat) (l m : List Int), encN u ++ l = encN v ++ m → u = v ∧ l = m
  | 0, u, h, _, _, _, _ => absurd h (Nat.not_lt_zero _)
  | k + 1, u, h, v, l, m, e => by
    by_cases hu : u < 128
    · rw [encN_short hu] at e
      by_cases hv : v < 128
      · rw [encN_short hv] at e
        have e' := List.cons.inj (show (u : Int) :: l = (v : Int) :: m from e)
        exact ⟨by omega, e'.2⟩
      · rw [encN_long hv] at e
        have e' := List.cons.inj (show (u : Int) :: l = ((v % 128 + 128 : Nat) : Int) :: (encN (v / 128) ++ m) from e)
        omega
    · rw [encN_long hu] at e
      by_cases hv : v < 128
      · rw [encN_short hv] at e
        have e' := List.cons.inj (show ((u % 128 + 128 : Nat) : Int) :: (encN (u / 128) ++ l) = (v : Int) :: m from e)
        omega
      · rw [encN_long hv] at e
        have e' := List.cons.inj (show ((u % 128 + 128 : Nat) : Int) :: (encN (u / 128) ++ l) = ((v % 128 + 128 : Nat) : Int) :: (encN (v / 128) ++ m) from e)
        have ih := encN_cancel k (u / 128) (by omega) (v / 128) l m e'.2
        exact ⟨by omega, ih.2⟩
theorem foldN_inj {a b : Int} (h : foldN a = foldN b) : a = b := by
  unfold foldN at h
  split at h <;> split at h <;> omega
theorem enc_cancel {a b : Int} {l m : List Int} (e : encN (foldN a) ++ l = encN (foldN b) ++ m) : a = b ∧ l = m := by
  have h := encN_cancel _ (foldN a) (Nat.lt_succ_self _) (foldN b) l m e
  exact ⟨foldN_inj h.1, h.2⟩
theorem encR_bts : ∀ (l : List S25) (p q : Int), bts (encR p q l)
  | [], _, _ => fun x h => by cases h
  | r :: l, p, q => by
    intro x hx
    rcases List.mem_append.1 (show x ∈ (encN (foldN (r.f0 - p)) ++ encN (foldN (r.f1 - q))) ++ encR r.f0 r.f1 l from hx) with h | h
    · rcases List.mem_append.1 h with h | h
      · exact encN_bts _ _ (Nat.lt_succ_self _) x h
      · exact encN_bts _ _ (Nat.lt_succ_self _) x h
    · exact encR_bts l r.f0 r.f1 x h
theorem encR_inj : ∀ (x y : List S25) (p q : Int), x.length = y.length → encR p q x = encR p q y → x = y
  | [], [], _, _, _, _ => rfl
  | [], s :: y, _, _, h, _ => by cases h
  | r :: x, [], _, _, h, _ => by cases h
  | r :: x, s :: y, p, q, h, e => by
    have e' : encN (foldN (r.f0 - p)) ++ (encN (foldN (r.f1 - q)) ++ encR r.f0 r.f1 x) = encN (foldN (s.f0 - p)) ++ (encN (foldN (s.f1 - q)) ++ encR s.f0 s.f1 y) := by
      rw [← List.append_assoc, ← List.append_assoc]
      exact e
    obtain ⟨c1, e2⟩ := enc_cancel e'
    obtain ⟨c2, e3⟩ := enc_cancel e2
    obtain ⟨r0, r1⟩ := r
    obtain ⟨s0, s1⟩ := s
    dsimp only at c1 c2 e3
    have h0 : r0 = s0 := by omega
    have h1 : r1 = s1 := by omega
    subst h0
    subst h1
    rw [encR_inj x y _ _ (by simpa using h) e3]
def bodyB (l : List S25) : List Int := ([84, 83, 49] ++ encN (foldN (l.length : Int))) ++ encR 0 0 l
theorem sealB_bts {b : List Int} (h : bts b) : bts (sealB b) := by
  intro x hx
  unfold sealB at hx
  rcases List.mem_append.1 hx with hx | hx
  · exact h x hx
  · generalize X.crc b = c at hx
    simp only [List.mem_cons, List.not_mem_nil, or_false] at hx
    omega
theorem bodyB_bts (l : List S25) : bts (bodyB l) := by
  intro x hx
  rcases List.mem_append.1 hx with h | h
  · rcases List.mem_append.1 h with h | h
    · simp only [List.mem_cons, List.not_mem_nil, or_false] at h
      omega
    · exact encN_bts _ _ (Nat.lt_succ_self _) x h
  · exact encR_bts l 0 0 x h
theorem sealB_inj {a b : List Int} (h : sealB a = sealB b) : a = b := by
  unfold sealB at h
  have hl : a.length = b.length := by
    have := congrArg List.length h
    simpa using this
  exact (List.append_inj h hl).1
theorem bodyB_inj {x y : List S25} (h : bodyB x = bodyB y) : x = y := by
  unfold bodyB at h
  rw [List.append_assoc, List.append_assoc] at h
  have h1 := List.append_cancel_left h
  obtain ⟨c, h2⟩ := enc_cancel h1
  exact encR_inj x y 0 0 (by omega) h2
theorem same_is (x y : List S25) (hx : x.length ≤ 1000000) : EvP (fun k => shapesearchref05_Same.f k x y) (fun b => (b = true ↔ x = y)) := by
  unfold shapesearchref05_Same.f
  by_cases h : x.length = y.length
  · refine EvP.pos (by omega) ?_
    have key : ∀ (d i : Nat), i + d = x.length → EvP (fun k => shapesearchref05_Same.l0 k x y (x.length : Int) (i : Int)) (fun b => (b = true ↔ x.drop i = y.drop i)) := by
      intro d
      induction d with
      | zero =>
        intro i hi
        refine EvP.step (fun k => by rw [shapesearchref05_Same.l0]) (EvP.neg (by omega) (EvP.ret ?_))
        rw [show x.drop i = [] from List.drop_eq_nil_of_le (by omega), show y.drop i = [] from List.drop_eq_nil_of_le (by omega)]
        simp
      | succ d ih =>
        intro i hi
        have hlt : i < x.length := by omega
        have hlt' : i < y.length := by omega
        refine EvP.step (fun k => by rw [shapesearchref05_Same.l0]) (EvP.pos (by omega) (EvP.pos (by omega) (EvP.pos (by omega) (EvP.pos (by omega) ?_))))
        rw [rdT_nat x i hlt, rdT_nat y i hlt', List.drop_eq_getElem_cons hlt, List.drop_eq_getElem_cons hlt', w_succ (by omega)]
        have ih1 := ih (i + 1) (by omega)
        generalize x[i] = r at *
        generalize y[i] = s at *
        obtain ⟨r0, r1⟩ := r
        obtain ⟨s0, s1⟩ := s
        dsimp only
        by_cases h0 : r0 = s0
        · by_cases h1 : r1 = s1
          · refine EvP.neg (by simp [h0, h1]) (ih1.mono (fun b hb => ?_))
            rw [hb, List.cons.injEq, S25.mk.injEq]
            exact ⟨fun e => ⟨⟨h0, h1⟩, e⟩, fun e => e.2⟩
          · refine EvP.pos (by simp [h1]) (EvP.ret ⟨fun e => (by cases e), fun e => absurd (S25.mk.inj (List.cons.inj e).1).2 h1⟩)
        · refine EvP.pos (by simp [h0]) (EvP.ret ⟨fun e => (by cases e), fun e => absurd (S25.mk.inj (List.cons.inj e).1).1 h0⟩)
    exact key x.length 0 (by omega)
  · refine EvP.neg (by omega) (EvP.ret ⟨fun e => (by cases e), fun e => absurd (by rw [e]) h⟩)
/-! ### readings out of a list -/
theorem mul_abs' {u v : Int} (h1 : -30 ≤ u) (h2 : u ≤ 30) (h3 : 1 ≤ v) (h4 : v ≤ 33) : -990 ≤ u * v ∧ u * v ≤ 990 := by
  have a1 := Int.mul_nonneg (show 0 ≤ u + 30 by omega) (show 0 ≤ v by omega)
  have a2 := Int.mul_nonneg (show 0 ≤ 30 - u by omega) (show 0 ≤ v by omega)
  rw [Int.add_mul] at a1
  rw [Int.sub_mul] at a2
  omega
theorem keep_Readings (s : List Int) (a : Int) (h : Src s a) (n : Int) (hn : 0 ≤ n) (hn' : n ≤ 1000) : EvP (fun k => shapesearchkeep_Src_Readings.f k s a n) (fun r => Src s r.2 ∧ (∀ x ∈ r.1, Vrd x) ∧ r.1.length ≤ n) := by
  unfold shapesearchkeep_Src_Readings.f
  rw [w64 (n := n + 1) (by omega) (by omega)]
  refine EvP.bind (keep_Pick s a [0, 5, 1000, 1099511627576] h (by simp) (by simp)) (fun p hp => EvP.bind (keep_N s p.2 (n + 1) hp.1 (by omega) (by omega)) (fun q hq => ?_))
  have key : ∀ (d : Nat) (out : List S25) (t c a' : Int), c = d → out.length + c ≤ n → (∀ x ∈ out, Vrd x) → 0 ≤ t → t ≤ 1099511627776 → Src s a' →
      EvP (fun k => shapesearchkeep_Src_Readings.l0 k out t c s a') (fun r => Src s r.2 ∧ (∀ x ∈ r.1, Vrd x) ∧ r.1.length ≤ n) := by
    intro d
    induction d with
    | zero =>
      intro out t c a' hc ho hv t0 t1 hs
      exact EvP.step (fun k => by rw [shapesearchkeep_Src_Readings.l0]) (EvP.neg (by omega) (EvP.ret ⟨hs, hv, by dsimp only; omega⟩))
    | succ d ih =>
      intro out t c a' hc ho hv t0 t1 hs
      refine EvP.step (fun k => by rw [shapesearchkeep_Src_Readings.l0]) (EvP.pos (by omega) ?_)
      refine EvP.bind (keep_Pick s a' [0, 1, 1, 3, 10, -2] hs (by simp) (by simp)) (fun u hu => EvP.bind (keep_Range s u.2 (-30) 30 hu.1 (by omega) (by omega) (by omega)) (fun v hv' => EvP.bind (keep_Pick s v.2 [1, 1, 33] hv'.1 (by simp) (by simp)) (fun z hz => EvP.pos (by omega) ?_)))
      have z1 : 1 ≤ z.1 ∧ z.1 ≤ 33 := by
        have := hz.2
        simp at this
        omega
      have m1 := mul_abs' hv'.2.1 hv'.2.2 z1.1 z1.2
      rw [w64 (n := v.1 * z.1) (by omega) (by omega), w64 (n := c - 1) (by omega) (by omega)]
      have g0 : 0 ≤ mx 0 (mn 1099511627776 (wrap64 (t + u.1))) := le_mx_left _ _
      have g1 : mx 0 (mn 1099511627776 (wrap64 (t + u.1))) ≤ 1099511627776 := mx_le (by omega) (mn_le_left _ _)
      generalize mx 0 (mn 1099511627776 (wrap64 (t + u.1))) = t' at *
      refine ih _ t' (c - 1) z.2 (by omega) (by rw [List.length_append, List.length_singleton]; omega) (fun x hx => ?_) g0 g1 hz.1
      rcases List.mem_append.1 hx with hx | hx
      · exact hv x hx
      · have : x = ⟨t', v.1 * z.1⟩ := by simpa using hx
        subst this
        exact ⟨g0, g1, by dsimp only; omega, by dsimp only; omega⟩
  have hp2 := hp.2
  simp at hp2
  exact key q.1.toNat [] p.1 q.1 q.2 (by omega) (by simp; omega) (fun x h => by cases h) (by omega) (by omega) hq.1
theorem PacketOrders : shapesearchlaw06_PacketOrders.Pure := by
  intro l0 l1 h1 h2 h3 k1 k2 k3
  refine EvP.rounds ?_
  unfold shapesearchlaw06_PacketOrders.f
  refine EvP.bind (keep_New l0 h3 h1) (fun s hs => EvP.bind (keep_Readings s.1 s.2 hs 8 (by omega) (by omega)) (fun x hx => EvP.bind (keep_New l1 k3 k1) (fun t ht => EvP.bind (keep_Readings t.1 t.2 ht 8 (by omega) (by omega)) (fun y hy => ?_))))
  obtain ⟨_, vx, lx⟩ := hx
  obtain ⟨_, vy, ly⟩ := hy
  generalize x.1 = x at *
  generalize y.1 = y at *
  refine EvP.bind1 (Encode_is x vx (by omega)) (EvP.bind1 (Encode_is y vy (by omega)) (EvP.pos rfl (EvP.pos rfl (EvP.bind (same_is x y (by omega)) (fun b hb => EvP.pos ?_ (EvP.bind1 awake_is (EvP.ret rfl)))))))
  dsimp only
  rw [beq_iff_eq, Bool.eq_iff_iff, beq_iff_eq, hb]
  constructor
  · intro e
    exact bodyB_inj (sealB_inj (str_inj (sealB_bts (bodyB_bts x)) (sealB_bts (bodyB_bts y)) e))
  · intro e
    rw [e]

end Go.Proofs.Ytgmiilolikbekaa.Pure
