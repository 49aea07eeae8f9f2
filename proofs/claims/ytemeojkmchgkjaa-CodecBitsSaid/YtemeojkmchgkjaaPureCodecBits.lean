/- This file proves that each bit of packed bytes stands for one bit of one number. -/
import Derived.Test.YtemeojkmchgkjaaPCodecBitsx4
import Derived.Test.YtemeojkmchgkjaaBase
set_option linter.unusedVariables false
namespace Go.Proofs.Ytemeojkmchgkjaa.Pure
open Go.RowKit Go.Proofs.Ytemeojkmchgkjaa.PCodecBits Go.Proofs.YtemeojkmchgkjaaW.PrintWords Go.Proofs.YtemeojkmchgkjaaW.PrintLast Go.Proofs.YtemeojkmchgkjaaW.PrintMore Go.Proofs.Ytemeojkmchgkjaa.Base
/-! ### bits of bytes -/
def byt (b : List Int) : Prop := ∀ x ∈ b, 0 ≤ x ∧ x ≤ 255
def tb (b : List Int) (m : Nat) : Bool := (b.getD (m / 8) 0).toNat.testBit (m % 8)
def bx (xs : List Int) (w m : Nat) : Bool := (xs.getD (m / w) 0).toNat.testBit (m % w)
theorem or_b : ∀ x < 256, ∀ j < 8, Go.bits .or .u8 ((x : Nat) : Int) (shl .u8 1 ((j : Nat) : Int)) = ((x ||| 2 ^ j : Nat) : Int) ∧ x ||| 2 ^ j < 256 := by decide +kernel
theorem xor_b : ∀ x < 256, ∀ j < 8, Go.bits .xor .u8 ((x : Nat) : Int) (shl .u8 1 ((j : Nat) : Int)) = ((x ^^^ 2 ^ j : Nat) : Int) ∧ x ^^^ 2 ^ j < 256 := by decide +kernel
theorem bit_b : ∀ x < 256, ∀ j < 8, wrap64 (Go.bits .and .u8 (((x : Nat) : Int) / 2 ^ j) 1) = if x.testBit j then 1 else 0 := by decide +kernel
theorem wi64' (n : Int) : IntKind.i64.wrap n = wrap64 n := by
  have e : (2 : Int) ^ IntKind.i64.bits = 18446744073709551616 := rfl
  simp [IntKind.wrap, IntKind.bits, IntKind.signed, wrap64] <;> omega
theorem bv64 (a : Nat) : BitVec.ofInt 64 (a : Int) = BitVec.ofNat 64 a := BitVec.ofInt_natCast 64 a
theorem and_i64 {a : Nat} (h : a < 9223372036854775808) : Go.bits .and .i64 (a : Int) 1 = ((a % 2 : Nat) : Int) := by
  have e : BitVec.ofInt 64 1 = 1#64 := by decide
  show IntKind.i64.wrap ((BitVec.ofInt 64 (a : Int) &&& BitVec.ofInt 64 1).toNat : Int) = _
  have k : (2 : Nat) ^ 64 = 18446744073709551616 := rfl
  rw [e, bv64, BitVec.toNat_and, BitVec.toNat_ofNat, wi64']
  have e3 : (1#64).toNat = 1 := rfl
  rw [e3, Nat.and_one_is_mod, k, Nat.mod_eq_of_lt (show a < 18446744073709551616 by omega), w64 (by omega) (by omega)]
theorem or_i64 {u v j : Nat} (hu : u < 2 ^ j) (h : u + v * 2 ^ j < 9223372036854775808) : Go.bits .or .i64 (u : Int) ((v * 2 ^ j : Nat) : Int) = ((u + v * 2 ^ j : Nat) : Int) := by
  show IntKind.i64.wrap ((BitVec.ofInt 64 (u : Int) ||| BitVec.ofInt 64 ((v * 2 ^ j : Nat) : Int)).toNat : Int) = _
  have k : (2 : Nat) ^ 64 = 18446744073709551616 := rfl
  have e3 := Nat.two_pow_add_eq_or_of_lt hu v
  rw [Nat.mul_comm (2 ^ j) v, Nat.or_comm] at e3
  rw [bv64, bv64, BitVec.toNat_or, BitVec.toNat_ofNat, BitVec.toNat_ofNat, wi64', k, Nat.mod_eq_of_lt (show u < 18446744073709551616 by omega), Nat.mod_eq_of_lt (show v * 2 ^ j < 18446744073709551616 by omega), ← e3, w64 (by omega) (by omega)]
  omega
theorem xor_i64 {a b : Nat} (ha : a < 4294967296) (hb : b < 4294967296) : Go.bits .xor .i64 (a : Int) (b : Int) = ((a ^^^ b : Nat) : Int) := by
  show IntKind.i64.wrap ((BitVec.ofInt 64 (a : Int) ^^^ BitVec.ofInt 64 (b : Int)).toNat : Int) = _
  have k : (2 : Nat) ^ 64 = 18446744073709551616 := rfl
  have h := Nat.xor_lt_two_pow (n := 32) ha hb
  have k2 : (2 : Nat) ^ 32 = 4294967296 := rfl
  rw [bv64, bv64, BitVec.toNat_xor, BitVec.toNat_ofNat, BitVec.toNat_ofNat, wi64', k, Nat.mod_eq_of_lt (show a < 18446744073709551616 by omega), Nat.mod_eq_of_lt (show b < 18446744073709551616 by omega), w64 (by omega) (by omega)]
theorem shl_i64 {v k : Nat} (hk : k ≤ 64) (h : v * 2 ^ k < 9223372036854775808) : shl .i64 (v : Int) (k : Int) = ((v * 2 ^ k : Nat) : Int) := by
  unfold shl
  have e : min ((k : Int)).toNat IntKind.i64.bits = k := by
    have : IntKind.i64.bits = 64 := rfl
    rw [this, Int.toNat_natCast]
    omega
  have e2 : (v : Int) * 2 ^ k = ((v * 2 ^ k : Nat) : Int) := by push_cast; rfl
  rw [e, e2, wi64', w64 (by omega) (by omega)]
theorem shr_i64 {v k : Nat} (hk : k ≤ 64) : shr .i64 (v : Int) (k : Int) = ((v / 2 ^ k : Nat) : Int) := by
  unfold shr
  have e : min ((k : Int)).toNat IntKind.i64.bits = k := by
    have : IntKind.i64.bits = 64 := rfl
    rw [this, Int.toNat_natCast]
    omega
  have e2 : (v : Int) / 2 ^ k = ((v / 2 ^ k : Nat) : Int) := by push_cast; rfl
  rw [e, e2]
theorem shl_one {k : Nat} (hk : k ≤ 32) : shl .i64 1 (k : Int) = ((2 ^ k : Nat) : Int) := by
  have hp : (2 : Nat) ^ k ≤ 2 ^ 32 := Nat.pow_le_pow_right (by omega) hk
  have h32 : (2 : Nat) ^ 32 = 4294967296 := rfl
  have := shl_i64 (v := 1) (k := k) (by omega) (by omega)
  rw [Nat.one_mul] at this
  exact this
theorem w_pos {i w k : Nat} (h : i * w + k ≤ 1000000) : wrap64 (wrap64 ((i : Int) * (w : Int)) + (k : Int)) = ((i * w + k : Nat) : Int) := by
  rw [← Int.natCast_mul, w64 (n := ((i * w : Nat) : Int)) (by omega) (by omega), w64 (by omega) (by omega)]
  omega
theorem w_div {a w : Nat} (h : a ≤ 1000000) : wrap64 (Int.tdiv (a : Int) (w : Int)) = ((a / w : Nat) : Int) := by
  have := Nat.div_le_self a w
  show wrap64 ((a / w : Nat) : Int) = _
  generalize a / w = q at *
  exact w64 (by omega) (by omega)
theorem w_div8 {a : Nat} (h : a ≤ 1000000) : wrap64 (Int.tdiv (a : Int) 8) = ((a / 8 : Nat) : Int) := w_div (w := 8) h
theorem t_mod (a w : Nat) : Int.tmod (a : Int) (w : Int) = ((a % w : Nat) : Int) := rfl
theorem t_mod8 (a : Nat) : Int.tmod (a : Int) 8 = ((a % 8 : Nat) : Int) := rfl
theorem w_mul {a b : Nat} (h : a * b ≤ 1000000) : wrap64 ((a : Int) * (b : Int)) = ((a * b : Nat) : Int) := by rw [← Int.natCast_mul, w64 (by omega) (by omega)]
theorem w_eight {a : Nat} (h : a ≤ 1000000) : wrap64 (8 * (a : Int)) = ((8 * a : Nat) : Int) := by rw [w64 (by omega) (by omega)]; omega
theorem test_i64 {v k : Nat} (hk : k ≤ 64) (hv : v < 9223372036854775808) : (Go.bits .and .i64 (shr .i64 (v : Int) (k : Int)) 1 = 1) ↔ v.testBit k = true := by
  have := Nat.div_le_self v (2 ^ k)
  rw [shr_i64 hk, and_i64 (by omega), Nat.testBit_eq_decide_div_mod_eq, decide_eq_true_iff]
  omega
theorem getD_at (b : List Int) (i : Nat) (h : i < b.length) : b.getD i 0 = b[i] := by rw [List.getD_eq_getElem?_getD, List.getElem?_eq_getElem h]; rfl
theorem rd_getD (b : List Int) (i : Nat) : rd b (i : Int) = b.getD i 0 := by unfold rd; rw [Int.toNat_natCast]
theorem byt_at {b : List Int} (hb : byt b) (i : Nat) : ∃ x : Nat, b.getD i 0 = (x : Int) ∧ x < 256 := by
  by_cases h : i < b.length
  · rw [getD_at b i h]
    have := hb b[i] (List.getElem_mem h)
    exact ⟨b[i].toNat, by omega, by omega⟩
  · refine ⟨0, ?_, by omega⟩
    rw [List.getD_eq_getElem?_getD, List.getElem?_eq_none (by omega)]
    rfl
theorem byt_set {b : List Int} (hb : byt b) (i : Nat) {x : Nat} (hx : x < 256) : byt (b.set i (x : Int)) := by
  intro z hz
  rcases List.mem_or_eq_of_mem_set hz with h | h
  · exact hb z h
  · omega
theorem tb_set {b : List Int} {i x m : Nat} (hi : i < b.length) : tb (b.set i (x : Int)) m = if m / 8 = i then x.testBit (m % 8) else tb b m := by
  unfold tb
  by_cases h : m / 8 = i
  · rw [if_pos h, h, getD_at _ _ (by rw [List.length_set]; exact hi), List.getElem_set_self, Int.toNat_natCast]
  · rw [if_neg h, List.getD_eq_getElem?_getD, List.getElem?_set_ne (fun e => h e.symm), ← List.getD_eq_getElem?_getD]
theorem tb_or {b : List Int} (hb : byt b) {a m : Nat} (ha : a / 8 < b.length) : byt (b.set (a / 8) (Go.bits .or .u8 (b.getD (a / 8) 0) (shl .u8 1 ((a % 8 : Nat) : Int)))) ∧ tb (b.set (a / 8) (Go.bits .or .u8 (b.getD (a / 8) 0) (shl .u8 1 ((a % 8 : Nat) : Int)))) m = (tb b m || decide (m = a)) := by
  obtain ⟨x, ex, hx⟩ := byt_at hb (a / 8)
  obtain ⟨e1, e2⟩ := or_b x hx (a % 8) (by omega)
  rw [ex, e1]
  refine ⟨byt_set hb _ e2, ?_⟩
  rw [tb_set ha]
  by_cases h : m / 8 = a / 8
  · rw [if_pos h, Nat.testBit_or, Nat.testBit_two_pow]
    unfold tb
    rw [h, ex, Int.toNat_natCast]
    congr 1
    rw [decide_eq_decide]
    omega
  · rw [if_neg h, decide_eq_false (by omega), Bool.or_false]
theorem tb_xor {b : List Int} (hb : byt b) {a m : Nat} (ha : a / 8 < b.length) : byt (b.set (a / 8) (Go.bits .xor .u8 (b.getD (a / 8) 0) (shl .u8 1 ((a % 8 : Nat) : Int)))) ∧ tb (b.set (a / 8) (Go.bits .xor .u8 (b.getD (a / 8) 0) (shl .u8 1 ((a % 8 : Nat) : Int)))) m = (tb b m ^^ decide (m = a)) := by
  obtain ⟨x, ex, hx⟩ := byt_at hb (a / 8)
  obtain ⟨e1, e2⟩ := xor_b x hx (a % 8) (by omega)
  rw [ex, e1]
  refine ⟨byt_set hb _ e2, ?_⟩
  rw [tb_set ha]
  by_cases h : m / 8 = a / 8
  · rw [if_pos h, Nat.testBit_xor, Nat.testBit_two_pow]
    unfold tb
    rw [h, ex, Int.toNat_natCast]
    congr 1
    rw [decide_eq_decide]
    omega
  · rw [if_neg h, decide_eq_false (by omega), Bool.xor_false]
theorem bitz_is {b : List Int} (hb : byt b) (m : Nat) : X.bitz b m = if tb b m then 1 else 0 := by
  obtain ⟨x, ex, hx⟩ := byt_at hb (m / 8)
  have := bit_b x hx (m % 8) (by omega)
  unfold X.bitz tb
  rw [rd_getD, ex, Int.toNat_natCast]
  exact this
/-- Bytes that hold the bits of numbers. -/
def Enc (b : List Int) (w : Nat) (xs : List Int) : Prop := byt b ∧ b.length = (w * xs.length + 7) / 8 ∧ ∀ m, m < 8 * b.length → tb b m = (decide (m < xs.length * w) && bx xs w m)
def Fit (w : Nat) (xs : List Int) : Prop := ∀ x ∈ xs, 0 ≤ x ∧ x < 2 ^ w
theorem fit_at {w : Nat} {xs : List Int} (h : Fit w xs) (i : Nat) (hi : i < xs.length) : ∃ v : Nat, xs.getD i 0 = (v : Int) ∧ v < 2 ^ w := by
  rw [getD_at xs i hi]
  have := h xs[i] (List.getElem_mem hi)
  refine ⟨xs[i].toNat, by omega, ?_⟩
  have e : ((xs[i].toNat : Nat) : Int) < ((2 ^ w : Nat) : Int) := by push_cast; omega
  omega
theorem mul_lt_of {i k w n : Nat} (hi : i < n) (hk : k < w) : i * w + k < n * w := by
  have h3 : (i + 1) * w ≤ n * w := Nat.mul_le_mul_right w (by omega)
  rw [Nat.add_mul, Nat.one_mul] at h3
  omega
theorem div_of {i k w : Nat} (hk : k < w) : (i * w + k) / w = i := by rw [Nat.mul_comm, Nat.mul_add_div (by omega), Nat.div_eq_of_lt hk, Nat.add_zero]
theorem mod_of {i k w : Nat} (hk : k < w) : (i * w + k) % w = k := by rw [Nat.mul_comm, Nat.mul_add_mod, Nat.mod_eq_of_lt hk]
theorem acc_is {bz : Nat → Int} {w i v : Nat} (hw : w ≤ 32) (hb : ∀ k, k < w → bz (i * w + k) = if v.testBit k then 1 else 0) : ∀ k, k ≤ w → X.acc bz w i k = ((v % 2 ^ k : Nat) : Int)
  | 0, _ => by simp [X.acc, Nat.mod_one]
  | k + 1, hk => by
    have ih := acc_is hw hb k (by omega)
    have hp : (2 : Nat) ^ k ≤ 2 ^ 31 := Nat.pow_le_pow_right (by omega) (by omega)
    have h31 : (2 : Nat) ^ 31 = 2147483648 := rfl
    have hm := Nat.mod_lt v (show 0 < 2 ^ k from Nat.pow_pos (by omega))
    have eb : bz (i * w + k) = ((v / 2 ^ k % 2 : Nat) : Int) := by
      rw [hb k (by omega), Nat.testBit_eq_decide_div_mod_eq]
      have := Nat.mod_lt (v / 2 ^ k) (show 0 < 2 by omega)
      by_cases h : v / 2 ^ k % 2 = 1
      · rw [if_pos (decide_eq_true h), h]
        rfl
      · rw [if_neg (by simpa using h), show v / 2 ^ k % 2 = 0 by omega]
        rfl
    have hle : v / 2 ^ k % 2 * 2 ^ k ≤ 1 * 2 ^ k := Nat.mul_le_mul_right _ (by have := Nat.mod_lt (v / 2 ^ k) (show 0 < 2 by omega); omega)
    show Go.bits .or .i64 (X.acc bz w i k) (shl .i64 (bz (i * w + k)) (k : Int)) = _
    rw [ih, eb, shl_i64 (by omega) (by omega), or_i64 hm (by omega), Nat.mod_pow_succ, Nat.mul_comm (2 ^ k)]
theorem unp_is {b : List Int} {w : Nat} {xs : List Int} (hw : w ≤ 32) (he : Enc b w xs) (hf : Fit w xs) : X.unp (X.bitz b) w xs.length = xs := by
  unfold X.unp
  apply List.ext_getElem
  · simp
  intro i h1 h2
  rw [List.getElem_map, List.getElem_range]
  obtain ⟨v, ev, hv⟩ := fit_at hf i h2
  rw [acc_is (v := v) hw (fun k hk => ?_) w (Nat.le_refl _), Nat.mod_eq_of_lt hv, ← ev, getD_at xs i h2]
  have hlt := mul_lt_of h2 hk
  rw [bitz_is he.1, he.2.2 _ (by rw [he.2.1]; rw [Nat.mul_comm w]; omega), decide_eq_true hlt, Bool.true_and]
  unfold bx
  rw [div_of hk, mod_of hk, ev, Int.toNat_natCast]
theorem pad_is {b : List Int} {w : Nat} {xs : List Int} (he : Enc b w xs) : X.padb (X.bitz b) (w * xs.length) (8 * b.length) = true := by
  unfold X.padb
  rw [List.all_eq_true]
  intro j hj
  have := List.mem_range.1 hj
  rw [beq_iff_eq, bitz_is he.1, he.2.2 _ (by omega), decide_eq_false (by rw [Nat.mul_comm]; omega), Bool.false_and]
  rfl
theorem size_is {w n : Nat} (hw : w ≤ 32) (hn : n ≤ 2000) : codec_size.f (w : Int) (n : Int) = some (((w * n + 7) / 8 : Nat) : Int) := by
  have hwn : w * n ≤ 64000 := Nat.mul_le_mul hw hn
  unfold codec_size.f
  rw [← Int.natCast_mul, w64 (n := ((w * n : Nat) : Int)) (by omega) (by omega), w64 (n := ((w * n : Nat) : Int) + 7) (by omega) (by omega), Int.tdiv_eq_ediv_of_nonneg (by omega), w64 (by omega) (by omega)]
  rfl
theorem unpack_is {b : List Int} {w : Nat} {xs : List Int} (hw : w ≤ 32) (hn : xs.length ≤ 2000) (he : Enc b w xs) (hf : Fit w xs) : codec_Unpack.f b (w : Int) (xs.length : Int) = some (xs, 0) := by
  unfold codec_Unpack.f
  rw [if_neg (by omega), if_neg (by omega), size_is hw hn]
  show (if (b.length : Int) = (((w * xs.length + 7) / 8 : Nat) : Int) then _ else _) = _
  rw [if_pos (by rw [he.2.1])]
  simp only [Int.toNat_natCast, if_true]
  rw [if_pos (pad_is he), unp_is hw he hf]
/-! ### numbers packed -/
theorem pack_l1 {w : Nat} (hw : w ≤ 32) {xs : List Int} (hn : xs.length ≤ 2000) (hf : Fit w xs) (i : Nat) (hi : i < xs.length) (Q : List Int × Int → Prop) (L : Nat) (hL : L = (w * xs.length + 7) / 8)
    (next : ∀ b, byt b → b.length = L → (∀ m, m < 8 * L → tb b m = (decide (m < (i + 1) * w) && bx xs w m)) → EvP (fun k => codec_Pack.l0 k (w : Int) b xs (xs.length : Int) ((i + 1 : Nat) : Int)) Q) (d : Nat) :
    ∀ (k : Nat) (b : List Int), k + d = w → byt b → b.length = L → (∀ m, m < 8 * L → tb b m = (decide (m < i * w + k) && bx xs w m)) →
      EvP (fun n => codec_Pack.l1 n (w : Int) b (i : Int) (xs.getD i 0) xs (xs.length : Int) (i : Int) (w : Int) (k : Int)) Q := by
  have hwn : w * xs.length ≤ 64000 := Nat.mul_le_mul hw hn
  obtain ⟨v, ev, hv⟩ := fit_at hf i hi
  have hv32 : v < 9223372036854775808 := by
    have hp : (2 : Nat) ^ w ≤ 2 ^ 32 := Nat.pow_le_pow_right (by omega) hw
    have h32 : (2 : Nat) ^ 32 = 4294967296 := rfl
    omega
  induction d with
  | zero =>
    intro k b hk hb hl ht
    refine EvP.step (fun n => by rw [codec_Pack.l1]) (EvP.neg (by omega) ?_)
    rw [w_succ (by omega)]
    refine next b hb hl (fun m hm => ?_)
    rw [ht m hm, Nat.add_mul, Nat.one_mul, show k = w by omega]
  | succ d ih =>
    intro k b hk hb hl ht
    have hkw : k < w := by omega
    have hlt := mul_lt_of hi hkw
    have hc := Nat.mul_comm w xs.length
    have hbx : bx xs w (i * w + k) = v.testBit k := by
      unfold bx
      rw [div_of hkw, mod_of hkw, ev, Int.toNat_natCast]
    have hia : (i * w + k) / 8 < b.length := by omega
    have ih' := ih (k + 1)
    clear ih
    have step : ∀ m : Nat, m < 8 * L → decide (m < i * w + (k + 1)) = (decide (m < i * w + k) || decide (m = i * w + k)) := by
      intro m hm
      rw [← Bool.decide_or, decide_eq_decide]
      omega
    refine EvP.step (fun n => by rw [codec_Pack.l1]) (EvP.pos (by omega) (EvP.pos (by omega) ?_))
    rw [w_pos (by omega), w_div8 (by omega), t_mod8, ev, w_succ (by omega), rd_getD]
    rw [ev] at ih'
    have hkd : k + 1 + d = w := by omega
    refine EvP.ite (fun ht1 => EvP.pos (by omega) (EvP.pos (by omega) (EvP.pos (by omega) ?_))) (fun ht1 => ?_)
    · have hbit := (test_i64 (by omega) hv32).1 ht1
      rw [Int.toNat_natCast]
      refine ih' _ hkd (tb_or hb (m := 0) hia).1 (by rw [List.length_set]; exact hl) (fun m hm => ?_)
      rw [(tb_or hb (m := m) hia).2, ht m hm, step m hm]
      by_cases hmm : m = i * w + k
      · rw [hmm, hbx, hbit]
        simp
      · rw [decide_eq_false hmm, Bool.or_false, Bool.or_false]
    · have hbit : v.testBit k = false := by
        cases h : v.testBit k with
        | false => rfl
        | true => exact absurd ((test_i64 (by omega) hv32).2 h) ht1
      refine ih' b hkd hb hl (fun m hm => ?_)
      rw [ht m hm, step m hm]
      by_cases hmm : m = i * w + k
      · rw [hmm, hbx, hbit]
        simp
      · rw [decide_eq_false hmm, Bool.or_false]
theorem pack_l0 {w : Nat} (hw : w ≤ 32) {xs : List Int} (hn : xs.length ≤ 2000) (hf : Fit w xs) (L : Nat) (hL : L = (w * xs.length + 7) / 8) (d : Nat) :
    ∀ (i : Nat) (b : List Int), i + d = xs.length → byt b → b.length = L → (∀ m, m < 8 * L → tb b m = (decide (m < i * w) && bx xs w m)) →
      EvP (fun n => codec_Pack.l0 n (w : Int) b xs (xs.length : Int) (i : Int)) (fun r => r.2 = 0 ∧ Enc r.1 w xs) := by
  induction d with
  | zero =>
    intro i b hi hb hl ht
    refine EvP.step (fun n => by rw [codec_Pack.l0]) (EvP.neg (by omega) (EvP.ret ⟨rfl, hb, by rw [hl, hL], fun m hm => ?_⟩))
    dsimp only at hm
    rw [hl] at hm
    rw [ht m hm, show i = xs.length by omega]
  | succ d ih =>
    intro i b hi hb hl ht
    have hlt : i < xs.length := by omega
    obtain ⟨v, ev, hv⟩ := fit_at hf i hlt
    refine EvP.step (fun n => by rw [codec_Pack.l0]) (EvP.pos (by omega) (EvP.pos (by omega) (EvP.pos (by omega) ?_)))
    rw [rd_getD, shl_one hw]
    refine EvP.neg (by rw [ev]; omega) (EvP.pos (by omega) (EvP.step (fun n => by rw [codec_Pack.j2]) (EvP.neg (by rw [ev, decide_eq_false (by omega)]; simp) ?_)))
    exact pack_l1 hw hn hf i hlt _ L hL (fun b' h1 h2 h3 => ih (i + 1) b' (by omega) h1 h2 h3) w 0 b (by omega) hb hl (fun m hm => by rw [ht m hm, Nat.add_zero])
theorem pack_is {w : Nat} (hw : w ≤ 32) {xs : List Int} (hn : xs.length ≤ 2000) (hf : Fit w xs) : EvP (fun n => codec_Pack.f n xs (w : Int)) (fun r => r.2 = 0 ∧ Enc r.1 w xs) := by
  have hwn : w * xs.length ≤ 64000 := Nat.mul_le_mul hw hn
  unfold codec_Pack.f
  refine EvP.neg (by omega) (EvP.step (fun n => by rw [codec_Pack.j0]) (EvP.neg (by simp; omega) (EvP.neg (by omega) ?_)))
  rw [size_is hw hn]
  refine EvP.bind1 (Ev.now _) (EvP.pos (by omega) (EvP.pos (by omega) ?_))
  rw [Int.toNat_natCast]
  refine pack_l0 hw hn hf _ rfl xs.length 0 _ (by omega) (fun x hx => ?_) (by rw [List.length_replicate]) (fun m hm => ?_)
  · rw [(List.mem_replicate.1 hx).2]
    omega
  · rw [decide_eq_false (by omega), Bool.false_and]
    unfold tb
    rw [List.getD_eq_getElem?_getD, List.getElem?_replicate]
    split <;> simp
/-! ### numbers out of a list -/
theorem keep_New (l0 : List Int) (h : ∀ x ∈ l0, (Lit.int .i64 x).wf = true) (hl : l0.length ≤ maxLen) : EvP (fun _ => shapesearchkeep_New.f l0) (fun r => Src r.1 r.2) := by
  have e : mn (l0.length : Int) 2000 = ((min l0.length 2000 : Nat) : Int) := by unfold mn; split <;> omega
  unfold shapesearchkeep_New.f
  rw [e]
  refine EvP.pos (by omega) (EvP.pos (by omega) (EvP.ret ?_))
  refine ⟨Int.le_refl _, by omega, by rw [List.length_take]; omega, fun x hx => b_i64 (h x (List.mem_of_mem_take hx))⟩
theorem keep_Raw (s : List Int) (a : Int) (h : Src s a) : EvP (fun _ => shapesearchkeep_Src_Raw.f s a) (fun r => Src s r.2 ∧ -9223372036854775808 ≤ r.1 ∧ r.1 ≤ 9223372036854775807) := by
  obtain ⟨h0, h1, h2, h3⟩ := h
  unfold shapesearchkeep_Src_Raw.f
  refine EvP.ite (fun hc => EvP.ret ⟨⟨h0, h1, h2, h3⟩, by omega, by omega⟩) (fun hc => ?_)
  have hw : wrap64 (a + 1) = a + 1 := w64 (by omega) (by omega)
  have hw2 : wrap64 (a + 1 - 1) = a := by rw [w64 (by omega) (by omega)]; omega
  rw [hw, hw2]
  have hm := h3 _ (rd_mem s a h0 (by omega))
  exact EvP.pos h0 (EvP.pos (by omega) (EvP.ret ⟨⟨by omega, by omega, h2, h3⟩, hm⟩))
theorem keep_Mod (a n : Int) (ha : -9223372036854775808 ≤ a) (ha' : a ≤ 9223372036854775807) (hn : 1 ≤ n) (hn' : n ≤ 9223372036854775807) : EvP (fun _ => shapesearchkeep_Mod.f a n) (fun t => 0 ≤ t ∧ t < n) := by
  have h1 := Int.tmod_lt_of_pos a (show 0 < n by omega)
  have h2 := Int.lt_tmod_of_pos a (show 0 < n by omega)
  unfold shapesearchkeep_Mod.f
  refine EvP.neg (by omega) (EvP.neg (by omega) (EvP.ite (fun hc => EvP.ret ?_) (fun hc => EvP.ret ?_)))
  · rw [w64 (by omega) (by omega)]
    omega
  · omega
theorem keep_N (s : List Int) (a n : Int) (h : Src s a) (hn : 1 ≤ n) (hn' : n ≤ 9223372036854775807) : EvP (fun _ => shapesearchkeep_Src_N.f s a n) (fun r => Src s r.2 ∧ 0 ≤ r.1 ∧ r.1 < n) := by
  unfold shapesearchkeep_Src_N.f
  refine EvP.bind (keep_Raw s a h) (fun x hx => EvP.bind (keep_Mod x.1 n hx.2.1 hx.2.2 hn hn') (fun t ht => EvP.ret ⟨hx.1, ht⟩))
theorem keep_Range (s : List Int) (a lo hi : Int) (h : Src s a) (hlo : -1000000000000 ≤ lo) (hlh : lo ≤ hi) (hhi : hi ≤ 1000000000000) : EvP (fun _ => shapesearchkeep_Src_Range.f s a lo hi) (fun r => Src s r.2 ∧ lo ≤ r.1 ∧ r.1 ≤ hi) := by
  have e1 : wrap64 (hi - lo) = hi - lo := w64 (by omega) (by omega)
  have e2 : wrap64 (hi - lo + 1) = hi - lo + 1 := w64 (by omega) (by omega)
  unfold shapesearchkeep_Src_Range.f
  rw [e1, e2]
  refine EvP.bind (keep_N s a (hi - lo + 1) h (by omega) (by omega)) (fun x hx => EvP.ret ⟨hx.1, ?_⟩)
  have e3 : wrap64 (lo + x.1) = lo + x.1 := w64 (by omega) (by omega)
  show lo ≤ wrap64 (lo + x.1) ∧ wrap64 (lo + x.1) ≤ hi
  rw [e3]
  omega
theorem awake_is : Ev (fun k => shapesearchlaw03_awake.f k) true := Ev.of shapesearchlaw03_awake.mono (k := 40) (by decide +kernel)
theorem unpack_bad {b : List Int} {w n m : Nat} (hw : w ≤ 32) (hn : n ≤ 2000) (hb : byt b) (hl : b.length = (w * n + 7) / 8) (h1 : w * n ≤ m) (h2 : m < 8 * b.length) (ht : tb b m = true) : codec_Unpack.f b (w : Int) (n : Int) = some ([], 3) := by
  unfold codec_Unpack.f
  rw [if_neg (by omega), if_neg (by omega), size_is hw hn]
  show (if (b.length : Int) = (((w * n + 7) / 8 : Nat) : Int) then _ else _) = _
  rw [if_pos (by rw [hl])]
  simp only [Int.toNat_natCast, if_true]
  rw [if_neg]
  intro hp
  unfold X.padb at hp
  rw [List.all_eq_true] at hp
  have := hp (m - w * n) (List.mem_range.2 (by omega))
  rw [beq_iff_eq, show w * n + (m - w * n) = m by omega, bitz_is hb, ht] at this
  simp at this
/-- The numbers with one bit turned over. -/
def flip (xs : List Int) (w K : Nat) : List Int := xs.set (K / w) (((xs.getD (K / w) 0).toNat ^^^ 2 ^ (K % w) : Nat) : Int)
theorem flip_fit {xs : List Int} {w K : Nat} (hw : 1 ≤ w) (hf : Fit w xs) (hK : K < xs.length * w) : Fit w (flip xs w K) := by
  have hi : K / w < xs.length := Nat.div_lt_of_lt_mul (by rw [Nat.mul_comm]; exact hK)
  obtain ⟨v, ev, hv⟩ := fit_at hf (K / w) hi
  have hm := Nat.mod_lt K (show 0 < w by omega)
  intro x hx
  rcases List.mem_or_eq_of_mem_set hx with h | h
  · exact hf x h
  · rw [h, ev, Int.toNat_natCast]
    have h2 := Nat.xor_lt_two_pow hv (Nat.pow_lt_pow_right (by omega) hm : 2 ^ (K % w) < 2 ^ w)
    refine ⟨by omega, ?_⟩
    have e : (2 : Int) ^ w = ((2 ^ w : Nat) : Int) := by push_cast; rfl
    rw [e]
    omega
theorem flip_bx {xs : List Int} {w K : Nat} (hw : 1 ≤ w) (hK : K < xs.length * w) (m : Nat) : bx (flip xs w K) w m = (bx xs w m ^^ decide (m = K)) := by
  have hi : K / w < xs.length := Nat.div_lt_of_lt_mul (by rw [Nat.mul_comm]; exact hK)
  unfold bx flip
  by_cases h : m / w = K / w
  · rw [h, getD_at _ _ (by rw [List.length_set]; exact hi), List.getElem_set_self, Int.toNat_natCast, Nat.testBit_xor, Nat.testBit_two_pow]
    congr 1
    rw [decide_eq_decide]
    constructor
    · intro e
      have e1 := Nat.div_add_mod m w
      have e2 := Nat.div_add_mod K w
      rw [h] at e1
      omega
    · intro e
      rw [e]
  · rw [List.getD_eq_getElem?_getD, List.getElem?_set_ne (fun e => h e.symm), ← List.getD_eq_getElem?_getD, decide_eq_false (fun e => h (by rw [e])), Bool.xor_false]
theorem bits_l1 {w : Nat} (h1 : 1 ≤ w) (hw : w ≤ 32) {xs : List Int} (hn : xs.length ≤ 2000) (hf : Fit w xs) {K : Nat} (hK : K < xs.length * w) (d : Nat) :
    ∀ i : Nat, i + d = xs.length → EvP (fun k => shapesearchlaw03_CodecBits.l1 k (w : Int) xs (K : Int) (flip xs w K) (xs.length : Int) (i : Int)) (fun r => r = true) := by
  have lf : (flip xs w K).length = xs.length := by unfold flip; rw [List.length_set]
  have hnw : xs.length * w ≤ 64000 := Nat.mul_le_mul hn hw
  have hm := Nat.mod_lt K (show 0 < w by omega)
  induction d with
  | zero =>
    intro i hi
    exact EvP.step (fun k => by rw [shapesearchlaw03_CodecBits.l1]) (EvP.neg (by omega) (EvP.bind1 awake_is (EvP.ret rfl)))
  | succ d ih =>
    intro i hi
    have hlt : i < xs.length := by omega
    have nxt := ih (i + 1) (by omega)
    clear ih
    refine EvP.step (fun k => by rw [shapesearchlaw03_CodecBits.l1]) (EvP.pos (by omega) (EvP.neg (by omega) ?_))
    rw [w_div (by omega), t_mod, w_succ (by omega), rd_getD, rd_getD]
    refine EvP.ite (fun h => ?_) (fun h => ?_)
    · have hik : i = K / w := by omega
      refine EvP.pos (by omega) (EvP.pos (by rw [lf]; omega) (EvP.pos (by omega) (EvP.pos (by omega) (EvP.pos ?_ nxt))))
      obtain ⟨v, ev, hv⟩ := fit_at hf i hlt
      have hp : (2 : Nat) ^ w ≤ 2 ^ 32 := Nat.pow_le_pow_right (by omega) hw
      have h32 : (2 : Nat) ^ 32 = 4294967296 := rfl
      have hp2 : (2 : Nat) ^ (K % w) < 2 ^ w := Nat.pow_lt_pow_right (by omega) hm
      rw [shl_one (by omega), ev, xor_i64 (by omega) (by omega)]
      unfold flip
      rw [← hik, getD_at _ _ (by rw [List.length_set]; exact hlt), List.getElem_set_self, ev, Int.toNat_natCast]
    · have hik : ¬ i = K / w := by omega
      refine EvP.pos (by omega) (EvP.pos (by rw [lf]; omega) (EvP.pos (by omega) (EvP.pos ?_ nxt)))
      unfold flip
      rw [List.getD_eq_getElem?_getD, List.getElem?_set_ne (fun e => hik e.symm), ← List.getD_eq_getElem?_getD]
theorem bits_j1 (a1 : Int) (ha : -9223372036854775808 ≤ a1 ∧ a1 ≤ 9223372036854775807) {w : Nat} (h1 : 1 ≤ w) (hw : w ≤ 12) {xs : List Int} (hn1 : 1 ≤ xs.length) (hn : xs.length ≤ 20) (hf : Fit w xs) (b : List Int) (he : Enc b w xs) :
    EvP (fun k => shapesearchlaw03_CodecBits.j1 k a1 (w : Int) xs b false) (fun r => r = true) := by
  have hwn : w * xs.length ≤ 240 := Nat.mul_le_mul hw hn
  have hwp : 1 ≤ w * xs.length := Nat.mul_pos (by omega) (by omega)
  have hc := Nat.mul_comm w xs.length
  have hl := he.2.1
  refine EvP.step (fun k => by rw [shapesearchlaw03_CodecBits.j1]) (EvP.neg (by simp) ?_)
  rw [w_eight (by omega)]
  refine EvP.bind (keep_Mod a1 _ ha.1 ha.2 (by omega) (by omega)) (fun t ht => ?_)
  obtain ⟨K, rfl⟩ := Int.eq_ofNat_of_zero_le ht.1
  have hK8 : K < 8 * b.length := by omega
  have hKb : K / 8 < b.length := by omega
  refine EvP.bind1 (Ev.now _) (EvP.pos (by simp; omega) (EvP.bind1 (Ev.now _) ?_))
  rw [List.nil_append]
  rw [w_div8 (by omega), t_mod8, w_mul (by omega), rd_getD, Int.toNat_natCast]
  refine EvP.pos (by omega) (EvP.pos (by omega) (EvP.pos (by omega) ?_))
  have hx := fun m => tb_xor (m := m) he.1 hKb
  have hlc : (b.set (K / 8) (Go.bits .xor .u8 (b.getD (K / 8) 0) (shl .u8 1 ((K % 8 : Nat) : Int)))).length = b.length := List.length_set
  generalize b.set (K / 8) (Go.bits .xor .u8 (b.getD (K / 8) 0) (shl .u8 1 ((K % 8 : Nat) : Int))) = c at *
  by_cases hKn : K < xs.length * w
  · have lf : (flip xs w K).length = xs.length := by unfold flip; rw [List.length_set]
    have hec : Enc c w (flip xs w K) := by
      refine ⟨(hx 0).1, by rw [hlc, lf]; exact hl, fun m hm => ?_⟩
      rw [(hx m).2, he.2.2 m (by omega), flip_bx h1 hKn, lf]
      by_cases hmn : m < xs.length * w
      · rw [decide_eq_true hmn, Bool.true_and, Bool.true_and]
      · rw [decide_eq_false hmn, decide_eq_false (show ¬ m = K by omega), Bool.false_and, Bool.false_and]
        rfl
    have hu := unpack_is (w := w) (xs := flip xs w K) (by omega) (by omega) hec (flip_fit h1 hf hKn)
    rw [lf] at hu
    rw [hu]
    refine EvP.bind1 (Ev.now _) (EvP.neg (by omega) (EvP.pos rfl ?_))
    have e : (((flip xs w K, (0 : Int)).1.length : Int) != (xs.length : Int)) = false := by
      dsimp only
      rw [lf]
      simp
    rw [e]
    refine EvP.step (fun k => by rw [shapesearchlaw03_CodecBits.j2]) (EvP.neg (by simp) ?_)
    exact bits_l1 h1 (by omega) (by omega) hf hKn xs.length 0 (by omega)
  · have ht : tb c K = true := by
      rw [(hx K).2, he.2.2 K hK8, decide_eq_false hKn, Bool.false_and]
      simp
    rw [unpack_bad (m := K) (by omega) (by omega) (hx 0).1 (by rw [hlc]; exact hl) (by omega) (by omega) ht]
    exact EvP.bind1 (Ev.now _) (EvP.pos (by omega) (EvP.pos rfl (EvP.bind1 awake_is (EvP.ret rfl))))
theorem bits_l0 (a1 : Int) (ha : -9223372036854775808 ≤ a1 ∧ a1 ≤ 9223372036854775807) {w : Nat} (h1 : 1 ≤ w) (hw : w ≤ 12) (s : List Int) (d : Nat) :
    ∀ (xs : List Int) (c a : Int), c + 1 = d → Src s a → Fit w xs → 1 ≤ xs.length + d → xs.length + d ≤ 20 → EvP (fun k => shapesearchlaw03_CodecBits.l0 k a1 (w : Int) xs c s a) (fun r => r = true) := by
  have hp : (2 : Nat) ^ w ≤ 2 ^ 12 := Nat.pow_le_pow_right (by omega) hw
  have hp1 : 1 ≤ (2 : Nat) ^ w := Nat.pow_pos (by omega)
  have h12 : (2 : Nat) ^ 12 = 4096 := rfl
  have ep : (2 : Int) ^ w = ((2 ^ w : Nat) : Int) := by push_cast; rfl
  induction d with
  | zero =>
    intro xs c a hc hs hf hn1 hn
    refine EvP.step (fun k => by rw [shapesearchlaw03_CodecBits.l0]) (EvP.neg (by omega) (EvP.bind (pack_is (w := w) (xs := xs) (by omega) (by omega) hf) (fun r hr => EvP.pos hr.1 ?_)))
    have hl := hr.2.2.1
    have hwn : w * xs.length ≤ 12 * 20 := Nat.mul_le_mul hw (by omega)
    have e : ((r.1.length : Int) != wrap64 (Int.tdiv (wrap64 (wrap64 ((xs.length : Int) * (w : Int)) + 7)) 8)) = false := by
      rw [← Int.natCast_mul, Nat.mul_comm, w64 (n := ((w * xs.length : Nat) : Int)) (by omega) (by omega), w64 (n := ((w * xs.length : Nat) : Int) + 7) (by omega) (by omega), Int.tdiv_eq_ediv_of_nonneg (by omega), w64 (by omega) (by omega)]
      simp
      omega
    rw [e]
    exact bits_j1 a1 ha h1 hw (by omega) (by omega) hf r.1 hr.2
  | succ d ih =>
    intro xs c a hc hs hf hn1 hn
    refine EvP.step (fun k => by rw [shapesearchlaw03_CodecBits.l0]) (EvP.pos (by omega) (EvP.pos (by omega) ?_))
    rw [shl_one (by omega)]
    refine EvP.bind (keep_N s a ((2 ^ w : Nat) : Int) hs (by omega) (by omega)) (fun y hy => EvP.pos (by omega) ?_)
    rw [w64 (n := c - 1) (by omega) (by omega)]
    refine ih _ _ _ (by omega) hy.1 (fun x hx => ?_) (by rw [List.length_append, List.length_singleton]; omega) (by rw [List.length_append, List.length_singleton]; omega)
    rcases List.mem_append.1 hx with hx | hx
    · exact hf x hx
    · have : x = y.1 := by simpa using hx
      rw [this, ep]
      exact hy.2
theorem CodecBits : shapesearchlaw03_CodecBits.Pure := by
  intro l0 a1 h1 h2 h3 h4
  refine EvP.rounds ?_
  unfold shapesearchlaw03_CodecBits.f
  refine EvP.bind (keep_New l0 h3 h1) (fun s hs => EvP.bind (keep_Range s.1 s.2 1 12 hs (by omega) (by omega) (by omega)) (fun p hp => EvP.bind (keep_N s.1 p.2 20 hp.1 (by omega) (by omega)) (fun q hq => ?_)))
  obtain ⟨w, ew⟩ := Int.eq_ofNat_of_zero_le (show 0 ≤ p.1 by omega)
  rw [ew]
  exact bits_l0 a1 (b_i64 h4) (by omega) (by omega) s.1 (q.1.toNat + 1) [] q.1 q.2 (by omega) hq.1 (fun x h => by cases h) (by simp) (by simp; omega)

end Go.Proofs.Ytemeojkmchgkjaa.Pure
