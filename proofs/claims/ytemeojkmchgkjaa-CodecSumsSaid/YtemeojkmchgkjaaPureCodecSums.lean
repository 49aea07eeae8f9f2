/- This file proves that the checksum of bytes changes when one byte changes. -/
import Derived.Test.YtemeojkmchgkjaaPCodecSumsx2
import Derived.Test.YtemeojkmchgkjaaBase
import Derived.Test.YtemeojkmchgkjaaMathCrc
set_option linter.unusedVariables false
namespace Go.Proofs.Ytemeojkmchgkjaa.Pure
open Go.RowKit Go.Proofs.Ytemeojkmchgkjaa.PCodecSums Go.Proofs.YtemeojkmchgkjaaW.PrintWords Go.Proofs.YtemeojkmchgkjaaW.PrintLast Go.Proofs.YtemeojkmchgkjaaW.PrintMore Go.Proofs.Ytemeojkmchgkjaa.Base Go.Proofs.Ytemeojkmchgkjaa.X
/-! ### the checksum: each step can be taken back -/
def stepN (x c : Nat) : Nat := (crcT (x % 256 ^^^ c)).toNat ^^^ (x / 256)
theorem byte_xor {a b : Nat} (ha : a < 256) (hb : b < 256) : a ^^^ b < 256 := by
  have := Nat.xor_lt_two_pow (n := 8) ha hb
  exact this
theorem word_xor {a b : Nat} (ha : a < 4294967296) (hb : b < 4294967296) : a ^^^ b < 4294967296 := by
  have := Nat.xor_lt_two_pow (n := 32) ha hb
  exact this
theorem top_byte (u v : Nat) (hv : v < 16777216) : (u ^^^ v) / 16777216 = u / 16777216 := by
  have h := Nat.shiftRight_xor_distrib (a := u) (b := v) (i := 24)
  rw [Nat.shiftRight_eq_div_pow, Nat.shiftRight_eq_div_pow, Nat.shiftRight_eq_div_pow] at h
  have e : (2 : Nat) ^ 24 = 16777216 := rfl
  rw [e, Nat.div_eq_of_lt hv, Nat.xor_zero] at h
  exact h
theorem stepN_lt {x c : Nat} (hx : x < 4294967296) (hc : c < 256) : stepN x c < 4294967296 := by
  have hi := byte_xor (a := x % 256) (b := c) (by omega) hc
  obtain ⟨h1, h2, _⟩ := crcT_back _ hi
  exact word_xor (by omega) (by omega)
theorem stepN_idx {x y c d : Nat} (hx : x < 4294967296) (hy : y < 4294967296) (hc : c < 256) (hd : d < 256) (h : stepN x c = stepN y d) : x % 256 ^^^ c = y % 256 ^^^ d := by
  have hi := byte_xor (a := x % 256) (b := c) (by omega) hc
  have hj := byte_xor (a := y % 256) (b := d) (by omega) hd
  have h1 := (crcT_back _ hi).2.2
  have h2 := (crcT_back _ hj).2.2
  have t1 := top_byte (crcT (x % 256 ^^^ c)).toNat (x / 256) (by omega)
  have t2 := top_byte (crcT (y % 256 ^^^ d)).toNat (y / 256) (by omega)
  have e : (crcT (x % 256 ^^^ c)).toNat ^^^ (x / 256) = (crcT (y % 256 ^^^ d)).toNat ^^^ (y / 256) := h
  rw [e, t2] at t1
  rw [← t1] at h1
  exact h1.symm.trans h2
theorem stepN_reg {x y c : Nat} (hx : x < 4294967296) (hy : y < 4294967296) (hc : c < 256) (h : stepN x c = stepN y c) : x = y := by
  have hi := stepN_idx hx hy hc hc h
  have e : (crcT (x % 256 ^^^ c)).toNat ^^^ (x / 256) = (crcT (y % 256 ^^^ c)).toNat ^^^ (y / 256) := h
  rw [hi] at e
  have h1 := xor_cancel e
  rw [Nat.xor_comm, Nat.xor_comm (y % 256)] at hi
  have h2 := xor_cancel hi
  omega
theorem stepN_byte {x c d : Nat} (hx : x < 4294967296) (hc : c < 256) (hd : d < 256) (h : stepN x c = stepN x d) : c = d := xor_cancel (stepN_idx hx hx hc hd h)
theorem step_is {x c : Nat} (hx : x < 4294967296) (hc : c < 256) : Go.bits .xor .u32 (crcT (Go.bits .xor .u8 ((x : Int) % 256) (c : Int)).toNat) ((x : Int) / 256) = (stepN x c : Int) := by
  have hi := byte_xor (a := x % 256) (b := c) (by omega) hc
  obtain ⟨h1, h2, _⟩ := crcT_back _ hi
  have e1 : ((x : Int) % 256) = ((x % 256 : Nat) : Int) := by omega
  have e2 : ((x : Int) / 256) = ((x / 256 : Nat) : Int) := by omega
  rw [e1, e2, xor_u8 _ _ (by omega) hc, Int.toNat_natCast]
  have e3 : crcT (x % 256 ^^^ c) = ((crcT (x % 256 ^^^ c)).toNat : Int) := (Int.toNat_of_nonneg h1).symm
  rw [e3, xor_u32 _ _ (by omega) (by omega)]
  rfl
def Bts (l : List Int) : Prop := ∀ x ∈ l, 0 ≤ x ∧ x ≤ 255
theorem crcFrom_reg : ∀ (l : List Int), Bts l → ∀ x : Nat, x < 4294967296 → ∃ r : Nat, r < 4294967296 ∧ crcFrom x l = (r : Int) ∧ ∀ y : Nat, y < 4294967296 → crcFrom y l = (r : Int) → y = x
  | [], _, x, hx => ⟨x, hx, rfl, fun y _ h => Int.ofNat.inj h⟩
  | c :: l, hl, x, hx => by
    have hc := hl c (List.mem_cons_self ..)
    obtain ⟨d, rfl⟩ := Int.eq_ofNat_of_zero_le hc.1
    have hd : d < 256 := by omega
    obtain ⟨r, h1, h2, h3⟩ := crcFrom_reg l (fun z hz => hl z (List.mem_cons_of_mem _ hz)) (stepN x d) (stepN_lt hx hd)
    refine ⟨r, h1, ?_, fun y hy h => ?_⟩
    · show crcFrom (Go.bits .xor .u32 (crcT (Go.bits .xor .u8 ((x : Int) % 256) (d : Int)).toNat) ((x : Int) / 256)) l = _
      rw [step_is hx hd]
      exact h2
    · have h' : crcFrom (Go.bits .xor .u32 (crcT (Go.bits .xor .u8 ((y : Int) % 256) (d : Int)).toNat) ((y : Int) / 256)) l = (r : Int) := h
      rw [step_is hy hd] at h'
      exact stepN_reg hy hx hd (h3 _ (stepN_lt hy hd) h')
theorem crcFrom_set : ∀ (l : List Int), Bts l → ∀ (i : Nat) (b : Int), 0 ≤ b → b ≤ 255 → ∀ (h : i < l.length), l[i] ≠ b → ∀ x : Nat, x < 4294967296 → crcFrom x l ≠ crcFrom x (l.set i b)
  | [], _, i, b, _, _, h, _, _, _ => absurd h (Nat.not_lt_zero _)
  | c :: l, hl, i, b, hb, hb', h, hne, x, hx => by
    have hc := hl c (List.mem_cons_self ..)
    obtain ⟨d, rfl⟩ := Int.eq_ofNat_of_zero_le hc.1
    have hd : d < 256 := by omega
    have hl' : Bts l := fun z hz => hl z (List.mem_cons_of_mem _ hz)
    have e1 : crcFrom x ((d : Int) :: l) = crcFrom (stepN x d : Int) l := by
      show crcFrom (Go.bits .xor .u32 (crcT (Go.bits .xor .u8 ((x : Int) % 256) (d : Int)).toNat) ((x : Int) / 256)) l = _
      rw [step_is hx hd]
    cases i with
    | zero =>
      obtain ⟨f, rfl⟩ := Int.eq_ofNat_of_zero_le hb
      have hf : f < 256 := by omega
      have e2 : crcFrom x ((f : Int) :: l) = crcFrom (stepN x f : Int) l := by
        show crcFrom (Go.bits .xor .u32 (crcT (Go.bits .xor .u8 ((x : Int) % 256) (f : Int)).toNat) ((x : Int) / 256)) l = _
        rw [step_is hx hf]
      intro he
      have he' : crcFrom (stepN x d : Int) l = crcFrom (stepN x f : Int) l := by
        rw [← e1, ← e2]
        exact he
      obtain ⟨r, h1, h2, h3⟩ := crcFrom_reg l hl' (stepN x d) (stepN_lt hx hd)
      have h4 := h3 _ (stepN_lt hx hf) (he'.symm.trans h2)
      have h5 := stepN_byte hx hf hd h4
      exact hne (by rw [h5]; rfl)
    | succ j =>
      have hj : j < l.length := by simpa using h
      have hne' : l[j] ≠ b := by simpa using hne
      have e2 : crcFrom x ((d : Int) :: l.set j b) = crcFrom (stepN x d : Int) (l.set j b) := by
        show crcFrom (Go.bits .xor .u32 (crcT (Go.bits .xor .u8 ((x : Int) % 256) (d : Int)).toNat) ((x : Int) / 256)) _ = _
        rw [step_is hx hd]
      intro he
      refine crcFrom_set l hl' j b hb hb' hj hne' (stepN x d) (stepN_lt hx hd) ?_
      rw [← e1, ← e2]
      exact he
theorem crc_set {l : List Int} (hl : Bts l) (i : Nat) (b : Int) (hb : 0 ≤ b) (hb' : b ≤ 255) (h : i < l.length) (hne : l[i] ≠ b) : crc l ≠ crc (l.set i b) := by
  have hl2 : Bts (l.set i b) := fun z hz => by
    rcases List.mem_or_eq_of_mem_set hz with h | h
    · exact hl z h
    · omega
  obtain ⟨r, h1, h2, _⟩ := crcFrom_reg l hl 4294967295 (by decide)
  obtain ⟨q, k1, k2, _⟩ := crcFrom_reg (l.set i b) hl2 4294967295 (by decide)
  have hn := crcFrom_set l hl i b hb hb' h hne 4294967295 (by decide)
  rw [h2, k2] at hn
  intro he
  have h2' : crcFrom 4294967295 l = (r : Int) := h2
  have k2' : crcFrom 4294967295 (l.set i b) = (q : Int) := k2
  have he' : Go.bits .xor .u32 ((4294967295 : Nat) : Int) (r : Int) = Go.bits .xor .u32 ((4294967295 : Nat) : Int) (q : Int) := by
    rw [← h2', ← k2']
    exact he
  rw [xor_u32 _ _ (by decide) h1, xor_u32 _ _ (by decide) k1] at he'
  exact hn (by rw [xor_cancel (Int.ofNat.inj he')])
theorem awake_is : Ev (fun k => shapesearchlaw03_awake.f k) true := Ev.of shapesearchlaw03_awake.mono (k := 40) (by decide +kernel)
theorem keep_Mod (a n : Int) (ha : -9223372036854775808 ≤ a) (ha' : a ≤ 9223372036854775807) (hn : 1 ≤ n) (hn' : n ≤ 9223372036854775807) : EvP (fun _ => shapesearchkeep_Mod.f a n) (fun t => 0 ≤ t ∧ t < n) := by
  have h1 := Int.tmod_lt_of_pos a (show 0 < n by omega)
  have h2 := Int.lt_tmod_of_pos a (show 0 < n by omega)
  unfold shapesearchkeep_Mod.f
  refine EvP.neg (by omega) (EvP.neg (by omega) (EvP.ite (fun hc => EvP.ret ?_) (fun hc => EvP.ret ?_)))
  · rw [w64 (by omega) (by omega)]
    omega
  · omega
theorem j_short (l0 : List Int) (a1 a2 : Int) : EvP (fun k => shapesearchlaw03_CodecSums.j0 k l0 a1 a2 true) (fun x => x = true) := by
  refine EvP.step (fun k => by rw [shapesearchlaw03_CodecSums.j0]) (EvP.pos rfl ?_)
  exact EvP.bind1 awake_is (EvP.ret rfl)
theorem j_long (l0 : List Int) (a1 a2 : Int) (hl : Bts l0) (h1 : -9223372036854775808 ≤ a1) (h2 : a1 ≤ 9223372036854775807) (h3 : 1 ≤ a2) (h4 : a2 ≤ 255) (h5 : 1 ≤ l0.length) (h6 : l0.length ≤ 300) : EvP (fun k => shapesearchlaw03_CodecSums.j0 k l0 a1 a2 false) (fun x => x = true) := by
  refine EvP.step (fun k => by rw [shapesearchlaw03_CodecSums.j0]) (EvP.neg (by decide) ?_)
  refine EvP.bind1 (Ev.now _) ?_
  refine EvP.pos (by simp; omega) ?_
  refine EvP.bind1 (Ev.now _) ?_
  refine EvP.bind (keep_Mod a1 (l0.length : Int) h1 h2 (by omega) (by omega)) (fun t ht => ?_)
  rw [List.nil_append]
  refine EvP.pos ht.1 (EvP.pos ht.2 ?_)
  obtain ⟨i, rfl⟩ := Int.eq_ofNat_of_zero_le ht.1
  have hi : i < l0.length := by omega
  have hm := hl _ (List.getElem_mem hi)
  refine EvP.bind1 (Ev.now (crc l0)) ?_
  refine EvP.bind1 (Ev.now (crc (l0.set i (Go.bits .xor .u8 (rd l0 i) a2)))) ?_
  rw [rd_nat l0 i hi]
  refine EvP.neg (crc_set hl i _ (bits_u8 .xor _ _).1 (by have := (bits_u8 .xor l0[i] a2).2; omega) hi ?_) (EvP.bind1 awake_is (EvP.ret rfl))
  generalize l0[i] = y at *
  obtain ⟨b, rfl⟩ := Int.eq_ofNat_of_zero_le hm.1
  obtain ⟨c, rfl⟩ := Int.eq_ofNat_of_zero_le (show 0 ≤ a2 by omega)
  rw [xor_u8 b c (by omega) (by omega)]
  intro h
  have h' : b ^^^ 0 = b ^^^ c := by rw [Nat.xor_zero]; exact Int.ofNat.inj h
  have := xor_cancel h'
  omega
theorem CodecSums : shapesearchlaw03_CodecSums.Pure := by
  intro l0 a1 a2 h1 h2 h3 h4 h5
  have hl : Bts l0 := fun x hx => b_u8 (h3 x hx)
  have ha := b_i64 h4
  have hb := b_u8 h5
  refine EvP.rounds ?_
  unfold shapesearchlaw03_CodecSums.f
  refine EvP.ite (fun _ => j_short _ _ _) (fun hc => EvP.ite (fun _ => j_short _ _ _) (fun hd => ?_))
  by_cases e : a2 = 0
  · rw [e]
    exact j_short _ _ _
  · rw [beq_false_of_ne e]
    exact j_long l0 a1 a2 hl ha.1 ha.2 (by omega) hb.2 (by omega) (by omega)

end Go.Proofs.Ytemeojkmchgkjaa.Pure
