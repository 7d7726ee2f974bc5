import Derived.Test.YtppbcankhkgpfaaDoorPureRd
namespace Go.Proofs.YtppbcankhkgpfaaDoor.PDir
/-- A row of bytes, with n bits looked at: those that are to be turned are. -/
def turnL (at_ wh : Nat) : Nat → List UInt8 → List UInt8
  | 0, l => l
  | n + 1, l => if wh / 2 ^ n % 2 = 1 then (turnL at_ wh n l).set ((at_ + n) / 8) (UInt8.ofNat (((turnL at_ wh n l).getD ((at_ + n) / 8) 0).toNat ^^^ 2 ^ ((at_ + n) % 8))) else turnL at_ wh n l
theorem turnL_succ (at_ wh n : Nat) (l : List UInt8) : turnL at_ wh (n + 1) l = if wh / 2 ^ n % 2 = 1 then (turnL at_ wh n l).set ((at_ + n) / 8) (UInt8.ofNat (((turnL at_ wh n l).getD ((at_ + n) / 8) 0).toNat ^^^ 2 ^ ((at_ + n) % 8))) else turnL at_ wh n l := rfl
theorem turnL_len (at_ wh : Nat) (l : List UInt8) : ∀ n, (turnL at_ wh n l).length = l.length
  | 0 => rfl
  | n + 1 => by
    rw [turnL_succ]
    split
    · rw [List.length_set]; exact turnL_len at_ wh l n
    · exact turnL_len at_ wh l n
end Go.Proofs.YtppbcankhkgpfaaDoor.PDir
namespace Go.Proofs.YtppbcankhkgpfaaDoor.Th
open Go.RowKit Go.Proofs.YtppbcankhkgpfaaDoor.PDir Go.Proofs.YtppbcankhkgpfaaDoorW.PrintWords Go.Proofs.YtppbcankhkgpfaaDoorW.PrintLast Go.Proofs.YtppbcankhkgpfaaDoorW.PrintMore
set_option linter.unusedVariables false
set_option linter.unusedSimpArgs false
/-! ### The sum of a text, at once -/
theorem low_xor (c T : Nat) (h : c < 256) : c + 256 * T = (2 ^ 8 * T) ^^^ c := by
  have := split_low 8 (c + 256 * T)
  rw [show (c + 256 * T) / 2 ^ 8 = T by omega, show (c + 256 * T) % 2 ^ 8 = c by omega] at this
  exact this
theorem fold_cfn : ∀ (l : List UInt8) (r : Nat), l.foldl crcB r = cfn (8 * l.length) (r ^^^ Lib.leNat l)
  | [], r => by show r = r ^^^ 0; rw [Nat.xor_zero]
  | c :: t, r => by
    show t.foldl crcB (crcB r c) = cfn (8 * (t.length + 1)) (r ^^^ (c.toNat + 256 * Lib.leNat t))
    have e : cfn 8 (r ^^^ c.toNat ^^^ 2 ^ 8 * Lib.leNat t) = crcB r c ^^^ Lib.leNat t := by
      rw [cfn_xor, cfn_shift]
      rfl
    rw [fold_cfn t, low_xor _ _ c.toNat_lt, show 8 * (t.length + 1) = 8 * t.length + 8 by omega, cfn_add, Nat.xor_comm (2 ^ 8 * Lib.leNat t), ← Nat.xor_assoc, e]
theorem xor_zero_eq {a b : Nat} (h : a ^^^ b = 0) : a = b := by
  have h1 : (a ^^^ b) ^^^ b = b := by rw [h, Nat.zero_xor]
  rwa [Nat.xor_assoc, Nat.xor_self, Nat.xor_zero] at h1
theorem cf_zero {n : Nat} (h : n < 4294967296) (hz : cf n = 0) : n = 0 := by
  unfold cf at hz
  have := xor_zero_eq hz
  split at this <;> omega
theorem cfn_zero {n : Nat} (h : n < 4294967296) : ∀ j, cfn j n = 0 → n = 0
  | 0, hz => hz
  | j + 1, hz => cfn_zero h j (cf_zero (cfn_lt h j) hz)
theorem cfn_inj {a b : Nat} (ha : a < 4294967296) (hb : b < 4294967296) {j : Nat} (h : cfn j a = cfn j b) : a = b := by
  refine xor_zero_eq (cfn_zero (x_lt ha hb) j ?_)
  rw [cfn_xor, h, Nat.xor_self]
def fullN (l : List UInt8) : Nat := l.foldl crcB 4294967295
theorem full_ok {l : List UInt8} (h : (unsV l).2 = 0) : fullN l = cfn 32 4294967295 := by
  have hs := seal_unseal h
  generalize (unsV l).1 = t at hs
  subst hs
  unfold fullN sealV
  rw [List.foldl_append, fold_cfn (Lib.leBytes 4 (sumV t)), Lib.leBytes_length, leNat_sum]
  unfold sumV sumN
  rw [Nat.xor_comm 4294967295, ← Nat.xor_assoc, Nat.xor_self, Nat.zero_xor]
theorem burst {s b : List UInt8} {at_ w : Nat} (hs : (unsV s).2 = 0) (h4 : 4 ≤ s.length) (hl : b.length = s.length) (hb : Lib.leNat b = Lib.leNat s ^^^ 2 ^ at_ * w) (hw : w < 4294967296) (hw0 : w ≠ 0) (ha : at_ ≤ 8 * s.length) : unsV b = ([], 9) := by
  have hne : (unsV b).2 ≠ 0 := by
    intro hz
    have h1 := full_ok hz
    have h2 := full_ok hs
    unfold fullN at h1 h2
    rw [fold_cfn, hl, hb, ← Nat.xor_assoc, cfn_xor, ← fold_cfn, h2] at h1
    have h3 : cfn (8 * s.length) (2 ^ at_ * w) = 0 := by
      have := congrArg (fun x => cfn 32 4294967295 ^^^ x) h1
      change cfn 32 4294967295 ^^^ (cfn 32 4294967295 ^^^ cfn (8 * s.length) (2 ^ at_ * w)) = cfn 32 4294967295 ^^^ cfn 32 4294967295 at this
      rwa [← Nat.xor_assoc, Nat.xor_self, Nat.zero_xor] at this
    rw [show 8 * s.length = (8 * s.length - at_) + at_ by omega, cfn_add, cfn_shift] at h3
    exact hw0 (cfn_zero hw _ h3)
  rcases unseal_err hne with h | h
  · unfold unsV at h
    rw [if_neg (by omega)] at h
    split at h
    · have := congrArg Prod.snd h; simp at this
    · have := congrArg Prod.snd h; simp at this
  · exact h
theorem pow_xor (k a b : Nat) : 2 ^ k * (a ^^^ b) = (2 ^ k * a) ^^^ (2 ^ k * b) := by
  refine Nat.eq_of_testBit_eq fun i => ?_
  rw [Nat.testBit_xor, Nat.testBit_two_pow_mul, Nat.testBit_two_pow_mul, Nat.testBit_two_pow_mul, Nat.testBit_xor]
  by_cases h : k ≤ i <;> simp [h]
theorem bit_lt {c mo : Nat} (hc : c < 256) (hm : mo < 8) : c ^^^ 2 ^ mo < 256 := by
  refine Nat.xor_lt_two_pow (n := 8) hc ?_
  exact Nat.pow_lt_pow_right (by decide) hm
theorem set_num : ∀ (l : List UInt8) (i mo : Nat), i < l.length → mo < 8 → Lib.leNat (l.set i (UInt8.ofNat ((l.getD i 0).toNat ^^^ 2 ^ mo))) = Lib.leNat l ^^^ 2 ^ (8 * i + mo)
  | [], i, mo, h, _ => absurd h (by simp)
  | c :: t, 0, mo, _, hm => by
    have hx := bit_lt c.toNat_lt hm
    show (UInt8.ofNat (c.toNat ^^^ 2 ^ mo)).toNat + 256 * Lib.leNat t = (c.toNat + 256 * Lib.leNat t) ^^^ 2 ^ (8 * 0 + mo)
    rw [UInt8.toNat_ofNat', Nat.mod_eq_of_lt hx, low_xor _ _ hx, low_xor _ _ c.toNat_lt, Nat.xor_assoc, Nat.mul_zero, Nat.zero_add]
  | c :: t, i + 1, mo, h, hm => by
    have ih := set_num t i mo (by simpa using h) hm
    show c.toNat + 256 * Lib.leNat (t.set i (UInt8.ofNat ((t.getD i 0).toNat ^^^ 2 ^ mo))) = (c.toNat + 256 * Lib.leNat t) ^^^ 2 ^ (8 * (i + 1) + mo)
    rw [ih, low_xor _ _ c.toNat_lt, low_xor _ _ c.toNat_lt, pow_xor, ← Nat.pow_add, show 8 + (8 * i + mo) = 8 * (i + 1) + mo by omega, Nat.xor_assoc, Nat.xor_assoc, Nat.xor_comm c.toNat]
theorem turn_num (at_ wh : Nat) (l : List UInt8) : ∀ n, at_ + n ≤ 8 * l.length → Lib.leNat (turnL at_ wh n l) = Lib.leNat l ^^^ 2 ^ at_ * (wh % 2 ^ n)
  | 0, _ => by
    show Lib.leNat l = Lib.leNat l ^^^ 2 ^ at_ * (wh % 1)
    rw [Nat.mod_one, Nat.mul_zero, Nat.xor_zero]
  | n + 1, h => by
    have ih := turn_num at_ wh l n (by omega)
    have hsp := split_low n (wh % 2 ^ (n + 1))
    rw [show wh % 2 ^ (n + 1) / 2 ^ n = wh / 2 ^ n % 2 by rw [Nat.pow_succ, Nat.mod_mul_right_div_self], show wh % 2 ^ (n + 1) % 2 ^ n = wh % 2 ^ n by rw [Nat.mod_mod_of_dvd]; exact ⟨2, Nat.pow_succ ..⟩] at hsp
    rw [turnL_succ]
    by_cases hb : wh / 2 ^ n % 2 = 1
    · rw [if_pos hb, set_num _ _ _ (by rw [turnL_len]; omega) (Nat.mod_lt _ (by decide)), ih, hsp, hb, Nat.mul_one, pow_xor, ← Nat.pow_add, show 8 * ((at_ + n) / 8) + (at_ + n) % 8 = at_ + n by omega, Nat.xor_assoc, Nat.xor_comm (2 ^ (at_ + n))]
    · have h0 : wh / 2 ^ n % 2 = 0 := by omega
      rw [if_neg hb, ih, hsp, h0, Nat.mul_zero, Nat.zero_xor]
/-- What was turned is refused. -/
theorem turned {s : List UInt8} {at_ wh : Nat} (hs : (unsV s).2 = 0) (h4 : 4 ≤ s.length) (ha : at_ + 32 ≤ 8 * s.length) (hw : wh < 4294967296) (hw0 : wh ≠ 0) : takeV (turnL at_ wh 32 s) = ([], 9) := by
  have hn := turn_num at_ wh s 32 ha
  rw [Nat.mod_eq_of_lt (show wh < 2 ^ 32 from hw)] at hn
  have hl := turnL_len at_ wh s 32
  generalize turnL at_ wh 32 s = b at hn hl
  have hu := burst hs h4 hl hn hw hw0 (by omega)
  unfold takeV
  rw [hu]
  rfl
theorem parse_Qr {l : List Fi} (h : dirB l = true) (r : List UInt8) : parse (dirL l ++ r) = (l, (r, false)) := by
  obtain ⟨h1, h2⟩ := dirB_well h
  unfold parse dirL
  rw [List.append_assoc, nm_num _ 1 _ (by omega) (by decide) (by show _ < ((256 : Nat) : Int); omega)]
  simp only [Int.toNat_natCast]
  have := filesC_Q l [] r (fun f hf => well_fits (h2 f hf))
  rw [List.nil_append] at this
  exact this
/-- What was cut is refused. -/
theorem cut_bad {l : List Fi} (h : dirB l = true) {j : Nat} (hj : j < (sealV (dirL l)).length) : (takeV ((sealV (dirL l)).take j)).2 ≠ 0 := by
  intro hz
  have hp := put_take hz
  generalize (takeV ((sealV (dirL l)).take j)).1 = l' at hp
  by_cases hd : dirB l' = true
  · unfold putV at hp
    rw [if_pos hd] at hp
    have h1 : sealV (dirL l') = (sealV (dirL l)).take j := congrArg Prod.fst hp
    have h2 := congrArg List.length h1
    rw [sealV_len, List.length_take] at h2
    rw [sealV_len] at hj h2
    have h3 : dirL l' = (dirL l).take (dirL l').length := by
      have := congrArg (List.take (dirL l').length) h1
      unfold sealV at this
      rw [List.take_left' rfl, List.take_take, Nat.min_eq_left (by omega), List.take_append_of_le_length (by omega)] at this
      exact this
    have h4 : dirL l = dirL l' ++ (dirL l).drop (dirL l').length := by
      conv => lhs; rw [← List.take_append_drop (dirL l').length (dirL l)]
      rw [← h3]
    have p1 := parse_Q h
    rw [h4, parse_Qr hd] at p1
    have h5 : (dirL l).drop (dirL l').length = [] := congrArg (fun x : List Fi × St => x.2.1) p1
    have h6 := congrArg List.length h5
    rw [List.length_drop] at h6
    simp only [List.length_nil] at h6
    omega
  · unfold putV at hp
    rw [if_neg hd] at hp
    have := congrArg Prod.snd hp
    simp at this
end Go.Proofs.YtppbcankhkgpfaaDoor.Th
