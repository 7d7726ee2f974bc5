import Derived.RowKit
import Derived.Test.YtcclaidbikjhiaaGreatDoorPVox16
import Derived.Laws.BitsLemmas
import Derived.Test.YtcclaidbikjhiaaGreatDoorPVox47
import Derived.Test.YtcclaidbikjhiaaGreatDoorPVox9
import Derived.Test.YtcclaidbikjhiaaGreatDoorPVox25
import Derived.Test.YtcclaidbikjhiaaGreatDoorPVox0
import Derived.Test.YtcclaidbikjhiaaGreatDoorPVox18
import Derived.Test.YtcclaidbikjhiaaGreatDoorPVox52
import Derived.Test.YtcclaidbikjhiaaGreatDoorPVox20
import Derived.Lib.DecodeN
import Derived.Lib.ValidU
import Derived.Test.YtcclaidbikjhiaaGreatDoorPVox44
import Derived.Test.YtcclaidbikjhiaaGreatDoorPVox21
import Derived.Test.YtcclaidbikjhiaaGreatDoorPVox48
--compressed
namespace Go.Proofs.YtcclaidbikjhiaaGreatDoor.Th
set_option linter.unusedVariables false
def Evt {α : Type} (g : Nat → Option α) (v : α) : Prop := ∃ K, ∀ k, K ≤ k → g k = some v
theorem Evt.of {α : Type} {g : Nat → Option α} {v : α} (h : ∀ k, g k = some v) : Evt g v := ⟨0, fun k _ => h k⟩
theorem Evt.bind {α β : Type} {g : Nat → Option α} {h : Nat → α → Option β} {a : α} {b : β} (hg : Evt g a) (hh : Evt (fun k => h k a) b) : Evt (fun k => (g k).bind (h k)) b := by
 obtain ⟨K, hK⟩ := hg
 obtain ⟨L, hL⟩ := hh
 exact ⟨max K L, fun k hk => by show (g k).bind (h k) = some b; rw [hK k (by omega)]; exact hL k (by omega)⟩
theorem Evt.step {α : Type} {g g' : Nat → Option α} {v : α} (h : ∀ k, g' (k + 1) = g k) (hg : Evt g v) : Evt g' v := by
 obtain ⟨K, hK⟩ := hg
 refine ⟨K + 1, fun k hk => ?_⟩
 obtain ⟨j, rfl⟩ : ∃ j, k = j + 1 := ⟨k - 1, by omega⟩
 rw [h]
 exact hK j (by omega)
theorem Evt.congr {α : Type} {g g' : Nat → Option α} {v : α} (h : ∀ k, g' k = g k) (hg : Evt g v) : Evt g' v := by
 obtain ⟨K, hK⟩ := hg
 exact ⟨K, fun k hk => (h k).trans (hK k hk)⟩
theorem Evt.pos {α : Type} {c : Prop} [Decidable c] {g g' : Nat → Option α} {v : α} (hc : c) (h : Evt g v) : Evt (fun k => if c then g k else g' k) v := Evt.congr (fun k => if_pos hc) h
theorem Evt.neg {α : Type} {c : Prop} [Decidable c] {g g' : Nat → Option α} {v : α} (hc : ¬ c) (h : Evt g' v) : Evt (fun k => if c then g k else g' k) v := Evt.congr (fun k => if_neg hc) h
theorem Evt.val {α : Type} (v : α) : Evt (fun _ => some v) v := Evt.of fun _ => rfl
theorem Evt.val' {α : Type} {v v' : α} (h : v' = v) : Evt (fun _ => some v') v := Evt.of fun _ => by rw [h]
theorem Evt.get {α : Type} {g : Nat → Option α} {v : α} (h : Evt g v) : ∃ k, g k = some v := by
 obtain ⟨K, hK⟩ := h
 exact ⟨K, hK K (Nat.le_refl _)⟩
theorem Evt.bind' {α β : Type} {x : Option α} {h : Nat → α → Option β} {a : α} {b : β} (hg : x = some a) (hh : Evt (fun k => h k a) b) : Evt (fun k => x.bind (h k)) b := Evt.bind (Evt.of fun _ => hg) hh
theorem wrap64_id {n : Int} (h1 : -9223372036854775808 ≤ n) (h2 : n < 9223372036854775808) : Go.RowKit.wrap64 n = n := by unfold Go.RowKit.wrap64; omega
open Go.RowKit Go.Proofs.YtcclaidbikjhiaaGreatDoor.PVo Go.Proofs.YtcclaidbikjhiaaGreatDoorW.PrintWords Go.Proofs.YtcclaidbikjhiaaGreatDoorW.PrintLast Go.Proofs.YtcclaidbikjhiaaGreatDoorW.PrintMore
set_option linter.unusedSimpArgs false
theorem wraps_u32 (n : Int) (h₀ : 0 ≤ n) (h₁ : n < 2 ^ 32) : IntKind.u32.wrap n = n := by rw [IntKind.wrap_u32]; omega
theorem bits_natX (k : IntKind) (j : Nat) (hj : j ≤ k.bits) (hk : ∀ n : Int, 0 ≤ n → n < 2 ^ j → k.wrap n = n) (a b : Nat) (ha : a < 2 ^ j) (hb : b < 2 ^ j) :
  bits .xor k a b = ((a ^^^ b : Nat) : Int) := by
 have hp : 2 ^ j ≤ 2 ^ k.bits := Nat.pow_le_pow_right (by decide) hj
 have ha' : a % 2 ^ k.bits = a := Nat.mod_eq_of_lt (Nat.lt_of_lt_of_le ha hp)
 have hb' : b % 2 ^ k.bits = b := Nat.mod_eq_of_lt (Nat.lt_of_lt_of_le hb hp)
 have cast : ∀ n : Nat, n < 2 ^ j → ((n : Nat) : Int) < 2 ^ j := fun n h => by exact_mod_cast h
 simp only [bits, BitVec.ofInt_natCast, BitVec.toNat_xor, BitVec.toNat_ofNat, ha', hb']
 exact hk _ (Int.natCast_nonneg _) (cast _ (Nat.xor_lt_two_pow ha hb))
theorem xor32 (a b : Nat) (ha : a < 4294967296) (hb : b < 4294967296) : bits .xor .u32 (a : Int) (b : Int) = ((a ^^^ b : Nat) : Int) := bits_natX .u32 32 (Nat.le_refl _) wraps_u32 a b ha hb
theorem and32 (a b : Nat) (ha : a < 4294967296) (hb : b < 4294967296) : bits .and .u32 (a : Int) (b : Int) = ((a &&& b : Nat) : Int) := (bits_nat .u32 32 (Nat.le_refl _) wraps_u32 a b ha hb).1
def cf (n : Nat) : Nat := (n / 2) ^^^ (if n % 2 = 1 then 3988292384 else 0)
theorem cf_lt {n : Nat} (h : n < 4294967296) : cf n < 4294967296 := by
 unfold cf
 refine Nat.xor_lt_two_pow (n := 32) (by show n / 2 < 4294967296; omega) ?_
 split <;> decide
theorem cf_even (m : Nat) : cf (2 * m) = m := by
 unfold cf
 rw [if_neg (by omega), show 2 * m / 2 = m by omega, Nat.xor_zero]
theorem xor_half (a b : Nat) : (a ^^^ b) / 2 = (a / 2) ^^^ (b / 2) := by
 have := Nat.shiftRight_xor_distrib (a := a) (b := b) (i := 1)
 rwa [Nat.shiftRight_eq_div_pow, Nat.shiftRight_eq_div_pow, Nat.shiftRight_eq_div_pow] at this
theorem xor_par (a b : Nat) : (a ^^^ b) % 2 = (a % 2 + b % 2) % 2 := by
 have h1 : (a ^^^ b) % 2 = (a % 2) ^^^ (b % 2) := Nat.xor_mod_two_pow (n := 1)
 rw [h1]
 rcases Nat.mod_two_eq_zero_or_one a with h | h <;> rcases Nat.mod_two_eq_zero_or_one b with k | k <;> rw [h, k] <;> decide
theorem xor_swap (a b c d : Nat) : (a ^^^ b) ^^^ (c ^^^ d) = (a ^^^ c) ^^^ (b ^^^ d) := by
 rw [Nat.xor_assoc, Nat.xor_assoc, ← Nat.xor_assoc b c d, ← Nat.xor_assoc c b d, Nat.xor_comm b c]
theorem cf_xor (a b : Nat) : cf (a ^^^ b) = cf a ^^^ cf b := by
 unfold cf
 rw [xor_half, xor_par, xor_swap]
 congr 1
 rcases Nat.mod_two_eq_zero_or_one a with h | h <;> rcases Nat.mod_two_eq_zero_or_one b with k | k <;> rw [h, k] <;> decide
def cfn : Nat → Nat → Nat
 | 0, n => n
 | j + 1, n => cf (cfn j n)
theorem cfn_lt {n : Nat} (h : n < 4294967296) : ∀ j, cfn j n < 4294967296
 | 0 => h
 | j + 1 => cf_lt (cfn_lt h j)
theorem cfn_xor (a b : Nat) : ∀ j, cfn j (a ^^^ b) = cfn j a ^^^ cfn j b
 | 0 => rfl
 | j + 1 => by
  show cf _ = cf _ ^^^ cf _
  rw [cfn_xor a b j, cf_xor]
theorem cfn_add (n : Nat) : ∀ i j, cfn (i + j) n = cfn i (cfn j n)
 | 0, j => by rw [Nat.zero_add]; rfl
 | i + 1, j => by rw [show i + 1 + j = (i + j) + 1 by omega]; show cf _ = cf _; rw [cfn_add n i j]
theorem cfn_shift (j m : Nat) : cfn j (2 ^ j * m) = m := by
 induction j generalizing m with
 | zero => show 2 ^ 0 * m = m; omega
 | succ j ih =>
  show cf (cfn j (2 ^ (j + 1) * m)) = m
  rw [show 2 ^ (j + 1) * m = 2 ^ j * (2 * m) by rw [Nat.pow_succ, Nat.mul_assoc], ih, cf_even]
theorem split_low (j n : Nat) : n = (2 ^ j * (n / 2 ^ j)) ^^^ (n % 2 ^ j) := by
 refine Nat.eq_of_testBit_eq fun i => ?_
 rw [Nat.testBit_xor, Nat.testBit_two_pow_mul, Nat.testBit_mod_two_pow, Nat.testBit_div_two_pow]
 by_cases h : j ≤ i
 ·rw [show i - j + j = i by omega]; simp [h, show ¬ i < j by omega]
 ·simp [h, show i < j by omega]
theorem cfn_low (j n : Nat) : cfn j n = (n / 2 ^ j) ^^^ cfn j (n % 2 ^ j) := by
 conv => lhs; rw [split_low j n]
 rw [cfn_xor, cfn_shift]
theorem crcS_cf (n : Nat) (h : n < 4294967296) : crcS (n : Int) = (cf n : Int) := by
 unfold crcS cf
 rw [show ((1 : Int)) = ((1 : Nat) : Int) from rfl, and32 n 1 h (by decide), Nat.and_one_is_mod]
 rcases Nat.mod_two_eq_zero_or_one n with k | k
 ·rw [k, if_neg (by decide)]
  rw [show bits .and .u32 3988292384 ((-(((0 : Nat)) : Int)) % 4294967296) = ((0 : Nat) : Int) by decide]
  rw [show ((n : Int) / 2) = ((n / 2 : Nat) : Int) by omega]
  exact xor32 _ _ (by omega) (by decide)
 ·rw [k, if_pos rfl]
  rw [show bits .and .u32 3988292384 ((-(((1 : Nat)) : Int)) % 4294967296) = ((3988292384 : Nat) : Int) by decide]
  rw [show ((n : Int) / 2) = ((n / 2 : Nat) : Int) by omega]
  exact xor32 _ _ (by omega) (by decide)
theorem crcI_cfn (n : Nat) (h : n < 4294967296) : ∀ j, crcI j (n : Int) = (cfn j n : Int)
 | 0 => rfl
 | j + 1 => by
  show crcS (crcI j n) = (cf (cfn j n) : Int)
  rw [crcI_cfn n h j, crcS_cf _ (cfn_lt h j)]
theorem crcH_cfn (n : Nat) (h : n < 4294967296) : crcH (n : Int) = (cfn 4 n : Int) := by
 unfold crcH crcT
 rw [show ((15 : Int)) = ((15 : Nat) : Int) from rfl, and32 n 15 h (by decide)]
 have h15 : n &&& 15 = n % 16 := Nat.and_two_pow_sub_one_eq_mod n 4
 rw [h15, Int.toNat_natCast, crcI_cfn _ (by omega), show ((n : Int) / 16) = ((n / 16 : Nat) : Int) by omega, xor32 _ _ (by omega) (cfn_lt (by omega) 4)]
 rw [cfn_low 4 n]
def crcB (r : Nat) (c : UInt8) : Nat := cfn 8 (r ^^^ c.toNat)
theorem u8_lt (c : UInt8) : c.toNat < 4294967296 := Nat.lt_of_lt_of_le c.toNat_lt (by decide)
theorem x_lt {a b : Nat} (ha : a < 4294967296) (hb : b < 4294967296) : a ^^^ b < 4294967296 := Nat.xor_lt_two_pow (n := 32) ha hb
theorem crcB_lt {r : Nat} (h : r < 4294967296) (c : UInt8) : crcB r c < 4294967296 := cfn_lt (x_lt h (u8_lt c)) 8
theorem crcN_B (r : Nat) (h : r < 4294967296) (c : UInt8) : crcN (r : Int) c = (crcB r c : Int) := by
 unfold crcN crcB
 have hx := x_lt h (u8_lt c)
 rw [xor32 _ _ h (u8_lt c), crcH_cfn _ hx, crcH_cfn _ (cfn_lt hx 4), ← cfn_add]
def sumN (l : List UInt8) : Nat := l.foldl crcB 4294967295
theorem foldB_lt (l : List UInt8) : ∀ r, r < 4294967296 → l.foldl crcB r < 4294967296 := by
 induction l with
 | nil => exact fun r h => h
 | cons c t ih => exact fun r h => ih _ (crcB_lt h c)
theorem foldN (l : List UInt8) : ∀ r : Nat, r < 4294967296 → l.foldl crcN (r : Int) = ((l.foldl crcB r : Nat) : Int) := by
 induction l with
 | nil => exact fun r h => rfl
 | cons c t ih =>
  intro r h
  show t.foldl crcN (crcN (r : Int) c) = _
  rw [crcN_B r h c, ih _ (crcB_lt h c)]
  rfl
def sumV (l : List UInt8) : Nat := 4294967295 ^^^ sumN l
theorem sumV_lt (l : List UInt8) : sumV l < 4294967296 := x_lt (by decide) (foldB_lt l _ (by decide))
theorem sum_f (s : ByteArray) (h : s.size ≤ 9223372036854775807) : seal_Sum.f s = some (sumV s.data.toList : Int) := by
 unfold seal_Sum.f sumF sumV sumN
 rw [if_pos h, show (4294967295 : Int) = ((4294967295 : Nat) : Int) from rfl, foldN _ _ (by decide), show IntKind.u32.max = ((4294967295 : Nat) : Int) by decide, xor32 _ _ (by decide) (foldB_lt _ _ (by decide))]
def B (l : List UInt8) : ByteArray := ⟨l.toArray⟩
theorem B_size (l : List UInt8) : (B l).size = l.length := by simp [B, ByteArray.size]
theorem B_data (l : List UInt8) : (B l).data.toList = l := by simp [B]
theorem B_toList (l : List UInt8) : (B l).toList = l := by rw [Lib.toList_data]; exact B_data l
theorem B_of (s : ByteArray) : B s.data.toList = s := Lib.mk_data s
theorem B_append (a b : List UInt8) : B a ++ B b = B (a ++ b) := by
 apply ByteArray.ext
 simp [B]
theorem B_extract (l : List UInt8) (a b : Nat) : (B l).extract a b = B ((l.drop a).take (b - a)) := ByteArray.extract_mk l a b
theorem B_upto (l : List UInt8) (n : Nat) : (B l).extract 0 n = B (l.take n) := by rw [B_extract]; simp
theorem B_from (l : List UInt8) (n : Nat) : (B l).extract n (B l).size = B (l.drop n) := by
 rw [B_extract, B_size, List.take_of_length_le (by simp)]
theorem B_nil : (⟨#[]⟩ : ByteArray) = B [] := rfl
theorem bt_B (l : List UInt8) (i : Nat) (h : i < l.length) : bt (B l) (i : Int) = (l[i].toNat : Int) := by
 unfold bt
 rw [Int.toNat_natCast, dif_pos (by rw [B_size]; exact h)]
 rfl
theorem leNat_bound : ∀ l : List UInt8, Lib.leNat l < 256 ^ l.length
 | [] => by simp [Lib.leNat]
 | b :: r => by
  have h1 := leNat_bound r
  have h2 := b.toNat_lt
  show b.toNat + 256 * Lib.leNat r < 256 ^ (r.length + 1)
  rw [Nat.pow_succ]
  omega
theorem leBytes_leNat : ∀ l : List UInt8, Lib.leBytes l.length (Lib.leNat l) = l
 | [] => rfl
 | b :: r => by
  have h2 := b.toNat_lt
  show ((b.toNat + 256 * Lib.leNat r) % 256).toUInt8 :: Lib.leBytes r.length ((b.toNat + 256 * Lib.leNat r) / 256) = b :: r
  rw [show (b.toNat + 256 * Lib.leNat r) % 256 = b.toNat by omega, show (b.toNat + 256 * Lib.leNat r) / 256 = Lib.leNat r by omega, leBytes_leNat r]
  simp [Nat.toUInt8]
theorem wrapU (n : Int) (h0 : 0 ≤ n) (h : n < 18446744073709551616) : IntKind.u64.wrap n = n := by rw [IntKind.wrap_u64]; omega
theorem pow8 {m : Nat} (h : m ≤ 8) : 256 ^ m ≤ 18446744073709551616 := Nat.le_trans (Nat.pow_le_pow_right (by decide) h) (by decide)
theorem leNat_8 (l : List UInt8) (h : l.length ≤ 8) : (Lib.leNat l : Int) < 18446744073709551616 := by
 have h1 := leNat_bound l
 have h2 := pow8 h
 omega
theorem numL_leNat (l : List UInt8) (h : l.length ≤ 8) : numL (Lib.leNat l : Int) l.length = l := by
 unfold numL
 rw [wrapU _ (by omega) (leNat_8 l h), Int.toNat_natCast, leBytes_leNat]
theorem numL_len (n : Int) (m : Nat) : (numL n m).length = m := numL_length n m
abbrev St := List UInt8 × Bool
def tx (m : Nat) (st : St) : List UInt8 × St := if st.2 = false ∧ m ≤ st.1.length then (st.1.take m, (st.1.drop m, false)) else ([], (st.1, true))
def nm (m : Nat) (st : St) : Int × St := ((Lib.leNat (tx m st).1 : Int), (tx m st).2)
theorem tx_len (m : Nat) (st : St) : (tx m st).1.length ≤ m ∧ (tx m st).2.1.length ≤ st.1.length ∧ (tx m st).1.length ≤ st.1.length := by
 unfold tx
 split
 ·simp only [List.length_take, List.length_drop]; omega
 ·simp
theorem nm_len (m : Nat) (st : St) : (nm m st).2.1.length ≤ st.1.length := (tx_len m st).2.1
theorem nm_range (m : Nat) (hm : m ≤ 8) (st : St) : 0 ≤ (nm m st).1 ∧ (nm m st).1 < 18446744073709551616 ∧ (nm m st).1 < ((256 ^ m : Nat) : Int) := by
 have h1 := (tx_len m st).1
 have h2 := leNat_bound (tx m st).1
 have h3 : 256 ^ (tx m st).1.length ≤ 256 ^ m := Nat.pow_le_pow_right (by decide) h1
 have h4 := pow8 hm
 unfold nm
 refine ⟨Int.natCast_nonneg _, ?_, ?_⟩
 ·show ((Lib.leNat (tx m st).1 : Nat) : Int) < _
  omega
 ·show ((Lib.leNat (tx m st).1 : Nat) : Int) < _
  omega
theorem text_ev (st : St) (m : Nat) : Evt (fun k => le_Reader_Text.f k (B st.1) st.2 (m : Int)) (B (tx m st).1, B (tx m st).2.1, (tx m st).2.2) := by
 obtain ⟨l, b⟩ := st
 unfold le_Reader_Text.f tx
 cases b with
 | true =>
  refine Evt.pos rfl (Evt.step (fun k => by rw [le_Reader_Text.j0]) (Evt.pos rfl (Evt.val' ?_)))
  rfl
 | false =>
  refine Evt.neg (by simp) (Evt.neg (by omega) (Evt.step (fun k => by rw [le_Reader_Text.j0]) ?_))
  by_cases h : m ≤ l.length
  ·refine Evt.neg (by simp only [B_size, decide_eq_true_eq]; omega) (Evt.pos (by omega) (Evt.pos (by rw [B_size]; show (m : Int) ≤ (l.length : Int); omega) (Evt.val' ?_)))
   simp only [Int.toNat_natCast, B_upto, B_from, h, and_self, if_true]
   rw [zI (by rw [B_size]; omega)]
  ·refine Evt.pos (by simp only [B_size, decide_eq_true_eq]; omega) (Evt.val' ?_)
   simp only [h, and_false, if_false, B_nil]
   rw [zH (by rw [B_size]; omega)]
theorem get_f (l : List UInt8) (h : l.length ≤ 8) : le_Get.f (B l) = some (Lib.leNat l : Int) := by
 unfold le_Get.f
 rw [if_pos (by rw [B_size]; omega), B_data, List.take_of_length_le h]
theorem number_ev (st : St) (m : Nat) (hm : m ≤ 8) : Evt (fun k => le_Reader_Number.f k (B st.1) st.2 (m : Int)) ((nm m st).1, B (nm m st).2.1, (nm m st).2.2) := by
 unfold le_Reader_Number.f
 refine Evt.neg (by omega) (Evt.step (fun k => by rw [le_Reader_Number.j0]) ?_)
 have h1 := (tx_len m st).1
 exact Evt.bind (text_ev st m) (Evt.bind' (get_f _ (by omega)) (Evt.val _))
theorem put_f (x : Int) (m : Nat) (hm : m ≤ 8) : le_Put.f (IntKind.u64.wrap x) (m : Int) = some (B (numL x m)) := numL_put x m hm
def sealV (l : List UInt8) : List UInt8 := l ++ Lib.leBytes 4 (sumV l)
def unsV (l : List UInt8) : List UInt8 × Int := if l.length < 4 then ([], 10) else if Lib.leNat (l.drop (l.length - 4)) = sumV (l.take (l.length - 4)) then (l.take (l.length - 4), 0) else ([], 9)
theorem sealV_len (l : List UInt8) : (sealV l).length = l.length + 4 := by unfold sealV; rw [zO, Lib.leBytes_length]
theorem numS (l : List UInt8) : numL (sumV l : Int) 4 = Lib.leBytes 4 (sumV l) := by
 unfold numL
 have := sumV_lt l
 rw [wrapU _ (by omega) (by omega), Int.toNat_natCast]
theorem seal_a1 (l : List UInt8) (h : l.length ≤ 4611686018427387900) : seal_Sum.f (B l) = some (sumV l : Int) := by
 have := sum_f (B l) (by rw [B_size]; omega)
 rwa [B_data] at this
theorem seal_a2 (l : List UInt8) : le_Put.f (IntKind.u64.wrap (sumV l : Int)) 4 = some (B (numL (sumV l : Int) 4)) := put_f _ 4 (by decide)
theorem seal_a3 (l : List UInt8) (h : l.length ≤ 4611686018427387900) : (B l).size + (B (numL (sumV l : Int) 4)).size ≤ 9223372036854775807 := by rw [B_size, B_size, numL_len]; omega
theorem seal_a4 (l : List UInt8) : B l ++ B (numL (sumV l : Int) 4) = B (sealV l) := by rw [B_append, numS, sealV]
theorem seal_f (l : List UInt8) (h : l.length ≤ 4611686018427387900) : seal_Put.f (B l) = some (B (sealV l)) := by
 unfold seal_Put.f
 exact Option.bind_eq_some_iff.2 ⟨_, seal_a1 l h, Option.bind_eq_some_iff.2 ⟨_, seal_a2 l, by rw [if_pos (seal_a3 l h), seal_a4]⟩⟩
theorem seal_unseal {s : List UInt8} (h : (unsV s).2 = 0) : s = sealV (unsV s).1 := by
 unfold unsV at h ⊢
 split at h
 ·cases h
 ·split at h
  ·rename_i h1 h2
   rw [if_neg h1, if_pos h2]
   show s = s.take (s.length - 4) ++ Lib.leBytes 4 (sumV (s.take (s.length - 4)))
   rw [← h2]
   have : (s.drop (s.length - 4)).length = 4 := by rw [List.length_drop]; omega
   have h3 := leBytes_leNat (s.drop (s.length - 4))
   rw [this] at h3
   rw [h3, List.take_append_drop]
  ·cases h
theorem unseal_len (s : List UInt8) : (unsV s).1.length ≤ s.length := by
 unfold unsV
 split
 ·simp
 ·split
  ·simp
  ·simp
theorem take_f (l : List UInt8) (h : l.length ≤ 4611686018427387900) : seal_Take.f (B l) = some (B (unsV l).1, (unsV l).2) := by
 unfold seal_Take.f unsV
 have hw : wrap64 (((B l).size : Int) - 4) = (l.length : Int) - 4 := by rw [B_size, wrap64_id (by omega) (by omega)]
 rw [hw]
 by_cases h1 : l.length < 4
 ·rw [if_pos (by omega), if_pos h1]
  rfl
 ·have hn : ((l.length : Int) - 4).toNat = l.length - 4 := by omega
  rw [if_neg (by omega), if_pos (by omega), if_pos (by rw [B_size]; omega), if_neg h1, hn, B_from, B_upto, get_f _ (by rw [List.length_drop]; omega), sum_f _ (by rw [B_size, List.length_take]; omega), B_data]
  simp only [Option.bind_some]
  have hs := sumV_lt (l.take (l.length - 4))
  rw [wrapU _ (by omega) (by omega)]
  by_cases h2 : Lib.leNat (l.drop (l.length - 4)) = sumV (l.take (l.length - 4))
  ·rw [if_pos (by omega), if_pos h2]
  ·rw [if_neg (by omega), if_neg h2]
   rfl
def g8 (l : List UInt8) (i : Nat) : Nat := (l.getD i 0).toNat
theorem g8_lt (l : List UInt8) (i : Nat) : g8 l i < 256 := (l.getD i 0).toNat_lt
def dec (l : List UInt8) : Nat × Nat := Lib.decodeN l.length (g8 l 0) (g8 l 1) (g8 l 2) (g8 l 3)
theorem get_g (s : ByteArray) (p i : Nat) : (s.get! (p + i)).toNat = g8 (s.data.toList.drop p) i := by
 unfold g8
 obtain ⟨⟨l⟩⟩ := s
 have : (ByteArray.mk ⟨l⟩).get! (p + i) = l.getD (p + i) 0 := by
  show (Array.mk l)[p + i]! = _
  simp [List.getD_eq_getElem?_getD, Array.getElem!_eq_getD]
  rfl
 rw [this]
 simp [List.getD_eq_getElem?_getD]
theorem decode_dec (s : ByteArray) (p : Nat) : Utf8.decode s p = dec (s.data.toList.drop p) := by
 rw [Lib.decode_at]
 have e0 := get_g s p 0
 rw [Nat.add_zero] at e0
 rw [e0, get_g, get_g, get_g]
 unfold dec
 rw [List.length_drop]
 rfl
theorem decodeL_dec (l : List UInt8) : Lib.decodeL l = dec l := by
 unfold Lib.decodeL
 rw [decode_dec]
 simp
theorem g8_get (l : List UInt8) (i : Nat) (h : i < l.length) : g8 l i = l[i].toNat := by
 unfold g8
 rw [List.getD_eq_getElem?_getD, List.getElem?_eq_getElem h]
 rfl
theorem bt_g (l : List UInt8) (i : Nat) : bt (B l) (i : Int) = (g8 l i : Int) := by
 by_cases h : i < l.length
 ·rw [bt_B l i h, g8_get l i h]
 ·unfold bt g8
  rw [Int.toNat_natCast, dif_neg (by rw [B_size]; exact h), List.getD_eq_getElem?_getD, List.getElem?_eq_none (by omega)]
  rfl
theorem decN_cases (n b0 b1 b2 b3 : Nat) (h0 : b0 < 256) (h1 : b1 < 256) (h2 : b2 < 256) (h3 : b3 < 256) :
  (b0 < 128 ∧ Lib.decodeN n b0 b1 b2 b3 = (b0, 1)) ∨ (128 ≤ b0 ∧ Lib.decodeN n b0 b1 b2 b3 = (65533, 1)) ∨
  (128 ≤ b0 ∧ 128 ≤ b1 ∧ 1 < n ∧ 128 ≤ (Lib.decodeN n b0 b1 b2 b3).1 ∧ ((Lib.decodeN n b0 b1 b2 b3).2 = 2 ∨ 128 ≤ b2 ∧ 2 < n ∧ ((Lib.decodeN n b0 b1 b2 b3).2 = 3 ∨ 128 ≤ b3 ∧ 3 < n ∧ (Lib.decodeN n b0 b1 b2 b3).2 = 4))) := by
 unfold Lib.decodeN
 repeat' split
 all_goals first | (refine .inl ⟨by omega, rfl⟩) | (refine .inr (.inl ⟨by omega, rfl⟩)) | (refine .inr (.inr ⟨by omega, by omega, by omega, by simp only []; omega, .inl rfl⟩)) | (refine .inr (.inr ⟨by omega, by omega, by omega, by simp only []; omega, .inr ⟨by omega, by omega, .inl rfl⟩⟩)) | (refine .inr (.inr ⟨by omega, by omega, by omega, by simp only []; omega, .inr ⟨by omega, by omega, .inr ⟨by omega, by omega, rfl⟩⟩⟩))
theorem dec_cases (l : List UInt8) : (g8 l 0 < 128 ∧ dec l = (g8 l 0, 1)) ∨ (128 ≤ g8 l 0 ∧ dec l = (65533, 1)) ∨ (128 ≤ (dec l).1 ∧ 2 ≤ (dec l).2 ∧ (dec l).2 ≤ l.length ∧ ∀ i, i < (dec l).2 → 128 ≤ g8 l i) := by
 rcases decN_cases l.length (g8 l 0) (g8 l 1) (g8 l 2) (g8 l 3) (g8_lt l 0) (g8_lt l 1) (g8_lt l 2) (g8_lt l 3) with h | h | ⟨h0, h1, hn, hr, h⟩
 ·exact .inl h
 ·exact .inr (.inl h)
 ·refine .inr (.inr ?_)
  show 128 ≤ (dec l).1 ∧ _
  change 128 ≤ (dec l).1 at hr
  change (dec l).2 = 2 ∨ _ at h
  refine ⟨hr, ?_⟩
  rcases h with h | ⟨h2, hn2, h⟩
  ·refine ⟨by omega, by omega, fun i hi => ?_⟩
   rw [h] at hi
   rcases (show i = 0 ∨ i = 1 by omega) with rfl | rfl <;> assumption
  ·change (dec l).2 = 3 ∨ _ at h
   rcases h with h | ⟨h3, hn3, h⟩
   ·refine ⟨by omega, by omega, fun i hi => ?_⟩
    rw [h] at hi
    rcases (show i = 0 ∨ i = 1 ∨ i = 2 by omega) with rfl | rfl | rfl <;> assumption
   ·change (dec l).2 = 4 at h
    refine ⟨by omega, by omega, fun i hi => ?_⟩
    rw [h] at hi
    rcases (show i = 0 ∨ i = 1 ∨ i = 2 ∨ i = 3 by omega) with rfl | rfl | rfl | rfl <;> assumption
theorem dec_width (l : List UInt8) (h : 0 < l.length) : 1 ≤ (dec l).2 ∧ (dec l).2 ≤ l.length := by
 rcases dec_cases l with ⟨_, e⟩ | ⟨_, e⟩ | ⟨_, h1, h2, _⟩
 ·rw [e]; exact ⟨Nat.le_refl _, h⟩
 ·rw [e]; exact ⟨Nat.le_refl _, h⟩
 ·omega
def more (n i b : Nat) : Prop := i < n ∧ 128 ≤ b ∧ b ≤ 191
instance (n i b : Nat) : Decidable (more n i b) := inferInstanceAs (Decidable (_ ∧ _ ∧ _))
def r4 (n b0 b1 b2 b3 : Nat) : Int × Int :=
 if 240 ≤ b0 ∧ b0 ≤ 244 ∧ more n 1 b1 ∧ more n 2 b2 ∧ more n 3 b3 then
  (if 65536 ≤ ((b0 : Int) - 240) * 262144 + ((b1 : Int) - 128) * 4096 + ((b2 : Int) - 128) * 64 + b3 - 128 ∧ ((b0 : Int) - 240) * 262144 + ((b1 : Int) - 128) * 4096 + ((b2 : Int) - 128) * 64 + b3 - 128 ≤ 1114111 then (((b0 : Int) - 240) * 262144 + ((b1 : Int) - 128) * 4096 + ((b2 : Int) - 128) * 64 + b3 - 128, 4) else (-1, 1)) else (-1, 1)
def r3 (n b0 b1 b2 b3 : Nat) : Int × Int :=
 if 224 ≤ b0 ∧ b0 ≤ 239 ∧ more n 1 b1 ∧ more n 2 b2 then
  (if 2048 ≤ ((b0 : Int) - 224) * 4096 + ((b1 : Int) - 128) * 64 + b2 - 128 ∧ ¬ (55296 ≤ ((b0 : Int) - 224) * 4096 + ((b1 : Int) - 128) * 64 + b2 - 128 ∧ ((b0 : Int) - 224) * 4096 + ((b1 : Int) - 128) * 64 + b2 - 128 ≤ 57343) then (((b0 : Int) - 224) * 4096 + ((b1 : Int) - 128) * 64 + b2 - 128, 3) else r4 n b0 b1 b2 b3) else r4 n b0 b1 b2 b3
def r2 (n b0 b1 b2 b3 : Nat) : Int × Int := if 194 ≤ b0 ∧ b0 ≤ 223 ∧ more n 1 b1 then (((b0 : Int) - 192) * 64 + b1 - 128, 2) else r3 n b0 b1 b2 b3
def r1 (n b0 b1 b2 b3 : Nat) : Int × Int := if b0 < 128 then ((b0 : Int), 1) else r2 n b0 b1 b2 b3
theorem len_pos {l : List UInt8} (h : l ≠ []) : 0 < l.length := List.length_pos_iff.2 h
def cntL : Nat → List UInt8 → Nat
 | 0, _ => 0
 | n + 1, l => if l = [] then 0 else 1 + cntL n (l.drop (dec l).2)
theorem cntR_L (s : ByteArray) : ∀ (f p : Nat), cntR s f p = cntL f (s.data.toList.drop p)
 | 0, _ => rfl
 | f + 1, p => by
  unfold cntR cntL
  have hsz : s.size = s.data.toList.length := Lib.size_eq s
  by_cases h : p < s.size
  ·rw [if_pos h, if_neg (by intro k; have := congrArg List.length k; rw [List.length_drop] at this; simp only [List.length_nil] at this; omega), decode_dec, cntR_L s f _, List.drop_drop]
  ·rw [if_neg h, if_pos (List.drop_eq_nil_iff.2 (by omega))]
def badL : Nat → List UInt8 → Bool
 | 0, _ => false
 | n + 1, l => if l = [] then false else if (dec l).1 < 32 then true else if (dec l).1 = 127 then true else badL n (l.drop (dec l).2)
theorem badR_L (s : ByteArray) : ∀ (f p : Nat), badR s f p = badL f (s.data.toList.drop p)
 | 0, _ => rfl
 | f + 1, p => by
  unfold badR badL
  have hsz : s.size = s.data.toList.length := Lib.size_eq s
  by_cases h : p < s.size
  ·have hne : ¬ s.data.toList.drop p = [] := by
    intro k
    have := congrArg List.length k
    rw [List.length_drop] at this
    simp only [List.length_nil] at this
    omega
   rw [if_pos h, decode_dec, badR_L s f _]
   rw [if_neg hne, List.drop_drop]
   generalize (dec (s.data.toList.drop p)).1 = r
   by_cases h1 : r < 32
   ·rw [if_pos h1]
    rw [if_pos (show (r : Int) < 32 by omega)]
   ·rw [if_neg h1]
    rw [if_neg (show ¬ (r : Int) < 32 by omega)]
    by_cases h2 : r = 127
    ·rw [if_pos h2]
     rw [if_pos (show (r : Int) = 127 by omega)]
    ·rw [if_neg h2]
     rw [if_neg (show ¬ (r : Int) = 127 by omega)]
  ·rw [if_neg h, if_pos (List.drop_eq_nil_iff.2 (by omega))]
def okb (c : UInt8) : Bool := decide (32 ≤ c.toNat) && decide (c.toNat ≠ 127)
theorem bad_bytes : ∀ (n : Nat) (l : List UInt8), l.length ≤ n → Lib.validGoD n l = true → badL n l = !(l.all okb)
 | 0, l, h, _ => by
  obtain rfl := List.eq_nil_of_length_eq_zero (by omega : l.length = 0)
  rfl
 | n + 1, l, h, hv => by
  unfold badL
  unfold Lib.validGoD at hv
  rw [decodeL_dec] at hv
  by_cases hl : l = []
  ·rw [if_pos hl, hl]; rfl
  ·rw [if_neg hl] at hv ⊢
   have hw := dec_width l (len_pos hl)
   by_cases hb : (dec l).1 = 65533 ∧ (dec l).2 = 1
   ·rw [if_pos hb] at hv; cases hv
   ·rw [if_neg hb] at hv
    have ih := bad_bytes n (l.drop (dec l).2) (by rw [List.length_drop]; omega) hv
    rw [ih]
    have hsplit : l.all okb = ((l.take (dec l).2).all okb && (l.drop (dec l).2).all okb) := by rw [← List.all_append, List.take_append_drop]
    rw [hsplit]
    rcases dec_cases l with ⟨h1, e⟩ | ⟨_, e⟩ | ⟨h1, h2, h3, h4⟩
    ·have ht : l.take (dec l).2 = [l[0]'(len_pos hl)] := by
      rw [e]
      cases l with
      | nil => exact absurd rfl hl
      | cons a t => rfl
     have hg := g8_get l 0 (len_pos hl)
     rw [ht, e]
     simp only [List.all_cons, List.all_nil, Bool.and_true, okb]
     rw [← hg]
     by_cases k1 : g8 l 0 < 32
     ·rw [if_pos k1]; simp; omega
     ·rw [if_neg k1]
      by_cases k2 : g8 l 0 = 127
      ·rw [if_pos k2]; simp [k2]
      ·rw [if_neg k2]; simp [k2]; omega
    ·exact absurd ⟨by rw [e], by rw [e]⟩ hb
    ·rw [if_neg (by omega), if_neg (by omega)]
     have : (l.take (dec l).2).all okb = true := by
      rw [List.all_eq_true]
      intro c hc
      obtain ⟨i, hi, rfl⟩ := List.mem_iff_getElem.1 hc
      rw [List.length_take] at hi
      rw [List.getElem_take]
      have := h4 i (by omega)
      rw [g8_get l i (by omega)] at this
      unfold okb
      simp
      omega
     rw [this, Bool.true_and]
def labB (l : List UInt8) : Bool := Lib.validD l && (decide (0 < l.length) && (decide (cntL l.length l ≤ 24) && (decide (g8 l 0 ≠ 32) && (decide (g8 l (l.length - 1) ≠ 32) && l.all okb))))
theorem label_f (l : List UInt8) (h : l.length ≤ 9223372036854775807) : label_Right.f (B l) = some (labB l) := by
 unfold label_Right.f labB
 rw [if_pos (by rw [B_size]; omega), badR_L, cntR_L, B_data, B_size, List.drop_zero]
 have t0 : bt (B l) 0 = (g8 l 0 : Int) := bt_g l 0
 rw [t0]
 by_cases hv : Lib.validD l = true
 ·rw [bad_bytes l.length l (Nat.le_refl _) hv, hv]
  by_cases hl : 0 < l.length
  ·have t1 : bt (B l) ((l.length : Int) - 1) = (g8 l (l.length - 1) : Int) := by
    rw [show (l.length : Int) - 1 = ((l.length - 1 : Nat) : Int) by omega]
    exact bt_g l _
   rw [t1]
   congr 1
   rw [Bool.eq_iff_iff]
   simp only [Bool.and_eq_true, decide_eq_true_eq, Bool.not_not]
   constructor
   ·rintro ⟨a, b, c, d, e, f⟩
    exact ⟨b, c, d, by omega, by omega, a⟩
   ·rintro ⟨b, c, d, e, f, a⟩
    exact ⟨a, b, c, d, by omega, by omega⟩
  ·simp [hl]
 ·simp only [Bool.not_eq_true] at hv
  rw [hv]
  simp
abbrev Sp := S87
--<own
theorem rd_T87_get (l : List S87) (j : Nat) (h : j < l.length) : rd_T87 l (j : Int) = l[j] := by
 simp [rd_T87, List.getD_eq_getElem?_getD, h]
def insB (size : Int) (s : S87) : Bool := decide (0 < s.f1) && (decide (0 ≤ s.f0) && (decide (s.f0 < size) && decide (s.f1 ≤ wrap64 (size - s.f0))))
theorem insB_f (size : Int) (s : S87) : span_inside.f s.f0 s.f1 size = some (insB size s) := by
 unfold span_inside.f insB
 by_cases h1 : 0 < s.f1 <;> by_cases h2 : 0 ≤ s.f0 <;> by_cases h3 : s.f0 < size <;> simp [h1, h2, h3, GT.gt, GE.ge] <;> omega
theorem insB_spec {size : Int} (h1 : 1 ≤ size) (h2 : size ≤ 8192) {s : S87} (h : insB size s = true) : 0 < s.f1 ∧ 0 ≤ s.f0 ∧ s.f0 + s.f1 ≤ size := by
 unfold insB at h
 simp only [Bool.and_eq_true, decide_eq_true_eq] at h
 obtain ⟨a, b, c, d⟩ := h
 unfold wrap64 at d
 omega
--own>
def cnt (l : List Sp) (x : Int) : Nat := l.countP fun s => decide (s.f0 ≤ x ∧ x < s.f0 + s.f1)
theorem cnt_nil (x : Int) : cnt [] x = 0 := rfl
theorem cnt_cons (s : Sp) (t : List Sp) (x : Int) : cnt (s :: t) x = (if s.f0 ≤ x ∧ x < s.f0 + s.f1 then 1 else 0) + cnt t x := by
 unfold cnt; rw [List.countP_cons]; simp only [decide_eq_true_eq]; omega
theorem cnt_append (a b : List Sp) (x : Int) : cnt (a ++ b) x = cnt a x + cnt b x := List.countP_append
theorem cnt_one (s : Sp) (x : Int) : cnt [s] x = if s.f0 ≤ x ∧ x < s.f0 + s.f1 then 1 else 0 := by rw [cnt_cons, cnt_nil]; omega
theorem cnt_pos {l : List Sp} {x : Int} : 0 < cnt l x ↔ ∃ s ∈ l, s.f0 ≤ x ∧ x < s.f0 + s.f1 := by
 unfold cnt; rw [List.countP_pos_iff]; simp
theorem cnt_zero {l : List Sp} {x : Int} : cnt l x = 0 ↔ ∀ s ∈ l, ¬ (s.f0 ≤ x ∧ x < s.f0 + s.f1) := by
 unfold cnt; rw [List.countP_eq_zero]; simp
theorem cnt_mem {l : List Sp} {s : Sp} (h : s ∈ l) {x : Int} (h1 : s.f0 ≤ x) (h2 : x < s.f0 + s.f1) : 0 < cnt l x := cnt_pos.2 ⟨s, h, h1, h2⟩
def Ok (size : Int) (s : Sp) : Prop := 0 < s.f1 ∧ 0 ≤ s.f0 ∧ s.f0 + s.f1 ≤ size
def OkL (size : Int) (l : List Sp) : Prop := ∀ s ∈ l, Ok size s
def Canon (l : List Sp) : Prop := l.Pairwise fun a b => a.f0 + a.f1 < b.f0
def Dis (l : List Sp) : Prop := l.Pairwise fun a b => a.f0 + a.f1 ≤ b.f0
theorem OkL.nil {size : Int} : OkL size [] := fun _ h => nomatch h
theorem OkL.cons {size : Int} {s : Sp} {t : List Sp} (h : Ok size s) (k : OkL size t) : OkL size (s :: t) := fun u hu => by
 rcases List.mem_cons.1 hu with rfl | hu
 ·exact h
 ·exact k u hu
theorem OkL.append {size : Int} {a b : List Sp} (h : OkL size a) (k : OkL size b) : OkL size (a ++ b) := fun u hu => by
 rcases List.mem_append.1 hu with hu | hu
 ·exact h u hu
 ·exact k u hu
theorem OkL.tail {size : Int} {s : Sp} {t : List Sp} (h : OkL size (s :: t)) : OkL size t := fun u hu => h u (List.mem_cons_of_mem _ hu)
theorem OkL.head {size : Int} {s : Sp} {t : List Sp} (h : OkL size (s :: t)) : Ok size s := h s (List.mem_cons_self ..)
theorem OkL.perm {size : Int} {a b : List Sp} (h : OkL size a) (p : a.Perm b) : OkL size b := fun u hu => h u (p.mem_iff.2 hu)
theorem Canon.dis {l : List Sp} (h : Canon l) : Dis l := h.imp fun h => by omega
theorem Sp.ext' {a b : Sp} (h0 : a.f0 = b.f0) (h1 : a.f1 = b.f1) : a = b := by cases a; cases b; simp_all
theorem cnt_dis {size : Int} : ∀ {l : List Sp}, OkL size l → Dis l → ∀ x, cnt l x ≤ 1
 | [], _, _, x => by rw [cnt_nil]; omega
 | s :: t, h, hd, x => by
  obtain ⟨h1, h2⟩ := List.pairwise_cons.1 hd
  have ih := cnt_dis h.tail h2 x
  rw [cnt_cons]
  split
  ·rename_i hx
   have : cnt t x = 0 := cnt_zero.2 fun u hu => by have := h1 u hu; omega
   omega
  ·omega
theorem canon_unique {size : Int} : ∀ {a b : List Sp}, OkL size a → OkL size b → Canon a → Canon b → (∀ x, cnt a x = cnt b x) → a = b
 | [], [], _, _, _, _, _ => rfl
 | [], s :: t, _, hb, _, _, h => by
  have h1 := cnt_mem (l := s :: t) (List.mem_cons_self ..) (Int.le_refl s.f0) (by have := hb.head.1; omega)
  have h2 := h s.f0
  rw [cnt_nil] at h2
  omega
 | s :: t, [], ha, _, _, _, h => by
  have h1 := cnt_mem (l := s :: t) (List.mem_cons_self ..) (Int.le_refl s.f0) (by have := ha.head.1; omega)
  have h2 := h s.f0
  rw [cnt_nil] at h2
  omega
 | s :: t, u :: v, ha, hb, ca, cb, h => by
  obtain ⟨a1, a2⟩ := List.pairwise_cons.1 ca
  obtain ⟨b1, b2⟩ := List.pairwise_cons.1 cb
  have hs := ha.head
  have hu := hb.head
  have e0 : s.f0 = u.f0 := by
   have h1 := cnt_mem (l := s :: t) (List.mem_cons_self ..) (Int.le_refl s.f0) (by have := hs.1; omega)
   have h2 := cnt_mem (l := u :: v) (List.mem_cons_self ..) (Int.le_refl u.f0) (by have := hu.1; omega)
   rw [h s.f0] at h1
   rw [← h u.f0] at h2
   obtain ⟨p, hp, p1, _⟩ := cnt_pos.1 h1
   obtain ⟨q, hq, q1, _⟩ := cnt_pos.1 h2
   have k1 : u.f0 ≤ p.f0 := by
    rcases List.mem_cons.1 hp with rfl | hp
    ·omega
    ·have := b1 p hp; have := hu.1; omega
   have k2 : s.f0 ≤ q.f0 := by
    rcases List.mem_cons.1 hq with rfl | hq
    ·omega
    ·have := a1 q hq; have := hs.1; omega
   omega
  have e1 : s.f1 = u.f1 := by
   have z1 : cnt (s :: t) (s.f0 + s.f1) = 0 := cnt_zero.2 fun p hp => by
    rcases List.mem_cons.1 hp with rfl | hp
    ·omega
    ·have := a1 p hp; omega
   have z2 : cnt (u :: v) (u.f0 + u.f1) = 0 := cnt_zero.2 fun p hp => by
    rcases List.mem_cons.1 hp with rfl | hp
    ·omega
    ·have := b1 p hp; omega
   rw [h] at z1
   rw [← h] at z2
   have y1 := cnt_zero.1 z1 u (List.mem_cons_self ..)
   have y2 := cnt_zero.1 z2 s (List.mem_cons_self ..)
   have := hs.1
   have := hu.1
   omega
  obtain rfl := Sp.ext' e0 e1
  have := canon_unique ha.tail hb.tail a2 b2 fun x => by
   have := h x
   rw [cnt_cons, cnt_cons] at this
   omega
  rw [this]
theorem insB_iff {size : Int} (h1 : 1 ≤ size) (h2 : size ≤ 8192) (s : Sp) : insB size s = true ↔ Ok size s := by
 constructor
 ·intro h
  exact insB_spec h1 h2 h
 ·rintro ⟨a, b, c⟩
  unfold insB wrap64
  simp only [Bool.and_eq_true, decide_eq_true_eq]
  omega
def Sized (size : Int) : Prop := 1 ≤ size ∧ size ≤ 8192
def totStep (n : Int) (s : Sp) : Int := wrap64 (n + mx s.f1 0)
def totF (l : List Sp) : Int := l.foldl totStep 0
theorem total_ev (l : List Sp) (hl : l.length ≤ 9223372036854775807) : Evt (fun k => span_Total.f k l) (totF l) := by
 unfold span_Total.f
 have key : ∀ n i : Nat, ∀ x : Int, l.length - i = n → i ≤ l.length → Evt (fun k => span_Total.l0 k x l (l.length : Int) (i : Int)) ((l.drop i).foldl totStep x) := by
  intro n
  induction n with
  | zero =>
   intro i x hn hi
   refine Evt.step (fun k => by rw [span_Total.l0]) ?_
   refine Evt.neg (by omega) (Evt.val' ?_)
   rw [List.drop_eq_nil_of_le (by omega)]; rfl
  | succ n ih =>
   intro i x hn hi
   refine Evt.step (fun k => by rw [span_Total.l0]) ?_
   refine Evt.pos (by omega) (Evt.pos (by omega) (Evt.pos (by omega) ?_))
   have hlt : i < l.length := by omega
   rw [wrap64_id (n := (i : Int) + 1) (by omega) (by omega), rd_T87_get l i hlt, List.drop_eq_getElem_cons hlt]
   exact ih (i + 1) _ (by omega) (by omega)
 exact key _ 0 0 rfl (Nat.zero_le _)
def sumF : List Sp → Int
 | [] => 0
 | s :: t => s.f1 + sumF t
theorem sumF_bound {size : Int} {l : List Sp} (h : OkL size l) (hs : 0 ≤ size) : 0 ≤ sumF l ∧ sumF l ≤ size * l.length := by
 induction l with
 | nil => simp [sumF]
 | cons s t ih =>
  obtain ⟨i1, i2⟩ := ih h.tail
  obtain ⟨s1, s2, s3⟩ := h.head
  have e : size * ((s :: t).length : Int) = size * (t.length : Int) + size := by rw [List.length_cons, Int.natCast_add, Int.mul_add]; simp
  rw [e]
  simp only [sumF]
  omega
theorem totF_sum {size : Int} (h1 : 0 ≤ size) (h2 : size ≤ 8192) {l : List Sp} (h : OkL size l) (hl : l.length < 1000000) : totF l = sumF l := by
 have key : ∀ (l : List Sp) (x : Int), OkL size l → 0 ≤ x → x + size * l.length < 9223372036854775808 → l.foldl totStep x = x + sumF l := by
  intro l
  induction l with
  | nil => intro x _ _ _; simp [sumF]
  | cons s t ih =>
   intro x ho hx hb
   obtain ⟨s1, s2, s3⟩ := ho.head
   have e : size * ((s :: t).length : Int) = size * (t.length : Int) + size := by rw [List.length_cons, Int.natCast_add, Int.mul_add]; simp
   rw [e] at hb
   have hp : 0 ≤ size * (t.length : Int) := Int.mul_nonneg h1 (by omega)
   have hst : totStep x s = x + s.f1 := by
    unfold totStep mx
    rw [if_neg (by omega)]
    exact wrap64_id (by omega) (by omega)
   rw [List.foldl_cons, hst, ih _ ho.tail (by omega) (by omega)]
   simp only [sumF]
   omega
 have hp : size * (l.length : Int) ≤ 8192 * 1000000 := Int.mul_le_mul h2 (by omega) (by omega) (by omega)
 unfold totF
 rw [key l 0 h (Int.le_refl _) (by omega)]
 omega
theorem sum_map_zero {α : Type} (f : α → Nat) (l : List α) (h : ∀ x ∈ l, f x = 0) : (l.map f).sum = 0 := by
 induction l with
 | nil => rfl
 | cons x t ih => rw [List.map_cons, List.sum_cons, h x (by simp), ih fun y hy => h y (by simp [hy])]
theorem cnt_sum_one (a b : Int) : ∀ n : Nat, 0 ≤ a → a ≤ b → b ≤ n → ((List.range n).map fun (i : Nat) => (if a ≤ (i : Int) ∧ (i : Int) < b then 1 else 0 : Nat)).sum = (b - a).toNat := by
 intro n
 induction n generalizing b with
 | zero => intro h1 h2 h3; simp; omega
 | succ n ih =>
  intro h1 h2 h3
  rw [List.range_succ, List.map_append, List.sum_append]
  simp only [List.map_cons, List.map_nil, List.sum_cons, List.sum_nil]
  by_cases hb : b ≤ n
  ·rw [ih b h1 h2 hb, if_neg (by omega)]
   rfl
  ·by_cases ha : a ≤ n
   ·have e := ih n h1 ha (Int.le_refl _)
    have e2 : ((List.range n).map fun (i : Nat) => (if a ≤ (i : Int) ∧ (i : Int) < b then 1 else 0 : Nat)) = ((List.range n).map fun (i : Nat) => (if a ≤ (i : Int) ∧ (i : Int) < (n : Int) then 1 else 0 : Nat)) := by
     refine List.map_congr_left fun i hi => ?_
     have := List.mem_range.1 hi
     congr 1
     simp only [eq_iff_iff]
     omega
    rw [e2, e, if_pos (by omega)]
    omega
   ·have e : a = b := by omega
    subst e
    have e2 : ((List.range n).map fun (i : Nat) => (if a ≤ (i : Int) ∧ (i : Int) < a then 1 else 0 : Nat)).sum = 0 := sum_map_zero _ _ fun i _ => if_neg (by omega)
    rw [e2, if_neg (by omega)]
    omega
theorem sum_map_add {α : Type} (f g : α → Nat) (l : List α) : (l.map fun x => f x + g x).sum = (l.map f).sum + (l.map g).sum := by
 induction l with
 | nil => rfl
 | cons x t ih => simp only [List.map_cons, List.sum_cons, ih]; omega
theorem cnt_sum {size : Int} : ∀ {l : List Sp}, OkL size l → ((List.range size.toNat).map fun (i : Nat) => cnt l (i : Int)).sum = (sumF l).toNat ∧ 0 ≤ sumF l
 | [], _ => by
  refine ⟨?_, Int.le_refl _⟩
  exact sum_map_zero _ _ fun i _ => cnt_nil _
 | s :: t, h => by
  obtain ⟨e, h0⟩ := cnt_sum h.tail
  obtain ⟨s1, s2, s3⟩ := h.head
  have e1 := cnt_sum_one s.f0 (s.f0 + s.f1) size.toNat s2 (by omega) (by omega)
  have : ((List.range size.toNat).map fun (i : Nat) => cnt (s :: t) (i : Int)) = ((List.range size.toNat).map fun (i : Nat) => (if s.f0 ≤ (i : Int) ∧ (i : Int) < s.f0 + s.f1 then 1 else 0) + cnt t (i : Int)) := List.map_congr_left fun i _ => cnt_cons s t _
  rw [this, sum_map_add, e1, e]
  simp only [sumF]
  omega
theorem sum_const_one (n : Nat) : ((List.range n).map fun _ => 1).sum = n := by
 induction n with
 | zero => rfl
 | succ n ih => rw [List.range_succ, List.map_append, List.sum_append, ih]; rfl
theorem len_sum {size : Int} : ∀ {l : List Sp}, OkL size l → (l.length : Int) ≤ sumF l
 | [], _ => by simp [sumF]
 | s :: t, h => by
  have := len_sum h.tail
  have := h.head.1
  simp only [List.length_cons, sumF]
  omega
theorem len_canon {size : Int} (h0 : 0 ≤ size) {l : List Sp} (h : OkL size l) (hd : ∀ x, cnt l x ≤ 1) : (l.length : Int) ≤ size := by
 have h1 := len_sum h
 obtain ⟨a1, a2⟩ := cnt_sum h
 have : ((List.range size.toNat).map fun (i : Nat) => cnt l (i : Int)).sum ≤ ((List.range size.toNat).map fun _ => 1).sum := by
  generalize List.range size.toNat = r
  induction r with
  | nil => simp
  | cons i t ih => simp only [List.map_cons, List.sum_cons]; have := hd (i : Int); omega
 rw [a1, sum_const_one] at this
 omega
theorem OkL.mono {a b : Int} (h : a ≤ b) {l : List Sp} (k : OkL a l) : OkL b l := fun s hs => by
 obtain ⟨x, y, z⟩ := k s hs
 exact ⟨x, y, by omega⟩
theorem rd_mid (d : List Sp) (s : Sp) (r : List Sp) : rd_T87 (d ++ s :: r) (d.length : Int) = s := by
 rw [rd_T87_get _ _ (by simp)]
 simp
def rightF (size : Int) : Int → List Sp → Bool
 | _, [] => decide (1 ≤ size) && decide (size ≤ 8192)
 | e, s :: t => if insB size s = true then (if s.f0 ≤ e then false else rightF size (wrap64 (s.f0 + s.f1)) t) else false
theorem sized_f (size : Int) : span_sized.f size = some (decide (1 ≤ size) && decide (size ≤ 8192)) := by
 unfold span_sized.f
 by_cases h : 1 ≤ size <;> simp [h, GE.ge]
theorem right_ev (l : List Sp) (size : Int) (hl : l.length ≤ 100000) : Evt (fun k => span_Right.f k l size) (rightF size (-1) l) := by
 have key : ∀ (r d : List Sp) (e : Int), l = d ++ r → Evt (fun k => span_Right.l0 k size e l (l.length : Int) (d.length : Int)) (rightF size e r) := by
  intro r
  induction r with
  | nil =>
   intro d e hd
   rw [List.append_nil] at hd
   subst hd
   exact Evt.step (fun k => by rw [span_Right.l0]) (Evt.neg (by omega) (Evt.bind' (sized_f size) (Evt.val _)))
  | cons s r ih =>
   intro d e hd
   have hdl : d.length < l.length := by rw [hd]; simp
   have hrd : rd_T87 l (d.length : Int) = s := by rw [hd]; exact rd_mid d s r
   have hw : wrap64 ((d.length : Int) + 1) = ((d.length + 1 : Nat) : Int) := by rw [wrap64_id (by omega) (by omega)]; rfl
   have hi := ih (d ++ [s]) (wrap64 (s.f0 + s.f1)) (by rw [hd]; simp)
   rw [show (d ++ [s]).length = d.length + 1 by simp] at hi
   refine Evt.step (fun k => by rw [span_Right.l0]) (Evt.pos (by omega) (Evt.pos (by omega) (Evt.pos (by omega) ?_)))
   rw [hrd, hw]
   refine Evt.bind' (insB_f size s) ?_
   unfold rightF
   by_cases h1 : insB size s = true
   ·rw [if_pos h1]
    refine Evt.pos h1 ?_
    by_cases h2 : s.f0 ≤ e
    ·rw [if_pos h2]
     exact Evt.pos h2 (Evt.val _)
    ·rw [if_neg h2]
     exact Evt.neg h2 hi
   ·rw [if_neg h1]
    exact Evt.neg h1 (Evt.val _)
 unfold span_Right.f
 exact key l [] (-1) rfl
theorem rightF_sized {size : Int} (h : ¬ Sized size) : ∀ (l : List Sp) (e : Int), rightF size e l = false
 | [], _ => by
  unfold rightF
  unfold Sized at h
  by_cases h1 : 1 ≤ size
  ·simp [h1]; omega
  ·simp [h1]
 | s :: t, e => by
  unfold rightF
  split
  ·split
   ·rfl
   ·exact rightF_sized h t _
  ·rfl
theorem rightF_iff {size : Int} (h : Sized size) : ∀ (l : List Sp) (e : Int), rightF size e l = true ↔ OkL size l ∧ Canon l ∧ ∀ s ∈ l, e < s.f0
 | [], e => by
  obtain ⟨h1, h2⟩ := h
  unfold rightF
  simp only [h1, h2, decide_true, Bool.and_self, true_iff]
  exact ⟨OkL.nil, List.Pairwise.nil, fun _ h => (nomatch h)⟩
 | s :: t, e => by
  unfold rightF
  by_cases h1 : insB size s = true
  ·have ho := (insB_iff h.1 h.2 s).1 h1
   have hw : wrap64 (s.f0 + s.f1) = s.f0 + s.f1 := by obtain ⟨_, _, _⟩ := ho; obtain ⟨_, _⟩ := h; exact wrap64_id (by omega) (by omega)
   rw [if_pos h1, hw]
   by_cases h2 : s.f0 ≤ e
   ·rw [if_pos h2]
    refine ⟨fun k => (nomatch k), fun k => ?_⟩
    have := k.2.2 s (List.mem_cons_self ..)
    omega
   ·rw [if_neg h2, rightF_iff h t]
    constructor
    ·rintro ⟨k1, k2, k3⟩
     refine ⟨OkL.cons ho k1, List.Pairwise.cons k3 k2, fun u hu => ?_⟩
     rcases List.mem_cons.1 hu with rfl | hu
     ·omega
     ·have := k3 u hu; have := ho.1; omega
    ·rintro ⟨k1, k2, k3⟩
     obtain ⟨c1, c2⟩ := List.pairwise_cons.1 k2
     exact ⟨k1.tail, c2, c1⟩
  ·rw [if_neg h1]
   refine ⟨fun k => (nomatch k), fun k => ?_⟩
   exact absurd ((insB_iff h.1 h.2 s).2 k.1.head) h1
abbrev Fi := S85
theorem rdF_mid (d : List Fi) (s : Fi) (r : List Fi) : rd_T85 (d ++ s :: r) (d.length : Int) = s := by
 unfold rd_T85
 rw [Int.toNat_natCast, List.getD_eq_getElem?_getD, List.getElem?_append_right (Nat.le_refl _)]
 simp
def Bd (f : Fi) : Prop := f.f0.size ≤ 100000 ∧ f.f2.length ≤ 100000
def BdL (l : List Fi) : Prop := l.length ≤ 100000 ∧ ∀ f ∈ l, Bd f
def wellB (f : Fi) : Bool := labB f.f0.data.toList && (decide (0 ≤ f.f1) && (decide (f.f1 ≤ 20000) && (decide (f.f2.length ≤ 200) && (rightF 8192 (-1) f.f2 && (decide (f.f1 ≤ sumF f.f2 * 64) && decide (sumF f.f2 * 64 - f.f1 < 64))))))
theorem sz8 : Sized 8192 := ⟨by decide, by decide⟩
theorem sum_bd {l : List Sp} (h : rightF 8192 (-1) l = true) (hl : l.length ≤ 100000) : totF l = sumF l ∧ 0 ≤ sumF l ∧ sumF l ≤ 819200000 := by
 obtain ⟨h1, _, _⟩ := (rightF_iff sz8 l (-1)).1 h
 have h2 := sumF_bound h1 (by decide)
 exact ⟨totF_sum (by decide) (by decide) h1 (by omega), h2.1, by omega⟩
theorem well_ev (f : Fi) (hb : Bd f) : Evt (fun k => dir_File_well.f k f.f0 f.f1 f.f2) (wellB f) := by
 obtain ⟨h1, h2⟩ := hb
 unfold dir_File_well.f wellB
 refine Evt.bind (total_ev f.f2 (by omega)) ?_
 have hl := label_f f.f0.data.toList (by rw [← Lib.size_eq]; omega)
 rw [B_of] at hl
 refine Evt.bind' hl ?_
 cases labB f.f0.data.toList with
 | false => exact Evt.neg (by decide) (Evt.val _)
 | true =>
  refine Evt.pos rfl ?_
  by_cases c1 : 0 ≤ f.f1
  ·refine Evt.pos c1 ?_
   by_cases c2 : f.f1 ≤ 20000
   ·refine Evt.pos c2 ?_
    by_cases c3 : f.f2.length ≤ 200
    ·refine Evt.pos (by omega) (Evt.bind (right_ev f.f2 8192 h2) ?_)
     simp only [c1, c2, c3, decide_true, Bool.true_and]
     cases hr : rightF 8192 (-1) f.f2 with
     | false => exact Evt.neg (by decide) (Evt.val _)
     | true =>
      obtain ⟨e, k1, k2⟩ := sum_bd hr h2
      have hw : wrap64 (totF f.f2 * 64) = sumF f.f2 * 64 := by rw [e, wrap64_id (by omega) (by omega)]
      refine Evt.pos rfl ?_
      rw [hw]
      by_cases c4 : f.f1 ≤ sumF f.f2 * 64
      ·refine Evt.pos c4 (Evt.val' ?_)
       rw [wrap64_id (by omega) (by omega)]
       simp [c4]
      ·exact Evt.neg c4 (Evt.val' (by simp [c4]))
    ·exact Evt.neg (by omega) (Evt.val' (by simp [c3]))
   ·exact Evt.neg c2 (Evt.val' (by simp [c2]))
  ·exact Evt.neg c1 (Evt.val' (by simp [c1]))
def lt8 (a b : ByteArray) : Bool := Op.bytesLess a.toList b.toList
def goB : Option ByteArray → List Fi → Bool
 | _, [] => true
 | none, f :: t => wellB f && goB (some f.f0) t
 | some q, f :: t => wellB f && (lt8 q f.f0 && goB (some f.f0) t)
def dirB (l : List Fi) : Bool := goB none l && decide (l.length ≤ 120)
theorem idx (n : Nat) (h : n ≤ 100000) : wrap64 ((n : Int) + 1) = ((n + 1 : Nat) : Int) := by rw [wrap64_id (by omega) (by omega)]; rfl
theorem directory_ev (l : List Fi) (hb : BdL l) : Evt (fun k => dir_directory.f k l) (dirB l) := by
 obtain ⟨hl, hw⟩ := hb
 have jf : ∀ n : Int, Evt (fun k => dir_directory.j1 k l l (l.length : Int) n true) false := fun n => Evt.step (fun k => by rw [dir_directory.j1]) (Evt.pos rfl (Evt.val _))
 have fin : ∀ n : Int, ¬ n < (l.length : Int) → Evt (fun k => dir_directory.l0 k l l (l.length : Int) n) (decide (l.length ≤ 120)) := fun n hn =>
  Evt.step (fun k => by rw [dir_directory.l0]) (Evt.neg hn (Evt.val' (by simp; omega)))
 have key : ∀ (r d : List Fi) (q : Fi), l = d ++ q :: r → Evt (fun k => dir_directory.l0 k l l (l.length : Int) ((d.length + 1 : Nat) : Int)) (goB (some q.f0) r && decide (l.length ≤ 120)) := by
  intro r
  induction r with
  | nil =>
   intro d q hd
   have hlen : l.length = d.length + 1 := by rw [hd]; simp
   exact fin _ (by omega)
  | cons f r ih =>
   intro d q hd
   have hlen : l.length = d.length + (r.length + 2) := by rw [hd]; simp
   have hd2 : l = (d ++ [q]) ++ f :: r := by rw [hd]; simp
   have hrd : rd_T85 l ((d.length + 1 : Nat) : Int) = f := by
    have := rdF_mid (d ++ [q]) f r
    rwa [← hd2, show (d ++ [q]).length = d.length + 1 by simp] at this
   have hrq : rd_T85 l (d.length : Int) = q := by
    have := rdF_mid d q (f :: r)
    rwa [← hd] at this
   have hp : wrap64 (((d.length + 1 : Nat) : Int) - 1) = (d.length : Int) := by rw [wrap64_id (by omega) (by omega)]; omega
   have hi := ih (d ++ [q]) f hd2
   rw [show (d ++ [q]).length = d.length + 1 by simp] at hi
   refine Evt.step (fun k => by rw [dir_directory.l0]) (Evt.pos (by omega) (Evt.pos (by omega) (Evt.pos (by omega) ?_)))
   rw [hrd, hp, hrq]
   refine Evt.bind (well_ev f (hw f (by rw [hd]; simp))) ?_
   unfold goB
   cases wellB f with
   | false => exact Evt.neg (by decide) (jf _)
   | true =>
    refine Evt.pos rfl (Evt.pos (by omega) (Evt.pos (by omega) (Evt.pos (by omega) ?_)))
    rw [Bool.true_and]
    show Evt (fun k => dir_directory.j1 k l l (l.length : Int) _ (!lt8 q.f0 f.f0)) _
    cases lt8 q.f0 f.f0 with
    | false => exact jf _
    | true =>
     refine Evt.step (fun k => by rw [dir_directory.j1]) (Evt.neg (by decide) ?_)
     rw [idx _ (by omega)]
     exact hi
 unfold dir_directory.f dirB
 cases l with
 | nil => exact fin 0 (by simp)
 | cons f r =>
  refine Evt.step (fun k => by rw [dir_directory.l0]) (Evt.pos (by simp) (Evt.pos (by omega) (Evt.pos (by simp) ?_)))
  have hrd : rd_T85 (f :: r) 0 = f := rfl
  rw [hrd]
  refine Evt.bind (well_ev f (hw f (by simp))) ?_
  unfold goB
  cases wellB f with
  | false => exact Evt.neg (by decide) (jf _)
  | true =>
   refine Evt.pos rfl (Evt.neg (by omega) (Evt.step (fun k => by rw [dir_directory.j1]) (Evt.neg (by decide) ?_)))
   rw [Bool.true_and, show wrap64 (0 + 1) = (((0 : Nat) + 1 : Nat) : Int) by rw [wrap64_id (by omega) (by omega)]; rfl]
   exact key r [] f rfl
def spansC : Nat → St → List Sp → List Sp × St
 | 0, st, acc => (acc, st)
 | n + 1, st, acc => spansC n (nm 2 (nm 2 st).2).2 (acc ++ [⟨(nm 2 st).1, (nm 2 (nm 2 st).2).1⟩])
def fileA (st : St) : Int × St := nm 1 st
def fileN (st : St) : List UInt8 × St := tx (fileA st).1.toNat (fileA st).2
def fileS (st : St) : Int × St := nm 4 (fileN st).2
def fileM (st : St) : Int × St := nm 1 (fileS st).2
def fileC (st : St) : Fi × St := (⟨B (fileN st).1, (fileS st).1, (spansC (fileM st).1.toNat (fileM st).2 []).1⟩, (spansC (fileM st).1.toNat (fileM st).2 []).2)
def filesC : Nat → St → List Fi → List Fi × St
 | 0, st, acc => (acc, st)
 | n + 1, st, acc => filesC n (fileC st).2 (acc ++ [(fileC st).1])
theorem tx_good {m : Nat} {st : St} (h : (tx m st).2.2 = false) : st.2 = false ∧ st.1 = (tx m st).1 ++ (tx m st).2.1 ∧ (tx m st).1.length = m := by
 unfold tx at h ⊢
 by_cases c : st.2 = false ∧ m ≤ st.1.length
 ·rw [if_pos c]
  exact ⟨c.1, (List.take_append_drop _ _).symm, by rw [List.length_take]; exact Nat.min_eq_left c.2⟩
 ·rw [if_neg c] at h
  cases h
theorem nm_good {m : Nat} (hm : m ≤ 8) {st : St} (h : (nm m st).2.2 = false) : st.2 = false ∧ st.1 = numL (nm m st).1 m ++ (nm m st).2.1 := by
 obtain ⟨h1, h2, h3⟩ := tx_good h
 refine ⟨h1, ?_⟩
 have := numL_leNat (tx m st).1 (by omega)
 rw [h3] at this
 show st.1 = numL (Lib.leNat (tx m st).1 : Int) m ++ (tx m st).2.1
 rw [this]
 exact h2
theorem spanL_eq (a b : Int) : spanL ⟨a, b⟩ = numL a 2 ++ numL b 2 := rfl
theorem spansC_P : ∀ (n : Nat) (st : St) (acc : List Sp), (spansC n st acc).2.2 = false → st.2 = false ∧ ∃ sp, (spansC n st acc).1 = acc ++ sp ∧ sp.length = n ∧ st.1 = sp.flatMap spanL ++ (spansC n st acc).2.1
 | 0, st, acc, h => ⟨h, [], by simp [spansC], rfl, by simp [spansC]⟩
 | n + 1, st, acc, h => by
  unfold spansC at h ⊢
  obtain ⟨h1, sp, h2, h3, h4⟩ := spansC_P n _ _ h
  obtain ⟨k1, k2⟩ := nm_good (by decide) h1
  obtain ⟨j1, j2⟩ := nm_good (by decide) k1
  refine ⟨j1, ⟨(nm 2 st).1, (nm 2 (nm 2 st).2).1⟩ :: sp, ?_, by simp [h3], ?_⟩
  ·rw [h2, List.append_assoc]; rfl
  ·rw [List.flatMap_cons, spanL_eq, List.append_assoc, List.append_assoc, ← h4, ← k2]
   exact j2
theorem spansC_len : ∀ (n : Nat) (st : St) (acc : List Sp), (spansC n st acc).1.length = acc.length + n ∧ (spansC n st acc).2.1.length ≤ st.1.length
 | 0, st, acc => ⟨rfl, Nat.le_refl _⟩
 | n + 1, st, acc => by
  unfold spansC
  have h := spansC_len n (nm 2 (nm 2 st).2).2 (acc ++ [⟨(nm 2 st).1, (nm 2 (nm 2 st).2).1⟩])
  have h1 := nm_len 2 st
  have h2 := nm_len 2 (nm 2 st).2
  rw [zO] at h
  refine ⟨by rw [h.1]; simp; omega, by omega⟩
theorem fileC_len (st : St) : (fileC st).2.1.length ≤ st.1.length := by
 have h := (spansC_len (fileM st).1.toNat (fileM st).2 []).2
 have h1 : (fileM st).2.1.length ≤ (fileS st).2.1.length := nm_len 1 _
 have h2 : (fileS st).2.1.length ≤ (fileN st).2.1.length := nm_len 4 _
 have h3 : (fileN st).2.1.length ≤ (fileA st).2.1.length := (tx_len _ _).2.1
 have h4 : (fileA st).2.1.length ≤ st.1.length := nm_len 1 _
 show (spansC _ _ _).2.1.length ≤ _
 omega
theorem fileC_bd (st : St) (h : st.1.length ≤ 100000) : Bd (fileC st).1 := by
 have h3 : (fileN st).1.length ≤ (fileA st).2.1.length := (tx_len _ _).2.2
 have h4 : (fileA st).2.1.length ≤ st.1.length := nm_len 1 _
 refine ⟨?_, ?_⟩
 ·show (B (fileN st).1).size ≤ _
  rw [B_size]; omega
 ·show (spansC _ _ _).1.length ≤ _
  rw [(spansC_len _ _ _).1]
  have := (nm_range 1 (by decide) (fileS st).2).2.2
  have e : (fileM st).1 = (nm 1 (fileS st).2).1 := rfl
  have e2 : (256 ^ 1 : Nat) = 256 := rfl
  rw [e2] at this
  simp only [List.length_nil]
  omega
theorem fileC_P {st : St} (h : (fileC st).2.2 = false) : st.2 = false ∧ st.1 = fileL (fileC st).1 ++ (fileC st).2.1 := by
 obtain ⟨h1, sp, h2, h3, h4⟩ := spansC_P _ _ _ h
 rw [List.nil_append] at h2
 obtain ⟨k1, k2⟩ := nm_good (by decide) (show (nm 1 (fileS st).2).2.2 = false from h1)
 obtain ⟨j1, j2⟩ := nm_good (by decide) (show (nm 4 (fileN st).2).2.2 = false from k1)
 obtain ⟨i1, i2, i3⟩ := tx_good (show (tx (fileA st).1.toNat (fileA st).2).2.2 = false from j1)
 obtain ⟨g1, g2⟩ := nm_good (by decide) (show (nm 1 st).2.2 = false from i1)
 have r0 := (nm_range 1 (by decide) st).1
 have r1 := (nm_range 1 (by decide) (fileS st).2).1
 refine ⟨g1, ?_⟩
 have hM : ((spansC (fileM st).1.toNat (fileM st).2 []).1.length : Int) = (nm 1 (fileS st).2).1 := by
  rw [(spansC_len _ _ _).1, List.length_nil, Nat.zero_add]
  exact Int.toNat_of_nonneg r1
 have hN : ((B (fileN st).1).size : Int) = (nm 1 st).1 := by
  rw [B_size, show (fileN st).1.length = (fileA st).1.toNat from i3]
  exact Int.toNat_of_nonneg r0
 unfold fileL
 show st.1 = (numL ((B (fileN st).1).size : Int) 1 ++ ((B (fileN st).1).data.toList ++ (numL (nm 4 (fileN st).2).1 4 ++ (numL ((spansC (fileM st).1.toNat (fileM st).2 []).1.length : Int) 1 ++ (spansC (fileM st).1.toNat (fileM st).2 []).1.flatMap spanL)))) ++ (spansC (fileM st).1.toNat (fileM st).2 []).2.1
 rw [hM, hN, B_data, h2]
 simp only [List.append_assoc]
 rw [← show (nm 1 (fileS st).2).2.1 = _ from h4, ← k2, ← show (nm 4 (fileN st).2).2.1 = (fileS st).2.1 from rfl, ← j2, ← show (tx (fileA st).1.toNat (fileA st).2).2.1 = (fileN st).2.1 from rfl, ← show (tx (fileA st).1.toNat (fileA st).2).1 = (fileN st).1 from rfl, ← i2]
 exact g2
theorem filesC_P : ∀ (n : Nat) (st : St) (acc : List Fi), (filesC n st acc).2.2 = false → st.2 = false ∧ ∃ fs, (filesC n st acc).1 = acc ++ fs ∧ fs.length = n ∧ st.1 = fs.flatMap fileL ++ (filesC n st acc).2.1
 | 0, st, acc, h => ⟨h, [], by simp [filesC], rfl, by simp [filesC]⟩
 | n + 1, st, acc, h => by
  unfold filesC at h ⊢
  obtain ⟨h1, fs, h2, h3, h4⟩ := filesC_P n _ _ h
  obtain ⟨k1, k2⟩ := fileC_P h1
  refine ⟨k1, (fileC st).1 :: fs, ?_, by simp [h3], ?_⟩
  ·rw [h2, List.append_assoc]; rfl
  ·rw [List.flatMap_cons, List.append_assoc, ← h4]
   exact k2
def Fits (f : Fi) : Prop := f.f0.size < 256 ∧ (0 ≤ f.f1 ∧ f.f1 < 4294967296) ∧ f.f2.length < 256 ∧ ∀ s ∈ f.f2, 0 ≤ s.f0 ∧ s.f0 < 65536 ∧ 0 ≤ s.f1 ∧ s.f1 < 65536
theorem dec_four (l : List UInt8) : (dec l).2 ≤ 4 := by
 rcases decN_cases l.length (g8 l 0) (g8 l 1) (g8 l 2) (g8 l 3) (g8_lt l 0) (g8_lt l 1) (g8_lt l 2) (g8_lt l 3) with h | h | ⟨_, _, _, _, h⟩
 ·have h2 := congrArg Prod.snd h.2; change (dec l).2 = 1 at h2; omega
 ·have h2 := congrArg Prod.snd h.2; change (dec l).2 = 1 at h2; omega
 ·change (dec l).2 = 2 ∨ (_ ∧ _ ∧ ((dec l).2 = 3 ∨ _ ∧ _ ∧ (dec l).2 = 4)) at h
  omega
theorem cntL_four : ∀ (n : Nat) (l : List UInt8), l.length ≤ n → l.length ≤ 4 * cntL n l
 | 0, l, h => by omega
 | n + 1, l, h => by
  unfold cntL
  by_cases hl : l = []
  ·rw [hl]; simp
  ·rw [if_neg hl]
   have h1 := dec_four l
   have h2 := dec_width l (len_pos hl)
   have := cntL_four n (l.drop (dec l).2) (by rw [List.length_drop]; omega)
   rw [List.length_drop] at this
   omega
theorem labB_len {l : List UInt8} (h : labB l = true) : l.length ≤ 96 := by
 unfold labB at h
 simp only [Bool.and_eq_true, decide_eq_true_eq] at h
 have := cntL_four l.length l (Nat.le_refl _)
 omega
theorem well_fits {f : Fi} (h : wellB f = true) : Fits f := by
 unfold wellB at h
 simp only [Bool.and_eq_true, decide_eq_true_eq] at h
 obtain ⟨h1, h2, h3, h4, h5, _, _⟩ := h
 have h6 := labB_len h1
 rw [← Lib.size_eq] at h6
 refine ⟨by omega, ⟨h2, by omega⟩, by omega, fun s hs => ?_⟩
 obtain ⟨a, b, c⟩ := ((rightF_iff sz8 f.f2 (-1)).1 h5).1 s hs
 omega
theorem goB_well : ∀ (l : List Fi) (p : Option ByteArray), goB p l = true → ∀ f ∈ l, wellB f = true
 | [], _, _, f, hf => nomatch hf
 | g :: t, none, h, f, hf => by
  unfold goB at h
  simp only [Bool.and_eq_true] at h
  rcases List.mem_cons.1 hf with rfl | hf
  ·exact h.1
  ·exact goB_well t _ h.2 f hf
 | g :: t, some q, h, f, hf => by
  unfold goB at h
  simp only [Bool.and_eq_true] at h
  rcases List.mem_cons.1 hf with rfl | hf
  ·exact h.1
  ·exact goB_well t _ h.2.2 f hf
theorem dirB_well {l : List Fi} (h : dirB l = true) : l.length ≤ 120 ∧ ∀ f ∈ l, wellB f = true := by
 unfold dirB at h
 simp only [Bool.and_eq_true, decide_eq_true_eq] at h
 exact ⟨h.2, goB_well l none h.1⟩
def putV (l : List Fi) : List UInt8 × Int := if dirB l = true then (sealV (dirL l), 0) else ([], 1)
def parse (t : List UInt8) : List Fi × St := filesC (nm 1 (t, false)).1.toNat (nm 1 (t, false)).2 []
def takeV (s : List UInt8) : List Fi × Int :=
 if (unsV s).2 = 0 then (if (parse (unsV s).1).2.1 = [] ∧ (parse (unsV s).1).2.2 = false ∧ dirB (parse (unsV s).1).1 = true then ((parse (unsV s).1).1, 0) else ([], 2)) else ([], (unsV s).2)
theorem parse_P {t : List UInt8} (h : (parse t).2.2 = false) : t = dirL (parse t).1 ++ (parse t).2.1 := by
 obtain ⟨h1, fs, h2, h3, h4⟩ := filesC_P _ _ _ h
 obtain ⟨_, k2⟩ := nm_good (by decide) h1
 have r0 := (nm_range 1 (by decide) (t, false)).1
 rw [List.nil_append] at h2
 have h2' : (parse t).1 = fs := h2
 have hl : (fs.length : Int) = (nm 1 (t, false)).1 := by rw [h3]; exact Int.toNat_of_nonneg r0
 unfold dirL
 rw [h2', hl, List.append_assoc]
 show t = numL (nm 1 (t, false)).1 1 ++ (fs.flatMap fileL ++ (filesC (nm 1 (t, false)).1.toNat (nm 1 (t, false)).2 []).2.1)
 rw [← h4]
 exact k2
theorem put_take {s : List UInt8} (h : (takeV s).2 = 0) : putV (takeV s).1 = (s, 0) := by
 unfold takeV at h ⊢
 by_cases c1 : (unsV s).2 = 0
 ·rw [if_pos c1] at h ⊢
  by_cases c2 : (parse (unsV s).1).2.1 = [] ∧ (parse (unsV s).1).2.2 = false ∧ dirB (parse (unsV s).1).1 = true
  ·rw [if_pos c2]
   obtain ⟨d1, d2, d3⟩ := c2
   have hp := parse_P d2
   rw [d1, List.append_nil] at hp
   unfold putV
   rw [if_pos d3]
   show (sealV (dirL (parse (unsV s).1).1), (0 : Int)) = (s, 0)
   rw [← hp, ← seal_unseal c1]
  ·rw [if_neg c2] at h
   cases h
 ·rw [if_neg c1] at h
  exact absurd h c1
theorem take_err {s : List UInt8} (h : (takeV s).2 ≠ 0) : (takeV s).1 = [] := by
 unfold takeV at h ⊢
 by_cases c1 : (unsV s).2 = 0
 ·rw [if_pos c1] at h ⊢
  split
  ·rename_i c2
   rw [if_pos c2] at h
   exact absurd rfl h
  ·rfl
 ·rw [if_neg c1]
theorem span_len (l : List Sp) : (l.flatMap spanL).length = 4 * l.length := by
 induction l with
 | nil => rfl
 | cons s t ih =>
  rw [List.flatMap_cons, zO, ih]
  unfold spanL
  rw [zO, numL_len, numL_len, List.length_cons]
  omega
theorem file_len {f : Fi} (h : Bd f) : (fileL f).length ≤ 600000 := by
 obtain ⟨h1, h2⟩ := h
 unfold fileL
 simp only [zO, numL_len, span_len]
 rw [← Lib.size_eq]
 omega
theorem files_len : ∀ l : List Fi, (∀ f ∈ l, Bd f) → (l.flatMap fileL).length ≤ 600000 * l.length
 | [], _ => Nat.le_refl _
 | f :: t, h => by
  rw [List.flatMap_cons, zO, List.length_cons]
  have h1 := file_len (h f (List.mem_cons_self ..))
  have h2 := files_len t (fun u hu => h u (List.mem_cons_of_mem _ hu))
  omega
theorem dir_len {l : List Fi} (h : BdL l) : (dirL l).length ≤ 60000000001 := by
 unfold dirL
 rw [zO, numL_len]
 have := files_len l h.2
 have := h.1
 omega
theorem put_ev (l : List Fi) (hb : BdL l) : Evt (fun k => dir_Put.f k l) (B (putV l).1, (putV l).2) := by
 unfold dir_Put.f putV
 refine Evt.bind (directory_ev l hb) ?_
 have hlen := dir_len hb
 cases dirB l with
 | false => exact Evt.neg (by decide) (Evt.val _)
 | true => exact Evt.pos rfl (Evt.pos (by omega) (Evt.bind' (seal_f (dirL l) (by omega)) (Evt.val _)))
theorem number1 (st : St) : Evt (fun k => le_Reader_Number.f k (B st.1) st.2 1) ((nm 1 st).1, B (nm 1 st).2.1, (nm 1 st).2.2) := number_ev st 1 (by decide)
theorem number2 (st : St) : Evt (fun k => le_Reader_Number.f k (B st.1) st.2 2) ((nm 2 st).1, B (nm 2 st).2.1, (nm 2 st).2.2) := number_ev st 2 (by decide)
theorem number4 (st : St) : Evt (fun k => le_Reader_Number.f k (B st.1) st.2 4) ((nm 4 st).1, B (nm 4 st).2.1, (nm 4 st).2.2) := number_ev st 4 (by decide)
theorem spans_ev (nameB : ByteArray) (size : Int) (N : Nat) (hN : N ≤ 100000) : ∀ (n i : Nat) (st : St) (acc : List Sp), i + n = N → acc.length + n ≤ 200000 →
  Evt (fun k => dir_file.l0 k (N : Int) (i : Int) (B st.1) st.2 nameB size acc) (nameB, size, (spansC n st acc).1, B (spansC n st acc).2.1, (spansC n st acc).2.2)
 | 0, i, st, acc, hi, _ => by
  refine Evt.step (fun k => by rw [dir_file.l0]) ?_
  exact Evt.neg (by omega) (Evt.val _)
 | n + 1, i, st, acc, hi, ha => by
  have r1 := nm_range 2 (by decide) st
  have r2 := nm_range 2 (by decide) (nm 2 st).2
  have e2 : (256 ^ 2 : Nat) = 65536 := rfl
  rw [e2] at r1 r2
  refine Evt.step (fun k => by rw [dir_file.l0]) ?_
  refine Evt.pos (by omega) ?_
  refine Evt.bind (number2 st) ?_
  refine Evt.bind (number2 (nm 2 st).2) ?_
  refine Evt.pos (by omega) ?_
  simp only []
  rw [wrap64_id (n := (nm 2 st).1) (by omega) (by omega), wrap64_id (n := (nm 2 (nm 2 st).2).1) (by omega) (by omega), wrapU _ (by omega) (by omega), show (i : Int) + 1 = ((i + 1 : Nat) : Int) by push_cast; rfl]
  unfold spansC
  exact spans_ev nameB size N hN n (i + 1) _ _ (by omega) (by rw [zO]; simp; omega)
theorem file_ev (st : St) : Evt (fun k => dir_file.f k (B st.1) st.2) ((fileC st).1.f0, (fileC st).1.f1, (fileC st).1.f2, B (fileC st).2.1, (fileC st).2.2) := by
 have r1 := nm_range 1 (by decide) st
 have r4 := nm_range 4 (by decide) (fileN st).2
 have rm := nm_range 1 (by decide) (fileS st).2
 have e1 : (256 ^ 1 : Nat) = 256 := rfl
 have e4 : (256 ^ 4 : Nat) = 4294967296 := rfl
 rw [e1] at r1 rm
 rw [e4] at r4
 unfold dir_file.f
 refine Evt.bind (number1 st) ?_
 have hw : wrap64 (nm 1 st).1 = (((fileA st).1.toNat : Nat) : Int) := by
  rw [wrap64_id (by omega) (by omega)]
  exact (Int.toNat_of_nonneg r1.1).symm
 simp only [hw]
 refine Evt.bind (text_ev (fileA st).2 _) ?_
 refine Evt.bind (number4 (fileN st).2) ?_
 refine Evt.bind (number1 (fileS st).2) ?_
 have hm : (nm 1 (fileS st).2).1 = (((fileM st).1.toNat : Nat) : Int) := (Int.toNat_of_nonneg rm.1).symm
 simp only [hm]
 rw [wrap64_id (n := (nm 4 (fileN st).2).1) (by omega) (by omega)]
 have hle : (fileM st).1.toNat ≤ 255 := by
  have : (fileM st).1 = (nm 1 (fileS st).2).1 := rfl
  omega
 exact spans_ev (B (fileN st).1) (fileS st).1 (fileM st).1.toNat (by omega) (fileM st).1.toNat 0 (fileM st).2 [] (by omega) (by simp; omega)
theorem files_ev (N : Nat) (hN : N ≤ 100000) : ∀ (n i : Nat) (st : St) (acc : List Fi), i + n = N → acc.length + n ≤ 100000 → (∀ f ∈ acc, Bd f) → st.1.length ≤ 100000 →
  Evt (fun k => dir_Take.l0 k acc (N : Int) (i : Int) (B st.1) st.2) (if (filesC n st acc).2.1 = [] ∧ (filesC n st acc).2.2 = false ∧ dirB (filesC n st acc).1 = true then ((filesC n st acc).1, 0) else ([], 2))
 | 0, i, st, acc, hi, hl, hb, hs => by
  refine Evt.step (fun k => by rw [dir_Take.l0]) (Evt.neg (by omega) ?_)
  unfold filesC le_Reader_Over.f
  simp only [B_toList]
  by_cases c1 : st.1 = []
  ·cases c2 : st.2 with
   | false =>
    refine Evt.bind' (if_pos c1) (Evt.pos rfl (Evt.bind (directory_ev acc ⟨by omega, hb⟩) ?_))
    cases dirB acc with
    | false => exact Evt.neg (by decide) (Evt.val' (by simp))
    | true => exact Evt.pos rfl (Evt.val' (by simp [c1]))
   | true => exact Evt.bind' (if_pos c1) (Evt.neg (by simp) (Evt.val' (by simp)))
  ·exact Evt.bind' (if_neg c1) (Evt.neg (by simp) (Evt.val' (by simp [c1])))
 | n + 1, i, st, acc, hi, hl, hb, hs => by
  have hfl := fileC_len st
  refine Evt.step (fun k => by rw [dir_Take.l0]) ?_
  refine Evt.pos (by omega) ?_
  refine Evt.bind (file_ev st) ?_
  refine Evt.pos (by omega) ?_
  simp only []
  rw [wrapU _ (by omega) (by omega), show (i : Int) + 1 = ((i + 1 : Nat) : Int) by push_cast; rfl]
  unfold filesC
  exact files_ev N hN n (i + 1) (fileC st).2 (acc ++ [(fileC st).1]) (by omega) (by rw [zO]; simp; omega) (fun f hf => by
   rcases List.mem_append.1 hf with hf | hf
   ·exact hb f hf
   ·rw [List.mem_singleton.1 hf]; exact fileC_bd st hs) (by omega)
theorem take_ev' (s : List UInt8) (h : s.length ≤ 100000) : Evt (fun k => dir_Take.f k (B s)) (takeV s) := by
 unfold dir_Take.f takeV
 refine Evt.bind' (take_f s (by omega)) ?_
 by_cases c : (unsV s).2 = 0
 ·rw [if_pos c]
  refine Evt.pos c ?_
  refine Evt.bind (number1 ((unsV s).1, false)) ?_
  have hu := unseal_len s
  have r1 := nm_range 1 (by decide) ((unsV s).1, false)
  have e1 : (256 ^ 1 : Nat) = 256 := rfl
  rw [e1] at r1
  have hm : (nm 1 ((unsV s).1, false)).1 = (((nm 1 ((unsV s).1, false)).1.toNat : Nat) : Int) := (Int.toNat_of_nonneg r1.1).symm
  simp only []
  rw [hm]
  have hnl := nm_len 1 ((unsV s).1, false)
  simp only [] at hnl
  exact files_ev _ (by omega) _ 0 _ [] (by omega) (by simp; omega) (fun f hf => nomatch hf) (by omega)
 ·rw [if_neg c]
  exact Evt.neg c (Evt.val _)
end Go.Proofs.YtcclaidbikjhiaaGreatDoor.Th
