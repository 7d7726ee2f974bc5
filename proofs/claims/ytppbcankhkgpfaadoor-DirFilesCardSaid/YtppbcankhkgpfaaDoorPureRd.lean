import Derived.RowKit
import Derived.Test.YtppbcankhkgpfaaDoorPDqx4
import Derived.Laws.BitsLemmas
import Derived.Test.YtppbcankhkgpfaaDoorPDqx5
import Derived.Test.YtppbcankhkgpfaaDoorPDqx17
import Derived.Test.YtppbcankhkgpfaaDoorPDqx20
import Derived.Test.YtppbcankhkgpfaaDoorPDqx27
import Derived.Test.YtppbcankhkgpfaaDoorPDqx28
import Derived.Test.YtppbcankhkgpfaaDoorPDqx12
import Derived.Test.YtppbcankhkgpfaaDoorPDqx21
import Derived.Test.YtppbcankhkgpfaaDoorPDqx22
import Derived.Lib.DecodeN
import Derived.Lib.ValidU
import Derived.Test.YtppbcankhkgpfaaDoorPDqx23
import Derived.Test.YtppbcankhkgpfaaDoorPDqx24
import Derived.Test.YtppbcankhkgpfaaDoorPDqx25
import Derived.Test.YtppbcankhkgpfaaDoorPDqx30
import Derived.Test.YtppbcankhkgpfaaDoorPDqx31
import Derived.Test.YtppbcankhkgpfaaDoorPDqx34
--compressed
namespace Go.Proofs.YtppbcankhkgpfaaDoor.Th
set_option linter.unusedVariables false
/-! Printed functions have rounds: what one tells from some number of rounds on. -/
def Evt {α : Type} (g : Nat → Option α) (v : α) : Prop := ∃ K, ∀ k, K ≤ k → g k = some v
theorem Evt.of {α : Type} {g : Nat → Option α} {v : α} (h : ∀ k, g k = some v) : Evt g v := ⟨0, fun k _ => h k⟩
theorem Evt.bind {α β : Type} {g : Nat → Option α} {h : Nat → α → Option β} {a : α} {b : β} (hg : Evt g a) (hh : Evt (fun k => h k a) b) : Evt (fun k => (g k).bind (h k)) b := by
 obtain ⟨K, hK⟩ := hg
 obtain ⟨L, hL⟩ := hh
 exact ⟨max K L, fun k hk => by show (g k).bind (h k) = some b; rw [hK k (by omega)]; exact hL k (by omega)⟩
theorem Evt.step {α : Type} {g g' : Nat → Option α} {v : α} (h : ∀ k, g' (k + 1) = g k) (hg : Evt g v) : Evt g' v := by
 obtain ⟨K, hK⟩ := hg
 refine ⟨K + 1, fun k hk => ?_⟩
 obtain ⟨j, rfl⟩ : ∃ j, k = j + 1 := ⟨k - 1, by omega⟩
 rw [h]
 exact hK j (by omega)
theorem Evt.congr {α : Type} {g g' : Nat → Option α} {v : α} (h : ∀ k, g' k = g k) (hg : Evt g v) : Evt g' v := by
 obtain ⟨K, hK⟩ := hg
 exact ⟨K, fun k hk => (h k).trans (hK k hk)⟩
theorem Evt.pos {α : Type} {c : Prop} [Decidable c] {g g' : Nat → Option α} {v : α} (hc : c) (h : Evt g v) : Evt (fun k => if c then g k else g' k) v := Evt.congr (fun k => if_pos hc) h
theorem Evt.neg {α : Type} {c : Prop} [Decidable c] {g g' : Nat → Option α} {v : α} (hc : ¬ c) (h : Evt g' v) : Evt (fun k => if c then g k else g' k) v := Evt.congr (fun k => if_neg hc) h
theorem Evt.val {α : Type} (v : α) : Evt (fun _ => some v) v := Evt.of fun _ => rfl
theorem Evt.val' {α : Type} {v v' : α} (h : v' = v) : Evt (fun _ => some v') v := Evt.of fun _ => by rw [h]
theorem Evt.get {α : Type} {g : Nat → Option α} {v : α} (h : Evt g v) : ∃ k, g k = some v := by
 obtain ⟨K, hK⟩ := h
 exact ⟨K, hK K (Nat.le_refl _)⟩
theorem Evt.bind' {α β : Type} {x : Option α} {h : Nat → α → Option β} {a : α} {b : β} (hg : x = some a) (hh : Evt (fun k => h k a) b) : Evt (fun k => x.bind (h k)) b := Evt.bind (Evt.of fun _ => hg) hh
theorem wrap64_id {n : Int} (h1 : -9223372036854775808 ≤ n) (h2 : n < 9223372036854775808) : Go.RowKit.wrap64 n = n := by unfold Go.RowKit.wrap64; omega
end Go.Proofs.YtppbcankhkgpfaaDoor.Th
namespace Go.Proofs.YtppbcankhkgpfaaDoor.Th
open Go.RowKit Go.Proofs.YtppbcankhkgpfaaDoor.PDq Go.Proofs.YtppbcankhkgpfaaDoorW.PrintWords Go.Proofs.YtppbcankhkgpfaaDoorW.PrintLast Go.Proofs.YtppbcankhkgpfaaDoorW.PrintMore
set_option linter.unusedVariables false
set_option linter.unusedSimpArgs false
/-! ### The sum, bit by bit -/
theorem wraps_u32 (n : Int) (h₀ : 0 ≤ n) (h₁ : n < 2 ^ 32) : IntKind.u32.wrap n = n := by rw [IntKind.wrap_u32]; omega
theorem bits_natX (k : IntKind) (j : Nat) (hj : j ≤ k.bits) (hk : ∀ n : Int, 0 ≤ n → n < 2 ^ j → k.wrap n = n) (a b : Nat) (ha : a < 2 ^ j) (hb : b < 2 ^ j) :
  bits .xor k a b = ((a ^^^ b : Nat) : Int) := by
 have hp : 2 ^ j ≤ 2 ^ k.bits := Nat.pow_le_pow_right (by decide) hj
 have ha' : a % 2 ^ k.bits = a := Nat.mod_eq_of_lt (Nat.lt_of_lt_of_le ha hp)
 have hb' : b % 2 ^ k.bits = b := Nat.mod_eq_of_lt (Nat.lt_of_lt_of_le hb hp)
 have cast : ∀ n : Nat, n < 2 ^ j → ((n : Nat) : Int) < 2 ^ j := fun n h => by exact_mod_cast h
 simp only [bits, BitVec.ofInt_natCast, BitVec.toNat_xor, BitVec.toNat_ofNat, ha', hb']
 exact hk _ (Int.natCast_nonneg _) (cast _ (Nat.xor_lt_two_pow ha hb))
theorem xor32 (a b : Nat) (ha : a < 4294967296) (hb : b < 4294967296) : bits .xor .u32 (a : Int) (b : Int) = ((a ^^^ b : Nat) : Int) := bits_natX .u32 32 (Nat.le_refl _) wraps_u32 a b ha hb
theorem and32 (a b : Nat) (ha : a < 4294967296) (hb : b < 4294967296) : bits .and .u32 (a : Int) (b : Int) = ((a &&& b : Nat) : Int) := (bits_nat .u32 32 (Nat.le_refl _) wraps_u32 a b ha hb).1
/-- One bit's step. -/
def cf (n : Nat) : Nat := (n / 2) ^^^ (if n % 2 = 1 then 3988292384 else 0)
theorem cf_lt {n : Nat} (h : n < 4294967296) : cf n < 4294967296 := by
 unfold cf
 refine Nat.xor_lt_two_pow (n := 32) (by show n / 2 < 4294967296; omega) ?_
 split <;> decide
theorem cf_even (m : Nat) : cf (2 * m) = m := by
 unfold cf
 rw [if_neg (by omega), show 2 * m / 2 = m by omega, Nat.xor_zero]
theorem xor_half (a b : Nat) : (a ^^^ b) / 2 = (a / 2) ^^^ (b / 2) := by
 have := Nat.shiftRight_xor_distrib (a := a) (b := b) (i := 1)
 rwa [Nat.shiftRight_eq_div_pow, Nat.shiftRight_eq_div_pow, Nat.shiftRight_eq_div_pow] at this
theorem xor_par (a b : Nat) : (a ^^^ b) % 2 = (a % 2 + b % 2) % 2 := by
 have h1 : (a ^^^ b) % 2 = (a % 2) ^^^ (b % 2) := Nat.xor_mod_two_pow (n := 1)
 rw [h1]
 rcases Nat.mod_two_eq_zero_or_one a with h | h <;> rcases Nat.mod_two_eq_zero_or_one b with k | k <;> rw [h, k] <;> decide
theorem xor_swap (a b c d : Nat) : (a ^^^ b) ^^^ (c ^^^ d) = (a ^^^ c) ^^^ (b ^^^ d) := by
 rw [Nat.xor_assoc, Nat.xor_assoc, ← Nat.xor_assoc b c d, ← Nat.xor_assoc c b d, Nat.xor_comm b c]
theorem cf_xor (a b : Nat) : cf (a ^^^ b) = cf a ^^^ cf b := by
 unfold cf
 rw [xor_half, xor_par, xor_swap]
 congr 1
 rcases Nat.mod_two_eq_zero_or_one a with h | h <;> rcases Nat.mod_two_eq_zero_or_one b with k | k <;> rw [h, k] <;> decide
def cfn : Nat → Nat → Nat
 | 0, n => n
 | j + 1, n => cf (cfn j n)
theorem cfn_lt {n : Nat} (h : n < 4294967296) : ∀ j, cfn j n < 4294967296
 | 0 => h
 | j + 1 => cf_lt (cfn_lt h j)
theorem cfn_xor (a b : Nat) : ∀ j, cfn j (a ^^^ b) = cfn j a ^^^ cfn j b
 | 0 => rfl
 | j + 1 => by
  show cf _ = cf _ ^^^ cf _
  rw [cfn_xor a b j, cf_xor]
theorem cfn_add (n : Nat) : ∀ i j, cfn (i + j) n = cfn i (cfn j n)
 | 0, j => by rw [Nat.zero_add]; rfl
 | i + 1, j => by rw [show i + 1 + j = (i + j) + 1 by omega]; show cf _ = cf _; rw [cfn_add n i j]
theorem cfn_shift (j m : Nat) : cfn j (2 ^ j * m) = m := by
 induction j generalizing m with
 | zero => show 2 ^ 0 * m = m; omega
 | succ j ih =>
  show cf (cfn j (2 ^ (j + 1) * m)) = m
  rw [show 2 ^ (j + 1) * m = 2 ^ j * (2 * m) by rw [Nat.pow_succ, Nat.mul_assoc], ih, cf_even]
theorem split_low (j n : Nat) : n = (2 ^ j * (n / 2 ^ j)) ^^^ (n % 2 ^ j) := by
 refine Nat.eq_of_testBit_eq fun i => ?_
 rw [Nat.testBit_xor, Nat.testBit_two_pow_mul, Nat.testBit_mod_two_pow, Nat.testBit_div_two_pow]
 by_cases h : j ≤ i
 ·rw [show i - j + j = i by omega]; simp [h, show ¬ i < j by omega]
 ·simp [h, show i < j by omega]
theorem cfn_low (j n : Nat) : cfn j n = (n / 2 ^ j) ^^^ cfn j (n % 2 ^ j) := by
 conv => lhs; rw [split_low j n]
 rw [cfn_xor, cfn_shift]
theorem crcS_cf (n : Nat) (h : n < 4294967296) : crcS (n : Int) = (cf n : Int) := by
 unfold crcS cf
 rw [show ((1 : Int)) = ((1 : Nat) : Int) from rfl, and32 n 1 h (by decide), Nat.and_one_is_mod]
 rcases Nat.mod_two_eq_zero_or_one n with k | k
 ·rw [k, if_neg (by decide)]
  rw [show bits .and .u32 3988292384 ((-(((0 : Nat)) : Int)) % 4294967296) = ((0 : Nat) : Int) by decide]
  rw [show ((n : Int) / 2) = ((n / 2 : Nat) : Int) by omega]
  exact xor32 _ _ (by omega) (by decide)
 ·rw [k, if_pos rfl]
  rw [show bits .and .u32 3988292384 ((-(((1 : Nat)) : Int)) % 4294967296) = ((3988292384 : Nat) : Int) by decide]
  rw [show ((n : Int) / 2) = ((n / 2 : Nat) : Int) by omega]
  exact xor32 _ _ (by omega) (by decide)
theorem crcI_cfn (n : Nat) (h : n < 4294967296) : ∀ j, crcI j (n : Int) = (cfn j n : Int)
 | 0 => rfl
 | j + 1 => by
  show crcS (crcI j n) = (cf (cfn j n) : Int)
  rw [crcI_cfn n h j, crcS_cf _ (cfn_lt h j)]
theorem crcH_cfn (n : Nat) (h : n < 4294967296) : crcH (n : Int) = (cfn 4 n : Int) := by
 unfold crcH crcT
 rw [show ((15 : Int)) = ((15 : Nat) : Int) from rfl, and32 n 15 h (by decide)]
 have h15 : n &&& 15 = n % 16 := Nat.and_two_pow_sub_one_eq_mod n 4
 rw [h15, Int.toNat_natCast, crcI_cfn _ (by omega), show ((n : Int) / 16) = ((n / 16 : Nat) : Int) by omega, xor32 _ _ (by omega) (cfn_lt (by omega) 4)]
 rw [cfn_low 4 n]
def crcB (r : Nat) (c : UInt8) : Nat := cfn 8 (r ^^^ c.toNat)
theorem u8_lt (c : UInt8) : c.toNat < 4294967296 := Nat.lt_of_lt_of_le c.toNat_lt (by decide)
theorem x_lt {a b : Nat} (ha : a < 4294967296) (hb : b < 4294967296) : a ^^^ b < 4294967296 := Nat.xor_lt_two_pow (n := 32) ha hb
theorem crcB_lt {r : Nat} (h : r < 4294967296) (c : UInt8) : crcB r c < 4294967296 := cfn_lt (x_lt h (u8_lt c)) 8
theorem crcN_B (r : Nat) (h : r < 4294967296) (c : UInt8) : crcN (r : Int) c = (crcB r c : Int) := by
 unfold crcN crcB
 have hx := x_lt h (u8_lt c)
 rw [xor32 _ _ h (u8_lt c), crcH_cfn _ hx, crcH_cfn _ (cfn_lt hx 4), ← cfn_add]
def sumN (l : List UInt8) : Nat := l.foldl crcB 4294967295
theorem foldB_lt (l : List UInt8) : ∀ r, r < 4294967296 → l.foldl crcB r < 4294967296 := by
 induction l with
 | nil => exact fun r h => h
 | cons c t ih => exact fun r h => ih _ (crcB_lt h c)
theorem foldN (l : List UInt8) : ∀ r : Nat, r < 4294967296 → l.foldl crcN (r : Int) = ((l.foldl crcB r : Nat) : Int) := by
 induction l with
 | nil => exact fun r h => rfl
 | cons c t ih =>
  intro r h
  show t.foldl crcN (crcN (r : Int) c) = _
  rw [crcN_B r h c, ih _ (crcB_lt h c)]
  rfl
/-- A text's sum. -/
def sumV (l : List UInt8) : Nat := 4294967295 ^^^ sumN l
theorem sumV_lt (l : List UInt8) : sumV l < 4294967296 := x_lt (by decide) (foldB_lt l _ (by decide))
theorem sum_f (s : ByteArray) (h : s.size ≤ 9223372036854775807) : seal_Sum.f s = some (sumV s.data.toList : Int) := by
 unfold seal_Sum.f sumF sumV sumN
 rw [if_pos h, show (4294967295 : Int) = ((4294967295 : Nat) : Int) from rfl, foldN _ _ (by decide), show IntKind.u32.max = ((4294967295 : Nat) : Int) by decide, xor32 _ _ (by decide) (foldB_lt _ _ (by decide))]
end Go.Proofs.YtppbcankhkgpfaaDoor.Th
namespace Go.Proofs.YtppbcankhkgpfaaDoor.Th
open Go.RowKit Go.Proofs.YtppbcankhkgpfaaDoor.PDq Go.Proofs.YtppbcankhkgpfaaDoorW.PrintWords Go.Proofs.YtppbcankhkgpfaaDoorW.PrintLast Go.Proofs.YtppbcankhkgpfaaDoorW.PrintMore
set_option linter.unusedVariables false
set_option linter.unusedSimpArgs false
/-! ### Texts as rows of bytes -/
def B (l : List UInt8) : ByteArray := ⟨l.toArray⟩
theorem B_size (l : List UInt8) : (B l).size = l.length := by simp [B, ByteArray.size]
theorem B_data (l : List UInt8) : (B l).data.toList = l := by simp [B]
theorem B_toList (l : List UInt8) : (B l).toList = l := by rw [Lib.toList_data]; exact B_data l
theorem B_of (s : ByteArray) : B s.data.toList = s := Lib.mk_data s
theorem B_append (a b : List UInt8) : B a ++ B b = B (a ++ b) := by
 apply ByteArray.ext
 simp [B]
theorem B_extract (l : List UInt8) (a b : Nat) : (B l).extract a b = B ((l.drop a).take (b - a)) := ByteArray.extract_mk l a b
theorem B_upto (l : List UInt8) (n : Nat) : (B l).extract 0 n = B (l.take n) := by rw [B_extract]; simp
theorem B_from (l : List UInt8) (n : Nat) : (B l).extract n (B l).size = B (l.drop n) := by
 rw [B_extract, B_size, List.take_of_length_le (by simp)]
theorem B_inj {a b : List UInt8} (h : B a = B b) : a = b := by rw [← B_data a, h, B_data]
theorem B_nil : (⟨#[]⟩ : ByteArray) = B [] := rfl
theorem bt_B (l : List UInt8) (i : Nat) (h : i < l.length) : bt (B l) (i : Int) = (l[i].toNat : Int) := by
 unfold bt
 rw [Int.toNat_natCast, dif_pos (by rw [B_size]; exact h)]
 rfl
/-! ### Numbers and bytes -/
theorem leNat_bound : ∀ l : List UInt8, Lib.leNat l < 256 ^ l.length
 | [] => by simp [Lib.leNat]
 | b :: r => by
  have h1 := leNat_bound r
  have h2 := b.toNat_lt
  show b.toNat + 256 * Lib.leNat r < 256 ^ (r.length + 1)
  rw [Nat.pow_succ]
  omega
theorem leBytes_leNat : ∀ l : List UInt8, Lib.leBytes l.length (Lib.leNat l) = l
 | [] => rfl
 | b :: r => by
  have h2 := b.toNat_lt
  show ((b.toNat + 256 * Lib.leNat r) % 256).toUInt8 :: Lib.leBytes r.length ((b.toNat + 256 * Lib.leNat r) / 256) = b :: r
  rw [show (b.toNat + 256 * Lib.leNat r) % 256 = b.toNat by omega, show (b.toNat + 256 * Lib.leNat r) / 256 = Lib.leNat r by omega, leBytes_leNat r]
  simp [Nat.toUInt8]
theorem wrapU (n : Int) (h0 : 0 ≤ n) (h : n < 18446744073709551616) : IntKind.u64.wrap n = n := by rw [IntKind.wrap_u64]; omega
theorem pow8 {m : Nat} (h : m ≤ 8) : 256 ^ m ≤ 18446744073709551616 := Nat.le_trans (Nat.pow_le_pow_right (by decide) h) (by decide)
theorem leNat_8 (l : List UInt8) (h : l.length ≤ 8) : (Lib.leNat l : Int) < 18446744073709551616 := by
 have h1 := leNat_bound l
 have h2 := pow8 h
 omega
theorem numL_leNat (l : List UInt8) (h : l.length ≤ 8) : numL (Lib.leNat l : Int) l.length = l := by
 unfold numL
 rw [wrapU _ (by omega) (leNat_8 l h), Int.toNat_natCast, leBytes_leNat]
theorem leNat_numL (n : Int) (m : Nat) (h0 : 0 ≤ n) (hm : m ≤ 8) (h : n < ((256 ^ m : Nat) : Int)) : (Lib.leNat (numL n m) : Int) = n := by
 unfold numL
 have := pow8 hm
 rw [wrapU _ h0 (by omega), Lib.leNat_leBytes _ _ (by omega)]
 omega
theorem numL_len (n : Int) (m : Nat) : (numL n m).length = m := numL_length n m
/-! ### What a reader takes -/
abbrev St := List UInt8 × Bool
def tx (m : Nat) (st : St) : List UInt8 × St := if st.2 = false ∧ m ≤ st.1.length then (st.1.take m, (st.1.drop m, false)) else ([], (st.1, true))
def nm (m : Nat) (st : St) : Int × St := ((Lib.leNat (tx m st).1 : Int), (tx m st).2)
theorem tx_len (m : Nat) (st : St) : (tx m st).1.length ≤ m ∧ (tx m st).2.1.length ≤ st.1.length ∧ (tx m st).1.length ≤ st.1.length := by
 unfold tx
 split
 ·simp only [List.length_take, List.length_drop]; omega
 ·simp
theorem nm_len (m : Nat) (st : St) : (nm m st).2.1.length ≤ st.1.length := (tx_len m st).2.1
theorem nm_range (m : Nat) (hm : m ≤ 8) (st : St) : 0 ≤ (nm m st).1 ∧ (nm m st).1 < 18446744073709551616 ∧ (nm m st).1 < ((256 ^ m : Nat) : Int) := by
 have h1 := (tx_len m st).1
 have h2 := leNat_bound (tx m st).1
 have h3 : 256 ^ (tx m st).1.length ≤ 256 ^ m := Nat.pow_le_pow_right (by decide) h1
 have h4 := pow8 hm
 unfold nm
 refine ⟨Int.natCast_nonneg _, ?_, ?_⟩
 ·show ((Lib.leNat (tx m st).1 : Nat) : Int) < _
  omega
 ·show ((Lib.leNat (tx m st).1 : Nat) : Int) < _
  omega
theorem text_ev (st : St) (m : Nat) : Evt (fun k => le_Reader_Text.f k (B st.1) st.2 (m : Int)) (B (tx m st).1, B (tx m st).2.1, (tx m st).2.2) := by
 obtain ⟨l, b⟩ := st
 unfold le_Reader_Text.f tx
 cases b with
 | true =>
  refine Evt.pos rfl (Evt.step (fun k => by rw [le_Reader_Text.j0]) (Evt.pos rfl (Evt.val' ?_)))
  rfl
 | false =>
  refine Evt.neg (by simp) (Evt.neg (by omega) (Evt.step (fun k => by rw [le_Reader_Text.j0]) ?_))
  by_cases h : m ≤ l.length
  ·refine Evt.neg (by simp only [B_size, decide_eq_true_eq]; omega) (Evt.pos (by omega) (Evt.pos (by rw [B_size]; show (m : Int) ≤ (l.length : Int); omega) (Evt.val' ?_)))
   simp only [Int.toNat_natCast, B_upto, B_from, h, and_self, if_true]
   rw [decide_eq_false (by rw [B_size]; omega)]
  ·refine Evt.pos (by simp only [B_size, decide_eq_true_eq]; omega) (Evt.val' ?_)
   simp only [h, and_false, if_false, B_nil]
   rw [decide_eq_true (by rw [B_size]; omega)]
theorem get_f (l : List UInt8) (h : l.length ≤ 8) : le_Get.f (B l) = some (Lib.leNat l : Int) := by
 unfold le_Get.f
 rw [if_pos (by rw [B_size]; omega), B_data, List.take_of_length_le h]
theorem number_ev (st : St) (m : Nat) (hm : m ≤ 8) : Evt (fun k => le_Reader_Number.f k (B st.1) st.2 (m : Int)) ((nm m st).1, B (nm m st).2.1, (nm m st).2.2) := by
 unfold le_Reader_Number.f
 refine Evt.neg (by omega) (Evt.step (fun k => by rw [le_Reader_Number.j0]) ?_)
 have h1 := (tx_len m st).1
 exact Evt.bind (text_ev st m) (Evt.bind' (get_f _ (by omega)) (Evt.val _))
theorem reftext_ev (st : St) (m : Nat) : Evt (fun k => rootcellarref2_Reader_Text.f k (B st.1) st.2 (m : Int)) (B (tx m st).1, B (tx m st).2.1, (tx m st).2.2) := by
 obtain ⟨l, b⟩ := st
 unfold rootcellarref2_Reader_Text.f tx
 cases b with
 | true =>
  refine Evt.pos rfl (Evt.step (fun k => by rw [rootcellarref2_Reader_Text.j0]) (Evt.pos rfl (Evt.val' ?_)))
  rfl
 | false =>
  refine Evt.neg (by simp) (Evt.neg (by omega) (Evt.step (fun k => by rw [rootcellarref2_Reader_Text.j0]) ?_))
  by_cases h : m ≤ l.length
  ·refine Evt.neg (by simp only [B_size, decide_eq_true_eq]; omega) (Evt.pos (by omega) (Evt.pos (by rw [B_size]; show (m : Int) ≤ (l.length : Int); omega) (Evt.val' ?_)))
   simp only [Int.toNat_natCast, B_upto, B_from, h, and_self, if_true]
  ·refine Evt.pos (by simp only [B_size, decide_eq_true_eq]; omega) (Evt.val' ?_)
   simp only [h, and_false, if_false, B_nil]
theorem refget_ev (l : List UInt8) (h : l.length ≤ 8) : Evt (fun k => rootcellarref2_Get.f k (B l)) (Lib.leNat l : Int) := by
 have key : ∀ i : Nat, i ≤ l.length → Evt (fun k => rootcellarref2_Get.l0 k (B l) (Lib.leNat (l.drop i) : Int) ((i : Int) - 1)) (Lib.leNat l : Int) := by
  intro i
  induction i with
  | zero =>
   intro _
   rw [List.drop_zero]
   refine Evt.step (g := fun k => _) (fun k => by rw [rootcellarref2_Get.l0]) ?_
   exact Evt.neg (by omega) (Evt.val _)
  | succ i ih =>
   intro hi
   refine Evt.step (fun k => by rw [rootcellarref2_Get.l0]) (Evt.pos (by push_cast; omega) (Evt.pos (by push_cast; omega) (Evt.pos (by rw [B_size]; push_cast; omega) ?_)))
   have hd : l.drop i = l[i] :: l.drop (i + 1) := List.drop_eq_getElem_cons (by omega)
   have hb := leNat_8 (l.drop i) (by simp; omega)
   have hn : Lib.leNat (l.drop i) = l[i].toNat + 256 * Lib.leNat (l.drop (i + 1)) := by rw [hd]; rfl
   have hbt : bt (B l) (((i + 1 : Nat) : Int) - 1) = (l[i].toNat : Int) := by rw [show (((i + 1 : Nat) : Int) - 1) = (i : Int) by push_cast; omega]; exact bt_B l i (by omega)
   rw [hbt, wrapU (_ * 256) (by omega) (by omega), wrapU (l[i].toNat : Int) (by omega) (by omega), wrapU _ (by omega) (by omega), show wrap64 (((i + 1 : Nat) : Int) - 1 - 1) = (i : Int) - 1 by rw [wrap64_id (by omega) (by omega)]; omega]
   have := ih (by omega)
   rw [hn] at this
   have e1 : ((l[i].toNat + 256 * Lib.leNat (l.drop (i + 1)) : Nat) : Int) = (Lib.leNat (l.drop (i + 1)) : Int) * 256 + (l[i].toNat : Int) := by omega
   rw [e1] at this
   exact this
 have := key l.length (Nat.le_refl _)
 rw [List.drop_length] at this
 unfold rootcellarref2_Get.f
 have hm : mn ((B l).size : Int) 8 = (l.length : Int) := by unfold mn; rw [B_size]; split <;> omega
 rw [hm]
 exact this
theorem refnumber_ev (st : St) (m : Nat) (hm : m ≤ 8) : Evt (fun k => rootcellarref2_Reader_Number.f k (B st.1) st.2 (m : Int)) ((nm m st).1, B (nm m st).2.1, (nm m st).2.2) := by
 unfold rootcellarref2_Reader_Number.f
 refine Evt.neg (by omega) ?_
 have h1 := (tx_len m st).1
 exact Evt.bind (reftext_ev st m) (Evt.bind (refget_ev _ (by omega)) (Evt.val _))
/-! ### The reference's numbers -/
theorem leBytes_snoc : ∀ (i n : Nat), Lib.leBytes (i + 1) n = Lib.leBytes i n ++ [(n / 256 ^ i % 256).toUInt8]
 | 0, n => by simp [Lib.leBytes]
 | i + 1, n => by
  show (n % 256).toUInt8 :: Lib.leBytes (i + 1) (n / 256) = (n % 256).toUInt8 :: Lib.leBytes i (n / 256) ++ _
  rw [leBytes_snoc i (n / 256), Nat.div_div_eq_div_mul, show 256 * 256 ^ i = 256 ^ (i + 1) by rw [Nat.pow_succ, Nat.mul_comm]]
  rfl
theorem refput_ev (n m : Nat) (hn : n < 18446744073709551616) (hm : m ≤ 8) : Evt (fun k => rootcellarref2_Put.f k (n : Int) (m : Int)) (B (Lib.leBytes m n)) := by
 have key : ∀ j i : Nat, i + j = m → ∀ xs : List Int, xs.length = i → strOfNums xs = B (Lib.leBytes i n) → Evt (fun k => rootcellarref2_Put.l0 k ((n / 256 ^ i : Nat) : Int) (m : Int) xs (i : Int)) (B (Lib.leBytes m n)) := by
  intro j
  induction j with
  | zero =>
   intro i hi xs hl hx
   obtain rfl : i = m := by omega
   exact Evt.step (fun k => by rw [rootcellarref2_Put.l0]) (Evt.neg (by omega) (Evt.val' hx))
  | succ j ih =>
   intro i hi xs hl hx
   have hd : n / 256 ^ i ≤ n := Nat.div_le_self _ _
   refine Evt.step (fun k => by rw [rootcellarref2_Put.l0]) (Evt.pos (by omega) (Evt.pos (by omega) (Evt.pos (by omega) ?_)))
   have e1 : ∀ q : Nat, q ≤ n → IntKind.u64.wrap (Int.tdiv (q : Int) 256) = ((q / 256 : Nat) : Int) := fun q hq => by
    rw [show Int.tdiv (q : Int) 256 = ((q / 256 : Nat) : Int) from rfl, wrapU _ (by omega) (by omega)]
   have e2 : ∀ q : Nat, (Int.tmod (q : Int) 256) % 256 = ((q % 256 : Nat) : Int) := fun q => by
    rw [show Int.tmod (q : Int) 256 = ((q % 256 : Nat) : Int) from rfl]; omega
   have e3 : n / 256 ^ i / 256 = n / 256 ^ (i + 1) := by rw [Nat.pow_succ, Nat.div_div_eq_div_mul]
   rw [e1 _ hd, e2, e3, wrap64_id (by omega) (by omega), show (i : Int) + 1 = ((i + 1 : Nat) : Int) by push_cast; rfl]
   refine ih (i + 1) (by omega) _ (by simp [hl]) ?_
   rw [leBytes_snoc]
   unfold strOfNums B at hx ⊢
   have hx2 : xs.map (fun n => UInt8.ofNat n.toNat) = Lib.leBytes i n := by
    have := congrArg (fun b : ByteArray => b.data.toList) hx
    simpa using this
   rw [List.map_append, hx2]
   rfl
 unfold rootcellarref2_Put.f
 have := key m 0 (by omega) [] rfl rfl
 simpa using this
theorem refputw_ev (x : Int) (m : Nat) (hm : m ≤ 8) : Evt (fun k => rootcellarref2_Put.f k (IntKind.u64.wrap x) (m : Int)) (B (numL x m)) := by
 unfold numL
 have h : 0 ≤ IntKind.u64.wrap x ∧ IntKind.u64.wrap x < 18446744073709551616 := by rw [IntKind.wrap_u64]; omega
 have := refput_ev (IntKind.u64.wrap x).toNat m (by omega) hm
 rwa [Int.toNat_of_nonneg h.1] at this
theorem put_f (x : Int) (m : Nat) (hm : m ≤ 8) : le_Put.f (IntKind.u64.wrap x) (m : Int) = some (B (numL x m)) := numL_put x m hm
/-! ### The reference's sum -/
theorem cfn_cf (n : Nat) : ∀ j, cfn j (cf n) = cfn (j + 1) n := fun j => (cfn_add n j 1).symm
theorem refbits_ev (s : ByteArray) (x4 : Int) (h4 : 0 ≤ x4 ∧ x4 < 4611686018427387904) (v : Int) : ∀ n : Nat, ∀ (i r c : Nat), i + n = 8 → r < 4294967296 → c < 2 ^ n →
  Evt (fun k => rootcellarref3_Sum.l0 k s ((cfn n (r ^^^ c) : Nat) : Int) (x4 + 1)) v → Evt (fun k => rootcellarref3_Sum.l1 k s (r : Int) x4 (c : Int) (i : Int)) v := by
 intro n
 induction n with
 | zero =>
  intro i r c hi hr hc hv
  obtain rfl : c = 0 := by omega
  rw [Nat.xor_zero] at hv
  refine Evt.step (fun k => by rw [rootcellarref3_Sum.l1]) (Evt.neg (by omega) ?_)
  rw [wrap64_id (by omega) (by omega)]
  exact hv
 | succ n ih =>
  intro i r c hi hr hc hv
  have hp : 2 ^ (n + 1) ≤ 2 ^ 8 := Nat.pow_le_pow_right (by decide) (by omega)
  have hc2 : c < 4294967296 := by omega
  have hx : r ^^^ c < 4294967296 := x_lt hr hc2
  have hcn : c / 2 < 2 ^ n := by rw [Nat.pow_succ] at hc; omega
  refine Evt.step (fun k => by rw [rootcellarref3_Sum.l1]) (Evt.pos (by omega) ?_)
  have t1 : (Int.tdiv (r : Int) 2) % 4294967296 = ((r / 2 : Nat) : Int) := by
   have : Int.tdiv (r : Int) 2 = ((r / 2 : Nat) : Int) := rfl
   rw [this]; omega
  have t2 : (Int.tdiv (c : Int) 2) % 4294967296 = ((c / 2 : Nat) : Int) := by
   have : Int.tdiv (c : Int) 2 = ((c / 2 : Nat) : Int) := rfl
   rw [this]; omega
  rw [xor32 _ _ hr hc2, show (1 : Int) = ((1 : Nat) : Int) from rfl, and32 _ _ hx (by decide), Nat.and_one_is_mod, t1, t2, show wrap64 ((i : Int) + ((1 : Nat) : Int)) = ((i + 1 : Nat) : Int) by rw [wrap64_id (by omega) (by omega)]; push_cast; rfl]
  rw [← cfn_cf] at hv
  by_cases hb : (r ^^^ c) % 2 = 1
  ·refine Evt.pos (by omega) ?_
   rw [show (3988292384 : Int) = ((3988292384 : Nat) : Int) from rfl, xor32 _ _ (by omega) (by decide)]
   refine ih (i + 1) _ (c / 2) (by omega) (x_lt (by omega) (by decide)) hcn ?_
   have : cf (r ^^^ c) = (r / 2 ^^^ 3988292384) ^^^ (c / 2) := by
    unfold cf
    rw [if_pos hb, xor_half, Nat.xor_assoc, Nat.xor_comm (c / 2), ← Nat.xor_assoc]
   rwa [this] at hv
  ·refine Evt.neg (by omega) ?_
   refine ih (i + 1) _ (c / 2) (by omega) (by omega) hcn ?_
   have : cf (r ^^^ c) = (r / 2) ^^^ (c / 2) := by
    unfold cf
    rw [if_neg hb, xor_half, Nat.xor_zero]
   rwa [this] at hv
theorem refsum_ev (l : List UInt8) (h : l.length ≤ 4611686018427387900) : Evt (fun k => rootcellarref3_Sum.f k (B l)) (sumV l : Int) := by
 have key : ∀ (t d : List UInt8) (r : Nat), l = d ++ t → r < 4294967296 → Evt (fun k => rootcellarref3_Sum.l0 k (B l) (r : Int) (d.length : Int)) ((t.foldl crcB r ^^^ 4294967295 : Nat) : Int) := by
  intro t
  induction t with
  | nil =>
   intro d r hd hr
   rw [List.append_nil] at hd
   subst hd
   refine Evt.step (fun k => by rw [rootcellarref3_Sum.l0]) (Evt.neg (by rw [B_size]; omega) (Evt.val' ?_))
   exact xor32 _ _ hr (by decide)
  | cons c t ih =>
   intro d r hd hr
   have hlen : l.length = d.length + (t.length + 1) := by rw [hd]; simp
   have hb : bt (B l) (d.length : Int) = (c.toNat : Int) := by
    rw [bt_B l d.length (by omega)]
    simp [hd]
   refine Evt.step (fun k => by rw [rootcellarref3_Sum.l0]) (Evt.pos (by rw [B_size]; omega) (Evt.pos (by omega) ?_))
   have hc := c.toNat_lt
   rw [hb, show (c.toNat : Int) % 4294967296 = (c.toNat : Int) by omega]
   refine refbits_ev (B l) _ ⟨by omega, by omega⟩ _ 8 0 r c.toNat rfl hr (by simpa using hc) ?_
   have := ih (d ++ [c]) (crcB r c) (by rw [hd]; simp) (crcB_lt hr c)
   rw [List.length_append] at this
   exact this
 have := key l [] 4294967295 rfl (by decide)
 unfold rootcellarref3_Sum.f sumV
 rw [Nat.xor_comm]
 exact this
/-! ### Sealed texts -/
def sealV (l : List UInt8) : List UInt8 := l ++ Lib.leBytes 4 (sumV l)
def unsV (l : List UInt8) : List UInt8 × Int := if l.length < 4 then ([], 10) else if Lib.leNat (l.drop (l.length - 4)) = sumV (l.take (l.length - 4)) then (l.take (l.length - 4), 0) else ([], 9)
theorem sealV_len (l : List UInt8) : (sealV l).length = l.length + 4 := by unfold sealV; rw [List.length_append, Lib.leBytes_length]
theorem numS (l : List UInt8) : numL (sumV l : Int) 4 = Lib.leBytes 4 (sumV l) := by
 unfold numL
 have := sumV_lt l
 rw [wrapU _ (by omega) (by omega), Int.toNat_natCast]
theorem seal_a1 (l : List UInt8) (h : l.length ≤ 4611686018427387900) : seal_Sum.f (B l) = some (sumV l : Int) := by
 have := sum_f (B l) (by rw [B_size]; omega)
 rwa [B_data] at this
theorem seal_a2 (l : List UInt8) : le_Put.f (IntKind.u64.wrap (sumV l : Int)) 4 = some (B (numL (sumV l : Int) 4)) := put_f _ 4 (by decide)
theorem seal_a3 (l : List UInt8) (h : l.length ≤ 4611686018427387900) : (B l).size + (B (numL (sumV l : Int) 4)).size ≤ 9223372036854775807 := by rw [B_size, B_size, numL_len]; omega
theorem seal_a4 (l : List UInt8) : B l ++ B (numL (sumV l : Int) 4) = B (sealV l) := by rw [B_append, numS, sealV]
theorem seal_f (l : List UInt8) (h : l.length ≤ 4611686018427387900) : seal_Put.f (B l) = some (B (sealV l)) := by
 unfold seal_Put.f
 exact Option.bind_eq_some_iff.2 ⟨_, seal_a1 l h, Option.bind_eq_some_iff.2 ⟨_, seal_a2 l, by rw [if_pos (seal_a3 l h), seal_a4]⟩⟩
theorem refseal_ev (l : List UInt8) (h : l.length ≤ 4611686018427387900) : Evt (fun k => rootcellarref3_Put.f k (B l)) (B (sealV l)) := by
 unfold rootcellarref3_Put.f
 refine Evt.bind (refsum_ev l h) (Evt.bind (refputw_ev _ 4 (by decide)) (Evt.pos (by rw [B_size, B_size, numL_len]; omega) (Evt.val' ?_)))
 rw [B_append, numS]
 rfl
theorem leNat_sum (l : List UInt8) : Lib.leNat (Lib.leBytes 4 (sumV l)) = sumV l := Lib.leNat_leBytes _ _ (sumV_lt l)
theorem unseal_seal (l : List UInt8) : unsV (sealV l) = (l, 0) := by
 unfold unsV
 rw [if_neg (by rw [sealV_len]; omega), sealV_len, show l.length + 4 - 4 = l.length by omega]
 have h1 : (sealV l).take l.length = l := by unfold sealV; simp
 have h2 : (sealV l).drop l.length = Lib.leBytes 4 (sumV l) := by unfold sealV; simp
 rw [h1, h2, leNat_sum, if_pos rfl]
theorem seal_unseal {s : List UInt8} (h : (unsV s).2 = 0) : s = sealV (unsV s).1 := by
 unfold unsV at h ⊢
 split at h
 ·cases h
 ·split at h
  ·rename_i h1 h2
   rw [if_neg h1, if_pos h2]
   show s = s.take (s.length - 4) ++ Lib.leBytes 4 (sumV (s.take (s.length - 4)))
   rw [← h2]
   have : (s.drop (s.length - 4)).length = 4 := by rw [List.length_drop]; omega
   have h3 := leBytes_leNat (s.drop (s.length - 4))
   rw [this] at h3
   rw [h3, List.take_append_drop]
  ·cases h
theorem unseal_err {s : List UInt8} (h : (unsV s).2 ≠ 0) : unsV s = ([], 10) ∨ unsV s = ([], 9) := by
 unfold unsV at h ⊢
 split at h
 ·rename_i h1; rw [if_pos h1]; exact .inl rfl
 ·split at h
  ·exact absurd rfl h
  ·rename_i h1 h2; rw [if_neg h1, if_neg h2]; exact .inr rfl
theorem unseal_len (s : List UInt8) : (unsV s).1.length ≤ s.length := by
 unfold unsV
 split
 ·simp
 ·split
  ·simp
  ·simp
theorem take_f (l : List UInt8) (h : l.length ≤ 4611686018427387900) : seal_Take.f (B l) = some (B (unsV l).1, (unsV l).2) := by
 unfold seal_Take.f unsV
 have hw : wrap64 (((B l).size : Int) - 4) = (l.length : Int) - 4 := by rw [B_size, wrap64_id (by omega) (by omega)]
 rw [hw]
 by_cases h1 : l.length < 4
 ·rw [if_pos (by omega), if_pos h1]
  rfl
 ·have hn : ((l.length : Int) - 4).toNat = l.length - 4 := by omega
  rw [if_neg (by omega), if_pos (by omega), if_pos (by rw [B_size]; omega), if_neg h1, hn, B_from, B_upto, get_f _ (by rw [List.length_drop]; omega), sum_f _ (by rw [B_size, List.length_take]; omega), B_data]
  simp only [Option.bind_some]
  have hs := sumV_lt (l.take (l.length - 4))
  rw [wrapU _ (by omega) (by omega)]
  by_cases h2 : Lib.leNat (l.drop (l.length - 4)) = sumV (l.take (l.length - 4))
  ·rw [if_pos (by omega), if_pos h2]
  ·rw [if_neg (by omega), if_neg h2]
   rfl
theorem reftake_ev (l : List UInt8) (h : l.length ≤ 4611686018427387900) : Evt (fun k => rootcellarref3_Take.f k (B l)) (B (unsV l).1, (unsV l).2) := by
 unfold rootcellarref3_Take.f
 have hw : wrap64 (((B l).size : Int) - 4) = (l.length : Int) - 4 := by rw [B_size, wrap64_id (by omega) (by omega)]
 rw [hw]
 by_cases h1 : l.length < 4
 ·refine Evt.pos (by rw [B_size]; omega) (Evt.val' ?_)
  unfold unsV
  rw [if_pos h1]
  rfl
 ·have hn : ((l.length : Int) - 4).toNat = l.length - 4 := by omega
  refine Evt.neg (by rw [B_size]; omega) (Evt.pos (by omega) (Evt.pos (by rw [B_size]; omega) ?_))
  rw [hn, B_upto]
  refine Evt.bind (refseal_ev _ (by rw [List.length_take]; omega)) ?_
  unfold unsV
  rw [if_neg h1]
  by_cases h2 : Lib.leNat (l.drop (l.length - 4)) = sumV (l.take (l.length - 4))
  ·refine Evt.pos ?_ (Evt.val' (by rw [if_pos h2]))
   rw [B_toList, B_toList]
   unfold sealV
   rw [← h2]
   have : (l.drop (l.length - 4)).length = 4 := by rw [List.length_drop]; omega
   have h3 := leBytes_leNat (l.drop (l.length - 4))
   rw [this] at h3
   rw [h3, List.take_append_drop]
  ·refine Evt.neg ?_ (Evt.val' (by rw [if_neg h2]; rfl))
   rw [B_toList, B_toList]
   intro he
   apply h2
   have := congrArg (List.drop (l.length - 4)) he
   unfold sealV at this
   rw [List.drop_left' (by rw [List.length_take]; omega)] at this
   rw [← this, leNat_sum]
end Go.Proofs.YtppbcankhkgpfaaDoor.Th
namespace Go.Proofs.YtppbcankhkgpfaaDoor.Th
open Go.RowKit Go.Proofs.YtppbcankhkgpfaaDoor.PDq Go.Proofs.YtppbcankhkgpfaaDoorW.PrintWords Go.Proofs.YtppbcankhkgpfaaDoorW.PrintLast Go.Proofs.YtppbcankhkgpfaaDoorW.PrintMore
set_option linter.unusedVariables false
set_option linter.unusedSimpArgs false
/-! ### Runes of a row of bytes -/
def g8 (l : List UInt8) (i : Nat) : Nat := (l.getD i 0).toNat
theorem g8_lt (l : List UInt8) (i : Nat) : g8 l i < 256 := (l.getD i 0).toNat_lt
def dec (l : List UInt8) : Nat × Nat := Lib.decodeN l.length (g8 l 0) (g8 l 1) (g8 l 2) (g8 l 3)
theorem get_g (s : ByteArray) (p i : Nat) : (s.get! (p + i)).toNat = g8 (s.data.toList.drop p) i := by
 unfold g8
 obtain ⟨⟨l⟩⟩ := s
 have : (ByteArray.mk ⟨l⟩).get! (p + i) = l.getD (p + i) 0 := by
  show (Array.mk l)[p + i]! = _
  simp [List.getD_eq_getElem?_getD, Array.getElem!_eq_getD]
  rfl
 rw [this]
 simp [List.getD_eq_getElem?_getD]
theorem decode_dec (s : ByteArray) (p : Nat) : Utf8.decode s p = dec (s.data.toList.drop p) := by
 rw [Lib.decode_at]
 have e0 := get_g s p 0
 rw [Nat.add_zero] at e0
 rw [e0, get_g, get_g, get_g]
 unfold dec
 rw [List.length_drop]
 rfl
theorem decodeL_dec (l : List UInt8) : Lib.decodeL l = dec l := by
 unfold Lib.decodeL
 rw [decode_dec]
 simp
theorem g8_get (l : List UInt8) (i : Nat) (h : i < l.length) : g8 l i = l[i].toNat := by
 unfold g8
 rw [List.getD_eq_getElem?_getD, List.getElem?_eq_getElem h]
 rfl
theorem bt_g (l : List UInt8) (i : Nat) : bt (B l) (i : Int) = (g8 l i : Int) := by
 by_cases h : i < l.length
 ·rw [bt_B l i h, g8_get l i h]
 ·unfold bt g8
  rw [Int.toNat_natCast, dif_neg (by rw [B_size]; exact h), List.getD_eq_getElem?_getD, List.getElem?_eq_none (by omega)]
  rfl
theorem decN_cases (n b0 b1 b2 b3 : Nat) (h0 : b0 < 256) (h1 : b1 < 256) (h2 : b2 < 256) (h3 : b3 < 256) :
  (b0 < 128 ∧ Lib.decodeN n b0 b1 b2 b3 = (b0, 1)) ∨ (128 ≤ b0 ∧ Lib.decodeN n b0 b1 b2 b3 = (65533, 1)) ∨
  (128 ≤ b0 ∧ 128 ≤ b1 ∧ 1 < n ∧ 128 ≤ (Lib.decodeN n b0 b1 b2 b3).1 ∧ ((Lib.decodeN n b0 b1 b2 b3).2 = 2 ∨ 128 ≤ b2 ∧ 2 < n ∧ ((Lib.decodeN n b0 b1 b2 b3).2 = 3 ∨ 128 ≤ b3 ∧ 3 < n ∧ (Lib.decodeN n b0 b1 b2 b3).2 = 4))) := by
 unfold Lib.decodeN
 repeat' split
 all_goals first | (refine .inl ⟨by omega, rfl⟩) | (refine .inr (.inl ⟨by omega, rfl⟩)) | (refine .inr (.inr ⟨by omega, by omega, by omega, by simp only []; omega, .inl rfl⟩)) | (refine .inr (.inr ⟨by omega, by omega, by omega, by simp only []; omega, .inr ⟨by omega, by omega, .inl rfl⟩⟩)) | (refine .inr (.inr ⟨by omega, by omega, by omega, by simp only []; omega, .inr ⟨by omega, by omega, .inr ⟨by omega, by omega, rfl⟩⟩⟩))
theorem dec_cases (l : List UInt8) : (g8 l 0 < 128 ∧ dec l = (g8 l 0, 1)) ∨ (128 ≤ g8 l 0 ∧ dec l = (65533, 1)) ∨ (128 ≤ (dec l).1 ∧ 2 ≤ (dec l).2 ∧ (dec l).2 ≤ l.length ∧ ∀ i, i < (dec l).2 → 128 ≤ g8 l i) := by
 rcases decN_cases l.length (g8 l 0) (g8 l 1) (g8 l 2) (g8 l 3) (g8_lt l 0) (g8_lt l 1) (g8_lt l 2) (g8_lt l 3) with h | h | ⟨h0, h1, hn, hr, h⟩
 ·exact .inl h
 ·exact .inr (.inl h)
 ·refine .inr (.inr ?_)
  show 128 ≤ (dec l).1 ∧ _
  change 128 ≤ (dec l).1 at hr
  change (dec l).2 = 2 ∨ _ at h
  refine ⟨hr, ?_⟩
  rcases h with h | ⟨h2, hn2, h⟩
  ·refine ⟨by omega, by omega, fun i hi => ?_⟩
   rw [h] at hi
   rcases (show i = 0 ∨ i = 1 by omega) with rfl | rfl <;> assumption
  ·change (dec l).2 = 3 ∨ _ at h
   rcases h with h | ⟨h3, hn3, h⟩
   ·refine ⟨by omega, by omega, fun i hi => ?_⟩
    rw [h] at hi
    rcases (show i = 0 ∨ i = 1 ∨ i = 2 by omega) with rfl | rfl | rfl <;> assumption
   ·change (dec l).2 = 4 at h
    refine ⟨by omega, by omega, fun i hi => ?_⟩
    rw [h] at hi
    rcases (show i = 0 ∨ i = 1 ∨ i = 2 ∨ i = 3 by omega) with rfl | rfl | rfl | rfl <;> assumption
theorem dec_width (l : List UInt8) (h : 0 < l.length) : 1 ≤ (dec l).2 ∧ (dec l).2 ≤ l.length := by
 rcases dec_cases l with ⟨_, e⟩ | ⟨_, e⟩ | ⟨_, h1, h2, _⟩
 ·rw [e]; exact ⟨Nat.le_refl _, h⟩
 ·rw [e]; exact ⟨Nat.le_refl _, h⟩
 ·omega
/-! ### The reference's rune -/
def more (n i b : Nat) : Prop := i < n ∧ 128 ≤ b ∧ b ≤ 191
instance (n i b : Nat) : Decidable (more n i b) := inferInstanceAs (Decidable (_ ∧ _ ∧ _))
theorem more_f (l : List UInt8) (i : Nat) : rootcellarref1_more.f (B l) (i : Int) = some (decide (more l.length i (g8 l i))) := by
 unfold rootcellarref1_more.f more
 rw [B_size, bt_g]
 by_cases h1 : i < l.length
 ·rw [if_pos (by omega), if_pos (by omega)]
  by_cases h2 : 128 ≤ g8 l i
  ·rw [if_pos (by omega)]
   simp [h1, h2]
   omega
  ·rw [if_neg (by omega)]
   simp [h1, h2]
 ·rw [if_neg (by omega)]
  simp [h1]
def r4 (n b0 b1 b2 b3 : Nat) : Int × Int :=
 if 240 ≤ b0 ∧ b0 ≤ 244 ∧ more n 1 b1 ∧ more n 2 b2 ∧ more n 3 b3 then
  (if 65536 ≤ ((b0 : Int) - 240) * 262144 + ((b1 : Int) - 128) * 4096 + ((b2 : Int) - 128) * 64 + b3 - 128 ∧ ((b0 : Int) - 240) * 262144 + ((b1 : Int) - 128) * 4096 + ((b2 : Int) - 128) * 64 + b3 - 128 ≤ 1114111 then (((b0 : Int) - 240) * 262144 + ((b1 : Int) - 128) * 4096 + ((b2 : Int) - 128) * 64 + b3 - 128, 4) else (-1, 1)) else (-1, 1)
def r3 (n b0 b1 b2 b3 : Nat) : Int × Int :=
 if 224 ≤ b0 ∧ b0 ≤ 239 ∧ more n 1 b1 ∧ more n 2 b2 then
  (if 2048 ≤ ((b0 : Int) - 224) * 4096 + ((b1 : Int) - 128) * 64 + b2 - 128 ∧ ¬ (55296 ≤ ((b0 : Int) - 224) * 4096 + ((b1 : Int) - 128) * 64 + b2 - 128 ∧ ((b0 : Int) - 224) * 4096 + ((b1 : Int) - 128) * 64 + b2 - 128 ≤ 57343) then (((b0 : Int) - 224) * 4096 + ((b1 : Int) - 128) * 64 + b2 - 128, 3) else r4 n b0 b1 b2 b3) else r4 n b0 b1 b2 b3
def r2 (n b0 b1 b2 b3 : Nat) : Int × Int := if 194 ≤ b0 ∧ b0 ≤ 223 ∧ more n 1 b1 then (((b0 : Int) - 192) * 64 + b1 - 128, 2) else r3 n b0 b1 b2 b3
def r1 (n b0 b1 b2 b3 : Nat) : Int × Int := if b0 < 128 then ((b0 : Int), 1) else r2 n b0 b1 b2 b3
def rq (d : Nat × Nat) : Int × Int := if d.1 = 65533 ∧ d.2 = 1 then (-1, 1) else ((d.1 : Int), (d.2 : Int))
theorem rq_w (x n : Nat) (h : n ≠ 1) : rq (x, n) = ((x : Int), (n : Int)) := if_neg (fun k => h k.2)
theorem rq_bad : rq (65533, 1) = (-1, 1) := rfl
theorem rq_low (b : Nat) (h : b < 128) : rq (b, 1) = ((b : Int), 1) := if_neg (fun k => by have := k.1; simp only [] at this; omega)
/-- What the reference tells of a beginning. -/
def rr (l : List UInt8) : Int × Int := rq (dec l)
set_option maxHeartbeats 4000000 in
theorem r1_rr (n b0 b1 b2 b3 : Nat) (h0 : b0 < 256) (h1 : b1 < 256) (h2 : b2 < 256) (h3 : b3 < 256) :
  r1 n b0 b1 b2 b3 = rq (Lib.decodeN n b0 b1 b2 b3) := by
 unfold r1 r2 r3 r4 more Lib.decodeN
 by_cases c0 : b0 < 128
 ·rw [if_pos c0, if_pos c0, rq_low b0 c0]
 ·rw [if_neg c0, if_neg c0]
  by_cases c2 : b0 / 32 = 6 ∧ (1 < n ∧ b1 / 64 = 2)
  ·rw [if_pos c2]
   by_cases d2 : b0 % 32 * 64 + b1 % 64 ≥ 128
   ·rw [if_pos d2, rq_w _ _ (by decide)]
    repeat' split
    all_goals first | rfl | (exfalso; omega) | (refine Prod.ext ?_ ?_ <;> (try simp only []) <;> omega)
   ·rw [if_neg d2, rq_bad]
    repeat' split
    all_goals first | rfl | (exfalso; omega) | (refine Prod.ext ?_ ?_ <;> (try simp only []) <;> omega)
  ·rw [if_neg c2]
   by_cases c3 : b0 / 16 = 14 ∧ (1 < n ∧ b1 / 64 = 2) ∧ (2 < n ∧ b2 / 64 = 2)
   ·rw [if_pos c3]
    by_cases d3 : b0 % 16 * 4096 + b1 % 64 * 64 + b2 % 64 ≥ 2048 ∧ (b0 % 16 * 4096 + b1 % 64 * 64 + b2 % 64 < 55296 ∨ (57344 ≤ b0 % 16 * 4096 + b1 % 64 * 64 + b2 % 64 ∧ b0 % 16 * 4096 + b1 % 64 * 64 + b2 % 64 ≤ 1114111))
    ·rw [if_pos d3, rq_w _ _ (by decide)]
     repeat' split
     all_goals first | rfl | (exfalso; omega) | (refine Prod.ext ?_ ?_ <;> (try simp only []) <;> omega)
    ·rw [if_neg d3, rq_bad]
     repeat' split
     all_goals first | rfl | (exfalso; omega) | (refine Prod.ext ?_ ?_ <;> (try simp only []) <;> omega)
   ·rw [if_neg c3]
    by_cases c4 : b0 / 8 = 30 ∧ (1 < n ∧ b1 / 64 = 2) ∧ (2 < n ∧ b2 / 64 = 2) ∧ (3 < n ∧ b3 / 64 = 2)
    ·rw [if_pos c4]
     by_cases d4 : b0 % 8 * 262144 + b1 % 64 * 4096 + b2 % 64 * 64 + b3 % 64 ≥ 65536 ∧ (b0 % 8 * 262144 + b1 % 64 * 4096 + b2 % 64 * 64 + b3 % 64 < 55296 ∨ (57344 ≤ b0 % 8 * 262144 + b1 % 64 * 4096 + b2 % 64 * 64 + b3 % 64 ∧ b0 % 8 * 262144 + b1 % 64 * 4096 + b2 % 64 * 64 + b3 % 64 ≤ 1114111))
     ·rw [if_pos d4, rq_w _ _ (by decide)]
      repeat' split
      all_goals first | rfl | (exfalso; omega) | (refine Prod.ext ?_ ?_ <;> (try simp only []) <;> omega)
     ·rw [if_neg d4, rq_bad]
      repeat' split
      all_goals first | rfl | (exfalso; omega) | (refine Prod.ext ?_ ?_ <;> (try simp only []) <;> omega)
    ·rw [if_neg c4, rq_bad]
     repeat' split
     all_goals first | rfl | (exfalso; omega) | (refine Prod.ext ?_ ?_ <;> (try simp only []) <;> omega)
theorem rune_ev (l : List UInt8) (h : 0 < l.length) : Evt (fun k => rootcellarref1_Rune.f k (B l)) (rr l) := by
 have hr : rr l = r1 l.length (g8 l 0) (g8 l 1) (g8 l 2) (g8 l 3) := (r1_rr l.length _ _ _ _ (g8_lt l 0) (g8_lt l 1) (g8_lt l 2) (g8_lt l 3)).symm
 have g0 := g8_lt l 0
 have g1 := g8_lt l 1
 have g2 := g8_lt l 2
 have g3 := g8_lt l 3
 have t0 : bt (B l) 0 = (g8 l 0 : Int) := bt_g l 0
 have t1 : bt (B l) 1 = (g8 l 1 : Int) := bt_g l 1
 have t2 : bt (B l) 2 = (g8 l 2 : Int) := bt_g l 2
 have t3 : bt (B l) 3 = (g8 l 3 : Int) := bt_g l 3
 have m1 : rootcellarref1_more.f (B l) 1 = _ := more_f l 1
 have m2 : rootcellarref1_more.f (B l) 2 = _ := more_f l 2
 have m3 : rootcellarref1_more.f (B l) 3 = _ := more_f l 3
 rw [hr]
 generalize g8 l 0 = b0 at *
 generalize g8 l 1 = b1 at *
 generalize g8 l 2 = b2 at *
 generalize g8 l 3 = b3 at *
 have w0 : wrap64 (bt (B l) 0) = (b0 : Int) := by rw [t0, wrap64_id (by omega) (by omega)]
 have e4f : Evt (fun k => rootcellarref1_Rune.j4 k (B l) (b0 : Int) false) (-1, 1) := Evt.step (fun k => by rw [rootcellarref1_Rune.j4]) (Evt.neg (by decide) (Evt.val _))
 have e4 : Evt (fun k => rootcellarref1_Rune.j3 k (B l) (b0 : Int)) (r4 l.length b0 b1 b2 b3) := by
  refine Evt.step (fun k => by rw [rootcellarref1_Rune.j3]) ?_
  unfold r4
  by_cases c1 : 240 ≤ b0
  ·refine Evt.pos (by omega) ?_
   by_cases c2 : b0 ≤ 244
   ·refine Evt.pos (by omega) (Evt.bind' m1 ?_)
    by_cases d1 : more l.length 1 b1
    ·refine Evt.pos (by simp [d1]) (Evt.bind' m2 ?_)
     by_cases d2 : more l.length 2 b2
     ·refine Evt.pos (by simp [d2]) (Evt.bind' m3 ?_)
      by_cases d3 : more l.length 3 b3
      ·have a1 := d1.1
       have a2 := d2.1
       have a3 := d3.1
       rw [decide_eq_true d3, if_pos ⟨c1, c2, d1, d2, d3⟩]
       obtain ⟨_, _, _⟩ := d1
       obtain ⟨_, _, _⟩ := d2
       obtain ⟨_, _, _⟩ := d3
       refine Evt.step (fun k => by rw [rootcellarref1_Rune.j4]) (Evt.pos rfl (Evt.pos (by rw [B_size]; omega) (Evt.pos (by rw [B_size]; omega) (Evt.pos (by rw [B_size]; omega) ?_))))
       have e : wrap64 ((wrap64 ((wrap64 ((wrap64 ((wrap64 ((wrap64 ((b0 : Int) - 240)) * 262144)) + (wrap64 ((wrap64 ((wrap64 (bt (B l) 1)) - 128)) * 4096)))) + (wrap64 ((wrap64 ((wrap64 (bt (B l) 2)) - 128)) * 64)))) + (wrap64 (bt (B l) 3)))) - 128) = ((b0 : Int) - 240) * 262144 + ((b1 : Int) - 128) * 4096 + ((b2 : Int) - 128) * 64 + b3 - 128 := by
        rw [t1, t2, t3]
        simp (disch := omega) only [wrap64_id]
       rw [e]
       generalize ((b0 : Int) - 240) * 262144 + ((b1 : Int) - 128) * 4096 + ((b2 : Int) - 128) * 64 + b3 - 128 = v
       by_cases h5 : 65536 ≤ v
       ·by_cases h6 : v ≤ 1114111
        ·exact Evt.pos h5 (Evt.pos h6 (Evt.val' (by rw [if_pos ⟨h5, h6⟩])))
        ·exact Evt.pos h5 (Evt.neg h6 (Evt.val' (by rw [if_neg (fun k => h6 k.2)])))
       ·exact Evt.neg h5 (Evt.val' (by rw [if_neg (fun k => h5 k.1)]))
      ·rw [decide_eq_false d3, if_neg (fun k => d3 k.2.2.2.2)]
       exact e4f
     ·refine Evt.neg (by simp [d2]) ?_
      rw [if_neg (fun k => d2 k.2.2.2.1)]
      exact e4f
    ·refine Evt.neg (by simp [d1]) ?_
     rw [if_neg (fun k => d1 k.2.2.1)]
     exact e4f
   ·refine Evt.neg (by omega) ?_
    rw [if_neg (fun k => c2 k.2.1)]
    exact e4f
  ·refine Evt.neg (by omega) ?_
   rw [if_neg (fun k => c1 k.1)]
   exact e4f
 have e3f : Evt (fun k => rootcellarref1_Rune.j1 k (B l) (b0 : Int) false) (r4 l.length b0 b1 b2 b3) := Evt.step (fun k => by rw [rootcellarref1_Rune.j1]) (Evt.neg (by decide) e4)
 have e2f : Evt (fun k => rootcellarref1_Rune.j0 k (B l) (b0 : Int) false) (r3 l.length b0 b1 b2 b3) := by
  refine Evt.step (fun k => by rw [rootcellarref1_Rune.j0]) (Evt.neg (by decide) ?_)
  unfold r3
  by_cases c1 : 224 ≤ b0
  ·refine Evt.pos (by omega) ?_
   by_cases c2 : b0 ≤ 239
   ·refine Evt.pos (by omega) (Evt.bind' m1 ?_)
    by_cases d1 : more l.length 1 b1
    ·refine Evt.pos (by simp [d1]) (Evt.bind' m2 ?_)
     by_cases d2 : more l.length 2 b2
     ·have a1 := d1.1
      have a2 := d2.1
      rw [decide_eq_true d2, if_pos ⟨c1, c2, d1, d2⟩]
      obtain ⟨_, _, _⟩ := d1
      obtain ⟨_, _, _⟩ := d2
      refine Evt.step (fun k => by rw [rootcellarref1_Rune.j1]) (Evt.pos rfl (Evt.pos (by rw [B_size]; omega) (Evt.pos (by rw [B_size]; omega) ?_)))
      have e : (wrap64 ((wrap64 ((wrap64 ((wrap64 ((wrap64 ((b0 : Int) - 224)) * 4096)) + (wrap64 ((wrap64 ((wrap64 (bt (B l) 1)) - 128)) * 64)))) + (wrap64 (bt (B l) 2)))) - 128)) = ((b0 : Int) - 224) * 4096 + ((b1 : Int) - 128) * 64 + b2 - 128 := by
       rw [t1, t2]
       simp (disch := omega) only [wrap64_id]
      rw [e]
      generalize ((b0 : Int) - 224) * 4096 + ((b1 : Int) - 128) * 64 + b2 - 128 = v
      have f2 : Evt (fun k => rootcellarref1_Rune.j2 k (B l) (b0 : Int) v false) (r4 l.length b0 b1 b2 b3) := Evt.step (fun k => by rw [rootcellarref1_Rune.j2]) (Evt.neg (by decide) e4)
      have t2_ : Evt (fun k => rootcellarref1_Rune.j2 k (B l) (b0 : Int) v true) (v, 3) := Evt.step (fun k => by rw [rootcellarref1_Rune.j2]) (Evt.pos rfl (Evt.val _))
      by_cases h5 : 2048 ≤ v
      ·refine Evt.pos h5 ?_
       by_cases h6 : 55296 ≤ v
       ·refine Evt.pos h6 ?_
        by_cases h7 : v ≤ 57343
        ·rw [if_neg (fun k => k.2 ⟨h6, h7⟩), decide_eq_true h7]; exact f2
        ·rw [if_pos ⟨h5, fun k => h7 k.2⟩, decide_eq_false h7]; exact t2_
       ·refine Evt.neg h6 ?_
        rw [if_pos ⟨h5, fun k => h6 k.1⟩]
        exact t2_
      ·refine Evt.neg h5 ?_
       rw [if_neg (fun k => h5 k.1)]
       exact f2
     ·rw [decide_eq_false d2, if_neg (fun k => d2 k.2.2.2)]
      exact e3f
    ·refine Evt.neg (by simp [d1]) ?_
     rw [if_neg (fun k => d1 k.2.2.1)]
     exact e3f
   ·refine Evt.neg (by omega) ?_
    rw [if_neg (fun k => c2 k.2.1)]
    exact e3f
  ·refine Evt.neg (by omega) ?_
   rw [if_neg (fun k => c1 k.1)]
   exact e3f
 unfold rootcellarref1_Rune.f r1
 refine Evt.pos (by rw [B_size]; omega) ?_
 rw [w0]
 by_cases c0 : b0 < 128
 ·rw [if_pos c0]
  exact Evt.pos (by omega) (Evt.val _)
 ·rw [if_neg c0]
  refine Evt.neg (by omega) ?_
  unfold r2
  by_cases c1 : 194 ≤ b0
  ·refine Evt.pos (by omega) ?_
   by_cases c2 : b0 ≤ 223
   ·refine Evt.pos (by omega) (Evt.bind' m1 ?_)
    by_cases d1 : more l.length 1 b1
    ·have a1 := d1.1
     rw [decide_eq_true d1, if_pos ⟨c1, c2, d1⟩]
     obtain ⟨_, _, _⟩ := d1
     refine Evt.step (fun k => by rw [rootcellarref1_Rune.j0]) (Evt.pos rfl (Evt.pos (by rw [B_size]; omega) (Evt.val' ?_)))
     rw [t1]
     refine Prod.ext ?_ rfl
     show wrap64 ((wrap64 ((wrap64 ((wrap64 ((b0 : Int) - 192)) * 64)) + (wrap64 (b1 : Int)))) - 128) = ((b0 : Int) - 192) * 64 + b1 - 128
     simp (disch := omega) only [wrap64_id]
    ·rw [decide_eq_false d1, if_neg (fun k => d1 k.2.2)]
     exact e2f
   ·refine Evt.neg (by omega) ?_
    rw [if_neg (fun k => c2 k.2.1)]
    exact e2f
  ·refine Evt.neg (by omega) ?_
   rw [if_neg (fun k => c1 k.1)]
   exact e2f
/-! ### Valid, Count, Right -/
theorem rr_bad {l : List UInt8} (h : (dec l).1 = 65533 ∧ (dec l).2 = 1) : rr l = (-1, 1) := if_pos h
theorem rr_good {l : List UInt8} (h : ¬ ((dec l).1 = 65533 ∧ (dec l).2 = 1)) : rr l = (((dec l).1 : Int), ((dec l).2 : Int)) := if_neg h
theorem rr_width (l : List UInt8) : (rr l).2 = ((dec l).2 : Int) := by
 by_cases h : (dec l).1 = 65533 ∧ (dec l).2 = 1
 ·rw [rr_bad h, h.2]; rfl
 ·rw [rr_good h]
theorem len_pos {l : List UInt8} (h : l ≠ []) : 0 < l.length := List.length_pos_iff.2 h
theorem valid_go : ∀ (n : Nat) (l : List UInt8), l.length ≤ n → Evt (fun k => rootcellarref1_Valid.l0 k (B l)) (Lib.validGoD n l)
 | 0, l, h => by
  obtain rfl := List.eq_nil_of_length_eq_zero (by omega : l.length = 0)
  refine Evt.step (fun k => by rw [rootcellarref1_Valid.l0]) ?_
  exact Evt.pos (B_toList []) (Evt.val _)
 | n + 1, l, h => by
  unfold Lib.validGoD
  rw [decodeL_dec]
  by_cases hl : l = []
  ·rw [if_pos hl]
   refine Evt.step (fun k => by rw [rootcellarref1_Valid.l0]) ?_
   exact Evt.pos (by rw [B_toList]; exact hl) (Evt.val _)
  ·rw [if_neg hl]
   have hw := dec_width l (len_pos hl)
   refine Evt.step (fun k => by rw [rootcellarref1_Valid.l0]) (Evt.neg (by rw [B_toList]; exact hl) (Evt.bind (rune_ev l (len_pos hl)) ?_))
   by_cases hb : (dec l).1 = 65533 ∧ (dec l).2 = 1
   ·rw [if_pos hb, rr_bad hb]
    exact Evt.pos (by decide) (Evt.val _)
   ·rw [if_neg hb, rr_good hb]
    refine Evt.neg (by simp only []; omega) (Evt.pos (by simp only []; omega) (Evt.pos (by simp only [B_size]; omega) ?_))
    simp only [Int.toNat_natCast, B_from]
    exact valid_go n _ (by rw [List.length_drop]; omega)
theorem valid_ev (l : List UInt8) : Evt (fun k => rootcellarref1_Valid.f k (B l)) (Lib.validD l) := valid_go l.length l (Nat.le_refl _)
def cntL : Nat → List UInt8 → Nat
 | 0, _ => 0
 | n + 1, l => if l = [] then 0 else 1 + cntL n (l.drop (dec l).2)
theorem cntL_le : ∀ (n : Nat) (l : List UInt8), cntL n l ≤ n
 | 0, _ => Nat.le_refl _
 | n + 1, l => by
  unfold cntL
  split
  ·omega
  ·have := cntL_le n (l.drop (dec l).2); omega
theorem count_go : ∀ (n : Nat) (l : List UInt8) (c : Nat), l.length ≤ n → c + n < 9223372036854775800 → Evt (fun k => rootcellarref1_Count.l0 k (B l) (c : Int)) ((c + cntL n l : Nat) : Int)
 | 0, l, c, h, _ => by
  obtain rfl := List.eq_nil_of_length_eq_zero (by omega : l.length = 0)
  refine Evt.step (fun k => by rw [rootcellarref1_Count.l0]) ?_
  exact Evt.pos (B_toList []) (Evt.val _)
 | n + 1, l, c, h, hc => by
  unfold cntL
  by_cases hl : l = []
  ·rw [if_pos hl]
   refine Evt.step (fun k => by rw [rootcellarref1_Count.l0]) ?_
   exact Evt.pos (by rw [B_toList]; exact hl) (Evt.val _)
  ·rw [if_neg hl]
   have hw := dec_width l (len_pos hl)
   refine Evt.step (fun k => by rw [rootcellarref1_Count.l0]) (Evt.neg (by rw [B_toList]; exact hl) (Evt.bind (rune_ev l (len_pos hl)) ?_))
   rw [rr_width]
   refine Evt.pos (by omega) (Evt.pos (by rw [B_size]; omega) ?_)
   rw [Int.toNat_natCast, B_from, wrap64_id (by omega) (by omega), show (c : Int) + 1 = ((c + 1 : Nat) : Int) by push_cast; rfl]
   have := count_go n (l.drop (dec l).2) (c + 1) (by rw [List.length_drop]; omega) (by omega)
   rwa [show c + 1 + cntL n (l.drop (dec l).2) = c + (1 + cntL n (l.drop (dec l).2)) by omega] at this
theorem count_ev (l : List UInt8) (h : l.length < 9223372036854775800) : Evt (fun k => rootcellarref1_Count.f k (B l)) (cntL l.length l : Int) := by
 have := count_go l.length l 0 (Nat.le_refl _) (by omega)
 rw [Nat.zero_add] at this
 exact this
theorem cntR_L (s : ByteArray) : ∀ (f p : Nat), cntR s f p = cntL f (s.data.toList.drop p)
 | 0, _ => rfl
 | f + 1, p => by
  unfold cntR cntL
  have hsz : s.size = s.data.toList.length := Lib.size_eq s
  by_cases h : p < s.size
  ·rw [if_pos h, if_neg (by intro k; have := congrArg List.length k; rw [List.length_drop] at this; simp only [List.length_nil] at this; omega), decode_dec, cntR_L s f _, List.drop_drop]
  ·rw [if_neg h, if_pos (List.drop_eq_nil_iff.2 (by omega))]
def badL : Nat → List UInt8 → Bool
 | 0, _ => false
 | n + 1, l => if l = [] then false else if (dec l).1 < 32 then true else if (dec l).1 = 127 then true else badL n (l.drop (dec l).2)
theorem badR_L (s : ByteArray) : ∀ (f p : Nat), badR s f p = badL f (s.data.toList.drop p)
 | 0, _ => rfl
 | f + 1, p => by
  unfold badR badL
  have hsz : s.size = s.data.toList.length := Lib.size_eq s
  by_cases h : p < s.size
  ·have hne : ¬ s.data.toList.drop p = [] := by
    intro k
    have := congrArg List.length k
    rw [List.length_drop] at this
    simp only [List.length_nil] at this
    omega
   rw [if_pos h, decode_dec, badR_L s f _]
   rw [if_neg hne, List.drop_drop]
   generalize (dec (s.data.toList.drop p)).1 = r
   by_cases h1 : r < 32
   ·rw [if_pos h1]
    rw [if_pos (show (r : Int) < 32 by omega)]
   ·rw [if_neg h1]
    rw [if_neg (show ¬ (r : Int) < 32 by omega)]
    by_cases h2 : r = 127
    ·rw [if_pos h2]
     rw [if_pos (show (r : Int) = 127 by omega)]
    ·rw [if_neg h2]
     rw [if_neg (show ¬ (r : Int) = 127 by omega)]
  ·rw [if_neg h, if_pos (List.drop_eq_nil_iff.2 (by omega))]
def okb (c : UInt8) : Bool := decide (32 ≤ c.toNat) && decide (c.toNat ≠ 127)
theorem bad_bytes : ∀ (n : Nat) (l : List UInt8), l.length ≤ n → Lib.validGoD n l = true → badL n l = !(l.all okb)
 | 0, l, h, _ => by
  obtain rfl := List.eq_nil_of_length_eq_zero (by omega : l.length = 0)
  rfl
 | n + 1, l, h, hv => by
  unfold badL
  unfold Lib.validGoD at hv
  rw [decodeL_dec] at hv
  by_cases hl : l = []
  ·rw [if_pos hl, hl]; rfl
  ·rw [if_neg hl] at hv ⊢
   have hw := dec_width l (len_pos hl)
   by_cases hb : (dec l).1 = 65533 ∧ (dec l).2 = 1
   ·rw [if_pos hb] at hv; cases hv
   ·rw [if_neg hb] at hv
    have ih := bad_bytes n (l.drop (dec l).2) (by rw [List.length_drop]; omega) hv
    rw [ih]
    have hsplit : l.all okb = ((l.take (dec l).2).all okb && (l.drop (dec l).2).all okb) := by rw [← List.all_append, List.take_append_drop]
    rw [hsplit]
    rcases dec_cases l with ⟨h1, e⟩ | ⟨_, e⟩ | ⟨h1, h2, h3, h4⟩
    ·have ht : l.take (dec l).2 = [l[0]'(len_pos hl)] := by
      rw [e]
      cases l with
      | nil => exact absurd rfl hl
      | cons a t => rfl
     have hg := g8_get l 0 (len_pos hl)
     rw [ht, e]
     simp only [List.all_cons, List.all_nil, Bool.and_true, okb]
     rw [← hg]
     by_cases k1 : g8 l 0 < 32
     ·rw [if_pos k1]; simp; omega
     ·rw [if_neg k1]
      by_cases k2 : g8 l 0 = 127
      ·rw [if_pos k2]; simp [k2]
      ·rw [if_neg k2]; simp [k2]; omega
    ·exact absurd ⟨by rw [e], by rw [e]⟩ hb
    ·rw [if_neg (by omega), if_neg (by omega)]
     have : (l.take (dec l).2).all okb = true := by
      rw [List.all_eq_true]
      intro c hc
      obtain ⟨i, hi, rfl⟩ := List.mem_iff_getElem.1 hc
      rw [List.length_take] at hi
      rw [List.getElem_take]
      have := h4 i (by omega)
      rw [g8_get l i (by omega)] at this
      unfold okb
      simp
      omega
     rw [this, Bool.true_and]
/-- May a row of bytes be a name? -/
def labB (l : List UInt8) : Bool := Lib.validD l && (decide (0 < l.length) && (decide (cntL l.length l ≤ 24) && (decide (g8 l 0 ≠ 32) && (decide (g8 l (l.length - 1) ≠ 32) && l.all okb))))
theorem label_f (l : List UInt8) (h : l.length ≤ 9223372036854775807) : label_Right.f (B l) = some (labB l) := by
 unfold label_Right.f labB
 rw [if_pos (by rw [B_size]; omega), badR_L, cntR_L, B_data, B_size, List.drop_zero]
 have t0 : bt (B l) 0 = (g8 l 0 : Int) := bt_g l 0
 rw [t0]
 by_cases hv : Lib.validD l = true
 ·rw [bad_bytes l.length l (Nat.le_refl _) hv, hv]
  by_cases hl : 0 < l.length
  ·have t1 : bt (B l) ((l.length : Int) - 1) = (g8 l (l.length - 1) : Int) := by
    rw [show (l.length : Int) - 1 = ((l.length - 1 : Nat) : Int) by omega]
    exact bt_g l _
   rw [t1]
   congr 1
   rw [Bool.eq_iff_iff]
   simp only [Bool.and_eq_true, decide_eq_true_eq, Bool.not_not]
   constructor
   ·rintro ⟨a, b, c, d, e, f⟩
    exact ⟨b, c, d, by omega, by omega, a⟩
   ·rintro ⟨b, c, d, e, f, a⟩
    exact ⟨a, b, c, d, by omega, by omega⟩
  ·simp [hl]
 ·simp only [Bool.not_eq_true] at hv
  rw [hv]
  simp
theorem refbytes_go (l : List UInt8) (h : l.length ≤ 4611686018427387900) : ∀ (t d : List UInt8), l = d ++ t → Evt (fun k => rootcellarref1_Right.l0 k (B l) (d.length : Int)) (t.all okb)
 | [], d, hd => by
  rw [List.append_nil] at hd
  subst hd
  refine Evt.step (fun k => by rw [rootcellarref1_Right.l0]) ?_
  exact Evt.neg (by rw [B_size]; omega) (Evt.val _)
 | c :: t, d, hd => by
  have hlen : l.length = d.length + (t.length + 1) := by rw [hd]; simp
  have hb : bt (B l) (d.length : Int) = (c.toNat : Int) := by
   rw [bt_B l d.length (by omega)]
   simp [hd]
  refine Evt.step (fun k => by rw [rootcellarref1_Right.l0]) (Evt.pos (by rw [B_size]; omega) (Evt.pos (by omega) ?_))
  rw [hb, List.all_cons]
  by_cases h1 : c.toNat < 32
  ·refine Evt.pos (by omega) (Evt.val' ?_)
   rw [show okb c = false by unfold okb; simp; omega]
   rfl
  ·refine Evt.neg (by omega) ?_
   by_cases h2 : c.toNat = 127
   ·refine Evt.pos (by omega) (Evt.val' ?_)
    rw [show okb c = false by unfold okb; simp [h2]]
    rfl
   ·refine Evt.neg (by omega) ?_
    rw [show okb c = true by unfold okb; simp [h2]; omega, Bool.true_and, wrap64_id (by omega) (by omega)]
    have := refbytes_go l h t (d ++ [c]) (by rw [hd]; simp)
    rw [List.length_append] at this
    exact this
theorem reflabel_ev (l : List UInt8) (h : l.length ≤ 4611686018427387900) : Evt (fun k => rootcellarref1_Right.f k (B l)) (labB l) := by
 unfold rootcellarref1_Right.f
 have hbad : Evt (fun k => rootcellarref1_Right.j0 k (B l) true) false := Evt.step (fun k => by rw [rootcellarref1_Right.j0]) (Evt.pos rfl (Evt.val _))
 have t0 : bt (B l) 0 = (g8 l 0 : Int) := bt_g l 0
 refine Evt.bind (valid_ev l) ?_
 unfold labB
 cases hv : Lib.validD l with
 | false => exact Evt.neg (by decide) hbad
 | true =>
  refine Evt.pos rfl ?_
  by_cases hl : l = []
  ·refine Evt.pos (by rw [B_toList]; exact hl) ?_
   rw [decide_eq_false (show ¬ 0 < l.length by rw [hl]; simp)]
   exact hbad
  ·refine Evt.neg (by rw [B_toList]; exact hl) (Evt.bind (count_ev l (by omega)) ?_)
   have hp := len_pos hl
   by_cases h1 : cntL l.length l ≤ 24
   ·refine Evt.neg (by omega) (Evt.pos (by rw [B_size]; omega) ?_)
    rw [t0]
    by_cases h2 : g8 l 0 = 32
    ·refine Evt.pos (by omega) ?_
     simp only [h2, ne_eq, not_true_eq_false, decide_false, Bool.false_and, Bool.and_false]
     exact hbad
    ·refine Evt.neg (by omega) ?_
     have hw : wrap64 (((B l).size : Int) - 1) = ((l.length - 1 : Nat) : Int) := by rw [B_size, wrap64_id (by omega) (by omega)]; omega
     rw [hw]
     refine Evt.pos (by omega) (Evt.pos (by rw [B_size]; omega) ?_)
     rw [bt_g]
     by_cases h3 : g8 l (l.length - 1) = 32
     ·have : (((g8 l (l.length - 1) : Nat) : Int) == 32) = true := by simp [h3]
      rw [this]
      simp only [h3, ne_eq, not_true_eq_false, decide_false, Bool.false_and, Bool.and_false]
      exact hbad
     ·have : (((g8 l (l.length - 1) : Nat) : Int) == 32) = false := by simp; omega
      rw [this]
      refine Evt.step (fun k => by rw [rootcellarref1_Right.j0]) (Evt.neg (by decide) ?_)
      have := refbytes_go l h l [] rfl
      simp only [hp, h1, h2, h3, ne_eq, not_false_eq_true, decide_true, Bool.true_and]
      exact this
   ·refine Evt.pos (by omega) ?_
    simp only [h1, decide_false, Bool.false_and, Bool.and_false]
    exact hbad
end Go.Proofs.YtppbcankhkgpfaaDoor.Th
namespace Go.Proofs.YtppbcankhkgpfaaDoor.Th
open Go.RowKit Go.Proofs.YtppbcankhkgpfaaDoor.PDq Go.Proofs.YtppbcankhkgpfaaDoorW.PrintWords Go.Proofs.YtppbcankhkgpfaaDoorW.PrintLast Go.Proofs.YtppbcankhkgpfaaDoorW.PrintMore
set_option linter.unusedVariables false
set_option linter.unusedSimpArgs false
abbrev Sp := S64
--<own
theorem rd_T64_get (l : List S64) (j : Nat) (h : j < l.length) : rd_T64 l (j : Int) = l[j] := by
 simp [rd_T64, List.getD_eq_getElem?_getD, h]
def insB (size : Int) (s : S64) : Bool := decide (0 < s.f1) && (decide (0 ≤ s.f0) && (decide (s.f0 < size) && decide (s.f1 ≤ wrap64 (size - s.f0))))
theorem insB_f (size : Int) (s : S64) : span_inside.f s.f0 s.f1 size = some (insB size s) := by
 unfold span_inside.f insB
 by_cases h1 : 0 < s.f1 <;> by_cases h2 : 0 ≤ s.f0 <;> by_cases h3 : s.f0 < size <;> simp [h1, h2, h3, GT.gt, GE.ge] <;> omega
theorem insB_spec {size : Int} (h1 : 1 ≤ size) (h2 : size ≤ 8192) {s : S64} (h : insB size s = true) : 0 < s.f1 ∧ 0 ≤ s.f0 ∧ s.f0 + s.f1 ≤ size := by
 unfold insB at h
 simp only [Bool.and_eq_true, decide_eq_true_eq] at h
 obtain ⟨a, b, c, d⟩ := h
 unfold wrap64 at d
 omega
--own>
def cnt (l : List Sp) (x : Int) : Nat := l.countP fun s => decide (s.f0 ≤ x ∧ x < s.f0 + s.f1)
theorem cnt_nil (x : Int) : cnt [] x = 0 := rfl
theorem cnt_cons (s : Sp) (t : List Sp) (x : Int) : cnt (s :: t) x = (if s.f0 ≤ x ∧ x < s.f0 + s.f1 then 1 else 0) + cnt t x := by
 unfold cnt; rw [List.countP_cons]; simp only [decide_eq_true_eq]; omega
theorem cnt_append (a b : List Sp) (x : Int) : cnt (a ++ b) x = cnt a x + cnt b x := List.countP_append
theorem cnt_one (s : Sp) (x : Int) : cnt [s] x = if s.f0 ≤ x ∧ x < s.f0 + s.f1 then 1 else 0 := by rw [cnt_cons, cnt_nil]; omega
theorem cnt_pos {l : List Sp} {x : Int} : 0 < cnt l x ↔ ∃ s ∈ l, s.f0 ≤ x ∧ x < s.f0 + s.f1 := by
 unfold cnt; rw [List.countP_pos_iff]; simp
theorem cnt_zero {l : List Sp} {x : Int} : cnt l x = 0 ↔ ∀ s ∈ l, ¬ (s.f0 ≤ x ∧ x < s.f0 + s.f1) := by
 unfold cnt; rw [List.countP_eq_zero]; simp
theorem cnt_mem {l : List Sp} {s : Sp} (h : s ∈ l) {x : Int} (h1 : s.f0 ≤ x) (h2 : x < s.f0 + s.f1) : 0 < cnt l x := cnt_pos.2 ⟨s, h, h1, h2⟩
def Ok (size : Int) (s : Sp) : Prop := 0 < s.f1 ∧ 0 ≤ s.f0 ∧ s.f0 + s.f1 ≤ size
def OkL (size : Int) (l : List Sp) : Prop := ∀ s ∈ l, Ok size s
def Canon (l : List Sp) : Prop := l.Pairwise fun a b => a.f0 + a.f1 < b.f0
def Dis (l : List Sp) : Prop := l.Pairwise fun a b => a.f0 + a.f1 ≤ b.f0
theorem OkL.nil {size : Int} : OkL size [] := fun _ h => nomatch h
theorem OkL.cons {size : Int} {s : Sp} {t : List Sp} (h : Ok size s) (k : OkL size t) : OkL size (s :: t) := fun u hu => by
 rcases List.mem_cons.1 hu with rfl | hu
 ·exact h
 ·exact k u hu
theorem OkL.append {size : Int} {a b : List Sp} (h : OkL size a) (k : OkL size b) : OkL size (a ++ b) := fun u hu => by
 rcases List.mem_append.1 hu with hu | hu
 ·exact h u hu
 ·exact k u hu
theorem OkL.tail {size : Int} {s : Sp} {t : List Sp} (h : OkL size (s :: t)) : OkL size t := fun u hu => h u (List.mem_cons_of_mem _ hu)
theorem OkL.head {size : Int} {s : Sp} {t : List Sp} (h : OkL size (s :: t)) : Ok size s := h s (List.mem_cons_self ..)
theorem OkL.perm {size : Int} {a b : List Sp} (h : OkL size a) (p : a.Perm b) : OkL size b := fun u hu => h u (p.mem_iff.2 hu)
theorem Canon.dis {l : List Sp} (h : Canon l) : Dis l := h.imp fun h => by omega
theorem Sp.ext' {a b : Sp} (h0 : a.f0 = b.f0) (h1 : a.f1 = b.f1) : a = b := by cases a; cases b; simp_all
theorem cnt_out {size : Int} {l : List Sp} (h : OkL size l) {x : Int} (hx : x < 0 ∨ size ≤ x) : cnt l x = 0 := cnt_zero.2 fun s hs => by
 obtain ⟨_, _, _⟩ := h s hs
 omega
theorem cnt_dis {size : Int} : ∀ {l : List Sp}, OkL size l → Dis l → ∀ x, cnt l x ≤ 1
 | [], _, _, x => by rw [cnt_nil]; omega
 | s :: t, h, hd, x => by
  obtain ⟨h1, h2⟩ := List.pairwise_cons.1 hd
  have ih := cnt_dis h.tail h2 x
  rw [cnt_cons]
  split
  ·rename_i hx
   have : cnt t x = 0 := cnt_zero.2 fun u hu => by have := h1 u hu; omega
   omega
  ·omega
/-- Two right rows of the same sectors are one. -/
theorem canon_unique {size : Int} : ∀ {a b : List Sp}, OkL size a → OkL size b → Canon a → Canon b → (∀ x, cnt a x = cnt b x) → a = b
 | [], [], _, _, _, _, _ => rfl
 | [], s :: t, _, hb, _, _, h => by
  have h1 := cnt_mem (l := s :: t) (List.mem_cons_self ..) (Int.le_refl s.f0) (by have := hb.head.1; omega)
  have h2 := h s.f0
  rw [cnt_nil] at h2
  omega
 | s :: t, [], ha, _, _, _, h => by
  have h1 := cnt_mem (l := s :: t) (List.mem_cons_self ..) (Int.le_refl s.f0) (by have := ha.head.1; omega)
  have h2 := h s.f0
  rw [cnt_nil] at h2
  omega
 | s :: t, u :: v, ha, hb, ca, cb, h => by
  obtain ⟨a1, a2⟩ := List.pairwise_cons.1 ca
  obtain ⟨b1, b2⟩ := List.pairwise_cons.1 cb
  have hs := ha.head
  have hu := hb.head
  have e0 : s.f0 = u.f0 := by
   have h1 := cnt_mem (l := s :: t) (List.mem_cons_self ..) (Int.le_refl s.f0) (by have := hs.1; omega)
   have h2 := cnt_mem (l := u :: v) (List.mem_cons_self ..) (Int.le_refl u.f0) (by have := hu.1; omega)
   rw [h s.f0] at h1
   rw [← h u.f0] at h2
   obtain ⟨p, hp, p1, _⟩ := cnt_pos.1 h1
   obtain ⟨q, hq, q1, _⟩ := cnt_pos.1 h2
   have k1 : u.f0 ≤ p.f0 := by
    rcases List.mem_cons.1 hp with rfl | hp
    ·omega
    ·have := b1 p hp; have := hu.1; omega
   have k2 : s.f0 ≤ q.f0 := by
    rcases List.mem_cons.1 hq with rfl | hq
    ·omega
    ·have := a1 q hq; have := hs.1; omega
   omega
  have e1 : s.f1 = u.f1 := by
   have z1 : cnt (s :: t) (s.f0 + s.f1) = 0 := cnt_zero.2 fun p hp => by
    rcases List.mem_cons.1 hp with rfl | hp
    ·omega
    ·have := a1 p hp; omega
   have z2 : cnt (u :: v) (u.f0 + u.f1) = 0 := cnt_zero.2 fun p hp => by
    rcases List.mem_cons.1 hp with rfl | hp
    ·omega
    ·have := b1 p hp; omega
   rw [h] at z1
   rw [← h] at z2
   have y1 := cnt_zero.1 z1 u (List.mem_cons_self ..)
   have y2 := cnt_zero.1 z2 s (List.mem_cons_self ..)
   have := hs.1
   have := hu.1
   omega
  obtain rfl := Sp.ext' e0 e1
  have := canon_unique ha.tail hb.tail a2 b2 fun x => by
   have := h x
   rw [cnt_cons, cnt_cons] at this
   omega
  rw [this]
theorem insB_iff {size : Int} (h1 : 1 ≤ size) (h2 : size ≤ 8192) (s : Sp) : insB size s = true ↔ Ok size s := by
 constructor
 ·intro h
  exact insB_spec h1 h2 h
 ·rintro ⟨a, b, c⟩
  unfold insB wrap64
  simp only [Bool.and_eq_true, decide_eq_true_eq]
  omega
/-- How two spans may be told: sized, all inside, no sector twice. -/
def Sized (size : Int) : Prop := 1 ≤ size ∧ size ≤ 8192
def totStep (n : Int) (s : Sp) : Int := wrap64 (n + mx s.f1 0)
def totF (l : List Sp) : Int := l.foldl totStep 0
theorem total_ev (l : List Sp) (hl : l.length ≤ 9223372036854775807) : Evt (fun k => span_Total.f k l) (totF l) := by
 unfold span_Total.f
 have key : ∀ n i : Nat, ∀ x : Int, l.length - i = n → i ≤ l.length → Evt (fun k => span_Total.l0 k x l (l.length : Int) (i : Int)) ((l.drop i).foldl totStep x) := by
  intro n
  induction n with
  | zero =>
   intro i x hn hi
   refine Evt.step (fun k => by rw [span_Total.l0]) ?_
   refine Evt.neg (by omega) (Evt.val' ?_)
   rw [List.drop_eq_nil_of_le (by omega)]; rfl
  | succ n ih =>
   intro i x hn hi
   refine Evt.step (fun k => by rw [span_Total.l0]) ?_
   refine Evt.pos (by omega) (Evt.pos (by omega) (Evt.pos (by omega) ?_))
   have hlt : i < l.length := by omega
   rw [wrap64_id (n := (i : Int) + 1) (by omega) (by omega), rd_T64_get l i hlt, List.drop_eq_getElem_cons hlt]
   exact ih (i + 1) _ (by omega) (by omega)
 exact key _ 0 0 rfl (Nat.zero_le _)
def sumF : List Sp → Int
 | [] => 0
 | s :: t => s.f1 + sumF t
theorem sumF_bound {size : Int} {l : List Sp} (h : OkL size l) (hs : 0 ≤ size) : 0 ≤ sumF l ∧ sumF l ≤ size * l.length := by
 induction l with
 | nil => simp [sumF]
 | cons s t ih =>
  obtain ⟨i1, i2⟩ := ih h.tail
  obtain ⟨s1, s2, s3⟩ := h.head
  have e : size * ((s :: t).length : Int) = size * (t.length : Int) + size := by rw [List.length_cons, Int.natCast_add, Int.mul_add]; simp
  rw [e]
  simp only [sumF]
  omega
theorem totF_sum {size : Int} (h1 : 0 ≤ size) (h2 : size ≤ 8192) {l : List Sp} (h : OkL size l) (hl : l.length < 1000000) : totF l = sumF l := by
 have key : ∀ (l : List Sp) (x : Int), OkL size l → 0 ≤ x → x + size * l.length < 9223372036854775808 → l.foldl totStep x = x + sumF l := by
  intro l
  induction l with
  | nil => intro x _ _ _; simp [sumF]
  | cons s t ih =>
   intro x ho hx hb
   obtain ⟨s1, s2, s3⟩ := ho.head
   have e : size * ((s :: t).length : Int) = size * (t.length : Int) + size := by rw [List.length_cons, Int.natCast_add, Int.mul_add]; simp
   rw [e] at hb
   have hp : 0 ≤ size * (t.length : Int) := Int.mul_nonneg h1 (by omega)
   have hst : totStep x s = x + s.f1 := by
    unfold totStep mx
    rw [if_neg (by omega)]
    exact wrap64_id (by omega) (by omega)
   rw [List.foldl_cons, hst, ih _ ho.tail (by omega) (by omega)]
   simp only [sumF]
   omega
 have hp : size * (l.length : Int) ≤ 8192 * 1000000 := Int.mul_le_mul h2 (by omega) (by omega) (by omega)
 unfold totF
 rw [key l 0 h (Int.le_refl _) (by omega)]
 omega
theorem sum_map_zero {α : Type} (f : α → Nat) (l : List α) (h : ∀ x ∈ l, f x = 0) : (l.map f).sum = 0 := by
 induction l with
 | nil => rfl
 | cons x t ih => rw [List.map_cons, List.sum_cons, h x (by simp), ih fun y hy => h y (by simp [hy])]
theorem cnt_sum_one (a b : Int) : ∀ n : Nat, 0 ≤ a → a ≤ b → b ≤ n → ((List.range n).map fun (i : Nat) => (if a ≤ (i : Int) ∧ (i : Int) < b then 1 else 0 : Nat)).sum = (b - a).toNat := by
 intro n
 induction n generalizing b with
 | zero => intro h1 h2 h3; simp; omega
 | succ n ih =>
  intro h1 h2 h3
  rw [List.range_succ, List.map_append, List.sum_append]
  simp only [List.map_cons, List.map_nil, List.sum_cons, List.sum_nil]
  by_cases hb : b ≤ n
  ·rw [ih b h1 h2 hb, if_neg (by omega)]
   rfl
  ·by_cases ha : a ≤ n
   ·have e := ih n h1 ha (Int.le_refl _)
    have e2 : ((List.range n).map fun (i : Nat) => (if a ≤ (i : Int) ∧ (i : Int) < b then 1 else 0 : Nat)) = ((List.range n).map fun (i : Nat) => (if a ≤ (i : Int) ∧ (i : Int) < (n : Int) then 1 else 0 : Nat)) := by
     refine List.map_congr_left fun i hi => ?_
     have := List.mem_range.1 hi
     congr 1
     simp only [eq_iff_iff]
     omega
    rw [e2, e, if_pos (by omega)]
    omega
   ·have e : a = b := by omega
    subst e
    have e2 : ((List.range n).map fun (i : Nat) => (if a ≤ (i : Int) ∧ (i : Int) < a then 1 else 0 : Nat)).sum = 0 := sum_map_zero _ _ fun i _ => if_neg (by omega)
    rw [e2, if_neg (by omega)]
    omega
theorem sum_map_add {α : Type} (f g : α → Nat) (l : List α) : (l.map fun x => f x + g x).sum = (l.map f).sum + (l.map g).sum := by
 induction l with
 | nil => rfl
 | cons x t ih => simp only [List.map_cons, List.sum_cons, ih]; omega
theorem cnt_sum {size : Int} : ∀ {l : List Sp}, OkL size l → ((List.range size.toNat).map fun (i : Nat) => cnt l (i : Int)).sum = (sumF l).toNat ∧ 0 ≤ sumF l
 | [], _ => by
  refine ⟨?_, Int.le_refl _⟩
  exact sum_map_zero _ _ fun i _ => cnt_nil _
 | s :: t, h => by
  obtain ⟨e, h0⟩ := cnt_sum h.tail
  obtain ⟨s1, s2, s3⟩ := h.head
  have e1 := cnt_sum_one s.f0 (s.f0 + s.f1) size.toNat s2 (by omega) (by omega)
  have : ((List.range size.toNat).map fun (i : Nat) => cnt (s :: t) (i : Int)) = ((List.range size.toNat).map fun (i : Nat) => (if s.f0 ≤ (i : Int) ∧ (i : Int) < s.f0 + s.f1 then 1 else 0) + cnt t (i : Int)) := List.map_congr_left fun i _ => cnt_cons s t _
  rw [this, sum_map_add, e1, e]
  simp only [sumF]
  omega
theorem sum_const_one (n : Nat) : ((List.range n).map fun _ => 1).sum = n := by
 induction n with
 | zero => rfl
 | succ n ih => rw [List.range_succ, List.map_append, List.sum_append, ih]; rfl
/-- Right rows are no longer than they have sectors. -/
theorem len_sum {size : Int} : ∀ {l : List Sp}, OkL size l → (l.length : Int) ≤ sumF l
 | [], _ => by simp [sumF]
 | s :: t, h => by
  have := len_sum h.tail
  have := h.head.1
  simp only [List.length_cons, sumF]
  omega
theorem len_canon {size : Int} (h0 : 0 ≤ size) {l : List Sp} (h : OkL size l) (hd : ∀ x, cnt l x ≤ 1) : (l.length : Int) ≤ size := by
 have h1 := len_sum h
 obtain ⟨a1, a2⟩ := cnt_sum h
 have : ((List.range size.toNat).map fun (i : Nat) => cnt l (i : Int)).sum ≤ ((List.range size.toNat).map fun _ => 1).sum := by
  generalize List.range size.toNat = r
  induction r with
  | nil => simp
  | cons i t ih => simp only [List.map_cons, List.sum_cons]; have := hd (i : Int); omega
 rw [a1, sum_const_one] at this
 omega
theorem OkL.mono {a b : Int} (h : a ≤ b) {l : List Sp} (k : OkL a l) : OkL b l := fun s hs => by
 obtain ⟨x, y, z⟩ := k s hs
 exact ⟨x, y, by omega⟩
theorem rd_mid (d : List Sp) (s : Sp) (r : List Sp) : rd_T64 (d ++ s :: r) (d.length : Int) = s := by
 rw [rd_T64_get _ _ (by simp)]
 simp
theorem bit_set (b : List Bool) (j : Int) (v : Bool) (x : Int) (hj : 0 ≤ j) (hl : j < b.length) (hx : 0 ≤ x) : rdOf false (b.set j.toNat v) x = if x = j then v else rdOf false b x := by
 unfold rdOf
 rw [List.getD_eq_getElem?_getD, List.getD_eq_getElem?_getD, List.getElem?_set]
 by_cases h : x = j
 ·subst h
  rw [if_pos rfl, if_pos rfl, if_pos (by omega)]
  rfl
 ·rw [if_neg h, if_neg (by omega)]
theorem bit_rep (n : Nat) (x : Int) : rdOf false (List.replicate n false) x = false := by
 unfold rdOf
 rw [List.getD_eq_getElem?_getD, List.getElem?_replicate]
 split <;> rfl
theorem row_ev (p : List Bool) (hp : p.length ≤ 1000000) : ∃ c, Evt (fun k => rootcellarref5_row.f k p) c ∧ OkL p.length c ∧ Canon c ∧ ∀ x, cnt c x = if 0 ≤ x ∧ x < p.length ∧ rdOf false p x = true then 1 else 0 := by
 have key : ∀ n i : Nat, ∀ acc : List Sp, p.length - i = n → i ≤ p.length → OkL i acc → Canon acc → (∀ x, cnt acc x = if 0 ≤ x ∧ x < i ∧ rdOf false p x = true then 1 else 0) → acc.length ≤ i →
   (0 < i → rdOf false p ((i : Int) - 1) = true → ∃ (u : List Sp) (t : Sp), acc = u ++ [t] ∧ t.f0 + t.f1 = (i : Int)) →
   ∃ c, Evt (fun k => rootcellarref5_row.l0 k p acc (i : Int)) c ∧ OkL p.length c ∧ Canon c ∧ ∀ x, cnt c x = if 0 ≤ x ∧ x < p.length ∧ rdOf false p x = true then 1 else 0 := by
  intro n
  induction n with
  | zero =>
   intro i acc hn hi h1 h2 h3 h4 h5
   have e : i = p.length := by omega
   subst e
   exact ⟨acc, Evt.step (fun k => by rw [rootcellarref5_row.l0]) (Evt.neg (by omega) (Evt.val _)), h1, h2, h3⟩
  | succ n ih =>
   intro i acc hn hi h1 h2 h3 h4 h5
   have hw : wrap64 ((i : Int) + 1) = ((i + 1 : Nat) : Int) := by rw [wrap64_id (by omega) (by omega)]; rfl
   have hlen : acc.length < 8796093022208 := by omega
   by_cases hb : rdOf false p (i : Int) = true
   ·by_cases hprev : 0 < i ∧ rdOf false p ((i : Int) - 1) = true
    ·obtain ⟨u, t, hu, ht⟩ := h5 hprev.1 hprev.2
     have hto := h1 t (by rw [hu]; simp)
     obtain ⟨t1, t2, t3⟩ := hto
     have hal : acc.length = u.length + 1 := by rw [hu]; simp
     have hwl : wrap64 ((acc.length : Int) - 1) = (u.length : Int) := by rw [wrap64_id (by omega) (by omega)]; omega
     have hrd : rd_T64 acc (u.length : Int) = t := by rw [hu]; exact rd_mid u t []
     have hset : acc.set ((u.length : Int)).toNat (⟨t.f0, wrap64 (t.f1 + 1)⟩ : Sp) = u ++ [(⟨t.f0, t.f1 + 1⟩ : Sp)] := by
      rw [wrap64_id (by omega) (by omega), hu]
      simp
     obtain ⟨c, e1, e2, e3, e4⟩ := ih (i + 1) (u ++ [(⟨t.f0, t.f1 + 1⟩ : Sp)]) (by omega) (by omega)
      (OkL.append (fun a ha => by obtain ⟨x, y, z⟩ := h1 a (by rw [hu]; simp [ha]); exact ⟨x, y, by push_cast; omega⟩) (OkL.cons ⟨by show 0 < t.f1 + 1; omega, t2, by show t.f0 + (t.f1 + 1) ≤ ((i + 1 : Nat) : Int); push_cast; omega⟩ OkL.nil))
      (by
       rw [hu] at h2
       obtain ⟨a1, a2, a3⟩ := List.pairwise_append.1 h2
       refine List.pairwise_append.2 ⟨a1, List.pairwise_singleton _ _, fun a ha b hb => ?_⟩
       obtain rfl := List.mem_singleton.1 hb
       exact a3 a ha t (by simp))
      (fun x => by
       have := h3 x
       rw [hu, cnt_append, cnt_one] at this
       rw [cnt_append, cnt_one]
       simp only
       have hxi : x = (i : Int) → rdOf false p x = true := fun e => by rw [e]; exact hb
       have hxo : x = (i : Int) → cnt u x = 0 := fun e => by rw [if_neg (by omega), if_neg (fun hh => by have := hh.2.1; omega)] at this; omega
       split at this <;> split at this <;> split <;> split <;> (push_cast at *) <;> (try omega) <;> (by_cases hx : x = (i : Int) <;> simp_all <;> omega))
      (by simp; omega) (fun _ _ => ⟨u, _, rfl, by show t.f0 + (t.f1 + 1) = _; push_cast; omega⟩)
     refine ⟨c, Evt.step (fun k => by rw [rootcellarref5_row.l0]) ?_, e2, e3, e4⟩
     refine Evt.pos (by omega) (Evt.pos (by omega) (Evt.pos hb (Evt.pos (by omega) ?_)))
     rw [wrap64_id (n := (i : Int) - 1) (by omega) (by omega)]
     refine Evt.pos (by omega) (Evt.pos (by omega) (Evt.pos hprev.2 ?_))
     rw [hwl, hrd, hset, hw]
     exact Evt.pos (by omega) (Evt.pos (by omega) e1)
    ·have hends : ∀ a ∈ acc, a.f0 + a.f1 < i := fun a ha => by
      obtain ⟨x, y, z⟩ := h1 a ha
      rcases Int.lt_or_le (a.f0 + a.f1) i with hlt | hge
      ·exact hlt
      ·exfalso
       have hc := cnt_mem ha (x := (i : Int) - 1) (by omega) (by omega)
       rw [h3] at hc
       split at hc
       ·rename_i hh
        exact hprev ⟨by omega, hh.2.2⟩
       ·omega
     obtain ⟨c, e1, e2, e3, e4⟩ := ih (i + 1) (acc ++ [(⟨(i : Int), 1⟩ : Sp)]) (by omega) (by omega)
      (OkL.append (OkL.mono (by push_cast; omega) h1) (OkL.cons ⟨by show (0 : Int) < 1; omega, by show (0 : Int) ≤ (i : Int); omega, by show (i : Int) + 1 ≤ ((i + 1 : Nat) : Int); push_cast; omega⟩ OkL.nil))
      (List.pairwise_append.2 ⟨h2, List.pairwise_singleton _ _, fun a ha b hb => by obtain rfl := List.mem_singleton.1 hb; exact hends a ha⟩)
      (fun x => by
       rw [cnt_append, cnt_one, h3]
       simp only
       have hxi : x = (i : Int) → rdOf false p x = true := fun e => by rw [e]; exact hb
       split <;> split <;> split <;> (push_cast at *) <;> (try omega) <;> (by_cases hx : x = (i : Int) <;> simp_all <;> omega))
      (by simp; omega) (fun _ _ => ⟨acc, _, rfl, by show (i : Int) + 1 = _; push_cast; rfl⟩)
     refine ⟨c, Evt.step (fun k => by rw [rootcellarref5_row.l0]) ?_, e2, e3, e4⟩
     refine Evt.pos (by omega) (Evt.pos (by omega) (Evt.pos hb ?_))
     by_cases h0 : 0 < i
     ·refine Evt.pos (by omega) ?_
      rw [wrap64_id (n := (i : Int) - 1) (by omega) (by omega), hw]
      exact Evt.pos (by omega) (Evt.pos (by omega) (Evt.neg (fun hh => hprev ⟨h0, hh⟩) (Evt.pos hlen e1)))
     ·rw [hw]
      exact Evt.neg (by omega) (Evt.pos hlen e1)
   ·obtain ⟨c, e1, e2, e3, e4⟩ := ih (i + 1) acc (by omega) (by omega) (OkL.mono (by push_cast; omega) h1) h2
     (fun x => by
      rw [h3]
      have hxi : x = (i : Int) → ¬ rdOf false p x = true := fun e => by rw [e]; exact hb
      split <;> split <;> (push_cast at *) <;> (try omega) <;> (by_cases hx : x = (i : Int) <;> simp_all <;> omega))
     (by omega) (fun _ hh => absurd hh (by rw [show (((i + 1 : Nat) : Int) - 1) = (i : Int) by push_cast; omega]; exact hb))
    refine ⟨c, Evt.step (fun k => by rw [rootcellarref5_row.l0]) ?_, e2, e3, e4⟩
    rw [hw]
    exact Evt.pos (by omega) (Evt.pos (by omega) (Evt.neg hb e1))
 unfold rootcellarref5_row.f
 exact key _ 0 [] rfl (Nat.zero_le _) OkL.nil List.Pairwise.nil (fun x => by rw [cnt_nil, if_neg (by omega)]) (Nat.le_refl _) (fun h => absurd h (by omega))
theorem refin (size : Int) (s : Sp) : rootcellarref5_inside.f s.f0 s.f1 size = some (insB size s) := by
 unfold rootcellarref5_inside.f insB
 by_cases h1 : 1 ≤ s.f1 <;> by_cases h2 : 0 ≤ s.f0 <;> by_cases h3 : s.f0 < size <;> simp [h1, h2, h3, GE.ge] <;> omega
theorem marks_fill (l d : List Sp) (s : Sp) (r : List Sp) (size : Int) (hl : l = d ++ s :: r) (hs : Sized size) (ho : Ok size s) (hlen : l.length ≤ 1000000) :
  ∀ (m : Nat) (j : Int) (b : List Bool), (s.f0 + s.f1 - j).toNat = m → s.f0 ≤ j → j ≤ s.f0 + s.f1 → b.length = size.toNat → (∀ x, 0 ≤ x → x < size → (rdOf false b x = true ↔ (0 < cnt d x ∨ s.f0 ≤ x ∧ x < j))) →
   (∃ x, 2 ≤ cnt l x) ∧ Evt (fun k => rootcellarref5_marks.l2 k l b (d.length : Int) j) ([], 5) ∨
   ∃ b' : List Bool, b'.length = size.toNat ∧ (∀ x, 0 ≤ x → x < size → (rdOf false b' x = true ↔ (0 < cnt d x ∨ s.f0 ≤ x ∧ x < s.f0 + s.f1))) ∧ (∀ x, j ≤ x → x < s.f0 + s.f1 → cnt d x = 0) ∧
    ∀ v, Evt (fun k => rootcellarref5_marks.l1 k l b' ((d.length + 1 : Nat) : Int)) v → Evt (fun k => rootcellarref5_marks.l2 k l b (d.length : Int) j) v := by
 obtain ⟨o1, o2, o3⟩ := ho
 obtain ⟨z1, z2⟩ := hs
 have hdl : d.length < l.length := by rw [hl]; simp
 have hrd : rd_T64 l (d.length : Int) = s := by rw [hl]; exact rd_mid d s r
 have hw : wrap64 ((d.length : Int) + 1) = ((d.length + 1 : Nat) : Int) := by rw [wrap64_id (by omega) (by omega)]; rfl
 intro m
 induction m with
 | zero =>
  intro j b hm h1 h2 hb hbits
  have e : j = s.f0 + s.f1 := by omega
  subst e
  refine .inr ⟨b, hb, hbits, fun x hx1 hx2 => by omega, fun v hv => Evt.step (fun k => by rw [rootcellarref5_marks.l2]) ?_⟩
  rw [hrd, wrap64_id (n := s.f0 + s.f1) (by omega) (by omega), hw]
  exact Evt.pos (by omega) (Evt.pos (by omega) (Evt.neg (by omega) hv))
 | succ m ih =>
  intro j b hm h1 h2 hb hbits
  by_cases hj : rdOf false b j = true
  ·refine .inl ⟨⟨j, ?_⟩, Evt.step (fun k => by rw [rootcellarref5_marks.l2]) ?_⟩
   ·have := (hbits j (by omega) (by omega)).1 hj
    have h3 : 0 < cnt d j := by omega
    rw [hl, cnt_append, cnt_cons, if_pos (by omega)]
    omega
   ·rw [hrd, wrap64_id (n := s.f0 + s.f1) (by omega) (by omega)]
    exact Evt.pos (by omega) (Evt.pos (by omega) (Evt.pos (by omega) (Evt.pos (by omega) (Evt.pos (by omega) (Evt.pos hj (Evt.val _))))))
  ·have hcd : cnt d j = 0 := by
    have := mt (hbits j (by omega) (by omega)).2 hj
    omega
   have hrec := ih (j + 1) (b.set j.toNat true) (by omega) (by omega) (by omega) (by rw [List.length_set]; exact hb) (fun x hx1 hx2 => by
    rw [bit_set b j true x (by omega) (by omega) hx1]
    have := hbits x hx1 hx2
    by_cases e : x = j
    ·rw [if_pos e]; simp; omega
    ·rw [if_neg e, this]; omega)
   have hgo : ∀ v, Evt (fun k => rootcellarref5_marks.l2 k l (b.set j.toNat true) (d.length : Int) (j + 1)) v → Evt (fun k => rootcellarref5_marks.l2 k l b (d.length : Int) j) v := fun v hv => by
    refine Evt.step (fun k => by rw [rootcellarref5_marks.l2]) ?_
    rw [hrd, wrap64_id (n := s.f0 + s.f1) (by omega) (by omega), wrap64_id (n := j + 1) (by omega) (by omega)]
    exact Evt.pos (by omega) (Evt.pos (by omega) (Evt.pos (by omega) (Evt.pos (by omega) (Evt.pos (by omega) (Evt.neg hj hv)))))
   rcases hrec with ⟨h3, h4⟩ | ⟨b', k1, k2, k3, k4⟩
   ·exact .inl ⟨h3, hgo _ h4⟩
   ·refine .inr ⟨b', k1, k2, fun x hx1 hx2 => ?_, fun v hv => hgo _ (k4 v hv)⟩
    by_cases e : x = j
    ·rw [e]; exact hcd
    ·exact k3 x (by omega) hx2
theorem marks_go (l : List Sp) (size : Int) (hs : Sized size) (ho : OkL size l) (hlen : l.length ≤ 1000000) :
  ∀ (r d : List Sp) (b : List Bool), l = d ++ r → b.length = size.toNat → (∀ x, 0 ≤ x → x < size → (rdOf false b x = true ↔ 0 < cnt d x)) → (∀ x, cnt d x ≤ 1) →
   (∃ x, 2 ≤ cnt l x) ∧ Evt (fun k => rootcellarref5_marks.l1 k l b (d.length : Int)) ([], 5) ∨
   (∀ x, cnt l x ≤ 1) ∧ ∃ b' : List Bool, b'.length = size.toNat ∧ (∀ x, 0 ≤ x → x < size → (rdOf false b' x = true ↔ 0 < cnt l x)) ∧ Evt (fun k => rootcellarref5_marks.l1 k l b (d.length : Int)) (b', 0)
 | [], d, b, hl, hb, hbits, hc => by
  rw [List.append_nil] at hl
  subst hl
  exact .inr ⟨hc, b, hb, hbits, Evt.step (fun k => by rw [rootcellarref5_marks.l1]) (Evt.neg (by omega) (Evt.val _))⟩
 | s :: r, d, b, hl, hb, hbits, hc => by
  have hso := ho s (by rw [hl]; simp)
  have hdl : d.length < l.length := by rw [hl]; simp
  have hrd : rd_T64 l (d.length : Int) = s := by rw [hl]; exact rd_mid d s r
  have hgo : ∀ v, Evt (fun k => rootcellarref5_marks.l2 k l b (d.length : Int) s.f0) v → Evt (fun k => rootcellarref5_marks.l1 k l b (d.length : Int)) v := fun v hv => by
   refine Evt.step (fun k => by rw [rootcellarref5_marks.l1]) ?_
   rw [hrd]
   exact Evt.pos (by omega) (Evt.pos (by omega) hv)
  rcases marks_fill l d s r size hl hs hso hlen _ s.f0 b rfl (Int.le_refl _) (by have := hso.1; omega) hb (fun x h1 h2 => by rw [hbits x h1 h2]; omega) with ⟨h3, h4⟩ | ⟨b', k1, k2, k3, k4⟩
  ·exact .inl ⟨h3, hgo _ h4⟩
  ·have hd' : ∀ x, cnt (d ++ [s]) x = cnt d x + if s.f0 ≤ x ∧ x < s.f0 + s.f1 then 1 else 0 := fun x => by rw [cnt_append, cnt_one]
   have hrec := marks_go l size hs ho hlen r (d ++ [s]) b' (by rw [hl]; simp) k1 (fun x h1 h2 => by rw [k2 x h1 h2, hd']; split <;> omega) (fun x => by
    rw [hd']
    have := hc x
    split
    ·rename_i hh
     have := k3 x hh.1 hh.2
     omega
    ·omega)
   rw [show (d ++ [s]).length = d.length + 1 by simp] at hrec
   rcases hrec with ⟨h5, h6⟩ | ⟨h5, b2, h6, h7, h8⟩
   ·exact .inl ⟨h5, hgo _ (k4 _ h6)⟩
   ·exact .inr ⟨h5, b2, h6, h7, hgo _ (k4 _ h8)⟩
theorem marks_head (l : List Sp) (size : Int) (hs : Sized size) (hlen : l.length ≤ 1000000) : ∀ (r d : List Sp), l = d ++ r →
  (¬ OkL size r → Evt (fun k => rootcellarref5_marks.l0 k l size (d.length : Int)) ([], 11)) ∧
  (OkL size r → ∀ v, Evt (fun k => rootcellarref5_marks.l1 k l (List.replicate size.toNat false) 0) v → Evt (fun k => rootcellarref5_marks.l0 k l size (d.length : Int)) v)
 | [], d, hl => by
  rw [List.append_nil] at hl
  subst hl
  obtain ⟨z1, z2⟩ := hs
  refine ⟨fun h => absurd OkL.nil h, fun _ v hv => Evt.step (fun k => by rw [rootcellarref5_marks.l0]) ?_⟩
  exact Evt.neg (by omega) (Evt.pos (by omega) (Evt.pos (by omega) hv))
 | s :: r, d, hl => by
  have hdl : d.length < l.length := by rw [hl]; simp
  have hrd : rd_T64 l (d.length : Int) = s := by rw [hl]; exact rd_mid d s r
  have hw : wrap64 ((d.length : Int) + 1) = ((d.length + 1 : Nat) : Int) := by rw [wrap64_id (by omega) (by omega)]; rfl
  obtain ⟨i1, i2⟩ := marks_head l size hs hlen r (d ++ [s]) (by rw [hl]; simp)
  rw [show (d ++ [s]).length = d.length + 1 by simp] at i1 i2
  have hgo : insB size s = true → ∀ v, Evt (fun k => rootcellarref5_marks.l0 k l size ((d.length + 1 : Nat) : Int)) v → Evt (fun k => rootcellarref5_marks.l0 k l size (d.length : Int)) v := fun hin v hv => by
   refine Evt.step (fun k => by rw [rootcellarref5_marks.l0]) ?_
   rw [hrd, hw]
   exact Evt.pos (by omega) (Evt.pos (by omega) (Evt.bind' (refin size s) (Evt.pos hin hv)))
  by_cases hin : insB size s = true
  ·have hk := (insB_iff hs.1 hs.2 s).1 hin
   exact ⟨fun h => hgo hin _ (i1 fun k => h (OkL.cons hk k)), fun h v hv => hgo hin _ (i2 h.tail v hv)⟩
  ·refine ⟨fun _ => Evt.step (fun k => by rw [rootcellarref5_marks.l0]) ?_, fun h => absurd ((insB_iff hs.1 hs.2 s).2 h.head) hin⟩
   rw [hrd]
   exact Evt.pos (by omega) (Evt.pos (by omega) (Evt.bind' (refin size s) (Evt.neg hin (Evt.val _))))
theorem marks_bad {l : List Sp} {size : Int} (hlen : l.length ≤ 1000000) (h : ¬ (Sized size ∧ OkL size l)) : Evt (fun k => rootcellarref5_marks.f k l size) ([], 11) := by
 unfold rootcellarref5_marks.f
 by_cases h1 : size < 1
 ·exact Evt.pos h1 (Evt.step (fun k => by rw [rootcellarref5_marks.j0]) (Evt.pos rfl (Evt.val _)))
 ·refine Evt.neg h1 (Evt.step (fun k => by rw [rootcellarref5_marks.j0]) ?_)
  by_cases h2 : 8192 < size
  ·exact Evt.pos (by simpa using h2) (Evt.val _)
  ·exact Evt.neg (by simpa using h2) ((marks_head l size ⟨by omega, by omega⟩ hlen l [] rfl).1 fun k => h ⟨⟨by omega, by omega⟩, k⟩)
theorem marks_in {l : List Sp} {size : Int} (hlen : l.length ≤ 1000000) (hs : Sized size) (ho : OkL size l) :
  (∃ x, 2 ≤ cnt l x) ∧ Evt (fun k => rootcellarref5_marks.f k l size) ([], 5) ∨
  (∀ x, cnt l x ≤ 1) ∧ ∃ b' : List Bool, b'.length = size.toNat ∧ (∀ x, 0 ≤ x → x < size → (rdOf false b' x = true ↔ 0 < cnt l x)) ∧ Evt (fun k => rootcellarref5_marks.f k l size) (b', 0) := by
 obtain ⟨z1, z2⟩ := hs
 have hgo : ∀ v, Evt (fun k => rootcellarref5_marks.l1 k l (List.replicate size.toNat false) 0) v → Evt (fun k => rootcellarref5_marks.f k l size) v := fun v hv => by
  unfold rootcellarref5_marks.f
  refine Evt.neg (by omega) (Evt.step (fun k => by rw [rootcellarref5_marks.j0]) ?_)
  exact Evt.neg (by simpa using z2) ((marks_head l size ⟨z1, z2⟩ hlen l [] rfl).2 ho v hv)
 rcases marks_go l size ⟨z1, z2⟩ ho hlen l [] (List.replicate size.toNat false) rfl (by simp) (fun x _ _ => by rw [bit_rep, cnt_nil]; simp) (fun x => by rw [cnt_nil]; omega) with ⟨h3, h4⟩ | ⟨h3, b', h4, h5, h6⟩
 ·exact .inl ⟨h3, hgo _ h4⟩
 ·exact .inr ⟨h3, b', h4, h5, hgo _ h6⟩
theorem reftotal_ev (l : List Sp) (hl : l.length < 8796093022208) : Evt (fun k => rootcellarref5_Total.f k l) (totF l) := by
 unfold rootcellarref5_Total.f
 have key : ∀ n i : Nat, ∀ x : Int, l.length - i = n → i ≤ l.length → Evt (fun k => rootcellarref5_Total.l0 k l x (i : Int)) ((l.drop i).foldl totStep x) := by
  intro n
  induction n with
  | zero =>
   intro i x hn hi
   refine Evt.step (fun k => by rw [rootcellarref5_Total.l0]) ?_
   refine Evt.neg (by omega) (Evt.val' ?_)
   rw [List.drop_eq_nil_of_le (by omega)]; rfl
  | succ n ih =>
   intro i x hn hi
   refine Evt.step (fun k => by rw [rootcellarref5_Total.l0]) ?_
   refine Evt.pos (by omega) (Evt.pos (by omega) ?_)
   have hlt : i < l.length := by omega
   rw [wrap64_id (n := (i : Int) + 1) (by omega) (by omega), rd_T64_get l i hlt, List.drop_eq_getElem_cons hlt]
   exact ih (i + 1) _ (by omega) (by omega)
 exact key _ 0 0 rfl (Nat.zero_le _)
def rightF (size : Int) : Int → List Sp → Bool
 | _, [] => decide (1 ≤ size) && decide (size ≤ 8192)
 | e, s :: t => if insB size s = true then (if s.f0 ≤ e then false else rightF size (wrap64 (s.f0 + s.f1)) t) else false
theorem sized_f (size : Int) : span_sized.f size = some (decide (1 ≤ size) && decide (size ≤ 8192)) := by
 unfold span_sized.f
 by_cases h : 1 ≤ size <;> simp [h, GE.ge]
theorem right_ev (l : List Sp) (size : Int) (hl : l.length ≤ 100000) : Evt (fun k => span_Right.f k l size) (rightF size (-1) l) := by
 have key : ∀ (r d : List Sp) (e : Int), l = d ++ r → Evt (fun k => span_Right.l0 k size e l (l.length : Int) (d.length : Int)) (rightF size e r) := by
  intro r
  induction r with
  | nil =>
   intro d e hd
   rw [List.append_nil] at hd
   subst hd
   exact Evt.step (fun k => by rw [span_Right.l0]) (Evt.neg (by omega) (Evt.bind' (sized_f size) (Evt.val _)))
  | cons s r ih =>
   intro d e hd
   have hdl : d.length < l.length := by rw [hd]; simp
   have hrd : rd_T64 l (d.length : Int) = s := by rw [hd]; exact rd_mid d s r
   have hw : wrap64 ((d.length : Int) + 1) = ((d.length + 1 : Nat) : Int) := by rw [wrap64_id (by omega) (by omega)]; rfl
   have hi := ih (d ++ [s]) (wrap64 (s.f0 + s.f1)) (by rw [hd]; simp)
   rw [show (d ++ [s]).length = d.length + 1 by simp] at hi
   refine Evt.step (fun k => by rw [span_Right.l0]) (Evt.pos (by omega) (Evt.pos (by omega) (Evt.pos (by omega) ?_)))
   rw [hrd, hw]
   refine Evt.bind' (insB_f size s) ?_
   unfold rightF
   by_cases h1 : insB size s = true
   ·rw [if_pos h1]
    refine Evt.pos h1 ?_
    by_cases h2 : s.f0 ≤ e
    ·rw [if_pos h2]
     exact Evt.pos h2 (Evt.val _)
    ·rw [if_neg h2]
     exact Evt.neg h2 hi
   ·rw [if_neg h1]
    exact Evt.neg h1 (Evt.val _)
 unfold span_Right.f
 exact key l [] (-1) rfl
theorem rightF_sized {size : Int} (h : ¬ Sized size) : ∀ (l : List Sp) (e : Int), rightF size e l = false
 | [], _ => by
  unfold rightF
  unfold Sized at h
  by_cases h1 : 1 ≤ size
  ·simp [h1]; omega
  ·simp [h1]
 | s :: t, e => by
  unfold rightF
  split
  ·split
   ·rfl
   ·exact rightF_sized h t _
  ·rfl
theorem rightF_iff {size : Int} (h : Sized size) : ∀ (l : List Sp) (e : Int), rightF size e l = true ↔ OkL size l ∧ Canon l ∧ ∀ s ∈ l, e < s.f0
 | [], e => by
  obtain ⟨h1, h2⟩ := h
  unfold rightF
  simp only [h1, h2, decide_true, Bool.and_self, true_iff]
  exact ⟨OkL.nil, List.Pairwise.nil, fun _ h => (nomatch h)⟩
 | s :: t, e => by
  unfold rightF
  by_cases h1 : insB size s = true
  ·have ho := (insB_iff h.1 h.2 s).1 h1
   have hw : wrap64 (s.f0 + s.f1) = s.f0 + s.f1 := by obtain ⟨_, _, _⟩ := ho; obtain ⟨_, _⟩ := h; exact wrap64_id (by omega) (by omega)
   rw [if_pos h1, hw]
   by_cases h2 : s.f0 ≤ e
   ·rw [if_pos h2]
    refine ⟨fun k => (nomatch k), fun k => ?_⟩
    have := k.2.2 s (List.mem_cons_self ..)
    omega
   ·rw [if_neg h2, rightF_iff h t]
    constructor
    ·rintro ⟨k1, k2, k3⟩
     refine ⟨OkL.cons ho k1, List.Pairwise.cons k3 k2, fun u hu => ?_⟩
     rcases List.mem_cons.1 hu with rfl | hu
     ·omega
     ·have := k3 u hu; have := ho.1; omega
    ·rintro ⟨k1, k2, k3⟩
     obtain ⟨c1, c2⟩ := List.pairwise_cons.1 k2
     exact ⟨k1.tail, c2, c1⟩
  ·rw [if_neg h1]
   refine ⟨fun k => (nomatch k), fun k => ?_⟩
   exact absurd ((insB_iff h.1 h.2 s).2 k.1.head) h1
theorem refeq_go (l a : List Sp) (hl : l.length ≤ 100000) : ∀ (r q d : List Sp), l = d ++ r → a = d ++ q → r.length = q.length →
  (l = a ∧ Evt (fun k => rootcellarref5_Right.l0 k l a (d.length : Int)) true) ∨ (l ≠ a ∧ Evt (fun k => rootcellarref5_Right.l0 k l a (d.length : Int)) false)
 | [], [], d, h1, h2, _ => by
  refine .inl ⟨h1.trans h2.symm, ?_⟩
  rw [List.append_nil] at h1
  subst h1
  exact Evt.step (fun k => by rw [rootcellarref5_Right.l0]) (Evt.neg (by omega) (Evt.val _))
 | [], _ :: _, _, _, _, h => by simp at h
 | _ :: _, [], _, _, _, h => by simp at h
 | s :: r, u :: q, d, h1, h2, h3 => by
  have hdl : d.length < l.length := by rw [h1]; simp
  have hda : d.length < a.length := by rw [h2]; simp
  have hr1 : rd_T64 l (d.length : Int) = s := by rw [h1]; exact rd_mid d s r
  have hr2 : rd_T64 a (d.length : Int) = u := by rw [h2]; exact rd_mid d u q
  have hw : wrap64 ((d.length : Int) + 1) = ((d.length + 1 : Nat) : Int) := by rw [wrap64_id (by omega) (by omega)]; rfl
  by_cases he : s = u
  ·subst he
   have hstep : ∀ v, Evt (fun k => rootcellarref5_Right.l0 k l a ((d ++ [s]).length : Int)) v → Evt (fun k => rootcellarref5_Right.l0 k l a (d.length : Int)) v := fun v hv => by
    rw [show (d ++ [s]).length = d.length + 1 by simp] at hv
    refine Evt.step (fun k => by rw [rootcellarref5_Right.l0]) ?_
    rw [hr1, hr2, hw]
    exact Evt.pos (by omega) (Evt.pos (by omega) (Evt.pos (by omega) (Evt.neg (by simp) hv)))
   rcases refeq_go l a hl r q (d ++ [s]) (by rw [h1]; simp) (by rw [h2]; simp) (by simpa using h3) with ⟨k1, k2⟩ | ⟨k1, k2⟩
   ·exact .inl ⟨k1, hstep _ k2⟩
   ·exact .inr ⟨k1, hstep _ k2⟩
  ·refine .inr ⟨fun k => he ?_, Evt.step (fun k => by rw [rootcellarref5_Right.l0]) ?_⟩
   ·rw [h1, h2] at k
    have := List.append_cancel_left k
    exact (List.cons.inj this).1
   ·rw [hr1, hr2]
    refine Evt.pos (by omega) (Evt.pos (by omega) (Evt.pos (by omega) (Evt.pos ?_ (Evt.val _))))
    by_cases e0 : s.f0 = u.f0
    ·by_cases e1 : s.f1 = u.f1
     ·exact absurd (Sp.ext' e0 e1) he
     ·simp [e1]
    ·simp [e0]
theorem refnormD_no {l : List Sp} {size : Int} (hlen : l.length ≤ 1000000) (h : ¬ (Sized size ∧ OkL size l ∧ ∀ x, cnt l x ≤ 1)) : ∃ e : Int, (e = 11 ∨ e = 5) ∧ Evt (fun k => rootcellarref5_Norm.f k l size) ([], e) := by
 unfold rootcellarref5_Norm.f
 by_cases h1 : Sized size ∧ OkL size l
 ·rcases marks_in hlen h1.1 h1.2 with ⟨_, h4⟩ | ⟨h4, _⟩
  ·exact ⟨5, .inr rfl, Evt.bind h4 (Evt.neg (by decide) (Evt.val _))⟩
  ·exact absurd ⟨h1.1, h1.2, h4⟩ h
 ·exact ⟨11, .inl rfl, Evt.bind (marks_bad hlen h1) (Evt.neg (by decide) (Evt.val _))⟩
theorem refnormD_ok {l : List Sp} {size : Int} (hlen : l.length ≤ 1000000) (hs : Sized size) (ho : OkL size l) (h3 : ∀ x, cnt l x ≤ 1) :
  ∃ a, Evt (fun k => rootcellarref5_Norm.f k l size) (a, 0) ∧ OkL size a ∧ Canon a ∧ ∀ x, cnt a x = cnt l x := by
 rcases marks_in hlen hs ho with ⟨⟨x, hx⟩, _⟩ | ⟨_, m, m1, m2, m3⟩
 ·have := h3 x; omega
 ·obtain ⟨z1, z2⟩ := hs
  have hml : ((m.length : Nat) : Int) = size := by rw [m1]; omega
  obtain ⟨a, a1, a2, a3, a4⟩ := row_ev m (by omega)
  rw [hml] at a2 a4
  refine ⟨a, ?_, a2, a3, fun x => ?_⟩
  ·unfold rootcellarref5_Norm.f
   exact Evt.bind m3 (Evt.pos rfl (Evt.bind a1 (Evt.val _)))
  ·rw [a4]
   have := h3 x
   by_cases hx : 0 ≤ x ∧ x < size
   ·have := m2 x hx.1 hx.2
    split
    ·rename_i hh
     have := this.1 hh.2.2
     omega
    ·rename_i hh
     have : ¬ rdOf false m x = true := fun k => hh ⟨hx.1, hx.2, k⟩
     have := mt (m2 x hx.1 hx.2).2 this
     omega
   ·rw [if_neg (by omega), cnt_out ho (by omega)]
theorem refright_ev {l : List Sp} (hl : l.length ≤ 100000) (size : Int) : Evt (fun k => rootcellarref5_Right.f k l size) (rightF size (-1) l) := by
 unfold rootcellarref5_Right.f
 by_cases hall : Sized size ∧ OkL size l ∧ ∀ x, cnt l x ≤ 1
 ·obtain ⟨h1, h2, h3⟩ := hall
  obtain ⟨a, f1, a1, a2, a3⟩ := refnormD_ok (by omega) h1 h2 h3
  refine Evt.bind f1 (Evt.pos rfl (Evt.step (fun k => by rw [rootcellarref5_Right.j0]) ?_))
  have hal := len_canon (by have := h1.1; omega) a1 (cnt_dis a1 a2.dis)
  by_cases hlen : a.length = l.length
  ·refine Evt.neg (by simp [hlen]) ?_
   rcases refeq_go l a (by omega) l a [] rfl rfl hlen.symm with ⟨k1, k2⟩ | ⟨k1, k2⟩
   ·subst k1
    rw [(rightF_iff h1 l (-1)).2 ⟨a1, a2, fun s hs => by have := (a1 s hs).2.1; omega⟩]
    exact k2
   ·have hf : rightF size (-1) l = false := by
     rw [Bool.eq_false_iff]
     intro k
     obtain ⟨_, k3, _⟩ := (rightF_iff h1 l (-1)).1 k
     exact k1 (canon_unique h2 a1 k3 a2 (fun x => (a3 x).symm))
    rw [hf]
    exact k2
  ·refine Evt.pos (by have := h1.2; simp; omega) (Evt.val' ?_)
   symm
   rw [Bool.eq_false_iff]
   intro k
   obtain ⟨_, k3, _⟩ := (rightF_iff h1 l (-1)).1 k
   exact hlen (by rw [canon_unique h2 a1 k3 a2 (fun x => (a3 x).symm)])
 ·obtain ⟨e, he, f1⟩ := refnormD_no (by omega) hall
  have hf : rightF size (-1) l = false := by
   rw [Bool.eq_false_iff]
   intro k
   by_cases hs : Sized size
   ·obtain ⟨k1, k2, _⟩ := (rightF_iff hs l (-1)).1 k
    exact hall ⟨hs, k1, cnt_dis k1 k2.dis⟩
   ·rw [rightF_sized hs] at k
    cases k
  rw [hf]
  exact Evt.bind f1 (Evt.neg (by rcases he with rfl | rfl <;> decide) (Evt.step (fun k => by rw [rootcellarref5_Right.j0]) (Evt.pos rfl (Evt.val _))))
end Go.Proofs.YtppbcankhkgpfaaDoor.Th
namespace Go.Proofs.YtppbcankhkgpfaaDoor.Th
open Go.RowKit Go.Proofs.YtppbcankhkgpfaaDoor.PDq Go.Proofs.YtppbcankhkgpfaaDoorW.PrintWords Go.Proofs.YtppbcankhkgpfaaDoorW.PrintLast Go.Proofs.YtppbcankhkgpfaaDoorW.PrintMore
set_option linter.unusedVariables false
set_option linter.unusedSimpArgs false
abbrev Fi := S43
abbrev Rf := S45
def toR (f : Fi) : Rf := ⟨f.f0, f.f1, f.f2⟩
theorem rdF_mid (d : List Fi) (s : Fi) (r : List Fi) : rd_T43 (d ++ s :: r) (d.length : Int) = s := by
 unfold rd_T43
 rw [Int.toNat_natCast, List.getD_eq_getElem?_getD, List.getElem?_append_right (Nat.le_refl _)]
 simp
theorem rdR_mid (d : List Rf) (s : Rf) (r : List Rf) : rd_T45 (d ++ s :: r) (d.length : Int) = s := by
 unfold rd_T45
 rw [Int.toNat_natCast, List.getD_eq_getElem?_getD, List.getElem?_append_right (Nat.le_refl _)]
 simp
/-! ### Files that are well -/
def Bd (f : Fi) : Prop := f.f0.size ≤ 100000 ∧ f.f2.length ≤ 100000
def BdL (l : List Fi) : Prop := l.length ≤ 100000 ∧ ∀ f ∈ l, Bd f
def wellB (f : Fi) : Bool := labB f.f0.data.toList && (decide (0 ≤ f.f1) && (decide (f.f1 ≤ 20000) && (decide (f.f2.length ≤ 200) && (rightF 8192 (-1) f.f2 && (decide (f.f1 ≤ sumF f.f2 * 64) && decide (sumF f.f2 * 64 - f.f1 < 64))))))
theorem sz8 : Sized 8192 := ⟨by decide, by decide⟩
theorem sum_bd {l : List Sp} (h : rightF 8192 (-1) l = true) (hl : l.length ≤ 100000) : totF l = sumF l ∧ 0 ≤ sumF l ∧ sumF l ≤ 819200000 := by
 obtain ⟨h1, _, _⟩ := (rightF_iff sz8 l (-1)).1 h
 have h2 := sumF_bound h1 (by decide)
 exact ⟨totF_sum (by decide) (by decide) h1 (by omega), h2.1, by omega⟩
theorem well_ev (f : Fi) (hb : Bd f) : Evt (fun k => dir_File_well.f k f.f0 f.f1 f.f2) (wellB f) := by
 obtain ⟨h1, h2⟩ := hb
 unfold dir_File_well.f wellB
 refine Evt.bind (total_ev f.f2 (by omega)) ?_
 have hl := label_f f.f0.data.toList (by rw [← Lib.size_eq]; omega)
 rw [B_of] at hl
 refine Evt.bind' hl ?_
 cases labB f.f0.data.toList with
 | false => exact Evt.neg (by decide) (Evt.val _)
 | true =>
  refine Evt.pos rfl ?_
  by_cases c1 : 0 ≤ f.f1
  ·refine Evt.pos c1 ?_
   by_cases c2 : f.f1 ≤ 20000
   ·refine Evt.pos c2 ?_
    by_cases c3 : f.f2.length ≤ 200
    ·refine Evt.pos (by omega) (Evt.bind (right_ev f.f2 8192 h2) ?_)
     simp only [c1, c2, c3, decide_true, Bool.true_and]
     cases hr : rightF 8192 (-1) f.f2 with
     | false => exact Evt.neg (by decide) (Evt.val _)
     | true =>
      obtain ⟨e, k1, k2⟩ := sum_bd hr h2
      have hw : wrap64 (totF f.f2 * 64) = sumF f.f2 * 64 := by rw [e, wrap64_id (by omega) (by omega)]
      refine Evt.pos rfl ?_
      rw [hw]
      by_cases c4 : f.f1 ≤ sumF f.f2 * 64
      ·refine Evt.pos c4 (Evt.val' ?_)
       rw [wrap64_id (by omega) (by omega)]
       simp [c4]
      ·exact Evt.neg c4 (Evt.val' (by simp [c4]))
    ·exact Evt.neg (by omega) (Evt.val' (by simp [c3]))
   ·exact Evt.neg c2 (Evt.val' (by simp [c2]))
  ·exact Evt.neg c1 (Evt.val' (by simp [c1]))
theorem need_f (n : Int) (h0 : 0 ≤ n) (h1 : n ≤ 20000) : rootcellarref6_Need.f n = some ((n + 63) / 64) := by
 have t1 : Int.tmod n 64 = n % 64 := Int.tmod_eq_emod_of_nonneg h0
 have t2 : Int.tdiv n 64 = n / 64 := Int.tdiv_eq_ediv_of_nonneg h0
 unfold rootcellarref6_Need.f
 rw [t1, t2, wrap64_id (n := n / 64) (by omega) (by omega), wrap64_id (n := n / 64 + 1) (by omega) (by omega)]
 by_cases c : n % 64 > 0
 ·rw [if_pos c]; congr 1; omega
 ·rw [if_neg c]; congr 1; omega
theorem refwell_ev (f : Fi) (hb : Bd f) : Evt (fun k => rootcellarref7_well.f k f.f0 f.f1 f.f2) (wellB f) := by
 obtain ⟨h1, h2⟩ := hb
 unfold rootcellarref7_well.f wellB
 have hl := reflabel_ev f.f0.data.toList (by rw [← Lib.size_eq]; omega)
 rw [B_of] at hl
 refine Evt.bind hl (Evt.bind (refright_ev h2 8192) ?_)
 cases labB f.f0.data.toList with
 | false => exact Evt.neg (by decide) (Evt.val _)
 | true =>
  refine Evt.pos rfl ?_
  cases hr : rightF 8192 (-1) f.f2 with
  | false => exact Evt.neg (by decide) (Evt.val' (by simp))
  | true =>
   refine Evt.pos rfl ?_
   by_cases c1 : 0 ≤ f.f1
   ·refine Evt.pos c1 ?_
    by_cases c2 : f.f1 ≤ 20000
    ·refine Evt.pos c2 ?_
     by_cases c3 : f.f2.length ≤ 200
     ·refine Evt.pos (by omega) (Evt.bind (reftotal_ev f.f2 (by omega)) ?_)
      obtain ⟨e, k1, k2⟩ := sum_bd hr h2
      rw [e]
      simp only [c1, c2, c3, decide_true, Bool.true_and]
      refine Evt.bind' (need_f f.f1 c1 c2) (Evt.val' ?_)
      rw [Bool.eq_iff_iff]
      simp only [beq_iff_eq, Bool.and_eq_true, decide_eq_true_eq]
      omega
     ·exact Evt.neg (by omega) (Evt.val' (by simp [c3]))
    ·exact Evt.neg c2 (Evt.val' (by simp [c2]))
   ·exact Evt.neg c1 (Evt.val' (by simp [c1]))
/-! ### Rows that are directories -/
def lt8 (a b : ByteArray) : Bool := Op.bytesLess a.toList b.toList
def goB : Option ByteArray → List Fi → Bool
 | _, [] => true
 | none, f :: t => wellB f && goB (some f.f0) t
 | some q, f :: t => wellB f && (lt8 q f.f0 && goB (some f.f0) t)
def dirB (l : List Fi) : Bool := goB none l && decide (l.length ≤ 120)
theorem idx (n : Nat) (h : n ≤ 100000) : wrap64 ((n : Int) + 1) = ((n + 1 : Nat) : Int) := by rw [wrap64_id (by omega) (by omega)]; rfl
theorem directory_ev (l : List Fi) (hb : BdL l) : Evt (fun k => dir_directory.f k l) (dirB l) := by
 obtain ⟨hl, hw⟩ := hb
 have jf : ∀ n : Int, Evt (fun k => dir_directory.j1 k l l (l.length : Int) n true) false := fun n => Evt.step (fun k => by rw [dir_directory.j1]) (Evt.pos rfl (Evt.val _))
 have fin : ∀ n : Int, ¬ n < (l.length : Int) → Evt (fun k => dir_directory.l0 k l l (l.length : Int) n) (decide (l.length ≤ 120)) := fun n hn =>
  Evt.step (fun k => by rw [dir_directory.l0]) (Evt.neg hn (Evt.val' (by simp; omega)))
 have key : ∀ (r d : List Fi) (q : Fi), l = d ++ q :: r → Evt (fun k => dir_directory.l0 k l l (l.length : Int) ((d.length + 1 : Nat) : Int)) (goB (some q.f0) r && decide (l.length ≤ 120)) := by
  intro r
  induction r with
  | nil =>
   intro d q hd
   have hlen : l.length = d.length + 1 := by rw [hd]; simp
   exact fin _ (by omega)
  | cons f r ih =>
   intro d q hd
   have hlen : l.length = d.length + (r.length + 2) := by rw [hd]; simp
   have hd2 : l = (d ++ [q]) ++ f :: r := by rw [hd]; simp
   have hrd : rd_T43 l ((d.length + 1 : Nat) : Int) = f := by
    have := rdF_mid (d ++ [q]) f r
    rwa [← hd2, show (d ++ [q]).length = d.length + 1 by simp] at this
   have hrq : rd_T43 l (d.length : Int) = q := by
    have := rdF_mid d q (f :: r)
    rwa [← hd] at this
   have hp : wrap64 (((d.length + 1 : Nat) : Int) - 1) = (d.length : Int) := by rw [wrap64_id (by omega) (by omega)]; omega
   have hi := ih (d ++ [q]) f hd2
   rw [show (d ++ [q]).length = d.length + 1 by simp] at hi
   refine Evt.step (fun k => by rw [dir_directory.l0]) (Evt.pos (by omega) (Evt.pos (by omega) (Evt.pos (by omega) ?_)))
   rw [hrd, hp, hrq]
   refine Evt.bind (well_ev f (hw f (by rw [hd]; simp))) ?_
   unfold goB
   cases wellB f with
   | false => exact Evt.neg (by decide) (jf _)
   | true =>
    refine Evt.pos rfl (Evt.pos (by omega) (Evt.pos (by omega) (Evt.pos (by omega) ?_)))
    rw [Bool.true_and]
    show Evt (fun k => dir_directory.j1 k l l (l.length : Int) _ (!lt8 q.f0 f.f0)) _
    cases lt8 q.f0 f.f0 with
    | false => exact jf _
    | true =>
     refine Evt.step (fun k => by rw [dir_directory.j1]) (Evt.neg (by decide) ?_)
     rw [idx _ (by omega)]
     exact hi
 unfold dir_directory.f dirB
 cases l with
 | nil => exact fin 0 (by simp)
 | cons f r =>
  refine Evt.step (fun k => by rw [dir_directory.l0]) (Evt.pos (by simp) (Evt.pos (by omega) (Evt.pos (by simp) ?_)))
  have hrd : rd_T43 (f :: r) 0 = f := rfl
  rw [hrd]
  refine Evt.bind (well_ev f (hw f (by simp))) ?_
  unfold goB
  cases wellB f with
  | false => exact Evt.neg (by decide) (jf _)
  | true =>
   refine Evt.pos rfl (Evt.neg (by omega) (Evt.step (fun k => by rw [dir_directory.j1]) (Evt.neg (by decide) ?_)))
   rw [Bool.true_and, show wrap64 (0 + 1) = (((0 : Nat) + 1 : Nat) : Int) by rw [wrap64_id (by omega) (by omega)]; rfl]
   exact key r [] f rfl
theorem refis_ev (l : List Fi) (hb : BdL l) : Evt (fun k => rootcellarref7_Is.f k (l.map toR)) (dirB l) := by
 obtain ⟨hl, hw⟩ := hb
 have hml : (l.map toR).length = l.length := List.length_map ..
 have jf : ∀ n : Int, Evt (fun k => rootcellarref7_Is.j1 k (l.map toR) n true) false := fun n => Evt.step (fun k => by rw [rootcellarref7_Is.j1]) (Evt.pos rfl (Evt.val _))
 have fin : ∀ n : Int, ¬ n < (l.length : Int) → Evt (fun k => rootcellarref7_Is.l0 k (l.map toR) n) (decide (l.length ≤ 120)) := fun n hn =>
  Evt.step (fun k => by rw [rootcellarref7_Is.l0]) (Evt.neg (by rw [hml]; exact hn) (Evt.val' (by rw [hml]; simp; omega)))
 have key : ∀ (r d : List Fi) (q : Fi), l = d ++ q :: r → Evt (fun k => rootcellarref7_Is.l0 k (l.map toR) ((d.length + 1 : Nat) : Int)) (goB (some q.f0) r && decide (l.length ≤ 120)) := by
  intro r
  induction r with
  | nil =>
   intro d q hd
   have hlen : l.length = d.length + 1 := by rw [hd]; simp
   exact fin _ (by omega)
  | cons f r ih =>
   intro d q hd
   have hlen : l.length = d.length + (r.length + 2) := by rw [hd]; simp
   have hd2 : l = (d ++ [q]) ++ f :: r := by rw [hd]; simp
   have hrd : rd_T45 (l.map toR) ((d.length + 1 : Nat) : Int) = toR f := by
    have := rdR_mid ((d ++ [q]).map toR) (toR f) (r.map toR)
    rwa [← List.map_cons, ← List.map_append, ← hd2, List.length_map, show (d ++ [q]).length = d.length + 1 by simp] at this
   have hrq : rd_T45 (l.map toR) (d.length : Int) = toR q := by
    have := rdR_mid (d.map toR) (toR q) ((f :: r).map toR)
    rwa [← List.map_cons, ← List.map_append, ← hd, List.length_map] at this
   have hp : wrap64 (((d.length + 1 : Nat) : Int) - 1) = (d.length : Int) := by rw [wrap64_id (by omega) (by omega)]; omega
   have hi := ih (d ++ [q]) f hd2
   rw [show (d ++ [q]).length = d.length + 1 by simp] at hi
   refine Evt.step (fun k => by rw [rootcellarref7_Is.l0]) (Evt.pos (by rw [hml]; omega) (Evt.pos (by omega) ?_))
   rw [hrd, hp, hrq]
   refine Evt.bind (refwell_ev f (hw f (by rw [hd]; simp))) ?_
   unfold goB
   cases wellB f with
   | false => exact Evt.neg (by decide) (jf _)
   | true =>
    refine Evt.pos rfl (Evt.pos (by omega) (Evt.pos (by omega) (Evt.pos (by rw [hml]; omega) ?_)))
    rw [Bool.true_and]
    show Evt (fun k => rootcellarref7_Is.j1 k (l.map toR) _ (!lt8 q.f0 f.f0)) _
    cases lt8 q.f0 f.f0 with
    | false => exact jf _
    | true =>
     refine Evt.step (fun k => by rw [rootcellarref7_Is.j1]) (Evt.neg (by decide) ?_)
     rw [idx _ (by omega)]
     exact hi
 unfold rootcellarref7_Is.f dirB
 cases l with
 | nil => exact fin 0 (by simp)
 | cons f r =>
  refine Evt.step (fun k => by rw [rootcellarref7_Is.l0]) (Evt.pos (by simp) (Evt.pos (by omega) ?_))
  have hrd : rd_T45 ((f :: r).map toR) 0 = toR f := rfl
  rw [hrd]
  refine Evt.bind (refwell_ev f (hw f (by simp))) ?_
  unfold goB
  cases wellB f with
  | false => exact Evt.neg (by decide) (jf _)
  | true =>
   refine Evt.pos rfl (Evt.neg (by omega) (Evt.step (fun k => by rw [rootcellarref7_Is.j1]) (Evt.neg (by decide) ?_)))
   rw [Bool.true_and, show wrap64 (0 + 1) = (((0 : Nat) + 1 : Nat) : Int) by rw [wrap64_id (by omega) (by omega)]; rfl]
   exact key r [] f rfl
/-! ### What bytes say, and files' bytes -/
def spansC : Nat → St → List Sp → List Sp × St
 | 0, st, acc => (acc, st)
 | n + 1, st, acc => spansC n (nm 2 (nm 2 st).2).2 (acc ++ [⟨(nm 2 st).1, (nm 2 (nm 2 st).2).1⟩])
def fileA (st : St) : Int × St := nm 1 st
def fileN (st : St) : List UInt8 × St := tx (fileA st).1.toNat (fileA st).2
def fileS (st : St) : Int × St := nm 4 (fileN st).2
def fileM (st : St) : Int × St := nm 1 (fileS st).2
def fileC (st : St) : Fi × St := (⟨B (fileN st).1, (fileS st).1, (spansC (fileM st).1.toNat (fileM st).2 []).1⟩, (spansC (fileM st).1.toNat (fileM st).2 []).2)
def filesC : Nat → St → List Fi → List Fi × St
 | 0, st, acc => (acc, st)
 | n + 1, st, acc => filesC n (fileC st).2 (acc ++ [(fileC st).1])
theorem tx_good {m : Nat} {st : St} (h : (tx m st).2.2 = false) : st.2 = false ∧ st.1 = (tx m st).1 ++ (tx m st).2.1 ∧ (tx m st).1.length = m := by
 unfold tx at h ⊢
 by_cases c : st.2 = false ∧ m ≤ st.1.length
 ·rw [if_pos c]
  exact ⟨c.1, (List.take_append_drop _ _).symm, by rw [List.length_take]; exact Nat.min_eq_left c.2⟩
 ·rw [if_neg c] at h
  cases h
theorem nm_good {m : Nat} (hm : m ≤ 8) {st : St} (h : (nm m st).2.2 = false) : st.2 = false ∧ st.1 = numL (nm m st).1 m ++ (nm m st).2.1 := by
 obtain ⟨h1, h2, h3⟩ := tx_good h
 refine ⟨h1, ?_⟩
 have := numL_leNat (tx m st).1 (by omega)
 rw [h3] at this
 show st.1 = numL (Lib.leNat (tx m st).1 : Int) m ++ (tx m st).2.1
 rw [this]
 exact h2
theorem tx_app (a r : List UInt8) : tx a.length (a ++ r, false) = (a, (r, false)) := by
 unfold tx
 rw [if_pos ⟨rfl, by simp⟩]
 simp
theorem nm_num (n : Int) (m : Nat) (r : List UInt8) (h0 : 0 ≤ n) (hm : m ≤ 8) (h : n < ((256 ^ m : Nat) : Int)) : nm m (numL n m ++ r, false) = (n, (r, false)) := by
 have h1 := tx_app (numL n m) r
 rw [numL_len] at h1
 unfold nm
 rw [h1]
 simp only [leNat_numL n m h0 hm h]
theorem spanL_eq (a b : Int) : spanL ⟨a, b⟩ = numL a 2 ++ numL b 2 := rfl
theorem spansC_P : ∀ (n : Nat) (st : St) (acc : List Sp), (spansC n st acc).2.2 = false → st.2 = false ∧ ∃ sp, (spansC n st acc).1 = acc ++ sp ∧ sp.length = n ∧ st.1 = sp.flatMap spanL ++ (spansC n st acc).2.1
 | 0, st, acc, h => ⟨h, [], by simp [spansC], rfl, by simp [spansC]⟩
 | n + 1, st, acc, h => by
  unfold spansC at h ⊢
  obtain ⟨h1, sp, h2, h3, h4⟩ := spansC_P n _ _ h
  obtain ⟨k1, k2⟩ := nm_good (by decide) h1
  obtain ⟨j1, j2⟩ := nm_good (by decide) k1
  refine ⟨j1, ⟨(nm 2 st).1, (nm 2 (nm 2 st).2).1⟩ :: sp, ?_, by simp [h3], ?_⟩
  ·rw [h2, List.append_assoc]; rfl
  ·rw [List.flatMap_cons, spanL_eq, List.append_assoc, List.append_assoc, ← h4, ← k2]
   exact j2
theorem spansC_len : ∀ (n : Nat) (st : St) (acc : List Sp), (spansC n st acc).1.length = acc.length + n ∧ (spansC n st acc).2.1.length ≤ st.1.length
 | 0, st, acc => ⟨rfl, Nat.le_refl _⟩
 | n + 1, st, acc => by
  unfold spansC
  have h := spansC_len n (nm 2 (nm 2 st).2).2 (acc ++ [⟨(nm 2 st).1, (nm 2 (nm 2 st).2).1⟩])
  have h1 := nm_len 2 st
  have h2 := nm_len 2 (nm 2 st).2
  rw [List.length_append] at h
  refine ⟨by rw [h.1]; simp; omega, by omega⟩
theorem fileC_len (st : St) : (fileC st).2.1.length ≤ st.1.length := by
 have h := (spansC_len (fileM st).1.toNat (fileM st).2 []).2
 have h1 : (fileM st).2.1.length ≤ (fileS st).2.1.length := nm_len 1 _
 have h2 : (fileS st).2.1.length ≤ (fileN st).2.1.length := nm_len 4 _
 have h3 : (fileN st).2.1.length ≤ (fileA st).2.1.length := (tx_len _ _).2.1
 have h4 : (fileA st).2.1.length ≤ st.1.length := nm_len 1 _
 show (spansC _ _ _).2.1.length ≤ _
 omega
theorem fileC_bd (st : St) (h : st.1.length ≤ 100000) : Bd (fileC st).1 := by
 have h3 : (fileN st).1.length ≤ (fileA st).2.1.length := (tx_len _ _).2.2
 have h4 : (fileA st).2.1.length ≤ st.1.length := nm_len 1 _
 refine ⟨?_, ?_⟩
 ·show (B (fileN st).1).size ≤ _
  rw [B_size]; omega
 ·show (spansC _ _ _).1.length ≤ _
  rw [(spansC_len _ _ _).1]
  have := (nm_range 1 (by decide) (fileS st).2).2.2
  have e : (fileM st).1 = (nm 1 (fileS st).2).1 := rfl
  have e2 : (256 ^ 1 : Nat) = 256 := rfl
  rw [e2] at this
  simp only [List.length_nil]
  omega
theorem fileC_P {st : St} (h : (fileC st).2.2 = false) : st.2 = false ∧ st.1 = fileL (fileC st).1 ++ (fileC st).2.1 := by
 obtain ⟨h1, sp, h2, h3, h4⟩ := spansC_P _ _ _ h
 rw [List.nil_append] at h2
 obtain ⟨k1, k2⟩ := nm_good (by decide) (show (nm 1 (fileS st).2).2.2 = false from h1)
 obtain ⟨j1, j2⟩ := nm_good (by decide) (show (nm 4 (fileN st).2).2.2 = false from k1)
 obtain ⟨i1, i2, i3⟩ := tx_good (show (tx (fileA st).1.toNat (fileA st).2).2.2 = false from j1)
 obtain ⟨g1, g2⟩ := nm_good (by decide) (show (nm 1 st).2.2 = false from i1)
 have r0 := (nm_range 1 (by decide) st).1
 have r1 := (nm_range 1 (by decide) (fileS st).2).1
 refine ⟨g1, ?_⟩
 have hM : ((spansC (fileM st).1.toNat (fileM st).2 []).1.length : Int) = (nm 1 (fileS st).2).1 := by
  rw [(spansC_len _ _ _).1, List.length_nil, Nat.zero_add]
  exact Int.toNat_of_nonneg r1
 have hN : ((B (fileN st).1).size : Int) = (nm 1 st).1 := by
  rw [B_size, show (fileN st).1.length = (fileA st).1.toNat from i3]
  exact Int.toNat_of_nonneg r0
 unfold fileL
 show st.1 = (numL ((B (fileN st).1).size : Int) 1 ++ ((B (fileN st).1).data.toList ++ (numL (nm 4 (fileN st).2).1 4 ++ (numL ((spansC (fileM st).1.toNat (fileM st).2 []).1.length : Int) 1 ++ (spansC (fileM st).1.toNat (fileM st).2 []).1.flatMap spanL)))) ++ (spansC (fileM st).1.toNat (fileM st).2 []).2.1
 rw [hM, hN, B_data, h2]
 simp only [List.append_assoc]
 rw [← show (nm 1 (fileS st).2).2.1 = _ from h4, ← k2, ← show (nm 4 (fileN st).2).2.1 = (fileS st).2.1 from rfl, ← j2, ← show (tx (fileA st).1.toNat (fileA st).2).2.1 = (fileN st).2.1 from rfl, ← show (tx (fileA st).1.toNat (fileA st).2).1 = (fileN st).1 from rfl, ← i2]
 exact g2
theorem filesC_P : ∀ (n : Nat) (st : St) (acc : List Fi), (filesC n st acc).2.2 = false → st.2 = false ∧ ∃ fs, (filesC n st acc).1 = acc ++ fs ∧ fs.length = n ∧ st.1 = fs.flatMap fileL ++ (filesC n st acc).2.1
 | 0, st, acc, h => ⟨h, [], by simp [filesC], rfl, by simp [filesC]⟩
 | n + 1, st, acc, h => by
  unfold filesC at h ⊢
  obtain ⟨h1, fs, h2, h3, h4⟩ := filesC_P n _ _ h
  obtain ⟨k1, k2⟩ := fileC_P h1
  refine ⟨k1, (fileC st).1 :: fs, ?_, by simp [h3], ?_⟩
  ·rw [h2, List.append_assoc]; rfl
  ·rw [List.flatMap_cons, List.append_assoc, ← h4]
   exact k2
theorem filesC_bd : ∀ (n : Nat) (st : St) (acc : List Fi), st.1.length ≤ 100000 → (∀ f ∈ acc, Bd f) → (filesC n st acc).1.length = acc.length + n ∧ (∀ f ∈ (filesC n st acc).1, Bd f)
 | 0, st, acc, _, hb => ⟨rfl, hb⟩
 | n + 1, st, acc, h, hb => by
  unfold filesC
  have hl := fileC_len st
  have := filesC_bd n (fileC st).2 (acc ++ [(fileC st).1]) (by omega) (fun f hf => by
   rcases List.mem_append.1 hf with hf | hf
   ·exact hb f hf
   ·rw [List.mem_singleton.1 hf]; exact fileC_bd st h)
  rw [List.length_append] at this
  exact ⟨by rw [this.1]; simp; omega, this.2⟩
/-! ### What was put is taken -/
def Fits (f : Fi) : Prop := f.f0.size < 256 ∧ (0 ≤ f.f1 ∧ f.f1 < 4294967296) ∧ f.f2.length < 256 ∧ ∀ s ∈ f.f2, 0 ≤ s.f0 ∧ s.f0 < 65536 ∧ 0 ≤ s.f1 ∧ s.f1 < 65536
theorem spansC_Q : ∀ (sp acc : List Sp) (r : List UInt8), (∀ s ∈ sp, 0 ≤ s.f0 ∧ s.f0 < 65536 ∧ 0 ≤ s.f1 ∧ s.f1 < 65536) → spansC sp.length (sp.flatMap spanL ++ r, false) acc = (acc ++ sp, (r, false))
 | [], acc, r, _ => by simp [spansC]
 | s :: sp, acc, r, h => by
  obtain ⟨a, b, c, d⟩ := h s (List.mem_cons_self ..)
  have e : (s :: sp).flatMap spanL ++ r = numL s.f0 2 ++ (numL s.f1 2 ++ (sp.flatMap spanL ++ r)) := by
   rw [List.flatMap_cons, show spanL s = numL s.f0 2 ++ numL s.f1 2 from rfl]; simp only [List.append_assoc]
  rw [e]
  show spansC (sp.length + 1) _ acc = _
  unfold spansC
  rw [nm_num s.f0 2 _ a (by decide) b]
  simp only []
  rw [nm_num s.f1 2 _ c (by decide) d]
  simp only []
  rw [spansC_Q sp _ r (fun u hu => h u (List.mem_cons_of_mem _ hu)), List.append_assoc]
  rfl
theorem fileC_Q (f : Fi) (r : List UInt8) (h : Fits f) : fileC (fileL f ++ r, false) = (f, (r, false)) := by
 obtain ⟨h1, ⟨h2, h3⟩, h4, h5⟩ := h
 have e : fileL f ++ r = numL (f.f0.size : Int) 1 ++ (f.f0.data.toList ++ (numL f.f1 4 ++ (numL (f.f2.length : Int) 1 ++ (f.f2.flatMap spanL ++ r)))) := by
  unfold fileL; simp only [List.append_assoc]
 have a1 : fileA (fileL f ++ r, false) = ((f.f0.size : Int), (f.f0.data.toList ++ (numL f.f1 4 ++ (numL (f.f2.length : Int) 1 ++ (f.f2.flatMap spanL ++ r))), false)) := by
  unfold fileA
  rw [e]
  exact nm_num _ 1 _ (by omega) (by decide) (by show _ < ((256 : Nat) : Int); omega)
 have a2 : fileN (fileL f ++ r, false) = (f.f0.data.toList, (numL f.f1 4 ++ (numL (f.f2.length : Int) 1 ++ (f.f2.flatMap spanL ++ r)), false)) := by
  unfold fileN
  rw [a1]
  simp only [Int.toNat_natCast, Lib.size_eq]
  exact tx_app _ _
 have a3 : fileS (fileL f ++ r, false) = (f.f1, (numL (f.f2.length : Int) 1 ++ (f.f2.flatMap spanL ++ r), false)) := by
  unfold fileS
  rw [a2]
  exact nm_num _ 4 _ h2 (by decide) h3
 have a4 : fileM (fileL f ++ r, false) = ((f.f2.length : Int), (f.f2.flatMap spanL ++ r, false)) := by
  unfold fileM
  rw [a3]
  exact nm_num _ 1 _ (by omega) (by decide) (by show _ < ((256 : Nat) : Int); omega)
 unfold fileC
 rw [a2, a3, a4]
 simp only [Int.toNat_natCast]
 rw [spansC_Q f.f2 [] r h5, B_of]
 rfl
theorem filesC_Q : ∀ (fs acc : List Fi) (r : List UInt8), (∀ f ∈ fs, Fits f) → filesC fs.length (fs.flatMap fileL ++ r, false) acc = (acc ++ fs, (r, false))
 | [], acc, r, _ => by simp [filesC]
 | f :: fs, acc, r, h => by
  rw [List.flatMap_cons, List.append_assoc]
  show filesC (fs.length + 1) _ acc = _
  unfold filesC
  rw [fileC_Q f _ (h f (List.mem_cons_self ..))]
  simp only []
  rw [filesC_Q fs _ r (fun u hu => h u (List.mem_cons_of_mem _ hu)), List.append_assoc]
  rfl
theorem dec_four (l : List UInt8) : (dec l).2 ≤ 4 := by
 rcases decN_cases l.length (g8 l 0) (g8 l 1) (g8 l 2) (g8 l 3) (g8_lt l 0) (g8_lt l 1) (g8_lt l 2) (g8_lt l 3) with h | h | ⟨_, _, _, _, h⟩
 ·have h2 := congrArg Prod.snd h.2; change (dec l).2 = 1 at h2; omega
 ·have h2 := congrArg Prod.snd h.2; change (dec l).2 = 1 at h2; omega
 ·change (dec l).2 = 2 ∨ (_ ∧ _ ∧ ((dec l).2 = 3 ∨ _ ∧ _ ∧ (dec l).2 = 4)) at h
  omega
theorem cntL_four : ∀ (n : Nat) (l : List UInt8), l.length ≤ n → l.length ≤ 4 * cntL n l
 | 0, l, h => by omega
 | n + 1, l, h => by
  unfold cntL
  by_cases hl : l = []
  ·rw [hl]; simp
  ·rw [if_neg hl]
   have h1 := dec_four l
   have h2 := dec_width l (len_pos hl)
   have := cntL_four n (l.drop (dec l).2) (by rw [List.length_drop]; omega)
   rw [List.length_drop] at this
   omega
theorem labB_len {l : List UInt8} (h : labB l = true) : l.length ≤ 96 := by
 unfold labB at h
 simp only [Bool.and_eq_true, decide_eq_true_eq] at h
 have := cntL_four l.length l (Nat.le_refl _)
 omega
theorem well_fits {f : Fi} (h : wellB f = true) : Fits f := by
 unfold wellB at h
 simp only [Bool.and_eq_true, decide_eq_true_eq] at h
 obtain ⟨h1, h2, h3, h4, h5, _, _⟩ := h
 have h6 := labB_len h1
 rw [← Lib.size_eq] at h6
 refine ⟨by omega, ⟨h2, by omega⟩, by omega, fun s hs => ?_⟩
 obtain ⟨a, b, c⟩ := ((rightF_iff sz8 f.f2 (-1)).1 h5).1 s hs
 omega
theorem goB_well : ∀ (l : List Fi) (p : Option ByteArray), goB p l = true → ∀ f ∈ l, wellB f = true
 | [], _, _, f, hf => nomatch hf
 | g :: t, none, h, f, hf => by
  unfold goB at h
  simp only [Bool.and_eq_true] at h
  rcases List.mem_cons.1 hf with rfl | hf
  ·exact h.1
  ·exact goB_well t _ h.2 f hf
 | g :: t, some q, h, f, hf => by
  unfold goB at h
  simp only [Bool.and_eq_true] at h
  rcases List.mem_cons.1 hf with rfl | hf
  ·exact h.1
  ·exact goB_well t _ h.2.2 f hf
theorem dirB_well {l : List Fi} (h : dirB l = true) : l.length ≤ 120 ∧ ∀ f ∈ l, wellB f = true := by
 unfold dirB at h
 simp only [Bool.and_eq_true, decide_eq_true_eq] at h
 exact ⟨h.2, goB_well l none h.1⟩
/-! ### Put and Take, said -/
def putV (l : List Fi) : List UInt8 × Int := if dirB l = true then (sealV (dirL l), 0) else ([], 1)
def parse (t : List UInt8) : List Fi × St := filesC (nm 1 (t, false)).1.toNat (nm 1 (t, false)).2 []
def takeV (s : List UInt8) : List Fi × Int :=
 if (unsV s).2 = 0 then (if (parse (unsV s).1).2.1 = [] ∧ (parse (unsV s).1).2.2 = false ∧ dirB (parse (unsV s).1).1 = true then ((parse (unsV s).1).1, 0) else ([], 2)) else ([], (unsV s).2)
theorem parse_bd (t : List UInt8) (h : t.length ≤ 100000) : BdL (parse t).1 := by
 have h1 := nm_len 1 (t, false)
 have h2 := filesC_bd (nm 1 (t, false)).1.toNat (nm 1 (t, false)).2 [] (by simp only [] at h1; omega) (fun f hf => nomatch hf)
 have h3 := (nm_range 1 (by decide) (t, false)).2.2
 have e2 : (256 ^ 1 : Nat) = 256 := rfl
 rw [e2] at h3
 refine ⟨?_, h2.2⟩
 show (filesC _ _ _).1.length ≤ _
 rw [h2.1]
 simp only [List.length_nil]
 omega
theorem parse_P {t : List UInt8} (h : (parse t).2.2 = false) : t = dirL (parse t).1 ++ (parse t).2.1 := by
 obtain ⟨h1, fs, h2, h3, h4⟩ := filesC_P _ _ _ h
 obtain ⟨_, k2⟩ := nm_good (by decide) h1
 have r0 := (nm_range 1 (by decide) (t, false)).1
 rw [List.nil_append] at h2
 have h2' : (parse t).1 = fs := h2
 have hl : (fs.length : Int) = (nm 1 (t, false)).1 := by rw [h3]; exact Int.toNat_of_nonneg r0
 unfold dirL
 rw [h2', hl, List.append_assoc]
 show t = numL (nm 1 (t, false)).1 1 ++ (fs.flatMap fileL ++ (filesC (nm 1 (t, false)).1.toNat (nm 1 (t, false)).2 []).2.1)
 rw [← h4]
 exact k2
theorem parse_Q {l : List Fi} (h : dirB l = true) : parse (dirL l) = (l, ([], false)) := by
 obtain ⟨h1, h2⟩ := dirB_well h
 unfold parse dirL
 rw [nm_num _ 1 _ (by omega) (by decide) (by show _ < ((256 : Nat) : Int); omega)]
 simp only [Int.toNat_natCast]
 have := filesC_Q l [] [] (fun f hf => well_fits (h2 f hf))
 rw [List.append_nil, List.nil_append] at this
 exact this
theorem take_put {l : List Fi} (h : dirB l = true) : takeV (sealV (dirL l)) = (l, 0) := by
 unfold takeV
 rw [unseal_seal]
 simp only []
 rw [parse_Q h]
 simp [h]
theorem put_take {s : List UInt8} (h : (takeV s).2 = 0) : putV (takeV s).1 = (s, 0) := by
 unfold takeV at h ⊢
 by_cases c1 : (unsV s).2 = 0
 ·rw [if_pos c1] at h ⊢
  by_cases c2 : (parse (unsV s).1).2.1 = [] ∧ (parse (unsV s).1).2.2 = false ∧ dirB (parse (unsV s).1).1 = true
  ·rw [if_pos c2]
   obtain ⟨d1, d2, d3⟩ := c2
   have hp := parse_P d2
   rw [d1, List.append_nil] at hp
   unfold putV
   rw [if_pos d3]
   show (sealV (dirL (parse (unsV s).1).1), (0 : Int)) = (s, 0)
   rw [← hp, ← seal_unseal c1]
  ·rw [if_neg c2] at h
   cases h
 ·rw [if_neg c1] at h
  exact absurd h c1
theorem take_err {s : List UInt8} (h : (takeV s).2 ≠ 0) : (takeV s).1 = [] := by
 unfold takeV at h ⊢
 by_cases c1 : (unsV s).2 = 0
 ·rw [if_pos c1] at h ⊢
  split
  ·rename_i c2
   rw [if_pos c2] at h
   exact absurd rfl h
  ·rfl
 ·rw [if_neg c1]
theorem span_len (l : List Sp) : (l.flatMap spanL).length = 4 * l.length := by
 induction l with
 | nil => rfl
 | cons s t ih =>
  rw [List.flatMap_cons, List.length_append, ih]
  unfold spanL
  rw [List.length_append, numL_len, numL_len, List.length_cons]
  omega
theorem file_len {f : Fi} (h : Bd f) : (fileL f).length ≤ 600000 := by
 obtain ⟨h1, h2⟩ := h
 unfold fileL
 simp only [List.length_append, numL_len, span_len]
 rw [← Lib.size_eq]
 omega
theorem files_len : ∀ l : List Fi, (∀ f ∈ l, Bd f) → (l.flatMap fileL).length ≤ 600000 * l.length
 | [], _ => Nat.le_refl _
 | f :: t, h => by
  rw [List.flatMap_cons, List.length_append, List.length_cons]
  have h1 := file_len (h f (List.mem_cons_self ..))
  have h2 := files_len t (fun u hu => h u (List.mem_cons_of_mem _ hu))
  omega
theorem dir_len {l : List Fi} (h : BdL l) : (dirL l).length ≤ 60000000001 := by
 unfold dirL
 rw [List.length_append, numL_len]
 have := files_len l h.2
 have := h.1
 omega
theorem put_ev (l : List Fi) (hb : BdL l) : Evt (fun k => dir_Put.f k l) (B (putV l).1, (putV l).2) := by
 unfold dir_Put.f putV
 refine Evt.bind (directory_ev l hb) ?_
 have hlen := dir_len hb
 cases dirB l with
 | false => exact Evt.neg (by decide) (Evt.val _)
 | true => exact Evt.pos rfl (Evt.pos (by omega) (Evt.bind' (seal_f (dirL l) (by omega)) (Evt.val _)))
theorem number1 (st : St) : Evt (fun k => le_Reader_Number.f k (B st.1) st.2 1) ((nm 1 st).1, B (nm 1 st).2.1, (nm 1 st).2.2) := number_ev st 1 (by decide)
theorem number2 (st : St) : Evt (fun k => le_Reader_Number.f k (B st.1) st.2 2) ((nm 2 st).1, B (nm 2 st).2.1, (nm 2 st).2.2) := number_ev st 2 (by decide)
theorem number4 (st : St) : Evt (fun k => le_Reader_Number.f k (B st.1) st.2 4) ((nm 4 st).1, B (nm 4 st).2.1, (nm 4 st).2.2) := number_ev st 4 (by decide)
theorem spans_ev (nameB : ByteArray) (size : Int) (N : Nat) (hN : N ≤ 100000) : ∀ (n i : Nat) (st : St) (acc : List Sp), i + n = N → acc.length + n ≤ 200000 →
  Evt (fun k => dir_file.l0 k (N : Int) (i : Int) (B st.1) st.2 nameB size acc) (nameB, size, (spansC n st acc).1, B (spansC n st acc).2.1, (spansC n st acc).2.2)
 | 0, i, st, acc, hi, _ => by
  refine Evt.step (fun k => by rw [dir_file.l0]) ?_
  exact Evt.neg (by omega) (Evt.val _)
 | n + 1, i, st, acc, hi, ha => by
  have r1 := nm_range 2 (by decide) st
  have r2 := nm_range 2 (by decide) (nm 2 st).2
  have e2 : (256 ^ 2 : Nat) = 65536 := rfl
  rw [e2] at r1 r2
  refine Evt.step (fun k => by rw [dir_file.l0]) ?_
  refine Evt.pos (by omega) ?_
  refine Evt.bind (number2 st) ?_
  refine Evt.bind (number2 (nm 2 st).2) ?_
  refine Evt.pos (by omega) ?_
  simp only []
  rw [wrap64_id (n := (nm 2 st).1) (by omega) (by omega), wrap64_id (n := (nm 2 (nm 2 st).2).1) (by omega) (by omega), wrapU _ (by omega) (by omega), show (i : Int) + 1 = ((i + 1 : Nat) : Int) by push_cast; rfl]
  unfold spansC
  exact spans_ev nameB size N hN n (i + 1) _ _ (by omega) (by rw [List.length_append]; simp; omega)
theorem file_ev (st : St) : Evt (fun k => dir_file.f k (B st.1) st.2) ((fileC st).1.f0, (fileC st).1.f1, (fileC st).1.f2, B (fileC st).2.1, (fileC st).2.2) := by
 have r1 := nm_range 1 (by decide) st
 have r4 := nm_range 4 (by decide) (fileN st).2
 have rm := nm_range 1 (by decide) (fileS st).2
 have e1 : (256 ^ 1 : Nat) = 256 := rfl
 have e4 : (256 ^ 4 : Nat) = 4294967296 := rfl
 rw [e1] at r1 rm
 rw [e4] at r4
 unfold dir_file.f
 refine Evt.bind (number1 st) ?_
 have hw : wrap64 (nm 1 st).1 = (((fileA st).1.toNat : Nat) : Int) := by
  rw [wrap64_id (by omega) (by omega)]
  exact (Int.toNat_of_nonneg r1.1).symm
 simp only [hw]
 refine Evt.bind (text_ev (fileA st).2 _) ?_
 refine Evt.bind (number4 (fileN st).2) ?_
 refine Evt.bind (number1 (fileS st).2) ?_
 have hm : (nm 1 (fileS st).2).1 = (((fileM st).1.toNat : Nat) : Int) := (Int.toNat_of_nonneg rm.1).symm
 simp only [hm]
 rw [wrap64_id (n := (nm 4 (fileN st).2).1) (by omega) (by omega)]
 have hle : (fileM st).1.toNat ≤ 255 := by
  have : (fileM st).1 = (nm 1 (fileS st).2).1 := rfl
  omega
 exact spans_ev (B (fileN st).1) (fileS st).1 (fileM st).1.toNat (by omega) (fileM st).1.toNat 0 (fileM st).2 [] (by omega) (by simp; omega)
theorem files_ev (N : Nat) (hN : N ≤ 100000) : ∀ (n i : Nat) (st : St) (acc : List Fi), i + n = N → acc.length + n ≤ 100000 → (∀ f ∈ acc, Bd f) → st.1.length ≤ 100000 →
  Evt (fun k => dir_Take.l0 k acc (N : Int) (i : Int) (B st.1) st.2) (if (filesC n st acc).2.1 = [] ∧ (filesC n st acc).2.2 = false ∧ dirB (filesC n st acc).1 = true then ((filesC n st acc).1, 0) else ([], 2))
 | 0, i, st, acc, hi, hl, hb, hs => by
  refine Evt.step (fun k => by rw [dir_Take.l0]) (Evt.neg (by omega) ?_)
  unfold filesC le_Reader_Over.f
  simp only [B_toList]
  by_cases c1 : st.1 = []
  ·cases c2 : st.2 with
   | false =>
    refine Evt.bind' (if_pos c1) (Evt.pos rfl (Evt.bind (directory_ev acc ⟨by omega, hb⟩) ?_))
    cases dirB acc with
    | false => exact Evt.neg (by decide) (Evt.val' (by simp))
    | true => exact Evt.pos rfl (Evt.val' (by simp [c1]))
   | true => exact Evt.bind' (if_pos c1) (Evt.neg (by simp) (Evt.val' (by simp)))
  ·exact Evt.bind' (if_neg c1) (Evt.neg (by simp) (Evt.val' (by simp [c1])))
 | n + 1, i, st, acc, hi, hl, hb, hs => by
  have hfl := fileC_len st
  refine Evt.step (fun k => by rw [dir_Take.l0]) ?_
  refine Evt.pos (by omega) ?_
  refine Evt.bind (file_ev st) ?_
  refine Evt.pos (by omega) ?_
  simp only []
  rw [wrapU _ (by omega) (by omega), show (i : Int) + 1 = ((i + 1 : Nat) : Int) by push_cast; rfl]
  unfold filesC
  exact files_ev N hN n (i + 1) (fileC st).2 (acc ++ [(fileC st).1]) (by omega) (by rw [List.length_append]; simp; omega) (fun f hf => by
   rcases List.mem_append.1 hf with hf | hf
   ·exact hb f hf
   ·rw [List.mem_singleton.1 hf]; exact fileC_bd st hs) (by omega)
theorem take_ev' (s : List UInt8) (h : s.length ≤ 100000) : Evt (fun k => dir_Take.f k (B s)) (takeV s) := by
 unfold dir_Take.f takeV
 refine Evt.bind' (take_f s (by omega)) ?_
 by_cases c : (unsV s).2 = 0
 ·rw [if_pos c]
  refine Evt.pos c ?_
  refine Evt.bind (number1 ((unsV s).1, false)) ?_
  have hu := unseal_len s
  have r1 := nm_range 1 (by decide) ((unsV s).1, false)
  have e1 : (256 ^ 1 : Nat) = 256 := rfl
  rw [e1] at r1
  have hm : (nm 1 ((unsV s).1, false)).1 = (((nm 1 ((unsV s).1, false)).1.toNat : Nat) : Int) := (Int.toNat_of_nonneg r1.1).symm
  simp only []
  rw [hm]
  have hnl := nm_len 1 ((unsV s).1, false)
  simp only [] at hnl
  exact files_ev _ (by omega) _ 0 _ [] (by omega) (by simp; omega) (fun f hf => nomatch hf) (by omega)
 ·rw [if_neg c]
  exact Evt.neg c (Evt.val _)
end Go.Proofs.YtppbcankhkgpfaaDoor.Th
namespace Go.Proofs.YtppbcankhkgpfaaDoor.Th
open Go.RowKit Go.Proofs.YtppbcankhkgpfaaDoor.PDq Go.Proofs.YtppbcankhkgpfaaDoorW.PrintWords Go.Proofs.YtppbcankhkgpfaaDoorW.PrintLast Go.Proofs.YtppbcankhkgpfaaDoorW.PrintMore
set_option linter.unusedVariables false
set_option linter.unusedSimpArgs false
/-! ### The reference's Put -/
theorem refput1 (x : Int) : Evt (fun k => rootcellarref2_Put.f k (IntKind.u64.wrap x) 1) (B (numL x 1)) := refputw_ev x 1 (by decide)
theorem refput2 (x : Int) : Evt (fun k => rootcellarref2_Put.f k (IntKind.u64.wrap x) 2) (B (numL x 2)) := refputw_ev x 2 (by decide)
theorem refput4 (x : Int) : Evt (fun k => rootcellarref2_Put.f k (IntKind.u64.wrap x) 4) (B (numL x 4)) := refputw_ev x 4 (by decide)
theorem refputspans (L : List Rf) (x6 : Int) (name : ByteArray) (size : Int) (sp : List Sp) (hs : sp.length ≤ 100000) (v : ByteArray × Int) : ∀ (r d : List Sp) (acc : List UInt8), sp = d ++ r → acc.length + 4 * r.length ≤ 1000000000000000000 →
  Evt (fun k => rootcellarref7_Put.l0 k L (B (acc ++ r.flatMap spanL)) (wrap64 (x6 + 1))) v → Evt (fun k => rootcellarref7_Put.l1 k L (B acc) x6 (d.length : Int) name size sp) v
 | [], d, acc, hd, ha, hv => by
  rw [List.append_nil] at hd
  subst hd
  refine Evt.step (fun k => by rw [rootcellarref7_Put.l1]) ?_
  refine Evt.neg (by omega) ?_
  rw [List.flatMap_nil, List.append_nil] at hv
  exact hv
 | s :: r, d, acc, hd, ha, hv => by
  have hlen : sp.length = d.length + (r.length + 1) := by rw [hd]; simp
  have hrd : rd_T64 sp (d.length : Int) = s := by rw [hd]; exact rd_mid d s r
  rw [List.length_cons] at ha
  refine Evt.step (fun k => by rw [rootcellarref7_Put.l1]) ?_
  refine Evt.pos (by omega) ?_
  refine Evt.pos (by omega) ?_
  rw [hrd]
  refine Evt.bind (refput2 s.f0) ?_
  refine Evt.pos (by rw [B_size, B_size, numL_len]; omega) ?_
  refine Evt.bind (refput2 s.f1) ?_
  rw [B_append, B_append]
  refine Evt.pos (by rw [B_size, B_size, List.length_append, numL_len, numL_len]; omega) ?_
  rw [idx _ (by omega)]
  have := refputspans L x6 name size sp hs v r (d ++ [s]) (acc ++ numL s.f0 2 ++ numL s.f1 2) (by rw [hd]; simp) (by simp only [List.length_append, numL_len]; omega) (by
   rw [List.flatMap_cons, show spanL s = numL s.f0 2 ++ numL s.f1 2 from rfl] at hv
   simp only [List.append_assoc] at hv ⊢
   exact hv)
  rw [List.length_append] at this
  exact this
theorem refputfiles (l : List Fi) (hb : BdL l) : ∀ (r d : List Fi) (acc : List UInt8), l = d ++ r → acc.length + 600000 * r.length ≤ 100000000000000000 →
  Evt (fun k => rootcellarref7_Put.l0 k (l.map toR) (B acc) (d.length : Int)) (B (sealV (acc ++ r.flatMap fileL)), 0)
 | [], d, acc, hd, ha => by
  rw [List.append_nil] at hd
  subst hd
  refine Evt.step (fun k => by rw [rootcellarref7_Put.l0]) ?_
  refine Evt.neg (by rw [List.length_map]; omega) ?_
  refine Evt.bind (refseal_ev acc (by omega)) ?_
  refine Evt.val' ?_
  rw [List.flatMap_nil, List.append_nil]
 | f :: r, d, acc, hd, ha => by
  have hlen : l.length = d.length + (r.length + 1) := by rw [hd]; simp
  have hf := hb.2 f (by rw [hd]; simp)
  have hfl := file_len hf
  obtain ⟨hf1, hf2⟩ := hf
  have hbl := hb.1
  have hrd : rd_T45 (l.map toR) (d.length : Int) = toR f := by
   have := rdR_mid (d.map toR) (toR f) (r.map toR)
   rwa [← List.map_cons, ← List.map_append, ← hd, List.length_map] at this
  rw [List.length_cons] at ha
  refine Evt.step (fun k => by rw [rootcellarref7_Put.l0]) ?_
  refine Evt.pos (by rw [List.length_map]; omega) ?_
  refine Evt.pos (by omega) ?_
  rw [hrd]
  have hname : (toR f).f0 = B f.f0.data.toList := (B_of f.f0).symm
  have hsz : (toR f).f0.size = f.f0.size := rfl
  have hsz2 : f.f0.data.toList.length = f.f0.size := (Lib.size_eq f.f0).symm
  refine Evt.bind (refput1 _) ?_
  refine Evt.pos (by rw [B_size, B_size, numL_len]; omega) ?_
  rw [B_append]
  refine Evt.pos (by rw [B_size, List.length_append, numL_len, hsz]; omega) ?_
  refine Evt.bind (refput4 _) ?_
  rw [hname, B_append]
  refine Evt.pos (by simp only [B_size, List.length_append, numL_len, hsz2]; omega) ?_
  refine Evt.bind (refput1 _) ?_
  rw [B_append]
  refine Evt.pos (by simp only [B_size, List.length_append, numL_len, hsz2]; omega) ?_
  rw [B_append]
  refine refputspans (l.map toR) (d.length : Int) _ _ f.f2 (by omega) _ f.f2 [] _ rfl (by simp only [List.length_append, numL_len, hsz2]; omega) ?_
  rw [idx _ (by omega)]
  have := refputfiles l hb r (d ++ [f]) (acc ++ fileL f) (by rw [hd]; simp) (by rw [List.length_append]; omega)
  rw [List.length_append] at this
  have e : acc ++ numL ((B f.f0.data.toList).size : Int) 1 ++ f.f0.data.toList ++ numL (toR f).f1 4 ++ numL ((toR f).f2.length : Int) 1 ++ f.f2.flatMap spanL = acc ++ fileL f := by
   rw [B_of]
   unfold fileL
   simp only [List.append_assoc]
   rfl
  rw [e]
  rw [List.flatMap_cons, ← List.append_assoc]
  exact this
theorem refput7_ev (l : List Fi) (hb : BdL l) : Evt (fun k => rootcellarref7_Put.f k (l.map toR)) (B (putV l).1, (putV l).2) := by
 unfold rootcellarref7_Put.f putV
 refine Evt.bind (refis_ev l hb) ?_
 have hbl := hb.1
 cases dirB l with
 | false => exact Evt.neg (by decide) (Evt.val _)
 | true =>
  refine Evt.pos rfl ?_
  rw [List.length_map]
  refine Evt.bind (refput1 _) ?_
  have := refputfiles l hb l [] (numL (l.length : Int) 1) rfl (by rw [numL_len]; omega)
  exact this
/-! ### The reference's Take -/
def spansR : Nat → St → List Sp → List Sp × St
 | 0, st, acc => (acc, st)
 | n + 1, st, acc => if st.2 = true then (acc, st) else spansR n (nm 2 (nm 2 st).2).2 (acc ++ [⟨(nm 2 st).1, (nm 2 (nm 2 st).2).1⟩])
def fileR (st : St) : Fi × St := (⟨B (fileN st).1, (fileS st).1, (spansR (fileM st).1.toNat (fileM st).2 []).1⟩, (spansR (fileM st).1.toNat (fileM st).2 []).2)
def filesR : Nat → St → List Fi → List Fi × St
 | 0, st, acc => (acc, st)
 | n + 1, st, acc => if st.2 = true then (acc, st) else filesR n (fileR st).2 (acc ++ [(fileR st).1])
theorem spansR_bad : ∀ (n : Nat) (st : St) (acc : List Sp), (spansC n st acc).2.2 = true → (spansR n st acc).2.2 = true
 | 0, _, _, h => h
 | n + 1, st, acc, h => by
  unfold spansR
  by_cases c : st.2 = true
  ·rw [if_pos c]; exact c
  ·rw [if_neg c]; exact spansR_bad n _ _ h
theorem spansR_good : ∀ (n : Nat) (st : St) (acc : List Sp), (spansC n st acc).2.2 = false → spansR n st acc = spansC n st acc
 | 0, _, _, _ => rfl
 | n + 1, st, acc, h => by
  have h1 := (spansC_P (n + 1) st acc h).1
  unfold spansR
  rw [if_neg (by rw [h1]; decide)]
  exact spansR_good n _ _ h
theorem spansR_len : ∀ (n : Nat) (st : St) (acc : List Sp), (spansR n st acc).1.length ≤ acc.length + n ∧ (spansR n st acc).2.1.length ≤ st.1.length
 | 0, st, acc => ⟨Nat.le_refl _, Nat.le_refl _⟩
 | n + 1, st, acc => by
  unfold spansR
  by_cases c : st.2 = true
  ·rw [if_pos c]; exact ⟨Nat.le_add_right _ _, Nat.le_refl _⟩
  ·rw [if_neg c]
   have h := spansR_len n (nm 2 (nm 2 st).2).2 (acc ++ [⟨(nm 2 st).1, (nm 2 (nm 2 st).2).1⟩])
   have h1 := nm_len 2 st
   have h2 := nm_len 2 (nm 2 st).2
   rw [List.length_append] at h
   simp only [List.length_cons, List.length_nil] at h
   omega
theorem fileR_good {st : St} (h : (fileC st).2.2 = false) : fileR st = fileC st := by
 unfold fileR fileC
 rw [spansR_good _ _ _ h]
theorem fileR_bad {st : St} (h : (fileC st).2.2 = true) : (fileR st).2.2 = true := spansR_bad _ _ _ h
theorem fileR_len (st : St) : (fileR st).2.1.length ≤ st.1.length := by
 have h := (spansR_len (fileM st).1.toNat (fileM st).2 []).2
 have h1 : (fileM st).2.1.length ≤ (fileS st).2.1.length := nm_len 1 _
 have h2 : (fileS st).2.1.length ≤ (fileN st).2.1.length := nm_len 4 _
 have h3 : (fileN st).2.1.length ≤ (fileA st).2.1.length := (tx_len _ _).2.1
 have h4 : (fileA st).2.1.length ≤ st.1.length := nm_len 1 _
 show (spansR _ _ _).2.1.length ≤ _
 omega
theorem many_le (st : St) : (fileM st).1.toNat ≤ 255 := by
 have := (nm_range 1 (by decide) (fileS st).2).2.2
 have e : (fileM st).1 = (nm 1 (fileS st).2).1 := rfl
 have e2 : (256 ^ 1 : Nat) = 256 := rfl
 rw [e2] at this
 omega
theorem fileR_bd (st : St) (h : st.1.length ≤ 100000) : Bd (fileR st).1 := by
 have h3 : (fileN st).1.length ≤ (fileA st).2.1.length := (tx_len _ _).2.2
 have h4 : (fileA st).2.1.length ≤ st.1.length := nm_len 1 _
 refine ⟨?_, ?_⟩
 ·show (B (fileN st).1).size ≤ _
  rw [B_size]; omega
 ·show (spansR _ _ _).1.length ≤ _
  have := (spansR_len (fileM st).1.toNat (fileM st).2 []).1
  have := many_le st
  simp only [List.length_nil] at *
  omega
theorem filesR_bad : ∀ (n : Nat) (st : St) (acc : List Fi), (filesC n st acc).2.2 = true → (filesR n st acc).2.2 = true
 | 0, _, _, h => h
 | n + 1, st, acc, h => by
  unfold filesR
  by_cases c : st.2 = true
  ·rw [if_pos c]; exact c
  ·rw [if_neg c]
   cases hf : (fileC st).2.2 with
   | true =>
    have hr := fileR_bad hf
    cases n with
    | zero => exact hr
    | succ n => unfold filesR; rw [if_pos hr]; exact hr
   | false => rw [fileR_good hf]; exact filesR_bad n _ _ h
theorem filesR_good : ∀ (n : Nat) (st : St) (acc : List Fi), (filesC n st acc).2.2 = false → filesR n st acc = filesC n st acc
 | 0, _, _, _ => rfl
 | n + 1, st, acc, h => by
  have h1 := (filesC_P (n + 1) st acc h).1
  have h2 : (fileC st).2.2 = false := (filesC_P n _ _ h).1
  unfold filesR
  rw [if_neg (by rw [h1]; decide), fileR_good h2]
  exact filesR_good n _ _ h
theorem refspans (s : ByteArray) (x7 x9 : Int) (out : List Rf) (ho : out.length ≤ 1000000) (name : ByteArray) (size : Int) (N : Nat) (hN : N ≤ 100000) (v : List Rf × Int) : ∀ (n i : Nat) (st : St) (acc : List Sp), i + n = N → acc.length + n ≤ 200000 →
  Evt (fun k => rootcellarref7_Take.l0 k s x7 (out ++ [⟨name, size, (spansR n st acc).1⟩]) (wrap64 (x9 + 1)) (B (spansR n st acc).2.1) (spansR n st acc).2.2) v →
  Evt (fun k => rootcellarref7_Take.l1 k s x7 out x9 (N : Int) (i : Int) (B st.1) st.2 name size acc) v := by
 have fin : ∀ (i : Int) (st : St) (acc : List Sp), Evt (fun k => rootcellarref7_Take.l0 k s x7 (out ++ [⟨name, size, acc⟩]) (wrap64 (x9 + 1)) (B st.1) st.2) v → Evt (fun k => rootcellarref7_Take.j3 k s x7 out x9 (N : Int) i false (B st.1) st.2 name size acc) v := fun i st acc hv => by
  refine Evt.step (fun k => by rw [rootcellarref7_Take.j3]) ?_
  refine Evt.neg (by decide) ?_
  exact Evt.pos (by omega) hv
 intro n
 induction n with
 | zero =>
  intro i st acc hi ha hv
  refine Evt.step (fun k => by rw [rootcellarref7_Take.l1]) ?_
  refine Evt.neg (by omega) ?_
  exact fin _ st acc hv
 | succ n ih =>
  intro i st acc hi ha hv
  refine Evt.step (fun k => by rw [rootcellarref7_Take.l1]) ?_
  refine Evt.pos (by omega) ?_
  unfold spansR at hv
  cases c : st.2 with
  | true =>
   rw [if_pos c] at hv
   have := fin (i : Int) st acc hv
   rw [c] at this
   exact this
  | false =>
   rw [if_neg (by rw [c]; decide)] at hv
   have r1 := nm_range 2 (by decide) st
   have r2 := nm_range 2 (by decide) (nm 2 st).2
   have e2 : (256 ^ 2 : Nat) = 65536 := rfl
   rw [e2] at r1 r2
   refine Evt.step (fun k => by rw [rootcellarref7_Take.j3]) ?_
   refine Evt.pos rfl ?_
   have n1 : Evt (fun k => rootcellarref2_Reader_Number.f k (B st.1) false 2) ((nm 2 st).1, B (nm 2 st).2.1, (nm 2 st).2.2) := by
    have := refnumber_ev st 2 (by decide)
    rw [c] at this
    exact this
   refine Evt.bind n1 ?_
   have n2 : Evt (fun k => rootcellarref2_Reader_Number.f k (B (nm 2 st).2.1) (nm 2 st).2.2 2) ((nm 2 (nm 2 st).2).1, B (nm 2 (nm 2 st).2).2.1, (nm 2 (nm 2 st).2).2.2) := refnumber_ev (nm 2 st).2 2 (by decide)
   refine Evt.bind n2 ?_
   refine Evt.pos (by omega) ?_
   simp only []
   rw [wrap64_id (n := (nm 2 st).1) (by omega) (by omega), wrap64_id (n := (nm 2 (nm 2 st).2).1) (by omega) (by omega), idx _ (by omega)]
   exact ih (i + 1) _ _ (by omega) (by rw [List.length_append]; simp; omega) hv
def refFin (s : List UInt8) (r : List Fi × St) : List Rf × Int := if r.2.2 = true then ([], 2) else if putV r.1 = (s, 0) then (r.1.map toR, 0) else ([], 2)
theorem refFin_bad {s : List UInt8} {r : List Fi × St} (h : r.2.2 = true) : refFin s r = ([], 2) := if_pos h
theorem refFin_ok {s : List UInt8} {r : List Fi × St} (h : r.2.2 = false) (h2 : putV r.1 = (s, 0)) : refFin s r = (r.1.map toR, 0) := by
 unfold refFin
 rw [if_neg (by rw [h]; decide), if_pos h2]
theorem refFin_no {s : List UInt8} {r : List Fi × St} (h : ¬ putV r.1 = (s, 0)) : refFin s r = ([], 2) := by
 unfold refFin
 split
 ·rfl
 ·first | rfl | rw [if_neg h]
theorem take_ok {s : List UInt8} (h : (unsV s).2 = 0) (h1 : (parse (unsV s).1).2.1 = []) (h2 : (parse (unsV s).1).2.2 = false) (h3 : dirB (parse (unsV s).1).1 = true) : takeV s = ((parse (unsV s).1).1, 0) := by
 unfold takeV
 rw [if_pos h, if_pos ⟨h1, h2, h3⟩]
theorem take_no {s : List UInt8} (h : (unsV s).2 = 0) (h1 : ¬ ((parse (unsV s).1).2.1 = [] ∧ (parse (unsV s).1).2.2 = false ∧ dirB (parse (unsV s).1).1 = true)) : takeV s = ([], 2) := by
 unfold takeV
 rw [if_pos h, if_neg h1]
theorem reffiles (s : List UInt8) (N : Nat) (hN : N ≤ 100000) : ∀ (n i : Nat) (st : St) (acc : List Fi), i + n = N → acc.length + n ≤ 100000 → (∀ f ∈ acc, Bd f) → st.1.length ≤ 100000 →
  Evt (fun k => rootcellarref7_Take.l0 k (B s) (N : Int) (acc.map toR) (i : Int) (B st.1) st.2) (refFin s (filesR n st acc)) := by
 have fin : ∀ (i : Int) (st : St) (acc : List Fi), acc.length ≤ 100000 → (∀ f ∈ acc, Bd f) → Evt (fun k => rootcellarref7_Take.j1 k (B s) (N : Int) (acc.map toR) i false (B st.1) st.2) (refFin s (acc, st)) := fun i st acc hl hb => by
  refine Evt.step (fun k => by rw [rootcellarref7_Take.j1]) ?_
  refine Evt.neg (by decide) ?_
  refine Evt.bind (refput7_ev acc ⟨hl, hb⟩) ?_
  have j4t : Evt (fun k => rootcellarref7_Take.j4 k (acc.map toR) true) ([], 2) := by
   refine Evt.step (fun k => by rw [rootcellarref7_Take.j4]) ?_
   exact Evt.pos rfl (Evt.val _)
  have j4f : Evt (fun k => rootcellarref7_Take.j4 k (acc.map toR) false) (acc.map toR, 0) := by
   refine Evt.step (fun k => by rw [rootcellarref7_Take.j4]) ?_
   exact Evt.neg (by decide) (Evt.val _)
  cases c : st.2 with
  | true =>
   rw [refFin_bad (r := (acc, st)) c]
   exact Evt.pos rfl j4t
  | false =>
   refine Evt.neg (by decide) ?_
   by_cases c2 : (putV acc).2 = 0
   ·refine Evt.pos c2 ?_
    rw [B_toList, B_toList]
    by_cases c3 : (putV acc).1 = s
    ·rw [refFin_ok (r := (acc, st)) c (Prod.ext c3 c2), show ((putV acc).1 != s) = false by rw [c3]; simp]
     exact j4f
    ·rw [refFin_no (r := (acc, st)) (fun k => c3 (congrArg Prod.fst k)), show ((putV acc).1 != s) = true by simp [c3]]
     exact j4t
   ·refine Evt.neg c2 ?_
    rw [refFin_no (r := (acc, st)) (fun k => c2 (congrArg Prod.snd k))]
    exact j4t
 intro n
 induction n with
 | zero =>
  intro i st acc hi hl hb hs
  refine Evt.step (fun k => by rw [rootcellarref7_Take.l0]) ?_
  refine Evt.neg (by omega) ?_
  exact fin _ st acc (by omega) hb
 | succ n ih =>
  intro i st acc hi hl hb hs
  refine Evt.step (fun k => by rw [rootcellarref7_Take.l0]) ?_
  refine Evt.pos (by omega) ?_
  unfold filesR
  cases c : st.2 with
  | true =>
   rw [if_pos rfl]
   have := fin (i : Int) st acc (by omega) hb
   rw [c] at this
   exact this
  | false =>
   rw [if_neg (by decide)]
   have hfl := fileR_len st
   have r1 := nm_range 1 (by decide) st
   have r4 := nm_range 4 (by decide) (fileN st).2
   have rm := nm_range 1 (by decide) (fileS st).2
   have e1 : (256 ^ 1 : Nat) = 256 := rfl
   have e4 : (256 ^ 4 : Nat) = 4294967296 := rfl
   rw [e1] at r1 rm
   rw [e4] at r4
   refine Evt.step (fun k => by rw [rootcellarref7_Take.j1]) ?_
   refine Evt.pos rfl ?_
   have n1 : Evt (fun k => rootcellarref2_Reader_Number.f k (B st.1) false 1) ((nm 1 st).1, B (nm 1 st).2.1, (nm 1 st).2.2) := by
    have := refnumber_ev st 1 (by decide)
    rw [c] at this
    exact this
   refine Evt.bind n1 ?_
   have hw : wrap64 (nm 1 st).1 = (((fileA st).1.toNat : Nat) : Int) := by
    rw [wrap64_id (by omega) (by omega)]
    exact (Int.toNat_of_nonneg r1.1).symm
   simp only [hw]
   refine Evt.bind (reftext_ev (fileA st).2 _) ?_
   have n4 : Evt (fun k => rootcellarref2_Reader_Number.f k (B (fileN st).2.1) (fileN st).2.2 4) ((nm 4 (fileN st).2).1, B (nm 4 (fileN st).2).2.1, (nm 4 (fileN st).2).2.2) := refnumber_ev (fileN st).2 4 (by decide)
   refine Evt.bind n4 ?_
   have n5 : Evt (fun k => rootcellarref2_Reader_Number.f k (B (fileS st).2.1) (fileS st).2.2 1) ((nm 1 (fileS st).2).1, B (nm 1 (fileS st).2).2.1, (nm 1 (fileS st).2).2.2) := refnumber_ev (fileS st).2 1 (by decide)
   refine Evt.bind n5 ?_
   have hm : wrap64 (nm 1 (fileS st).2).1 = (((fileM st).1.toNat : Nat) : Int) := by
    rw [wrap64_id (by omega) (by omega)]
    exact (Int.toNat_of_nonneg rm.1).symm
   simp only [hm]
   rw [wrap64_id (n := (nm 4 (fileN st).2).1) (by omega) (by omega)]
   have hmany := many_le st
   refine refspans (B s) (N : Int) (i : Int) (acc.map toR) (by rw [List.length_map]; omega) (B (fileN st).1) (fileS st).1 (fileM st).1.toNat (by omega) _ (fileM st).1.toNat 0 (fileM st).2 [] (by omega) (by simp; omega) ?_
   rw [idx _ (by omega)]
   have := ih (i + 1) (fileR st).2 (acc ++ [(fileR st).1]) (by omega) (by rw [List.length_append]; simp; omega) (fun f hf => by
    rcases List.mem_append.1 hf with hf | hf
    ·exact hb f hf
    ·rw [List.mem_singleton.1 hf]; exact fileR_bd st hs) (by omega)
   rw [List.map_append] at this
   exact this
theorem sealV_inj {a b : List UInt8} (h : sealV a = sealV b) : a.length = b.length := by
 have := congrArg List.length h
 rw [sealV_len, sealV_len] at this
 omega
theorem reffin_take {s : List UInt8} (h : (unsV s).2 = 0) : refFin s (filesR (nm 1 ((unsV s).1, false)).1.toNat (nm 1 ((unsV s).1, false)).2 []) = ((takeV s).1.map toR, (takeV s).2) := by
 have hs := seal_unseal h
 cases hp : (parse (unsV s).1).2.2 with
 | true =>
  have := filesR_bad _ _ _ hp
  rw [refFin_bad this, take_no h (fun k => by rw [hp] at k; exact absurd k.2.1 (by decide))]
  rfl
 | false =>
  have hg := filesR_good _ _ _ hp
  rw [hg]
  have hpp := parse_P hp
  show refFin s (parse (unsV s).1) = _
  by_cases hd : dirB (parse (unsV s).1).1 = true
  ·have hput : putV (parse (unsV s).1).1 = (sealV (dirL (parse (unsV s).1).1), 0) := by unfold putV; rw [if_pos hd]
   by_cases hl : (parse (unsV s).1).2.1 = []
   ·rw [take_ok h hl hp hd, refFin_ok hp]
    rw [hput]
    rw [hl, List.append_nil] at hpp
    rw [← hpp, ← hs]
   ·rw [take_no h (fun k => hl k.1), refFin_no]
    ·rfl
    ·intro k
     rw [hput] at k
     have k1 : sealV (dirL (parse (unsV s).1).1) = s := congrArg Prod.fst k
     have k2 := sealV_inj (k1.trans hs)
     have k3 := congrArg List.length hpp
     rw [List.length_append] at k3
     exact hl (List.eq_nil_of_length_eq_zero (by omega))
  ·rw [take_no h (fun k => hd k.2.2), refFin_no]
   ·rfl
   ·intro k
    unfold putV at k
    rw [if_neg hd] at k
    have := congrArg Prod.snd k
    simp at this
theorem reftake7_ev (s : List UInt8) (h : s.length ≤ 100000) : Evt (fun k => rootcellarref7_Take.f k (B s)) ((takeV s).1.map toR, (takeV s).2) := by
 unfold rootcellarref7_Take.f
 refine Evt.bind (reftake_ev s (by omega)) ?_
 by_cases c : (unsV s).2 = 0
 ·refine Evt.pos c ?_
  have hu := unseal_len s
  have r1 := nm_range 1 (by decide) ((unsV s).1, false)
  have e1 : (256 ^ 1 : Nat) = 256 := rfl
  rw [e1] at r1
  have n1 : Evt (fun k => rootcellarref2_Reader_Number.f k (B (unsV s).1) false 1) ((nm 1 ((unsV s).1, false)).1, B (nm 1 ((unsV s).1, false)).2.1, (nm 1 ((unsV s).1, false)).2.2) := refnumber_ev ((unsV s).1, false) 1 (by decide)
  refine Evt.bind n1 ?_
  have hm : wrap64 (nm 1 ((unsV s).1, false)).1 = (((nm 1 ((unsV s).1, false)).1.toNat : Nat) : Int) := by
   rw [wrap64_id (by omega) (by omega)]
   exact (Int.toNat_of_nonneg r1.1).symm
  simp only [hm]
  rw [← reffin_take c]
  have hnl := nm_len 1 ((unsV s).1, false)
  simp only [] at hnl
  exact reffiles s _ (by omega) _ 0 _ [] (by omega) (by simp; omega) (fun f hf => nomatch hf) (by omega)
 ·refine Evt.neg c (Evt.val' ?_)
  unfold takeV
  rw [if_neg c]
  rfl
/-! ### The law's own words -/
theorem samespans_ev (l : List Sp) (hl : l.length ≤ 100000) : Evt (fun k => rootcellarlaw7_sameSpans.f k l l) true := by
 have key : ∀ r d : List Sp, l = d ++ r → Evt (fun k => rootcellarlaw7_sameSpans.l0 k l l (d.length : Int)) true := by
  intro r
  induction r with
  | nil =>
   intro d hd
   rw [List.append_nil] at hd
   subst hd
   refine Evt.step (fun k => by rw [rootcellarlaw7_sameSpans.l0]) ?_
   exact Evt.neg (by omega) (Evt.val _)
  | cons s r ih =>
   intro d hd
   have hlen : l.length = d.length + (r.length + 1) := by rw [hd]; simp
   refine Evt.step (fun k => by rw [rootcellarlaw7_sameSpans.l0]) ?_
   refine Evt.pos (by omega) ?_
   refine Evt.pos (by omega) ?_
   refine Evt.pos (by omega) ?_
   refine Evt.neg (by simp) ?_
   rw [idx _ (by omega)]
   have := ih (d ++ [s]) (by rw [hd]; simp)
   rw [List.length_append] at this
   exact this
 unfold rootcellarlaw7_sameSpans.f
 exact Evt.pos rfl (key l [] rfl)
theorem same_ev (l : List Fi) (hb : BdL l) : Evt (fun k => rootcellarlaw7_same.f k l (l.map toR)) true := by
 obtain ⟨hl, hw⟩ := hb
 have hml : (l.map toR).length = l.length := List.length_map ..
 have key : ∀ r d : List Fi, l = d ++ r → Evt (fun k => rootcellarlaw7_same.l0 k l (l.map toR) (d.length : Int)) true := by
  intro r
  induction r with
  | nil =>
   intro d hd
   rw [List.append_nil] at hd
   subst hd
   refine Evt.step (fun k => by rw [rootcellarlaw7_same.l0]) ?_
   exact Evt.neg (by omega) (Evt.val _)
  | cons f r ih =>
   intro d hd
   have hlen : l.length = d.length + (r.length + 1) := by rw [hd]; simp
   have hr1 : rd_T43 l (d.length : Int) = f := by
    have := rdF_mid d f r
    rwa [← hd] at this
   have hr2 : rd_T45 (l.map toR) (d.length : Int) = toR f := by
    have := rdR_mid (d.map toR) (toR f) (r.map toR)
    rwa [← List.map_cons, ← List.map_append, ← hd, List.length_map] at this
   refine Evt.step (fun k => by rw [rootcellarlaw7_same.l0]) ?_
   refine Evt.pos (by omega) ?_
   refine Evt.pos (by omega) ?_
   refine Evt.pos (by omega) ?_
   rw [hr1, hr2]
   refine Evt.pos rfl ?_
   refine Evt.pos rfl ?_
   refine Evt.bind (samespans_ev f.f2 (hw f (by rw [hd]; simp)).2) ?_
   refine Evt.step (fun k => by rw [rootcellarlaw7_same.j1]) ?_
   refine Evt.neg (by decide) ?_
   rw [idx _ (by omega)]
   have := ih (d ++ [f]) (by rw [hd]; simp)
   rw [List.length_append] at this
   exact this
 unfold rootcellarlaw7_same.f
 refine Evt.pos (by rw [hml]) ?_
 exact key l [] rfl
theorem as_ev (l : List Fi) (hl : l.length ≤ 100000) : Evt (fun k => rootcellarlaw7_as.f k l) (l.map toR) := by
 have key : ∀ r d : List Fi, l = d ++ r → Evt (fun k => rootcellarlaw7_as.l0 k l (d.map toR) (d.length : Int)) (l.map toR) := by
  intro r
  induction r with
  | nil =>
   intro d hd
   rw [List.append_nil] at hd
   subst hd
   refine Evt.step (fun k => by rw [rootcellarlaw7_as.l0]) ?_
   exact Evt.neg (by omega) (Evt.val _)
  | cons f r ih =>
   intro d hd
   have hlen : l.length = d.length + (r.length + 1) := by rw [hd]; simp
   have hr1 : rd_T43 l (d.length : Int) = f := by
    have := rdF_mid d f r
    rwa [← hd] at this
   refine Evt.step (fun k => by rw [rootcellarlaw7_as.l0]) ?_
   refine Evt.pos (by omega) ?_
   refine Evt.pos (by omega) ?_
   rw [hr1]
   refine Evt.pos (by rw [List.length_map]; omega) ?_
   rw [idx _ (by omega)]
   have := ih (d ++ [f]) (by rw [hd]; simp)
   rw [List.length_append, List.map_append] at this
   exact this
 unfold rootcellarlaw7_as.f
 exact key l [] rfl
def small1 (n : Nat) (f : Fi) : Bool := !(decide (150 < f.f0.size) || (decide (210 < f.f2.length) || (decide (20 < n) && decide (10 < f.f2.length))))
def smallB (l : List Fi) : Bool := decide (l.length ≤ 130) && l.all (small1 l.length)
theorem small_ev (l : List Fi) : Evt (fun k => rootcellarlaw7_small.f k l) (smallB l) := by
 unfold rootcellarlaw7_small.f smallB
 by_cases hl : l.length ≤ 130
 ·rw [decide_eq_true hl, Bool.true_and]
  refine Evt.neg (by omega) ?_
  have jt : ∀ n : Int, Evt (fun k => rootcellarlaw7_small.j1 k l n true) false := fun n => by
   refine Evt.step (fun k => by rw [rootcellarlaw7_small.j1]) ?_
   exact Evt.pos rfl (Evt.val _)
  have key : ∀ r d : List Fi, l = d ++ r → Evt (fun k => rootcellarlaw7_small.l0 k l (d.length : Int)) (r.all (small1 l.length)) := by
   intro r
   induction r with
   | nil =>
    intro d hd
    rw [List.append_nil] at hd
    refine Evt.step (fun k => by rw [rootcellarlaw7_small.l0]) ?_
    exact Evt.neg (by rw [hd]; omega) (Evt.val _)
   | cons f r ih =>
    intro d hd
    have hlen : l.length = d.length + (r.length + 1) := by rw [hd]; simp
    have hr1 : rd_T43 l (d.length : Int) = f := by
     have := rdF_mid d f r
     rwa [← hd] at this
    have hi := ih (d ++ [f]) (by rw [hd]; simp)
    rw [List.length_append] at hi
    have jf : Evt (fun k => rootcellarlaw7_small.j1 k l (d.length : Int) false) (r.all (small1 l.length)) := by
     refine Evt.step (fun k => by rw [rootcellarlaw7_small.j1]) ?_
     refine Evt.neg (by decide) ?_
     rw [idx _ (by omega)]
     exact hi
    refine Evt.step (fun k => by rw [rootcellarlaw7_small.l0]) ?_
    refine Evt.pos (by omega) ?_
    refine Evt.pos (by omega) ?_
    rw [hr1, List.all_cons]
    by_cases c1 : 150 < f.f0.size
    ·refine Evt.pos (by omega) ?_
     rw [show small1 l.length f = false by unfold small1; simp [c1]]
     exact jt _
    ·refine Evt.neg (by omega) ?_
     by_cases c2 : 210 < f.f2.length
     ·refine Evt.pos (by omega) ?_
      rw [show small1 l.length f = false by unfold small1; simp [c2]]
      exact jt _
     ·refine Evt.neg (by omega) ?_
      by_cases c3 : 20 < l.length
      ·refine Evt.pos (by omega) ?_
       by_cases c4 : 10 < f.f2.length
       ·rw [show small1 l.length f = false by unfold small1; simp [c3, c4], decide_eq_true (show (f.f2.length : Int) > 10 by omega)]
        exact jt _
       ·rw [show small1 l.length f = true by unfold small1; simp [c1, c2, c3, c4], decide_eq_false (show ¬ (f.f2.length : Int) > 10 by omega), Bool.true_and]
        exact jf
      ·refine Evt.neg (by omega) ?_
       rw [show small1 l.length f = true by unfold small1; simp [c1, c2, c3], Bool.true_and]
       exact jf
  exact key l [] rfl
 ·rw [decide_eq_false hl, Bool.false_and]
  exact Evt.pos (by omega) (Evt.val _)
theorem small_bd {l : List Fi} (h : smallB l = true) : BdL l ∧ l.length ≤ 130 := by
 unfold smallB at h
 simp only [Bool.and_eq_true, decide_eq_true_eq, List.all_eq_true] at h
 refine ⟨⟨by omega, fun f hf => ?_⟩, h.1⟩
 have := h.2 f hf
 unfold small1 at this
 simp only [Bool.not_eq_true', Bool.or_eq_false_iff, decide_eq_false_iff_not] at this
 exact ⟨by omega, by omega⟩
theorem take_bd (s : List UInt8) (h : s.length ≤ 100000) : BdL (takeV s).1 := by
 have hu := unseal_len s
 have hn : BdL ([] : List Fi) := ⟨by decide, fun f hf => nomatch hf⟩
 unfold takeV
 by_cases c : (unsV s).2 = 0
 ·rw [if_pos c]
  split
  ·exact parse_bd _ (by omega)
  ·exact hn
 ·rw [if_neg c]; exact hn
theorem sum_le {α : Type} (g : α → List UInt8) (M : Nat) : ∀ l : List α, (∀ a ∈ l, (g a).length ≤ M) → (l.flatMap g).length ≤ M * l.length
 | [], _ => Nat.le_refl _
 | a :: t, h => by
  rw [List.flatMap_cons, List.length_append, List.length_cons, Nat.mul_add, Nat.mul_one]
  have h1 := h a (List.mem_cons_self ..)
  have h2 := sum_le g M t (fun u hu => h u (List.mem_cons_of_mem _ hu))
  omega
theorem small_len {l : List Fi} (h : smallB l = true) : (dirL l).length ≤ 99000 := by
 unfold smallB at h
 simp only [Bool.and_eq_true, decide_eq_true_eq, List.all_eq_true] at h
 obtain ⟨h1, h2⟩ := h
 have each : ∀ f ∈ l, f.f0.size ≤ 150 ∧ f.f2.length ≤ 210 ∧ (20 < l.length → f.f2.length ≤ 10) := fun f hf => by
  have := h2 f hf
  unfold small1 at this
  simp only [Bool.not_eq_true', Bool.or_eq_false_iff, decide_eq_false_iff_not, Bool.and_eq_false_iff] at this
  omega
 have flen : ∀ f : Fi, (fileL f).length = 6 + f.f0.size + 4 * f.f2.length := fun f => by
  unfold fileL
  simp only [List.length_append, numL_len, span_len]
  rw [← Lib.size_eq]
  omega
 unfold dirL
 rw [List.length_append, numL_len]
 by_cases hl : 20 < l.length
 ·have := sum_le fileL 196 l (fun f hf => by rw [flen]; have := each f hf; omega)
  omega
 ·have := sum_le fileL 996 l (fun f hf => by rw [flen]; have := each f hf; omega)
  omega
/-! ### The chapter's example -/
def exF : Fi := ⟨⟨#[97]⟩, 3, [⟨5, 1⟩]⟩
theorem ex_dir : dirB [exF] = true := by
 have h1 : labB exF.f0.data.toList = true := by decide
 have h2 : rightF 8192 (-1) exF.f2 = true := (rightF_iff sz8 _ _).2 ⟨fun s hs => by rw [List.mem_singleton.1 hs]; exact ⟨by decide, by decide, by decide⟩, List.pairwise_singleton .., fun s hs => by rw [List.mem_singleton.1 hs]; decide⟩
 unfold dirB goB goB wellB
 rw [h1, h2]
 decide
theorem shown_ev : Evt (fun k => rootcellarlaw7_shown.f k) true := by
 have hb : BdL [exF] := ⟨by decide, fun f hf => by rw [List.mem_singleton.1 hf]; exact ⟨by decide, by decide⟩⟩
 have hp : putV [exF] = (sealV (dirL [exF]), 0) := by unfold putV; rw [if_pos ex_dir]
 have hd : dirL [exF] = [1, 1, 97, 3, 0, 0, 0, 1, 5, 0, 1, 0] := by decide
 have e1 := put_ev [exF] hb
 rw [hp] at e1
 unfold rootcellarlaw7_shown.f
 refine Evt.bind e1 ?_
 have e2 := take_f (sealV (dirL [exF])) (by rw [sealV_len, hd]; decide)
 rw [unseal_seal] at e2
 refine Evt.bind' e2 ?_
 have e3 := take_ev' (sealV (dirL [exF])) (by rw [sealV_len, hd]; decide)
 rw [take_put ex_dir] at e3
 refine Evt.bind e3 ?_
 refine Evt.pos rfl (Evt.pos rfl (Evt.pos rfl (Evt.pos (by rw [B_toList]; exact hd) (Evt.pos rfl (Evt.pos (by decide) (Evt.val' ?_))))))
 show ((B [97]).toList == [97]) = true
 rw [B_toList]
 rfl
end Go.Proofs.YtppbcankhkgpfaaDoor.Th
