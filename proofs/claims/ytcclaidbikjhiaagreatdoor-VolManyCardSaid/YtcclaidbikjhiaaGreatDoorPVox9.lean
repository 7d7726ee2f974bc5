import Derived.Test.YtcclaidbikjhiaaGreatDoorPVox0
import Derived.Lib.SlBytesRow
import Derived.Lib.EndianMore
import Derived.Laws.BitsAllLaws
import Derived.Outline
import Derived.Lib.OthersKept
import Derived.Test.YtcclaidbikjhiaaGreatDoorLayD
--compressed
namespace Go.Proofs.YtcclaidbikjhiaaGreatDoor.PVo
open Go.RowKit Go.Proofs.YtcclaidbikjhiaaGreatDoorW.PrintWords Go.Proofs.YtcclaidbikjhiaaGreatDoorW.PrintLast Go.Proofs.YtcclaidbikjhiaaGreatDoorW.PrintMore
attribute [local go_sem] max2_int min2_int max_two min_two max_three min_three max_four min_four   -- for this text's walks alone
attribute [local go_sem high] hw_str_leq hw_str_gtr
set_option linter.unusedVariables false
set_option linter.unusedSimpArgs false
theorem eqA87 (d : Nat) (w : World) (x0 y0 : Int) (x1 y1 : Int) :
  (Op.equalIn (d + 2) 87 (.agg #[.int .i64 x0, .int .i64 x1]) (.agg #[.int .i64 y0, .int .i64 y1])).run Tryz.prog w = .ok (x0 == y0 && (x1 == y1)) w := by
 refine eqA_of Tryz.underlying87 (by kernel_rfl) ?_
 refine eqf_cons (by rfl) (by go_simp; rfl) (by go_simp; rfl) (by go_simp) ?_
 exact eqf_last (by rfl) (by go_simp; rfl) (by go_simp; rfl) (by go_simp)
def bits_Mul64.f (a0 : Int) (a1 : Int) : Option (Int × Int) := some (IntKind.u64.wrap ((IntKind.u64.wrap ((IntKind.u64.wrap ((a0 / 4294967296) * (a1 / 4294967296))) + ((IntKind.u64.wrap ((IntKind.u64.wrap ((a0 / 4294967296) * (Go.bits .and .u64 a1 4294967295))) + ((IntKind.u64.wrap ((Go.bits .and .u64 a0 4294967295) * (Go.bits .and .u64 a1 4294967295))) / 4294967296))) / 4294967296))) + ((IntKind.u64.wrap ((Go.bits .and .u64 (IntKind.u64.wrap ((IntKind.u64.wrap ((a0 / 4294967296) * (Go.bits .and .u64 a1 4294967295))) + ((IntKind.u64.wrap ((Go.bits .and .u64 a0 4294967295) * (Go.bits .and .u64 a1 4294967295))) / 4294967296))) 4294967295) + (IntKind.u64.wrap ((Go.bits .and .u64 a0 4294967295) * (a1 / 4294967296))))) / 4294967296)), IntKind.u64.wrap (a0 * a1))
set_option maxHeartbeats 8000000 in
set_option maxRecDepth 100000 in
theorem bits_Mul64.calls (a0 : Int) (a1 : Int) (r1 : Int) (r2 : Int) (w : World) (h : bits_Mul64.f a0 a1 = some (r1, r2)) :
  Calls Tryz.prog 183 #[.int .u64 a0, .int .u64 a1] w fun e w' => e = .returned (.tuple #[.int .u64 r1, .int .u64 r2]) ∧ Drawn0 w w' := by
 have H : (some (IntKind.u64.wrap ((IntKind.u64.wrap ((IntKind.u64.wrap ((a0 / 4294967296) * (a1 / 4294967296))) + ((IntKind.u64.wrap ((IntKind.u64.wrap ((a0 / 4294967296) * (Go.bits .and .u64 a1 4294967295))) + ((IntKind.u64.wrap ((Go.bits .and .u64 a0 4294967295) * (Go.bits .and .u64 a1 4294967295))) / 4294967296))) / 4294967296))) + ((IntKind.u64.wrap ((Go.bits .and .u64 (IntKind.u64.wrap ((IntKind.u64.wrap ((a0 / 4294967296) * (Go.bits .and .u64 a1 4294967295))) + ((IntKind.u64.wrap ((Go.bits .and .u64 a0 4294967295) * (Go.bits .and .u64 a1 4294967295))) / 4294967296))) 4294967295) + (IntKind.u64.wrap ((Go.bits .and .u64 a0 4294967295) * (a1 / 4294967296))))) / 4294967296)), IntKind.u64.wrap (a0 * a1))) = some (r1, r2) := h
 clear h
 simp only [Option.some.injEq, Prod.mk.injEq] at H
 obtain ⟨rfl, rfl⟩ := H
 go_enter Tryz.func183, Tryz.ntmps183
 go_wp2
 go_ret2
 exact ⟨rfB, by repeat (first | exact Drawn0.refl _ | apply Drawn0.step)⟩
def bits_Mul.f (a0 : Int) (a1 : Int) : Option (Int × Int) := (bits_Mul64.f a0 a1).bind fun bt101 => (some (bt101.1, bt101.2))
set_option maxHeartbeats 8000000 in
set_option maxRecDepth 100000 in
theorem bits_Mul.calls (a0 : Int) (a1 : Int) (r1 : Int) (r2 : Int) (w : World) (h : bits_Mul.f a0 a1 = some (r1, r2)) :
  Calls Tryz.prog 141 #[.int .u64 a0, .int .u64 a1] w fun e w' => e = .returned (.tuple #[.int .u64 r1, .int .u64 r2]) ∧ Drawn0 w w' := by
 have H : ((bits_Mul64.f a0 a1).bind fun bt101 => (some (bt101.1, bt101.2))) = some (r1, r2) := h
 clear h
 replace H := Option.bind_eq_some_iff.mp H
 obtain ⟨⟨t101, t102⟩, A30, H⟩ := H
 replace H : (some (t101, t102)) = some (r1, r2) := H
 have A3 := zA A30
 clear A30
 simp only [Option.some.injEq, Prod.mk.injEq] at H
 obtain ⟨rfl, rfl⟩ := H
 go_enter Tryz.func141, Tryz.ntmps141
 go_wp2_with (first | ((with_reducible refine gate_callee (f := 183) rfl ?_); refine goesL_ (some 25) rfl rfl Tryz.func183 (by kernel_rfl) rfl #[.int .u64 a0, .int .u64 a1] rfl argA ?_; (with_reducible refine (bits_Mul64.calls a0 a1 t101 t102 _ A3.out).mono ?_); rintro e w' ⟨rfl, ⟨nd, rfl⟩⟩; refine ⟨_, rfl, ?_⟩))
 go_ret2
 exact ⟨rfB, by repeat (first | exact Drawn0.refl _ | apply Drawn0.step)⟩
-- NOT PRINTED: function 91 (slices_Repeat_string_string)
-- NOT PRINTED: function 173 (abi_NoEscape)
-- NOT PRINTED: function 135 (strings_Builder_copyCheck)
-- NOT PRINTED: function 81 (strings_Builder_WriteString)
-- NOT PRINTED: function 84 (strings_Builder_String)
-- NOT PRINTED: function 110 (strings_Builder_Len)
-- NOT PRINTED: function 209 (bytealg_MakeNoZero)
-- NOT PRINTED: function 185 (strings_Builder_grow)
-- NOT PRINTED: function 143 (strings_Builder_Grow)
-- NOT PRINTED: function 92 (strings_Repeat)
-- NOT PRINTED: function 93 (slices_Clone_string_string)
-- NOT PRINTED: function 39 (dev_New)
def rootcellarref4_blank.f  : Option (ByteArray) := if 64 ≤ 281474976710656 then (some (strOfNums (List.replicate 64 0))) else (none)
set_option maxHeartbeats 8000000 in
set_option maxRecDepth 100000 in
theorem rootcellarref4_blank.calls  (r : ByteArray) (w : World) (h : rootcellarref4_blank.f  = some r) :
  Calls Tryz.prog 94 #[] w fun e w' => e = .returned (.string r) ∧ Below w.heap.size w w' := by
 have HB := zA (Below.refl w.heap.size w)
 have H : (if 64 ≤ 281474976710656 then (some (strOfNums (List.replicate 64 0))) else (none)) = some r := h
 clear h
 by_cases c1 : 64 ≤ 281474976710656
 ·rw [if_pos c1] at H
  have c1b0 := eq_true c1
  have c1b1 : decide (64 ≤ 281474976710656) = true := zH c1
  clear c1
  obtain ⟨y116, hy116⟩ : ∃ y_ : List Int, y_ = (List.replicate 64 0) := ⟨_, rfl⟩
  replace H : (some (strOfNums y116)) = some r := by first | (rw [hy116]; with_reducible exact H) | (have H2_ := (Option.bind_some _ _).symm.trans H; rw [hy116]; with_reducible exact H2_) | (have H2_ := (Option.bind_some _ _).symm.trans H; with_reducible exact H2_) | with_reducible exact H | (rw [hy116]; exact H) | exact H
  have Ny116 := zA hy116
  clear hy116
  obtain rfl := Option.some.inj H
  go_enter Tryz.func94, Tryz.ntmps94
  go_wp2_with (first | ((with_reducible refine gate_dst (N := 2) rfl ?_); refine Kd.R_make (Kd.int .u8) _ 5 rfl (N := 2) rfl 141 _ _ rfl 64 rfl rfl Tryz.underlying141 (.int .u8 0) 1 info5 rfl (by decide) (by omega) 0 (ok := fun _ => True) (okp := fun _ => True) rfl (fun _ hk => hk) trivial (by omega) (by omega) (Below.refl _ _) (Nat.le_refl _) ?_; intro v117 w2 ho3 hb hg_ hnew_; clear hg_ hnew_; (first | rw [← Ny116.out] at ho3 | (simp only [Int.reduceToNat] at ho3; rw [← Ny116.out] at ho3)); have n0_ := zA (Kd.R_lower ho3 (below_size belA)); have n1_ := zA (zL belA hb); clear HB; have HO118 := n0_; have HB := n1_; clear n0_ n1_; clear hb ho3; have hcv4 := own_string (P := Tryz.prog) Tryz.underlying141 Tryz.underlying5 Tryz.underlying9 (Kd.own_of_R HO118.out)))
  go_ret
  exact ⟨rfA, rW0⟩
 ·rw [if_neg c1] at H
  exact absurd H (by simp)
-- NOT PRINTED: function 40 (rootcellarref4_New)
def le_Put.f (a0 : Int) (a1 : Int) : Option ByteArray := if 0 ≤ a0 ∧ a0 < 18446744073709551616 then some ⟨(Go.Lib.leBytes (max 0 (min a1 8)).toNat a0.toNat).toArray⟩ else none
def le_Put.cs (v k : Nat) : Array Value := ((List.range 8).map fun j => Value.int .u8 (if j < k then ((v / 256 ^ j % 256 : Nat) : Int) else 0)).toArray
theorem le_Put.cs_get (v k j : Nat) (h : j < 8) : (le_Put.cs v k)[j]? = some (.int .u8 (if j < k then ((v / 256 ^ j % 256 : Nat) : Int) else 0)) := by
 unfold le_Put.cs
 simp [h]
theorem le_Put.cs_set (v k : Nat) (h : k < 8) : (le_Put.cs v k).setIfInBounds k (.int .u8 ((v / 256 ^ k % 256 : Nat) : Int)) = le_Put.cs v (k + 1) := by
 match k, h with
 | 0, _ => rfl
 | 1, _ => rfl
 | 2, _ => rfl
 | 3, _ => rfl
 | 4, _ => rfl
 | 5, _ => rfl
 | 6, _ => rfl
 | 7, _ => rfl
theorem le_Put.leBytes_get : ∀ (k v i : Nat), i < k → (Go.Lib.leBytes k v)[i]? = some ((v / 256 ^ i % 256).toUInt8)
 | 0, _, _, h => absurd h (Nat.not_lt_zero _)
 | k + 1, v, 0, _ => by simp [Go.Lib.leBytes]
 | k + 1, v, i + 1, h => by
  show (Go.Lib.leBytes k (v / 256))[i]? = _
  rw [le_Put.leBytes_get k (v / 256) i (by omega), Nat.div_div_eq_div_mul, Nat.pow_succ, Nat.mul_comm 256]
set_option maxHeartbeats 1000000 in
set_option maxRecDepth 100000 in
theorem le_Put.calls (a0 : Int) (a1 : Int) (r : ByteArray) (w : World) (h : le_Put.f a0 a1 = some r) :
  Calls Tryz.prog 82 #[.int .u64 a0, .int .i64 a1] w fun e w' => e = .returned (.string r) ∧ Below w.heap.size w w' := by
 unfold le_Put.f at h
 by_cases hr : 0 ≤ a0 ∧ a0 < 18446744073709551616
 ·rw [if_pos hr] at h
  obtain rfl := Option.some.inj h
  clear h
  obtain ⟨v, rfl⟩ : ∃ v : Nat, a0 = (v : Int) := ⟨a0.toNat, by omega⟩
  have hv : v < 18446744073709551616 := by omega
  rw [Int.toNat_natCast]
  have HV := zA hv
  clear hr hv
  generalize hres : (⟨(Go.Lib.leBytes (max 0 (min a1 8)).toNat v).toArray⟩ : ByteArray) = res
  have HRES := zA hres
  clear hres
  have h0 : (w.alloc (.cells #[.int .u8 0, .int .u8 0, .int .u8 0, .int .u8 0, .int .u8 0, .int .u8 0, .int .u8 0, .int .u8 0] 189)).heap[w.heap.size]? = some (.cells (le_Put.cs v 0) 189 (0, 0)) := blk_new w _
  have hb0 : Below w.heap.size w (w.alloc (.cells #[.int .u8 0, .int .u8 0, .int .u8 0, .int .u8 0, .int .u8 0, .int .u8 0, .int .u8 0, .int .u8 0] 189)) := (Below.refl _ w).alloc (Nat.le_refl _) _
  have H0 := zA h0
  have HB0 := zA hb0
  clear h0 hb0
  go_enter Tryz.func82, Tryz.ntmps82
  go_wp2
  go_loopg [7] 8 (fun gg s7 wr => ∃ k : Nat, k ≤ 8 ∧ 8 - k ≤ gg ∧ s7 = .int .i64 k ∧ Aside0 (wr.heap[w.heap.size]? = some (.cells (le_Put.cs v k) 189 (0, 0))) ∧ Aside0 (Below w.heap.size w wr))
  case atStart => exact ⟨0, by omega, by omega, rfl, H0, HB0⟩
  case round =>
   obtain ⟨k, hk, hg, rfl, HA, HB⟩ := hrel
   by_cases hlt : k < 8
   ·have hltz : decide ((k : Int) < 8) = true := zH (by omega)
    have hkz : (0 : Int) ≤ (k : Int) := by omega
    have hk8 : (k : Int) < 8 := by omega
    have hs8 : wrap64 (8 * (k : Int)) = ((8 * k : Nat) : Int) := by unfold wrap64; push_cast; omega
    have hc := zN HA.out k
    have hf := zM HA.out k
    rw [le_Put.cs_get v k k hlt, if_neg (Nat.lt_irrefl k)] at hc
    have hval : ((v : Int) / 2 ^ (8 * k) % 256) = ((v / 256 ^ k % 256 : Nat) : Int) := by
     rw [show (2 : Int) ^ (8 * k) = ((256 ^ k : Nat) : Int) by rw [show (256 : Nat) = 2 ^ 8 from rfl, ← Nat.pow_mul, Int.natCast_pow]; rfl]
     rfl
    have HVAL := zA hval
    clear hval
    go_wp2
    go_roundg (8 - (k + 1))
    case measure => omega
    case rel => exact ⟨k + 1, by omega, by omega, by go_num, ⟨by rw [HVAL.out]; exact blk_put HA.out k _ (le_Put.cs_set v k hlt)⟩, ⟨HB.out.setCell (Nat.le_refl _) _⟩⟩
   ·have hltz : decide ((k : Int) < 8) = false := zI (by omega)
    have hkk : k = 8 := by omega
    subst hkk
    have hcv : ∀ n : Nat, n ≤ 8 → (max 0 (min a1 8)).toNat = n → (convert 141 9 (.slice (some ⟨w.heap.size, 0, none⟩) n 8)).run Tryz.prog wr = .ok (.string res) wr := by
     intro n hn8 hnz
     have hresn : res = ⟨(Go.Lib.leBytes n v).toArray⟩ := by rw [← HRES.out, hnz]
     have hsz : res.size = n := by rw [hresn]; show (Go.Lib.leBytes n v).toArray.size = n; simp [Go.Lib.leBytes_length]
     have hby : Lib.Bytes wr w.heap.size 0 res := fun i hi => by
      have hi' : i < n := by omega
      rw [Nat.zero_add, zN HA.out i, le_Put.cs_get v 8 i (by omega), if_pos (by omega)]
      have hg : (Go.Lib.leBytes n v)[i]? = some ((v / 256 ^ i % 256).toUInt8) := le_Put.leBytes_get n v i hi'
      have hg2 : res[i] = (v / 256 ^ i % 256).toUInt8 := by
       subst hresn
       have := List.getElem?_eq_some_iff.1 hg
       obtain ⟨q, hq⟩ := this
       exact hq
      rw [hg2, Go.Lib.toUInt8_mod]
     have hcv := Lib.run_convert_whole (P := Tryz.prog) wr 141 5 9 Tryz.underlying141 Tryz.underlying5 Tryz.underlying9 w.heap.size 0 res hby 8
     rw [hsz] at hcv
     exact hcv
    rcases (show a1 ≤ 0 ∨ (1 ≤ a1 ∧ a1 ≤ 8) ∨ 8 < a1 by omega) with hc | ⟨hc1, hc2⟩ | hc
    ·have hcv0 := hcv 0 (by omega) (by omega)
     clear hcv
     go_wp2
     go_ret
     exact ⟨rfl, HB.out⟩
    ·obtain ⟨n, rfl⟩ : ∃ n : Nat, a1 = (n : Int) := ⟨a1.toNat, by omega⟩
     have hcv0 := hcv n (by omega) (by omega)
     clear hcv
     go_wp2
     go_ret
     exact ⟨rfl, HB.out⟩
    ·have hcv0 := hcv 8 (by omega) (by omega)
     clear hcv
     go_wp2
     go_ret
     exact ⟨rfl, HB.out⟩
 ·rw [if_neg hr] at h
  cases h
def cntR (s : ByteArray) : Nat → Nat → Nat
 | 0, _ => 0
 | fuel + 1, pos => if pos < s.size then 1 + cntR s fuel (pos + (Utf8.decode s pos).2) else 0
theorem width_posR (s : ByteArray) (pos : Nat) (h : pos < s.size) : 1 ≤ (Utf8.decode s pos).2 := by
 by_cases ha : (s[pos]'h).toNat < 128
 ·rw [decode_ascii s pos h ha]
  exact Nat.le_refl _
 ·exact (decode_high s pos h (by omega)).2
theorem cntR_end (s : ByteArray) (fuel pos : Nat) (h : ¬ pos < s.size) : cntR s fuel pos = 0 := by
 cases fuel with
 | zero => rfl
 | succ f => simp [cntR, h]
theorem cntR_le (s : ByteArray) : ∀ fuel pos, cntR s fuel pos ≤ fuel
 | 0, _ => Nat.le_refl _
 | f + 1, pos => by
  unfold cntR
  split
  ·have := cntR_le s f (pos + (Utf8.decode s pos).2); omega
  ·omega
def label_Count.f (a0 : ByteArray) : Option Int := if a0.size ≤ 9223372036854775807 then some (cntR a0 a0.size 0 : Int) else none
set_option maxHeartbeats 1000000 in
set_option maxRecDepth 100000 in
theorem label_Count.calls (a0 : ByteArray) (r : Int) (w : World) (h : label_Count.f a0 = some r) :
  Calls Tryz.prog 102 #[.string a0] w fun e w' => e = .returned (.int .i64 r) ∧ Below w.heap.size w w' := by
 unfold label_Count.f at h
 by_cases hs : a0.size ≤ 9223372036854775807
 ·rw [if_pos hs] at h
  obtain rfl := Option.some.inj h
  clear h
  have hle := cntR_le a0 a0.size 0
  generalize hR : cntR a0 a0.size 0 = R at hle ⊢
  go_enter Tryz.func102, Tryz.ntmps102
  go_wp2
  go_loopw [3] (fun s3 wr => ∃ (pos fuel n : Nat), s3 = .int .i64 n ∧ wr.heap[w.heap.size]? = some (.stringIter a0 pos) ∧ Below w.heap.size w wr ∧ n + cntR a0 fuel pos = R ∧ a0.size ≤ pos + fuel) (fun _ wr => a0.size - wr.iterPos w.heap.size)
  case atStart =>
   refine ⟨0, a0.size, 0, rfl, ?_, (Below.refl _ w).alloc (Nat.le_refl _) _, by rw [hR]; omega, by omega⟩
   exact World.iter_heap w a0 0
  case round =>
   obtain ⟨pos, fuel, n, rfl, hit, hbw, hacc, hfu⟩ := hrel
   by_cases hp : pos < a0.size
   ·have hnx : ∀ ty, (Instr.next (.pointer (some ⟨w.heap.size, 0, none⟩)) true ty).run Tryz.prog wr = _ := fun ty => Lib.run_next_any_at wr w.heap.size a0 pos ty hit hp
    have hwd := width_posR a0 pos hp
    have hit2 := Lib.iterAt_heap wr w.heap.size a0 pos (pos + (Utf8.decode a0 pos).2) hit
    have hbw2 := Lib.below_iterAt hbw (k := w.heap.size) (Nat.le_refl _) a0 (pos + (Utf8.decode a0 pos).2)
    obtain ⟨f, rfl⟩ : ∃ f, fuel = f + 1 := ⟨fuel - 1, by omega⟩
    rw [cntR, if_pos hp] at hacc
    go_wp2
    go_roundw
    case rel => exact ⟨pos + (Utf8.decode a0 pos).2, f, n + 1, by go_num, hit2, hbw2, by omega, by omega⟩
    case measure =>
     simp only [World.iterPos, hit2, hit]
     omega
   ·have hnx : ∀ ty, (Instr.next (.pointer (some ⟨w.heap.size, 0, none⟩)) true ty).run Tryz.prog wr = _ := fun ty => Lib.run_next_end_at wr w.heap.size a0 pos ty hit hp
    rw [cntR_end a0 fuel pos hp] at hacc
    obtain rfl : n = R := by omega
    go_wp2
    go_ret
    exact ⟨rfl, hbw⟩
 ·rw [if_neg hs] at h
  cases h
def TabsW (w : World) : Prop := Lib.Utf8Tabs (Tryz.layValid_ren.g 3) (Tryz.layValid_ren.g 4) w
theorem TabsW.below {w w' : World} (h : TabsW w) (hb : Below w.heap.size w w') : TabsW w' := Utf8Tabs_below h hb
def utf8_ValidString.f (a0 : ByteArray) : Option Bool := if a0.size ≤ 9223372036854775807 then some (Lib.validD a0.data.toList) else none
theorem utf8_ValidString.calls (a0 : ByteArray) (r : Bool) (w : World) (ht : TabsW w) (h : utf8_ValidString.f a0 = some r) :
  Calls Tryz.prog 148 #[.string a0] w fun e w' => e = .returned (.bool r) ∧ Below w.heap.size w w' := by
 unfold utf8_ValidString.f at h
 by_cases hs : a0.size ≤ 9223372036854775807
 ·rw [if_pos hs] at h
  obtain rfl := Option.some.inj h
  exact Any.utf8_ValidString Tryz.layValid a0 w hs ht
 ·rw [if_neg hs] at h
  cases h
def label_Valid.f (a0 : ByteArray) : Option (Bool) := (utf8_ValidString.f a0).bind fun t119 => (some t119)
set_option maxHeartbeats 8000000 in
set_option maxRecDepth 100000 in
theorem label_Valid.calls (a0 : ByteArray) (r : Bool) (w : World) (ht : TabsW w) (h : label_Valid.f a0 = some r) :
  Calls Tryz.prog 101 #[.string a0] w fun e w' => e = .returned (.bool r) ∧ Below w.heap.size w w' := by
 have HT0 := zA ht
 clear ht
 have HB := zA (Below.refl w.heap.size w)
 have H : ((utf8_ValidString.f a0).bind fun t119 => (some t119)) = some r := h
 clear h
 replace H := Option.bind_eq_some_iff.mp H
 obtain ⟨t119, A20, H⟩ := H
 replace H : (some t119) = some r := H
 have A2 := zA A20
 clear A20
 obtain rfl := Option.some.inj H
 go_enter Tryz.func101, Tryz.ntmps101
 go_wp2_with (first | ((with_reducible refine gate_callee (f := 148) rfl ?_); refine goesL_ (some 4) rfl rfl Tryz.func148 (by kernel_rfl) rfl #[.string a0] rfl argA ?_; (with_reducible refine (utf8_ValidString.calls a0 t119 _ ?side1 A2.out).mono ?_); (case side1 => exact TabsW.below HT0.out belA); rintro e w3 ⟨rfl, hb⟩; refine ⟨_, rfl, ?_⟩; have n0_ := zA (zL belA hb); clear HB; have HB := n0_; clear n0_; (try clear hb); (try clear hb2); (try clear hk); (try clear hi)))
 go_ret
 exact ⟨rfA, rW0⟩
def badR (s : ByteArray) : Nat → Nat → Bool
 | 0, _ => false
 | fuel + 1, pos => if pos < s.size then (if ((Utf8.decode s pos).1 : Int) < 32 then true else if ((Utf8.decode s pos).1 : Int) = 127 then true else badR s fuel (pos + (Utf8.decode s pos).2)) else false
theorem badR_end (s : ByteArray) (fuel pos : Nat) (h : ¬ pos < s.size) : badR s fuel pos = false := by
 cases fuel with
 | zero => rfl
 | succ f => simp [badR, h]
def label_Right.f (a0 : ByteArray) : Option Bool := if a0.size ≤ 9223372036854775807 then some (!(badR a0 a0.size 0) && (Lib.validD a0.data.toList && (decide (0 < a0.size) && (decide (cntR a0 a0.size 0 ≤ 24) && (decide (bt a0 0 ≠ 32) && decide (bt a0 ((a0.size : Int) - 1) ≠ 32)))))) else none
set_option maxHeartbeats 1000000 in
set_option maxRecDepth 100000 in
theorem label_Right.calls (a0 : ByteArray) (r : Bool) (w : World) (ht : TabsW w) (h : label_Right.f a0 = some r) :
  Calls Tryz.prog 45 #[.string a0] w fun e w' => e = .returned (.bool r) ∧ Below w.heap.size w w' := by
 unfold label_Right.f at h
 by_cases hs : a0.size ≤ 9223372036854775807
 ·rw [if_pos hs] at h
  obtain rfl := Option.some.inj h
  clear h
  have HT := zA ht
  clear ht
  generalize hR : badR a0 a0.size 0 = R
  generalize hres0 : (!R && (Lib.validD a0.data.toList && (decide (0 < a0.size) && (decide (cntR a0 a0.size 0 ≤ 24) && (decide (bt a0 0 ≠ 32) && decide (bt a0 ((a0.size : Int) - 1) ≠ 32)))))) = res
  have HRES0 := zA hres0
  clear hres0
  go_enter Tryz.func45, Tryz.ntmps45
  go_wp2
  go_loopw [] (fun wr => ∃ (pos fuel : Nat), wr.heap[w.heap.size]? = some (.stringIter a0 pos) ∧ Below w.heap.size w wr ∧ badR a0 fuel pos = R ∧ a0.size ≤ pos + fuel) (fun wr => a0.size - wr.iterPos w.heap.size)
  case atStart =>
   refine ⟨0, a0.size, ?_, (Below.refl _ w).alloc (Nat.le_refl _) _, hR, by omega⟩
   exact World.iter_heap w a0 0
  case round =>
   clear hR
   obtain ⟨pos, fuel, hit, hbw, hacc, hfu⟩ := hrel
   by_cases hp : pos < a0.size
   ·have hnx : ∀ ty, (Instr.next (.pointer (some ⟨w.heap.size, 0, none⟩)) true ty).run Tryz.prog wr = _ := fun ty => Lib.run_next_any_at wr w.heap.size a0 pos ty hit hp
    have hwd := width_posR a0 pos hp
    have hit2 := Lib.iterAt_heap wr w.heap.size a0 pos (pos + (Utf8.decode a0 pos).2) hit
    have hbw2 := Lib.below_iterAt hbw (k := w.heap.size) (Nat.le_refl _) a0 (pos + (Utf8.decode a0 pos).2)
    obtain ⟨f, rfl⟩ : ∃ f, fuel = f + 1 := ⟨fuel - 1, by omega⟩
    rw [badR, if_pos hp] at hacc
    by_cases h1 : ((Utf8.decode a0 pos).1 : Int) < 32
    ·have b1 : decide (((Utf8.decode a0 pos).1 : Int) < 32) = true := zH h1
     rw [if_pos h1] at hacc
     subst hacc
     clear h1
     have HF := zA (show res = false by rw [← HRES0.out]; rfl)
     clear HRES0
     go_wp2
     go_ret
     exact ⟨by rw [HF.out]; rfl, hbw2⟩
    ·have b1 : decide (((Utf8.decode a0 pos).1 : Int) < 32) = false := zI h1
     rw [if_neg h1] at hacc
     clear h1
     by_cases h2 : ((Utf8.decode a0 pos).1 : Int) = 127
     ·have b2 : (((Utf8.decode a0 pos).1 : Int) == 127) = true := beq_iff_eq.2 h2
      have b3 : decide (((Utf8.decode a0 pos).1 : Int) = 127) = true := zH h2
      rw [if_pos h2] at hacc
      subst hacc
      clear h2
      have HF := zA (show res = false by rw [← HRES0.out]; rfl)
      clear HRES0
      go_wp2
      go_ret
      exact ⟨by rw [HF.out]; rfl, hbw2⟩
     ·have b2 : (((Utf8.decode a0 pos).1 : Int) == 127) = false := beq_eq_false_iff_ne.2 h2
      have b3 : decide (((Utf8.decode a0 pos).1 : Int) = 127) = false := zI h2
      rw [if_neg h2] at hacc
      clear h2
      go_wp2
      go_roundw
      case rel => exact ⟨pos + (Utf8.decode a0 pos).2, f, hit2, hbw2, hacc, by omega⟩
      case measure =>
       simp only [World.iterPos, hit2, hit]
       omega
   ·have hnx : ∀ ty, (Instr.next (.pointer (some ⟨w.heap.size, 0, none⟩)) true ty).run Tryz.prog wr = _ := fun ty => Lib.run_next_end_at wr w.heap.size a0 pos ty hit hp
    rw [badR_end a0 fuel pos hp] at hacc
    subst hacc
    have hV : label_Valid.f a0 = some (Lib.validD a0.data.toList) := by unfold label_Valid.f utf8_ValidString.f; rw [if_pos hs]; rfl
    have hC : label_Count.f a0 = some (cntR a0 a0.size 0 : Int) := by unfold label_Count.f; rw [if_pos hs]
    have HTW := zA (TabsW.below HT.out hbw)
    have HBW := zA hbw
    have hbl : ∀ hz : 0 < a0.size, bt a0 0 = ((a0[0]'hz).toNat : Int) ∧ bt a0 ((a0.size : Int) - 1) = ((a0[a0.size - 1]'(by omega)).toNat : Int) := fun hz => by
     have e : ((a0.size : Int) - 1).toNat = a0.size - 1 := by omega
     refine ⟨?_, ?_⟩
     ·unfold bt; rw [dif_pos (show (0 : Int).toNat < a0.size from hz)]; rfl
     ·unfold bt; rw [dif_pos (by omega)]; simp only [e]
    have hres := HRES0.out
    clear HRES0
    cases hv : Lib.validD a0.data.toList with
    | false =>
     rw [hv] at hV hres
     have HRES := zA (show res = false by rw [← hres]; simp)
     clear hres hbl hC
     go_wp2_with (go_at_call 101; refine (label_Valid.calls a0 _ _ HTW.out hV).mono ?_; rintro e w2 ⟨rfl, hb2⟩)
     go_ret
     exact ⟨by rw [HRES.out]; rfl, zL HBW.out hb2⟩
    | true =>
     rw [hv] at hV hres
     by_cases hz : 0 < a0.size
     ·have he : a0.toList.isEmpty = false := by
       cases ht : a0.toList with
       | nil =>
        have : a0.data.toList.length = 0 := by rw [← Lib.toList_data, ht]; rfl
        rw [Array.length_toList] at this
        have h2 : a0.size = a0.data.size := rfl
        omega
       | cons _ _ => rfl
      by_cases h24 : cntR a0 a0.size 0 ≤ 24
      ·have h24z : decide ((cntR a0 a0.size 0 : Int) ≤ 24) = true := zH (by omega)
       obtain ⟨q0, q1⟩ := hbl hz
       have HRES := zA (show res = (decide ((a0[0].toNat : Int) ≠ 32) && decide ((a0[a0.size - 1].toNat : Int) ≠ 32)) by
        rw [← hres, zH hz, zH h24, q0, q1]
        rfl)
       clear hres q0 q1 hbl h24
       generalize cntR a0 a0.size 0 = cn at hC h24z
       by_cases e0 : (a0[0].toNat : Int) = 32
       ·have HR2 := zA (show res = false by rw [HRES.out, e0]; rfl)
        clear HRES
        go_wp2_with (first | (go_at_call 101; refine (label_Valid.calls a0 _ _ HTW.out hV).mono ?_; rintro e w2 ⟨rfl, hb2⟩) | (go_at_call 102; refine (label_Count.calls a0 _ _ hC).mono ?_; rintro e w3 ⟨rfl, hb3⟩))
        go_ret
        exact ⟨by rw [HR2.out]; rfl, zL (zL HBW.out hb2) hb3⟩
       ·have n0 : ((a0[0].toNat : Int) != 32) = true := bne_iff_ne.2 e0
        have HR2 := zA (show res = decide ((a0[a0.size - 1].toNat : Int) ≠ 32) by rw [HRES.out, zH e0]; rfl)
        clear HRES
        by_cases e1 : (a0[a0.size - 1].toNat : Int) = 32
        ·have HR3 := zA (show res = false by rw [HR2.out, e1]; rfl)
         clear HR2
         go_wp2_with (first | (go_at_call 101; refine (label_Valid.calls a0 _ _ HTW.out hV).mono ?_; rintro e w2 ⟨rfl, hb2⟩) | (go_at_call 102; refine (label_Count.calls a0 _ _ hC).mono ?_; rintro e w3 ⟨rfl, hb3⟩))
         go_ret
         exact ⟨by rw [HR3.out]; rfl, zL (zL HBW.out hb2) hb3⟩
        ·have n1 : ((a0[a0.size - 1].toNat : Int) != 32) = true := bne_iff_ne.2 e1
         have HR3 := zA (show res = true by rw [HR2.out, zH e1])
         clear HR2
         go_wp2_with (first | (go_at_call 101; refine (label_Valid.calls a0 _ _ HTW.out hV).mono ?_; rintro e w2 ⟨rfl, hb2⟩) | (go_at_call 102; refine (label_Count.calls a0 _ _ hC).mono ?_; rintro e w3 ⟨rfl, hb3⟩))
         go_ret
         exact ⟨by rw [HR3.out]; rfl, zL (zL HBW.out hb2) hb3⟩
      ·have h24z : decide ((cntR a0 a0.size 0 : Int) ≤ 24) = false := zI (by omega)
       have HRES := zA (show res = false by rw [← hres, zI h24]; simp)
       clear hres hbl h24
       generalize cntR a0 a0.size 0 = cn at hC h24z
       go_wp2_with (first | (go_at_call 101; refine (label_Valid.calls a0 _ _ HTW.out hV).mono ?_; rintro e w2 ⟨rfl, hb2⟩) | (go_at_call 102; refine (label_Count.calls a0 _ _ hC).mono ?_; rintro e w3 ⟨rfl, hb3⟩))
       go_ret
       exact ⟨by rw [HRES.out]; rfl, zL (zL HBW.out hb2) hb3⟩
     ·have he : a0.toList.isEmpty = true := by
       rw [Lib.toList_data]
       have : a0.data.toList = [] := List.eq_nil_of_length_eq_zero (by rw [Array.length_toList]; have h2 : a0.size = a0.data.size := rfl; omega)
       rw [this]
       rfl
      have HRES := zA (show res = false by rw [← hres, zI hz]; simp)
      clear hres hbl hC
      go_wp2_with (go_at_call 101; refine (label_Valid.calls a0 _ _ HTW.out hV).mono ?_; rintro e w2 ⟨rfl, hb2⟩)
      go_ret
      exact ⟨by rw [HRES.out]; rfl, zL HBW.out hb2⟩
 ·rw [if_neg hs] at h
  cases h
def span_Total.l0 : Nat → Int → List (S87) → Int → Int → Option (Int)
 | 0, _, _, _, _ => none
 | k + 1, x3, x6, x7, x8 => if x8 < x7 then (if 0 ≤ x8 then (if x8 < (x6.length : Int) then (span_Total.l0 k (wrap64 (x3 + (mx ((rd_T87 x6 x8).f1) 0))) x6 x7 (wrap64 (x8 + 1))) else (none)) else (none)) else (some x3)
def span_Total.f (k : Nat) (l0 : List (S87)) : Option (Int) := span_Total.l0 k 0 l0 (l0.length : Int) 0
set_option maxHeartbeats 8000000 in
set_option maxRecDepth 100000 in
theorem span_Total.calls (k : Nat) (A0 : Option Addr) (c0 : Nat) (l0 : List (S87)) (r : Int) (w : World) (hr0 : Kd.C k87 w A0 l0.length l0) (hc0 : l0.length ≤ c0) (h : span_Total.f k l0 = some r) :
  Calls Tryz.prog 76 #[.slice A0 l0.length c0] w fun e w' => e = .returned (.int .i64 r) ∧ Below w.heap.size w w' := by
 have hu87 := Tryz.underlying87
 have HR0 := zA hr0
 have HC0 := zA hc0
 clear hr0 hc0
 have HB := zA (Below.refl w.heap.size w)
 have H : (span_Total.l0 k 0 l0 (l0.length : Int) 0) = some r := h
 clear h
 have H' := zA H
 clear H
 go_enter Tryz.func76, Tryz.ntmps76
 go_wp2
 go_loopg [3, 8] k (fun kq v3 v8 w' => ∃ (x3_1 : Int) (x8_1 : Int), v3 = .int .i64 x3_1 ∧ v8 = .int .i64 x8_1 ∧ Aside0 (span_Total.l0 kq x3_1 l0 (l0.length : Int) x8_1 = some r) ∧ Aside0 (kq ≤ k) ∧ Aside0 (Below w.heap.size w w'))
 case atStart => exact ⟨(0), (0), (rfB), (rfB), H', ⟨Nat.le_refl _⟩, ⟨rW0⟩⟩
 case round =>
  clear H'
  obtain ⟨x3_1, x8_1, rfl, rfl, HA, HK1, HB⟩ := hrel
  cases gk with
  | zero => exact absurd HA.out (by simp [span_Total.l0])
  | succ k1 =>
   have H := HA.out
   clear HA
   simp only [span_Total.l0] at H
   by_cases c2 : x8_1 < (l0.length : Int)
   ·rw [if_pos c2] at H
    have c2b0 : decide (x8_1 < (l0.length : Int)) = true := zH c2
    clear c2
    by_cases c3 : 0 ≤ x8_1
    ·rw [if_pos c3] at H
     have c3b0 : decide (0 ≤ x8_1) = true := zH c3
     clear c3
     by_cases c4 : x8_1 < (l0.length : Int)
     ·rw [if_pos c4] at H
      have c4b0 : decide (x8_1 < (l0.length : Int)) = true := zH c4
      clear c4
      obtain ⟨ji5, hji5⟩ : ∃ j_ : Int, (mx ((rd_T87 l0 x8_1).f1) 0) = j_ := ⟨_, rfl⟩
      replace H : (span_Total.l0 k1 (wrap64 (x3_1 + (ji5))) l0 (l0.length : Int) (wrap64 (x8_1 + 1))) = some r := by first | (rw [hji5] at H; exact H) | (simp only [hji5] at H ⊢; exact H)
      have hji5_ : (if ((rd_T87 l0 x8_1).f1) < 0 then 0 else ((rd_T87 l0 x8_1).f1)) = ji5 := hji5
      have H' := zA H
      clear H
      have p120 : 0 ≤ (x8_1 : Int) := zG asA
      have q120 : x8_1 < (l0.length : Int) := zG asA
      obtain ⟨ad120, e120, hx120_0, hx120_1⟩ := at_T87 HR0.out x8_1 p120 q120
      cases e120
      replace hx120_0 := (HB.out.cell (zB w _ hx120_0)).trans hx120_0
      replace hx120_1 := (HB.out.cell (zB w _ hx120_1)).trans hx120_1
      replace p120 := eq_true p120
      replace q120 := eq_true q120
      go_wp2_with (first | ((with_reducible refine gate_dst (N := 5) rfl ?_); refine box_event ?hg (N := 5) ?hd (cs := #[.int .i64 0, .int .i64 0]) (t := 87) ?hr ?_; (case hd => rfl); (case hg => rfl); (case hr => first | (go_simp; done) | (go_simp; rfl)); intro gb121 hg w6 hbox hb; have n0_ := zA (zL belA hb); have n1_ := zA (hbox); have n2_ := zA ((by rw [hg]; exact (below_size belA) : w.heap.size ≤ gb121)); have n3_ := zA ((by rw [hg]; exact (below_size belA) : w.heap.size ≤ gb121)); clear HB; have HB := n0_; have BK121 := n1_; have GW121 := n2_; have GE121 := n3_; clear n0_ n1_ n2_ n3_; clear hb hbox hg; have hcz7_0 : w6.cell? ⟨gb121, 0, none⟩ = some (.int .i64 0) := (zN BK121.out 0).trans rfl; have hcz7_1 : w6.cell? ⟨gb121, 1, none⟩ = some (.int .i64 0) := (zN BK121.out 1).trans rfl; have hfz7_0 := zM BK121.out 0; have hfz7_1 := zM BK121.out 1))
      go_roundg k1
      case measure => have := HK1.out; omega
      case rel => exact ⟨(wrap64 (x3_1 + (ji5))), (wrap64 (x8_1 + 1)), (by first | rfl | (simp; done) | (simp only [← hji5] <;> (first | rfl | simp)) | (simp [*]; done)), (rfB), H', ⟨by have := HK1.out; omega⟩, ⟨rW1⟩⟩
     ·rw [if_neg c4] at H
      exact absurd H (by simp)
    ·rw [if_neg c3] at H
     exact absurd H (by simp)
   ·rw [if_neg c2] at H
    have c2b0 : decide (x8_1 < (l0.length : Int)) = false := zI c2
    clear c2
    obtain rfl := Option.some.inj H
    go_wp2
    go_ret
    exact ⟨rfA, rW0⟩
def span_inside.f (a0_0 : Int) (a0_1 : Int) (a1 : Int) : Option (Bool) := if a0_1 > 0 then (if a0_0 ≥ 0 then (if a0_0 < a1 then (some (decide (a0_1 ≤ (wrap64 (a1 - a0_0))))) else (some false)) else (some false)) else (some false)
set_option maxHeartbeats 8000000 in
set_option maxRecDepth 100000 in
theorem span_inside.calls (a0_0 : Int) (a0_1 : Int) (a1 : Int) (r : Bool) (w : World) (h : span_inside.f a0_0 a0_1 a1 = some r) :
  Calls Tryz.prog 176 #[.agg #[.int .i64 a0_0, .int .i64 a0_1], .int .i64 a1] w fun e w' => e = .returned (.bool r) ∧ Below w.heap.size w w' := by
 have hu87 := Tryz.underlying87
 have HB := zA (Below.refl w.heap.size w)
 have H : (if a0_1 > 0 then (if a0_0 ≥ 0 then (if a0_0 < a1 then (some (decide (a0_1 ≤ (wrap64 (a1 - a0_0))))) else (some false)) else (some false)) else (some false)) = some r := h
 clear h
 by_cases c3 : a0_1 > 0
 ·rw [if_pos c3] at H
  have c3b0 : decide (0 < a0_1) = true := zH c3
  clear c3
  by_cases c4 : a0_0 ≥ 0
  ·rw [if_pos c4] at H
   have c4b0 : decide (0 ≤ a0_0) = true := zH c4
   clear c4
   by_cases c5 : a0_0 < a1
   ·rw [if_pos c5] at H
    have c5b0 : decide (a0_0 < a1) = true := zH c5
    clear c5
    obtain rfl := Option.some.inj H
    go_enter Tryz.func176, Tryz.ntmps176
    go_wp2_with (first | ((with_reducible refine gate_dst (N := 2) rfl ?_); refine box_event ?hg (N := 2) ?hd (cs := #[.int .i64 a0_0, .int .i64 a0_1]) (t := 87) ?hr ?_; (case hd => rfl); (case hg => rfl); (case hr => first | (go_simp; done) | (go_simp; rfl)); intro gb122 hg w6 hbox hb; have n0_ := zA (zL belA hb); have n1_ := zA (hbox); have n2_ := zA ((by rw [hg]; exact (below_size belA) : w.heap.size ≤ gb122)); have n3_ := zA ((by rw [hg]; exact (below_size belA) : w.heap.size ≤ gb122)); clear HB; have HB := n0_; have BK122 := n1_; have GW122 := n2_; have GE122 := n3_; clear n0_ n1_ n2_ n3_; clear hb hbox hg; have hcz7_0 : w6.cell? ⟨gb122, 0, none⟩ = some (.int .i64 a0_0) := (zN BK122.out 0).trans rfl; have hcz7_1 : w6.cell? ⟨gb122, 1, none⟩ = some (.int .i64 a0_1) := (zN BK122.out 1).trans rfl; have hfz7_0 := zM BK122.out 0; have hfz7_1 := zM BK122.out 1))
    go_ret
    exact ⟨rfA, rW1⟩
   ·rw [if_neg c5] at H
    have c5b0 : decide (a0_0 < a1) = false := zI c5
    clear c5
    obtain rfl := Option.some.inj H
    go_enter Tryz.func176, Tryz.ntmps176
    go_wp2_with (first | ((with_reducible refine gate_dst (N := 2) rfl ?_); refine box_event ?hg (N := 2) ?hd (cs := #[.int .i64 a0_0, .int .i64 a0_1]) (t := 87) ?hr ?_; (case hd => rfl); (case hg => rfl); (case hr => first | (go_simp; done) | (go_simp; rfl)); intro gb122 hg w8 hbox hb; have n0_ := zA (zL belA hb); have n1_ := zA (hbox); have n2_ := zA ((by rw [hg]; exact (below_size belA) : w.heap.size ≤ gb122)); have n3_ := zA ((by rw [hg]; exact (below_size belA) : w.heap.size ≤ gb122)); clear HB; have HB := n0_; have BK122 := n1_; have GW122 := n2_; have GE122 := n3_; clear n0_ n1_ n2_ n3_; clear hb hbox hg; have hcz9_0 : w8.cell? ⟨gb122, 0, none⟩ = some (.int .i64 a0_0) := (zN BK122.out 0).trans rfl; have hcz9_1 : w8.cell? ⟨gb122, 1, none⟩ = some (.int .i64 a0_1) := (zN BK122.out 1).trans rfl; have hfz9_0 := zM BK122.out 0; have hfz9_1 := zM BK122.out 1))
    go_ret
    exact ⟨rfA, rW1⟩
  ·rw [if_neg c4] at H
   have c4b0 : decide (0 ≤ a0_0) = false := zI c4
   clear c4
   obtain rfl := Option.some.inj H
   go_enter Tryz.func176, Tryz.ntmps176
   go_wp2_with (first | ((with_reducible refine gate_dst (N := 2) rfl ?_); refine box_event ?hg (N := 2) ?hd (cs := #[.int .i64 a0_0, .int .i64 a0_1]) (t := 87) ?hr ?_; (case hd => rfl); (case hg => rfl); (case hr => first | (go_simp; done) | (go_simp; rfl)); intro gb122 hg w10 hbox hb; have n0_ := zA (zL belA hb); have n1_ := zA (hbox); have n2_ := zA ((by rw [hg]; exact (below_size belA) : w.heap.size ≤ gb122)); have n3_ := zA ((by rw [hg]; exact (below_size belA) : w.heap.size ≤ gb122)); clear HB; have HB := n0_; have BK122 := n1_; have GW122 := n2_; have GE122 := n3_; clear n0_ n1_ n2_ n3_; clear hb hbox hg; have hcz11_0 : w10.cell? ⟨gb122, 0, none⟩ = some (.int .i64 a0_0) := (zN BK122.out 0).trans rfl; have hcz11_1 : w10.cell? ⟨gb122, 1, none⟩ = some (.int .i64 a0_1) := (zN BK122.out 1).trans rfl; have hfz11_0 := zM BK122.out 0; have hfz11_1 := zM BK122.out 1))
   go_ret
   exact ⟨rfA, rW1⟩
 ·rw [if_neg c3] at H
  have c3b0 : decide (0 < a0_1) = false := zI c3
  clear c3
  obtain rfl := Option.some.inj H
  go_enter Tryz.func176, Tryz.ntmps176
  go_wp2_with (first | ((with_reducible refine gate_dst (N := 2) rfl ?_); refine box_event ?hg (N := 2) ?hd (cs := #[.int .i64 a0_0, .int .i64 a0_1]) (t := 87) ?hr ?_; (case hd => rfl); (case hg => rfl); (case hr => first | (go_simp; done) | (go_simp; rfl)); intro gb122 hg w12 hbox hb; have n0_ := zA (zL belA hb); have n1_ := zA (hbox); have n2_ := zA ((by rw [hg]; exact (below_size belA) : w.heap.size ≤ gb122)); have n3_ := zA ((by rw [hg]; exact (below_size belA) : w.heap.size ≤ gb122)); clear HB; have HB := n0_; have BK122 := n1_; have GW122 := n2_; have GE122 := n3_; clear n0_ n1_ n2_ n3_; clear hb hbox hg; have hcz13_0 : w12.cell? ⟨gb122, 0, none⟩ = some (.int .i64 a0_0) := (zN BK122.out 0).trans rfl; have hcz13_1 : w12.cell? ⟨gb122, 1, none⟩ = some (.int .i64 a0_1) := (zN BK122.out 1).trans rfl; have hfz13_0 := zM BK122.out 0; have hfz13_1 := zM BK122.out 1))
  go_ret
  exact ⟨rfA, rW1⟩
def span_sized.f (a0 : Int) : Option (Bool) := if a0 ≥ 1 then (some (decide (a0 ≤ 8192))) else (some false)
set_option maxHeartbeats 8000000 in
set_option maxRecDepth 100000 in
theorem span_sized.calls (a0 : Int) (r : Bool) (w : World) (h : span_sized.f a0 = some r) :
  Calls Tryz.prog 177 #[.int .i64 a0] w fun e w' => e = .returned (.bool r) ∧ Drawn0 w w' := by
 have H : (if a0 ≥ 1 then (some (decide (a0 ≤ 8192))) else (some false)) = some r := h
 clear h
 by_cases c2 : a0 ≥ 1
 ·rw [if_pos c2] at H
  have c2b0 : decide (1 ≤ a0) = true := zH c2
  clear c2
  obtain rfl := Option.some.inj H
  go_enter Tryz.func177, Tryz.ntmps177
  go_wp2
  go_ret
  exact ⟨rfB, by repeat (first | exact Drawn0.refl _ | apply Drawn0.step)⟩
 ·rw [if_neg c2] at H
  have c2b0 : decide (1 ≤ a0) = false := zI c2
  clear c2
  obtain rfl := Option.some.inj H
  go_enter Tryz.func177, Tryz.ntmps177
  go_wp2
  go_ret
  exact ⟨rfB, by repeat (first | exact Drawn0.refl _ | apply Drawn0.step)⟩
def span_Right.l0 : Nat → Int → Int → List (S87) → Int → Int → Option (Bool)
 | 0, _, _, _, _, _ => none
 | k + 1, x1, x5, x8, x9, x10 => if x10 < x9 then (if 0 ≤ x10 then (if x10 < (x8.length : Int) then ((span_inside.f ((rd_T87 x8 x10).f0) ((rd_T87 x8 x10).f1) x1).bind fun t126 => (if t126 = true then (if ((rd_T87 x8 x10).f0) ≤ x5 then (some false) else (span_Right.l0 k x1 (wrap64 (((rd_T87 x8 x10).f0) + ((rd_T87 x8 x10).f1))) x8 x9 (wrap64 (x10 + 1)))) else (some false))) else (none)) else (none)) else ((span_sized.f x1).bind fun t123 => (some t123))
def span_Right.f (k : Nat) (l0 : List (S87)) (a1 : Int) : Option (Bool) := span_Right.l0 k a1 (-1) l0 (l0.length : Int) 0
set_option maxHeartbeats 8000000 in
set_option maxRecDepth 100000 in
theorem span_Right.calls (k : Nat) (A0 : Option Addr) (c0 : Nat) (l0 : List (S87)) (a1 : Int) (r : Bool) (w : World) (hr0 : Kd.C k87 w A0 l0.length l0) (hc0 : l0.length ≤ c0) (h : span_Right.f k l0 a1 = some r) :
  Calls Tryz.prog 156 #[.slice A0 l0.length c0, .int .i64 a1] w fun e w' => e = .returned (.bool r) ∧ Below w.heap.size w w' := by
 have hu87 := Tryz.underlying87
 have HR0 := zA hr0
 have HC0 := zA hc0
 clear hr0 hc0
 have HB := zA (Below.refl w.heap.size w)
 have H : (span_Right.l0 k a1 (-1) l0 (l0.length : Int) 0) = some r := h
 clear h
 have H' := zA H
 clear H
 go_enter Tryz.func156, Tryz.ntmps156
 go_wp2
 go_loopg [5, 10] k (fun kq v5 v10 w' => ∃ (x5_1 : Int) (x10_1 : Int), v5 = .int .i64 x5_1 ∧ v10 = .int .i64 x10_1 ∧ Aside0 (span_Right.l0 kq a1 x5_1 l0 (l0.length : Int) x10_1 = some r) ∧ Aside0 (kq ≤ k) ∧ Aside0 (Below w.heap.size w w'))
 case atStart => exact ⟨((-1)), (0), (rfB), (rfB), H', ⟨Nat.le_refl _⟩, ⟨rW0⟩⟩
 case round =>
  clear H'
  try clear c1
  try clear p2
  obtain ⟨x5_1, x10_1, rfl, rfl, HA, HK1, HB⟩ := hrel
  cases gk with
  | zero => exact absurd HA.out (by simp [span_Right.l0])
  | succ k1 =>
   have H := HA.out
   clear HA
   simp only [span_Right.l0] at H
   by_cases c3 : x10_1 < (l0.length : Int)
   ·rw [if_pos c3] at H
    have c3b0 : decide (x10_1 < (l0.length : Int)) = true := zH c3
    clear c3
    by_cases c4 : 0 ≤ x10_1
    ·rw [if_pos c4] at H
     have c4b0 : decide (0 ≤ x10_1) = true := zH c4
     clear c4
     by_cases c5 : x10_1 < (l0.length : Int)
     ·rw [if_pos c5] at H
      have c5b0 : decide (x10_1 < (l0.length : Int)) = true := zH c5
      clear c5
      replace H := Option.bind_eq_some_iff.mp H
      obtain ⟨t126, A60, H⟩ := H
      replace H : (if t126 = true then (if ((rd_T87 l0 x10_1).f0) ≤ x5_1 then (some false) else (span_Right.l0 k1 a1 (wrap64 (((rd_T87 l0 x10_1).f0) + ((rd_T87 l0 x10_1).f1))) l0 (l0.length : Int) (wrap64 (x10_1 + 1)))) else (some false)) = some r := H
      have A6 := zA A60
      clear A60
      by_cases c7 : t126 = true
      ·subst c7
       have H1 : (if ((rd_T87 l0 x10_1).f0) ≤ x5_1 then (some false) else (span_Right.l0 k1 a1 (wrap64 (((rd_T87 l0 x10_1).f0) + ((rd_T87 l0 x10_1).f1))) l0 (l0.length : Int) (wrap64 (x10_1 + 1)))) = some r := by rw [if_pos rfl] at H; exact H
       clear H
       have H := H1
       clear H1
       by_cases c8 : ((rd_T87 l0 x10_1).f0) ≤ x5_1
       ·rw [if_pos c8] at H
        have c8b0 : decide (((rd_T87 l0 x10_1).f0) ≤ x5_1) = true := zH c8
        clear c8
        obtain rfl := Option.some.inj H
        have p124 : 0 ≤ (x10_1 : Int) := zG asA
        have q124 : x10_1 < (l0.length : Int) := zG asA
        obtain ⟨ad124, e124, hx124_0, hx124_1⟩ := at_T87 HR0.out x10_1 p124 q124
        cases e124
        replace hx124_0 := (HB.out.cell (zB w _ hx124_0)).trans hx124_0
        replace hx124_1 := (HB.out.cell (zB w _ hx124_1)).trans hx124_1
        replace p124 := eq_true p124
        replace q124 := eq_true q124
        go_wp2_with (first | ((with_reducible refine gate_dst (N := 7) rfl ?_); refine box_event ?hg (N := 7) ?hd (cs := #[.int .i64 0, .int .i64 0]) (t := 87) ?hr ?_; (case hd => rfl); (case hg => rfl); (case hr => first | (go_simp; done) | (go_simp; rfl)); intro gb125 hg w9 hbox hb; have n0_ := zA (zL belA hb); have n1_ := zA (hbox); have n2_ := zA ((by rw [hg]; exact (below_size belA) : w.heap.size ≤ gb125)); have n3_ := zA ((by rw [hg]; exact (below_size belA) : w.heap.size ≤ gb125)); clear HB; have HB := n0_; have BK125 := n1_; have GW125 := n2_; have GE125 := n3_; clear n0_ n1_ n2_ n3_; clear hb hbox hg; have hcz10_0 : w9.cell? ⟨gb125, 0, none⟩ = some (.int .i64 0) := (zN BK125.out 0).trans rfl; have hcz10_1 : w9.cell? ⟨gb125, 1, none⟩ = some (.int .i64 0) := (zN BK125.out 1).trans rfl; have hfz10_0 := zM BK125.out 0; have hfz10_1 := zM BK125.out 1) | ((with_reducible refine gate_callee (f := 176) rfl ?_); refine goesL_ (some 16) rfl rfl Tryz.func176 (by kernel_rfl) rfl #[.agg #[.int .i64 ((rd_T87 l0 x10_1).f0), .int .i64 ((rd_T87 l0 x10_1).f1)], .int .i64 a1] rfl argA ?_; (with_reducible refine (span_inside.calls ((rd_T87 l0 x10_1).f0) ((rd_T87 l0 x10_1).f1) a1 true _ A6.out).mono ?_); rintro e w11 ⟨rfl, hb⟩; refine ⟨_, rfl, ?_⟩; have n0_ := zA (blk_below (g := gb125) (o := .cells #[.int .i64 ((rd_T87 l0 x10_1).f0), .int .i64 ((rd_T87 l0 x10_1).f1)] 87 (0, 0)) (by (with_reducible repeat (first | refine blk_drewN ?_ _ | refine blk_drew ?_ | refine blk_alloc ?_ _)); refine blk_put (cs := #[.int .i64 ((rd_T87 l0 x10_1).f0), .int .i64 0]) ?_ 1 _ rfl; (with_reducible repeat (first | refine blk_drewN ?_ _ | refine blk_drew ?_ | refine blk_alloc ?_ _)); refine blk_put (cs := #[.int .i64 0, .int .i64 0]) ?_ 0 _ rfl; (with_reducible repeat (first | refine blk_drewN ?_ _ | refine blk_drew ?_ | refine blk_alloc ?_ _)); exact BK125.out) hb); have n1_ := zA (zL (rW1) hb); clear BK125; clear HB; have BK125 := n0_; have HB := n1_; clear n0_ n1_; (try clear hb); (try clear hb2); (try clear hk); (try clear hi); have hcz12_0 : w11.cell? ⟨gb125, 0, none⟩ = some (.int .i64 ((rd_T87 l0 x10_1).f0)) := (zN BK125.out 0).trans rfl; have hcz12_1 : w11.cell? ⟨gb125, 1, none⟩ = some (.int .i64 ((rd_T87 l0 x10_1).f1)) := (zN BK125.out 1).trans rfl; have hfz12_0 := zM BK125.out 0; have hfz12_1 := zM BK125.out 1))
        go_ret
        exact ⟨rfA, rW1⟩
       ·rw [if_neg c8] at H
        have c8b0 : decide (((rd_T87 l0 x10_1).f0) ≤ x5_1) = false := zI c8
        clear c8
        have H' := zA H
        clear H
        have p124 : 0 ≤ (x10_1 : Int) := zG asA
        have q124 : x10_1 < (l0.length : Int) := zG asA
        obtain ⟨ad124, e124, hx124_0, hx124_1⟩ := at_T87 HR0.out x10_1 p124 q124
        cases e124
        replace hx124_0 := (HB.out.cell (zB w _ hx124_0)).trans hx124_0
        replace hx124_1 := (HB.out.cell (zB w _ hx124_1)).trans hx124_1
        replace p124 := eq_true p124
        replace q124 := eq_true q124
        go_wp2_with (first | ((with_reducible refine gate_dst (N := 7) rfl ?_); refine box_event ?hg (N := 7) ?hd (cs := #[.int .i64 0, .int .i64 0]) (t := 87) ?hr ?_; (case hd => rfl); (case hg => rfl); (case hr => first | (go_simp; done) | (go_simp; rfl)); intro gb125 hg w13 hbox hb; have n0_ := zA (zL belA hb); have n1_ := zA (hbox); have n2_ := zA ((by rw [hg]; exact (below_size belA) : w.heap.size ≤ gb125)); have n3_ := zA ((by rw [hg]; exact (below_size belA) : w.heap.size ≤ gb125)); clear HB; have HB := n0_; have BK125 := n1_; have GW125 := n2_; have GE125 := n3_; clear n0_ n1_ n2_ n3_; clear hb hbox hg; have hcz14_0 : w13.cell? ⟨gb125, 0, none⟩ = some (.int .i64 0) := (zN BK125.out 0).trans rfl; have hcz14_1 : w13.cell? ⟨gb125, 1, none⟩ = some (.int .i64 0) := (zN BK125.out 1).trans rfl; have hfz14_0 := zM BK125.out 0; have hfz14_1 := zM BK125.out 1) | ((with_reducible refine gate_callee (f := 176) rfl ?_); refine goesL_ (some 16) rfl rfl Tryz.func176 (by kernel_rfl) rfl #[.agg #[.int .i64 ((rd_T87 l0 x10_1).f0), .int .i64 ((rd_T87 l0 x10_1).f1)], .int .i64 a1] rfl argA ?_; (with_reducible refine (span_inside.calls ((rd_T87 l0 x10_1).f0) ((rd_T87 l0 x10_1).f1) a1 true _ A6.out).mono ?_); rintro e w15 ⟨rfl, hb⟩; refine ⟨_, rfl, ?_⟩; have n0_ := zA (blk_below (g := gb125) (o := .cells #[.int .i64 ((rd_T87 l0 x10_1).f0), .int .i64 ((rd_T87 l0 x10_1).f1)] 87 (0, 0)) (by (with_reducible repeat (first | refine blk_drewN ?_ _ | refine blk_drew ?_ | refine blk_alloc ?_ _)); refine blk_put (cs := #[.int .i64 ((rd_T87 l0 x10_1).f0), .int .i64 0]) ?_ 1 _ rfl; (with_reducible repeat (first | refine blk_drewN ?_ _ | refine blk_drew ?_ | refine blk_alloc ?_ _)); refine blk_put (cs := #[.int .i64 0, .int .i64 0]) ?_ 0 _ rfl; (with_reducible repeat (first | refine blk_drewN ?_ _ | refine blk_drew ?_ | refine blk_alloc ?_ _)); exact BK125.out) hb); have n1_ := zA (zL (rW1) hb); clear BK125; clear HB; have BK125 := n0_; have HB := n1_; clear n0_ n1_; (try clear hb); (try clear hb2); (try clear hk); (try clear hi); have hcz16_0 : w15.cell? ⟨gb125, 0, none⟩ = some (.int .i64 ((rd_T87 l0 x10_1).f0)) := (zN BK125.out 0).trans rfl; have hcz16_1 : w15.cell? ⟨gb125, 1, none⟩ = some (.int .i64 ((rd_T87 l0 x10_1).f1)) := (zN BK125.out 1).trans rfl; have hfz16_0 := zM BK125.out 0; have hfz16_1 := zM BK125.out 1))
        go_roundg k1
        case measure => have := HK1.out; omega
        case rel => exact ⟨(wrap64 (((rd_T87 l0 x10_1).f0) + ((rd_T87 l0 x10_1).f1))), (wrap64 (x10_1 + 1)), (rfB), (rfB), H', ⟨by have := HK1.out; omega⟩, ⟨rW1⟩⟩
      ·replace c7 := Bool.eq_false_iff.mpr c7
       subst c7
       have H1 : (some false) = some r := by rw [if_neg (show ¬ (false = true) by decide)] at H; exact H
       clear H
       have H := H1
       clear H1
       obtain rfl := Option.some.inj H
       have p124 : 0 ≤ (x10_1 : Int) := zG asA
       have q124 : x10_1 < (l0.length : Int) := zG asA
       obtain ⟨ad124, e124, hx124_0, hx124_1⟩ := at_T87 HR0.out x10_1 p124 q124
       cases e124
       replace hx124_0 := (HB.out.cell (zB w _ hx124_0)).trans hx124_0
       replace hx124_1 := (HB.out.cell (zB w _ hx124_1)).trans hx124_1
       replace p124 := eq_true p124
       replace q124 := eq_true q124
       go_wp2_with (first | ((with_reducible refine gate_dst (N := 7) rfl ?_); refine box_event ?hg (N := 7) ?hd (cs := #[.int .i64 0, .int .i64 0]) (t := 87) ?hr ?_; (case hd => rfl); (case hg => rfl); (case hr => first | (go_simp; done) | (go_simp; rfl)); intro gb125 hg w17 hbox hb; have n0_ := zA (zL belA hb); have n1_ := zA (hbox); have n2_ := zA ((by rw [hg]; exact (below_size belA) : w.heap.size ≤ gb125)); have n3_ := zA ((by rw [hg]; exact (below_size belA) : w.heap.size ≤ gb125)); clear HB; have HB := n0_; have BK125 := n1_; have GW125 := n2_; have GE125 := n3_; clear n0_ n1_ n2_ n3_; clear hb hbox hg; have hcz18_0 : w17.cell? ⟨gb125, 0, none⟩ = some (.int .i64 0) := (zN BK125.out 0).trans rfl; have hcz18_1 : w17.cell? ⟨gb125, 1, none⟩ = some (.int .i64 0) := (zN BK125.out 1).trans rfl; have hfz18_0 := zM BK125.out 0; have hfz18_1 := zM BK125.out 1) | ((with_reducible refine gate_callee (f := 176) rfl ?_); refine goesL_ (some 16) rfl rfl Tryz.func176 (by kernel_rfl) rfl #[.agg #[.int .i64 ((rd_T87 l0 x10_1).f0), .int .i64 ((rd_T87 l0 x10_1).f1)], .int .i64 a1] rfl argA ?_; (with_reducible refine (span_inside.calls ((rd_T87 l0 x10_1).f0) ((rd_T87 l0 x10_1).f1) a1 false _ A6.out).mono ?_); rintro e w19 ⟨rfl, hb⟩; refine ⟨_, rfl, ?_⟩; have n0_ := zA (blk_below (g := gb125) (o := .cells #[.int .i64 ((rd_T87 l0 x10_1).f0), .int .i64 ((rd_T87 l0 x10_1).f1)] 87 (0, 0)) (by (with_reducible repeat (first | refine blk_drewN ?_ _ | refine blk_drew ?_ | refine blk_alloc ?_ _)); refine blk_put (cs := #[.int .i64 ((rd_T87 l0 x10_1).f0), .int .i64 0]) ?_ 1 _ rfl; (with_reducible repeat (first | refine blk_drewN ?_ _ | refine blk_drew ?_ | refine blk_alloc ?_ _)); refine blk_put (cs := #[.int .i64 0, .int .i64 0]) ?_ 0 _ rfl; (with_reducible repeat (first | refine blk_drewN ?_ _ | refine blk_drew ?_ | refine blk_alloc ?_ _)); exact BK125.out) hb); have n1_ := zA (zL (rW1) hb); clear BK125; clear HB; have BK125 := n0_; have HB := n1_; clear n0_ n1_; (try clear hb); (try clear hb2); (try clear hk); (try clear hi)))
       go_ret
       exact ⟨rfA, rW1⟩
     ·rw [if_neg c5] at H
      exact absurd H (by simp)
    ·rw [if_neg c4] at H
     exact absurd H (by simp)
   ·rw [if_neg c3] at H
    have c3b0 : decide (x10_1 < (l0.length : Int)) = false := zI c3
    clear c3
    replace H := Option.bind_eq_some_iff.mp H
    obtain ⟨t123, A200, H⟩ := H
    replace H : (some t123) = some r := H
    have A20 := zA A200
    clear A200
    obtain rfl := Option.some.inj H
    go_wp2_with (first | ((with_reducible refine gate_callee (f := 177) rfl ?_); refine goesL_ (some 31) rfl rfl Tryz.func177 (by kernel_rfl) rfl #[.int .i64 a1] rfl argA ?_; (with_reducible refine (span_sized.calls a1 t123 _ A20.out).mono ?_); rintro e w' ⟨rfl, ⟨nd, rfl⟩⟩; refine ⟨_, rfl, ?_⟩))
    go_ret
    exact ⟨rfA, rW0⟩
def dir_File_well.f (k : Nat) (a0_0 : ByteArray) (a0_1 : Int) (l0_2 : List (S87)) : Option (Bool) := (span_Total.f k l0_2).bind fun t128 => ((label_Right.f a0_0).bind fun t129 => (if t129 = true then (if a0_1 ≥ 0 then (if a0_1 ≤ 20000 then (if (l0_2.length : Int) ≤ 200 then ((span_Right.f k l0_2 8192).bind fun t130 => (if t130 = true then (if a0_1 ≤ (wrap64 (t128 * 64)) then (some (decide ((wrap64 ((wrap64 (t128 * 64)) - a0_1)) < 64))) else (some false)) else (some false))) else (some false)) else (some false)) else (some false)) else (some false)))
set_option maxHeartbeats 8000000 in
set_option maxRecDepth 100000 in
theorem dir_File_well.calls (k : Nat) (a0_0 : ByteArray) (a0_1 : Int) (A0_2 : Option Addr) (c0_2 : Nat) (l0_2 : List (S87)) (r : Bool) (w : World) (hr0_2 : Kd.C k87 w A0_2 l0_2.length l0_2) (hc0_2 : l0_2.length ≤ c0_2) (ht : TabsW w) (h : dir_File_well.f k a0_0 a0_1 l0_2 = some r) :
  Calls Tryz.prog 134 #[.agg #[.string a0_0, .int .i64 a0_1, .slice A0_2 l0_2.length c0_2]] w fun e w' => e = .returned (.bool r) ∧ Below w.heap.size w w' := by
 have hu85 := Tryz.underlying85
 have HR0_2 := zA hr0_2
 have HC0_2 := zA hc0_2
 clear hr0_2 hc0_2
 have HT0 := zA ht
 clear ht
 have HB := zA (Below.refl w.heap.size w)
 have H : ((span_Total.f k l0_2).bind fun t128 => ((label_Right.f a0_0).bind fun t129 => (if t129 = true then (if a0_1 ≥ 0 then (if a0_1 ≤ 20000 then (if (l0_2.length : Int) ≤ 200 then ((span_Right.f k l0_2 8192).bind fun t130 => (if t130 = true then (if a0_1 ≤ (wrap64 (t128 * 64)) then (some (decide ((wrap64 ((wrap64 (t128 * 64)) - a0_1)) < 64))) else (some false)) else (some false))) else (some false)) else (some false)) else (some false)) else (some false)))) = some r := h
 clear h
 replace H := Option.bind_eq_some_iff.mp H
 obtain ⟨t128, A20, H⟩ := H
 replace H : ((label_Right.f a0_0).bind fun t129 => (if t129 = true then (if a0_1 ≥ 0 then (if a0_1 ≤ 20000 then (if (l0_2.length : Int) ≤ 200 then ((span_Right.f k l0_2 8192).bind fun t130 => (if t130 = true then (if a0_1 ≤ (wrap64 (t128 * 64)) then (some (decide ((wrap64 ((wrap64 (t128 * 64)) - a0_1)) < 64))) else (some false)) else (some false))) else (some false)) else (some false)) else (some false)) else (some false))) = some r := H
 have A2 := zA A20
 clear A20
 replace H := Option.bind_eq_some_iff.mp H
 obtain ⟨t129, A30, H⟩ := H
 replace H : (if t129 = true then (if a0_1 ≥ 0 then (if a0_1 ≤ 20000 then (if (l0_2.length : Int) ≤ 200 then ((span_Right.f k l0_2 8192).bind fun t130 => (if t130 = true then (if a0_1 ≤ (wrap64 (t128 * 64)) then (some (decide ((wrap64 ((wrap64 (t128 * 64)) - a0_1)) < 64))) else (some false)) else (some false))) else (some false)) else (some false)) else (some false)) else (some false)) = some r := H
 have A3 := zA A30
 clear A30
 by_cases c4 : t129 = true
 ·subst c4
  have H1 : (if a0_1 ≥ 0 then (if a0_1 ≤ 20000 then (if (l0_2.length : Int) ≤ 200 then ((span_Right.f k l0_2 8192).bind fun t130 => (if t130 = true then (if a0_1 ≤ (wrap64 (t128 * 64)) then (some (decide ((wrap64 ((wrap64 (t128 * 64)) - a0_1)) < 64))) else (some false)) else (some false))) else (some false)) else (some false)) else (some false)) = some r := by rw [if_pos rfl] at H; exact H
  clear H
  have H := H1
  clear H1
  by_cases c5 : a0_1 ≥ 0
  ·rw [if_pos c5] at H
   have c5b0 : decide (0 ≤ a0_1) = true := zH c5
   clear c5
   by_cases c6 : a0_1 ≤ 20000
   ·rw [if_pos c6] at H
    have c6b0 : decide (a0_1 ≤ 20000) = true := zH c6
    clear c6
    by_cases c7 : (l0_2.length : Int) ≤ 200
    ·rw [if_pos c7] at H
     have c7b0 : decide ((l0_2.length : Int) ≤ 200) = true := zH c7
     have c7b1 : decide (l0_2.length ≤ 200) = true := zH (by omega)
     clear c7
     replace H := Option.bind_eq_some_iff.mp H
     obtain ⟨t130, A80, H⟩ := H
     replace H : (if t130 = true then (if a0_1 ≤ (wrap64 (t128 * 64)) then (some (decide ((wrap64 ((wrap64 (t128 * 64)) - a0_1)) < 64))) else (some false)) else (some false)) = some r := H
     have A8 := zA A80
     clear A80
     by_cases c9 : t130 = true
     ·subst c9
      have H1 : (if a0_1 ≤ (wrap64 (t128 * 64)) then (some (decide ((wrap64 ((wrap64 (t128 * 64)) - a0_1)) < 64))) else (some false)) = some r := by rw [if_pos rfl] at H; exact H
      clear H
      have H := H1
      clear H1
      by_cases c10 : a0_1 ≤ (wrap64 (t128 * 64))
      ·rw [if_pos c10] at H
       have c10b0 : decide (a0_1 ≤ (wrap64 (t128 * 64))) = true := zH c10
       clear c10
       obtain rfl := Option.some.inj H
       go_enter Tryz.func134, Tryz.ntmps134
       go_wp2_with (first | ((with_reducible refine gate_dst (N := 1) rfl ?_); (try (refine gate_guard (by rfl) ?_; dsimp only)); refine box_event ?hg (N := 1) ?hd (cs := #[.string a0_0, .int .i64 a0_1, .slice A0_2 l0_2.length c0_2]) (t := 85) ?hr ?_; (case hd => rfl); (case hg => rfl); (case hr => first | (go_simp; done) | (go_simp; rfl)); intro gb127 hg w11 hbox hb; have n0_ := zA (zL belA hb); have n1_ := zA (hbox); have n2_ := zA ((by rw [hg]; exact (below_size belA) : w.heap.size ≤ gb127)); have n3_ := zA ((by rw [hg]; exact (below_size belA) : w.heap.size ≤ gb127)); clear HB; have HB := n0_; have BK127 := n1_; have GW127 := n2_; have GE127 := n3_; clear n0_ n1_ n2_ n3_; clear hb hbox hg; have hcz12_0 : w11.cell? ⟨gb127, 0, none⟩ = some (.string a0_0) := (zN BK127.out 0).trans rfl; have hcz12_1 : w11.cell? ⟨gb127, 1, none⟩ = some (.int .i64 a0_1) := (zN BK127.out 1).trans rfl; have hcz12_2 : w11.cell? ⟨gb127, 2, none⟩ = some (.slice A0_2 l0_2.length c0_2) := (zN BK127.out 2).trans rfl; have hfz12_0 := zM BK127.out 0; have hfz12_1 := zM BK127.out 1; have hfz12_2 := zM BK127.out 2) | ((with_reducible refine gate_callee (f := 76) rfl ?_); refine goesL_ (some 6) rfl rfl Tryz.func76 (by kernel_rfl) rfl #[.slice A0_2 l0_2.length c0_2] rfl argA ?_; (with_reducible refine (span_Total.calls k _ _ l0_2 t128 _ ?side1 ?side2 A2.out).mono ?_); (case side1 => repeat (first | exact (Kd.C_below HR0_2.out HB.out) | (with_reducible refine Kd.C_alloc ?_ _) | (with_reducible refine Kd.C_drewN ?_ _) | (with_reducible refine Kd.C_drew ?_))); (case side2 => exact HC0_2.out); rintro e w13 ⟨rfl, hb⟩; refine ⟨_, rfl, ?_⟩; have n0_ := zA (blk_below (g := gb127) (o := .cells #[.string a0_0, .int .i64 a0_1, .slice A0_2 l0_2.length c0_2] 85 (0, 0)) (blkN BK127.out) hb); have n1_ := zA (zL (rW1) hb); clear BK127; clear HB; have BK127 := n0_; have HB := n1_; clear n0_ n1_; (try clear hb); (try clear hb2); (try clear hk); (try clear hi); have hcz14_0 : w13.cell? ⟨gb127, 0, none⟩ = some (.string a0_0) := (zN BK127.out 0).trans rfl; have hcz14_1 : w13.cell? ⟨gb127, 1, none⟩ = some (.int .i64 a0_1) := (zN BK127.out 1).trans rfl; have hcz14_2 : w13.cell? ⟨gb127, 2, none⟩ = some (.slice A0_2 l0_2.length c0_2) := (zN BK127.out 2).trans rfl; have hfz14_0 := zM BK127.out 0; have hfz14_1 := zM BK127.out 1; have hfz14_2 := zM BK127.out 2) | ((with_reducible refine gate_callee (f := 45) rfl ?_); refine goesL_ (some 10) rfl rfl Tryz.func45 (by kernel_rfl) rfl #[.string a0_0] rfl argA ?_; (with_reducible refine (label_Right.calls a0_0 true _ ?side1 A3.out).mono ?_); (case side1 => exact TabsW.below HT0.out (rW1)); rintro e w15 ⟨rfl, hb⟩; refine ⟨_, rfl, ?_⟩; have n0_ := zA (blk_below (g := gb127) (o := .cells #[.string a0_0, .int .i64 a0_1, .slice A0_2 l0_2.length c0_2] 85 (0, 0)) (blkN BK127.out) hb); have n1_ := zA (zL (rW1) hb); clear BK127; clear HB; have BK127 := n0_; have HB := n1_; clear n0_ n1_; (try clear hb); (try clear hb2); (try clear hk); (try clear hi); have hcz16_0 : w15.cell? ⟨gb127, 0, none⟩ = some (.string a0_0) := (zN BK127.out 0).trans rfl; have hcz16_1 : w15.cell? ⟨gb127, 1, none⟩ = some (.int .i64 a0_1) := (zN BK127.out 1).trans rfl; have hcz16_2 : w15.cell? ⟨gb127, 2, none⟩ = some (.slice A0_2 l0_2.length c0_2) := (zN BK127.out 2).trans rfl; have hfz16_0 := zM BK127.out 0; have hfz16_1 := zM BK127.out 1; have hfz16_2 := zM BK127.out 2) | (go_at_call 156; (with_reducible refine (span_Right.calls k _ _ l0_2 8192 true _ ?side1 ?side2 A8.out).mono ?_); (case side1 => repeat (first | exact (Kd.C_below HR0_2.out HB.out) | (with_reducible refine Kd.C_alloc ?_ _) | (with_reducible refine Kd.C_drewN ?_ _) | (with_reducible refine Kd.C_drew ?_))); (case side2 => exact HC0_2.out); rintro e w17 ⟨rfl, hb⟩; have n0_ := zA (blk_below (g := gb127) (o := .cells #[.string a0_0, .int .i64 a0_1, .slice A0_2 l0_2.length c0_2] 85 (0, 0)) (blkN BK127.out) hb); have n1_ := zA (zL (rW1) hb); clear BK127; clear HB; have BK127 := n0_; have HB := n1_; clear n0_ n1_; (try clear hb); (try clear hb2); (try clear hk); (try clear hi); have hcz18_0 : w17.cell? ⟨gb127, 0, none⟩ = some (.string a0_0) := (zN BK127.out 0).trans rfl; have hcz18_1 : w17.cell? ⟨gb127, 1, none⟩ = some (.int .i64 a0_1) := (zN BK127.out 1).trans rfl; have hcz18_2 : w17.cell? ⟨gb127, 2, none⟩ = some (.slice A0_2 l0_2.length c0_2) := (zN BK127.out 2).trans rfl; have hfz18_0 := zM BK127.out 0; have hfz18_1 := zM BK127.out 1; have hfz18_2 := zM BK127.out 2))
       go_ret
       exact ⟨rfA, rW1⟩
      ·rw [if_neg c10] at H
       have c10b0 : decide (a0_1 ≤ (wrap64 (t128 * 64))) = false := zI c10
       clear c10
       obtain rfl := Option.some.inj H
       go_enter Tryz.func134, Tryz.ntmps134
       go_wp2_with (first | ((with_reducible refine gate_dst (N := 1) rfl ?_); (try (refine gate_guard (by rfl) ?_; dsimp only)); refine box_event ?hg (N := 1) ?hd (cs := #[.string a0_0, .int .i64 a0_1, .slice A0_2 l0_2.length c0_2]) (t := 85) ?hr ?_; (case hd => rfl); (case hg => rfl); (case hr => first | (go_simp; done) | (go_simp; rfl)); intro gb127 hg w19 hbox hb; have n0_ := zA (zL belA hb); have n1_ := zA (hbox); have n2_ := zA ((by rw [hg]; exact (below_size belA) : w.heap.size ≤ gb127)); have n3_ := zA ((by rw [hg]; exact (below_size belA) : w.heap.size ≤ gb127)); clear HB; have HB := n0_; have BK127 := n1_; have GW127 := n2_; have GE127 := n3_; clear n0_ n1_ n2_ n3_; clear hb hbox hg; have hcz20_0 : w19.cell? ⟨gb127, 0, none⟩ = some (.string a0_0) := (zN BK127.out 0).trans rfl; have hcz20_1 : w19.cell? ⟨gb127, 1, none⟩ = some (.int .i64 a0_1) := (zN BK127.out 1).trans rfl; have hcz20_2 : w19.cell? ⟨gb127, 2, none⟩ = some (.slice A0_2 l0_2.length c0_2) := (zN BK127.out 2).trans rfl; have hfz20_0 := zM BK127.out 0; have hfz20_1 := zM BK127.out 1; have hfz20_2 := zM BK127.out 2) | ((with_reducible refine gate_callee (f := 76) rfl ?_); refine goesL_ (some 6) rfl rfl Tryz.func76 (by kernel_rfl) rfl #[.slice A0_2 l0_2.length c0_2] rfl argA ?_; (with_reducible refine (span_Total.calls k _ _ l0_2 t128 _ ?side1 ?side2 A2.out).mono ?_); (case side1 => repeat (first | exact (Kd.C_below HR0_2.out HB.out) | (with_reducible refine Kd.C_alloc ?_ _) | (with_reducible refine Kd.C_drewN ?_ _) | (with_reducible refine Kd.C_drew ?_))); (case side2 => exact HC0_2.out); rintro e w21 ⟨rfl, hb⟩; refine ⟨_, rfl, ?_⟩; have n0_ := zA (blk_below (g := gb127) (o := .cells #[.string a0_0, .int .i64 a0_1, .slice A0_2 l0_2.length c0_2] 85 (0, 0)) (blkN BK127.out) hb); have n1_ := zA (zL (rW1) hb); clear BK127; clear HB; have BK127 := n0_; have HB := n1_; clear n0_ n1_; (try clear hb); (try clear hb2); (try clear hk); (try clear hi); have hcz22_0 : w21.cell? ⟨gb127, 0, none⟩ = some (.string a0_0) := (zN BK127.out 0).trans rfl; have hcz22_1 : w21.cell? ⟨gb127, 1, none⟩ = some (.int .i64 a0_1) := (zN BK127.out 1).trans rfl; have hcz22_2 : w21.cell? ⟨gb127, 2, none⟩ = some (.slice A0_2 l0_2.length c0_2) := (zN BK127.out 2).trans rfl; have hfz22_0 := zM BK127.out 0; have hfz22_1 := zM BK127.out 1; have hfz22_2 := zM BK127.out 2) | ((with_reducible refine gate_callee (f := 45) rfl ?_); refine goesL_ (some 10) rfl rfl Tryz.func45 (by kernel_rfl) rfl #[.string a0_0] rfl argA ?_; (with_reducible refine (label_Right.calls a0_0 true _ ?side1 A3.out).mono ?_); (case side1 => exact TabsW.below HT0.out (rW1)); rintro e w23 ⟨rfl, hb⟩; refine ⟨_, rfl, ?_⟩; have n0_ := zA (blk_below (g := gb127) (o := .cells #[.string a0_0, .int .i64 a0_1, .slice A0_2 l0_2.length c0_2] 85 (0, 0)) (blkN BK127.out) hb); have n1_ := zA (zL (rW1) hb); clear BK127; clear HB; have BK127 := n0_; have HB := n1_; clear n0_ n1_; (try clear hb); (try clear hb2); (try clear hk); (try clear hi); have hcz24_0 : w23.cell? ⟨gb127, 0, none⟩ = some (.string a0_0) := (zN BK127.out 0).trans rfl; have hcz24_1 : w23.cell? ⟨gb127, 1, none⟩ = some (.int .i64 a0_1) := (zN BK127.out 1).trans rfl; have hcz24_2 : w23.cell? ⟨gb127, 2, none⟩ = some (.slice A0_2 l0_2.length c0_2) := (zN BK127.out 2).trans rfl; have hfz24_0 := zM BK127.out 0; have hfz24_1 := zM BK127.out 1; have hfz24_2 := zM BK127.out 2) | (go_at_call 156; (with_reducible refine (span_Right.calls k _ _ l0_2 8192 true _ ?side1 ?side2 A8.out).mono ?_); (case side1 => repeat (first | exact (Kd.C_below HR0_2.out HB.out) | (with_reducible refine Kd.C_alloc ?_ _) | (with_reducible refine Kd.C_drewN ?_ _) | (with_reducible refine Kd.C_drew ?_))); (case side2 => exact HC0_2.out); rintro e w25 ⟨rfl, hb⟩; have n0_ := zA (blk_below (g := gb127) (o := .cells #[.string a0_0, .int .i64 a0_1, .slice A0_2 l0_2.length c0_2] 85 (0, 0)) (blkN BK127.out) hb); have n1_ := zA (zL (rW1) hb); clear BK127; clear HB; have BK127 := n0_; have HB := n1_; clear n0_ n1_; (try clear hb); (try clear hb2); (try clear hk); (try clear hi); have hcz26_0 : w25.cell? ⟨gb127, 0, none⟩ = some (.string a0_0) := (zN BK127.out 0).trans rfl; have hcz26_1 : w25.cell? ⟨gb127, 1, none⟩ = some (.int .i64 a0_1) := (zN BK127.out 1).trans rfl; have hcz26_2 : w25.cell? ⟨gb127, 2, none⟩ = some (.slice A0_2 l0_2.length c0_2) := (zN BK127.out 2).trans rfl; have hfz26_0 := zM BK127.out 0; have hfz26_1 := zM BK127.out 1; have hfz26_2 := zM BK127.out 2))
       go_ret
       exact ⟨rfA, rW1⟩
     ·replace c9 := Bool.eq_false_iff.mpr c9
      subst c9
      have H1 : (some false) = some r := by rw [if_neg (show ¬ (false = true) by decide)] at H; exact H
      clear H
      have H := H1
      clear H1
      obtain rfl := Option.some.inj H
      go_enter Tryz.func134, Tryz.ntmps134
      go_wp2_with (first | ((with_reducible refine gate_dst (N := 1) rfl ?_); (try (refine gate_guard (by rfl) ?_; dsimp only)); refine box_event ?hg (N := 1) ?hd (cs := #[.string a0_0, .int .i64 a0_1, .slice A0_2 l0_2.length c0_2]) (t := 85) ?hr ?_; (case hd => rfl); (case hg => rfl); (case hr => first | (go_simp; done) | (go_simp; rfl)); intro gb127 hg w27 hbox hb; have n0_ := zA (zL belA hb); have n1_ := zA (hbox); have n2_ := zA ((by rw [hg]; exact (below_size belA) : w.heap.size ≤ gb127)); have n3_ := zA ((by rw [hg]; exact (below_size belA) : w.heap.size ≤ gb127)); clear HB; have HB := n0_; have BK127 := n1_; have GW127 := n2_; have GE127 := n3_; clear n0_ n1_ n2_ n3_; clear hb hbox hg; have hcz28_0 : w27.cell? ⟨gb127, 0, none⟩ = some (.string a0_0) := (zN BK127.out 0).trans rfl; have hcz28_1 : w27.cell? ⟨gb127, 1, none⟩ = some (.int .i64 a0_1) := (zN BK127.out 1).trans rfl; have hcz28_2 : w27.cell? ⟨gb127, 2, none⟩ = some (.slice A0_2 l0_2.length c0_2) := (zN BK127.out 2).trans rfl; have hfz28_0 := zM BK127.out 0; have hfz28_1 := zM BK127.out 1; have hfz28_2 := zM BK127.out 2) | ((with_reducible refine gate_callee (f := 76) rfl ?_); refine goesL_ (some 6) rfl rfl Tryz.func76 (by kernel_rfl) rfl #[.slice A0_2 l0_2.length c0_2] rfl argA ?_; (with_reducible refine (span_Total.calls k _ _ l0_2 t128 _ ?side1 ?side2 A2.out).mono ?_); (case side1 => repeat (first | exact (Kd.C_below HR0_2.out HB.out) | (with_reducible refine Kd.C_alloc ?_ _) | (with_reducible refine Kd.C_drewN ?_ _) | (with_reducible refine Kd.C_drew ?_))); (case side2 => exact HC0_2.out); rintro e w29 ⟨rfl, hb⟩; refine ⟨_, rfl, ?_⟩; have n0_ := zA (blk_below (g := gb127) (o := .cells #[.string a0_0, .int .i64 a0_1, .slice A0_2 l0_2.length c0_2] 85 (0, 0)) (blkN BK127.out) hb); have n1_ := zA (zL (rW1) hb); clear BK127; clear HB; have BK127 := n0_; have HB := n1_; clear n0_ n1_; (try clear hb); (try clear hb2); (try clear hk); (try clear hi); have hcz30_0 : w29.cell? ⟨gb127, 0, none⟩ = some (.string a0_0) := (zN BK127.out 0).trans rfl; have hcz30_1 : w29.cell? ⟨gb127, 1, none⟩ = some (.int .i64 a0_1) := (zN BK127.out 1).trans rfl; have hcz30_2 : w29.cell? ⟨gb127, 2, none⟩ = some (.slice A0_2 l0_2.length c0_2) := (zN BK127.out 2).trans rfl; have hfz30_0 := zM BK127.out 0; have hfz30_1 := zM BK127.out 1; have hfz30_2 := zM BK127.out 2) | ((with_reducible refine gate_callee (f := 45) rfl ?_); refine goesL_ (some 10) rfl rfl Tryz.func45 (by kernel_rfl) rfl #[.string a0_0] rfl argA ?_; (with_reducible refine (label_Right.calls a0_0 true _ ?side1 A3.out).mono ?_); (case side1 => exact TabsW.below HT0.out (rW1)); rintro e w31 ⟨rfl, hb⟩; refine ⟨_, rfl, ?_⟩; have n0_ := zA (blk_below (g := gb127) (o := .cells #[.string a0_0, .int .i64 a0_1, .slice A0_2 l0_2.length c0_2] 85 (0, 0)) (blkN BK127.out) hb); have n1_ := zA (zL (rW1) hb); clear BK127; clear HB; have BK127 := n0_; have HB := n1_; clear n0_ n1_; (try clear hb); (try clear hb2); (try clear hk); (try clear hi); have hcz32_0 : w31.cell? ⟨gb127, 0, none⟩ = some (.string a0_0) := (zN BK127.out 0).trans rfl; have hcz32_1 : w31.cell? ⟨gb127, 1, none⟩ = some (.int .i64 a0_1) := (zN BK127.out 1).trans rfl; have hcz32_2 : w31.cell? ⟨gb127, 2, none⟩ = some (.slice A0_2 l0_2.length c0_2) := (zN BK127.out 2).trans rfl; have hfz32_0 := zM BK127.out 0; have hfz32_1 := zM BK127.out 1; have hfz32_2 := zM BK127.out 2) | (go_at_call 156; (with_reducible refine (span_Right.calls k _ _ l0_2 8192 false _ ?side1 ?side2 A8.out).mono ?_); (case side1 => repeat (first | exact (Kd.C_below HR0_2.out HB.out) | (with_reducible refine Kd.C_alloc ?_ _) | (with_reducible refine Kd.C_drewN ?_ _) | (with_reducible refine Kd.C_drew ?_))); (case side2 => exact HC0_2.out); rintro e w33 ⟨rfl, hb⟩; have n0_ := zA (blk_below (g := gb127) (o := .cells #[.string a0_0, .int .i64 a0_1, .slice A0_2 l0_2.length c0_2] 85 (0, 0)) (blkN BK127.out) hb); have n1_ := zA (zL (rW1) hb); clear BK127; clear HB; have BK127 := n0_; have HB := n1_; clear n0_ n1_; (try clear hb); (try clear hb2); (try clear hk); (try clear hi)))
      go_ret
      exact ⟨rfA, rW1⟩
    ·rw [if_neg c7] at H
     have c7b0 : decide ((l0_2.length : Int) ≤ 200) = false := zI c7
     have c7b1 : decide (l0_2.length ≤ 200) = false := zI (by omega)
     clear c7
     obtain rfl := Option.some.inj H
     go_enter Tryz.func134, Tryz.ntmps134
     go_wp2_with (first | ((with_reducible refine gate_dst (N := 1) rfl ?_); (try (refine gate_guard (by rfl) ?_; dsimp only)); refine box_event ?hg (N := 1) ?hd (cs := #[.string a0_0, .int .i64 a0_1, .slice A0_2 l0_2.length c0_2]) (t := 85) ?hr ?_; (case hd => rfl); (case hg => rfl); (case hr => first | (go_simp; done) | (go_simp; rfl)); intro gb127 hg w34 hbox hb; have n0_ := zA (zL belA hb); have n1_ := zA (hbox); have n2_ := zA ((by rw [hg]; exact (below_size belA) : w.heap.size ≤ gb127)); have n3_ := zA ((by rw [hg]; exact (below_size belA) : w.heap.size ≤ gb127)); clear HB; have HB := n0_; have BK127 := n1_; have GW127 := n2_; have GE127 := n3_; clear n0_ n1_ n2_ n3_; clear hb hbox hg; have hcz35_0 : w34.cell? ⟨gb127, 0, none⟩ = some (.string a0_0) := (zN BK127.out 0).trans rfl; have hcz35_1 : w34.cell? ⟨gb127, 1, none⟩ = some (.int .i64 a0_1) := (zN BK127.out 1).trans rfl; have hcz35_2 : w34.cell? ⟨gb127, 2, none⟩ = some (.slice A0_2 l0_2.length c0_2) := (zN BK127.out 2).trans rfl; have hfz35_0 := zM BK127.out 0; have hfz35_1 := zM BK127.out 1; have hfz35_2 := zM BK127.out 2) | ((with_reducible refine gate_callee (f := 76) rfl ?_); refine goesL_ (some 6) rfl rfl Tryz.func76 (by kernel_rfl) rfl #[.slice A0_2 l0_2.length c0_2] rfl argA ?_; (with_reducible refine (span_Total.calls k _ _ l0_2 t128 _ ?side1 ?side2 A2.out).mono ?_); (case side1 => repeat (first | exact (Kd.C_below HR0_2.out HB.out) | (with_reducible refine Kd.C_alloc ?_ _) | (with_reducible refine Kd.C_drewN ?_ _) | (with_reducible refine Kd.C_drew ?_))); (case side2 => exact HC0_2.out); rintro e w36 ⟨rfl, hb⟩; refine ⟨_, rfl, ?_⟩; have n0_ := zA (blk_below (g := gb127) (o := .cells #[.string a0_0, .int .i64 a0_1, .slice A0_2 l0_2.length c0_2] 85 (0, 0)) (blkN BK127.out) hb); have n1_ := zA (zL (rW1) hb); clear BK127; clear HB; have BK127 := n0_; have HB := n1_; clear n0_ n1_; (try clear hb); (try clear hb2); (try clear hk); (try clear hi); have hcz37_0 : w36.cell? ⟨gb127, 0, none⟩ = some (.string a0_0) := (zN BK127.out 0).trans rfl; have hcz37_1 : w36.cell? ⟨gb127, 1, none⟩ = some (.int .i64 a0_1) := (zN BK127.out 1).trans rfl; have hcz37_2 : w36.cell? ⟨gb127, 2, none⟩ = some (.slice A0_2 l0_2.length c0_2) := (zN BK127.out 2).trans rfl; have hfz37_0 := zM BK127.out 0; have hfz37_1 := zM BK127.out 1; have hfz37_2 := zM BK127.out 2) | ((with_reducible refine gate_callee (f := 45) rfl ?_); refine goesL_ (some 10) rfl rfl Tryz.func45 (by kernel_rfl) rfl #[.string a0_0] rfl argA ?_; (with_reducible refine (label_Right.calls a0_0 true _ ?side1 A3.out).mono ?_); (case side1 => exact TabsW.below HT0.out (rW1)); rintro e w38 ⟨rfl, hb⟩; refine ⟨_, rfl, ?_⟩; have n0_ := zA (blk_below (g := gb127) (o := .cells #[.string a0_0, .int .i64 a0_1, .slice A0_2 l0_2.length c0_2] 85 (0, 0)) (blkN BK127.out) hb); have n1_ := zA (zL (rW1) hb); clear BK127; clear HB; have BK127 := n0_; have HB := n1_; clear n0_ n1_; (try clear hb); (try clear hb2); (try clear hk); (try clear hi); have hcz39_0 : w38.cell? ⟨gb127, 0, none⟩ = some (.string a0_0) := (zN BK127.out 0).trans rfl; have hcz39_1 : w38.cell? ⟨gb127, 1, none⟩ = some (.int .i64 a0_1) := (zN BK127.out 1).trans rfl; have hcz39_2 : w38.cell? ⟨gb127, 2, none⟩ = some (.slice A0_2 l0_2.length c0_2) := (zN BK127.out 2).trans rfl; have hfz39_0 := zM BK127.out 0; have hfz39_1 := zM BK127.out 1; have hfz39_2 := zM BK127.out 2))
     go_ret
     exact ⟨rfA, rW1⟩
   ·rw [if_neg c6] at H
    have c6b0 : decide (a0_1 ≤ 20000) = false := zI c6
    clear c6
    obtain rfl := Option.some.inj H
    go_enter Tryz.func134, Tryz.ntmps134
    go_wp2_with (first | ((with_reducible refine gate_dst (N := 1) rfl ?_); (try (refine gate_guard (by rfl) ?_; dsimp only)); refine box_event ?hg (N := 1) ?hd (cs := #[.string a0_0, .int .i64 a0_1, .slice A0_2 l0_2.length c0_2]) (t := 85) ?hr ?_; (case hd => rfl); (case hg => rfl); (case hr => first | (go_simp; done) | (go_simp; rfl)); intro gb127 hg w40 hbox hb; have n0_ := zA (zL belA hb); have n1_ := zA (hbox); have n2_ := zA ((by rw [hg]; exact (below_size belA) : w.heap.size ≤ gb127)); have n3_ := zA ((by rw [hg]; exact (below_size belA) : w.heap.size ≤ gb127)); clear HB; have HB := n0_; have BK127 := n1_; have GW127 := n2_; have GE127 := n3_; clear n0_ n1_ n2_ n3_; clear hb hbox hg; have hcz41_0 : w40.cell? ⟨gb127, 0, none⟩ = some (.string a0_0) := (zN BK127.out 0).trans rfl; have hcz41_1 : w40.cell? ⟨gb127, 1, none⟩ = some (.int .i64 a0_1) := (zN BK127.out 1).trans rfl; have hcz41_2 : w40.cell? ⟨gb127, 2, none⟩ = some (.slice A0_2 l0_2.length c0_2) := (zN BK127.out 2).trans rfl; have hfz41_0 := zM BK127.out 0; have hfz41_1 := zM BK127.out 1; have hfz41_2 := zM BK127.out 2) | ((with_reducible refine gate_callee (f := 76) rfl ?_); refine goesL_ (some 6) rfl rfl Tryz.func76 (by kernel_rfl) rfl #[.slice A0_2 l0_2.length c0_2] rfl argA ?_; (with_reducible refine (span_Total.calls k _ _ l0_2 t128 _ ?side1 ?side2 A2.out).mono ?_); (case side1 => repeat (first | exact (Kd.C_below HR0_2.out HB.out) | (with_reducible refine Kd.C_alloc ?_ _) | (with_reducible refine Kd.C_drewN ?_ _) | (with_reducible refine Kd.C_drew ?_))); (case side2 => exact HC0_2.out); rintro e w42 ⟨rfl, hb⟩; refine ⟨_, rfl, ?_⟩; have n0_ := zA (blk_below (g := gb127) (o := .cells #[.string a0_0, .int .i64 a0_1, .slice A0_2 l0_2.length c0_2] 85 (0, 0)) (blkN BK127.out) hb); have n1_ := zA (zL (rW1) hb); clear BK127; clear HB; have BK127 := n0_; have HB := n1_; clear n0_ n1_; (try clear hb); (try clear hb2); (try clear hk); (try clear hi); have hcz43_0 : w42.cell? ⟨gb127, 0, none⟩ = some (.string a0_0) := (zN BK127.out 0).trans rfl; have hcz43_1 : w42.cell? ⟨gb127, 1, none⟩ = some (.int .i64 a0_1) := (zN BK127.out 1).trans rfl; have hcz43_2 : w42.cell? ⟨gb127, 2, none⟩ = some (.slice A0_2 l0_2.length c0_2) := (zN BK127.out 2).trans rfl; have hfz43_0 := zM BK127.out 0; have hfz43_1 := zM BK127.out 1; have hfz43_2 := zM BK127.out 2) | ((with_reducible refine gate_callee (f := 45) rfl ?_); refine goesL_ (some 10) rfl rfl Tryz.func45 (by kernel_rfl) rfl #[.string a0_0] rfl argA ?_; (with_reducible refine (label_Right.calls a0_0 true _ ?side1 A3.out).mono ?_); (case side1 => exact TabsW.below HT0.out (rW1)); rintro e w44 ⟨rfl, hb⟩; refine ⟨_, rfl, ?_⟩; have n0_ := zA (blk_below (g := gb127) (o := .cells #[.string a0_0, .int .i64 a0_1, .slice A0_2 l0_2.length c0_2] 85 (0, 0)) (blkN BK127.out) hb); have n1_ := zA (zL (rW1) hb); clear BK127; clear HB; have BK127 := n0_; have HB := n1_; clear n0_ n1_; (try clear hb); (try clear hb2); (try clear hk); (try clear hi); have hcz45_0 : w44.cell? ⟨gb127, 0, none⟩ = some (.string a0_0) := (zN BK127.out 0).trans rfl; have hcz45_1 : w44.cell? ⟨gb127, 1, none⟩ = some (.int .i64 a0_1) := (zN BK127.out 1).trans rfl; have hcz45_2 : w44.cell? ⟨gb127, 2, none⟩ = some (.slice A0_2 l0_2.length c0_2) := (zN BK127.out 2).trans rfl; have hfz45_0 := zM BK127.out 0; have hfz45_1 := zM BK127.out 1; have hfz45_2 := zM BK127.out 2))
    go_ret
    exact ⟨rfA, rW1⟩
  ·rw [if_neg c5] at H
   have c5b0 : decide (0 ≤ a0_1) = false := zI c5
   clear c5
   obtain rfl := Option.some.inj H
   go_enter Tryz.func134, Tryz.ntmps134
   go_wp2_with (first | ((with_reducible refine gate_dst (N := 1) rfl ?_); (try (refine gate_guard (by rfl) ?_; dsimp only)); refine box_event ?hg (N := 1) ?hd (cs := #[.string a0_0, .int .i64 a0_1, .slice A0_2 l0_2.length c0_2]) (t := 85) ?hr ?_; (case hd => rfl); (case hg => rfl); (case hr => first | (go_simp; done) | (go_simp; rfl)); intro gb127 hg w46 hbox hb; have n0_ := zA (zL belA hb); have n1_ := zA (hbox); have n2_ := zA ((by rw [hg]; exact (below_size belA) : w.heap.size ≤ gb127)); have n3_ := zA ((by rw [hg]; exact (below_size belA) : w.heap.size ≤ gb127)); clear HB; have HB := n0_; have BK127 := n1_; have GW127 := n2_; have GE127 := n3_; clear n0_ n1_ n2_ n3_; clear hb hbox hg; have hcz47_0 : w46.cell? ⟨gb127, 0, none⟩ = some (.string a0_0) := (zN BK127.out 0).trans rfl; have hcz47_1 : w46.cell? ⟨gb127, 1, none⟩ = some (.int .i64 a0_1) := (zN BK127.out 1).trans rfl; have hcz47_2 : w46.cell? ⟨gb127, 2, none⟩ = some (.slice A0_2 l0_2.length c0_2) := (zN BK127.out 2).trans rfl; have hfz47_0 := zM BK127.out 0; have hfz47_1 := zM BK127.out 1; have hfz47_2 := zM BK127.out 2) | ((with_reducible refine gate_callee (f := 76) rfl ?_); refine goesL_ (some 6) rfl rfl Tryz.func76 (by kernel_rfl) rfl #[.slice A0_2 l0_2.length c0_2] rfl argA ?_; (with_reducible refine (span_Total.calls k _ _ l0_2 t128 _ ?side1 ?side2 A2.out).mono ?_); (case side1 => repeat (first | exact (Kd.C_below HR0_2.out HB.out) | (with_reducible refine Kd.C_alloc ?_ _) | (with_reducible refine Kd.C_drewN ?_ _) | (with_reducible refine Kd.C_drew ?_))); (case side2 => exact HC0_2.out); rintro e w48 ⟨rfl, hb⟩; refine ⟨_, rfl, ?_⟩; have n0_ := zA (blk_below (g := gb127) (o := .cells #[.string a0_0, .int .i64 a0_1, .slice A0_2 l0_2.length c0_2] 85 (0, 0)) (blkN BK127.out) hb); have n1_ := zA (zL (rW1) hb); clear BK127; clear HB; have BK127 := n0_; have HB := n1_; clear n0_ n1_; (try clear hb); (try clear hb2); (try clear hk); (try clear hi); have hcz49_0 : w48.cell? ⟨gb127, 0, none⟩ = some (.string a0_0) := (zN BK127.out 0).trans rfl; have hcz49_1 : w48.cell? ⟨gb127, 1, none⟩ = some (.int .i64 a0_1) := (zN BK127.out 1).trans rfl; have hcz49_2 : w48.cell? ⟨gb127, 2, none⟩ = some (.slice A0_2 l0_2.length c0_2) := (zN BK127.out 2).trans rfl; have hfz49_0 := zM BK127.out 0; have hfz49_1 := zM BK127.out 1; have hfz49_2 := zM BK127.out 2) | ((with_reducible refine gate_callee (f := 45) rfl ?_); refine goesL_ (some 10) rfl rfl Tryz.func45 (by kernel_rfl) rfl #[.string a0_0] rfl argA ?_; (with_reducible refine (label_Right.calls a0_0 true _ ?side1 A3.out).mono ?_); (case side1 => exact TabsW.below HT0.out (rW1)); rintro e w50 ⟨rfl, hb⟩; refine ⟨_, rfl, ?_⟩; have n0_ := zA (blk_below (g := gb127) (o := .cells #[.string a0_0, .int .i64 a0_1, .slice A0_2 l0_2.length c0_2] 85 (0, 0)) (blkN BK127.out) hb); have n1_ := zA (zL (rW1) hb); clear BK127; clear HB; have BK127 := n0_; have HB := n1_; clear n0_ n1_; (try clear hb); (try clear hb2); (try clear hk); (try clear hi); have hcz51_0 : w50.cell? ⟨gb127, 0, none⟩ = some (.string a0_0) := (zN BK127.out 0).trans rfl; have hcz51_1 : w50.cell? ⟨gb127, 1, none⟩ = some (.int .i64 a0_1) := (zN BK127.out 1).trans rfl; have hcz51_2 : w50.cell? ⟨gb127, 2, none⟩ = some (.slice A0_2 l0_2.length c0_2) := (zN BK127.out 2).trans rfl; have hfz51_0 := zM BK127.out 0; have hfz51_1 := zM BK127.out 1; have hfz51_2 := zM BK127.out 2))
   go_ret
   exact ⟨rfA, rW1⟩
 ·replace c4 := Bool.eq_false_iff.mpr c4
  subst c4
  have H1 : (some false) = some r := by rw [if_neg (show ¬ (false = true) by decide)] at H; exact H
  clear H
  have H := H1
  clear H1
  obtain rfl := Option.some.inj H
  go_enter Tryz.func134, Tryz.ntmps134
  go_wp2_with (first | ((with_reducible refine gate_dst (N := 1) rfl ?_); (try (refine gate_guard (by rfl) ?_; dsimp only)); refine box_event ?hg (N := 1) ?hd (cs := #[.string a0_0, .int .i64 a0_1, .slice A0_2 l0_2.length c0_2]) (t := 85) ?hr ?_; (case hd => rfl); (case hg => rfl); (case hr => first | (go_simp; done) | (go_simp; rfl)); intro gb127 hg w52 hbox hb; have n0_ := zA (zL belA hb); have n1_ := zA (hbox); have n2_ := zA ((by rw [hg]; exact (below_size belA) : w.heap.size ≤ gb127)); have n3_ := zA ((by rw [hg]; exact (below_size belA) : w.heap.size ≤ gb127)); clear HB; have HB := n0_; have BK127 := n1_; have GW127 := n2_; have GE127 := n3_; clear n0_ n1_ n2_ n3_; clear hb hbox hg; have hcz53_0 : w52.cell? ⟨gb127, 0, none⟩ = some (.string a0_0) := (zN BK127.out 0).trans rfl; have hcz53_1 : w52.cell? ⟨gb127, 1, none⟩ = some (.int .i64 a0_1) := (zN BK127.out 1).trans rfl; have hcz53_2 : w52.cell? ⟨gb127, 2, none⟩ = some (.slice A0_2 l0_2.length c0_2) := (zN BK127.out 2).trans rfl; have hfz53_0 := zM BK127.out 0; have hfz53_1 := zM BK127.out 1; have hfz53_2 := zM BK127.out 2) | ((with_reducible refine gate_callee (f := 76) rfl ?_); refine goesL_ (some 6) rfl rfl Tryz.func76 (by kernel_rfl) rfl #[.slice A0_2 l0_2.length c0_2] rfl argA ?_; (with_reducible refine (span_Total.calls k _ _ l0_2 t128 _ ?side1 ?side2 A2.out).mono ?_); (case side1 => repeat (first | exact (Kd.C_below HR0_2.out HB.out) | (with_reducible refine Kd.C_alloc ?_ _) | (with_reducible refine Kd.C_drewN ?_ _) | (with_reducible refine Kd.C_drew ?_))); (case side2 => exact HC0_2.out); rintro e w54 ⟨rfl, hb⟩; refine ⟨_, rfl, ?_⟩; have n0_ := zA (blk_below (g := gb127) (o := .cells #[.string a0_0, .int .i64 a0_1, .slice A0_2 l0_2.length c0_2] 85 (0, 0)) (blkN BK127.out) hb); have n1_ := zA (zL (rW1) hb); clear BK127; clear HB; have BK127 := n0_; have HB := n1_; clear n0_ n1_; (try clear hb); (try clear hb2); (try clear hk); (try clear hi); have hcz55_0 : w54.cell? ⟨gb127, 0, none⟩ = some (.string a0_0) := (zN BK127.out 0).trans rfl; have hcz55_1 : w54.cell? ⟨gb127, 1, none⟩ = some (.int .i64 a0_1) := (zN BK127.out 1).trans rfl; have hcz55_2 : w54.cell? ⟨gb127, 2, none⟩ = some (.slice A0_2 l0_2.length c0_2) := (zN BK127.out 2).trans rfl; have hfz55_0 := zM BK127.out 0; have hfz55_1 := zM BK127.out 1; have hfz55_2 := zM BK127.out 2) | ((with_reducible refine gate_callee (f := 45) rfl ?_); refine goesL_ (some 10) rfl rfl Tryz.func45 (by kernel_rfl) rfl #[.string a0_0] rfl argA ?_; (with_reducible refine (label_Right.calls a0_0 false _ ?side1 A3.out).mono ?_); (case side1 => exact TabsW.below HT0.out (rW1)); rintro e w56 ⟨rfl, hb⟩; refine ⟨_, rfl, ?_⟩; have n0_ := zA (blk_below (g := gb127) (o := .cells #[.string a0_0, .int .i64 a0_1, .slice A0_2 l0_2.length c0_2] 85 (0, 0)) (blkN BK127.out) hb); have n1_ := zA (zL (rW1) hb); clear BK127; clear HB; have BK127 := n0_; have HB := n1_; clear n0_ n1_; (try clear hb); (try clear hb2); (try clear hk); (try clear hi)))
  go_ret
  exact ⟨rfA, rW1⟩
end Go.Proofs.YtcclaidbikjhiaaGreatDoor.PVo
