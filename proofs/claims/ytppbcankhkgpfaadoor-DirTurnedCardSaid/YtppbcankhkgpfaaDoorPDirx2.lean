-- laid by gprint.py (this session's own program) out of the translation: Lean checks it
import Derived.Test.YtppbcankhkgpfaaDoorPDirx0
import Derived.Lib.ConvBytes
import Derived.Lib.EndianMore
import Derived.Lib.EndianBits
import Derived.Laws.BitsAllLaws
import Derived.Outline
--compressed
namespace Go.Proofs.YtppbcankhkgpfaaDoor.PDir
open Go.RowKit Go.Proofs.YtppbcankhkgpfaaDoorW.PrintWords Go.Proofs.YtppbcankhkgpfaaDoorW.PrintLast Go.Proofs.YtppbcankhkgpfaaDoorW.PrintMore
attribute [local go_sem] max2_int min2_int max_two min_two max_three min_three max_four min_four   -- for this text's walks alone
attribute [local go_sem high] hw_str_leq hw_str_gtr
set_option linter.unusedVariables false
set_option linter.unusedSimpArgs false
def le_Get.f (a0 : ByteArray) : Option Int := if a0.size ≤ 9223372036854775807 then some (Go.Lib.leNat (a0.data.toList.take 8) : Int) else none
theorem le_Get.leNat_snoc (l : List UInt8) (i : Nat) (h : i < l.length) (hi : i < 8) : bits .or .u64 (Go.Lib.leNat (l.take i) : Int) (IntKind.u64.wrap ((l[i].toNat : Int) * 2 ^ (8 * i))) = (Go.Lib.leNat (l.take (i + 1)) : Int) ∧ Go.Lib.leNat (l.take i) < 256 ^ i := by
 have hb : ∀ l : List UInt8, Go.Lib.leNat l < 256 ^ l.length := by
  intro l
  induction l with
  | nil => simp [Go.Lib.leNat]
  | cons x t ih =>
   have := x.toNat_lt
   simp only [Go.Lib.leNat, List.length_cons, Nat.pow_succ]
   omega
 have h1 := hb (l.take i)
 rw [List.length_take, Nat.min_eq_left (by omega)] at h1
 refine ⟨?_, h1⟩
 have e : l.take (i + 1) = l.take i ++ [l[i]] := by rw [List.take_succ_eq_append_getElem h]
 have e2 : Go.Lib.leNat (l.take (i + 1)) = Go.Lib.leNat (l.take i) + 256 ^ i * l[i].toNat := by
  rw [e, Go.Lib.leNat_append, List.length_take, Nat.min_eq_left (by omega)]
  simp only [Go.Lib.leNat, Nat.mul_zero, Nat.add_zero]
 rw [e2]
 generalize Go.Lib.leNat (l.take i) = n at h1
 have hc := (l[i]).toNat_lt
 generalize (l[i]).toNat = c at hc
 have hp : ((c : Int) * 2 ^ (8 * i)) = ((c * 256 ^ i : Nat) : Int) := by
  rw [show (2 : Int) ^ (8 * i) = ((2 ^ (8 * i) : Nat) : Int) by rw [Int.natCast_pow]; rfl, Nat.pow_mul]
  rw [Int.natCast_mul, Int.natCast_pow, Int.natCast_pow]
 have hle : 256 ^ i ≤ 256 ^ 7 := Nat.pow_le_pow_right (by decide) (by omega)
 have hlt : c * 256 ^ i < 18446744073709551616 := by
  have : c * 256 ^ i ≤ 255 * 256 ^ i := Nat.mul_le_mul_right _ (by omega)
  have h72 : 256 ^ 7 = 72057594037927936 := by decide
  omega
 rw [hp, IntKind.wrap_u64, Int.emod_eq_of_lt (by omega) (by omega), u64_or_nat _ _ (by omega) hlt]
 congr 1
 rw [Nat.or_comm, show n + 256 ^ i * c = c * 256 ^ i + n by rw [Nat.mul_comm]; omega, show (256 : Nat) ^ i = 2 ^ (8 * i) by rw [Nat.pow_mul]]
 exact nat_join (8 * i) _ _ (Nat.mul_mod_left _ _) (by rw [Nat.pow_mul]; exact h1)
set_option maxHeartbeats 1000000 in
set_option maxRecDepth 100000 in
theorem le_Get.calls (a0 : ByteArray) (r : Int) (w : World) (h : le_Get.f a0 = some r) :
  Calls Tryd.prog 58 #[.string a0] w fun e w' => e = .returned (.int .u64 r) ∧ Below w.heap.size w w' := by
 unfold le_Get.f at h
 by_cases hs : a0.size ≤ 9223372036854775807
 ·rw [if_pos hs] at h
  obtain rfl := Option.some.inj h
  clear h
  generalize hR0 : ((Go.Lib.leNat (a0.data.toList.take 8) : Nat) : Int) = res
  have hcv : ∀ (s : ByteArray) (W : World), (convert 9 39 (.string s)).run Tryd.prog W = .ok (.slice (some ⟨W.heap.size, 0, none⟩) s.size (grownCap W s.size 0 5)) (Lib.bytesWorld W 5 s) := fun s W => Lib.run_convert_string_bytes W 9 39 5 s Tryd.underlying9 Tryd.underlying39 Tryd.underlying5
  by_cases h8 : a0.size ≤ 8
  ·have h8z : (a0.size : Int) ≤ 8 := by omega
   have hmz : mn (a0.size : Int) 8 = (a0.size : Int) := by unfold mn; rw [if_neg (by omega)]
   have HWB := Aside0.mk (bytes_below (Below.refl w.heap.size w) (Nat.le_refl _) 5 a0)
   have HCELL := Aside0.mk (show ∀ j, j < a0.size → (Lib.bytesWorld w 5 a0).cell? ⟨w.heap.size, j, none⟩ = some (.int .u8 (a0.data.toList.getD j 0).toNat) from fun j hj => Lib.bytesWorld_cell w 5 a0 j hj)
   have HLEN := Aside0.mk (show a0.size = a0.data.toList.length by rw [Array.length_toList]; rfl)
   have HSZ := Aside0.mk h8
   have HRES0 := Aside0.mk (show res = ((Go.Lib.leNat a0.data.toList : Nat) : Int) by rw [← hR0, List.take_of_length_le (by rw [← HLEN.out]; exact h8)])
   clear hR0
   go_enter Tryd.func58, Tryd.ntmps58
   go_wp2
   have hwb := HWB.out
   have hcell := HCELL.out
   have hlen := HLEN.out
   have hsz := HSZ.out
   have hres := HRES0.out
   clear HWB HCELL HLEN HSZ HRES0
   generalize hW1 : Lib.bytesWorld w 5 a0 = W1 at hwb hcell ⊢
   clear hW1
   generalize a0.data.toList = ls at hcell hlen hres
   have HRES := Aside0.mk hres
   clear hres
   go_loopg [3, 13] ls.length (fun gg s3 s13 wr => ∃ k : Nat, k ≤ ls.length ∧ ls.length - k ≤ gg ∧ s3 = .int .u64 (Go.Lib.leNat (ls.take k) : Int) ∧ s13 = .int .i64 k ∧ wr = W1)
   case atStart => exact ⟨0, Nat.zero_le _, by omega, rfl, rfl, rfl⟩
   case round =>
    obtain ⟨k, hk, hg, rfl, rfl, rfl⟩ := hrel
    by_cases hlt : k < ls.length
    ·have hltz : decide ((k : Int) < (a0.size : Int)) = true := by rw [hlen]; simpa using hlt
     have hkz : (0 : Int) ≤ (k : Int) := by omega
     have hkl : (k : Int) < (a0.size : Int) := by rw [hlen]; omega
     have hc := hcell k (by rw [hlen]; exact hlt)
     rw [List.getD_eq_getElem?_getD, List.getElem?_eq_getElem hlt] at hc
     simp only [Option.getD_some] at hc
     have hs8 : wrap64 (8 * (k : Int)) = ((8 * k : Nat) : Int) := by unfold wrap64; push_cast; omega
     have hor := (le_Get.leNat_snoc ls k hlt (by omega)).1
     have hu8 : IntKind.u64.wrap ((ls[k].toNat : Nat) : Int) = ((ls[k].toNat : Nat) : Int) := by rw [IntKind.wrap_u64]; have := ls[k].toNat_lt; omega
     have HOR := Aside0.mk hor
     have HU8 := Aside0.mk hu8
     clear hor hu8
     go_wp2
     go_roundg (ls.length - (k + 1))
     case measure => omega
     case rel => exact ⟨k + 1, by omega, by omega, by rw [HU8.out, HOR.out], by go_num, rfl⟩
    ·have hltz : decide ((k : Int) < (a0.size : Int)) = false := by rw [hlen]; simpa using hlt
     have hkk : k = ls.length := by omega
     subst hkk
     rw [List.take_length]
     go_wp2
     go_ret
     exact ⟨by rw [HRES.out]; rfl, hwb⟩
  ·have h8z : (8 : Int) ≤ (a0.size : Int) := by omega
   have hmz : mn (a0.size : Int) 8 = 8 := by unfold mn; split <;> omega
   have hmin : min 8 a0.size = 8 := by omega
   have hx : (a0.extract 0 8).data.toList = a0.data.toList.take 8 := by simp [ByteArray.data_extract]
   have HWB := Aside0.mk (bytes_below (Below.refl w.heap.size w) (Nat.le_refl _) 5 (a0.extract 0 8))
   have HCELL := Aside0.mk (show ∀ j, j < (a0.extract 0 8).size → (Lib.bytesWorld w 5 (a0.extract 0 8)).cell? ⟨w.heap.size, j, none⟩ = some (.int .u8 ((a0.extract 0 8).data.toList.getD j 0).toNat) from fun j hj => Lib.bytesWorld_cell w 5 (a0.extract 0 8) j hj)
   have HLEN := Aside0.mk (show (a0.extract 0 8).size = (a0.extract 0 8).data.toList.length by rw [Array.length_toList]; rfl)
   have HSZ := Aside0.mk (show (a0.extract 0 8).size ≤ 8 by rw [HLEN.out, hx, List.length_take]; omega)
   have HRES0 := Aside0.mk (show res = ((Go.Lib.leNat (a0.extract 0 8).data.toList : Nat) : Int) by rw [← hR0, hx])
   clear hR0 hx
   go_enter Tryd.func58, Tryd.ntmps58
   go_wp2
   have hwb := HWB.out
   have hcell := HCELL.out
   have hlen := HLEN.out
   have hsz := HSZ.out
   have hres := HRES0.out
   clear HWB HCELL HLEN HSZ HRES0
   generalize hW1 : Lib.bytesWorld w 5 (a0.extract 0 8) = W1 at hwb hcell ⊢
   clear hW1
   generalize (a0.extract 0 8).data.toList = ls at hcell hlen hres
   have HRES := Aside0.mk hres
   clear hres
   go_loopg [3, 13] ls.length (fun gg s3 s13 wr => ∃ k : Nat, k ≤ ls.length ∧ ls.length - k ≤ gg ∧ s3 = .int .u64 (Go.Lib.leNat (ls.take k) : Int) ∧ s13 = .int .i64 k ∧ wr = W1)
   case atStart => exact ⟨0, Nat.zero_le _, by omega, rfl, rfl, rfl⟩
   case round =>
    obtain ⟨k, hk, hg, rfl, rfl, rfl⟩ := hrel
    by_cases hlt : k < ls.length
    ·have hltz : decide ((k : Int) < 8) = true := decide_eq_true (by have := hlen ▸ hsz; omega)
     have hkz : (0 : Int) ≤ (k : Int) := by omega
     have hkl : (k : Int) < 8 := by have := hlen ▸ hsz; omega
     have hc := hcell k (by rw [hlen]; exact hlt)
     rw [List.getD_eq_getElem?_getD, List.getElem?_eq_getElem hlt] at hc
     simp only [Option.getD_some] at hc
     have hs8 : wrap64 (8 * (k : Int)) = ((8 * k : Nat) : Int) := by unfold wrap64; push_cast; omega
     have hor := (le_Get.leNat_snoc ls k hlt (by omega)).1
     have hu8 : IntKind.u64.wrap ((ls[k].toNat : Nat) : Int) = ((ls[k].toNat : Nat) : Int) := by rw [IntKind.wrap_u64]; have := ls[k].toNat_lt; omega
     have HOR := Aside0.mk hor
     have HU8 := Aside0.mk hu8
     clear hor hu8
     go_wp2
     go_roundg (ls.length - (k + 1))
     case measure => omega
     case rel => exact ⟨k + 1, by omega, by omega, by rw [HU8.out, HOR.out], by go_num, rfl⟩
    ·have hltz : decide ((k : Int) < 8) = false := decide_eq_false (by have e8 : ls.length = 8 := by { rw [← hlen]; simp [ByteArray.size_extract]; omega }; omega)
     have hkk : k = ls.length := by omega
     subst hkk
     rw [List.take_length]
     go_wp2
     go_ret
     exact ⟨by rw [HRES.out]; rfl, hwb⟩
 ·rw [if_neg hs] at h
  cases h
end Go.Proofs.YtppbcankhkgpfaaDoor.PDir
