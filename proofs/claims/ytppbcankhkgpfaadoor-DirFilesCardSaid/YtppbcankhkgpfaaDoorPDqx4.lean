import Derived.Test.YtppbcankhkgpfaaDoorPDqx0
import Derived.Lib.ConvBytes
import Derived.Lib.EndianMore
import Derived.Lib.EndianBits
import Derived.Laws.BitsAllLaws
import Derived.Outline
import Derived.Laws.Rows
import Derived.Deep.WholeRow
--compressed
namespace Go.Proofs.YtppbcankhkgpfaaDoor.PDq
open Go.RowKit Go.Proofs.YtppbcankhkgpfaaDoorW.PrintWords Go.Proofs.YtppbcankhkgpfaaDoorW.PrintLast Go.Proofs.YtppbcankhkgpfaaDoorW.PrintMore
attribute [local go_sem] max2_int min2_int max_two min_two max_three min_three max_four min_four   -- for this text's walks alone
attribute [local go_sem high] hw_str_leq hw_str_gtr
set_option linter.unusedVariables false
set_option linter.unusedSimpArgs false
theorem eqA64 (d : Nat) (w : World) (x0 y0 : Int) (x1 y1 : Int) :
  (Op.equalIn (d + 2) 64 (.agg #[.int .i64 x0, .int .i64 x1]) (.agg #[.int .i64 y0, .int .i64 y1])).run Tryd.prog w = .ok (x0 == y0 && (x1 == y1)) w := by
 refine eqA_of Tryd.underlying64 (by kernel_rfl) ?_
 refine eqf_cons (by rfl) (by go_simp; rfl) (by go_simp; rfl) (by go_simp) ?_
 exact eqf_last (by rfl) (by go_simp; rfl) (by go_simp; rfl) (by go_simp)
end Go.Proofs.YtppbcankhkgpfaaDoor.PDq
namespace Go.Proofs.YtppbcankhkgpfaaDoor.PDq
open Go.RowKit Go.Proofs.YtppbcankhkgpfaaDoorW.PrintWords Go.Proofs.YtppbcankhkgpfaaDoorW.PrintLast Go.Proofs.YtppbcankhkgpfaaDoorW.PrintMore
attribute [local go_sem] max2_int min2_int max_two min_two max_three min_three max_four min_four   -- for this text's walks alone
attribute [local go_sem high] hw_str_leq hw_str_gtr
set_option linter.unusedVariables false
set_option linter.unusedSimpArgs false
def le_Get.f (a0 : ByteArray) : Option Int := if a0.size ≤ 9223372036854775807 then some (Go.Lib.leNat (a0.data.toList.take 8) : Int) else none
theorem le_Get.leNat_snoc (l : List UInt8) (i : Nat) (h : i < l.length) (hi : i < 8) : bits .or .u64 (Go.Lib.leNat (l.take i) : Int) (IntKind.u64.wrap ((l[i].toNat : Int) * 2 ^ (8 * i))) = (Go.Lib.leNat (l.take (i + 1)) : Int) ∧ Go.Lib.leNat (l.take i) < 256 ^ i := by
 have hb : ∀ l : List UInt8, Go.Lib.leNat l < 256 ^ l.length := by
  intro l
  induction l with
  | nil => simp [Go.Lib.leNat]
  | cons x t ih =>
   have := x.toNat_lt
   simp only [Go.Lib.leNat, List.length_cons, Nat.pow_succ]
   omega
 have h1 := hb (l.take i)
 rw [List.length_take, Nat.min_eq_left (by omega)] at h1
 refine ⟨?_, h1⟩
 have e : l.take (i + 1) = l.take i ++ [l[i]] := by rw [List.take_succ_eq_append_getElem h]
 have e2 : Go.Lib.leNat (l.take (i + 1)) = Go.Lib.leNat (l.take i) + 256 ^ i * l[i].toNat := by
  rw [e, Go.Lib.leNat_append, List.length_take, Nat.min_eq_left (by omega)]
  simp only [Go.Lib.leNat, Nat.mul_zero, Nat.add_zero]
 rw [e2]
 generalize Go.Lib.leNat (l.take i) = n at h1
 have hc := (l[i]).toNat_lt
 generalize (l[i]).toNat = c at hc
 have hp : ((c : Int) * 2 ^ (8 * i)) = ((c * 256 ^ i : Nat) : Int) := by
  rw [show (2 : Int) ^ (8 * i) = ((2 ^ (8 * i) : Nat) : Int) by rw [Int.natCast_pow]; rfl, Nat.pow_mul]
  rw [Int.natCast_mul, Int.natCast_pow, Int.natCast_pow]
 have hle : 256 ^ i ≤ 256 ^ 7 := Nat.pow_le_pow_right (by decide) (by omega)
 have hlt : c * 256 ^ i < 18446744073709551616 := by
  have : c * 256 ^ i ≤ 255 * 256 ^ i := Nat.mul_le_mul_right _ (by omega)
  have h72 : 256 ^ 7 = 72057594037927936 := by decide
  omega
 rw [hp, IntKind.wrap_u64, Int.emod_eq_of_lt (by omega) (by omega), u64_or_nat _ _ (by omega) hlt]
 congr 1
 rw [Nat.or_comm, show n + 256 ^ i * c = c * 256 ^ i + n by rw [Nat.mul_comm]; omega, show (256 : Nat) ^ i = 2 ^ (8 * i) by rw [Nat.pow_mul]]
 exact nat_join (8 * i) _ _ (Nat.mul_mod_left _ _) (by rw [Nat.pow_mul]; exact h1)
set_option maxHeartbeats 1000000 in
set_option maxRecDepth 100000 in
theorem le_Get.calls (a0 : ByteArray) (r : Int) (w : World) (h : le_Get.f a0 = some r) :
  Calls Tryd.prog 58 #[.string a0] w fun e w' => e = .returned (.int .u64 r) ∧ Below w.heap.size w w' := by
 unfold le_Get.f at h
 by_cases hs : a0.size ≤ 9223372036854775807
 ·rw [if_pos hs] at h
  obtain rfl := Option.some.inj h
  clear h
  generalize hR0 : ((Go.Lib.leNat (a0.data.toList.take 8) : Nat) : Int) = res
  have hcv : ∀ (s : ByteArray) (W : World), (convert 9 39 (.string s)).run Tryd.prog W = .ok (.slice (some ⟨W.heap.size, 0, none⟩) s.size (grownCap W s.size 0 5)) (Lib.bytesWorld W 5 s) := fun s W => Lib.run_convert_string_bytes W 9 39 5 s Tryd.underlying9 Tryd.underlying39 Tryd.underlying5
  by_cases h8 : a0.size ≤ 8
  ·have h8z : (a0.size : Int) ≤ 8 := by omega
   have hmz : mn (a0.size : Int) 8 = (a0.size : Int) := by unfold mn; rw [if_neg (by omega)]
   have HWB := Aside0.mk (bytes_below (Below.refl w.heap.size w) (Nat.le_refl _) 5 a0)
   have HCELL := Aside0.mk (show ∀ j, j < a0.size → (Lib.bytesWorld w 5 a0).cell? ⟨w.heap.size, j, none⟩ = some (.int .u8 (a0.data.toList.getD j 0).toNat) from fun j hj => Lib.bytesWorld_cell w 5 a0 j hj)
   have HLEN := Aside0.mk (show a0.size = a0.data.toList.length by rw [Array.length_toList]; rfl)
   have HSZ := Aside0.mk h8
   have HRES0 := Aside0.mk (show res = ((Go.Lib.leNat a0.data.toList : Nat) : Int) by rw [← hR0, List.take_of_length_le (by rw [← HLEN.out]; exact h8)])
   clear hR0
   go_enter Tryd.func58, Tryd.ntmps58
   go_wp2
   have hwb := HWB.out
   have hcell := HCELL.out
   have hlen := HLEN.out
   have hsz := HSZ.out
   have hres := HRES0.out
   clear HWB HCELL HLEN HSZ HRES0
   generalize hW1 : Lib.bytesWorld w 5 a0 = W1 at hwb hcell ⊢
   clear hW1
   generalize a0.data.toList = ls at hcell hlen hres
   have HRES := Aside0.mk hres
   clear hres
   go_loopg [3, 13] ls.length (fun gg s3 s13 wr => ∃ k : Nat, k ≤ ls.length ∧ ls.length - k ≤ gg ∧ s3 = .int .u64 (Go.Lib.leNat (ls.take k) : Int) ∧ s13 = .int .i64 k ∧ wr = W1)
   case atStart => exact ⟨0, Nat.zero_le _, by omega, rfl, rfl, rfl⟩
   case round =>
    obtain ⟨k, hk, hg, rfl, rfl, rfl⟩ := hrel
    by_cases hlt : k < ls.length
    ·have hltz : decide ((k : Int) < (a0.size : Int)) = true := by rw [hlen]; simpa using hlt
     have hkz : (0 : Int) ≤ (k : Int) := by omega
     have hkl : (k : Int) < (a0.size : Int) := by rw [hlen]; omega
     have hc := hcell k (by rw [hlen]; exact hlt)
     rw [List.getD_eq_getElem?_getD, List.getElem?_eq_getElem hlt] at hc
     simp only [Option.getD_some] at hc
     have hs8 : wrap64 (8 * (k : Int)) = ((8 * k : Nat) : Int) := by unfold wrap64; push_cast; omega
     have hor := (le_Get.leNat_snoc ls k hlt (by omega)).1
     have hu8 : IntKind.u64.wrap ((ls[k].toNat : Nat) : Int) = ((ls[k].toNat : Nat) : Int) := by rw [IntKind.wrap_u64]; have := ls[k].toNat_lt; omega
     have HOR := Aside0.mk hor
     have HU8 := Aside0.mk hu8
     clear hor hu8
     go_wp2
     go_roundg (ls.length - (k + 1))
     case measure => omega
     case rel => exact ⟨k + 1, by omega, by omega, by rw [HU8.out, HOR.out], by go_num, rfl⟩
    ·have hltz : decide ((k : Int) < (a0.size : Int)) = false := by rw [hlen]; simpa using hlt
     have hkk : k = ls.length := by omega
     subst hkk
     rw [List.take_length]
     go_wp2
     go_ret
     exact ⟨by rw [HRES.out]; rfl, hwb⟩
  ·have h8z : (8 : Int) ≤ (a0.size : Int) := by omega
   have hmz : mn (a0.size : Int) 8 = 8 := by unfold mn; split <;> omega
   have hmin : min 8 a0.size = 8 := by omega
   have hx : (a0.extract 0 8).data.toList = a0.data.toList.take 8 := by simp [ByteArray.data_extract]
   have HWB := Aside0.mk (bytes_below (Below.refl w.heap.size w) (Nat.le_refl _) 5 (a0.extract 0 8))
   have HCELL := Aside0.mk (show ∀ j, j < (a0.extract 0 8).size → (Lib.bytesWorld w 5 (a0.extract 0 8)).cell? ⟨w.heap.size, j, none⟩ = some (.int .u8 ((a0.extract 0 8).data.toList.getD j 0).toNat) from fun j hj => Lib.bytesWorld_cell w 5 (a0.extract 0 8) j hj)
   have HLEN := Aside0.mk (show (a0.extract 0 8).size = (a0.extract 0 8).data.toList.length by rw [Array.length_toList]; rfl)
   have HSZ := Aside0.mk (show (a0.extract 0 8).size ≤ 8 by rw [HLEN.out, hx, List.length_take]; omega)
   have HRES0 := Aside0.mk (show res = ((Go.Lib.leNat (a0.extract 0 8).data.toList : Nat) : Int) by rw [← hR0, hx])
   clear hR0 hx
   go_enter Tryd.func58, Tryd.ntmps58
   go_wp2
   have hwb := HWB.out
   have hcell := HCELL.out
   have hlen := HLEN.out
   have hsz := HSZ.out
   have hres := HRES0.out
   clear HWB HCELL HLEN HSZ HRES0
   generalize hW1 : Lib.bytesWorld w 5 (a0.extract 0 8) = W1 at hwb hcell ⊢
   clear hW1
   generalize (a0.extract 0 8).data.toList = ls at hcell hlen hres
   have HRES := Aside0.mk hres
   clear hres
   go_loopg [3, 13] ls.length (fun gg s3 s13 wr => ∃ k : Nat, k ≤ ls.length ∧ ls.length - k ≤ gg ∧ s3 = .int .u64 (Go.Lib.leNat (ls.take k) : Int) ∧ s13 = .int .i64 k ∧ wr = W1)
   case atStart => exact ⟨0, Nat.zero_le _, by omega, rfl, rfl, rfl⟩
   case round =>
    obtain ⟨k, hk, hg, rfl, rfl, rfl⟩ := hrel
    by_cases hlt : k < ls.length
    ·have hltz : decide ((k : Int) < 8) = true := decide_eq_true (by have := hlen ▸ hsz; omega)
     have hkz : (0 : Int) ≤ (k : Int) := by omega
     have hkl : (k : Int) < 8 := by have := hlen ▸ hsz; omega
     have hc := hcell k (by rw [hlen]; exact hlt)
     rw [List.getD_eq_getElem?_getD, List.getElem?_eq_getElem hlt] at hc
     simp only [Option.getD_some] at hc
     have hs8 : wrap64 (8 * (k : Int)) = ((8 * k : Nat) : Int) := by unfold wrap64; push_cast; omega
     have hor := (le_Get.leNat_snoc ls k hlt (by omega)).1
     have hu8 : IntKind.u64.wrap ((ls[k].toNat : Nat) : Int) = ((ls[k].toNat : Nat) : Int) := by rw [IntKind.wrap_u64]; have := ls[k].toNat_lt; omega
     have HOR := Aside0.mk hor
     have HU8 := Aside0.mk hu8
     clear hor hu8
     go_wp2
     go_roundg (ls.length - (k + 1))
     case measure => omega
     case rel => exact ⟨k + 1, by omega, by omega, by rw [HU8.out, HOR.out], by go_num, rfl⟩
    ·have hltz : decide ((k : Int) < 8) = false := decide_eq_false (by have e8 : ls.length = 8 := by { rw [← hlen]; simp [ByteArray.size_extract]; omega }; omega)
     have hkk : k = ls.length := by omega
     subst hkk
     rw [List.take_length]
     go_wp2
     go_ret
     exact ⟨by rw [HRES.out]; rfl, hwb⟩
 ·rw [if_neg hs] at h
  cases h
end Go.Proofs.YtppbcankhkgpfaaDoor.PDq
namespace Go.Proofs.YtppbcankhkgpfaaDoor.PDq
open Go.RowKit Go.Proofs.YtppbcankhkgpfaaDoorW.PrintWords Go.Proofs.YtppbcankhkgpfaaDoorW.PrintLast Go.Proofs.YtppbcankhkgpfaaDoorW.PrintMore
attribute [local go_sem] max2_int min2_int max_two min_two max_three min_three max_four min_four   -- for this text's walks alone
attribute [local go_sem high] hw_str_leq hw_str_gtr
set_option linter.unusedVariables false
set_option linter.unusedSimpArgs false
def crcS (n : Int) : Int := bits .xor .u32 (n / 2) (bits .and .u32 3988292384 ((-(bits .and .u32 n 1)) % 4294967296))
def crcI : Nat → Int → Int
 | 0, n => n
 | j + 1, n => crcS (crcI j n)
def crcT (i : Nat) : Int := crcI 4 (i : Int)
def crcCs (k : Nat) : Array Value := ((List.range 16).map fun j => Value.int .u32 (if j < k then crcT j else 0)).toArray
theorem crcCs_get (k j : Nat) (h : j < 16) : (crcCs k)[j]? = some (.int .u32 (if j < k then crcT j else 0)) := by
 unfold crcCs
 simp [h]
theorem crcCs_set (k : Nat) (h : k < 16) : (crcCs k).setIfInBounds k (.int .u32 (crcT k)) = crcCs (k + 1) := by
 apply Array.toList_inj.1
 rw [Array.toList_setIfInBounds]
 unfold crcCs
 apply List.ext_getElem?
 intro i
 rw [List.getElem?_set]
 by_cases h16 : i < 16
 ·by_cases he : k = i
  ·subst he
   simp [h]
  ·rw [if_neg he]
   simp only [List.getElem?_map, List.getElem?_range h16, Option.map_some]
   congr 2
   by_cases hl : i < k
   ·rw [if_pos hl, if_pos (by omega)]
   ·rw [if_neg hl, if_neg (by omega)]
 ·rw [if_neg (by omega)]
  simp [h16]
theorem crcCs_size (k : Nat) : (crcCs k).size = 16 := by unfold crcCs; simp
theorem made_end (w W : World) (tmps : Array Value) (g15 : W.heap[w.heap.size]? = some (.cells (crcCs 16) 118 (0, 0))) (hb : Below w.heap.size w W) (ht : tmps.getD 0 undef = .pointer (some ⟨w.heap.size, 0, none⟩)) :
  bodyPost Tryd.prog Tryd.f78 (fun e w' => e = .returned (.agg (crcCs 16)) ∧ Below w.heap.size w w') Exit.ret { tmps := tmps, defers := [] } W :=
 bodyPost_ret (v := .agg (crcCs 16)) (results_cell_row (by kernel_rfl) tmps W w.heap.size 118 (crcCs 16) (0, 0) _ ht g15 Tryd.underlying118 rfl (by rw [crcCs_size]; kernel_rfl)) rfl ⟨rfl, hb⟩
set_option maxHeartbeats 2000000 in
set_option maxRecDepth 100000 in
theorem seal_made.calls (w : World) : Calls Tryd.prog 78 #[] w fun e w' => e = .returned (.agg (crcCs 16)) ∧ Below w.heap.size w w' := by
 have h0 : (w.alloc (.cells #[.int .u32 0, .int .u32 0, .int .u32 0, .int .u32 0, .int .u32 0, .int .u32 0, .int .u32 0, .int .u32 0, .int .u32 0, .int .u32 0, .int .u32 0, .int .u32 0, .int .u32 0, .int .u32 0, .int .u32 0, .int .u32 0] 118)).heap[w.heap.size]? = some (.cells (crcCs 0) 118 (0, 0)) := blk_new w _
 have h1 : ((w.alloc (.cells #[.int .u32 0, .int .u32 0, .int .u32 0, .int .u32 0, .int .u32 0, .int .u32 0, .int .u32 0, .int .u32 0, .int .u32 0, .int .u32 0, .int .u32 0, .int .u32 0, .int .u32 0, .int .u32 0, .int .u32 0, .int .u32 0] 118)).alloc (.cells #[.int .u32 0, .int .u32 0, .int .u32 0, .int .u32 0, .int .u32 0, .int .u32 0, .int .u32 0, .int .u32 0, .int .u32 0, .int .u32 0, .int .u32 0, .int .u32 0, .int .u32 0, .int .u32 0, .int .u32 0, .int .u32 0] 118)).heap[w.heap.size + 1]? = some (.cells (crcCs 0) 118 (0, 0)) := by
  have := blk_new (w.alloc (.cells #[.int .u32 0, .int .u32 0, .int .u32 0, .int .u32 0, .int .u32 0, .int .u32 0, .int .u32 0, .int .u32 0, .int .u32 0, .int .u32 0, .int .u32 0, .int .u32 0, .int .u32 0, .int .u32 0, .int .u32 0, .int .u32 0] 118)) (.cells (crcCs 0) 118 (0, 0))
  rwa [World.size_alloc] at this
 have HA0 := Aside0.mk (blk_alloc h0 (.cells #[.int .u32 0, .int .u32 0, .int .u32 0, .int .u32 0, .int .u32 0, .int .u32 0, .int .u32 0, .int .u32 0, .int .u32 0, .int .u32 0, .int .u32 0, .int .u32 0, .int .u32 0, .int .u32 0, .int .u32 0, .int .u32 0] 118))
 have HA1 := Aside0.mk h1
 have HB0 := Aside0.mk (((Below.refl w.heap.size w).alloc (Nat.le_refl _) (.cells #[.int .u32 0, .int .u32 0, .int .u32 0, .int .u32 0, .int .u32 0, .int .u32 0, .int .u32 0, .int .u32 0, .int .u32 0, .int .u32 0, .int .u32 0, .int .u32 0, .int .u32 0, .int .u32 0, .int .u32 0, .int .u32 0] 118)).alloc (by simp) (.cells #[.int .u32 0, .int .u32 0, .int .u32 0, .int .u32 0, .int .u32 0, .int .u32 0, .int .u32 0, .int .u32 0, .int .u32 0, .int .u32 0, .int .u32 0, .int .u32 0, .int .u32 0, .int .u32 0, .int .u32 0, .int .u32 0] 118))
 clear h0 h1
 go_enter Tryd.func78, Tryd.ntmps78
 go_wp2
 go_loopg [4] 16 (fun gg s4 wr => ∃ k : Nat, k ≤ 16 ∧ 16 - k ≤ gg ∧ s4 = .int .i64 k ∧ Aside0 (wr.heap[w.heap.size]? = some (.cells (crcCs 0) 118 (0, 0))) ∧ Aside0 (wr.heap[w.heap.size + 1]? = some (.cells (crcCs k) 118 (0, 0))) ∧ Aside0 (Below w.heap.size w wr))
 case atStart => exact ⟨0, by omega, by omega, rfl, HA0, HA1, HB0⟩
 case round =>
  clear HA0 HA1 HB0
  obtain ⟨k, hk, hg, rfl, HA, HC, HB⟩ := hrel
  by_cases hlt : k < 16
  ·have hltz : decide ((k : Int) < 16) = true := decide_eq_true (by omega)
   have hkz : (0 : Int) ≤ (k : Int) := by omega
   have hkz2 : (k : Int) < 16 := by omega
   have hc := blk_cell HC.out k
   have hf := blk_frozen HC.out k
   rw [crcCs_get k k hlt, if_neg (Nat.lt_irrefl k)] at hc
   go_wp2
   go_loopg [3, 9] 4 (fun gg s3 s9 wi => ∃ j : Nat, j ≤ 4 ∧ 4 - j ≤ gg ∧ s9 = .int .i64 j ∧ s3 = .int .u32 (crcI j (k : Int)) ∧ wi = wr)
   case atStart => exact ⟨0, by omega, by omega, rfl, rfl, rfl⟩
   case round =>
    obtain ⟨j, hj, hgj, rfl, rfl, rfl⟩ := hrel
    by_cases hlj : j < 4
    ·have hltj : decide ((j : Int) < 4) = true := decide_eq_true (by omega)
     have hcs : crcI (j + 1) (k : Int) = crcS (crcI j (k : Int)) := rfl
     generalize crcI j (k : Int) = n at hcs
     go_wp2
     go_roundg (4 - (j + 1))
     case measure => omega
     case rel => exact ⟨j + 1, by omega, by omega, by go_num, by rw [hcs]; rfl, rfl⟩
    ·have hltj : decide ((j : Int) < 4) = false := decide_eq_false (by omega)
     have hj4 : j = 4 := by omega
     subst hj4
     have hset := crcCs_set k hlt
     have hT : crcI 4 (k : Int) = crcT k := rfl
     rw [hT]
     generalize crcT k = n at hset
     have HSET := Aside0.mk hset
     clear hset hT
     go_wp2
     go_roundg (16 - (k + 1))
     case measure => omega
     case rel => exact ⟨k + 1, by omega, by omega, by go_num, ⟨blk_far HA.out (by simp) _⟩, ⟨blk_put HC.out k _ HSET.out⟩, ⟨HB.out.setCell (by simp) _⟩⟩
  ·have hltz : decide ((k : Int) < 16) = false := decide_eq_false (by omega)
   have hkk : k = 16 := by omega
   subst hkk
   have c0 : wr.cell? ⟨w.heap.size + 1, 0, none⟩ = some (.int .u32 (crcT 0)) := (blk_cell HC.out 0).trans (crcCs_get 16 0 (by decide))
   have d0 : wr.cell? ⟨w.heap.size, 0, none⟩ = some (.int .u32 0) := (blk_cell HA.out 0).trans (crcCs_get 0 0 (by decide))
   have f0 := blk_frozen HA.out 0
   have c1 : wr.cell? ⟨w.heap.size + 1, 1, none⟩ = some (.int .u32 (crcT 1)) := (blk_cell HC.out 1).trans (crcCs_get 16 1 (by decide))
   have d1 : wr.cell? ⟨w.heap.size, 1, none⟩ = some (.int .u32 0) := (blk_cell HA.out 1).trans (crcCs_get 0 1 (by decide))
   have f1 := blk_frozen HA.out 1
   have c2 : wr.cell? ⟨w.heap.size + 1, 2, none⟩ = some (.int .u32 (crcT 2)) := (blk_cell HC.out 2).trans (crcCs_get 16 2 (by decide))
   have d2 : wr.cell? ⟨w.heap.size, 2, none⟩ = some (.int .u32 0) := (blk_cell HA.out 2).trans (crcCs_get 0 2 (by decide))
   have f2 := blk_frozen HA.out 2
   have c3 : wr.cell? ⟨w.heap.size + 1, 3, none⟩ = some (.int .u32 (crcT 3)) := (blk_cell HC.out 3).trans (crcCs_get 16 3 (by decide))
   have d3 : wr.cell? ⟨w.heap.size, 3, none⟩ = some (.int .u32 0) := (blk_cell HA.out 3).trans (crcCs_get 0 3 (by decide))
   have f3 := blk_frozen HA.out 3
   have c4 : wr.cell? ⟨w.heap.size + 1, 4, none⟩ = some (.int .u32 (crcT 4)) := (blk_cell HC.out 4).trans (crcCs_get 16 4 (by decide))
   have d4 : wr.cell? ⟨w.heap.size, 4, none⟩ = some (.int .u32 0) := (blk_cell HA.out 4).trans (crcCs_get 0 4 (by decide))
   have f4 := blk_frozen HA.out 4
   have c5 : wr.cell? ⟨w.heap.size + 1, 5, none⟩ = some (.int .u32 (crcT 5)) := (blk_cell HC.out 5).trans (crcCs_get 16 5 (by decide))
   have d5 : wr.cell? ⟨w.heap.size, 5, none⟩ = some (.int .u32 0) := (blk_cell HA.out 5).trans (crcCs_get 0 5 (by decide))
   have f5 := blk_frozen HA.out 5
   have c6 : wr.cell? ⟨w.heap.size + 1, 6, none⟩ = some (.int .u32 (crcT 6)) := (blk_cell HC.out 6).trans (crcCs_get 16 6 (by decide))
   have d6 : wr.cell? ⟨w.heap.size, 6, none⟩ = some (.int .u32 0) := (blk_cell HA.out 6).trans (crcCs_get 0 6 (by decide))
   have f6 := blk_frozen HA.out 6
   have c7 : wr.cell? ⟨w.heap.size + 1, 7, none⟩ = some (.int .u32 (crcT 7)) := (blk_cell HC.out 7).trans (crcCs_get 16 7 (by decide))
   have d7 : wr.cell? ⟨w.heap.size, 7, none⟩ = some (.int .u32 0) := (blk_cell HA.out 7).trans (crcCs_get 0 7 (by decide))
   have f7 := blk_frozen HA.out 7
   have c8 : wr.cell? ⟨w.heap.size + 1, 8, none⟩ = some (.int .u32 (crcT 8)) := (blk_cell HC.out 8).trans (crcCs_get 16 8 (by decide))
   have d8 : wr.cell? ⟨w.heap.size, 8, none⟩ = some (.int .u32 0) := (blk_cell HA.out 8).trans (crcCs_get 0 8 (by decide))
   have f8 := blk_frozen HA.out 8
   have c9 : wr.cell? ⟨w.heap.size + 1, 9, none⟩ = some (.int .u32 (crcT 9)) := (blk_cell HC.out 9).trans (crcCs_get 16 9 (by decide))
   have d9 : wr.cell? ⟨w.heap.size, 9, none⟩ = some (.int .u32 0) := (blk_cell HA.out 9).trans (crcCs_get 0 9 (by decide))
   have f9 := blk_frozen HA.out 9
   have c10 : wr.cell? ⟨w.heap.size + 1, 10, none⟩ = some (.int .u32 (crcT 10)) := (blk_cell HC.out 10).trans (crcCs_get 16 10 (by decide))
   have d10 : wr.cell? ⟨w.heap.size, 10, none⟩ = some (.int .u32 0) := (blk_cell HA.out 10).trans (crcCs_get 0 10 (by decide))
   have f10 := blk_frozen HA.out 10
   have c11 : wr.cell? ⟨w.heap.size + 1, 11, none⟩ = some (.int .u32 (crcT 11)) := (blk_cell HC.out 11).trans (crcCs_get 16 11 (by decide))
   have d11 : wr.cell? ⟨w.heap.size, 11, none⟩ = some (.int .u32 0) := (blk_cell HA.out 11).trans (crcCs_get 0 11 (by decide))
   have f11 := blk_frozen HA.out 11
   have c12 : wr.cell? ⟨w.heap.size + 1, 12, none⟩ = some (.int .u32 (crcT 12)) := (blk_cell HC.out 12).trans (crcCs_get 16 12 (by decide))
   have d12 : wr.cell? ⟨w.heap.size, 12, none⟩ = some (.int .u32 0) := (blk_cell HA.out 12).trans (crcCs_get 0 12 (by decide))
   have f12 := blk_frozen HA.out 12
   have c13 : wr.cell? ⟨w.heap.size + 1, 13, none⟩ = some (.int .u32 (crcT 13)) := (blk_cell HC.out 13).trans (crcCs_get 16 13 (by decide))
   have d13 : wr.cell? ⟨w.heap.size, 13, none⟩ = some (.int .u32 0) := (blk_cell HA.out 13).trans (crcCs_get 0 13 (by decide))
   have f13 := blk_frozen HA.out 13
   have c14 : wr.cell? ⟨w.heap.size + 1, 14, none⟩ = some (.int .u32 (crcT 14)) := (blk_cell HC.out 14).trans (crcCs_get 16 14 (by decide))
   have d14 : wr.cell? ⟨w.heap.size, 14, none⟩ = some (.int .u32 0) := (blk_cell HA.out 14).trans (crcCs_get 0 14 (by decide))
   have f14 := blk_frozen HA.out 14
   have c15 : wr.cell? ⟨w.heap.size + 1, 15, none⟩ = some (.int .u32 (crcT 15)) := (blk_cell HC.out 15).trans (crcCs_get 16 15 (by decide))
   have d15 : wr.cell? ⟨w.heap.size, 15, none⟩ = some (.int .u32 0) := (blk_cell HA.out 15).trans (crcCs_get 0 15 (by decide))
   have f15 := blk_frozen HA.out 15
   go_wp2
   clear c0 d0 f0 c1 d1 f1 c2 d2 f2 c3 d3 f3 c4 d4 f4 c5 d5 f5 c6 d6 f6 c7 d7 f7 c8 d8 f8 c9 d9 f9 c10 d10 f10 c11 d11 f11 c12 d12 f12 c13 d13 f13 c14 d14 f14 c15 d15 f15
   have g0 := blk_set HA.out 0 (.int .u32 (crcT 0))
   have g1 := blk_set g0 1 (.int .u32 (crcT 1))
   have g2 := blk_set g1 2 (.int .u32 (crcT 2))
   have g3 := blk_set g2 3 (.int .u32 (crcT 3))
   have g4 := blk_set g3 4 (.int .u32 (crcT 4))
   have g5 := blk_set g4 5 (.int .u32 (crcT 5))
   have g6 := blk_set g5 6 (.int .u32 (crcT 6))
   have g7 := blk_set g6 7 (.int .u32 (crcT 7))
   have g8 := blk_set g7 8 (.int .u32 (crcT 8))
   have g9 := blk_set g8 9 (.int .u32 (crcT 9))
   have g10 := blk_set g9 10 (.int .u32 (crcT 10))
   have g11 := blk_set g10 11 (.int .u32 (crcT 11))
   have g12 := blk_set g11 12 (.int .u32 (crcT 12))
   have g13 := blk_set g12 13 (.int .u32 (crcT 13))
   have g14 := blk_set g13 14 (.int .u32 (crcT 14))
   have g15 := blk_set g14 15 (.int .u32 (crcT 15))
   rw [crcCs_set 0 (by decide), crcCs_set 1 (by decide), crcCs_set 2 (by decide), crcCs_set 3 (by decide), crcCs_set 4 (by decide), crcCs_set 5 (by decide), crcCs_set 6 (by decide), crcCs_set 7 (by decide), crcCs_set 8 (by decide), crcCs_set 9 (by decide), crcCs_set 10 (by decide), crcCs_set 11 (by decide), crcCs_set 12 (by decide), crcCs_set 13 (by decide), crcCs_set 14 (by decide), crcCs_set 15 (by decide)] at g15
   have hb : Below w.heap.size w _ := (((((((((((((((HB.out.setCell (p := ⟨w.heap.size, 0, none⟩) (Nat.le_refl _) (.int .u32 (crcT 0))).setCell (p := ⟨w.heap.size, 1, none⟩) (Nat.le_refl _) (.int .u32 (crcT 1))).setCell (p := ⟨w.heap.size, 2, none⟩) (Nat.le_refl _) (.int .u32 (crcT 2))).setCell (p := ⟨w.heap.size, 3, none⟩) (Nat.le_refl _) (.int .u32 (crcT 3))).setCell (p := ⟨w.heap.size, 4, none⟩) (Nat.le_refl _) (.int .u32 (crcT 4))).setCell (p := ⟨w.heap.size, 5, none⟩) (Nat.le_refl _) (.int .u32 (crcT 5))).setCell (p := ⟨w.heap.size, 6, none⟩) (Nat.le_refl _) (.int .u32 (crcT 6))).setCell (p := ⟨w.heap.size, 7, none⟩) (Nat.le_refl _) (.int .u32 (crcT 7))).setCell (p := ⟨w.heap.size, 8, none⟩) (Nat.le_refl _) (.int .u32 (crcT 8))).setCell (p := ⟨w.heap.size, 9, none⟩) (Nat.le_refl _) (.int .u32 (crcT 9))).setCell (p := ⟨w.heap.size, 10, none⟩) (Nat.le_refl _) (.int .u32 (crcT 10))).setCell (p := ⟨w.heap.size, 11, none⟩) (Nat.le_refl _) (.int .u32 (crcT 11))).setCell (p := ⟨w.heap.size, 12, none⟩) (Nat.le_refl _) (.int .u32 (crcT 12))).setCell (p := ⟨w.heap.size, 13, none⟩) (Nat.le_refl _) (.int .u32 (crcT 13))).setCell (p := ⟨w.heap.size, 14, none⟩) (Nat.le_refl _) (.int .u32 (crcT 14))).setCell (p := ⟨w.heap.size, 15, none⟩) (Nat.le_refl _) (.int .u32 (crcT 15))
   generalize World.setCell _ _ _ = W16 at g15 hb ⊢
   generalize (Value.agg #[Value.int IntKind.u32 (crcT 0), _, _, _, _, _, _, _, _, _, _, _, _, _, _, _]) = V16
   exact made_end w W16 _ g15 hb rfl
end Go.Proofs.YtppbcankhkgpfaaDoor.PDq
namespace Go.Proofs.YtppbcankhkgpfaaDoor.PDq
open Go.RowKit Go.Proofs.YtppbcankhkgpfaaDoorW.PrintWords Go.Proofs.YtppbcankhkgpfaaDoorW.PrintLast Go.Proofs.YtppbcankhkgpfaaDoorW.PrintMore
attribute [local go_sem] max2_int min2_int max_two min_two max_three min_three max_four min_four   -- for this text's walks alone
attribute [local go_sem high] hw_str_leq hw_str_gtr
set_option linter.unusedVariables false
set_option linter.unusedSimpArgs false
theorem crc_and15 (m : Int) : 0 ≤ bits .and .u32 m 15 ∧ bits .and .u32 m 15 < 16 := by
 have h : (BitVec.ofInt 32 m &&& BitVec.ofInt 32 15).toNat ≤ 15 := by
  rw [BitVec.toNat_and]
  exact Nat.and_le_right
 show 0 ≤ IntKind.u32.wrap ((BitVec.ofInt 32 m &&& BitVec.ofInt 32 15).toNat : Int) ∧ IntKind.u32.wrap ((BitVec.ofInt 32 m &&& BitVec.ofInt 32 15).toNat : Int) < 16
 rw [IntKind.wrap_u32']
 omega
def crcH (n : Int) : Int := bits .xor .u32 (n / 16) (crcT (bits .and .u32 n 15).toNat)
def crcN (n : Int) (c : UInt8) : Int := crcH (crcH (bits .xor .u32 n (c.toNat : Int)))
def sumF (l : List UInt8) : Int := l.foldl crcN 4294967295
def seal_Sum.f (a0 : ByteArray) : Option Int := if a0.size ≤ 9223372036854775807 then some (bits .xor .u32 IntKind.u32.max (sumF a0.data.toList)) else none
set_option maxHeartbeats 2000000 in
set_option maxRecDepth 100000 in
theorem seal_Sum.calls (a0 : ByteArray) (r : Int) (w : World) (h : seal_Sum.f a0 = some r) :
  Calls Tryd.prog 59 #[.string a0] w fun e w' => e = .returned (.int .u32 r) ∧ Below w.heap.size w w' := by
 unfold seal_Sum.f at h
 by_cases hs : a0.size ≤ 9223372036854775807
 ·rw [if_pos hs] at h
  obtain rfl := Option.some.inj h
  clear h
  have hcv : ∀ (s : ByteArray) (W : World), (convert 9 39 (.string s)).run Tryd.prog W = .ok (.slice (some ⟨W.heap.size, 0, none⟩) s.size (grownCap W s.size 0 5)) (Lib.bytesWorld W 5 s) := fun s W => Lib.run_convert_string_bytes W 9 39 5 s Tryd.underlying9 Tryd.underlying39 Tryd.underlying5
  have hsc : ∀ (W : World), (storeCells ⟨W.heap.size, 0, none⟩ (crcCs 16).toList 0).run Tryd.prog (W.alloc (.cells #[.int .u32 0, .int .u32 0, .int .u32 0, .int .u32 0, .int .u32 0, .int .u32 0, .int .u32 0, .int .u32 0, .int .u32 0, .int .u32 0, .int .u32 0, .int .u32 0, .int .u32 0, .int .u32 0, .int .u32 0, .int .u32 0] 118)) = .ok () (W.alloc (.cells (crcCs 16) 118)) := fun W => run_storeCells_new (P := Tryd.prog) W 118 _ (crcCs 16) (by rw [crcCs_size]; kernel_rfl) (by rw [crcCs_size]; rfl) (by unfold crcCs; simp [Value.oneCell'])
  have a118 := Tryd.isAgg118
  have z118 := Tryd.sizeOf118
  have hCs : (crcCs 16).size = 16 := crcCs_size 16
  have hCg : ∀ j : Nat, j < 16 → (crcCs 16)[j]? = some (.int .u32 (crcT j)) := fun j hj => by rw [crcCs_get 16 j hj, if_pos hj]
  have HCG := Aside0.mk hCg
  clear hCg
  generalize hC : crcCs 16 = C at hsc hCs HCG
  have HC := Aside0.mk hC
  clear hC
  go_enter Tryd.func59, Tryd.ntmps59
  go_wp2_with (go_at_call 78; refine (seal_made.calls _).mono ?_; rw [HC.out]; rintro e w1 ⟨rfl, hb1⟩)
  have hb2 : Below w.heap.size w (Lib.bytesWorld (w1.alloc (.cells C 118)) 5 a0) := bytes_below (hb1.alloc hb1.size _) (by have := hb1.size; simp; omega) 5 a0
  have hcell : ∀ j, j < a0.size → (Lib.bytesWorld (w1.alloc (.cells C 118)) 5 a0).cell? ⟨w1.heap.size + 1, j, none⟩ = some (.int .u8 (a0.data.toList.getD j 0).toNat) := fun j hj => by
   have := Lib.bytesWorld_cell (w1.alloc (.cells C 118)) 5 a0 j hj
   rwa [World.size_alloc] at this
  have htab : ∀ j : Nat, j < 16 → (Lib.bytesWorld (w1.alloc (.cells C 118)) 5 a0).cell? ⟨w1.heap.size, j, none⟩ = some (.int .u32 (crcT j)) := fun j hj => by
   rw [Lib.bytesWorld_old _ _ _ _ (by simp), cell_of_row _ _ _ _ _ _ (blk_new w1 (.cells C 118))]
   exact HCG.out j hj
  have hlen : a0.size = a0.data.toList.length := by rw [Array.length_toList]; rfl
  generalize Lib.bytesWorld (w1.alloc (.cells C 118)) 5 a0 = W1 at hb2 hcell htab ⊢
  have HCELL := Aside0.mk hcell
  have HTAB := Aside0.mk htab
  have HLEN := Aside0.mk hlen
  clear hcell htab hlen hsc hcv hCs HCG HC hb1
  go_loopg [4, 11] a0.size (fun gg s4 s11 wr => ∃ k : Nat, k ≤ a0.size ∧ a0.size - k ≤ gg ∧ s4 = .int .u32 (sumF (a0.data.toList.take k)) ∧ s11 = .int .i64 k ∧ wr = W1)
  case atStart => exact ⟨0, Nat.zero_le _, by omega, rfl, rfl, rfl⟩
  case round =>
   obtain ⟨k, hk, hg, rfl, rfl, rfl⟩ := hrel
   by_cases hlt : k < a0.size
   ·have hltz : decide ((k : Int) < (a0.size : Int)) = true := decide_eq_true (by omega)
    have hkz : (0 : Int) ≤ (k : Int) := by omega
    have hkl : (k : Int) < (a0.size : Int) := by omega
    have hc := HCELL.out k hlt
    have hlt' : k < a0.data.toList.length := by rw [← HLEN.out]; exact hlt
    rw [List.getD_eq_getElem?_getD, List.getElem?_eq_getElem hlt', Option.getD_some] at hc
    have hnext : sumF (a0.data.toList.take (k + 1)) = crcN (sumF (a0.data.toList.take k)) (a0.data.toList[k]) := by
     rw [List.take_succ_eq_append_getElem hlt']
     unfold sumF
     rw [List.foldl_append]
     rfl
    unfold crcN at hnext
    have hw32 : IntKind.u32.wrap (((a0.data.toList[k]).toNat : Nat) : Int) = (((a0.data.toList[k]).toNat : Nat) : Int) := by rw [IntKind.wrap_u32']; have := (a0.data.toList[k]).toNat_lt; omega
    generalize a0.data.toList[k] = cb at hc hnext hw32
    generalize sumF (a0.data.toList.take k) = n at hnext ⊢
    obtain ⟨m, hm⟩ : ∃ m, bits .xor .u32 n (cb.toNat : Int) = m := ⟨_, rfl⟩
    obtain ⟨x, hx⟩ : ∃ x, bits .and .u32 m 15 = x := ⟨_, rfl⟩
    have hx15 := crc_and15 m
    rw [hx] at hx15
    obtain ⟨hx0, hx16⟩ := hx15
    have hcx := HTAB.out x.toNat (by omega)
    obtain ⟨p, hp⟩ : ∃ p, bits .xor .u32 (m / 16) (crcT x.toNat) = p := ⟨_, rfl⟩
    obtain ⟨y, hy⟩ : ∃ y, bits .and .u32 p 15 = y := ⟨_, rfl⟩
    have hy15 := crc_and15 p
    rw [hy] at hy15
    obtain ⟨hy0, hy16⟩ := hy15
    have hcy := HTAB.out y.toNat (by omega)
    have hfin : sumF (a0.data.toList.take (k + 1)) = bits .xor .u32 (p / 16) (crcT y.toNat) := by
     rw [hnext, hm]
     unfold crcH
     rw [hx, hp, hy]
    have HFIN := Aside0.mk hfin
    clear hfin hnext
    go_wp2
    go_roundg (a0.size - (k + 1))
    case measure => omega
    case rel => exact ⟨k + 1, by omega, by omega, by rw [HFIN.out], by go_num, rfl⟩
   ·have hltz : decide ((k : Int) < (a0.size : Int)) = false := decide_eq_false (by omega)
    have hkk : a0.data.toList.take k = a0.data.toList := List.take_of_length_le (by rw [← HLEN.out]; omega)
    rw [hkk]
    go_wp2
    go_ret
    exact ⟨rfl, hb2⟩
 ·rw [if_neg hs] at h
  cases h
end Go.Proofs.YtppbcankhkgpfaaDoor.PDq
