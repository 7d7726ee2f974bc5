-- laid by gprint.py (this session's own program) out of the translation: Lean checks it
import Derived.Test.YtppbcankhkgpfaaDoorPDirx0
import Derived.Test.YtppbcankhkgpfaaDoorPDirx3
import Derived.Lib.ConvBytes
import Derived.Deep.WholeRow
import Derived.Laws.BitsAllLaws
import Derived.Outline
--compressed
namespace Go.Proofs.YtppbcankhkgpfaaDoor.PDir
open Go.RowKit Go.Proofs.YtppbcankhkgpfaaDoorW.PrintWords Go.Proofs.YtppbcankhkgpfaaDoorW.PrintLast Go.Proofs.YtppbcankhkgpfaaDoorW.PrintMore
attribute [local go_sem] max2_int min2_int max_two min_two max_three min_three max_four min_four   -- for this text's walks alone
attribute [local go_sem high] hw_str_leq hw_str_gtr
set_option linter.unusedVariables false
set_option linter.unusedSimpArgs false
theorem crc_and15 (m : Int) : 0 ≤ bits .and .u32 m 15 ∧ bits .and .u32 m 15 < 16 := by
 have h : (BitVec.ofInt 32 m &&& BitVec.ofInt 32 15).toNat ≤ 15 := by
  rw [BitVec.toNat_and]
  exact Nat.and_le_right
 show 0 ≤ IntKind.u32.wrap ((BitVec.ofInt 32 m &&& BitVec.ofInt 32 15).toNat : Int) ∧ IntKind.u32.wrap ((BitVec.ofInt 32 m &&& BitVec.ofInt 32 15).toNat : Int) < 16
 rw [IntKind.wrap_u32']
 omega
def crcH (n : Int) : Int := bits .xor .u32 (n / 16) (crcT (bits .and .u32 n 15).toNat)
def crcN (n : Int) (c : UInt8) : Int := crcH (crcH (bits .xor .u32 n (c.toNat : Int)))
def sumF (l : List UInt8) : Int := l.foldl crcN 4294967295
def seal_Sum.f (a0 : ByteArray) : Option Int := if a0.size ≤ 9223372036854775807 then some (bits .xor .u32 IntKind.u32.max (sumF a0.data.toList)) else none
set_option maxHeartbeats 2000000 in
set_option maxRecDepth 100000 in
theorem seal_Sum.calls (a0 : ByteArray) (r : Int) (w : World) (h : seal_Sum.f a0 = some r) :
  Calls Tryd.prog 59 #[.string a0] w fun e w' => e = .returned (.int .u32 r) ∧ Below w.heap.size w w' := by
 unfold seal_Sum.f at h
 by_cases hs : a0.size ≤ 9223372036854775807
 ·rw [if_pos hs] at h
  obtain rfl := Option.some.inj h
  clear h
  have hcv : ∀ (s : ByteArray) (W : World), (convert 9 39 (.string s)).run Tryd.prog W = .ok (.slice (some ⟨W.heap.size, 0, none⟩) s.size (grownCap W s.size 0 5)) (Lib.bytesWorld W 5 s) := fun s W => Lib.run_convert_string_bytes W 9 39 5 s Tryd.underlying9 Tryd.underlying39 Tryd.underlying5
  have hsc : ∀ (W : World), (storeCells ⟨W.heap.size, 0, none⟩ (crcCs 16).toList 0).run Tryd.prog (W.alloc (.cells #[.int .u32 0, .int .u32 0, .int .u32 0, .int .u32 0, .int .u32 0, .int .u32 0, .int .u32 0, .int .u32 0, .int .u32 0, .int .u32 0, .int .u32 0, .int .u32 0, .int .u32 0, .int .u32 0, .int .u32 0, .int .u32 0] 118)) = .ok () (W.alloc (.cells (crcCs 16) 118)) := fun W => run_storeCells_new (P := Tryd.prog) W 118 _ (crcCs 16) (by rw [crcCs_size]; kernel_rfl) (by rw [crcCs_size]; rfl) (by unfold crcCs; simp [Value.oneCell'])
  have a118 := Tryd.isAgg118
  have z118 := Tryd.sizeOf118
  have hCs : (crcCs 16).size = 16 := crcCs_size 16
  have hCg : ∀ j : Nat, j < 16 → (crcCs 16)[j]? = some (.int .u32 (crcT j)) := fun j hj => by rw [crcCs_get 16 j hj, if_pos hj]
  have HCG := Aside0.mk hCg
  clear hCg
  generalize hC : crcCs 16 = C at hsc hCs HCG
  have HC := Aside0.mk hC
  clear hC
  go_enter Tryd.func59, Tryd.ntmps59
  go_wp2_with (go_at_call 78; refine (seal_made.calls _).mono ?_; rw [HC.out]; rintro e w1 ⟨rfl, hb1⟩)
  have hb2 : Below w.heap.size w (Lib.bytesWorld (w1.alloc (.cells C 118)) 5 a0) := bytes_below (hb1.alloc hb1.size _) (by have := hb1.size; simp; omega) 5 a0
  have hcell : ∀ j, j < a0.size → (Lib.bytesWorld (w1.alloc (.cells C 118)) 5 a0).cell? ⟨w1.heap.size + 1, j, none⟩ = some (.int .u8 (a0.data.toList.getD j 0).toNat) := fun j hj => by
   have := Lib.bytesWorld_cell (w1.alloc (.cells C 118)) 5 a0 j hj
   rwa [World.size_alloc] at this
  have htab : ∀ j : Nat, j < 16 → (Lib.bytesWorld (w1.alloc (.cells C 118)) 5 a0).cell? ⟨w1.heap.size, j, none⟩ = some (.int .u32 (crcT j)) := fun j hj => by
   rw [Lib.bytesWorld_old _ _ _ _ (by simp), cell_of_row _ _ _ _ _ _ (blk_new w1 (.cells C 118))]
   exact HCG.out j hj
  have hlen : a0.size = a0.data.toList.length := by rw [Array.length_toList]; rfl
  generalize Lib.bytesWorld (w1.alloc (.cells C 118)) 5 a0 = W1 at hb2 hcell htab ⊢
  have HCELL := Aside0.mk hcell
  have HTAB := Aside0.mk htab
  have HLEN := Aside0.mk hlen
  clear hcell htab hlen hsc hcv hCs HCG HC hb1
  go_loopg [4, 11] a0.size (fun gg s4 s11 wr => ∃ k : Nat, k ≤ a0.size ∧ a0.size - k ≤ gg ∧ s4 = .int .u32 (sumF (a0.data.toList.take k)) ∧ s11 = .int .i64 k ∧ wr = W1)
  case atStart => exact ⟨0, Nat.zero_le _, by omega, rfl, rfl, rfl⟩
  case round =>
   obtain ⟨k, hk, hg, rfl, rfl, rfl⟩ := hrel
   by_cases hlt : k < a0.size
   ·have hltz : decide ((k : Int) < (a0.size : Int)) = true := decide_eq_true (by omega)
    have hkz : (0 : Int) ≤ (k : Int) := by omega
    have hkl : (k : Int) < (a0.size : Int) := by omega
    have hc := HCELL.out k hlt
    have hlt' : k < a0.data.toList.length := by rw [← HLEN.out]; exact hlt
    rw [List.getD_eq_getElem?_getD, List.getElem?_eq_getElem hlt', Option.getD_some] at hc
    have hnext : sumF (a0.data.toList.take (k + 1)) = crcN (sumF (a0.data.toList.take k)) (a0.data.toList[k]) := by
     rw [List.take_succ_eq_append_getElem hlt']
     unfold sumF
     rw [List.foldl_append]
     rfl
    unfold crcN at hnext
    have hw32 : IntKind.u32.wrap (((a0.data.toList[k]).toNat : Nat) : Int) = (((a0.data.toList[k]).toNat : Nat) : Int) := by rw [IntKind.wrap_u32']; have := (a0.data.toList[k]).toNat_lt; omega
    generalize a0.data.toList[k] = cb at hc hnext hw32
    generalize sumF (a0.data.toList.take k) = n at hnext ⊢
    obtain ⟨m, hm⟩ : ∃ m, bits .xor .u32 n (cb.toNat : Int) = m := ⟨_, rfl⟩
    obtain ⟨x, hx⟩ : ∃ x, bits .and .u32 m 15 = x := ⟨_, rfl⟩
    have hx15 := crc_and15 m
    rw [hx] at hx15
    obtain ⟨hx0, hx16⟩ := hx15
    have hcx := HTAB.out x.toNat (by omega)
    obtain ⟨p, hp⟩ : ∃ p, bits .xor .u32 (m / 16) (crcT x.toNat) = p := ⟨_, rfl⟩
    obtain ⟨y, hy⟩ : ∃ y, bits .and .u32 p 15 = y := ⟨_, rfl⟩
    have hy15 := crc_and15 p
    rw [hy] at hy15
    obtain ⟨hy0, hy16⟩ := hy15
    have hcy := HTAB.out y.toNat (by omega)
    have hfin : sumF (a0.data.toList.take (k + 1)) = bits .xor .u32 (p / 16) (crcT y.toNat) := by
     rw [hnext, hm]
     unfold crcH
     rw [hx, hp, hy]
    have HFIN := Aside0.mk hfin
    clear hfin hnext
    go_wp2
    go_roundg (a0.size - (k + 1))
    case measure => omega
    case rel => exact ⟨k + 1, by omega, by omega, by rw [HFIN.out], by go_num, rfl⟩
   ·have hltz : decide ((k : Int) < (a0.size : Int)) = false := decide_eq_false (by omega)
    have hkk : a0.data.toList.take k = a0.data.toList := List.take_of_length_le (by rw [← HLEN.out]; omega)
    rw [hkk]
    go_wp2
    go_ret
    exact ⟨rfl, hb2⟩
 ·rw [if_neg hs] at h
  cases h
end Go.Proofs.YtppbcankhkgpfaaDoor.PDir
