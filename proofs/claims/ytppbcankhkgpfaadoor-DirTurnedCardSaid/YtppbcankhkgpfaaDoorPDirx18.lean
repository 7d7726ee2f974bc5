import Derived.Test.YtppbcankhkgpfaaDoorPDirx0
import Derived.Lib.SlBytesRow
import Derived.Lib.EndianMore
import Derived.Laws.BitsAllLaws
import Derived.Outline
import Derived.Test.YtppbcankhkgpfaaDoorPDirx4
import Derived.Shelf.Strings.BuilderK
import Derived.Test.YtppbcankhkgpfaaDoorLayD
import Derived.Lib.OthersKept
--compressed
namespace Go.Proofs.YtppbcankhkgpfaaDoor.PDir
open Go.RowKit Go.Proofs.YtppbcankhkgpfaaDoorW.PrintWords Go.Proofs.YtppbcankhkgpfaaDoorW.PrintLast Go.Proofs.YtppbcankhkgpfaaDoorW.PrintMore
attribute [local go_sem] max2_int min2_int max_two min_two max_three min_three max_four min_four   -- for this text's walks alone
attribute [local go_sem high] hw_str_leq hw_str_gtr
set_option linter.unusedVariables false
set_option linter.unusedSimpArgs false
def le_Put.f (a0 : Int) (a1 : Int) : Option ByteArray := if 0 ≤ a0 ∧ a0 < 18446744073709551616 then some ⟨(Go.Lib.leBytes (max 0 (min a1 8)).toNat a0.toNat).toArray⟩ else none
def le_Put.cs (v k : Nat) : Array Value := ((List.range 8).map fun j => Value.int .u8 (if j < k then ((v / 256 ^ j % 256 : Nat) : Int) else 0)).toArray
theorem le_Put.cs_get (v k j : Nat) (h : j < 8) : (le_Put.cs v k)[j]? = some (.int .u8 (if j < k then ((v / 256 ^ j % 256 : Nat) : Int) else 0)) := by
 unfold le_Put.cs
 simp [h]
theorem le_Put.cs_set (v k : Nat) (h : k < 8) : (le_Put.cs v k).setIfInBounds k (.int .u8 ((v / 256 ^ k % 256 : Nat) : Int)) = le_Put.cs v (k + 1) := by
 match k, h with
 | 0, _ => rfl
 | 1, _ => rfl
 | 2, _ => rfl
 | 3, _ => rfl
 | 4, _ => rfl
 | 5, _ => rfl
 | 6, _ => rfl
 | 7, _ => rfl
theorem le_Put.leBytes_get : ∀ (k v i : Nat), i < k → (Go.Lib.leBytes k v)[i]? = some ((v / 256 ^ i % 256).toUInt8)
 | 0, _, _, h => absurd h (Nat.not_lt_zero _)
 | k + 1, v, 0, _ => by simp [Go.Lib.leBytes]
 | k + 1, v, i + 1, h => by
  show (Go.Lib.leBytes k (v / 256))[i]? = _
  rw [le_Put.leBytes_get k (v / 256) i (by omega), Nat.div_div_eq_div_mul, Nat.pow_succ, Nat.mul_comm 256]
set_option maxHeartbeats 1000000 in
set_option maxRecDepth 100000 in
theorem le_Put.calls (a0 : Int) (a1 : Int) (r : ByteArray) (w : World) (h : le_Put.f a0 a1 = some r) :
  Calls Tryd.prog 44 #[.int .u64 a0, .int .i64 a1] w fun e w' => e = .returned (.string r) ∧ Below w.heap.size w w' := by
 unfold le_Put.f at h
 by_cases hr : 0 ≤ a0 ∧ a0 < 18446744073709551616
 ·rw [if_pos hr] at h
  obtain rfl := Option.some.inj h
  clear h
  obtain ⟨v, rfl⟩ : ∃ v : Nat, a0 = (v : Int) := ⟨a0.toNat, by omega⟩
  have hv : v < 18446744073709551616 := by omega
  rw [Int.toNat_natCast]
  have HV := Aside0.mk hv
  clear hr hv
  generalize hres : (⟨(Go.Lib.leBytes (max 0 (min a1 8)).toNat v).toArray⟩ : ByteArray) = res
  have HRES := Aside0.mk hres
  clear hres
  have h0 : (w.alloc (.cells #[.int .u8 0, .int .u8 0, .int .u8 0, .int .u8 0, .int .u8 0, .int .u8 0, .int .u8 0, .int .u8 0] 98)).heap[w.heap.size]? = some (.cells (le_Put.cs v 0) 98 (0, 0)) := blk_new w _
  have hb0 : Below w.heap.size w (w.alloc (.cells #[.int .u8 0, .int .u8 0, .int .u8 0, .int .u8 0, .int .u8 0, .int .u8 0, .int .u8 0, .int .u8 0] 98)) := (Below.refl _ w).alloc (Nat.le_refl _) _
  have H0 := Aside0.mk h0
  have HB0 := Aside0.mk hb0
  clear h0 hb0
  go_enter Tryd.func44, Tryd.ntmps44
  go_wp2
  go_loopg [7] 8 (fun gg s7 wr => ∃ k : Nat, k ≤ 8 ∧ 8 - k ≤ gg ∧ s7 = .int .i64 k ∧ Aside0 (wr.heap[w.heap.size]? = some (.cells (le_Put.cs v k) 98 (0, 0))) ∧ Aside0 (Below w.heap.size w wr))
  case atStart => exact ⟨0, by omega, by omega, rfl, H0, HB0⟩
  case round =>
   obtain ⟨k, hk, hg, rfl, HA, HB⟩ := hrel
   by_cases hlt : k < 8
   ·have hltz : decide ((k : Int) < 8) = true := decide_eq_true (by omega)
    have hkz : (0 : Int) ≤ (k : Int) := by omega
    have hk8 : (k : Int) < 8 := by omega
    have hs8 : wrap64 (8 * (k : Int)) = ((8 * k : Nat) : Int) := by unfold wrap64; push_cast; omega
    have hc := blk_cell HA.out k
    have hf := blk_frozen HA.out k
    rw [le_Put.cs_get v k k hlt, if_neg (Nat.lt_irrefl k)] at hc
    have hval : ((v : Int) / 2 ^ (8 * k) % 256) = ((v / 256 ^ k % 256 : Nat) : Int) := by
     rw [show (2 : Int) ^ (8 * k) = ((256 ^ k : Nat) : Int) by rw [show (256 : Nat) = 2 ^ 8 from rfl, ← Nat.pow_mul, Int.natCast_pow]; rfl]
     rfl
    have HVAL := Aside0.mk hval
    clear hval
    go_wp2
    go_roundg (8 - (k + 1))
    case measure => omega
    case rel => exact ⟨k + 1, by omega, by omega, by go_num, ⟨by rw [HVAL.out]; exact blk_put HA.out k _ (le_Put.cs_set v k hlt)⟩, ⟨HB.out.setCell (Nat.le_refl _) _⟩⟩
   ·have hltz : decide ((k : Int) < 8) = false := decide_eq_false (by omega)
    have hkk : k = 8 := by omega
    subst hkk
    have hcv : ∀ n : Nat, n ≤ 8 → (max 0 (min a1 8)).toNat = n → (convert 39 9 (.slice (some ⟨w.heap.size, 0, none⟩) n 8)).run Tryd.prog wr = .ok (.string res) wr := by
     intro n hn8 hnz
     have hresn : res = ⟨(Go.Lib.leBytes n v).toArray⟩ := by rw [← HRES.out, hnz]
     have hsz : res.size = n := by rw [hresn]; show (Go.Lib.leBytes n v).toArray.size = n; simp [Go.Lib.leBytes_length]
     have hby : Lib.Bytes wr w.heap.size 0 res := fun i hi => by
      have hi' : i < n := by omega
      rw [Nat.zero_add, blk_cell HA.out i, le_Put.cs_get v 8 i (by omega), if_pos (by omega)]
      have hg : (Go.Lib.leBytes n v)[i]? = some ((v / 256 ^ i % 256).toUInt8) := le_Put.leBytes_get n v i hi'
      have hg2 : res[i] = (v / 256 ^ i % 256).toUInt8 := by
       subst hresn
       have := List.getElem?_eq_some_iff.1 hg
       obtain ⟨q, hq⟩ := this
       exact hq
      rw [hg2, Go.Lib.toUInt8_mod]
     have hcv := Lib.run_convert_whole (P := Tryd.prog) wr 39 5 9 Tryd.underlying39 Tryd.underlying5 Tryd.underlying9 w.heap.size 0 res hby 8
     rw [hsz] at hcv
     exact hcv
    rcases (show a1 ≤ 0 ∨ (1 ≤ a1 ∧ a1 ≤ 8) ∨ 8 < a1 by omega) with hc | ⟨hc1, hc2⟩ | hc
    ·have hcv0 := hcv 0 (by omega) (by omega)
     clear hcv
     go_wp2
     go_ret
     exact ⟨rfl, HB.out⟩
    ·obtain ⟨n, rfl⟩ : ∃ n : Nat, a1 = (n : Int) := ⟨a1.toNat, by omega⟩
     have hcv0 := hcv n (by omega) (by omega)
     clear hcv
     go_wp2
     go_ret
     exact ⟨rfl, HB.out⟩
    ·have hcv0 := hcv 8 (by omega) (by omega)
     clear hcv
     go_wp2
     go_ret
     exact ⟨rfl, HB.out⟩
 ·rw [if_neg hr] at h
  cases h
end Go.Proofs.YtppbcankhkgpfaaDoor.PDir
namespace Go.Proofs.YtppbcankhkgpfaaDoor.PDir
open Go.RowKit Go.Proofs.YtppbcankhkgpfaaDoorW.PrintWords Go.Proofs.YtppbcankhkgpfaaDoorW.PrintLast Go.Proofs.YtppbcankhkgpfaaDoorW.PrintMore
attribute [local go_sem] max2_int min2_int max_two min_two max_three min_three max_four min_four   -- for this text's walks alone
attribute [local go_sem high] hw_str_leq hw_str_gtr
set_option linter.unusedVariables false
set_option linter.unusedSimpArgs false
def seal_Put.f (a0 : ByteArray) : Option (ByteArray) := (seal_Sum.f a0).bind fun t167 => ((le_Put.f (IntKind.u64.wrap (t167)) 4).bind fun t168 => (if a0.size + t168.size ≤ 9223372036854775807 then (some (a0 ++ t168)) else (none)))
set_option maxHeartbeats 8000000 in
set_option maxRecDepth 100000 in
theorem seal_Put.calls (a0 : ByteArray) (r : ByteArray) (w : World) (h : seal_Put.f a0 = some r) :
  Calls Tryd.prog 45 #[.string a0] w fun e w' => e = .returned (.string r) ∧ Below w.heap.size w w' := by
 have HB := Aside0.mk (Below.refl w.heap.size w)
 have H : ((seal_Sum.f a0).bind fun t167 => ((le_Put.f (IntKind.u64.wrap (t167)) 4).bind fun t168 => (if a0.size + t168.size ≤ 9223372036854775807 then (some (a0 ++ t168)) else (none)))) = some r := h
 clear h
 replace H := Option.bind_eq_some_iff.mp H
 obtain ⟨t167, A20, H⟩ := H
 replace H : ((le_Put.f (IntKind.u64.wrap (t167)) 4).bind fun t168 => (if a0.size + t168.size ≤ 9223372036854775807 then (some (a0 ++ t168)) else (none))) = some r := H
 have A2 := Aside0.mk A20
 clear A20
 replace H := Option.bind_eq_some_iff.mp H
 obtain ⟨t168, A30, H⟩ := H
 replace H : (if a0.size + t168.size ≤ 9223372036854775807 then (some (a0 ++ t168)) else (none)) = some r := H
 have A3 := Aside0.mk A30
 clear A30
 by_cases c4 : a0.size + t168.size ≤ 9223372036854775807
 ·rw [if_pos c4] at H
  have c4b0 := eq_true c4
  have c4b1 : decide (a0.size + t168.size ≤ 9223372036854775807) = true := decide_eq_true c4
  try have c4b2 : (9223372036854775807 < a0.size + t168.size) = False := eq_false (Nat.not_lt.2 c4)
  obtain rfl := Option.some.inj H
  go_enter Tryd.func45, Tryd.ntmps45
  go_wp2_with (first | ((with_reducible refine gate_callee (f := 59) rfl ?_); refine goesL_ (some 5) rfl rfl Tryd.func59 (by kernel_rfl) rfl #[.string a0] rfl argA ?_; (with_reducible refine (seal_Sum.calls a0 t167 _ A2.out).mono ?_); rintro e w5 ⟨rfl, hb⟩; refine ⟨_, rfl, ?_⟩; have n0_ := Aside0.mk (below_step belA hb); clear HB; have HB := n0_; clear n0_; (try clear hb); (try clear hb2); (try clear hk); (try clear hi)) | ((with_reducible refine gate_callee (f := 44) rfl ?_); refine goesL_ (some 7) rfl rfl Tryd.func44 (by kernel_rfl) rfl #[.int .u64 (IntKind.u64.wrap (t167)), .int .i64 4] rfl argA ?_; (with_reducible refine (le_Put.calls (IntKind.u64.wrap (t167)) 4 t168 _ A3.out).mono ?_); rintro e w6 ⟨rfl, hb⟩; refine ⟨_, rfl, ?_⟩; have n0_ := Aside0.mk (below_step belA hb); clear HB; have HB := n0_; clear n0_; (try clear hb); (try clear hb2); (try clear hk); (try clear hi)))
  go_ret
  exact ⟨by first | rfl | (simp [errW_none, errW_some] <;> rfl) | (simp [*, errW_none, errW_some] <;> rfl), by repeat (first | (with_reducible first | exact HB.out | apply below_alloc | apply pw_below_drewN | apply below_drew1) | exact HB.out)⟩
 ·rw [if_neg c4] at H
  exact absurd H (by simp)
end Go.Proofs.YtppbcankhkgpfaaDoor.PDir
namespace Go.Proofs.YtppbcankhkgpfaaDoor.PDir
open Go.RowKit Go.Proofs.YtppbcankhkgpfaaDoorW.PrintWords Go.Proofs.YtppbcankhkgpfaaDoorW.PrintLast Go.Proofs.YtppbcankhkgpfaaDoorW.PrintMore
attribute [local go_sem] max2_int min2_int max_two min_two max_three min_three max_four min_four   -- for this text's walks alone
attribute [local go_sem high] hw_str_leq hw_str_gtr
set_option linter.unusedVariables false
set_option linter.unusedSimpArgs false
open Go.Shelf in
def layWS_ren : Go.Shelf.Ren := ⟨fun | 166 => 43 | 240 => 63 | 276 => 82 | n => n, fun | 70 => 77 | 9 => 9 | 0 => 0 | 72 => 79 | 37 => 39 | 3 => 3 | 4 => 4 | 5 => 5 | 20 => 20 | 75 => 81 | 80 => 85 | 164 => 121 | n => n, fun n => n⟩
theorem layWS : Go.Proofs.Lays.n166 Tryd.prog layWS_ren := {
 mixed := by kernel_rfl
 f166 := Tryd.func43.trans (congrArg some (by kernel_rfl))
 f240 := Tryd.func63.trans (congrArg some (by kernel_rfl))
 f276 := Tryd.func82.trans (congrArg some (by kernel_rfl))
 t0 := Tryd.underlying0
 a0 := Tryd.isAgg0
 z0 := Tryd.sizeOf0
 v0 := Tryd.zeroValue0
 t3 := Tryd.underlying3
 a3 := Tryd.isAgg3
 z3 := Tryd.sizeOf3
 v3 := Tryd.zeroValue3
 t4 := Tryd.underlying4
 a4 := Tryd.isAgg4
 z4 := Tryd.sizeOf4
 v4 := Tryd.zeroValue4
 t9 := Tryd.underlying9
 a9 := Tryd.isAgg9
 z9 := Tryd.sizeOf9
 v9 := Tryd.zeroValue9
 t20 := Tryd.underlying20
 a20 := Tryd.isAgg20
 z20 := Tryd.sizeOf20
 v20 := Tryd.zeroValue20
 t37 := Tryd.underlying39
 a37 := Tryd.isAgg39
 z37 := Tryd.sizeOf39
 v37 := Tryd.zeroValue39
 t70 := Tryd.underlying77
 a70 := Tryd.isAgg77
 z70 := Tryd.sizeOf77
 v70 := Tryd.zeroValue77
 t72 := Tryd.underlying79
 a72 := Tryd.isAgg79
 z72 := Tryd.sizeOf79
 v72 := Tryd.zeroValue79
 t75 := Tryd.underlying81
 a75 := Tryd.isAgg81
 z75 := Tryd.sizeOf81
 v75 := Tryd.zeroValue81
 t164 := Tryd.underlying121
 a164 := Tryd.isAgg121
 z164 := Tryd.sizeOf121
 v164 := Tryd.zeroValue121 }
theorem extraWS : Go.Proofs.Builder.Extra Tryd.prog layWS_ren where
 sizeBuilder := by kernel_rfl
 liesBuilder := by kernel_rfl
 t5 := Tryd.underlying5
 a5 := Tryd.isAgg5
 z5 := Tryd.sizeOf5
 v5 := Tryd.zeroValue5
 infoByte := by kernel_rfl
 cellsByte := by kernel_rfl
 sizeByte := by kernel_rfl
 neB5 := by decide
theorem extraStr : Go.Proofs.Builder.Extra Tryd.prog Tryd.layStr_ren where
 sizeBuilder := by kernel_rfl
 liesBuilder := by kernel_rfl
 t5 := Tryd.underlying5
 a5 := Tryd.isAgg5
 z5 := Tryd.sizeOf5
 v5 := Tryd.zeroValue5
 infoByte := by kernel_rfl
 cellsByte := by kernel_rfl
 sizeByte := by kernel_rfl
 neB5 := by decide
end Go.Proofs.YtppbcankhkgpfaaDoor.PDir
namespace Go.Proofs.YtppbcankhkgpfaaDoor.PDir
open Go.RowKit Go.Proofs.YtppbcankhkgpfaaDoorW.PrintWords Go.Proofs.YtppbcankhkgpfaaDoorW.PrintLast Go.Proofs.YtppbcankhkgpfaaDoorW.PrintMore
attribute [local go_sem] max2_int min2_int max_two min_two max_three min_three max_four min_four   -- for this text's walks alone
attribute [local go_sem high] hw_str_leq hw_str_gtr
set_option linter.unusedVariables false
set_option linter.unusedSimpArgs false
theorem bf_below {T e : TypeId} {B b : Nat} {bs : List Value} {W W' : World} (h : Lib.IsBuilderF T e B b bs W) (hb : Below W.heap.size W W') : Lib.IsBuilderF T e B b bs W' := by
 have one : ∀ p, Lib.BuilderAtF T e B b p bs W → Lib.BuilderAtF T e B b p bs W' := fun p h => by
  have hlt := h.lt
  obtain ⟨hB, v, hv, hown, hne⟩ := h
  exact ⟨hB, v, (hb.block b hlt).trans hv, hown.kept (grown_of_below hb none) (Classical.em _), hne⟩
 exact h.elim (fun x => .inl (one _ x)) (fun x => .inr (one _ x))
theorem others_below {e : TypeId} {b : Option Nat} {W W' : World} (hb : Below W.heap.size W W') : Lib.OthersKept e b W W' := fun k o ho _ _ => (hb.block k (blk_lt ho)).trans ho
def numL (n : Int) (m : Nat) : List UInt8 := Go.Lib.leBytes m (IntKind.u64.wrap n).toNat
theorem numL_length (n : Int) (m : Nat) : (numL n m).length = m := Go.Lib.leBytes_length _ _
theorem numL_put (n : Int) (m : Nat) (hm : m ≤ 8) : le_Put.f (IntKind.u64.wrap n) (m : Int) = some ⟨(numL n m).toArray⟩ := by
 unfold le_Put.f numL
 rw [if_pos (by rw [IntKind.wrap_u64]; omega), show (max (0 : Int) (min (m : Int) 8)).toNat = m by omega]
theorem strCells_ofList (l : List UInt8) : Lib.strCells ⟨l.toArray⟩ = Lib.byteCells l := by
 simp [Lib.strCells, Lib.byteCells]
set_option maxHeartbeats 1000000 in
set_option maxRecDepth 100000 in
theorem dir_Put_1.calls (n : Int) (mz : Int) (m : Nat) (hmz : mz = (m : Int)) (hm : m ≤ 8) (B b : Nat) (acc : List UInt8) (W : World) (h : Lib.IsBuilderF 79 5 B b (Lib.byteCells acc) W) (hlen : acc.length + m ≤ 140737488355328) (hBw : B ≤ W.heap.size) :
  Calls Tryd.prog 42 #[.int .i64 n, .int .i64 mz, .pointer (some ⟨b, 0, none⟩)] W fun e w' => e = .returned (.tuple #[]) ∧ Lib.IsBuilderF 79 5 B b (Lib.byteCells (acc ++ numL n m)) w' ∧ Below B W w' ∧ Lib.OthersKept 5 (some b) W w' := by
 subst hmz
 have hp := numL_put n m hm
 have hws : ∀ W1, Below W.heap.size W W1 → Calls Tryd.prog 43 #[.pointer (some ⟨b, 0, none⟩), .string ⟨(numL n m).toArray⟩] W1 _ := fun W1 hb =>
  Any.Builder_WriteString_k layWS extraWS B b (Lib.byteCells acc) ⟨(numL n m).toArray⟩ W1 (bf_below h hb) (by rw [Lib.byteCells_length]; show acc.length + (numL n m).toArray.size ≤ _; rw [List.size_toArray, numL_length]; exact hlen) (Nat.le_trans hBw hb.size)
 go_enter Tryd.func42, Tryd.ntmps42
 go_wp2_with (first | (go_at_call 44; refine (le_Put.calls _ _ _ _ hp).mono ?_; rintro e w1 ⟨rfl, hb1⟩) | (go_at_call 43; refine (hws _ hb1).mono ?_; rintro e w2 ⟨rfl, h2, b2, k2⟩))
 go_end0
 refine ⟨rfl, ?_, (hb1.mono hBw).trans b2, (others_below hb1).trans k2⟩
 rw [Lib.byteCells_append, ← strCells_ofList]
 exact .inr h2
theorem builder_WS.calls (B b : Nat) (acc : List UInt8) (s : ByteArray) (W : World) (h : Lib.IsBuilderF 79 5 B b (Lib.byteCells acc) W) (hlen : acc.length + s.size ≤ 140737488355328) (hBw : B ≤ W.heap.size) :
  Calls Tryd.prog 43 #[.pointer (some ⟨b, 0, none⟩), .string s] W fun e w' => e = .returned (.tuple #[.int .i64 s.size, .nilIface]) ∧ Lib.IsBuilderF 79 5 B b (Lib.byteCells (acc ++ s.data.toList)) w' ∧ Below B W w' ∧ Lib.OthersKept 5 (some b) W w' := by
 refine (Any.Builder_WriteString_k layWS extraWS B b (Lib.byteCells acc) s W h (by rw [Lib.byteCells_length]; exact hlen) hBw).mono ?_
 rintro e w' ⟨rfl, h2, b2, k2⟩
 refine ⟨rfl, ?_, b2, k2⟩
 rw [Lib.byteCells_append]
 exact .inr h2
theorem builder_S.calls (B b : Nat) (l : List UInt8) (W : World) (h : Lib.IsBuilderF 79 5 B b (Lib.byteCells l) W) (hBw : B ≤ W.heap.size) :
  Calls Tryd.prog 46 #[.pointer (some ⟨b, 0, none⟩)] W fun e w' => e = .returned (.string ⟨l.toArray⟩) ∧ Below B W w' := by
 refine (Any.Builder_String_any_k Tryd.layStr extraStr B b l W h hBw).mono ?_
 rintro e w' ⟨rfl, h2, b2, k2⟩
 exact ⟨rfl, b2⟩
theorem bf_lt {T e : TypeId} {B b : Nat} {bs : List Value} {W : World} (h : Lib.IsBuilderF T e B b bs W) : b < W.heap.size := h.elim (fun x => x.lt) (fun x => x.lt)
def spanL (s : S64) : List UInt8 := numL s.f0 2 ++ numL s.f1 2
def fileL (f : S43) : List UInt8 := numL (f.f0.size : Int) 1 ++ (f.f0.data.toList ++ (numL f.f1 4 ++ (numL (f.f2.length : Int) 1 ++ f.f2.flatMap spanL)))
def dirL (l : List S43) : List UInt8 := numL (l.length : Int) 1 ++ l.flatMap fileL
end Go.Proofs.YtppbcankhkgpfaaDoor.PDir
