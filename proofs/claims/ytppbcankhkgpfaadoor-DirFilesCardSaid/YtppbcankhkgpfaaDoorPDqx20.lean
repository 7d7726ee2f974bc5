import Derived.Test.YtppbcankhkgpfaaDoorPDqx0
import Derived.Test.YtppbcankhkgpfaaDoorPDqx17
import Derived.Lib.OthersKept
import Derived.Outline
import Derived.Test.YtppbcankhkgpfaaDoorPDqx12
import Derived.Test.YtppbcankhkgpfaaDoorPDqx5
--compressed
namespace Go.Proofs.YtppbcankhkgpfaaDoor.PDq
open Go.RowKit Go.Proofs.YtppbcankhkgpfaaDoorW.PrintWords Go.Proofs.YtppbcankhkgpfaaDoorW.PrintLast Go.Proofs.YtppbcankhkgpfaaDoorW.PrintMore
attribute [local go_sem] max2_int min2_int max_two min_two max_three min_three max_four min_four   -- for this text's walks alone
attribute [local go_sem high] hw_str_leq hw_str_gtr
set_option linter.unusedVariables false
set_option linter.unusedSimpArgs false
theorem bf_below {T e : TypeId} {B b : Nat} {bs : List Value} {W W' : World} (h : Lib.IsBuilderF T e B b bs W) (hb : Below W.heap.size W W') : Lib.IsBuilderF T e B b bs W' := by
 have one : ∀ p, Lib.BuilderAtF T e B b p bs W → Lib.BuilderAtF T e B b p bs W' := fun p h => by
  have hlt := h.lt
  obtain ⟨hB, v, hv, hown, hne⟩ := h
  exact ⟨hB, v, (hb.block b hlt).trans hv, hown.kept (grown_of_below hb none) (Classical.em _), hne⟩
 exact h.elim (fun x => .inl (one _ x)) (fun x => .inr (one _ x))
theorem others_below {e : TypeId} {b : Option Nat} {W W' : World} (hb : Below W.heap.size W W') : Lib.OthersKept e b W W' := fun k o ho _ _ => (hb.block k (blk_lt ho)).trans ho
def numL (n : Int) (m : Nat) : List UInt8 := Go.Lib.leBytes m (IntKind.u64.wrap n).toNat
theorem numL_length (n : Int) (m : Nat) : (numL n m).length = m := Go.Lib.leBytes_length _ _
theorem numL_put (n : Int) (m : Nat) (hm : m ≤ 8) : le_Put.f (IntKind.u64.wrap n) (m : Int) = some ⟨(numL n m).toArray⟩ := by
 unfold le_Put.f numL
 rw [if_pos (by rw [IntKind.wrap_u64]; omega), show (max (0 : Int) (min (m : Int) 8)).toNat = m by omega]
theorem strCells_ofList (l : List UInt8) : Lib.strCells ⟨l.toArray⟩ = Lib.byteCells l := by
 simp [Lib.strCells, Lib.byteCells]
set_option maxHeartbeats 1000000 in
set_option maxRecDepth 100000 in
theorem dir_Put_1.calls (n : Int) (mz : Int) (m : Nat) (hmz : mz = (m : Int)) (hm : m ≤ 8) (B b : Nat) (acc : List UInt8) (W : World) (h : Lib.IsBuilderF 79 5 B b (Lib.byteCells acc) W) (hlen : acc.length + m ≤ 140737488355328) (hBw : B ≤ W.heap.size) :
  Calls Tryd.prog 42 #[.int .i64 n, .int .i64 mz, .pointer (some ⟨b, 0, none⟩)] W fun e w' => e = .returned (.tuple #[]) ∧ Lib.IsBuilderF 79 5 B b (Lib.byteCells (acc ++ numL n m)) w' ∧ Below B W w' ∧ Lib.OthersKept 5 (some b) W w' := by
 subst hmz
 have hp := numL_put n m hm
 have hws : ∀ W1, Below W.heap.size W W1 → Calls Tryd.prog 43 #[.pointer (some ⟨b, 0, none⟩), .string ⟨(numL n m).toArray⟩] W1 _ := fun W1 hb =>
  Any.Builder_WriteString_k layWS extraWS B b (Lib.byteCells acc) ⟨(numL n m).toArray⟩ W1 (bf_below h hb) (by rw [Lib.byteCells_length]; show acc.length + (numL n m).toArray.size ≤ _; rw [List.size_toArray, numL_length]; exact hlen) (Nat.le_trans hBw hb.size)
 go_enter Tryd.func42, Tryd.ntmps42
 go_wp2_with (first | (go_at_call 44; refine (le_Put.calls _ _ _ _ hp).mono ?_; rintro e w1 ⟨rfl, hb1⟩) | (go_at_call 43; refine (hws _ hb1).mono ?_; rintro e w2 ⟨rfl, h2, b2, k2⟩))
 go_end0
 refine ⟨rfl, ?_, (hb1.mono hBw).trans b2, (others_below hb1).trans k2⟩
 rw [Lib.byteCells_append, ← strCells_ofList]
 exact .inr h2
theorem builder_WS.calls (B b : Nat) (acc : List UInt8) (s : ByteArray) (W : World) (h : Lib.IsBuilderF 79 5 B b (Lib.byteCells acc) W) (hlen : acc.length + s.size ≤ 140737488355328) (hBw : B ≤ W.heap.size) :
  Calls Tryd.prog 43 #[.pointer (some ⟨b, 0, none⟩), .string s] W fun e w' => e = .returned (.tuple #[.int .i64 s.size, .nilIface]) ∧ Lib.IsBuilderF 79 5 B b (Lib.byteCells (acc ++ s.data.toList)) w' ∧ Below B W w' ∧ Lib.OthersKept 5 (some b) W w' := by
 refine (Any.Builder_WriteString_k layWS extraWS B b (Lib.byteCells acc) s W h (by rw [Lib.byteCells_length]; exact hlen) hBw).mono ?_
 rintro e w' ⟨rfl, h2, b2, k2⟩
 refine ⟨rfl, ?_, b2, k2⟩
 rw [Lib.byteCells_append]
 exact .inr h2
theorem builder_S.calls (B b : Nat) (l : List UInt8) (W : World) (h : Lib.IsBuilderF 79 5 B b (Lib.byteCells l) W) (hBw : B ≤ W.heap.size) :
  Calls Tryd.prog 46 #[.pointer (some ⟨b, 0, none⟩)] W fun e w' => e = .returned (.string ⟨l.toArray⟩) ∧ Below B W w' := by
 refine (Any.Builder_String_any_k Tryd.layStr extraStr B b l W h hBw).mono ?_
 rintro e w' ⟨rfl, h2, b2, k2⟩
 exact ⟨rfl, b2⟩
theorem bf_lt {T e : TypeId} {B b : Nat} {bs : List Value} {W : World} (h : Lib.IsBuilderF T e B b bs W) : b < W.heap.size := h.elim (fun x => x.lt) (fun x => x.lt)
def spanL (s : S64) : List UInt8 := numL s.f0 2 ++ numL s.f1 2
def fileL (f : S43) : List UInt8 := numL (f.f0.size : Int) 1 ++ (f.f0.data.toList ++ (numL f.f1 4 ++ (numL (f.f2.length : Int) 1 ++ f.f2.flatMap spanL)))
def dirL (l : List S43) : List UInt8 := numL (l.length : Int) 1 ++ l.flatMap fileL
end Go.Proofs.YtppbcankhkgpfaaDoor.PDq
namespace Go.Proofs.YtppbcankhkgpfaaDoor.PDq
open Go.RowKit Go.Proofs.YtppbcankhkgpfaaDoorW.PrintWords Go.Proofs.YtppbcankhkgpfaaDoorW.PrintLast Go.Proofs.YtppbcankhkgpfaaDoorW.PrintMore
attribute [local go_sem] max2_int min2_int max_two min_two max_three min_three max_four min_four   -- for this text's walks alone
attribute [local go_sem high] hw_str_leq hw_str_gtr
set_option linter.unusedVariables false
set_option linter.unusedSimpArgs false
def dir_Put.f (k : Nat) (l0 : List S43) : Option (ByteArray × Int) := (dir_directory.f k l0).bind fun d => if d = true then (if (dirL l0).length ≤ 140737488355328 then (seal_Put.f ⟨(dirL l0).toArray⟩).bind fun t => some (t, 0) else none) else some ((⟨#[]⟩ : ByteArray), 1)
theorem lenA {M : Nat} (acc : List UInt8) {x : S43} (n : Int) (h : acc.length + (fileL x).length ≤ M) (hf : (fileL x).length = 1 + (x.f0.size + (4 + (1 + (x.f2.flatMap spanL).length)))) : (acc ++ numL n 1).length + x.f0.size ≤ M := by
 rw [List.length_append, numL_length]
 omega
theorem lenB {M : Nat} (acc : List UInt8) {x : S43} (n : Int) (h : acc.length + (fileL x).length ≤ M) (hf : (fileL x).length = 1 + (x.f0.size + (4 + (1 + (x.f2.flatMap spanL).length)))) : (acc ++ numL n 1 ++ x.f0.data.toList).length + 4 ≤ M := by
 have : x.f0.data.size = x.f0.size := rfl
 simp only [List.length_append, numL_length, Array.length_toList]
 omega
theorem lenC {M : Nat} (acc : List UInt8) {x : S43} (n : Int) {m : Int} (h : acc.length + (fileL x).length ≤ M) (hf : (fileL x).length = 1 + (x.f0.size + (4 + (1 + (x.f2.flatMap spanL).length)))) : (acc ++ numL n 1 ++ x.f0.data.toList ++ numL m 4).length + 1 ≤ M := by
 have : x.f0.data.size = x.f0.size := rfl
 simp only [List.length_append, numL_length, Array.length_toList]
 omega
set_option maxHeartbeats 4000000 in
set_option maxRecDepth 100000 in
theorem dir_Put.calls (k : Nat) (A0 : Option Addr) (c0 : Nat) (l0 : List S43) (r1 : ByteArray) (r2 : Int) (w : World) (hr0 : Kd.C k43 w A0 l0.length l0) (hc0 : l0.length ≤ c0) (ht : TabsW w) (h : dir_Put.f k l0 = some (r1, r2)) :
  Calls Tryd.prog 16 #[.slice A0 l0.length c0] w fun e w' => e = .returned (.tuple #[.string r1, .int .i64 r2]) ∧ Below w.heap.size w w' := by
 unfold dir_Put.f at h
 obtain ⟨d, hd, h⟩ := Option.bind_eq_some_iff.1 h
 have hbig : l0.length ≤ 9223372036854775807 := hr0.2.1
 have HD := Aside0.mk (dir_directory.calls k A0 c0 l0 d w hr0 hc0 ht hd)
 have HR0 := Aside0.mk hr0
 clear hr0 hc0 ht hd
 cases d with
 | false =>
  rw [if_neg Bool.false_ne_true] at h
  obtain ⟨rfl, rfl⟩ := Prod.mk.inj (Option.some.inj h)
  clear h
  go_enter Tryd.func16, Tryd.ntmps16
  go_wp2_with (go_at_call 38; refine HD.out.mono ?_; rintro e w1 ⟨rfl, hb1⟩)
  go_ret2
  exact ⟨rfl, hb1⟩
 | true =>
  rw [if_pos rfl] at h
  by_cases hl : (dirL l0).length ≤ 140737488355328
  ·rw [if_pos hl] at h
   obtain ⟨t, hseal, h⟩ := Option.bind_eq_some_iff.1 h
   obtain ⟨rfl, rfl⟩ := Prod.mk.inj (Option.some.inj h)
   have HL := Aside0.mk hl
   clear h hl
   go_enter Tryd.func16, Tryd.ntmps16
   go_wp2_with (first | (go_at_call 38; refine HD.out.mono ?_; rintro e w1 ⟨rfl, hb1⟩; have HB1 := Aside0.mk hb1; clear hb1) | (go_at_call 42; (refine (dir_Put_1.calls (l0.length : Int) 1 1 rfl (by decide) w1.heap.size w1.heap.size [] _ (Lib.IsBuilderF.of (Lib.fresh_isBuilder 79 5 w1)) (by simp) (by simp)).mono ?_; rintro e w2 ⟨rfl, h2, b2, k2⟩)))
   have HBF0 := Aside0.mk h2
   have HBW0 := Aside0.mk (Below.trans ((Below.refl w1.heap.size w1).alloc (Nat.le_refl _) _) b2)
   clear h2 b2 k2
   go_loopg [20] l0.length (fun gg s20 wr => ∃ i : Nat, i ≤ l0.length ∧ l0.length - i ≤ gg ∧ s20 = .int .i64 i ∧ Aside0 (Lib.IsBuilderF 79 5 w1.heap.size w1.heap.size (Lib.byteCells (numL (l0.length : Int) 1 ++ (l0.take i).flatMap fileL)) wr) ∧ Aside0 (Below w1.heap.size w1 wr))
   case atStart => exact ⟨0, Nat.zero_le _, by omega, rfl, ⟨by simpa using HBF0.out⟩, HBW0⟩
   case round =>
    clear HBF0 HBW0
    obtain ⟨i, hi, hg, rfl, HBF, HBW⟩ := hrel
    by_cases hlt : i < l0.length
    ·have hltz : (i : Int) < (l0.length : Int) := by omega
     obtain ⟨ad, A2, c2, e0, hx0, hx1, hx2, hl2, hi2⟩ := at_T43 HR0.out (i : Int) (by omega) hltz
     cases e0
     have hbw := (HB1.out.trans (Below.mono HBW.out (below_size HB1.out)))
     have hrd : rd_T43 l0 (i : Int) = l0[i] := by simp [rd_T43, List.getD_eq_getElem?_getD, hlt]
     rw [hrd] at hx0 hx1 hx2 hl2 hi2
     simp only [Int.toNat_natCast] at hx0 hx1 hx2
     replace hx0 := (hbw.cell (World.block_lt_of_cell? w _ hx0)).trans hx0
     replace hx1 := (hbw.cell (World.block_lt_of_cell? w _ hx1)).trans hx1
     replace hx2 := (hbw.cell (World.block_lt_of_cell? w _ hx2)).trans hx2
     have HC2 := Aside0.mk hi2
     have HB := Aside0.mk hbw
     clear hi2 hbw hrd
     have hacc : (l0.take (i + 1)).flatMap fileL = (l0.take i).flatMap fileL ++ fileL l0[i] := by
      rw [List.take_succ_eq_append_getElem hlt, List.flatMap_append]
      show _ ++ (fileL l0[i] ++ []) = _
      rw [List.append_nil]
     have HACC := Aside0.mk hacc
     clear hacc
     have hle : (numL (l0.length : Int) 1 ++ (l0.take i).flatMap fileL).length + (fileL l0[i]).length ≤ 140737488355328 := by
      have h1 := HL.out
      unfold dirL at h1
      have h2 : l0.flatMap fileL = (l0.take (i + 1)).flatMap fileL ++ (l0.drop (i + 1)).flatMap fileL := by rw [← List.flatMap_append, List.take_append_drop]
      rw [h2, HACC.out] at h1
      simp only [List.length_append] at h1 ⊢
      omega
     have HLE := Aside0.mk hle
     clear hle
     obtain ⟨acc, hac⟩ : ∃ a, a = numL (l0.length : Int) 1 ++ (l0.take i).flatMap fileL := ⟨_, rfl⟩
     rw [← hac] at HBF HLE
     have HAC := Aside0.mk hac
     clear hac
     generalize l0[i] = x at hx0 hx1 hx2 hl2 HC2 HACC HLE
     have hblt := bf_lt HBF.out
     have hfl : (fileL x).length = 1 + (x.f0.size + (4 + (1 + (x.f2.flatMap spanL).length))) := by
      unfold fileL
      simp only [List.length_append, numL_length, Array.length_toList]
      rfl
     have HFL := Aside0.mk hfl
     clear hfl
     go_wp2_with (first | (go_at_call 42; ((with_reducible refine (dir_Put_1.calls (x.f0.size : Int) 1 1 rfl (by decide) w1.heap.size w1.heap.size acc _ (bf_below HBF.out ((Below.refl _ wr).alloc (Nat.le_refl _) _)) (by have := HLE.out; have := HFL.out; omega) (by simp; omega)).mono ?_); rintro e w3 ⟨rfl, h3, b3, k3⟩; have hF3 := k3 wr.heap.size _ (blk_new wr _) (fun e_ => absurd (Option.some.inj e_) (by omega)) (fun c fz e_ => by injection e_ with _ e2_ _; exact absurd e2_ (by decide)); have hc30 := blk_cell hF3 0; have hc31 := blk_cell hF3 1; have hc32 := blk_cell hF3 2)) | (go_at_call 43; ((with_reducible refine (builder_WS.calls w1.heap.size w1.heap.size _ x.f0 w3 h3 (lenA acc _ HLE.out HFL.out) (Nat.le_of_lt (bf_lt h3))).mono ?_); rintro e w4 ⟨rfl, h4, b4, k4⟩; have hF4 := k4 wr.heap.size _ hF3 (fun e_ => absurd (Option.some.inj e_) (by omega)) (fun c fz e_ => by injection e_ with _ e2_ _; exact absurd e2_ (by decide)); have hc40 := blk_cell hF4 0; have hc41 := blk_cell hF4 1; have hc42 := blk_cell hF4 2)) | (go_at_call 42; ((with_reducible refine (dir_Put_1.calls x.f1 4 4 rfl (by decide) w1.heap.size w1.heap.size _ w4 h4 (lenB acc _ HLE.out HFL.out) (Nat.le_of_lt (bf_lt h4))).mono ?_); rintro e w5 ⟨rfl, h5, b5, k5⟩; have hF5 := k5 wr.heap.size _ hF4 (fun e_ => absurd (Option.some.inj e_) (by omega)) (fun c fz e_ => by injection e_ with _ e2_ _; exact absurd e2_ (by decide)); have hc50 := blk_cell hF5 0; have hc51 := blk_cell hF5 1; have hc52 := blk_cell hF5 2)) | (go_at_call 42; ((with_reducible refine (dir_Put_1.calls (x.f2.length : Int) 1 1 rfl (by decide) w1.heap.size w1.heap.size _ w5 h5 (lenC acc _ HLE.out HFL.out) (Nat.le_of_lt (bf_lt h5))).mono ?_); rintro e w6 ⟨rfl, h6, b6, k6⟩; have hF6 := k6 wr.heap.size _ hF5 (fun e_ => absurd (Option.some.inj e_) (by omega)) (fun c fz e_ => by injection e_ with _ e2_ _; exact absurd e2_ (by decide)); have hc60 := blk_cell hF6 0; have hc61 := blk_cell hF6 1; have hc62 := blk_cell hF6 2)))
     have hB6 : Below w1.heap.size w1 w6 := (((((HBW.out).alloc (Nat.le_of_lt hblt) _).trans b3).trans b4).trans b5).trans b6
     have HB6 := Aside0.mk hB6
     have HBF6 := Aside0.mk h6
     clear h3 b3 k3 h4 b4 k4 h5 b5 k5 h6 b6 k6 hF3 hF4 hF5 hF6 hc30 hc31 hc32 hc40 hc41 hc42 hc50 hc51 hc52 hc60 hc61 hc62 hB6
     have hacc6 : acc ++ numL (x.f0.size : Int) 1 ++ x.f0.data.toList ++ numL x.f1 4 ++ numL (x.f2.length : Int) 1 ++ x.f2.flatMap spanL = acc ++ fileL x := by
      unfold fileL
      simp only [List.append_assoc]
     generalize acc ++ numL (x.f0.size : Int) 1 ++ x.f0.data.toList ++ numL x.f1 4 ++ numL (x.f2.length : Int) 1 = acc6 at HBF6 hacc6
     have hlen6 : acc6.length + (x.f2.flatMap spanL).length ≤ 140737488355328 := by
      have h1 := HLE.out
      rw [← List.length_append, ← hacc6, List.length_append] at h1
      exact h1
     have HACC6 := Aside0.mk hacc6
     have HLEN6 := Aside0.mk hlen6
     clear hacc6 hlen6
     have hbig2 : x.f2.length ≤ 9223372036854775807 := HC2.out.2.1
     go_loopg [44] x.f2.length (fun gg s44 wi => ∃ j : Nat, j ≤ x.f2.length ∧ x.f2.length - j ≤ gg ∧ s44 = .int .i64 j ∧ Aside0 (Lib.IsBuilderF 79 5 w1.heap.size w1.heap.size (Lib.byteCells (acc6 ++ (x.f2.take j).flatMap spanL)) wi) ∧ Aside0 (Below w1.heap.size w1 wi))
     case atStart => exact ⟨0, Nat.zero_le _, by omega, rfl, ⟨by simpa using HBF6.out⟩, HB6⟩
     case round =>
      clear HBF6 HB6
      obtain ⟨j, hj, hgj, rfl, HBI, HBJ⟩ := hrel
      by_cases hltj : j < x.f2.length
      ·have hltjz : (j : Int) < (x.f2.length : Int) := by omega
       obtain ⟨ad2, e2, hy0, hy1⟩ := at_T64 HC2.out (j : Int) (by omega) hltjz
       cases e2
       have hrd : rd_T64 x.f2 (j : Int) = x.f2[j] := by simp [rd_T64, List.getD_eq_getElem?_getD, hltj]
       rw [hrd] at hy0 hy1
       simp only [Int.toNat_natCast] at hy0 hy1
       have hbwj := (HB1.out.trans (Below.mono HBJ.out (below_size HB1.out)))
       replace hy0 := (hbwj.cell (World.block_lt_of_cell? w _ hy0)).trans hy0
       replace hy1 := (hbwj.cell (World.block_lt_of_cell? w _ hy1)).trans hy1
       clear hrd hbwj
       have haccj : (x.f2.take (j + 1)).flatMap spanL = (x.f2.take j).flatMap spanL ++ spanL x.f2[j] := by
        rw [List.take_succ_eq_append_getElem hltj, List.flatMap_append]
        show _ ++ (spanL x.f2[j] ++ []) = _
        rw [List.append_nil]
       have hlej : (acc6 ++ (x.f2.take j).flatMap spanL).length + 4 ≤ 140737488355328 := by
        have h1 := HLEN6.out
        have h2 : x.f2.flatMap spanL = (x.f2.take (j + 1)).flatMap spanL ++ (x.f2.drop (j + 1)).flatMap spanL := by rw [← List.flatMap_append, List.take_append_drop]
        rw [h2, haccj] at h1
        have h3 : (spanL x.f2[j]).length = 4 := by unfold spanL; rw [List.length_append, numL_length, numL_length]
        simp only [List.length_append] at h1 ⊢
        omega
       have HACCJ := Aside0.mk haccj
       have HLEJ := Aside0.mk hlej
       clear haccj hlej
       obtain ⟨accj, haj⟩ : ∃ a, a = acc6 ++ (x.f2.take j).flatMap spanL := ⟨_, rfl⟩
       rw [← haj] at HBI HLEJ
       have HAJ := Aside0.mk haj
       clear haj
       generalize x.f2[j] = y at hy0 hy1 HACCJ
       have hbltj := bf_lt HBI.out
       go_wp2_with (first | (go_at_call 42; ((with_reducible refine (dir_Put_1.calls y.f0 2 2 rfl (by decide) w1.heap.size w1.heap.size accj _ (bf_below HBI.out ((Below.refl _ wr).alloc (Nat.le_refl _) _)) (by have := HLEJ.out; omega) (by simp; omega)).mono ?_); rintro e v3 ⟨rfl, i3, d3, q3⟩; have hG3 := q3 wr.heap.size _ (blk_new wr _) (fun e_ => absurd (Option.some.inj e_) (by omega)) (fun c fz e_ => by injection e_ with _ e2_ _; exact absurd e2_ (by decide)); have hg30 := blk_cell hG3 0; have hg31 := blk_cell hG3 1)) | (go_at_call 42; ((with_reducible refine (dir_Put_1.calls y.f1 2 2 rfl (by decide) w1.heap.size w1.heap.size _ v3 i3 (by have := HLEJ.out; rw [List.length_append, numL_length]; omega) (Nat.le_of_lt (bf_lt i3))).mono ?_); rintro e v4 ⟨rfl, i4, d4, q4⟩)))
       go_roundg (x.f2.length - (j + 1))
       case measure => omega
       case rel => exact ⟨j + 1, by omega, by omega, by go_num, ⟨by rw [HACCJ.out, ← List.append_assoc, ← HAJ.out]; unfold spanL; rw [← List.append_assoc]; exact i4⟩, ⟨((HBJ.out.alloc (Nat.le_of_lt hbltj) _).trans d3).trans d4⟩⟩
      ·have hltjz : ¬ (j : Int) < (x.f2.length : Int) := by omega
       have hjj : x.f2.take j = x.f2 := List.take_of_length_le (by omega)
       rw [hjj] at HBI
       clear hjj
       go_wp2
       go_roundg (l0.length - (i + 1))
       case measure => omega
       case rel => exact ⟨i + 1, by omega, by omega, by go_num, ⟨by rw [HACC.out, ← List.append_assoc, ← HAC.out, ← HACC6.out]; exact HBI.out⟩, HBJ⟩
    ·have hltz : ¬ (i : Int) < (l0.length : Int) := by omega
     have hii : l0.take i = l0 := List.take_of_length_le (by omega)
     rw [hii] at HBF
     clear hii
     unfold dirL at hseal
     go_wp2_with (first | (go_at_call 46; ((with_reducible refine (builder_S.calls w1.heap.size w1.heap.size _ wr HBF.out (below_size HBW.out)).mono ?_); rintro e w3 ⟨rfl, b3⟩)) | (go_at_call 45; ((with_reducible refine (seal_Put.calls _ _ _ hseal).mono ?_); rintro e w4 ⟨rfl, hb4⟩)))
     go_ret2
     exact ⟨rfl, HB1.out.trans (Below.mono ((HBW.out.trans b3).trans (Below.mono hb4 (below_size (HBW.out.trans b3)))) (below_size HB1.out))⟩
  ·rw [if_neg hl] at h
   cases h
end Go.Proofs.YtppbcankhkgpfaaDoor.PDq
namespace Go.Proofs.YtppbcankhkgpfaaDoor.PDq
open Go.RowKit Go.Proofs.YtppbcankhkgpfaaDoorW.PrintWords Go.Proofs.YtppbcankhkgpfaaDoorW.PrintLast Go.Proofs.YtppbcankhkgpfaaDoorW.PrintMore
attribute [local go_sem] max2_int min2_int max_two min_two max_three min_three max_four min_four   -- for this text's walks alone
attribute [local go_sem high] hw_str_leq hw_str_gtr
set_option linter.unusedVariables false
set_option linter.unusedSimpArgs false
def rootcellarlaw7_shown.f (k : Nat)  : Option (Bool) := (dir_Put.f k (([(⟨(⟨#[97]⟩ : ByteArray), 3, (([(⟨5, 1⟩ : S64)] : List (S64)))⟩ : S43)] : List (S43)))).bind fun bt175 => ((seal_Take.f bt175.1).bind fun bt177 => ((dir_Take.f k bt175.1).bind fun bt179 => (if bt175.2 = 0 then (if bt177.2 = 0 then (if bt179.2 = 0 then (if bt177.1.toList = ([1, 1, 97, 3, 0, 0, 0, 1, 5, 0, 1, 0] : List UInt8) then (if (bt179.1.length : Int) = 1 then (if 0 < (bt179.1.length : Int) then (some (((rd_T43 bt179.1 0).f0).toList == ([97] : List UInt8))) else (none)) else (some false)) else (some false)) else (some false)) else (some false)) else (some false))))
set_option maxHeartbeats 8000000 in
set_option maxRecDepth 100000 in
theorem rootcellarlaw7_shown.calls (k : Nat)  (r : Bool) (w : World) (ht : TabsW w) (h : rootcellarlaw7_shown.f k  = some r) :
  Calls Tryd.prog 10 #[] w fun e w' => e = .returned (.bool r) ∧ Below w.heap.size w w' := by
 have hu64 := Tryd.underlying64
 have hu43 := Tryd.underlying43
 have HT0 := Aside0.mk ht
 clear ht
 have HB := Aside0.mk (Below.refl w.heap.size w)
 have H : ((dir_Put.f k (([(⟨(⟨#[97]⟩ : ByteArray), 3, (([(⟨5, 1⟩ : S64)] : List (S64)))⟩ : S43)] : List (S43)))).bind fun bt175 => ((seal_Take.f bt175.1).bind fun bt177 => ((dir_Take.f k bt175.1).bind fun bt179 => (if bt175.2 = 0 then (if bt177.2 = 0 then (if bt179.2 = 0 then (if bt177.1.toList = ([1, 1, 97, 3, 0, 0, 0, 1, 5, 0, 1, 0] : List UInt8) then (if (bt179.1.length : Int) = 1 then (if 0 < (bt179.1.length : Int) then (some (((rd_T43 bt179.1 0).f0).toList == ([97] : List UInt8))) else (none)) else (some false)) else (some false)) else (some false)) else (some false)) else (some false))))) = some r := h
 clear h
 obtain ⟨y169, hy169⟩ : ∃ y_ : List (S64), y_ = (([(⟨5, 1⟩ : S64)] : List (S64))) := ⟨_, rfl⟩
 replace H : ((dir_Put.f k (([(⟨(⟨#[97]⟩ : ByteArray), 3, y169⟩ : S43)] : List (S43)))).bind fun bt175 => ((seal_Take.f bt175.1).bind fun bt177 => ((dir_Take.f k bt175.1).bind fun bt179 => (if bt175.2 = 0 then (if bt177.2 = 0 then (if bt179.2 = 0 then (if bt177.1.toList = ([1, 1, 97, 3, 0, 0, 0, 1, 5, 0, 1, 0] : List UInt8) then (if (bt179.1.length : Int) = 1 then (if 0 < (bt179.1.length : Int) then (some (((rd_T43 bt179.1 0).f0).toList == ([97] : List UInt8))) else (none)) else (some false)) else (some false)) else (some false)) else (some false)) else (some false))))) = some r := by first | (rw [hy169]; with_reducible exact H) | (have H2_ := (Option.bind_some _ _).symm.trans H; rw [hy169]; with_reducible exact H2_) | (have H2_ := (Option.bind_some _ _).symm.trans H; with_reducible exact H2_) | with_reducible exact H | (rw [hy169]; exact H) | exact H
 have Ny169 := Aside0.mk hy169
 clear hy169
 obtain ⟨y172, hy172⟩ : ∃ y_ : List (S43), y_ = (([(⟨(⟨#[97]⟩ : ByteArray), 3, y169⟩ : S43)] : List (S43))) := ⟨_, rfl⟩
 replace H : ((dir_Put.f k y172).bind fun bt175 => ((seal_Take.f bt175.1).bind fun bt177 => ((dir_Take.f k bt175.1).bind fun bt179 => (if bt175.2 = 0 then (if bt177.2 = 0 then (if bt179.2 = 0 then (if bt177.1.toList = ([1, 1, 97, 3, 0, 0, 0, 1, 5, 0, 1, 0] : List UInt8) then (if (bt179.1.length : Int) = 1 then (if 0 < (bt179.1.length : Int) then (some (((rd_T43 bt179.1 0).f0).toList == ([97] : List UInt8))) else (none)) else (some false)) else (some false)) else (some false)) else (some false)) else (some false))))) = some r := by first | (rw [hy172]; with_reducible exact H) | (have H2_ := (Option.bind_some _ _).symm.trans H; rw [hy172]; with_reducible exact H2_) | (have H2_ := (Option.bind_some _ _).symm.trans H; with_reducible exact H2_) | with_reducible exact H | (rw [hy172]; exact H) | exact H
 have Ny172 := Aside0.mk hy172
 clear hy172
 replace H := Option.bind_eq_some_iff.mp H
 obtain ⟨⟨t175, t176⟩, A10, H⟩ := H
 replace H : ((seal_Take.f t175).bind fun bt177 => ((dir_Take.f k t175).bind fun bt179 => (if t176 = 0 then (if bt177.2 = 0 then (if bt179.2 = 0 then (if bt177.1.toList = ([1, 1, 97, 3, 0, 0, 0, 1, 5, 0, 1, 0] : List UInt8) then (if (bt179.1.length : Int) = 1 then (if 0 < (bt179.1.length : Int) then (some (((rd_T43 bt179.1 0).f0).toList == ([97] : List UInt8))) else (none)) else (some false)) else (some false)) else (some false)) else (some false)) else (some false)))) = some r := H
 have A1 := Aside0.mk A10
 clear A10
 replace H := Option.bind_eq_some_iff.mp H
 obtain ⟨⟨t177, t178⟩, A20, H⟩ := H
 replace H : ((dir_Take.f k t175).bind fun bt179 => (if t176 = 0 then (if t178 = 0 then (if bt179.2 = 0 then (if t177.toList = ([1, 1, 97, 3, 0, 0, 0, 1, 5, 0, 1, 0] : List UInt8) then (if (bt179.1.length : Int) = 1 then (if 0 < (bt179.1.length : Int) then (some (((rd_T43 bt179.1 0).f0).toList == ([97] : List UInt8))) else (none)) else (some false)) else (some false)) else (some false)) else (some false)) else (some false))) = some r := H
 have A2 := Aside0.mk A20
 clear A20
 replace H := Option.bind_eq_some_iff.mp H
 obtain ⟨⟨t179, t180⟩, A30, H⟩ := H
 replace H : (if t176 = 0 then (if t178 = 0 then (if t180 = 0 then (if t177.toList = ([1, 1, 97, 3, 0, 0, 0, 1, 5, 0, 1, 0] : List UInt8) then (if (t179.length : Int) = 1 then (if 0 < (t179.length : Int) then (some (((rd_T43 t179 0).f0).toList == ([97] : List UInt8))) else (none)) else (some false)) else (some false)) else (some false)) else (some false)) else (some false)) = some r := H
 have A3 := Aside0.mk A30
 clear A30
 by_cases c4 : t176 = 0
 ·rw [if_pos c4] at H
  have c4b0 : (t176 == 0) = true := beq_iff_eq.mpr c4
  have c4b1 : (t176 != 0) = false := bne_eq_false_iff_eq.mpr c4
  clear c4
  by_cases c5 : t178 = 0
  ·rw [if_pos c5] at H
   have c5b0 : (t178 == 0) = true := beq_iff_eq.mpr c5
   have c5b1 : (t178 != 0) = false := bne_eq_false_iff_eq.mpr c5
   clear c5
   by_cases c6 : t180 = 0
   ·rw [if_pos c6] at H
    have c6b0 : (t180 == 0) = true := beq_iff_eq.mpr c6
    have c6b1 : (t180 != 0) = false := bne_eq_false_iff_eq.mpr c6
    clear c6
    by_cases c7 : t177.toList = ([1, 1, 97, 3, 0, 0, 0, 1, 5, 0, 1, 0] : List UInt8)
    ·rw [if_pos c7] at H
     have c7b0 : (t177.toList == ([1, 1, 97, 3, 0, 0, 0, 1, 5, 0, 1, 0] : List UInt8)) = true := beq_iff_eq.mpr c7
     have c7b1 : (t177.toList != ([1, 1, 97, 3, 0, 0, 0, 1, 5, 0, 1, 0] : List UInt8)) = false := bne_eq_false_iff_eq.mpr c7
     clear c7
     by_cases c8 : (t179.length : Int) = 1
     ·rw [if_pos c8] at H
      have c8b0 : ((t179.length : Int) == 1) = true := beq_iff_eq.mpr c8
      have c8b1 : ((t179.length : Int) != 1) = false := bne_eq_false_iff_eq.mpr c8
      clear c8
      by_cases c9 : 0 < (t179.length : Int)
      ·rw [if_pos c9] at H
       have c9b0 : decide (0 < (t179.length : Int)) = true := decide_eq_true c9
       have c9b1 : decide (0 < t179.length) = true := decide_eq_true (by omega)
       clear c9
       obtain rfl := Option.some.inj H
       go_enter Tryd.func10, Tryd.ntmps10
       go_wp2_with (first | ((with_reducible refine gate_dst (N := 9) rfl ?_); (try (refine gate_guard (by rfl) ?_; dsimp only)); refine Kd.R_lit k64 _ 64 ?hg (N := 9) ?hd (xs := ([(⟨5, 1⟩ : S64)] : List (S64))) (inner := [.int .i64 5, .int .i64 1]) (ok := fun _ => True) (okp := fun _ => True) ?hr ?hp (fun _ hk => hk) trivial (Below.refl _ _) (Nat.le_refl _) (by simp) ?_; (case hd => rfl); (case hg => rfl); (case hr => first | (go_simp; done) | (go_simp; rfl)); (case hp => exact (Reps.c2 (show Kd.M k64 _ _ _ (⟨5, 1⟩ : S64) [.int .i64 5, .int .i64 1] from (k64_mkM _ _ _ (⟨5, 1⟩ : S64) )) (Reps.none _ _))); intro v170 w10 ho11 hb hg_ hnew_; clear hg_ hnew_; (first | rw [← Ny169.out] at ho11 | (simp only [Int.reduceToNat] at ho11; rw [← Ny169.out] at ho11)); have n0_ := Aside0.mk (Kd.R_lower ho11 (below_size belA)); have n1_ := Aside0.mk (below_step belA hb); clear HB; have HO171 := n0_; have HB := n1_; clear n0_ n1_; clear hb ho11; obtain ⟨Ao12, co12, eo12⟩ := Kd.R_slice HO171.out; subst eo12) | ((with_reducible refine gate_dst (N := 11) rfl ?_); (try (refine gate_guard (by rfl) ?_; dsimp only)); refine Kd.N_lit k43 _ 43 ?hg (N' := 11) ?hd (xs := ([(⟨(⟨#[97]⟩ : ByteArray), 3, y169⟩ : S43)] : List (S43))) (inner := [.string (⟨#[97]⟩ : ByteArray), .int .i64 3, .slice Ao12 y169.length co12]) (ok := (fun _ => True)) (okp := (fun _ => True)) ?hr ?hp (fun _ hk => hk) ((show ∀ k_, w10.heap.size ≤ k_ → (fun _ => True) k_ from fun k_ hk => trivial) _ (Nat.le_refl _)) (Below.refl _ _) (Nat.le_refl _) (by simp) ?_; (case hd => rfl); (case hg => rfl); (case hr => first | (go_simp; done) | (go_simp; rfl)); (case hp => exact (Reps.c3 (show Kd.FK k43 _ _ (⟨(⟨#[97]⟩ : ByteArray), 3, y169⟩ : S43) [.string (⟨#[97]⟩ : ByteArray), .int .i64 3, .slice Ao12 y169.length co12] from (k43_mkF _ _ (⟨(⟨#[97]⟩ : ByteArray), 3, y169⟩ : S43) (Kd.R_reads' (Kd.R_mono (ok' := (fun _ => True)) (HO171.out) (fun k_ hk => trivial))).2.1 (Kd.R_F (Kd.R_mono (ok' := (fun _ => True)) (HO171.out) (fun k_ hk => trivial))))) (Reps.none _ _))); intro v173 w13 ho14 hb hg_ hnew_; clear hg_ hnew_; (first | rw [← Ny172.out] at ho14 | (simp only [Int.reduceToNat] at ho14; rw [← Ny172.out] at ho14)); have n0_ := Aside0.mk (Kd.N_lower ho14 (below_size belA)); have n1_ := Aside0.mk (below_step belA hb); clear HB; clear HO171; have HO174 := n0_; have HB := n1_; clear n0_ n1_; clear hb ho14; obtain ⟨Ao15, co15, eo15⟩ := Kd.N_slice HO174.out; subst eo15) | ((with_reducible refine gate_callee (f := 16) rfl ?_); refine goesL_ (some 12) rfl rfl Tryd.func16 (by kernel_rfl) rfl #[.slice Ao15 y172.length co15] rfl argA ?_; (with_reducible refine (dir_Put.calls k _ _ y172 t175 t176 _ ?side1 ?side2 ?side3 A1.out).mono ?_); (case side1 => repeat (first | exact (Kd.N_reads' HO174.out).2.2 | (with_reducible refine Kd.C_alloc ?_ _) | (with_reducible refine Kd.C_drewN ?_ _) | (with_reducible refine Kd.C_drew ?_))); (case side2 => exact (Kd.N_reads' HO174.out).2.1); (case side3 => exact TabsW.below HT0.out belA); rintro e w16 ⟨rfl, hb⟩; refine ⟨_, rfl, ?_⟩; have n0_ := Aside0.mk (Kd.N_below (kdN_ HO174.out) hb); have n1_ := Aside0.mk (below_step belA hb); clear HO174; clear HB; have HO174 := n0_; have HB := n1_; clear n0_ n1_; (try clear hb); (try clear hb2); (try clear hk); (try clear hi)) | ((with_reducible refine gate_callee (f := 32) rfl ?_); refine goesL_ (some 17) rfl rfl Tryd.func32 (by kernel_rfl) rfl #[.string t175] rfl argA ?_; (with_reducible refine (seal_Take.calls t175 t177 t178 _ A2.out).mono ?_); rintro e w17 ⟨rfl, hb⟩; refine ⟨_, rfl, ?_⟩; have n0_ := Aside0.mk (Kd.N_below (kdN_ HO174.out) hb); have n1_ := Aside0.mk (below_step belA hb); clear HO174; clear HB; have HO174 := n0_; have HB := n1_; clear n0_ n1_; (try clear hb); (try clear hb2); (try clear hk); (try clear hi)) | ((with_reducible refine gate_callee (f := 12) rfl ?_); refine goesL_ (some 22) rfl rfl Tryd.func12 (by kernel_rfl) rfl #[.string t175] rfl argA ?_; (with_reducible refine (dir_Take.calls k t175 t179 t180 _ ?side1 A3.out).mono ?_); (case side1 => exact TabsW.below HT0.out belA); rintro e w18 ⟨v181, rfl, ho0, hb⟩; refine ⟨_, rfl, ?_⟩; have n0_ := Aside0.mk (Kd.N_elder' (kdN_ HO174.out) (by first | exact Kd.N_base ho0 | exact Kd.N_base (Kd.S_N (Kd.S_bound ho0))) hb); have n1_ := Aside0.mk (Kd.N_lower (Kd.N_mono (ok' := fun k_ => some k_ ≠ (.slice Ao15 y172.length co15 : Value).ownBlock) (Kd.S_N (Kd.S_bound ho0)) (fun k_ hk_ => (Kd.fresh' (Kd.N_lt (kdN_ HO174.out)) k_ hk_.2.1))) (below_size belA)); have n2_ := Aside0.mk (below_step belA hb); clear HO174; clear HB; have HO174 := n0_; have HO182 := n1_; have HB := n2_; clear n0_ n1_ n2_; (try clear hb); (try clear hb2); (try clear hk); (try clear hi); (try clear ho0); obtain ⟨Ao19, co19, eo19⟩ := Kd.N_slice HO182.out; subst eo19; have p183 : 0 ≤ (0 : Int) := (by omega); have q183 : 0 < (t179.length : Int) := of_decide_eq_true asA; obtain ⟨ad183, A183_2, c183_2, e183, hx183_0, hx183_1, hx183_2, hl183_2, hi183_2⟩ := at_T43 (Kd.N_reads' HO182.out).2.2 0 p183 q183; cases e183; obtain ⟨ce183, hce183, hMe183, hcc183⟩ := Kd.N_get HO182.out z43 0 p183 (by first | exact q183 | exact of_decide_eq_true asA | (have e_ := (Kd.N_reads' HO182.out).1; omega)); obtain ⟨ua183_2, uc183_2, rfl, ul183_2, ge183_2⟩ := k43_openF hMe183; have hv183_2 := hcc183 2 _ rfl; rw [add_field _ _ 2 (by omega)] at hv183_2; replace hv183_2 := Option.some.inj (hv183_2.symm.trans hx183_2); injection hv183_2 with hva_ hvn_ hvc_; rw [hva_] at ge183_2; rw [hvc_] at ul183_2; have HL183_2 := Aside0.mk (show Kd.V k64 64 _ w.heap.size _ _ ((rd_T43 t179 0).f2) from Kd.V_mk ul183_2 ge183_2); clear hva_ hvn_ hvc_ ge183_2 ul183_2; clear hcc183 hce183; have qi183 : (0 < t179.length) = True := eq_true (by omega); (try rw [show ((0 : Int)).toNat = 0 from rfl] at hx183_0); (try rw [show 0 * 3 = 0 from rfl] at hx183_0); (try rw [Addr.add_zero'] at hx183_0); (try rw [show ((0 : Int)).toNat = 0 from rfl] at hx183_1); (try rw [show 0 * 3 = 0 from rfl] at hx183_1); (try rw [Addr.add_zero'] at hx183_1); (try rw [show ((0 : Int)).toNat = 0 from rfl] at hx183_2); (try rw [show 0 * 3 = 0 from rfl] at hx183_2); (try rw [Addr.add_zero'] at hx183_2); have HR183_2 := Aside0.mk hi183_2; have HC183_2 := Aside0.mk hl183_2; clear hi183_2 hl183_2; replace p183 := eq_true p183; replace q183 := eq_true q183))
       go_ret
       exact ⟨by first | rfl | (simp [errW_none, errW_some] <;> rfl) | (simp [*, errW_none, errW_some] <;> rfl), by repeat (first | (with_reducible first | exact HB.out | apply below_alloc | apply pw_below_drewN | apply below_drew1) | exact HB.out)⟩
      ·rw [if_neg c9] at H
       exact absurd H (by simp)
     ·rw [if_neg c8] at H
      have c8b0 : ((t179.length : Int) == 1) = false := beq_eq_false_iff_ne.mpr c8
      have c8b1 : ((t179.length : Int) != 1) = true := bne_iff_ne.mpr c8
      obtain rfl := Option.some.inj H
      go_enter Tryd.func10, Tryd.ntmps10
      go_wp2_with (first | ((with_reducible refine gate_dst (N := 9) rfl ?_); (try (refine gate_guard (by rfl) ?_; dsimp only)); refine Kd.R_lit k64 _ 64 ?hg (N := 9) ?hd (xs := ([(⟨5, 1⟩ : S64)] : List (S64))) (inner := [.int .i64 5, .int .i64 1]) (ok := fun _ => True) (okp := fun _ => True) ?hr ?hp (fun _ hk => hk) trivial (Below.refl _ _) (Nat.le_refl _) (by simp) ?_; (case hd => rfl); (case hg => rfl); (case hr => first | (go_simp; done) | (go_simp; rfl)); (case hp => exact (Reps.c2 (show Kd.M k64 _ _ _ (⟨5, 1⟩ : S64) [.int .i64 5, .int .i64 1] from (k64_mkM _ _ _ (⟨5, 1⟩ : S64) )) (Reps.none _ _))); intro v170 w20 ho21 hb hg_ hnew_; clear hg_ hnew_; (first | rw [← Ny169.out] at ho21 | (simp only [Int.reduceToNat] at ho21; rw [← Ny169.out] at ho21)); have n0_ := Aside0.mk (Kd.R_lower ho21 (below_size belA)); have n1_ := Aside0.mk (below_step belA hb); clear HB; have HO171 := n0_; have HB := n1_; clear n0_ n1_; clear hb ho21; obtain ⟨Ao22, co22, eo22⟩ := Kd.R_slice HO171.out; subst eo22) | ((with_reducible refine gate_dst (N := 11) rfl ?_); (try (refine gate_guard (by rfl) ?_; dsimp only)); refine Kd.N_lit k43 _ 43 ?hg (N' := 11) ?hd (xs := ([(⟨(⟨#[97]⟩ : ByteArray), 3, y169⟩ : S43)] : List (S43))) (inner := [.string (⟨#[97]⟩ : ByteArray), .int .i64 3, .slice Ao22 y169.length co22]) (ok := (fun _ => True)) (okp := (fun _ => True)) ?hr ?hp (fun _ hk => hk) ((show ∀ k_, w20.heap.size ≤ k_ → (fun _ => True) k_ from fun k_ hk => trivial) _ (Nat.le_refl _)) (Below.refl _ _) (Nat.le_refl _) (by simp) ?_; (case hd => rfl); (case hg => rfl); (case hr => first | (go_simp; done) | (go_simp; rfl)); (case hp => exact (Reps.c3 (show Kd.FK k43 _ _ (⟨(⟨#[97]⟩ : ByteArray), 3, y169⟩ : S43) [.string (⟨#[97]⟩ : ByteArray), .int .i64 3, .slice Ao22 y169.length co22] from (k43_mkF _ _ (⟨(⟨#[97]⟩ : ByteArray), 3, y169⟩ : S43) (Kd.R_reads' (Kd.R_mono (ok' := (fun _ => True)) (HO171.out) (fun k_ hk => trivial))).2.1 (Kd.R_F (Kd.R_mono (ok' := (fun _ => True)) (HO171.out) (fun k_ hk => trivial))))) (Reps.none _ _))); intro v173 w23 ho24 hb hg_ hnew_; clear hg_ hnew_; (first | rw [← Ny172.out] at ho24 | (simp only [Int.reduceToNat] at ho24; rw [← Ny172.out] at ho24)); have n0_ := Aside0.mk (Kd.N_lower ho24 (below_size belA)); have n1_ := Aside0.mk (below_step belA hb); clear HB; clear HO171; have HO174 := n0_; have HB := n1_; clear n0_ n1_; clear hb ho24; obtain ⟨Ao25, co25, eo25⟩ := Kd.N_slice HO174.out; subst eo25) | ((with_reducible refine gate_callee (f := 16) rfl ?_); refine goesL_ (some 12) rfl rfl Tryd.func16 (by kernel_rfl) rfl #[.slice Ao25 y172.length co25] rfl argA ?_; (with_reducible refine (dir_Put.calls k _ _ y172 t175 t176 _ ?side1 ?side2 ?side3 A1.out).mono ?_); (case side1 => repeat (first | exact (Kd.N_reads' HO174.out).2.2 | (with_reducible refine Kd.C_alloc ?_ _) | (with_reducible refine Kd.C_drewN ?_ _) | (with_reducible refine Kd.C_drew ?_))); (case side2 => exact (Kd.N_reads' HO174.out).2.1); (case side3 => exact TabsW.below HT0.out belA); rintro e w26 ⟨rfl, hb⟩; refine ⟨_, rfl, ?_⟩; have n0_ := Aside0.mk (Kd.N_below (kdN_ HO174.out) hb); have n1_ := Aside0.mk (below_step belA hb); clear HO174; clear HB; have HO174 := n0_; have HB := n1_; clear n0_ n1_; (try clear hb); (try clear hb2); (try clear hk); (try clear hi)) | ((with_reducible refine gate_callee (f := 32) rfl ?_); refine goesL_ (some 17) rfl rfl Tryd.func32 (by kernel_rfl) rfl #[.string t175] rfl argA ?_; (with_reducible refine (seal_Take.calls t175 t177 t178 _ A2.out).mono ?_); rintro e w27 ⟨rfl, hb⟩; refine ⟨_, rfl, ?_⟩; have n0_ := Aside0.mk (Kd.N_below (kdN_ HO174.out) hb); have n1_ := Aside0.mk (below_step belA hb); clear HO174; clear HB; have HO174 := n0_; have HB := n1_; clear n0_ n1_; (try clear hb); (try clear hb2); (try clear hk); (try clear hi)) | ((with_reducible refine gate_callee (f := 12) rfl ?_); refine goesL_ (some 22) rfl rfl Tryd.func12 (by kernel_rfl) rfl #[.string t175] rfl argA ?_; (with_reducible refine (dir_Take.calls k t175 t179 t180 _ ?side1 A3.out).mono ?_); (case side1 => exact TabsW.below HT0.out belA); rintro e w28 ⟨v181, rfl, ho0, hb⟩; refine ⟨_, rfl, ?_⟩; have n0_ := Aside0.mk (Kd.N_elder' (kdN_ HO174.out) (by first | exact Kd.N_base ho0 | exact Kd.N_base (Kd.S_N (Kd.S_bound ho0))) hb); have n1_ := Aside0.mk (Kd.N_lower (Kd.N_mono (ok' := fun k_ => some k_ ≠ (.slice Ao25 y172.length co25 : Value).ownBlock) (Kd.S_N (Kd.S_bound ho0)) (fun k_ hk_ => (Kd.fresh' (Kd.N_lt (kdN_ HO174.out)) k_ hk_.2.1))) (below_size belA)); have n2_ := Aside0.mk (below_step belA hb); clear HO174; clear HB; have HO174 := n0_; have HO182 := n1_; have HB := n2_; clear n0_ n1_ n2_; (try clear hb); (try clear hb2); (try clear hk); (try clear hi); (try clear ho0); obtain ⟨Ao29, co29, eo29⟩ := Kd.N_slice HO182.out; subst eo29))
      go_ret
      exact ⟨by first | rfl | (simp [errW_none, errW_some] <;> rfl) | (simp [*, errW_none, errW_some] <;> rfl), by repeat (first | (with_reducible first | exact HB.out | apply below_alloc | apply pw_below_drewN | apply below_drew1) | exact HB.out)⟩
    ·rw [if_neg c7] at H
     have c7b0 : (t177.toList == ([1, 1, 97, 3, 0, 0, 0, 1, 5, 0, 1, 0] : List UInt8)) = false := beq_eq_false_iff_ne.mpr c7
     have c7b1 : (t177.toList != ([1, 1, 97, 3, 0, 0, 0, 1, 5, 0, 1, 0] : List UInt8)) = true := bne_iff_ne.mpr c7
     obtain rfl := Option.some.inj H
     go_enter Tryd.func10, Tryd.ntmps10
     go_wp2_with (first | ((with_reducible refine gate_dst (N := 9) rfl ?_); (try (refine gate_guard (by rfl) ?_; dsimp only)); refine Kd.R_lit k64 _ 64 ?hg (N := 9) ?hd (xs := ([(⟨5, 1⟩ : S64)] : List (S64))) (inner := [.int .i64 5, .int .i64 1]) (ok := fun _ => True) (okp := fun _ => True) ?hr ?hp (fun _ hk => hk) trivial (Below.refl _ _) (Nat.le_refl _) (by simp) ?_; (case hd => rfl); (case hg => rfl); (case hr => first | (go_simp; done) | (go_simp; rfl)); (case hp => exact (Reps.c2 (show Kd.M k64 _ _ _ (⟨5, 1⟩ : S64) [.int .i64 5, .int .i64 1] from (k64_mkM _ _ _ (⟨5, 1⟩ : S64) )) (Reps.none _ _))); intro v170 w30 ho31 hb hg_ hnew_; clear hg_ hnew_; (first | rw [← Ny169.out] at ho31 | (simp only [Int.reduceToNat] at ho31; rw [← Ny169.out] at ho31)); have n0_ := Aside0.mk (Kd.R_lower ho31 (below_size belA)); have n1_ := Aside0.mk (below_step belA hb); clear HB; have HO171 := n0_; have HB := n1_; clear n0_ n1_; clear hb ho31; obtain ⟨Ao32, co32, eo32⟩ := Kd.R_slice HO171.out; subst eo32) | ((with_reducible refine gate_dst (N := 11) rfl ?_); (try (refine gate_guard (by rfl) ?_; dsimp only)); refine Kd.N_lit k43 _ 43 ?hg (N' := 11) ?hd (xs := ([(⟨(⟨#[97]⟩ : ByteArray), 3, y169⟩ : S43)] : List (S43))) (inner := [.string (⟨#[97]⟩ : ByteArray), .int .i64 3, .slice Ao32 y169.length co32]) (ok := (fun _ => True)) (okp := (fun _ => True)) ?hr ?hp (fun _ hk => hk) ((show ∀ k_, w30.heap.size ≤ k_ → (fun _ => True) k_ from fun k_ hk => trivial) _ (Nat.le_refl _)) (Below.refl _ _) (Nat.le_refl _) (by simp) ?_; (case hd => rfl); (case hg => rfl); (case hr => first | (go_simp; done) | (go_simp; rfl)); (case hp => exact (Reps.c3 (show Kd.FK k43 _ _ (⟨(⟨#[97]⟩ : ByteArray), 3, y169⟩ : S43) [.string (⟨#[97]⟩ : ByteArray), .int .i64 3, .slice Ao32 y169.length co32] from (k43_mkF _ _ (⟨(⟨#[97]⟩ : ByteArray), 3, y169⟩ : S43) (Kd.R_reads' (Kd.R_mono (ok' := (fun _ => True)) (HO171.out) (fun k_ hk => trivial))).2.1 (Kd.R_F (Kd.R_mono (ok' := (fun _ => True)) (HO171.out) (fun k_ hk => trivial))))) (Reps.none _ _))); intro v173 w33 ho34 hb hg_ hnew_; clear hg_ hnew_; (first | rw [← Ny172.out] at ho34 | (simp only [Int.reduceToNat] at ho34; rw [← Ny172.out] at ho34)); have n0_ := Aside0.mk (Kd.N_lower ho34 (below_size belA)); have n1_ := Aside0.mk (below_step belA hb); clear HB; clear HO171; have HO174 := n0_; have HB := n1_; clear n0_ n1_; clear hb ho34; obtain ⟨Ao35, co35, eo35⟩ := Kd.N_slice HO174.out; subst eo35) | ((with_reducible refine gate_callee (f := 16) rfl ?_); refine goesL_ (some 12) rfl rfl Tryd.func16 (by kernel_rfl) rfl #[.slice Ao35 y172.length co35] rfl argA ?_; (with_reducible refine (dir_Put.calls k _ _ y172 t175 t176 _ ?side1 ?side2 ?side3 A1.out).mono ?_); (case side1 => repeat (first | exact (Kd.N_reads' HO174.out).2.2 | (with_reducible refine Kd.C_alloc ?_ _) | (with_reducible refine Kd.C_drewN ?_ _) | (with_reducible refine Kd.C_drew ?_))); (case side2 => exact (Kd.N_reads' HO174.out).2.1); (case side3 => exact TabsW.below HT0.out belA); rintro e w36 ⟨rfl, hb⟩; refine ⟨_, rfl, ?_⟩; have n0_ := Aside0.mk (Kd.N_below (kdN_ HO174.out) hb); have n1_ := Aside0.mk (below_step belA hb); clear HO174; clear HB; have HO174 := n0_; have HB := n1_; clear n0_ n1_; (try clear hb); (try clear hb2); (try clear hk); (try clear hi)) | ((with_reducible refine gate_callee (f := 32) rfl ?_); refine goesL_ (some 17) rfl rfl Tryd.func32 (by kernel_rfl) rfl #[.string t175] rfl argA ?_; (with_reducible refine (seal_Take.calls t175 t177 t178 _ A2.out).mono ?_); rintro e w37 ⟨rfl, hb⟩; refine ⟨_, rfl, ?_⟩; have n0_ := Aside0.mk (Kd.N_below (kdN_ HO174.out) hb); have n1_ := Aside0.mk (below_step belA hb); clear HO174; clear HB; have HO174 := n0_; have HB := n1_; clear n0_ n1_; (try clear hb); (try clear hb2); (try clear hk); (try clear hi)) | ((with_reducible refine gate_callee (f := 12) rfl ?_); refine goesL_ (some 22) rfl rfl Tryd.func12 (by kernel_rfl) rfl #[.string t175] rfl argA ?_; (with_reducible refine (dir_Take.calls k t175 t179 t180 _ ?side1 A3.out).mono ?_); (case side1 => exact TabsW.below HT0.out belA); rintro e w38 ⟨v181, rfl, ho0, hb⟩; refine ⟨_, rfl, ?_⟩; have n0_ := Aside0.mk (Kd.N_elder' (kdN_ HO174.out) (by first | exact Kd.N_base ho0 | exact Kd.N_base (Kd.S_N (Kd.S_bound ho0))) hb); have n1_ := Aside0.mk (Kd.N_lower (Kd.N_mono (ok' := fun k_ => some k_ ≠ (.slice Ao35 y172.length co35 : Value).ownBlock) (Kd.S_N (Kd.S_bound ho0)) (fun k_ hk_ => (Kd.fresh' (Kd.N_lt (kdN_ HO174.out)) k_ hk_.2.1))) (below_size belA)); have n2_ := Aside0.mk (below_step belA hb); clear HO174; clear HB; have HO174 := n0_; have HO182 := n1_; have HB := n2_; clear n0_ n1_ n2_; (try clear hb); (try clear hb2); (try clear hk); (try clear hi); (try clear ho0)))
     go_ret
     exact ⟨by first | rfl | (simp [errW_none, errW_some] <;> rfl) | (simp [*, errW_none, errW_some] <;> rfl), by repeat (first | (with_reducible first | exact HB.out | apply below_alloc | apply pw_below_drewN | apply below_drew1) | exact HB.out)⟩
   ·rw [if_neg c6] at H
    have c6b0 : (t180 == 0) = false := beq_eq_false_iff_ne.mpr c6
    have c6b1 : (t180 != 0) = true := bne_iff_ne.mpr c6
    obtain rfl := Option.some.inj H
    go_enter Tryd.func10, Tryd.ntmps10
    go_wp2_with (first | ((with_reducible refine gate_dst (N := 9) rfl ?_); (try (refine gate_guard (by rfl) ?_; dsimp only)); refine Kd.R_lit k64 _ 64 ?hg (N := 9) ?hd (xs := ([(⟨5, 1⟩ : S64)] : List (S64))) (inner := [.int .i64 5, .int .i64 1]) (ok := fun _ => True) (okp := fun _ => True) ?hr ?hp (fun _ hk => hk) trivial (Below.refl _ _) (Nat.le_refl _) (by simp) ?_; (case hd => rfl); (case hg => rfl); (case hr => first | (go_simp; done) | (go_simp; rfl)); (case hp => exact (Reps.c2 (show Kd.M k64 _ _ _ (⟨5, 1⟩ : S64) [.int .i64 5, .int .i64 1] from (k64_mkM _ _ _ (⟨5, 1⟩ : S64) )) (Reps.none _ _))); intro v170 w39 ho40 hb hg_ hnew_; clear hg_ hnew_; (first | rw [← Ny169.out] at ho40 | (simp only [Int.reduceToNat] at ho40; rw [← Ny169.out] at ho40)); have n0_ := Aside0.mk (Kd.R_lower ho40 (below_size belA)); have n1_ := Aside0.mk (below_step belA hb); clear HB; have HO171 := n0_; have HB := n1_; clear n0_ n1_; clear hb ho40; obtain ⟨Ao41, co41, eo41⟩ := Kd.R_slice HO171.out; subst eo41) | ((with_reducible refine gate_dst (N := 11) rfl ?_); (try (refine gate_guard (by rfl) ?_; dsimp only)); refine Kd.N_lit k43 _ 43 ?hg (N' := 11) ?hd (xs := ([(⟨(⟨#[97]⟩ : ByteArray), 3, y169⟩ : S43)] : List (S43))) (inner := [.string (⟨#[97]⟩ : ByteArray), .int .i64 3, .slice Ao41 y169.length co41]) (ok := (fun _ => True)) (okp := (fun _ => True)) ?hr ?hp (fun _ hk => hk) ((show ∀ k_, w39.heap.size ≤ k_ → (fun _ => True) k_ from fun k_ hk => trivial) _ (Nat.le_refl _)) (Below.refl _ _) (Nat.le_refl _) (by simp) ?_; (case hd => rfl); (case hg => rfl); (case hr => first | (go_simp; done) | (go_simp; rfl)); (case hp => exact (Reps.c3 (show Kd.FK k43 _ _ (⟨(⟨#[97]⟩ : ByteArray), 3, y169⟩ : S43) [.string (⟨#[97]⟩ : ByteArray), .int .i64 3, .slice Ao41 y169.length co41] from (k43_mkF _ _ (⟨(⟨#[97]⟩ : ByteArray), 3, y169⟩ : S43) (Kd.R_reads' (Kd.R_mono (ok' := (fun _ => True)) (HO171.out) (fun k_ hk => trivial))).2.1 (Kd.R_F (Kd.R_mono (ok' := (fun _ => True)) (HO171.out) (fun k_ hk => trivial))))) (Reps.none _ _))); intro v173 w42 ho43 hb hg_ hnew_; clear hg_ hnew_; (first | rw [← Ny172.out] at ho43 | (simp only [Int.reduceToNat] at ho43; rw [← Ny172.out] at ho43)); have n0_ := Aside0.mk (Kd.N_lower ho43 (below_size belA)); have n1_ := Aside0.mk (below_step belA hb); clear HB; clear HO171; have HO174 := n0_; have HB := n1_; clear n0_ n1_; clear hb ho43; obtain ⟨Ao44, co44, eo44⟩ := Kd.N_slice HO174.out; subst eo44) | ((with_reducible refine gate_callee (f := 16) rfl ?_); refine goesL_ (some 12) rfl rfl Tryd.func16 (by kernel_rfl) rfl #[.slice Ao44 y172.length co44] rfl argA ?_; (with_reducible refine (dir_Put.calls k _ _ y172 t175 t176 _ ?side1 ?side2 ?side3 A1.out).mono ?_); (case side1 => repeat (first | exact (Kd.N_reads' HO174.out).2.2 | (with_reducible refine Kd.C_alloc ?_ _) | (with_reducible refine Kd.C_drewN ?_ _) | (with_reducible refine Kd.C_drew ?_))); (case side2 => exact (Kd.N_reads' HO174.out).2.1); (case side3 => exact TabsW.below HT0.out belA); rintro e w45 ⟨rfl, hb⟩; refine ⟨_, rfl, ?_⟩; have n0_ := Aside0.mk (Kd.N_below (kdN_ HO174.out) hb); have n1_ := Aside0.mk (below_step belA hb); clear HO174; clear HB; have HO174 := n0_; have HB := n1_; clear n0_ n1_; (try clear hb); (try clear hb2); (try clear hk); (try clear hi)) | ((with_reducible refine gate_callee (f := 32) rfl ?_); refine goesL_ (some 17) rfl rfl Tryd.func32 (by kernel_rfl) rfl #[.string t175] rfl argA ?_; (with_reducible refine (seal_Take.calls t175 t177 t178 _ A2.out).mono ?_); rintro e w46 ⟨rfl, hb⟩; refine ⟨_, rfl, ?_⟩; have n0_ := Aside0.mk (Kd.N_below (kdN_ HO174.out) hb); have n1_ := Aside0.mk (below_step belA hb); clear HO174; clear HB; have HO174 := n0_; have HB := n1_; clear n0_ n1_; (try clear hb); (try clear hb2); (try clear hk); (try clear hi)) | ((with_reducible refine gate_callee (f := 12) rfl ?_); refine goesL_ (some 22) rfl rfl Tryd.func12 (by kernel_rfl) rfl #[.string t175] rfl argA ?_; (with_reducible refine (dir_Take.calls k t175 t179 t180 _ ?side1 A3.out).mono ?_); (case side1 => exact TabsW.below HT0.out belA); rintro e w47 ⟨v181, rfl, ho0, hb⟩; refine ⟨_, rfl, ?_⟩; have n0_ := Aside0.mk (Kd.N_elder' (kdN_ HO174.out) (by first | exact Kd.N_base ho0 | exact Kd.N_base (Kd.S_N (Kd.S_bound ho0))) hb); have n1_ := Aside0.mk (Kd.N_lower (Kd.N_mono (ok' := fun k_ => some k_ ≠ (.slice Ao44 y172.length co44 : Value).ownBlock) (Kd.S_N (Kd.S_bound ho0)) (fun k_ hk_ => (Kd.fresh' (Kd.N_lt (kdN_ HO174.out)) k_ hk_.2.1))) (below_size belA)); have n2_ := Aside0.mk (below_step belA hb); clear HO174; clear HB; have HO174 := n0_; have HO182 := n1_; have HB := n2_; clear n0_ n1_ n2_; (try clear hb); (try clear hb2); (try clear hk); (try clear hi); (try clear ho0)))
    go_ret
    exact ⟨by first | rfl | (simp [errW_none, errW_some] <;> rfl) | (simp [*, errW_none, errW_some] <;> rfl), by repeat (first | (with_reducible first | exact HB.out | apply below_alloc | apply pw_below_drewN | apply below_drew1) | exact HB.out)⟩
  ·rw [if_neg c5] at H
   have c5b0 : (t178 == 0) = false := beq_eq_false_iff_ne.mpr c5
   have c5b1 : (t178 != 0) = true := bne_iff_ne.mpr c5
   obtain rfl := Option.some.inj H
   go_enter Tryd.func10, Tryd.ntmps10
   go_wp2_with (first | ((with_reducible refine gate_dst (N := 9) rfl ?_); (try (refine gate_guard (by rfl) ?_; dsimp only)); refine Kd.R_lit k64 _ 64 ?hg (N := 9) ?hd (xs := ([(⟨5, 1⟩ : S64)] : List (S64))) (inner := [.int .i64 5, .int .i64 1]) (ok := fun _ => True) (okp := fun _ => True) ?hr ?hp (fun _ hk => hk) trivial (Below.refl _ _) (Nat.le_refl _) (by simp) ?_; (case hd => rfl); (case hg => rfl); (case hr => first | (go_simp; done) | (go_simp; rfl)); (case hp => exact (Reps.c2 (show Kd.M k64 _ _ _ (⟨5, 1⟩ : S64) [.int .i64 5, .int .i64 1] from (k64_mkM _ _ _ (⟨5, 1⟩ : S64) )) (Reps.none _ _))); intro v170 w48 ho49 hb hg_ hnew_; clear hg_ hnew_; (first | rw [← Ny169.out] at ho49 | (simp only [Int.reduceToNat] at ho49; rw [← Ny169.out] at ho49)); have n0_ := Aside0.mk (Kd.R_lower ho49 (below_size belA)); have n1_ := Aside0.mk (below_step belA hb); clear HB; have HO171 := n0_; have HB := n1_; clear n0_ n1_; clear hb ho49; obtain ⟨Ao50, co50, eo50⟩ := Kd.R_slice HO171.out; subst eo50) | ((with_reducible refine gate_dst (N := 11) rfl ?_); (try (refine gate_guard (by rfl) ?_; dsimp only)); refine Kd.N_lit k43 _ 43 ?hg (N' := 11) ?hd (xs := ([(⟨(⟨#[97]⟩ : ByteArray), 3, y169⟩ : S43)] : List (S43))) (inner := [.string (⟨#[97]⟩ : ByteArray), .int .i64 3, .slice Ao50 y169.length co50]) (ok := (fun _ => True)) (okp := (fun _ => True)) ?hr ?hp (fun _ hk => hk) ((show ∀ k_, w48.heap.size ≤ k_ → (fun _ => True) k_ from fun k_ hk => trivial) _ (Nat.le_refl _)) (Below.refl _ _) (Nat.le_refl _) (by simp) ?_; (case hd => rfl); (case hg => rfl); (case hr => first | (go_simp; done) | (go_simp; rfl)); (case hp => exact (Reps.c3 (show Kd.FK k43 _ _ (⟨(⟨#[97]⟩ : ByteArray), 3, y169⟩ : S43) [.string (⟨#[97]⟩ : ByteArray), .int .i64 3, .slice Ao50 y169.length co50] from (k43_mkF _ _ (⟨(⟨#[97]⟩ : ByteArray), 3, y169⟩ : S43) (Kd.R_reads' (Kd.R_mono (ok' := (fun _ => True)) (HO171.out) (fun k_ hk => trivial))).2.1 (Kd.R_F (Kd.R_mono (ok' := (fun _ => True)) (HO171.out) (fun k_ hk => trivial))))) (Reps.none _ _))); intro v173 w51 ho52 hb hg_ hnew_; clear hg_ hnew_; (first | rw [← Ny172.out] at ho52 | (simp only [Int.reduceToNat] at ho52; rw [← Ny172.out] at ho52)); have n0_ := Aside0.mk (Kd.N_lower ho52 (below_size belA)); have n1_ := Aside0.mk (below_step belA hb); clear HB; clear HO171; have HO174 := n0_; have HB := n1_; clear n0_ n1_; clear hb ho52; obtain ⟨Ao53, co53, eo53⟩ := Kd.N_slice HO174.out; subst eo53) | ((with_reducible refine gate_callee (f := 16) rfl ?_); refine goesL_ (some 12) rfl rfl Tryd.func16 (by kernel_rfl) rfl #[.slice Ao53 y172.length co53] rfl argA ?_; (with_reducible refine (dir_Put.calls k _ _ y172 t175 t176 _ ?side1 ?side2 ?side3 A1.out).mono ?_); (case side1 => repeat (first | exact (Kd.N_reads' HO174.out).2.2 | (with_reducible refine Kd.C_alloc ?_ _) | (with_reducible refine Kd.C_drewN ?_ _) | (with_reducible refine Kd.C_drew ?_))); (case side2 => exact (Kd.N_reads' HO174.out).2.1); (case side3 => exact TabsW.below HT0.out belA); rintro e w54 ⟨rfl, hb⟩; refine ⟨_, rfl, ?_⟩; have n0_ := Aside0.mk (Kd.N_below (kdN_ HO174.out) hb); have n1_ := Aside0.mk (below_step belA hb); clear HO174; clear HB; have HO174 := n0_; have HB := n1_; clear n0_ n1_; (try clear hb); (try clear hb2); (try clear hk); (try clear hi)) | ((with_reducible refine gate_callee (f := 32) rfl ?_); refine goesL_ (some 17) rfl rfl Tryd.func32 (by kernel_rfl) rfl #[.string t175] rfl argA ?_; (with_reducible refine (seal_Take.calls t175 t177 t178 _ A2.out).mono ?_); rintro e w55 ⟨rfl, hb⟩; refine ⟨_, rfl, ?_⟩; have n0_ := Aside0.mk (Kd.N_below (kdN_ HO174.out) hb); have n1_ := Aside0.mk (below_step belA hb); clear HO174; clear HB; have HO174 := n0_; have HB := n1_; clear n0_ n1_; (try clear hb); (try clear hb2); (try clear hk); (try clear hi)) | ((with_reducible refine gate_callee (f := 12) rfl ?_); refine goesL_ (some 22) rfl rfl Tryd.func12 (by kernel_rfl) rfl #[.string t175] rfl argA ?_; (with_reducible refine (dir_Take.calls k t175 t179 t180 _ ?side1 A3.out).mono ?_); (case side1 => exact TabsW.below HT0.out belA); rintro e w56 ⟨v181, rfl, ho0, hb⟩; refine ⟨_, rfl, ?_⟩; have n0_ := Aside0.mk (Kd.N_elder' (kdN_ HO174.out) (by first | exact Kd.N_base ho0 | exact Kd.N_base (Kd.S_N (Kd.S_bound ho0))) hb); have n1_ := Aside0.mk (Kd.N_lower (Kd.N_mono (ok' := fun k_ => some k_ ≠ (.slice Ao53 y172.length co53 : Value).ownBlock) (Kd.S_N (Kd.S_bound ho0)) (fun k_ hk_ => (Kd.fresh' (Kd.N_lt (kdN_ HO174.out)) k_ hk_.2.1))) (below_size belA)); have n2_ := Aside0.mk (below_step belA hb); clear HO174; clear HB; have HO174 := n0_; have HO182 := n1_; have HB := n2_; clear n0_ n1_ n2_; (try clear hb); (try clear hb2); (try clear hk); (try clear hi); (try clear ho0)))
   go_ret
   exact ⟨by first | rfl | (simp [errW_none, errW_some] <;> rfl) | (simp [*, errW_none, errW_some] <;> rfl), by repeat (first | (with_reducible first | exact HB.out | apply below_alloc | apply pw_below_drewN | apply below_drew1) | exact HB.out)⟩
 ·rw [if_neg c4] at H
  have c4b0 : (t176 == 0) = false := beq_eq_false_iff_ne.mpr c4
  have c4b1 : (t176 != 0) = true := bne_iff_ne.mpr c4
  obtain rfl := Option.some.inj H
  go_enter Tryd.func10, Tryd.ntmps10
  go_wp2_with (first | ((with_reducible refine gate_dst (N := 9) rfl ?_); (try (refine gate_guard (by rfl) ?_; dsimp only)); refine Kd.R_lit k64 _ 64 ?hg (N := 9) ?hd (xs := ([(⟨5, 1⟩ : S64)] : List (S64))) (inner := [.int .i64 5, .int .i64 1]) (ok := fun _ => True) (okp := fun _ => True) ?hr ?hp (fun _ hk => hk) trivial (Below.refl _ _) (Nat.le_refl _) (by simp) ?_; (case hd => rfl); (case hg => rfl); (case hr => first | (go_simp; done) | (go_simp; rfl)); (case hp => exact (Reps.c2 (show Kd.M k64 _ _ _ (⟨5, 1⟩ : S64) [.int .i64 5, .int .i64 1] from (k64_mkM _ _ _ (⟨5, 1⟩ : S64) )) (Reps.none _ _))); intro v170 w57 ho58 hb hg_ hnew_; clear hg_ hnew_; (first | rw [← Ny169.out] at ho58 | (simp only [Int.reduceToNat] at ho58; rw [← Ny169.out] at ho58)); have n0_ := Aside0.mk (Kd.R_lower ho58 (below_size belA)); have n1_ := Aside0.mk (below_step belA hb); clear HB; have HO171 := n0_; have HB := n1_; clear n0_ n1_; clear hb ho58; obtain ⟨Ao59, co59, eo59⟩ := Kd.R_slice HO171.out; subst eo59) | ((with_reducible refine gate_dst (N := 11) rfl ?_); (try (refine gate_guard (by rfl) ?_; dsimp only)); refine Kd.N_lit k43 _ 43 ?hg (N' := 11) ?hd (xs := ([(⟨(⟨#[97]⟩ : ByteArray), 3, y169⟩ : S43)] : List (S43))) (inner := [.string (⟨#[97]⟩ : ByteArray), .int .i64 3, .slice Ao59 y169.length co59]) (ok := (fun _ => True)) (okp := (fun _ => True)) ?hr ?hp (fun _ hk => hk) ((show ∀ k_, w57.heap.size ≤ k_ → (fun _ => True) k_ from fun k_ hk => trivial) _ (Nat.le_refl _)) (Below.refl _ _) (Nat.le_refl _) (by simp) ?_; (case hd => rfl); (case hg => rfl); (case hr => first | (go_simp; done) | (go_simp; rfl)); (case hp => exact (Reps.c3 (show Kd.FK k43 _ _ (⟨(⟨#[97]⟩ : ByteArray), 3, y169⟩ : S43) [.string (⟨#[97]⟩ : ByteArray), .int .i64 3, .slice Ao59 y169.length co59] from (k43_mkF _ _ (⟨(⟨#[97]⟩ : ByteArray), 3, y169⟩ : S43) (Kd.R_reads' (Kd.R_mono (ok' := (fun _ => True)) (HO171.out) (fun k_ hk => trivial))).2.1 (Kd.R_F (Kd.R_mono (ok' := (fun _ => True)) (HO171.out) (fun k_ hk => trivial))))) (Reps.none _ _))); intro v173 w60 ho61 hb hg_ hnew_; clear hg_ hnew_; (first | rw [← Ny172.out] at ho61 | (simp only [Int.reduceToNat] at ho61; rw [← Ny172.out] at ho61)); have n0_ := Aside0.mk (Kd.N_lower ho61 (below_size belA)); have n1_ := Aside0.mk (below_step belA hb); clear HB; clear HO171; have HO174 := n0_; have HB := n1_; clear n0_ n1_; clear hb ho61; obtain ⟨Ao62, co62, eo62⟩ := Kd.N_slice HO174.out; subst eo62) | ((with_reducible refine gate_callee (f := 16) rfl ?_); refine goesL_ (some 12) rfl rfl Tryd.func16 (by kernel_rfl) rfl #[.slice Ao62 y172.length co62] rfl argA ?_; (with_reducible refine (dir_Put.calls k _ _ y172 t175 t176 _ ?side1 ?side2 ?side3 A1.out).mono ?_); (case side1 => repeat (first | exact (Kd.N_reads' HO174.out).2.2 | (with_reducible refine Kd.C_alloc ?_ _) | (with_reducible refine Kd.C_drewN ?_ _) | (with_reducible refine Kd.C_drew ?_))); (case side2 => exact (Kd.N_reads' HO174.out).2.1); (case side3 => exact TabsW.below HT0.out belA); rintro e w63 ⟨rfl, hb⟩; refine ⟨_, rfl, ?_⟩; have n0_ := Aside0.mk (Kd.N_below (kdN_ HO174.out) hb); have n1_ := Aside0.mk (below_step belA hb); clear HO174; clear HB; have HO174 := n0_; have HB := n1_; clear n0_ n1_; (try clear hb); (try clear hb2); (try clear hk); (try clear hi)) | ((with_reducible refine gate_callee (f := 32) rfl ?_); refine goesL_ (some 17) rfl rfl Tryd.func32 (by kernel_rfl) rfl #[.string t175] rfl argA ?_; (with_reducible refine (seal_Take.calls t175 t177 t178 _ A2.out).mono ?_); rintro e w64 ⟨rfl, hb⟩; refine ⟨_, rfl, ?_⟩; have n0_ := Aside0.mk (Kd.N_below (kdN_ HO174.out) hb); have n1_ := Aside0.mk (below_step belA hb); clear HO174; clear HB; have HO174 := n0_; have HB := n1_; clear n0_ n1_; (try clear hb); (try clear hb2); (try clear hk); (try clear hi)) | ((with_reducible refine gate_callee (f := 12) rfl ?_); refine goesL_ (some 22) rfl rfl Tryd.func12 (by kernel_rfl) rfl #[.string t175] rfl argA ?_; (with_reducible refine (dir_Take.calls k t175 t179 t180 _ ?side1 A3.out).mono ?_); (case side1 => exact TabsW.below HT0.out belA); rintro e w65 ⟨v181, rfl, ho0, hb⟩; refine ⟨_, rfl, ?_⟩; have n0_ := Aside0.mk (Kd.N_elder' (kdN_ HO174.out) (by first | exact Kd.N_base ho0 | exact Kd.N_base (Kd.S_N (Kd.S_bound ho0))) hb); have n1_ := Aside0.mk (Kd.N_lower (Kd.N_mono (ok' := fun k_ => some k_ ≠ (.slice Ao62 y172.length co62 : Value).ownBlock) (Kd.S_N (Kd.S_bound ho0)) (fun k_ hk_ => (Kd.fresh' (Kd.N_lt (kdN_ HO174.out)) k_ hk_.2.1))) (below_size belA)); have n2_ := Aside0.mk (below_step belA hb); clear HO174; clear HB; have HO174 := n0_; have HO182 := n1_; have HB := n2_; clear n0_ n1_ n2_; (try clear hb); (try clear hb2); (try clear hk); (try clear hi); (try clear ho0)))
  go_ret
  exact ⟨by first | rfl | (simp [errW_none, errW_some] <;> rfl) | (simp [*, errW_none, errW_some] <;> rfl), by repeat (first | (with_reducible first | exact HB.out | apply below_alloc | apply pw_below_drewN | apply below_drew1) | exact HB.out)⟩
def rootcellarref2_Put.l0 : Nat → Int → Int → List Int → Int → Option (ByteArray)
 | 0, _, _, _, _ => none
 | k + 1, x0, x1, x5, x6 => if x6 < x1 then (if x6 < 8 then (if x5.length < 140737488355328 then (rootcellarref2_Put.l0 k (IntKind.u64.wrap (Int.tdiv x0 256)) x1 (x5 ++ [(Int.tmod x0 256) % 256]) (wrap64 (x6 + 1))) else (none)) else (some (strOfNums x5))) else (some (strOfNums x5))
def rootcellarref2_Put.f (k : Nat) (a0 : Int) (a1 : Int) : Option (ByteArray) := rootcellarref2_Put.l0 k a0 a1 ([] : List Int) 0
mutual
def rootcellarref3_Sum.l0 : Nat → ByteArray → Int → Int → Option (Int)
 | 0, _, _, _ => none
 | k + 1, x0, x3, x4 => if x4 < (x0.size : Int) then (if 0 ≤ x4 then (rootcellarref3_Sum.l1 k x0 x3 x4 ((bt x0 x4) % 4294967296) 0) else (none)) else (some (Go.bits .xor .u32 x3 4294967295))
def rootcellarref3_Sum.l1 : Nat → ByteArray → Int → Int → Int → Int → Option (Int)
 | 0, _, _, _, _, _ => none
 | k + 1, x0, x3, x4, x5, x6 => if x6 < 8 then (if (Go.bits .and .u32 (Go.bits .xor .u32 x3 x5) 1) = 1 then (rootcellarref3_Sum.l1 k x0 (Go.bits .xor .u32 ((Int.tdiv x3 2) % 4294967296) 3988292384) x4 ((Int.tdiv x5 2) % 4294967296) (wrap64 (x6 + 1))) else (rootcellarref3_Sum.l1 k x0 ((Int.tdiv x3 2) % 4294967296) x4 ((Int.tdiv x5 2) % 4294967296) (wrap64 (x6 + 1)))) else (rootcellarref3_Sum.l0 k x0 x3 (wrap64 (x4 + 1)))
end
def rootcellarref3_Sum.f (k : Nat) (a0 : ByteArray) : Option (Int) := rootcellarref3_Sum.l0 k a0 4294967295 0
def rootcellarref3_Put.f (k : Nat) (a0 : ByteArray) : Option (ByteArray) := (rootcellarref3_Sum.f k a0).bind fun t187 => ((rootcellarref2_Put.f k (IntKind.u64.wrap (t187)) 4).bind fun t188 => (if a0.size + t188.size ≤ 9223372036854775807 then (some (a0 ++ t188)) else (none)))
def rootcellarref1_more.f (a0 : ByteArray) (a1 : Int) : Option (Bool) := if a1 < (a0.size : Int) then (if 0 ≤ a1 then (if (bt a0 a1) ≥ 128 then (some (decide ((bt a0 a1) ≤ 191))) else (some false)) else (none)) else (some false)
set_option maxHeartbeats 8000000 in
set_option maxRecDepth 100000 in
theorem rootcellarref1_more.calls (a0 : ByteArray) (a1 : Int) (r : Bool) (w : World) (h : rootcellarref1_more.f a0 a1 = some r) :
  Calls Tryd.prog 107 #[.string a0, .int .i64 a1] w fun e w' => e = .returned (.bool r) ∧ Drawn0 w w' := by
 have H : (if a1 < (a0.size : Int) then (if 0 ≤ a1 then (if (bt a0 a1) ≥ 128 then (some (decide ((bt a0 a1) ≤ 191))) else (some false)) else (none)) else (some false)) = some r := h
 clear h
 by_cases c3 : a1 < (a0.size : Int)
 ·rw [if_pos c3] at H
  have c3b0 : decide (a1 < (a0.size : Int)) = true := decide_eq_true c3
  clear c3
  by_cases c4 : 0 ≤ a1
  ·rw [if_pos c4] at H
   have c4b0 : decide (0 ≤ a1) = true := decide_eq_true c4
   clear c4
   by_cases c6 : (bt a0 a1) ≥ 128
   ·rw [if_pos c6] at H
    have c6b0 : decide (128 ≤ (bt a0 a1)) = true := decide_eq_true c6
    clear c6
    obtain rfl := Option.some.inj H
    have p5 : 0 ≤ (a1 : Int) := of_decide_eq_true asA
    have q5 : a1 < (a0.size : Int) := of_decide_eq_true asA
    have hx5 := bt_at a0 a1
    replace p5 := eq_true p5
    replace q5 := eq_true q5
    have p7 : 0 ≤ (a1 : Int) := of_decide_eq_true asA
    have q7 : a1 < (a0.size : Int) := of_decide_eq_true asA
    have hx7 := bt_at a0 a1
    replace p7 := eq_true p7
    replace q7 := eq_true q7
    go_enter Tryd.func107, Tryd.ntmps107
    go_wp2
    go_ret
    exact ⟨by first | rfl | (simp; done) | (simp [*]; done), by repeat (first | exact Drawn0.refl _ | apply Drawn0.step)⟩
   ·rw [if_neg c6] at H
    have c6b0 : decide (128 ≤ (bt a0 a1)) = false := decide_eq_false c6
    clear c6
    obtain rfl := Option.some.inj H
    have p5 : 0 ≤ (a1 : Int) := of_decide_eq_true asA
    have q5 : a1 < (a0.size : Int) := of_decide_eq_true asA
    have hx5 := bt_at a0 a1
    replace p5 := eq_true p5
    replace q5 := eq_true q5
    go_enter Tryd.func107, Tryd.ntmps107
    go_wp2
    go_ret
    exact ⟨by first | rfl | (simp; done) | (simp [*]; done), by repeat (first | exact Drawn0.refl _ | apply Drawn0.step)⟩
  ·rw [if_neg c4] at H
   exact absurd H (by simp)
 ·rw [if_neg c3] at H
  have c3b0 : decide (a1 < (a0.size : Int)) = false := decide_eq_false c3
  clear c3
  obtain rfl := Option.some.inj H
  go_enter Tryd.func107, Tryd.ntmps107
  go_wp2
  go_ret
  exact ⟨by first | rfl | (simp; done) | (simp [*]; done), by repeat (first | exact Drawn0.refl _ | apply Drawn0.step)⟩
end Go.Proofs.YtppbcankhkgpfaaDoor.PDq
