-- laid by gprint.py (this session's own program) out of the translation: Lean checks it
import Derived.Test.YtppbcankhkgpfaaDoorPDirx0
import Derived.Test.YtppbcankhkgpfaaDoorPDirx11
import Derived.Test.YtppbcankhkgpfaaDoorPDirx13
import Derived.Test.YtppbcankhkgpfaaDoorPDirx18
import Derived.Outline
--compressed
namespace Go.Proofs.YtppbcankhkgpfaaDoor.PDir
open Go.RowKit Go.Proofs.YtppbcankhkgpfaaDoorW.PrintWords Go.Proofs.YtppbcankhkgpfaaDoorW.PrintLast Go.Proofs.YtppbcankhkgpfaaDoorW.PrintMore
attribute [local go_sem] max2_int min2_int max_two min_two max_three min_three max_four min_four   -- for this text's walks alone
attribute [local go_sem high] hw_str_leq hw_str_gtr
set_option linter.unusedVariables false
set_option linter.unusedSimpArgs false
def dir_Put.f (k : Nat) (l0 : List S43) : Option (ByteArray × Int) := (dir_directory.f k l0).bind fun d => if d = true then (if (dirL l0).length ≤ 140737488355328 then (seal_Put.f ⟨(dirL l0).toArray⟩).bind fun t => some (t, 0) else none) else some ((⟨#[]⟩ : ByteArray), 1)
theorem dir_Put.mono : ∀ a0 k, LeO (dir_Put.f k a0) (dir_Put.f (k + 1) a0) := by
 intro a0 k
 unfold dir_Put.f
 exact LeO.bind (dir_directory.mono _ _) (fun _ => LeO.refl _)
theorem lenA {M : Nat} (acc : List UInt8) {x : S43} (n : Int) (h : acc.length + (fileL x).length ≤ M) (hf : (fileL x).length = 1 + (x.f0.size + (4 + (1 + (x.f2.flatMap spanL).length)))) : (acc ++ numL n 1).length + x.f0.size ≤ M := by
 rw [List.length_append, numL_length]
 omega
theorem lenB {M : Nat} (acc : List UInt8) {x : S43} (n : Int) (h : acc.length + (fileL x).length ≤ M) (hf : (fileL x).length = 1 + (x.f0.size + (4 + (1 + (x.f2.flatMap spanL).length)))) : (acc ++ numL n 1 ++ x.f0.data.toList).length + 4 ≤ M := by
 have : x.f0.data.size = x.f0.size := rfl
 simp only [List.length_append, numL_length, Array.length_toList]
 omega
theorem lenC {M : Nat} (acc : List UInt8) {x : S43} (n : Int) {m : Int} (h : acc.length + (fileL x).length ≤ M) (hf : (fileL x).length = 1 + (x.f0.size + (4 + (1 + (x.f2.flatMap spanL).length)))) : (acc ++ numL n 1 ++ x.f0.data.toList ++ numL m 4).length + 1 ≤ M := by
 have : x.f0.data.size = x.f0.size := rfl
 simp only [List.length_append, numL_length, Array.length_toList]
 omega
set_option maxHeartbeats 4000000 in
set_option maxRecDepth 100000 in
theorem dir_Put.calls (k : Nat) (A0 : Option Addr) (c0 : Nat) (l0 : List S43) (r1 : ByteArray) (r2 : Int) (w : World) (hr0 : Kd.C k43 w A0 l0.length l0) (hc0 : l0.length ≤ c0) (ht : TabsW w) (h : dir_Put.f k l0 = some (r1, r2)) :
  Calls Tryd.prog 16 #[.slice A0 l0.length c0] w fun e w' => e = .returned (.tuple #[.string r1, .int .i64 r2]) ∧ Below w.heap.size w w' := by
 unfold dir_Put.f at h
 obtain ⟨d, hd, h⟩ := Option.bind_eq_some_iff.1 h
 have hbig : l0.length ≤ 9223372036854775807 := hr0.2.1
 have HD := Aside0.mk (dir_directory.calls k A0 c0 l0 d w hr0 hc0 ht hd)
 have HR0 := Aside0.mk hr0
 clear hr0 hc0 ht hd
 cases d with
 | false =>
  rw [if_neg Bool.false_ne_true] at h
  obtain ⟨rfl, rfl⟩ := Prod.mk.inj (Option.some.inj h)
  clear h
  go_enter Tryd.func16, Tryd.ntmps16
  go_wp2_with (go_at_call 38; refine HD.out.mono ?_; rintro e w1 ⟨rfl, hb1⟩)
  go_ret2
  exact ⟨rfl, hb1⟩
 | true =>
  rw [if_pos rfl] at h
  by_cases hl : (dirL l0).length ≤ 140737488355328
  ·rw [if_pos hl] at h
   obtain ⟨t, hseal, h⟩ := Option.bind_eq_some_iff.1 h
   obtain ⟨rfl, rfl⟩ := Prod.mk.inj (Option.some.inj h)
   have HL := Aside0.mk hl
   clear h hl
   go_enter Tryd.func16, Tryd.ntmps16
   go_wp2_with (first | (go_at_call 38; refine HD.out.mono ?_; rintro e w1 ⟨rfl, hb1⟩; have HB1 := Aside0.mk hb1; clear hb1) | (go_at_call 42; (refine (dir_Put_1.calls (l0.length : Int) 1 1 rfl (by decide) w1.heap.size w1.heap.size [] _ (Lib.IsBuilderF.of (Lib.fresh_isBuilder 79 5 w1)) (by simp) (by simp)).mono ?_; rintro e w2 ⟨rfl, h2, b2, k2⟩)))
   have HBF0 := Aside0.mk h2
   have HBW0 := Aside0.mk (Below.trans ((Below.refl w1.heap.size w1).alloc (Nat.le_refl _) _) b2)
   clear h2 b2 k2
   go_loopg [20] l0.length (fun gg s20 wr => ∃ i : Nat, i ≤ l0.length ∧ l0.length - i ≤ gg ∧ s20 = .int .i64 i ∧ Aside0 (Lib.IsBuilderF 79 5 w1.heap.size w1.heap.size (Lib.byteCells (numL (l0.length : Int) 1 ++ (l0.take i).flatMap fileL)) wr) ∧ Aside0 (Below w1.heap.size w1 wr))
   case atStart => exact ⟨0, Nat.zero_le _, by omega, rfl, ⟨by simpa using HBF0.out⟩, HBW0⟩
   case round =>
    clear HBF0 HBW0
    obtain ⟨i, hi, hg, rfl, HBF, HBW⟩ := hrel
    by_cases hlt : i < l0.length
    ·have hltz : (i : Int) < (l0.length : Int) := by omega
     obtain ⟨ad, A2, c2, e0, hx0, hx1, hx2, hl2, hi2⟩ := at_T43 HR0.out (i : Int) (by omega) hltz
     cases e0
     have hbw := (HB1.out.trans (Below.mono HBW.out (below_size HB1.out)))
     have hrd : rd_T43 l0 (i : Int) = l0[i] := by simp [rd_T43, List.getD_eq_getElem?_getD, hlt]
     rw [hrd] at hx0 hx1 hx2 hl2 hi2
     simp only [Int.toNat_natCast] at hx0 hx1 hx2
     replace hx0 := (hbw.cell (World.block_lt_of_cell? w _ hx0)).trans hx0
     replace hx1 := (hbw.cell (World.block_lt_of_cell? w _ hx1)).trans hx1
     replace hx2 := (hbw.cell (World.block_lt_of_cell? w _ hx2)).trans hx2
     have HC2 := Aside0.mk hi2
     have HB := Aside0.mk hbw
     clear hi2 hbw hrd
     have hacc : (l0.take (i + 1)).flatMap fileL = (l0.take i).flatMap fileL ++ fileL l0[i] := by
      rw [List.take_succ_eq_append_getElem hlt, List.flatMap_append]
      show _ ++ (fileL l0[i] ++ []) = _
      rw [List.append_nil]
     have HACC := Aside0.mk hacc
     clear hacc
     have hle : (numL (l0.length : Int) 1 ++ (l0.take i).flatMap fileL).length + (fileL l0[i]).length ≤ 140737488355328 := by
      have h1 := HL.out
      unfold dirL at h1
      have h2 : l0.flatMap fileL = (l0.take (i + 1)).flatMap fileL ++ (l0.drop (i + 1)).flatMap fileL := by rw [← List.flatMap_append, List.take_append_drop]
      rw [h2, HACC.out] at h1
      simp only [List.length_append] at h1 ⊢
      omega
     have HLE := Aside0.mk hle
     clear hle
     obtain ⟨acc, hac⟩ : ∃ a, a = numL (l0.length : Int) 1 ++ (l0.take i).flatMap fileL := ⟨_, rfl⟩
     rw [← hac] at HBF HLE
     have HAC := Aside0.mk hac
     clear hac
     generalize l0[i] = x at hx0 hx1 hx2 hl2 HC2 HACC HLE
     have hblt := bf_lt HBF.out
     have hfl : (fileL x).length = 1 + (x.f0.size + (4 + (1 + (x.f2.flatMap spanL).length))) := by
      unfold fileL
      simp only [List.length_append, numL_length, Array.length_toList]
      rfl
     have HFL := Aside0.mk hfl
     clear hfl
     go_wp2_with (first | (go_at_call 42; ((with_reducible refine (dir_Put_1.calls (x.f0.size : Int) 1 1 rfl (by decide) w1.heap.size w1.heap.size acc _ (bf_below HBF.out ((Below.refl _ wr).alloc (Nat.le_refl _) _)) (by have := HLE.out; have := HFL.out; omega) (by simp; omega)).mono ?_); rintro e w3 ⟨rfl, h3, b3, k3⟩; have hF3 := k3 wr.heap.size _ (blk_new wr _) (fun e_ => absurd (Option.some.inj e_) (by omega)) (fun c fz e_ => by injection e_ with _ e2_ _; exact absurd e2_ (by decide)); have hc30 := blk_cell hF3 0; have hc31 := blk_cell hF3 1; have hc32 := blk_cell hF3 2)) | (go_at_call 43; ((with_reducible refine (builder_WS.calls w1.heap.size w1.heap.size _ x.f0 w3 h3 (lenA acc _ HLE.out HFL.out) (Nat.le_of_lt (bf_lt h3))).mono ?_); rintro e w4 ⟨rfl, h4, b4, k4⟩; have hF4 := k4 wr.heap.size _ hF3 (fun e_ => absurd (Option.some.inj e_) (by omega)) (fun c fz e_ => by injection e_ with _ e2_ _; exact absurd e2_ (by decide)); have hc40 := blk_cell hF4 0; have hc41 := blk_cell hF4 1; have hc42 := blk_cell hF4 2)) | (go_at_call 42; ((with_reducible refine (dir_Put_1.calls x.f1 4 4 rfl (by decide) w1.heap.size w1.heap.size _ w4 h4 (lenB acc _ HLE.out HFL.out) (Nat.le_of_lt (bf_lt h4))).mono ?_); rintro e w5 ⟨rfl, h5, b5, k5⟩; have hF5 := k5 wr.heap.size _ hF4 (fun e_ => absurd (Option.some.inj e_) (by omega)) (fun c fz e_ => by injection e_ with _ e2_ _; exact absurd e2_ (by decide)); have hc50 := blk_cell hF5 0; have hc51 := blk_cell hF5 1; have hc52 := blk_cell hF5 2)) | (go_at_call 42; ((with_reducible refine (dir_Put_1.calls (x.f2.length : Int) 1 1 rfl (by decide) w1.heap.size w1.heap.size _ w5 h5 (lenC acc _ HLE.out HFL.out) (Nat.le_of_lt (bf_lt h5))).mono ?_); rintro e w6 ⟨rfl, h6, b6, k6⟩; have hF6 := k6 wr.heap.size _ hF5 (fun e_ => absurd (Option.some.inj e_) (by omega)) (fun c fz e_ => by injection e_ with _ e2_ _; exact absurd e2_ (by decide)); have hc60 := blk_cell hF6 0; have hc61 := blk_cell hF6 1; have hc62 := blk_cell hF6 2)))
     have hB6 : Below w1.heap.size w1 w6 := (((((HBW.out).alloc (Nat.le_of_lt hblt) _).trans b3).trans b4).trans b5).trans b6
     have HB6 := Aside0.mk hB6
     have HBF6 := Aside0.mk h6
     clear h3 b3 k3 h4 b4 k4 h5 b5 k5 h6 b6 k6 hF3 hF4 hF5 hF6 hc30 hc31 hc32 hc40 hc41 hc42 hc50 hc51 hc52 hc60 hc61 hc62 hB6
     have hacc6 : acc ++ numL (x.f0.size : Int) 1 ++ x.f0.data.toList ++ numL x.f1 4 ++ numL (x.f2.length : Int) 1 ++ x.f2.flatMap spanL = acc ++ fileL x := by
      unfold fileL
      simp only [List.append_assoc]
     generalize acc ++ numL (x.f0.size : Int) 1 ++ x.f0.data.toList ++ numL x.f1 4 ++ numL (x.f2.length : Int) 1 = acc6 at HBF6 hacc6
     have hlen6 : acc6.length + (x.f2.flatMap spanL).length ≤ 140737488355328 := by
      have h1 := HLE.out
      rw [← List.length_append, ← hacc6, List.length_append] at h1
      exact h1
     have HACC6 := Aside0.mk hacc6
     have HLEN6 := Aside0.mk hlen6
     clear hacc6 hlen6
     have hbig2 : x.f2.length ≤ 9223372036854775807 := HC2.out.2.1
     go_loopg [44] x.f2.length (fun gg s44 wi => ∃ j : Nat, j ≤ x.f2.length ∧ x.f2.length - j ≤ gg ∧ s44 = .int .i64 j ∧ Aside0 (Lib.IsBuilderF 79 5 w1.heap.size w1.heap.size (Lib.byteCells (acc6 ++ (x.f2.take j).flatMap spanL)) wi) ∧ Aside0 (Below w1.heap.size w1 wi))
     case atStart => exact ⟨0, Nat.zero_le _, by omega, rfl, ⟨by simpa using HBF6.out⟩, HB6⟩
     case round =>
      clear HBF6 HB6
      obtain ⟨j, hj, hgj, rfl, HBI, HBJ⟩ := hrel
      by_cases hltj : j < x.f2.length
      ·have hltjz : (j : Int) < (x.f2.length : Int) := by omega
       obtain ⟨ad2, e2, hy0, hy1⟩ := at_T64 HC2.out (j : Int) (by omega) hltjz
       cases e2
       have hrd : rd_T64 x.f2 (j : Int) = x.f2[j] := by simp [rd_T64, List.getD_eq_getElem?_getD, hltj]
       rw [hrd] at hy0 hy1
       simp only [Int.toNat_natCast] at hy0 hy1
       have hbwj := (HB1.out.trans (Below.mono HBJ.out (below_size HB1.out)))
       replace hy0 := (hbwj.cell (World.block_lt_of_cell? w _ hy0)).trans hy0
       replace hy1 := (hbwj.cell (World.block_lt_of_cell? w _ hy1)).trans hy1
       clear hrd hbwj
       have haccj : (x.f2.take (j + 1)).flatMap spanL = (x.f2.take j).flatMap spanL ++ spanL x.f2[j] := by
        rw [List.take_succ_eq_append_getElem hltj, List.flatMap_append]
        show _ ++ (spanL x.f2[j] ++ []) = _
        rw [List.append_nil]
       have hlej : (acc6 ++ (x.f2.take j).flatMap spanL).length + 4 ≤ 140737488355328 := by
        have h1 := HLEN6.out
        have h2 : x.f2.flatMap spanL = (x.f2.take (j + 1)).flatMap spanL ++ (x.f2.drop (j + 1)).flatMap spanL := by rw [← List.flatMap_append, List.take_append_drop]
        rw [h2, haccj] at h1
        have h3 : (spanL x.f2[j]).length = 4 := by unfold spanL; rw [List.length_append, numL_length, numL_length]
        simp only [List.length_append] at h1 ⊢
        omega
       have HACCJ := Aside0.mk haccj
       have HLEJ := Aside0.mk hlej
       clear haccj hlej
       obtain ⟨accj, haj⟩ : ∃ a, a = acc6 ++ (x.f2.take j).flatMap spanL := ⟨_, rfl⟩
       rw [← haj] at HBI HLEJ
       have HAJ := Aside0.mk haj
       clear haj
       generalize x.f2[j] = y at hy0 hy1 HACCJ
       have hbltj := bf_lt HBI.out
       go_wp2_with (first | (go_at_call 42; ((with_reducible refine (dir_Put_1.calls y.f0 2 2 rfl (by decide) w1.heap.size w1.heap.size accj _ (bf_below HBI.out ((Below.refl _ wr).alloc (Nat.le_refl _) _)) (by have := HLEJ.out; omega) (by simp; omega)).mono ?_); rintro e v3 ⟨rfl, i3, d3, q3⟩; have hG3 := q3 wr.heap.size _ (blk_new wr _) (fun e_ => absurd (Option.some.inj e_) (by omega)) (fun c fz e_ => by injection e_ with _ e2_ _; exact absurd e2_ (by decide)); have hg30 := blk_cell hG3 0; have hg31 := blk_cell hG3 1)) | (go_at_call 42; ((with_reducible refine (dir_Put_1.calls y.f1 2 2 rfl (by decide) w1.heap.size w1.heap.size _ v3 i3 (by have := HLEJ.out; rw [List.length_append, numL_length]; omega) (Nat.le_of_lt (bf_lt i3))).mono ?_); rintro e v4 ⟨rfl, i4, d4, q4⟩)))
       go_roundg (x.f2.length - (j + 1))
       case measure => omega
       case rel => exact ⟨j + 1, by omega, by omega, by go_num, ⟨by rw [HACCJ.out, ← List.append_assoc, ← HAJ.out]; unfold spanL; rw [← List.append_assoc]; exact i4⟩, ⟨((HBJ.out.alloc (Nat.le_of_lt hbltj) _).trans d3).trans d4⟩⟩
      ·have hltjz : ¬ (j : Int) < (x.f2.length : Int) := by omega
       have hjj : x.f2.take j = x.f2 := List.take_of_length_le (by omega)
       rw [hjj] at HBI
       clear hjj
       go_wp2
       go_roundg (l0.length - (i + 1))
       case measure => omega
       case rel => exact ⟨i + 1, by omega, by omega, by go_num, ⟨by rw [HACC.out, ← List.append_assoc, ← HAC.out, ← HACC6.out]; exact HBI.out⟩, HBJ⟩
    ·have hltz : ¬ (i : Int) < (l0.length : Int) := by omega
     have hii : l0.take i = l0 := List.take_of_length_le (by omega)
     rw [hii] at HBF
     clear hii
     unfold dirL at hseal
     go_wp2_with (first | (go_at_call 46; ((with_reducible refine (builder_S.calls w1.heap.size w1.heap.size _ wr HBF.out (below_size HBW.out)).mono ?_); rintro e w3 ⟨rfl, b3⟩)) | (go_at_call 45; ((with_reducible refine (seal_Put.calls _ _ _ hseal).mono ?_); rintro e w4 ⟨rfl, hb4⟩)))
     go_ret2
     exact ⟨rfl, HB1.out.trans (Below.mono ((HBW.out.trans b3).trans (Below.mono hb4 (below_size (HBW.out.trans b3)))) (below_size HB1.out))⟩
  ·rw [if_neg hl] at h
   cases h
end Go.Proofs.YtppbcankhkgpfaaDoor.PDir
