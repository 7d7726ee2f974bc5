-- laid by gprint.py (this session's own program) out of the translation: Lean checks it
import Derived.Test.YtppbcankhkgpfaaDoorPDirx0
import Derived.Laws.Rows
import Derived.Outline
--compressed
namespace Go.Proofs.YtppbcankhkgpfaaDoor.PDir
open Go.RowKit Go.Proofs.YtppbcankhkgpfaaDoorW.PrintWords Go.Proofs.YtppbcankhkgpfaaDoorW.PrintLast Go.Proofs.YtppbcankhkgpfaaDoorW.PrintMore
attribute [local go_sem] max2_int min2_int max_two min_two max_three min_three max_four min_four   -- for this text's walks alone
attribute [local go_sem high] hw_str_leq hw_str_gtr
set_option linter.unusedVariables false
set_option linter.unusedSimpArgs false
def crcS (n : Int) : Int := bits .xor .u32 (n / 2) (bits .and .u32 3988292384 ((-(bits .and .u32 n 1)) % 4294967296))
def crcI : Nat → Int → Int
 | 0, n => n
 | j + 1, n => crcS (crcI j n)
def crcT (i : Nat) : Int := crcI 4 (i : Int)
def crcCs (k : Nat) : Array Value := ((List.range 16).map fun j => Value.int .u32 (if j < k then crcT j else 0)).toArray
theorem crcCs_get (k j : Nat) (h : j < 16) : (crcCs k)[j]? = some (.int .u32 (if j < k then crcT j else 0)) := by
 unfold crcCs
 simp [h]
theorem crcCs_set (k : Nat) (h : k < 16) : (crcCs k).setIfInBounds k (.int .u32 (crcT k)) = crcCs (k + 1) := by
 apply Array.toList_inj.1
 rw [Array.toList_setIfInBounds]
 unfold crcCs
 apply List.ext_getElem?
 intro i
 rw [List.getElem?_set]
 by_cases h16 : i < 16
 ·by_cases he : k = i
  ·subst he
   simp [h]
  ·rw [if_neg he]
   simp only [List.getElem?_map, List.getElem?_range h16, Option.map_some]
   congr 2
   by_cases hl : i < k
   ·rw [if_pos hl, if_pos (by omega)]
   ·rw [if_neg hl, if_neg (by omega)]
 ·rw [if_neg (by omega)]
  simp [h16]
theorem crcCs_size (k : Nat) : (crcCs k).size = 16 := by unfold crcCs; simp
theorem made_end (w W : World) (tmps : Array Value) (g15 : W.heap[w.heap.size]? = some (.cells (crcCs 16) 118 (0, 0))) (hb : Below w.heap.size w W) (ht : tmps.getD 0 undef = .pointer (some ⟨w.heap.size, 0, none⟩)) :
  bodyPost Tryd.prog Tryd.f78 (fun e w' => e = .returned (.agg (crcCs 16)) ∧ Below w.heap.size w w') Exit.ret { tmps := tmps, defers := [] } W :=
 bodyPost_ret (v := .agg (crcCs 16)) (results_cell_row (by kernel_rfl) tmps W w.heap.size 118 (crcCs 16) (0, 0) _ ht g15 Tryd.underlying118 rfl (by rw [crcCs_size]; kernel_rfl)) rfl ⟨rfl, hb⟩
set_option maxHeartbeats 2000000 in
set_option maxRecDepth 100000 in
theorem seal_made.calls (w : World) : Calls Tryd.prog 78 #[] w fun e w' => e = .returned (.agg (crcCs 16)) ∧ Below w.heap.size w w' := by
 have h0 : (w.alloc (.cells #[.int .u32 0, .int .u32 0, .int .u32 0, .int .u32 0, .int .u32 0, .int .u32 0, .int .u32 0, .int .u32 0, .int .u32 0, .int .u32 0, .int .u32 0, .int .u32 0, .int .u32 0, .int .u32 0, .int .u32 0, .int .u32 0] 118)).heap[w.heap.size]? = some (.cells (crcCs 0) 118 (0, 0)) := blk_new w _
 have h1 : ((w.alloc (.cells #[.int .u32 0, .int .u32 0, .int .u32 0, .int .u32 0, .int .u32 0, .int .u32 0, .int .u32 0, .int .u32 0, .int .u32 0, .int .u32 0, .int .u32 0, .int .u32 0, .int .u32 0, .int .u32 0, .int .u32 0, .int .u32 0] 118)).alloc (.cells #[.int .u32 0, .int .u32 0, .int .u32 0, .int .u32 0, .int .u32 0, .int .u32 0, .int .u32 0, .int .u32 0, .int .u32 0, .int .u32 0, .int .u32 0, .int .u32 0, .int .u32 0, .int .u32 0, .int .u32 0, .int .u32 0] 118)).heap[w.heap.size + 1]? = some (.cells (crcCs 0) 118 (0, 0)) := by
  have := blk_new (w.alloc (.cells #[.int .u32 0, .int .u32 0, .int .u32 0, .int .u32 0, .int .u32 0, .int .u32 0, .int .u32 0, .int .u32 0, .int .u32 0, .int .u32 0, .int .u32 0, .int .u32 0, .int .u32 0, .int .u32 0, .int .u32 0, .int .u32 0] 118)) (.cells (crcCs 0) 118 (0, 0))
  rwa [World.size_alloc] at this
 have HA0 := Aside0.mk (blk_alloc h0 (.cells #[.int .u32 0, .int .u32 0, .int .u32 0, .int .u32 0, .int .u32 0, .int .u32 0, .int .u32 0, .int .u32 0, .int .u32 0, .int .u32 0, .int .u32 0, .int .u32 0, .int .u32 0, .int .u32 0, .int .u32 0, .int .u32 0] 118))
 have HA1 := Aside0.mk h1
 have HB0 := Aside0.mk (((Below.refl w.heap.size w).alloc (Nat.le_refl _) (.cells #[.int .u32 0, .int .u32 0, .int .u32 0, .int .u32 0, .int .u32 0, .int .u32 0, .int .u32 0, .int .u32 0, .int .u32 0, .int .u32 0, .int .u32 0, .int .u32 0, .int .u32 0, .int .u32 0, .int .u32 0, .int .u32 0] 118)).alloc (by simp) (.cells #[.int .u32 0, .int .u32 0, .int .u32 0, .int .u32 0, .int .u32 0, .int .u32 0, .int .u32 0, .int .u32 0, .int .u32 0, .int .u32 0, .int .u32 0, .int .u32 0, .int .u32 0, .int .u32 0, .int .u32 0, .int .u32 0] 118))
 clear h0 h1
 go_enter Tryd.func78, Tryd.ntmps78
 go_wp2
 go_loopg [4] 16 (fun gg s4 wr => ∃ k : Nat, k ≤ 16 ∧ 16 - k ≤ gg ∧ s4 = .int .i64 k ∧ Aside0 (wr.heap[w.heap.size]? = some (.cells (crcCs 0) 118 (0, 0))) ∧ Aside0 (wr.heap[w.heap.size + 1]? = some (.cells (crcCs k) 118 (0, 0))) ∧ Aside0 (Below w.heap.size w wr))
 case atStart => exact ⟨0, by omega, by omega, rfl, HA0, HA1, HB0⟩
 case round =>
  clear HA0 HA1 HB0
  obtain ⟨k, hk, hg, rfl, HA, HC, HB⟩ := hrel
  by_cases hlt : k < 16
  ·have hltz : decide ((k : Int) < 16) = true := decide_eq_true (by omega)
   have hkz : (0 : Int) ≤ (k : Int) := by omega
   have hkz2 : (k : Int) < 16 := by omega
   have hc := blk_cell HC.out k
   have hf := blk_frozen HC.out k
   rw [crcCs_get k k hlt, if_neg (Nat.lt_irrefl k)] at hc
   go_wp2
   go_loopg [3, 9] 4 (fun gg s3 s9 wi => ∃ j : Nat, j ≤ 4 ∧ 4 - j ≤ gg ∧ s9 = .int .i64 j ∧ s3 = .int .u32 (crcI j (k : Int)) ∧ wi = wr)
   case atStart => exact ⟨0, by omega, by omega, rfl, rfl, rfl⟩
   case round =>
    obtain ⟨j, hj, hgj, rfl, rfl, rfl⟩ := hrel
    by_cases hlj : j < 4
    ·have hltj : decide ((j : Int) < 4) = true := decide_eq_true (by omega)
     have hcs : crcI (j + 1) (k : Int) = crcS (crcI j (k : Int)) := rfl
     generalize crcI j (k : Int) = n at hcs
     go_wp2
     go_roundg (4 - (j + 1))
     case measure => omega
     case rel => exact ⟨j + 1, by omega, by omega, by go_num, by rw [hcs]; rfl, rfl⟩
    ·have hltj : decide ((j : Int) < 4) = false := decide_eq_false (by omega)
     have hj4 : j = 4 := by omega
     subst hj4
     have hset := crcCs_set k hlt
     have hT : crcI 4 (k : Int) = crcT k := rfl
     rw [hT]
     generalize crcT k = n at hset
     have HSET := Aside0.mk hset
     clear hset hT
     go_wp2
     go_roundg (16 - (k + 1))
     case measure => omega
     case rel => exact ⟨k + 1, by omega, by omega, by go_num, ⟨blk_far HA.out (by simp) _⟩, ⟨blk_put HC.out k _ HSET.out⟩, ⟨HB.out.setCell (by simp) _⟩⟩
  ·have hltz : decide ((k : Int) < 16) = false := decide_eq_false (by omega)
   have hkk : k = 16 := by omega
   subst hkk
   have c0 : wr.cell? ⟨w.heap.size + 1, 0, none⟩ = some (.int .u32 (crcT 0)) := (blk_cell HC.out 0).trans (crcCs_get 16 0 (by decide))
   have d0 : wr.cell? ⟨w.heap.size, 0, none⟩ = some (.int .u32 0) := (blk_cell HA.out 0).trans (crcCs_get 0 0 (by decide))
   have f0 := blk_frozen HA.out 0
   have c1 : wr.cell? ⟨w.heap.size + 1, 1, none⟩ = some (.int .u32 (crcT 1)) := (blk_cell HC.out 1).trans (crcCs_get 16 1 (by decide))
   have d1 : wr.cell? ⟨w.heap.size, 1, none⟩ = some (.int .u32 0) := (blk_cell HA.out 1).trans (crcCs_get 0 1 (by decide))
   have f1 := blk_frozen HA.out 1
   have c2 : wr.cell? ⟨w.heap.size + 1, 2, none⟩ = some (.int .u32 (crcT 2)) := (blk_cell HC.out 2).trans (crcCs_get 16 2 (by decide))
   have d2 : wr.cell? ⟨w.heap.size, 2, none⟩ = some (.int .u32 0) := (blk_cell HA.out 2).trans (crcCs_get 0 2 (by decide))
   have f2 := blk_frozen HA.out 2
   have c3 : wr.cell? ⟨w.heap.size + 1, 3, none⟩ = some (.int .u32 (crcT 3)) := (blk_cell HC.out 3).trans (crcCs_get 16 3 (by decide))
   have d3 : wr.cell? ⟨w.heap.size, 3, none⟩ = some (.int .u32 0) := (blk_cell HA.out 3).trans (crcCs_get 0 3 (by decide))
   have f3 := blk_frozen HA.out 3
   have c4 : wr.cell? ⟨w.heap.size + 1, 4, none⟩ = some (.int .u32 (crcT 4)) := (blk_cell HC.out 4).trans (crcCs_get 16 4 (by decide))
   have d4 : wr.cell? ⟨w.heap.size, 4, none⟩ = some (.int .u32 0) := (blk_cell HA.out 4).trans (crcCs_get 0 4 (by decide))
   have f4 := blk_frozen HA.out 4
   have c5 : wr.cell? ⟨w.heap.size + 1, 5, none⟩ = some (.int .u32 (crcT 5)) := (blk_cell HC.out 5).trans (crcCs_get 16 5 (by decide))
   have d5 : wr.cell? ⟨w.heap.size, 5, none⟩ = some (.int .u32 0) := (blk_cell HA.out 5).trans (crcCs_get 0 5 (by decide))
   have f5 := blk_frozen HA.out 5
   have c6 : wr.cell? ⟨w.heap.size + 1, 6, none⟩ = some (.int .u32 (crcT 6)) := (blk_cell HC.out 6).trans (crcCs_get 16 6 (by decide))
   have d6 : wr.cell? ⟨w.heap.size, 6, none⟩ = some (.int .u32 0) := (blk_cell HA.out 6).trans (crcCs_get 0 6 (by decide))
   have f6 := blk_frozen HA.out 6
   have c7 : wr.cell? ⟨w.heap.size + 1, 7, none⟩ = some (.int .u32 (crcT 7)) := (blk_cell HC.out 7).trans (crcCs_get 16 7 (by decide))
   have d7 : wr.cell? ⟨w.heap.size, 7, none⟩ = some (.int .u32 0) := (blk_cell HA.out 7).trans (crcCs_get 0 7 (by decide))
   have f7 := blk_frozen HA.out 7
   have c8 : wr.cell? ⟨w.heap.size + 1, 8, none⟩ = some (.int .u32 (crcT 8)) := (blk_cell HC.out 8).trans (crcCs_get 16 8 (by decide))
   have d8 : wr.cell? ⟨w.heap.size, 8, none⟩ = some (.int .u32 0) := (blk_cell HA.out 8).trans (crcCs_get 0 8 (by decide))
   have f8 := blk_frozen HA.out 8
   have c9 : wr.cell? ⟨w.heap.size + 1, 9, none⟩ = some (.int .u32 (crcT 9)) := (blk_cell HC.out 9).trans (crcCs_get 16 9 (by decide))
   have d9 : wr.cell? ⟨w.heap.size, 9, none⟩ = some (.int .u32 0) := (blk_cell HA.out 9).trans (crcCs_get 0 9 (by decide))
   have f9 := blk_frozen HA.out 9
   have c10 : wr.cell? ⟨w.heap.size + 1, 10, none⟩ = some (.int .u32 (crcT 10)) := (blk_cell HC.out 10).trans (crcCs_get 16 10 (by decide))
   have d10 : wr.cell? ⟨w.heap.size, 10, none⟩ = some (.int .u32 0) := (blk_cell HA.out 10).trans (crcCs_get 0 10 (by decide))
   have f10 := blk_frozen HA.out 10
   have c11 : wr.cell? ⟨w.heap.size + 1, 11, none⟩ = some (.int .u32 (crcT 11)) := (blk_cell HC.out 11).trans (crcCs_get 16 11 (by decide))
   have d11 : wr.cell? ⟨w.heap.size, 11, none⟩ = some (.int .u32 0) := (blk_cell HA.out 11).trans (crcCs_get 0 11 (by decide))
   have f11 := blk_frozen HA.out 11
   have c12 : wr.cell? ⟨w.heap.size + 1, 12, none⟩ = some (.int .u32 (crcT 12)) := (blk_cell HC.out 12).trans (crcCs_get 16 12 (by decide))
   have d12 : wr.cell? ⟨w.heap.size, 12, none⟩ = some (.int .u32 0) := (blk_cell HA.out 12).trans (crcCs_get 0 12 (by decide))
   have f12 := blk_frozen HA.out 12
   have c13 : wr.cell? ⟨w.heap.size + 1, 13, none⟩ = some (.int .u32 (crcT 13)) := (blk_cell HC.out 13).trans (crcCs_get 16 13 (by decide))
   have d13 : wr.cell? ⟨w.heap.size, 13, none⟩ = some (.int .u32 0) := (blk_cell HA.out 13).trans (crcCs_get 0 13 (by decide))
   have f13 := blk_frozen HA.out 13
   have c14 : wr.cell? ⟨w.heap.size + 1, 14, none⟩ = some (.int .u32 (crcT 14)) := (blk_cell HC.out 14).trans (crcCs_get 16 14 (by decide))
   have d14 : wr.cell? ⟨w.heap.size, 14, none⟩ = some (.int .u32 0) := (blk_cell HA.out 14).trans (crcCs_get 0 14 (by decide))
   have f14 := blk_frozen HA.out 14
   have c15 : wr.cell? ⟨w.heap.size + 1, 15, none⟩ = some (.int .u32 (crcT 15)) := (blk_cell HC.out 15).trans (crcCs_get 16 15 (by decide))
   have d15 : wr.cell? ⟨w.heap.size, 15, none⟩ = some (.int .u32 0) := (blk_cell HA.out 15).trans (crcCs_get 0 15 (by decide))
   have f15 := blk_frozen HA.out 15
   go_wp2
   clear c0 d0 f0 c1 d1 f1 c2 d2 f2 c3 d3 f3 c4 d4 f4 c5 d5 f5 c6 d6 f6 c7 d7 f7 c8 d8 f8 c9 d9 f9 c10 d10 f10 c11 d11 f11 c12 d12 f12 c13 d13 f13 c14 d14 f14 c15 d15 f15
   have g0 := blk_set HA.out 0 (.int .u32 (crcT 0))
   have g1 := blk_set g0 1 (.int .u32 (crcT 1))
   have g2 := blk_set g1 2 (.int .u32 (crcT 2))
   have g3 := blk_set g2 3 (.int .u32 (crcT 3))
   have g4 := blk_set g3 4 (.int .u32 (crcT 4))
   have g5 := blk_set g4 5 (.int .u32 (crcT 5))
   have g6 := blk_set g5 6 (.int .u32 (crcT 6))
   have g7 := blk_set g6 7 (.int .u32 (crcT 7))
   have g8 := blk_set g7 8 (.int .u32 (crcT 8))
   have g9 := blk_set g8 9 (.int .u32 (crcT 9))
   have g10 := blk_set g9 10 (.int .u32 (crcT 10))
   have g11 := blk_set g10 11 (.int .u32 (crcT 11))
   have g12 := blk_set g11 12 (.int .u32 (crcT 12))
   have g13 := blk_set g12 13 (.int .u32 (crcT 13))
   have g14 := blk_set g13 14 (.int .u32 (crcT 14))
   have g15 := blk_set g14 15 (.int .u32 (crcT 15))
   rw [crcCs_set 0 (by decide), crcCs_set 1 (by decide), crcCs_set 2 (by decide), crcCs_set 3 (by decide), crcCs_set 4 (by decide), crcCs_set 5 (by decide), crcCs_set 6 (by decide), crcCs_set 7 (by decide), crcCs_set 8 (by decide), crcCs_set 9 (by decide), crcCs_set 10 (by decide), crcCs_set 11 (by decide), crcCs_set 12 (by decide), crcCs_set 13 (by decide), crcCs_set 14 (by decide), crcCs_set 15 (by decide)] at g15
   have hb : Below w.heap.size w _ := (((((((((((((((HB.out.setCell (p := ⟨w.heap.size, 0, none⟩) (Nat.le_refl _) (.int .u32 (crcT 0))).setCell (p := ⟨w.heap.size, 1, none⟩) (Nat.le_refl _) (.int .u32 (crcT 1))).setCell (p := ⟨w.heap.size, 2, none⟩) (Nat.le_refl _) (.int .u32 (crcT 2))).setCell (p := ⟨w.heap.size, 3, none⟩) (Nat.le_refl _) (.int .u32 (crcT 3))).setCell (p := ⟨w.heap.size, 4, none⟩) (Nat.le_refl _) (.int .u32 (crcT 4))).setCell (p := ⟨w.heap.size, 5, none⟩) (Nat.le_refl _) (.int .u32 (crcT 5))).setCell (p := ⟨w.heap.size, 6, none⟩) (Nat.le_refl _) (.int .u32 (crcT 6))).setCell (p := ⟨w.heap.size, 7, none⟩) (Nat.le_refl _) (.int .u32 (crcT 7))).setCell (p := ⟨w.heap.size, 8, none⟩) (Nat.le_refl _) (.int .u32 (crcT 8))).setCell (p := ⟨w.heap.size, 9, none⟩) (Nat.le_refl _) (.int .u32 (crcT 9))).setCell (p := ⟨w.heap.size, 10, none⟩) (Nat.le_refl _) (.int .u32 (crcT 10))).setCell (p := ⟨w.heap.size, 11, none⟩) (Nat.le_refl _) (.int .u32 (crcT 11))).setCell (p := ⟨w.heap.size, 12, none⟩) (Nat.le_refl _) (.int .u32 (crcT 12))).setCell (p := ⟨w.heap.size, 13, none⟩) (Nat.le_refl _) (.int .u32 (crcT 13))).setCell (p := ⟨w.heap.size, 14, none⟩) (Nat.le_refl _) (.int .u32 (crcT 14))).setCell (p := ⟨w.heap.size, 15, none⟩) (Nat.le_refl _) (.int .u32 (crcT 15))
   generalize World.setCell _ _ _ = W16 at g15 hb ⊢
   generalize (Value.agg #[Value.int IntKind.u32 (crcT 0), _, _, _, _, _, _, _, _, _, _, _, _, _, _, _]) = V16
   exact made_end w W16 _ g15 hb rfl
end Go.Proofs.YtppbcankhkgpfaaDoor.PDir
