import Derived.Test.YtppbcankhkgpfaaDoorPDirx0
import Derived.Lib.OthersKept
import Derived.Outline
--compressed
namespace Go.Proofs.YtppbcankhkgpfaaDoor.PDir
open Go.RowKit Go.Proofs.YtppbcankhkgpfaaDoorW.PrintWords Go.Proofs.YtppbcankhkgpfaaDoorW.PrintLast Go.Proofs.YtppbcankhkgpfaaDoorW.PrintMore
attribute [local go_sem] max2_int min2_int max_two min_two max_three min_three max_four min_four   -- for this text's walks alone
attribute [local go_sem high] hw_str_leq hw_str_gtr
set_option linter.unusedVariables false
set_option linter.unusedSimpArgs false
def span_Total.l0 : Nat → Int → List (S64) → Int → Int → Option (Int)
 | 0, _, _, _, _ => none
 | k + 1, x3, x6, x7, x8 => if x8 < x7 then (if 0 ≤ x8 then (if x8 < (x6.length : Int) then (span_Total.l0 k (wrap64 (x3 + (mx ((rd_T64 x6 x8).f1) 0))) x6 x7 (wrap64 (x8 + 1))) else (none)) else (none)) else (some x3)
def span_Total.f (k : Nat) (l0 : List (S64)) : Option (Int) := span_Total.l0 k 0 l0 (l0.length : Int) 0
theorem span_Total.mono_l : ∀ k, (∀ y0 y1 y2 y3, LeO (span_Total.l0 k y0 y1 y2 y3) (span_Total.l0 (k + 1) y0 y1 y2 y3))
 | 0 => fun _ _ _ _ r h => by simp [span_Total.l0] at h
 | k + 1 => by
  have ih0 := span_Total.mono_l k
  ·intro y0 y1 y2 y3
   unfold span_Total.l0
   repeat' first
   | (with_reducible exact ih0 _ _ _ _)
   | (with_reducible exact LeO.refl _)
   | (with_reducible exact LeO.none _)
   | (with_reducible refine LeO.ite ?_ ?_)
   | (with_reducible refine LeO.bind ?_ (fun _ => ?_))
   | exact ih0 _ _ _ _
   | exact LeO.none _
   | refine LeO.ite ?_ ?_
   | refine LeO.bind ?_ (fun _ => ?_)
theorem span_Total.mono : ∀ a0 k, LeO (span_Total.f k a0) (span_Total.f (k + 1) a0) := by
 intro a0 k
 have ih0 := span_Total.mono_l k
 unfold span_Total.f
 repeat' first
   | (with_reducible exact ih0 _ _ _ _)
   | (with_reducible exact LeO.refl _)
   | (with_reducible exact LeO.none _)
   | (with_reducible refine LeO.ite ?_ ?_)
   | (with_reducible refine LeO.bind ?_ (fun _ => ?_))
   | exact ih0 _ _ _ _
   | exact LeO.none _
   | refine LeO.ite ?_ ?_
   | refine LeO.bind ?_ (fun _ => ?_)
set_option maxHeartbeats 8000000 in
set_option maxRecDepth 100000 in
theorem span_Total.calls (k : Nat) (A0 : Option Addr) (c0 : Nat) (l0 : List (S64)) (r : Int) (w : World) (hr0 : Kd.C k64 w A0 l0.length l0) (hc0 : l0.length ≤ c0) (h : span_Total.f k l0 = some r) :
  Calls Tryd.prog 79 #[.slice A0 l0.length c0] w fun e w' => e = .returned (.int .i64 r) ∧ Below w.heap.size w w' := by
 have hu64 := Tryd.underlying64
 have HR0 := Aside0.mk hr0
 have HC0 := Aside0.mk hc0
 clear hr0 hc0
 have HB := Aside0.mk (Below.refl w.heap.size w)
 have H : (span_Total.l0 k 0 l0 (l0.length : Int) 0) = some r := h
 clear h
 have H' := Aside0.mk H
 clear H
 go_enter Tryd.func79, Tryd.ntmps79
 go_wp2
 go_loopg [3, 8] k (fun kq v3 v8 w' => ∃ (x3_1 : Int) (x8_1 : Int), v3 = .int .i64 x3_1 ∧ v8 = .int .i64 x8_1 ∧ Aside0 (span_Total.l0 kq x3_1 l0 (l0.length : Int) x8_1 = some r) ∧ Aside0 (kq ≤ k) ∧ Aside0 (Below w.heap.size w w'))
 case atStart => exact ⟨(0), (0), (by first | rfl | (simp; done) | (simp [*]; done)), (by first | rfl | (simp; done) | (simp [*]; done)), H', ⟨Nat.le_refl _⟩, ⟨by repeat (first | (with_reducible first | exact HB.out | apply below_alloc | apply pw_below_drewN | apply below_drew1) | exact HB.out)⟩⟩
 case round =>
  clear H'
  obtain ⟨x3_1, x8_1, rfl, rfl, HA, HK1, HB⟩ := hrel
  cases gk with
  | zero => exact absurd HA.out (by simp [span_Total.l0])
  | succ k1 =>
   have H := HA.out
   clear HA
   simp only [span_Total.l0] at H
   by_cases c2 : x8_1 < (l0.length : Int)
   ·rw [if_pos c2] at H
    have c2b0 : decide (x8_1 < (l0.length : Int)) = true := decide_eq_true c2
    clear c2
    by_cases c3 : 0 ≤ x8_1
    ·rw [if_pos c3] at H
     have c3b0 : decide (0 ≤ x8_1) = true := decide_eq_true c3
     clear c3
     by_cases c4 : x8_1 < (l0.length : Int)
     ·rw [if_pos c4] at H
      have c4b0 : decide (x8_1 < (l0.length : Int)) = true := decide_eq_true c4
      clear c4
      obtain ⟨ji5, hji5⟩ : ∃ j_ : Int, (mx ((rd_T64 l0 x8_1).f1) 0) = j_ := ⟨_, rfl⟩
      replace H : (span_Total.l0 k1 (wrap64 (x3_1 + (ji5))) l0 (l0.length : Int) (wrap64 (x8_1 + 1))) = some r := by first | (rw [hji5] at H; exact H) | (simp only [hji5] at H ⊢; exact H)
      have hji5_ : (if ((rd_T64 l0 x8_1).f1) < 0 then 0 else ((rd_T64 l0 x8_1).f1)) = ji5 := hji5
      have H' := Aside0.mk H
      clear H
      have p131 : 0 ≤ (x8_1 : Int) := of_decide_eq_true asA
      have q131 : x8_1 < (l0.length : Int) := of_decide_eq_true asA
      obtain ⟨ad131, e131, hx131_0, hx131_1⟩ := at_T64 HR0.out x8_1 p131 q131
      cases e131
      replace hx131_0 := (HB.out.cell (World.block_lt_of_cell? w _ hx131_0)).trans hx131_0
      replace hx131_1 := (HB.out.cell (World.block_lt_of_cell? w _ hx131_1)).trans hx131_1
      replace p131 := eq_true p131
      replace q131 := eq_true q131
      go_wp2_with (first | ((with_reducible refine gate_dst (N := 5) rfl ?_); refine box_event ?hg (N := 5) ?hd (cs := #[.int .i64 0, .int .i64 0]) (t := 64) ?hr ?_; (case hd => rfl); (case hg => rfl); (case hr => first | (go_simp; done) | (go_simp; rfl)); intro gb132 hg w6 hbox hb; have n0_ := Aside0.mk (below_step belA hb); have n1_ := Aside0.mk (hbox); have n2_ := Aside0.mk ((by rw [hg]; exact (below_size belA) : w.heap.size ≤ gb132)); have n3_ := Aside0.mk ((by rw [hg]; exact (below_size belA) : w.heap.size ≤ gb132)); clear HB; have HB := n0_; have BK132 := n1_; have GW132 := n2_; have GE132 := n3_; clear n0_ n1_ n2_ n3_; clear hb hbox hg; have hcz7_0 : w6.cell? ⟨gb132, 0, none⟩ = some (.int .i64 0) := (blk_cell BK132.out 0).trans rfl; have hcz7_1 : w6.cell? ⟨gb132, 1, none⟩ = some (.int .i64 0) := (blk_cell BK132.out 1).trans rfl; have hfz7_0 := blk_frozen BK132.out 0; have hfz7_1 := blk_frozen BK132.out 1))
      go_roundg k1
      case measure => have := HK1.out; omega
      case rel => exact ⟨(wrap64 (x3_1 + (ji5))), (wrap64 (x8_1 + 1)), (by first | rfl | (simp; done) | (simp only [← hji5] <;> (first | rfl | simp)) | (simp [*]; done)), (by first | rfl | (simp; done) | (simp [*]; done)), H', ⟨by have := HK1.out; omega⟩, ⟨by repeat (first | (with_reducible first | exact HB.out | apply below_alloc | apply pw_below_drewN | apply below_drew1 | refine below_set ?_ GE132.out) | exact HB.out)⟩⟩
     ·rw [if_neg c4] at H
      exact absurd H (by simp)
    ·rw [if_neg c3] at H
     exact absurd H (by simp)
   ·rw [if_neg c2] at H
    have c2b0 : decide (x8_1 < (l0.length : Int)) = false := decide_eq_false c2
    clear c2
    obtain rfl := Option.some.inj H
    go_wp2
    go_ret
    exact ⟨by first | rfl | (simp [errW_none, errW_some] <;> rfl) | (simp [*, errW_none, errW_some] <;> rfl), by repeat (first | (with_reducible first | exact HB.out | apply below_alloc | apply pw_below_drewN | apply below_drew1) | exact HB.out)⟩
end Go.Proofs.YtppbcankhkgpfaaDoor.PDir
namespace Go.Proofs.YtppbcankhkgpfaaDoor.PDir
open Go.RowKit Go.Proofs.YtppbcankhkgpfaaDoorW.PrintWords Go.Proofs.YtppbcankhkgpfaaDoorW.PrintLast Go.Proofs.YtppbcankhkgpfaaDoorW.PrintMore
attribute [local go_sem] max2_int min2_int max_two min_two max_three min_three max_four min_four   -- for this text's walks alone
attribute [local go_sem high] hw_str_leq hw_str_gtr
set_option linter.unusedVariables false
set_option linter.unusedSimpArgs false
def cntR (s : ByteArray) : Nat → Nat → Nat
 | 0, _ => 0
 | fuel + 1, pos => if pos < s.size then 1 + cntR s fuel (pos + (Utf8.decode s pos).2) else 0
theorem width_posR (s : ByteArray) (pos : Nat) (h : pos < s.size) : 1 ≤ (Utf8.decode s pos).2 := by
 by_cases ha : (s[pos]'h).toNat < 128
 ·rw [decode_ascii s pos h ha]
  exact Nat.le_refl _
 ·exact (decode_high s pos h (by omega)).2
theorem cntR_end (s : ByteArray) (fuel pos : Nat) (h : ¬ pos < s.size) : cntR s fuel pos = 0 := by
 cases fuel with
 | zero => rfl
 | succ f => simp [cntR, h]
theorem cntR_le (s : ByteArray) : ∀ fuel pos, cntR s fuel pos ≤ fuel
 | 0, _ => Nat.le_refl _
 | f + 1, pos => by
  unfold cntR
  split
  ·have := cntR_le s f (pos + (Utf8.decode s pos).2); omega
  ·omega
def label_Count.f (a0 : ByteArray) : Option Int := if a0.size ≤ 9223372036854775807 then some (cntR a0 a0.size 0 : Int) else none
set_option maxHeartbeats 1000000 in
set_option maxRecDepth 100000 in
theorem label_Count.calls (a0 : ByteArray) (r : Int) (w : World) (h : label_Count.f a0 = some r) :
  Calls Tryd.prog 98 #[.string a0] w fun e w' => e = .returned (.int .i64 r) ∧ Below w.heap.size w w' := by
 unfold label_Count.f at h
 by_cases hs : a0.size ≤ 9223372036854775807
 ·rw [if_pos hs] at h
  obtain rfl := Option.some.inj h
  clear h
  have hle := cntR_le a0 a0.size 0
  generalize hR : cntR a0 a0.size 0 = R at hle ⊢
  go_enter Tryd.func98, Tryd.ntmps98
  go_wp2
  go_loopw [3] (fun s3 wr => ∃ (pos fuel n : Nat), s3 = .int .i64 n ∧ wr.heap[w.heap.size]? = some (.stringIter a0 pos) ∧ Below w.heap.size w wr ∧ n + cntR a0 fuel pos = R ∧ a0.size ≤ pos + fuel) (fun _ wr => a0.size - wr.iterPos w.heap.size)
  case atStart =>
   refine ⟨0, a0.size, 0, rfl, ?_, (Below.refl _ w).alloc (Nat.le_refl _) _, by rw [hR]; omega, by omega⟩
   exact World.iter_heap w a0 0
  case round =>
   obtain ⟨pos, fuel, n, rfl, hit, hbw, hacc, hfu⟩ := hrel
   by_cases hp : pos < a0.size
   ·have hnx : ∀ ty, (Instr.next (.pointer (some ⟨w.heap.size, 0, none⟩)) true ty).run Tryd.prog wr = _ := fun ty => Lib.run_next_any_at wr w.heap.size a0 pos ty hit hp
    have hwd := width_posR a0 pos hp
    have hit2 := Lib.iterAt_heap wr w.heap.size a0 pos (pos + (Utf8.decode a0 pos).2) hit
    have hbw2 := Lib.below_iterAt hbw (k := w.heap.size) (Nat.le_refl _) a0 (pos + (Utf8.decode a0 pos).2)
    obtain ⟨f, rfl⟩ : ∃ f, fuel = f + 1 := ⟨fuel - 1, by omega⟩
    rw [cntR, if_pos hp] at hacc
    go_wp2
    go_roundw
    case rel => exact ⟨pos + (Utf8.decode a0 pos).2, f, n + 1, by go_num, hit2, hbw2, by omega, by omega⟩
    case measure =>
     simp only [World.iterPos, hit2, hit]
     omega
   ·have hnx : ∀ ty, (Instr.next (.pointer (some ⟨w.heap.size, 0, none⟩)) true ty).run Tryd.prog wr = _ := fun ty => Lib.run_next_end_at wr w.heap.size a0 pos ty hit hp
    rw [cntR_end a0 fuel pos hp] at hacc
    obtain rfl : n = R := by omega
    go_wp2
    go_ret
    exact ⟨rfl, hbw⟩
 ·rw [if_neg hs] at h
  cases h
end Go.Proofs.YtppbcankhkgpfaaDoor.PDir
