import Derived.Test.YtppbcankhkgpfaaDoorPDpx0
import Derived.Lib.OthersKept
import Derived.Outline
import Derived.Test.YtppbcankhkgpfaaDoorLayD
--compressed
namespace Go.Proofs.YtppbcankhkgpfaaDoor.PDp
open Go.RowKit Go.Proofs.YtppbcankhkgpfaaDoorW.PrintWords Go.Proofs.YtppbcankhkgpfaaDoorW.PrintLast Go.Proofs.YtppbcankhkgpfaaDoorW.PrintMore
attribute [local go_sem] max2_int min2_int max_two min_two max_three min_three max_four min_four   -- for this text's walks alone
attribute [local go_sem high] hw_str_leq hw_str_gtr
set_option linter.unusedVariables false
set_option linter.unusedSimpArgs false
def span_Total.l0 : Nat → Int → List (S64) → Int → Int → Option (Int)
 | 0, _, _, _, _ => none
 | k + 1, x3, x6, x7, x8 => if x8 < x7 then (if 0 ≤ x8 then (if x8 < (x6.length : Int) then (span_Total.l0 k (wrap64 (x3 + (mx ((rd_T64 x6 x8).f1) 0))) x6 x7 (wrap64 (x8 + 1))) else (none)) else (none)) else (some x3)
def span_Total.f (k : Nat) (l0 : List (S64)) : Option (Int) := span_Total.l0 k 0 l0 (l0.length : Int) 0
set_option maxHeartbeats 8000000 in
set_option maxRecDepth 100000 in
theorem span_Total.calls (k : Nat) (A0 : Option Addr) (c0 : Nat) (l0 : List (S64)) (r : Int) (w : World) (hr0 : Kd.C k64 w A0 l0.length l0) (hc0 : l0.length ≤ c0) (h : span_Total.f k l0 = some r) :
  Calls Tryd.prog 79 #[.slice A0 l0.length c0] w fun e w' => e = .returned (.int .i64 r) ∧ Below w.heap.size w w' := by
 have hu64 := Tryd.underlying64
 have HR0 := Aside0.mk hr0
 have HC0 := Aside0.mk hc0
 clear hr0 hc0
 have HB := Aside0.mk (Below.refl w.heap.size w)
 have H : (span_Total.l0 k 0 l0 (l0.length : Int) 0) = some r := h
 clear h
 have H' := Aside0.mk H
 clear H
 go_enter Tryd.func79, Tryd.ntmps79
 go_wp2
 go_loopg [3, 8] k (fun kq v3 v8 w' => ∃ (x3_1 : Int) (x8_1 : Int), v3 = .int .i64 x3_1 ∧ v8 = .int .i64 x8_1 ∧ Aside0 (span_Total.l0 kq x3_1 l0 (l0.length : Int) x8_1 = some r) ∧ Aside0 (kq ≤ k) ∧ Aside0 (Below w.heap.size w w'))
 case atStart => exact ⟨(0), (0), (by first | rfl | (simp; done) | (simp [*]; done)), (by first | rfl | (simp; done) | (simp [*]; done)), H', ⟨Nat.le_refl _⟩, ⟨by repeat (first | (with_reducible first | exact HB.out | apply below_alloc | apply pw_below_drewN | apply below_drew1) | exact HB.out)⟩⟩
 case round =>
  clear H'
  obtain ⟨x3_1, x8_1, rfl, rfl, HA, HK1, HB⟩ := hrel
  cases gk with
  | zero => exact absurd HA.out (by simp [span_Total.l0])
  | succ k1 =>
   have H := HA.out
   clear HA
   simp only [span_Total.l0] at H
   by_cases c2 : x8_1 < (l0.length : Int)
   ·rw [if_pos c2] at H
    have c2b0 : decide (x8_1 < (l0.length : Int)) = true := decide_eq_true c2
    clear c2
    by_cases c3 : 0 ≤ x8_1
    ·rw [if_pos c3] at H
     have c3b0 : decide (0 ≤ x8_1) = true := decide_eq_true c3
     clear c3
     by_cases c4 : x8_1 < (l0.length : Int)
     ·rw [if_pos c4] at H
      have c4b0 : decide (x8_1 < (l0.length : Int)) = true := decide_eq_true c4
      clear c4
      obtain ⟨ji5, hji5⟩ : ∃ j_ : Int, (mx ((rd_T64 l0 x8_1).f1) 0) = j_ := ⟨_, rfl⟩
      replace H : (span_Total.l0 k1 (wrap64 (x3_1 + (ji5))) l0 (l0.length : Int) (wrap64 (x8_1 + 1))) = some r := by first | (rw [hji5] at H; exact H) | (simp only [hji5] at H ⊢; exact H)
      have hji5_ : (if ((rd_T64 l0 x8_1).f1) < 0 then 0 else ((rd_T64 l0 x8_1).f1)) = ji5 := hji5
      have H' := Aside0.mk H
      clear H
      have p131 : 0 ≤ (x8_1 : Int) := of_decide_eq_true asA
      have q131 : x8_1 < (l0.length : Int) := of_decide_eq_true asA
      obtain ⟨ad131, e131, hx131_0, hx131_1⟩ := at_T64 HR0.out x8_1 p131 q131
      cases e131
      replace hx131_0 := (HB.out.cell (World.block_lt_of_cell? w _ hx131_0)).trans hx131_0
      replace hx131_1 := (HB.out.cell (World.block_lt_of_cell? w _ hx131_1)).trans hx131_1
      replace p131 := eq_true p131
      replace q131 := eq_true q131
      go_wp2_with (first | ((with_reducible refine gate_dst (N := 5) rfl ?_); refine box_event ?hg (N := 5) ?hd (cs := #[.int .i64 0, .int .i64 0]) (t := 64) ?hr ?_; (case hd => rfl); (case hg => rfl); (case hr => first | (go_simp; done) | (go_simp; rfl)); intro gb132 hg w6 hbox hb; have n0_ := Aside0.mk (below_step belA hb); have n1_ := Aside0.mk (hbox); have n2_ := Aside0.mk ((by rw [hg]; exact (below_size belA) : w.heap.size ≤ gb132)); have n3_ := Aside0.mk ((by rw [hg]; exact (below_size belA) : w.heap.size ≤ gb132)); clear HB; have HB := n0_; have BK132 := n1_; have GW132 := n2_; have GE132 := n3_; clear n0_ n1_ n2_ n3_; clear hb hbox hg; have hcz7_0 : w6.cell? ⟨gb132, 0, none⟩ = some (.int .i64 0) := (blk_cell BK132.out 0).trans rfl; have hcz7_1 : w6.cell? ⟨gb132, 1, none⟩ = some (.int .i64 0) := (blk_cell BK132.out 1).trans rfl; have hfz7_0 := blk_frozen BK132.out 0; have hfz7_1 := blk_frozen BK132.out 1))
      go_roundg k1
      case measure => have := HK1.out; omega
      case rel => exact ⟨(wrap64 (x3_1 + (ji5))), (wrap64 (x8_1 + 1)), (by first | rfl | (simp; done) | (simp only [← hji5] <;> (first | rfl | simp)) | (simp [*]; done)), (by first | rfl | (simp; done) | (simp [*]; done)), H', ⟨by have := HK1.out; omega⟩, ⟨by repeat (first | (with_reducible first | exact HB.out | apply below_alloc | apply pw_below_drewN | apply below_drew1 | refine below_set ?_ GE132.out) | exact HB.out)⟩⟩
     ·rw [if_neg c4] at H
      exact absurd H (by simp)
    ·rw [if_neg c3] at H
     exact absurd H (by simp)
   ·rw [if_neg c2] at H
    have c2b0 : decide (x8_1 < (l0.length : Int)) = false := decide_eq_false c2
    clear c2
    obtain rfl := Option.some.inj H
    go_wp2
    go_ret
    exact ⟨by first | rfl | (simp [errW_none, errW_some] <;> rfl) | (simp [*, errW_none, errW_some] <;> rfl), by repeat (first | (with_reducible first | exact HB.out | apply below_alloc | apply pw_below_drewN | apply below_drew1) | exact HB.out)⟩
end Go.Proofs.YtppbcankhkgpfaaDoor.PDp
namespace Go.Proofs.YtppbcankhkgpfaaDoor.PDp
open Go.RowKit Go.Proofs.YtppbcankhkgpfaaDoorW.PrintWords Go.Proofs.YtppbcankhkgpfaaDoorW.PrintLast Go.Proofs.YtppbcankhkgpfaaDoorW.PrintMore
attribute [local go_sem] max2_int min2_int max_two min_two max_three min_three max_four min_four   -- for this text's walks alone
attribute [local go_sem high] hw_str_leq hw_str_gtr
set_option linter.unusedVariables false
set_option linter.unusedSimpArgs false
def cntR (s : ByteArray) : Nat → Nat → Nat
 | 0, _ => 0
 | fuel + 1, pos => if pos < s.size then 1 + cntR s fuel (pos + (Utf8.decode s pos).2) else 0
theorem width_posR (s : ByteArray) (pos : Nat) (h : pos < s.size) : 1 ≤ (Utf8.decode s pos).2 := by
 by_cases ha : (s[pos]'h).toNat < 128
 ·rw [decode_ascii s pos h ha]
  exact Nat.le_refl _
 ·exact (decode_high s pos h (by omega)).2
theorem cntR_end (s : ByteArray) (fuel pos : Nat) (h : ¬ pos < s.size) : cntR s fuel pos = 0 := by
 cases fuel with
 | zero => rfl
 | succ f => simp [cntR, h]
theorem cntR_le (s : ByteArray) : ∀ fuel pos, cntR s fuel pos ≤ fuel
 | 0, _ => Nat.le_refl _
 | f + 1, pos => by
  unfold cntR
  split
  ·have := cntR_le s f (pos + (Utf8.decode s pos).2); omega
  ·omega
def label_Count.f (a0 : ByteArray) : Option Int := if a0.size ≤ 9223372036854775807 then some (cntR a0 a0.size 0 : Int) else none
set_option maxHeartbeats 1000000 in
set_option maxRecDepth 100000 in
theorem label_Count.calls (a0 : ByteArray) (r : Int) (w : World) (h : label_Count.f a0 = some r) :
  Calls Tryd.prog 98 #[.string a0] w fun e w' => e = .returned (.int .i64 r) ∧ Below w.heap.size w w' := by
 unfold label_Count.f at h
 by_cases hs : a0.size ≤ 9223372036854775807
 ·rw [if_pos hs] at h
  obtain rfl := Option.some.inj h
  clear h
  have hle := cntR_le a0 a0.size 0
  generalize hR : cntR a0 a0.size 0 = R at hle ⊢
  go_enter Tryd.func98, Tryd.ntmps98
  go_wp2
  go_loopw [3] (fun s3 wr => ∃ (pos fuel n : Nat), s3 = .int .i64 n ∧ wr.heap[w.heap.size]? = some (.stringIter a0 pos) ∧ Below w.heap.size w wr ∧ n + cntR a0 fuel pos = R ∧ a0.size ≤ pos + fuel) (fun _ wr => a0.size - wr.iterPos w.heap.size)
  case atStart =>
   refine ⟨0, a0.size, 0, rfl, ?_, (Below.refl _ w).alloc (Nat.le_refl _) _, by rw [hR]; omega, by omega⟩
   exact World.iter_heap w a0 0
  case round =>
   obtain ⟨pos, fuel, n, rfl, hit, hbw, hacc, hfu⟩ := hrel
   by_cases hp : pos < a0.size
   ·have hnx : ∀ ty, (Instr.next (.pointer (some ⟨w.heap.size, 0, none⟩)) true ty).run Tryd.prog wr = _ := fun ty => Lib.run_next_any_at wr w.heap.size a0 pos ty hit hp
    have hwd := width_posR a0 pos hp
    have hit2 := Lib.iterAt_heap wr w.heap.size a0 pos (pos + (Utf8.decode a0 pos).2) hit
    have hbw2 := Lib.below_iterAt hbw (k := w.heap.size) (Nat.le_refl _) a0 (pos + (Utf8.decode a0 pos).2)
    obtain ⟨f, rfl⟩ : ∃ f, fuel = f + 1 := ⟨fuel - 1, by omega⟩
    rw [cntR, if_pos hp] at hacc
    go_wp2
    go_roundw
    case rel => exact ⟨pos + (Utf8.decode a0 pos).2, f, n + 1, by go_num, hit2, hbw2, by omega, by omega⟩
    case measure =>
     simp only [World.iterPos, hit2, hit]
     omega
   ·have hnx : ∀ ty, (Instr.next (.pointer (some ⟨w.heap.size, 0, none⟩)) true ty).run Tryd.prog wr = _ := fun ty => Lib.run_next_end_at wr w.heap.size a0 pos ty hit hp
    rw [cntR_end a0 fuel pos hp] at hacc
    obtain rfl : n = R := by omega
    go_wp2
    go_ret
    exact ⟨rfl, hbw⟩
 ·rw [if_neg hs] at h
  cases h
end Go.Proofs.YtppbcankhkgpfaaDoor.PDp
namespace Go.Proofs.YtppbcankhkgpfaaDoor.PDp
open Go.RowKit Go.Proofs.YtppbcankhkgpfaaDoorW.PrintWords Go.Proofs.YtppbcankhkgpfaaDoorW.PrintLast Go.Proofs.YtppbcankhkgpfaaDoorW.PrintMore
attribute [local go_sem] max2_int min2_int max_two min_two max_three min_three max_four min_four   -- for this text's walks alone
attribute [local go_sem high] hw_str_leq hw_str_gtr
set_option linter.unusedVariables false
set_option linter.unusedSimpArgs false
def TabsW (w : World) : Prop := Lib.Utf8Tabs (Tryd.layValid_ren.g 3) (Tryd.layValid_ren.g 4) w
theorem TabsW.below {w w' : World} (h : TabsW w) (hb : Below w.heap.size w w') : TabsW w' := Utf8Tabs_below h hb
end Go.Proofs.YtppbcankhkgpfaaDoor.PDp
namespace Go.Proofs.YtppbcankhkgpfaaDoor.PDp
open Go.RowKit Go.Proofs.YtppbcankhkgpfaaDoorW.PrintWords Go.Proofs.YtppbcankhkgpfaaDoorW.PrintLast Go.Proofs.YtppbcankhkgpfaaDoorW.PrintMore
attribute [local go_sem] max2_int min2_int max_two min_two max_three min_three max_four min_four   -- for this text's walks alone
attribute [local go_sem high] hw_str_leq hw_str_gtr
set_option linter.unusedVariables false
set_option linter.unusedSimpArgs false
def utf8_ValidString.f (a0 : ByteArray) : Option Bool := if a0.size ≤ 9223372036854775807 then some (Lib.validD a0.data.toList) else none
theorem utf8_ValidString.calls (a0 : ByteArray) (r : Bool) (w : World) (ht : TabsW w) (h : utf8_ValidString.f a0 = some r) :
  Calls Tryd.prog 106 #[.string a0] w fun e w' => e = .returned (.bool r) ∧ Below w.heap.size w w' := by
 unfold utf8_ValidString.f at h
 by_cases hs : a0.size ≤ 9223372036854775807
 ·rw [if_pos hs] at h
  obtain rfl := Option.some.inj h
  exact Any.utf8_ValidString Tryd.layValid a0 w hs ht
 ·rw [if_neg hs] at h
  cases h
end Go.Proofs.YtppbcankhkgpfaaDoor.PDp
namespace Go.Proofs.YtppbcankhkgpfaaDoor.PDp
open Go.RowKit Go.Proofs.YtppbcankhkgpfaaDoorW.PrintWords Go.Proofs.YtppbcankhkgpfaaDoorW.PrintLast Go.Proofs.YtppbcankhkgpfaaDoorW.PrintMore
attribute [local go_sem] max2_int min2_int max_two min_two max_three min_three max_four min_four   -- for this text's walks alone
attribute [local go_sem high] hw_str_leq hw_str_gtr
set_option linter.unusedVariables false
set_option linter.unusedSimpArgs false
def label_Valid.f (a0 : ByteArray) : Option (Bool) := (utf8_ValidString.f a0).bind fun t133 => (some t133)
set_option maxHeartbeats 8000000 in
set_option maxRecDepth 100000 in
theorem label_Valid.calls (a0 : ByteArray) (r : Bool) (w : World) (ht : TabsW w) (h : label_Valid.f a0 = some r) :
  Calls Tryd.prog 97 #[.string a0] w fun e w' => e = .returned (.bool r) ∧ Below w.heap.size w w' := by
 have HT0 := Aside0.mk ht
 clear ht
 have HB := Aside0.mk (Below.refl w.heap.size w)
 have H : ((utf8_ValidString.f a0).bind fun t133 => (some t133)) = some r := h
 clear h
 replace H := Option.bind_eq_some_iff.mp H
 obtain ⟨t133, A20, H⟩ := H
 replace H : (some t133) = some r := H
 have A2 := Aside0.mk A20
 clear A20
 obtain rfl := Option.some.inj H
 go_enter Tryd.func97, Tryd.ntmps97
 go_wp2_with (first | ((with_reducible refine gate_callee (f := 106) rfl ?_); refine goesL_ (some 4) rfl rfl Tryd.func106 (by kernel_rfl) rfl #[.string a0] rfl argA ?_; (with_reducible refine (utf8_ValidString.calls a0 t133 _ ?side1 A2.out).mono ?_); (case side1 => exact TabsW.below HT0.out belA); rintro e w3 ⟨rfl, hb⟩; refine ⟨_, rfl, ?_⟩; have n0_ := Aside0.mk (below_step belA hb); clear HB; have HB := n0_; clear n0_; (try clear hb); (try clear hb2); (try clear hk); (try clear hi)))
 go_ret
 exact ⟨by first | rfl | (simp [errW_none, errW_some] <;> rfl) | (simp [*, errW_none, errW_some] <;> rfl), by repeat (first | (with_reducible first | exact HB.out | apply below_alloc | apply pw_below_drewN | apply below_drew1) | exact HB.out)⟩
end Go.Proofs.YtppbcankhkgpfaaDoor.PDp
namespace Go.Proofs.YtppbcankhkgpfaaDoor.PDp
open Go.RowKit Go.Proofs.YtppbcankhkgpfaaDoorW.PrintWords Go.Proofs.YtppbcankhkgpfaaDoorW.PrintLast Go.Proofs.YtppbcankhkgpfaaDoorW.PrintMore
attribute [local go_sem] max2_int min2_int max_two min_two max_three min_three max_four min_four   -- for this text's walks alone
attribute [local go_sem high] hw_str_leq hw_str_gtr
set_option linter.unusedVariables false
set_option linter.unusedSimpArgs false
def badR (s : ByteArray) : Nat → Nat → Bool
 | 0, _ => false
 | fuel + 1, pos => if pos < s.size then (if ((Utf8.decode s pos).1 : Int) < 32 then true else if ((Utf8.decode s pos).1 : Int) = 127 then true else badR s fuel (pos + (Utf8.decode s pos).2)) else false
theorem badR_end (s : ByteArray) (fuel pos : Nat) (h : ¬ pos < s.size) : badR s fuel pos = false := by
 cases fuel with
 | zero => rfl
 | succ f => simp [badR, h]
def label_Right.f (a0 : ByteArray) : Option Bool := if a0.size ≤ 9223372036854775807 then some (!(badR a0 a0.size 0) && (Lib.validD a0.data.toList && (decide (0 < a0.size) && (decide (cntR a0 a0.size 0 ≤ 24) && (decide (bt a0 0 ≠ 32) && decide (bt a0 ((a0.size : Int) - 1) ≠ 32)))))) else none
set_option maxHeartbeats 1000000 in
set_option maxRecDepth 100000 in
theorem label_Right.calls (a0 : ByteArray) (r : Bool) (w : World) (ht : TabsW w) (h : label_Right.f a0 = some r) :
  Calls Tryd.prog 80 #[.string a0] w fun e w' => e = .returned (.bool r) ∧ Below w.heap.size w w' := by
 unfold label_Right.f at h
 by_cases hs : a0.size ≤ 9223372036854775807
 ·rw [if_pos hs] at h
  obtain rfl := Option.some.inj h
  clear h
  have HT := Aside0.mk ht
  clear ht
  generalize hR : badR a0 a0.size 0 = R
  generalize hres0 : (!R && (Lib.validD a0.data.toList && (decide (0 < a0.size) && (decide (cntR a0 a0.size 0 ≤ 24) && (decide (bt a0 0 ≠ 32) && decide (bt a0 ((a0.size : Int) - 1) ≠ 32)))))) = res
  have HRES0 := Aside0.mk hres0
  clear hres0
  go_enter Tryd.func80, Tryd.ntmps80
  go_wp2
  go_loopw [] (fun wr => ∃ (pos fuel : Nat), wr.heap[w.heap.size]? = some (.stringIter a0 pos) ∧ Below w.heap.size w wr ∧ badR a0 fuel pos = R ∧ a0.size ≤ pos + fuel) (fun wr => a0.size - wr.iterPos w.heap.size)
  case atStart =>
   refine ⟨0, a0.size, ?_, (Below.refl _ w).alloc (Nat.le_refl _) _, hR, by omega⟩
   exact World.iter_heap w a0 0
  case round =>
   clear hR
   obtain ⟨pos, fuel, hit, hbw, hacc, hfu⟩ := hrel
   by_cases hp : pos < a0.size
   ·have hnx : ∀ ty, (Instr.next (.pointer (some ⟨w.heap.size, 0, none⟩)) true ty).run Tryd.prog wr = _ := fun ty => Lib.run_next_any_at wr w.heap.size a0 pos ty hit hp
    have hwd := width_posR a0 pos hp
    have hit2 := Lib.iterAt_heap wr w.heap.size a0 pos (pos + (Utf8.decode a0 pos).2) hit
    have hbw2 := Lib.below_iterAt hbw (k := w.heap.size) (Nat.le_refl _) a0 (pos + (Utf8.decode a0 pos).2)
    obtain ⟨f, rfl⟩ : ∃ f, fuel = f + 1 := ⟨fuel - 1, by omega⟩
    rw [badR, if_pos hp] at hacc
    by_cases h1 : ((Utf8.decode a0 pos).1 : Int) < 32
    ·have b1 : decide (((Utf8.decode a0 pos).1 : Int) < 32) = true := decide_eq_true h1
     rw [if_pos h1] at hacc
     subst hacc
     clear h1
     have HF := Aside0.mk (show res = false by rw [← HRES0.out]; rfl)
     clear HRES0
     go_wp2
     go_ret
     exact ⟨by rw [HF.out]; rfl, hbw2⟩
    ·have b1 : decide (((Utf8.decode a0 pos).1 : Int) < 32) = false := decide_eq_false h1
     rw [if_neg h1] at hacc
     clear h1
     by_cases h2 : ((Utf8.decode a0 pos).1 : Int) = 127
     ·have b2 : (((Utf8.decode a0 pos).1 : Int) == 127) = true := beq_iff_eq.2 h2
      have b3 : decide (((Utf8.decode a0 pos).1 : Int) = 127) = true := decide_eq_true h2
      rw [if_pos h2] at hacc
      subst hacc
      clear h2
      have HF := Aside0.mk (show res = false by rw [← HRES0.out]; rfl)
      clear HRES0
      go_wp2
      go_ret
      exact ⟨by rw [HF.out]; rfl, hbw2⟩
     ·have b2 : (((Utf8.decode a0 pos).1 : Int) == 127) = false := beq_eq_false_iff_ne.2 h2
      have b3 : decide (((Utf8.decode a0 pos).1 : Int) = 127) = false := decide_eq_false h2
      rw [if_neg h2] at hacc
      clear h2
      go_wp2
      go_roundw
      case rel => exact ⟨pos + (Utf8.decode a0 pos).2, f, hit2, hbw2, hacc, by omega⟩
      case measure =>
       simp only [World.iterPos, hit2, hit]
       omega
   ·have hnx : ∀ ty, (Instr.next (.pointer (some ⟨w.heap.size, 0, none⟩)) true ty).run Tryd.prog wr = _ := fun ty => Lib.run_next_end_at wr w.heap.size a0 pos ty hit hp
    rw [badR_end a0 fuel pos hp] at hacc
    subst hacc
    have hV : label_Valid.f a0 = some (Lib.validD a0.data.toList) := by unfold label_Valid.f utf8_ValidString.f; rw [if_pos hs]; rfl
    have hC : label_Count.f a0 = some (cntR a0 a0.size 0 : Int) := by unfold label_Count.f; rw [if_pos hs]
    have HTW := Aside0.mk (TabsW.below HT.out hbw)
    have HBW := Aside0.mk hbw
    have hbl : ∀ hz : 0 < a0.size, bt a0 0 = ((a0[0]'hz).toNat : Int) ∧ bt a0 ((a0.size : Int) - 1) = ((a0[a0.size - 1]'(by omega)).toNat : Int) := fun hz => by
     have e : ((a0.size : Int) - 1).toNat = a0.size - 1 := by omega
     refine ⟨?_, ?_⟩
     ·unfold bt; rw [dif_pos (show (0 : Int).toNat < a0.size from hz)]; rfl
     ·unfold bt; rw [dif_pos (by omega)]; simp only [e]
    have hres := HRES0.out
    clear HRES0
    cases hv : Lib.validD a0.data.toList with
    | false =>
     rw [hv] at hV hres
     have HRES := Aside0.mk (show res = false by rw [← hres]; simp)
     clear hres hbl hC
     go_wp2_with (go_at_call 97; refine (label_Valid.calls a0 _ _ HTW.out hV).mono ?_; rintro e w2 ⟨rfl, hb2⟩)
     go_ret
     exact ⟨by rw [HRES.out]; rfl, below_step HBW.out hb2⟩
    | true =>
     rw [hv] at hV hres
     by_cases hz : 0 < a0.size
     ·have he : a0.toList.isEmpty = false := by
       cases ht : a0.toList with
       | nil =>
        have : a0.data.toList.length = 0 := by rw [← Lib.toList_data, ht]; rfl
        rw [Array.length_toList] at this
        have h2 : a0.size = a0.data.size := rfl
        omega
       | cons _ _ => rfl
      by_cases h24 : cntR a0 a0.size 0 ≤ 24
      ·have h24z : decide ((cntR a0 a0.size 0 : Int) ≤ 24) = true := decide_eq_true (by omega)
       obtain ⟨q0, q1⟩ := hbl hz
       have HRES := Aside0.mk (show res = (decide ((a0[0].toNat : Int) ≠ 32) && decide ((a0[a0.size - 1].toNat : Int) ≠ 32)) by
        rw [← hres, decide_eq_true hz, decide_eq_true h24, q0, q1]
        rfl)
       clear hres q0 q1 hbl h24
       generalize cntR a0 a0.size 0 = cn at hC h24z
       by_cases e0 : (a0[0].toNat : Int) = 32
       ·have HR2 := Aside0.mk (show res = false by rw [HRES.out, e0]; rfl)
        clear HRES
        go_wp2_with (first | (go_at_call 97; refine (label_Valid.calls a0 _ _ HTW.out hV).mono ?_; rintro e w2 ⟨rfl, hb2⟩) | (go_at_call 98; refine (label_Count.calls a0 _ _ hC).mono ?_; rintro e w3 ⟨rfl, hb3⟩))
        go_ret
        exact ⟨by rw [HR2.out]; rfl, below_step (below_step HBW.out hb2) hb3⟩
       ·have n0 : ((a0[0].toNat : Int) != 32) = true := bne_iff_ne.2 e0
        have HR2 := Aside0.mk (show res = decide ((a0[a0.size - 1].toNat : Int) ≠ 32) by rw [HRES.out, decide_eq_true e0]; rfl)
        clear HRES
        by_cases e1 : (a0[a0.size - 1].toNat : Int) = 32
        ·have HR3 := Aside0.mk (show res = false by rw [HR2.out, e1]; rfl)
         clear HR2
         go_wp2_with (first | (go_at_call 97; refine (label_Valid.calls a0 _ _ HTW.out hV).mono ?_; rintro e w2 ⟨rfl, hb2⟩) | (go_at_call 98; refine (label_Count.calls a0 _ _ hC).mono ?_; rintro e w3 ⟨rfl, hb3⟩))
         go_ret
         exact ⟨by rw [HR3.out]; rfl, below_step (below_step HBW.out hb2) hb3⟩
        ·have n1 : ((a0[a0.size - 1].toNat : Int) != 32) = true := bne_iff_ne.2 e1
         have HR3 := Aside0.mk (show res = true by rw [HR2.out, decide_eq_true e1])
         clear HR2
         go_wp2_with (first | (go_at_call 97; refine (label_Valid.calls a0 _ _ HTW.out hV).mono ?_; rintro e w2 ⟨rfl, hb2⟩) | (go_at_call 98; refine (label_Count.calls a0 _ _ hC).mono ?_; rintro e w3 ⟨rfl, hb3⟩))
         go_ret
         exact ⟨by rw [HR3.out]; rfl, below_step (below_step HBW.out hb2) hb3⟩
      ·have h24z : decide ((cntR a0 a0.size 0 : Int) ≤ 24) = false := decide_eq_false (by omega)
       have HRES := Aside0.mk (show res = false by rw [← hres, decide_eq_false h24]; simp)
       clear hres hbl h24
       generalize cntR a0 a0.size 0 = cn at hC h24z
       go_wp2_with (first | (go_at_call 97; refine (label_Valid.calls a0 _ _ HTW.out hV).mono ?_; rintro e w2 ⟨rfl, hb2⟩) | (go_at_call 98; refine (label_Count.calls a0 _ _ hC).mono ?_; rintro e w3 ⟨rfl, hb3⟩))
       go_ret
       exact ⟨by rw [HRES.out]; rfl, below_step (below_step HBW.out hb2) hb3⟩
     ·have he : a0.toList.isEmpty = true := by
       rw [Lib.toList_data]
       have : a0.data.toList = [] := List.eq_nil_of_length_eq_zero (by rw [Array.length_toList]; have h2 : a0.size = a0.data.size := rfl; omega)
       rw [this]
       rfl
      have HRES := Aside0.mk (show res = false by rw [← hres, decide_eq_false hz]; simp)
      clear hres hbl hC
      go_wp2_with (go_at_call 97; refine (label_Valid.calls a0 _ _ HTW.out hV).mono ?_; rintro e w2 ⟨rfl, hb2⟩)
      go_ret
      exact ⟨by rw [HRES.out]; rfl, below_step HBW.out hb2⟩
 ·rw [if_neg hs] at h
  cases h
end Go.Proofs.YtppbcankhkgpfaaDoor.PDp
