-- laid by gprint.py (this session's own program) out of the translation: Lean checks it
import Derived.Test.YtfdlbnfjohpdlaaGreatDoorPPox0
--compressed
namespace Go.Proofs.YtfdlbnfjohpdlaaGreatDoor.PPo
open Go.RowKit Go.Proofs.YtfdlbnfjohpdlaaGreatDoorW.PrintWords Go.Proofs.YtfdlbnfjohpdlaaGreatDoorW.PrintLast Go.Proofs.YtfdlbnfjohpdlaaGreatDoorW.PrintMore
attribute [local go_sem] max2_int min2_int max_two min_two max_three min_three max_four min_four   -- for this text's walks alone
attribute [local go_sem high] hw_str_leq hw_str_gtr
set_option linter.unusedVariables false
set_option linter.unusedSimpArgs false
def rootcellarlaw16_newest.l0 : Nat → Int → Int → Int → List (S31) → Int → Int → Int → Option (Int)
 | 0, _, _, _, _, _, _, _ => none
 | k + 1, x3, x4, x5, x399000, x399001, x399002, x399003 => if x5 < (x399000.length : Int) then (if 0 ≤ x5 then (if ((rd_T31 x399000 x5).f3) ≥ x4 then (rootcellarlaw16_newest.l0 k ((rd_T31 x399000 x5).f0) ((rd_T31 x399000 x5).f3) (wrap64 (x5 + 1)) x399000 x399001 x399002 x399003) else (rootcellarlaw16_newest.l0 k x3 x4 (wrap64 (x5 + 1)) x399000 x399001 x399002 x399003)) else (none)) else (some x3)
def rootcellarlaw16_newest.f (k : Nat) (l0_0 : List (S31)) (a0_1 : Int) (a0_2 : Int) (a0_3 : Int) : Option (Int) := rootcellarlaw16_newest.l0 k 0 0 1 l0_0 a0_1 a0_2 a0_3
set_option maxHeartbeats 8000000 in
set_option maxRecDepth 100000 in
theorem rootcellarlaw16_newest.calls (k : Nat) (A0_0 : Option Addr) (c0_0 : Nat) (l0_0 : List (S31)) (a0_1 : Int) (a0_2 : Int) (a0_3 : Int) (r : Int) (w : World) (hr0_0 : Kd.C k31 w A0_0 l0_0.length l0_0) (hc0_0 : l0_0.length ≤ c0_0) (h : rootcellarlaw16_newest.f k l0_0 a0_1 a0_2 a0_3 = some r) :
  Calls Tryz.prog 23 #[.agg #[.slice A0_0 l0_0.length c0_0, .int .i64 a0_1, .int .i64 a0_2, .int .u64 a0_3]] w fun e w' => e = .returned (.int .i64 r) ∧ Below w.heap.size w w' := by
 have hu28 := Tryz.underlying28
 have HR0_0 := Aside0.mk hr0_0
 have HC0_0 := Aside0.mk hc0_0
 clear hr0_0 hc0_0
 have HB := Aside0.mk (Below.refl w.heap.size w)
 have H : (rootcellarlaw16_newest.l0 k 0 0 1 l0_0 a0_1 a0_2 a0_3) = some r := h
 clear h
 have H' := Aside0.mk H
 clear H
 go_enter Tryz.func23, Tryz.ntmps23
 go_wp2_with (first | ((with_reducible refine gate_dst (N := 1) rfl ?_); refine box_event ?hg (N := 1) ?hd (cs := #[.slice A0_0 l0_0.length c0_0, .int .i64 a0_1, .int .i64 a0_2, .int .u64 a0_3]) (t := 28) ?hr ?_; (case hd => rfl); (case hg => rfl); (case hr => first | (go_simp; done) | (go_simp; rfl)); intro gb398 hg w2 hbox hb; have n0_ := Aside0.mk (below_step belA hb); have n1_ := Aside0.mk (hbox); have n2_ := Aside0.mk ((by rw [hg]; exact (below_size belA) : w.heap.size ≤ gb398)); have n3_ := Aside0.mk ((by rw [hg]; exact (below_size belA) : w.heap.size ≤ gb398)); clear HB; have HB := n0_; have BK398 := n1_; have GW398 := n2_; have GE398 := n3_; clear n0_ n1_ n2_ n3_; clear hb hbox hg))
 go_loopg [3, 4, 5] k (fun kq v3 v4 v5 w' => ∃ (x3_1 : Int) (x4_1 : Int) (x5_1 : Int), v3 = .int .i64 x3_1 ∧ v4 = .int .u64 x4_1 ∧ v5 = .int .i64 x5_1 ∧ Aside0 (rootcellarlaw16_newest.l0 kq x3_1 x4_1 x5_1 l0_0 a0_1 a0_2 a0_3 = some r) ∧ Aside0 (kq ≤ k) ∧ Aside0 (w'.heap[gb398]? = some (.cells #[(.slice A0_0 l0_0.length c0_0), .int .i64 a0_1, .int .i64 a0_2, .int .u64 a0_3] 28 (0, 0))) ∧ Aside0 (Below w.heap.size w w'))
 case atStart => exact ⟨(0), (0), (1), (by first | rfl | (simp; done) | (simp [*]; done)), (by first | rfl | (simp; done) | (simp [*]; done)), (by first | rfl | (simp; done) | (simp [*]; done)), H', ⟨Nat.le_refl _⟩, ⟨by (with_reducible repeat (first | refine blk_drewN ?_ _ | refine blk_drew ?_ | refine blk_alloc ?_ _)); exact BK398.out⟩, ⟨by repeat (first | (with_reducible first | exact HB.out | apply below_alloc | apply pw_below_drewN | apply below_drew1 | refine below_set ?_ GE398.out) | exact HB.out)⟩⟩
 case round =>
  clear H'
  try clear c2
  try clear p2
  obtain ⟨x3_1, x4_1, x5_1, rfl, rfl, rfl, HA, HK1, BK398, HB⟩ := hrel
  cases gk with
  | zero => exact absurd HA.out (by simp [rootcellarlaw16_newest.l0])
  | succ k1 =>
   have H := HA.out
   clear HA
   simp only [rootcellarlaw16_newest.l0] at H
   by_cases c3 : x5_1 < (l0_0.length : Int)
   ·rw [if_pos c3] at H
    have c3b0 : decide (x5_1 < (l0_0.length : Int)) = true := decide_eq_true c3
    clear c3
    by_cases c4 : 0 ≤ x5_1
    ·rw [if_pos c4] at H
     have c4b0 : decide (0 ≤ x5_1) = true := decide_eq_true c4
     clear c4
     by_cases c5 : ((rd_T31 l0_0 x5_1).f3) ≥ x4_1
     ·rw [if_pos c5] at H
      have c5b0 : decide (x4_1 ≤ ((rd_T31 l0_0 x5_1).f3)) = true := decide_eq_true c5
      clear c5
      have H' := Aside0.mk H
      clear H
      have hcz6_0 : wr.cell? ⟨gb398, 0, none⟩ = some (.slice A0_0 l0_0.length c0_0) := (blk_cell BK398.out 0).trans rfl
      have hcz6_1 : wr.cell? ⟨gb398, 1, none⟩ = some (.int .i64 a0_1) := (blk_cell BK398.out 1).trans rfl
      have hcz6_2 : wr.cell? ⟨gb398, 2, none⟩ = some (.int .i64 a0_2) := (blk_cell BK398.out 2).trans rfl
      have hcz6_3 : wr.cell? ⟨gb398, 3, none⟩ = some (.int .u64 a0_3) := (blk_cell BK398.out 3).trans rfl
      have hfz6_0 := blk_frozen BK398.out 0
      have hfz6_1 := blk_frozen BK398.out 1
      have hfz6_2 := blk_frozen BK398.out 2
      have hfz6_3 := blk_frozen BK398.out 3
      have p399 : 0 ≤ (x5_1 : Int) := of_decide_eq_true asA
      have q399 : x5_1 < (l0_0.length : Int) := of_decide_eq_true asA
      obtain ⟨ad399, e399, hx399_0, hx399_1, hx399_2, hx399_3, hx399_4, hx399_5⟩ := at_T31 HR0_0.out x5_1 p399 q399
      cases e399
      replace hx399_0 := (HB.out.cell (World.block_lt_of_cell? w _ hx399_0)).trans hx399_0
      replace hx399_1 := (HB.out.cell (World.block_lt_of_cell? w _ hx399_1)).trans hx399_1
      replace hx399_2 := (HB.out.cell (World.block_lt_of_cell? w _ hx399_2)).trans hx399_2
      replace hx399_3 := (HB.out.cell (World.block_lt_of_cell? w _ hx399_3)).trans hx399_3
      replace hx399_4 := (HB.out.cell (World.block_lt_of_cell? w _ hx399_4)).trans hx399_4
      replace hx399_5 := (HB.out.cell (World.block_lt_of_cell? w _ hx399_5)).trans hx399_5
      replace p399 := eq_true p399
      replace q399 := eq_true q399
      have p400 : 0 ≤ (x5_1 : Int) := of_decide_eq_true asA
      have q400 : x5_1 < (l0_0.length : Int) := of_decide_eq_true asA
      obtain ⟨ad400, e400, hx400_0, hx400_1, hx400_2, hx400_3, hx400_4, hx400_5⟩ := at_T31 HR0_0.out x5_1 p400 q400
      obtain rfl : ad399 = ad400 := (by injection e400)
      replace hx400_0 := (HB.out.cell (World.block_lt_of_cell? w _ hx400_0)).trans hx400_0
      replace hx400_1 := (HB.out.cell (World.block_lt_of_cell? w _ hx400_1)).trans hx400_1
      replace hx400_2 := (HB.out.cell (World.block_lt_of_cell? w _ hx400_2)).trans hx400_2
      replace hx400_3 := (HB.out.cell (World.block_lt_of_cell? w _ hx400_3)).trans hx400_3
      replace hx400_4 := (HB.out.cell (World.block_lt_of_cell? w _ hx400_4)).trans hx400_4
      replace hx400_5 := (HB.out.cell (World.block_lt_of_cell? w _ hx400_5)).trans hx400_5
      replace p400 := eq_true p400
      replace q400 := eq_true q400
      have p401 : 0 ≤ (x5_1 : Int) := of_decide_eq_true asA
      have q401 : x5_1 < (l0_0.length : Int) := of_decide_eq_true asA
      obtain ⟨ad401, e401, hx401_0, hx401_1, hx401_2, hx401_3, hx401_4, hx401_5⟩ := at_T31 HR0_0.out x5_1 p401 q401
      obtain rfl : ad399 = ad401 := (by injection e401)
      replace hx401_0 := (HB.out.cell (World.block_lt_of_cell? w _ hx401_0)).trans hx401_0
      replace hx401_1 := (HB.out.cell (World.block_lt_of_cell? w _ hx401_1)).trans hx401_1
      replace hx401_2 := (HB.out.cell (World.block_lt_of_cell? w _ hx401_2)).trans hx401_2
      replace hx401_3 := (HB.out.cell (World.block_lt_of_cell? w _ hx401_3)).trans hx401_3
      replace hx401_4 := (HB.out.cell (World.block_lt_of_cell? w _ hx401_4)).trans hx401_4
      replace hx401_5 := (HB.out.cell (World.block_lt_of_cell? w _ hx401_5)).trans hx401_5
      replace p401 := eq_true p401
      replace q401 := eq_true q401
      go_wp2
      go_roundg k1
      case measure => have := HK1.out; omega
      case rel => exact ⟨((rd_T31 l0_0 x5_1).f0), ((rd_T31 l0_0 x5_1).f3), (wrap64 (x5_1 + 1)), (by first | rfl | (simp; done) | (simp [*]; done)), (by first | rfl | (simp; done) | (simp [*]; done)), (by first | rfl | (simp; done) | (simp [*]; done)), H', ⟨by have := HK1.out; omega⟩, ⟨by (with_reducible repeat (first | refine blk_drewN ?_ _ | refine blk_drew ?_ | refine blk_alloc ?_ _)); exact BK398.out⟩, ⟨by repeat (first | (with_reducible first | exact HB.out | apply below_alloc | apply pw_below_drewN | apply below_drew1 | refine below_set ?_ GE398.out) | exact HB.out)⟩⟩
     ·rw [if_neg c5] at H
      have c5b0 : decide (x4_1 ≤ ((rd_T31 l0_0 x5_1).f3)) = false := decide_eq_false c5
      clear c5
      have H' := Aside0.mk H
      clear H
      have hcz7_0 : wr.cell? ⟨gb398, 0, none⟩ = some (.slice A0_0 l0_0.length c0_0) := (blk_cell BK398.out 0).trans rfl
      have hcz7_1 : wr.cell? ⟨gb398, 1, none⟩ = some (.int .i64 a0_1) := (blk_cell BK398.out 1).trans rfl
      have hcz7_2 : wr.cell? ⟨gb398, 2, none⟩ = some (.int .i64 a0_2) := (blk_cell BK398.out 2).trans rfl
      have hcz7_3 : wr.cell? ⟨gb398, 3, none⟩ = some (.int .u64 a0_3) := (blk_cell BK398.out 3).trans rfl
      have hfz7_0 := blk_frozen BK398.out 0
      have hfz7_1 := blk_frozen BK398.out 1
      have hfz7_2 := blk_frozen BK398.out 2
      have hfz7_3 := blk_frozen BK398.out 3
      have p399 : 0 ≤ (x5_1 : Int) := of_decide_eq_true asA
      have q399 : x5_1 < (l0_0.length : Int) := of_decide_eq_true asA
      obtain ⟨ad399, e399, hx399_0, hx399_1, hx399_2, hx399_3, hx399_4, hx399_5⟩ := at_T31 HR0_0.out x5_1 p399 q399
      cases e399
      replace hx399_0 := (HB.out.cell (World.block_lt_of_cell? w _ hx399_0)).trans hx399_0
      replace hx399_1 := (HB.out.cell (World.block_lt_of_cell? w _ hx399_1)).trans hx399_1
      replace hx399_2 := (HB.out.cell (World.block_lt_of_cell? w _ hx399_2)).trans hx399_2
      replace hx399_3 := (HB.out.cell (World.block_lt_of_cell? w _ hx399_3)).trans hx399_3
      replace hx399_4 := (HB.out.cell (World.block_lt_of_cell? w _ hx399_4)).trans hx399_4
      replace hx399_5 := (HB.out.cell (World.block_lt_of_cell? w _ hx399_5)).trans hx399_5
      replace p399 := eq_true p399
      replace q399 := eq_true q399
      go_wp2
      go_roundg k1
      case measure => have := HK1.out; omega
      case rel => exact ⟨(x3_1), (x4_1), (wrap64 (x5_1 + 1)), (by first | rfl | (simp; done) | (simp [*]; done)), (by first | rfl | (simp; done) | (simp [*]; done)), (by first | rfl | (simp; done) | (simp [*]; done)), H', ⟨by have := HK1.out; omega⟩, ⟨by (with_reducible repeat (first | refine blk_drewN ?_ _ | refine blk_drew ?_ | refine blk_alloc ?_ _)); exact BK398.out⟩, ⟨by repeat (first | (with_reducible first | exact HB.out | apply below_alloc | apply pw_below_drewN | apply below_drew1 | refine below_set ?_ GE398.out) | exact HB.out)⟩⟩
    ·rw [if_neg c4] at H
     exact absurd H (by simp)
   ·rw [if_neg c3] at H
    have c3b0 : decide (x5_1 < (l0_0.length : Int)) = false := decide_eq_false c3
    clear c3
    obtain rfl := Option.some.inj H
    have hcz8_0 : wr.cell? ⟨gb398, 0, none⟩ = some (.slice A0_0 l0_0.length c0_0) := (blk_cell BK398.out 0).trans rfl
    have hcz8_1 : wr.cell? ⟨gb398, 1, none⟩ = some (.int .i64 a0_1) := (blk_cell BK398.out 1).trans rfl
    have hcz8_2 : wr.cell? ⟨gb398, 2, none⟩ = some (.int .i64 a0_2) := (blk_cell BK398.out 2).trans rfl
    have hcz8_3 : wr.cell? ⟨gb398, 3, none⟩ = some (.int .u64 a0_3) := (blk_cell BK398.out 3).trans rfl
    have hfz8_0 := blk_frozen BK398.out 0
    have hfz8_1 := blk_frozen BK398.out 1
    have hfz8_2 := blk_frozen BK398.out 2
    have hfz8_3 := blk_frozen BK398.out 3
    go_wp2
    go_ret
    exact ⟨by first | rfl | (simp [errW_none, errW_some] <;> rfl) | (simp [*, errW_none, errW_some] <;> rfl), by repeat (first | (with_reducible first | exact HB.out | apply below_alloc | apply pw_below_drewN | apply below_drew1 | refine below_set ?_ GE398.out) | exact HB.out)⟩
-- NOT PRINTED: function 3 (rootcellarlaw16_PolicyKeeps)
-- NOT PRINTED: function 8 (rootcellarlaw16_PolicyReads)
-- NOT PRINTED: function 4 (rootcellarlaw16_PolicyParts)
-- NOT PRINTED: function 5 (rootcellarlaw16_PolicyMore)
-- NOT PRINTED: function 6 (rootcellarlaw16_PolicyDaily)
-- NOT PRINTED: function 7 (rootcellarlaw16_PolicyNames)
-- NOT PRINTED: function 9 (rootcellarlaw16_PolicyBack)
end Go.Proofs.YtfdlbnfjohpdlaaGreatDoor.PPo
