-- laid by gprint.py (this session's own program) out of the translation: Lean checks it
import Derived.Test.YtfdlbnfjohpdlaaGreatDoorPPox0
import Derived.Test.YtfdlbnfjohpdlaaGreatDoorPPox18
import Derived.Test.YtfdlbnfjohpdlaaGreatDoorPPox20
import Derived.Test.YtfdlbnfjohpdlaaGreatDoorPPox21
--compressed
namespace Go.Proofs.YtfdlbnfjohpdlaaGreatDoor.PPo
open Go.RowKit Go.Proofs.YtfdlbnfjohpdlaaGreatDoorW.PrintWords Go.Proofs.YtfdlbnfjohpdlaaGreatDoorW.PrintLast Go.Proofs.YtfdlbnfjohpdlaaGreatDoorW.PrintMore
attribute [local go_sem] max2_int min2_int max_two min_two max_three min_three max_four min_four   -- for this text's walks alone
attribute [local go_sem high] hw_str_leq hw_str_gtr
set_option linter.unusedVariables false
set_option linter.unusedSimpArgs false
mutual
def rootcellarref16_kept.j0 : Nat → List (S81) → Bool → Int → Int → Int → Int → Int → Int → ByteArray → Int → Bool → Bool → Option (Bool)
 | 0, _, _, _, _, _, _, _, _, _, _, _, _ => none
 | k + 1, x2, x23, x334000, x334001, x334002, x334003, x336000, x336001, x336002, x336003, x336004, x336005 => if x23 = true then (some true) else (rootcellarref16_kept.l0 k x2 0 x334000 x334001 x334002 x334003 x336000 x336001 x336002 x336003 x336004 x336005)
def rootcellarref16_kept.l0 : Nat → List (S81) → Int → Int → Int → Int → Int → Int → Int → ByteArray → Int → Bool → Bool → Option (Bool)
 | 0, _, _, _, _, _, _, _, _, _, _, _, _ => none
 | k + 1, x2, x9, x334000, x334001, x334002, x334003, x336000, x336001, x336002, x336003, x336004, x336005 => if x9 < 4 then ((rootcellarref16_newest.f k x2 x336000 x336001 x336002 x336003 x336004 x336005 x9).bind fun t336 => (if t336 = true then ((rootcellarref16_later.f k x2 x336000 x336001 x336002 x336003 x336004 x336005 x9).bind fun t337 => ((rootcellarref16_Of.f x334000 x334001 x334002 x334003 x9).bind fun t338 => (if t337 < t338 then (some true) else (rootcellarref16_kept.l0 k x2 (wrap64 (x9 + 1)) x334000 x334001 x334002 x334003 x336000 x336001 x336002 x336003 x336004 x336005)))) else (rootcellarref16_kept.l0 k x2 (wrap64 (x9 + 1)) x334000 x334001 x334002 x334003 x336000 x336001 x336002 x336003 x336004 x336005))) else (some false)
end
def rootcellarref16_kept.f (k : Nat) (a0_0 : Int) (a0_1 : Int) (a0_2 : Int) (a0_3 : Int) (l1_0 : List (S81)) (a1_1 : Int) (a1_2 : Int) (a1_3 : Int) (l2 : List (S81)) (a3_0 : Int) (a3_1 : Int) (a3_2 : ByteArray) (a3_3 : Int) (a3_4 : Bool) (a3_5 : Bool) : Option (Bool) := if a3_0 = 1 then (rootcellarref16_kept.j0 k l2 true a0_0 a0_1 a0_2 a0_3 a3_0 a3_1 a3_2 a3_3 a3_4 a3_5) else (if a3_0 = a1_1 then (rootcellarref16_kept.j0 k l2 true a0_0 a0_1 a0_2 a0_3 a3_0 a3_1 a3_2 a3_3 a3_4 a3_5) else (rootcellarref16_kept.j0 k l2 a3_5 a0_0 a0_1 a0_2 a0_3 a3_0 a3_1 a3_2 a3_3 a3_4 a3_5))
def rootcellarref16_kept.T6 : Bool × List (List Nat × List Nat) := (true, [([], []), ([], []), ([], []), ([0, 1, 2], [0, 1, 2]), ([3, 3], [3]), ([4], [4]), ([4], [4]), ([4], [4]), ([5, 6, 7, 4, 4], [4, 5, 6, 7]), ([4], [4]), ([4], [4]), ([9, 10, 8, 4], [4, 9, 10]), ([8, 11, 4], [4, 8, 11]), ([4, 12], [4, 12])])
def rootcellarref16_kept.B6 : List Nat := [0, 0, 0, 7, 15, 31, 31, 31, 255, 31, 31, 2047, 4095, 8191]
theorem rootcellarref16_kept.tab6 : rtab .any (opsOf Tryz.f68 6) = rootcellarref16_kept.T6 := by kernel_rfl
theorem rootcellarref16_kept.bits6 : waitsOk rootcellarref16_kept.T6.2 rootcellarref16_kept.B6 = true := by kernel_rfl
set_option maxHeartbeats 8000000 in
set_option maxRecDepth 100000 in
theorem rootcellarref16_kept.calls (k : Nat) (a0_0 : Int) (a0_1 : Int) (a0_2 : Int) (a0_3 : Int) (A1_0 : Option Addr) (c1_0 : Nat) (l1_0 : List (S81)) (a1_1 : Int) (a1_2 : Int) (a1_3 : Int) (A2 : Option Addr) (c2 : Nat) (l2 : List (S81)) (a3_0 : Int) (a3_1 : Int) (a3_2 : ByteArray) (a3_3 : Int) (a3_4 : Bool) (a3_5 : Bool) (r : Bool) (w : World) (hr1_0 : Kd.C k81 w A1_0 l1_0.length l1_0) (hc1_0 : l1_0.length ≤ c1_0) (hr2 : Kd.C k81 w A2 l2.length l2) (hc2 : l2.length ≤ c2) (h : rootcellarref16_kept.f k a0_0 a0_1 a0_2 a0_3 l1_0 a1_1 a1_2 a1_3 l2 a3_0 a3_1 a3_2 a3_3 a3_4 a3_5 = some r) :
  Calls Tryz.prog 68 #[.agg #[.int .i64 a0_0, .int .i64 a0_1, .int .i64 a0_2, .int .i64 a0_3], .agg #[.slice A1_0 l1_0.length c1_0, .int .i64 a1_1, .int .i64 a1_2, .int .u64 a1_3], .slice A2 l2.length c2, .agg #[.int .i64 a3_0, .int .i64 a3_1, .string a3_2, .int .u64 a3_3, .bool a3_4, .bool a3_5]] w fun e w' => e = .returned (.bool r) ∧ Below w.heap.size w w' := by
 have hu37 := Tryz.underlying37
 have hu41 := Tryz.underlying41
 have hu81 := Tryz.underlying81
 have HR1_0 := Aside0.mk hr1_0
 have HC1_0 := Aside0.mk hc1_0
 clear hr1_0 hc1_0
 have HR2 := Aside0.mk hr2
 have HC2 := Aside0.mk hc2
 clear hr2 hc2
 have HB := Aside0.mk (Below.refl w.heap.size w)
 have H : (if a3_0 = 1 then (rootcellarref16_kept.j0 k l2 true a0_0 a0_1 a0_2 a0_3 a3_0 a3_1 a3_2 a3_3 a3_4 a3_5) else (if a3_0 = a1_1 then (rootcellarref16_kept.j0 k l2 true a0_0 a0_1 a0_2 a0_3 a3_0 a3_1 a3_2 a3_3 a3_4 a3_5) else (rootcellarref16_kept.j0 k l2 a3_5 a0_0 a0_1 a0_2 a0_3 a3_0 a3_1 a3_2 a3_3 a3_4 a3_5))) = some r := h
 clear h
 have HC5 := Aside0.mk H
 clear H
 go_enter Tryz.func68, Tryz.ntmps68
 go_upto_region 1 with (first | ((with_reducible refine gate_dst (N := 4) rfl ?_); refine box_event ?hg (N := 4) ?hd (cs := #[.int .i64 a0_0, .int .i64 a0_1, .int .i64 a0_2, .int .i64 a0_3]) (t := 37) ?hr ?_; (case hd => rfl); (case hg => rfl); (case hr => first | (go_simp; done) | (go_simp; rfl)); intro gb333 hg w6 hbox hb; have n0_ := Aside0.mk (below_step belA hb); have n1_ := Aside0.mk (hbox); have n2_ := Aside0.mk ((by rw [hg]; exact (below_size belA) : w.heap.size ≤ gb333)); have n3_ := Aside0.mk ((by rw [hg]; exact (below_size belA) : w.heap.size ≤ gb333)); clear HB; have HB := n0_; have BK333 := n1_; have GW333 := n2_; have GE333 := n3_; clear n0_ n1_ n2_ n3_; clear hb hbox hg) | ((with_reducible refine gate_dst (N := 5) rfl ?_); refine box_event ?hg (N := 5) ?hd (cs := #[.slice A1_0 l1_0.length c1_0, .int .i64 a1_1, .int .i64 a1_2, .int .u64 a1_3]) (t := 41) ?hr ?_; (case hd => rfl); (case hg => rfl); (case hr => first | (go_simp; done) | (go_simp; rfl)); intro gb334 hg w7 hbox hb; have n0_ := Aside0.mk (blk_below (g := gb333) (o := .cells #[.int .i64 a0_0, .int .i64 a0_1, .int .i64 a0_2, .int .i64 a0_3] 37 (0, 0)) (blkN BK333.out) hb); have n1_ := Aside0.mk (below_step (by repeat (first | (with_reducible first | exact HB.out | apply below_alloc | apply pw_below_drewN | apply below_drew1 | refine below_set ?_ GE333.out) | exact HB.out)) hb); have n2_ := Aside0.mk (hbox); have n3_ := Aside0.mk ((by rw [hg]; exact (below_size (by repeat (first | (with_reducible first | exact HB.out | apply below_alloc | apply pw_below_drewN | apply below_drew1 | refine below_set ?_ GE333.out) | exact HB.out))) : w.heap.size ≤ gb334)); have n4_ := Aside0.mk ((by rw [hg]; exact (below_size (by repeat (first | (with_reducible first | exact HB.out | apply below_alloc | apply pw_below_drewN | apply below_drew1 | refine below_set ?_ GE333.out) | exact HB.out))) : w.heap.size ≤ gb334)); have n5_ := Aside0.mk ((by rw [hg]; exact Nat.ne_of_lt (blk_lt (g := gb333) (o := .cells #[.int .i64 a0_0, .int .i64 a0_1, .int .i64 a0_2, .int .i64 a0_3] 37 (0, 0)) (blkN BK333.out)) : gb333 ≠ gb334)); have n6_ := Aside0.mk ((by rw [hg]; exact Nat.ne_of_gt (blk_lt (g := gb333) (o := .cells #[.int .i64 a0_0, .int .i64 a0_1, .int .i64 a0_2, .int .i64 a0_3] 37 (0, 0)) (blkN BK333.out)) : gb334 ≠ gb333)); clear BK333; clear HB; have BK333 := n0_; have HB := n1_; have BK334 := n2_; have GW334 := n3_; have GE334 := n4_; have NB333_334 := n5_; have NB334_333 := n6_; clear n0_ n1_ n2_ n3_ n4_ n5_ n6_; clear hb hbox hg) | ((with_reducible refine gate_dst (N := 7) rfl ?_); refine box_event ?hg (N := 7) ?hd (cs := #[.int .i64 a3_0, .int .i64 a3_1, .string a3_2, .int .u64 a3_3, .bool a3_4, .bool a3_5]) (t := 81) ?hr ?_; (case hd => rfl); (case hg => rfl); (case hr => first | (go_simp; done) | (go_simp; rfl)); intro gb335 hg w8 hbox hb; have n0_ := Aside0.mk (blk_below (g := gb333) (o := .cells #[.int .i64 a0_0, .int .i64 a0_1, .int .i64 a0_2, .int .i64 a0_3] 37 (0, 0)) (blkN BK333.out) hb); have n1_ := Aside0.mk (blk_below (g := gb334) (o := .cells #[.slice A1_0 l1_0.length c1_0, .int .i64 a1_1, .int .i64 a1_2, .int .u64 a1_3] 41 (0, 0)) (blkN BK334.out) hb); have n2_ := Aside0.mk (below_step (by repeat (first | (with_reducible first | exact HB.out | apply below_alloc | apply pw_below_drewN | apply below_drew1 | refine below_set ?_ GE333.out | refine below_set ?_ GE334.out) | exact HB.out)) hb); have n3_ := Aside0.mk (hbox); have n4_ := Aside0.mk ((by rw [hg]; exact (below_size (by repeat (first | (with_reducible first | exact HB.out | apply below_alloc | apply pw_below_drewN | apply below_drew1 | refine below_set ?_ GE333.out | refine below_set ?_ GE334.out) | exact HB.out))) : w.heap.size ≤ gb335)); have n5_ := Aside0.mk ((by rw [hg]; exact (below_size (by repeat (first | (with_reducible first | exact HB.out | apply below_alloc | apply pw_below_drewN | apply below_drew1 | refine below_set ?_ GE333.out | refine below_set ?_ GE334.out) | exact HB.out))) : w.heap.size ≤ gb335)); have n6_ := Aside0.mk ((by rw [hg]; exact Nat.ne_of_lt (blk_lt (g := gb333) (o := .cells #[.int .i64 a0_0, .int .i64 a0_1, .int .i64 a0_2, .int .i64 a0_3] 37 (0, 0)) (blkN BK333.out)) : gb333 ≠ gb335)); have n7_ := Aside0.mk ((by rw [hg]; exact Nat.ne_of_gt (blk_lt (g := gb333) (o := .cells #[.int .i64 a0_0, .int .i64 a0_1, .int .i64 a0_2, .int .i64 a0_3] 37 (0, 0)) (blkN BK333.out)) : gb335 ≠ gb333)); have n8_ := Aside0.mk ((by rw [hg]; exact Nat.ne_of_lt (blk_lt (g := gb334) (o := .cells #[.slice A1_0 l1_0.length c1_0, .int .i64 a1_1, .int .i64 a1_2, .int .u64 a1_3] 41 (0, 0)) (blkN BK334.out)) : gb334 ≠ gb335)); have n9_ := Aside0.mk ((by rw [hg]; exact Nat.ne_of_gt (blk_lt (g := gb334) (o := .cells #[.slice A1_0 l1_0.length c1_0, .int .i64 a1_1, .int .i64 a1_2, .int .u64 a1_3] 41 (0, 0)) (blkN BK334.out)) : gb335 ≠ gb334)); clear BK333; clear BK334; clear HB; have BK333 := n0_; have BK334 := n1_; have HB := n2_; have BK335 := n3_; have GW335 := n4_; have GE335 := n5_; have NB333_335 := n6_; have NB335_333 := n7_; have NB334_335 := n8_; have NB335_334 := n9_; clear n0_ n1_ n2_ n3_ n4_ n5_ n6_ n7_ n8_ n9_; clear hb hbox hg))
 (try simp only [Act.put, List.setIfInBounds_toArray, List.set_cons_zero, List.set_cons_succ])
 go_cut [23] (fun v23 wc => ∃ (kq : Nat) (x23_4 : Bool), v23 = .bool x23_4 ∧ Aside0 (rootcellarref16_kept.j0 kq l2 x23_4 a0_0 a0_1 a0_2 a0_3 a3_0 a3_1 a3_2 a3_3 a3_4 a3_5 = some r) ∧ Aside0 (kq ≤ k) ∧ Aside0 (wc.heap[gb333]? = some (.cells #[.int .i64 a0_0, .int .i64 a0_1, .int .i64 a0_2, .int .i64 a0_3] 37 (0, 0))) ∧ Aside0 (wc.heap[gb334]? = some (.cells #[(.slice A1_0 l1_0.length c1_0), .int .i64 a1_1, .int .i64 a1_2, .int .u64 a1_3] 41 (0, 0))) ∧ Aside0 (wc.heap[gb335]? = some (.cells #[.int .i64 a3_0, .int .i64 a3_1, .string a3_2, .int .u64 a3_3, .bool a3_4, .bool a3_5] 81 (0, 0))) ∧ Aside0 (Below w.heap.size w wc))
 case first =>
  have H := HC5.out
  clear HC5
  by_cases c9 : a3_0 = 1
  ·rw [if_pos c9] at H
   have c9b0 : (a3_0 == 1) = true := beq_iff_eq.mpr c9
   have c9b1 : (a3_0 != 1) = false := bne_eq_false_iff_eq.mpr c9
   clear c9
   (first | rw [c9b0] | (simp only [i64_w, i32_w]; rw [c9b0]) | skip)
   have H' := Aside0.mk H
   clear H
   have hnb10 := NB335_333.out
   have hnc10 := NB333_335.out
   have hnb11 := NB335_334.out
   have hnc11 := NB334_335.out
   have hcz12_0 : w8.cell? ⟨gb335, 0, none⟩ = some (.int .i64 a3_0) := (blk_cell BK335.out 0).trans rfl
   have hcz12_1 : w8.cell? ⟨gb335, 1, none⟩ = some (.int .i64 a3_1) := (blk_cell BK335.out 1).trans rfl
   have hcz12_2 : w8.cell? ⟨gb335, 2, none⟩ = some (.string a3_2) := (blk_cell BK335.out 2).trans rfl
   have hcz12_3 : w8.cell? ⟨gb335, 3, none⟩ = some (.int .u64 a3_3) := (blk_cell BK335.out 3).trans rfl
   have hcz12_4 : w8.cell? ⟨gb335, 4, none⟩ = some (.bool a3_4) := (blk_cell BK335.out 4).trans rfl
   have hcz12_5 : w8.cell? ⟨gb335, 5, none⟩ = some (.bool a3_5) := (blk_cell BK335.out 5).trans rfl
   have hfz12_0 := blk_frozen BK335.out 0
   have hfz12_1 := blk_frozen BK335.out 1
   have hfz12_2 := blk_frozen BK335.out 2
   have hfz12_3 := blk_frozen BK335.out 3
   have hfz12_4 := blk_frozen BK335.out 4
   have hfz12_5 := blk_frozen BK335.out 5
   go_wp2
   go_meet
   case rel => exact ⟨_, (true), (by first | rfl | (simp; done) | (simp [*]; done)), H', ⟨by first | omega | exact Nat.le_refl _⟩, ⟨by (with_reducible repeat (first | refine blk_drewN ?_ _ | refine blk_drew ?_ | refine blk_alloc ?_ _)); exact BK333.out⟩, ⟨by (with_reducible repeat (first | refine blk_drewN ?_ _ | refine blk_drew ?_ | refine blk_alloc ?_ _)); exact BK334.out⟩, ⟨by (with_reducible repeat (first | refine blk_drewN ?_ _ | refine blk_drew ?_ | refine blk_alloc ?_ _)); exact BK335.out⟩, ⟨by repeat (first | (with_reducible first | exact HB.out | apply below_alloc | apply pw_below_drewN | apply below_drew1 | refine below_set ?_ GE333.out | refine below_set ?_ GE334.out | refine below_set ?_ GE335.out) | exact HB.out)⟩⟩
  ·rw [if_neg c9] at H
   have c9b0 : (a3_0 == 1) = false := beq_eq_false_iff_ne.mpr c9
   have c9b1 : (a3_0 != 1) = true := bne_iff_ne.mpr c9
   (first | rw [c9b0] | (simp only [i64_w, i32_w]; rw [c9b0]) | skip)
   by_cases c13 : a3_0 = a1_1
   ·rw [if_pos c13] at H
    have c13b0 : (a3_0 == a1_1) = true := beq_iff_eq.mpr c13
    have c13b1 : (a3_0 != a1_1) = false := bne_eq_false_iff_eq.mpr c13
    clear c13
    have H' := Aside0.mk H
    clear H
    have hnb14 := NB335_333.out
    have hnc14 := NB333_335.out
    have hnb15 := NB335_334.out
    have hnc15 := NB334_335.out
    have hcz16_0 : w8.cell? ⟨gb335, 0, none⟩ = some (.int .i64 a3_0) := (blk_cell BK335.out 0).trans rfl
    have hcz16_1 : w8.cell? ⟨gb335, 1, none⟩ = some (.int .i64 a3_1) := (blk_cell BK335.out 1).trans rfl
    have hcz16_2 : w8.cell? ⟨gb335, 2, none⟩ = some (.string a3_2) := (blk_cell BK335.out 2).trans rfl
    have hcz16_3 : w8.cell? ⟨gb335, 3, none⟩ = some (.int .u64 a3_3) := (blk_cell BK335.out 3).trans rfl
    have hcz16_4 : w8.cell? ⟨gb335, 4, none⟩ = some (.bool a3_4) := (blk_cell BK335.out 4).trans rfl
    have hcz16_5 : w8.cell? ⟨gb335, 5, none⟩ = some (.bool a3_5) := (blk_cell BK335.out 5).trans rfl
    have hfz16_0 := blk_frozen BK335.out 0
    have hfz16_1 := blk_frozen BK335.out 1
    have hfz16_2 := blk_frozen BK335.out 2
    have hfz16_3 := blk_frozen BK335.out 3
    have hfz16_4 := blk_frozen BK335.out 4
    have hfz16_5 := blk_frozen BK335.out 5
    have hnb17 := NB334_333.out
    have hnc17 := NB333_334.out
    have hcz18_0 : w8.cell? ⟨gb334, 0, none⟩ = some (.slice A1_0 l1_0.length c1_0) := (blk_cell BK334.out 0).trans rfl
    have hcz18_1 : w8.cell? ⟨gb334, 1, none⟩ = some (.int .i64 a1_1) := (blk_cell BK334.out 1).trans rfl
    have hcz18_2 : w8.cell? ⟨gb334, 2, none⟩ = some (.int .i64 a1_2) := (blk_cell BK334.out 2).trans rfl
    have hcz18_3 : w8.cell? ⟨gb334, 3, none⟩ = some (.int .u64 a1_3) := (blk_cell BK334.out 3).trans rfl
    have hfz18_0 := blk_frozen BK334.out 0
    have hfz18_1 := blk_frozen BK334.out 1
    have hfz18_2 := blk_frozen BK334.out 2
    have hfz18_3 := blk_frozen BK334.out 3
    go_wp2
    go_meet
    case rel => exact ⟨_, (true), (by first | rfl | (simp; done) | (simp [*]; done)), H', ⟨by first | omega | exact Nat.le_refl _⟩, ⟨by (with_reducible repeat (first | refine blk_drewN ?_ _ | refine blk_drew ?_ | refine blk_alloc ?_ _)); exact BK333.out⟩, ⟨by (with_reducible repeat (first | refine blk_drewN ?_ _ | refine blk_drew ?_ | refine blk_alloc ?_ _)); exact BK334.out⟩, ⟨by (with_reducible repeat (first | refine blk_drewN ?_ _ | refine blk_drew ?_ | refine blk_alloc ?_ _)); exact BK335.out⟩, ⟨by repeat (first | (with_reducible first | exact HB.out | apply below_alloc | apply pw_below_drewN | apply below_drew1 | refine below_set ?_ GE333.out | refine below_set ?_ GE334.out | refine below_set ?_ GE335.out) | exact HB.out)⟩⟩
   ·rw [if_neg c13] at H
    have c13b0 : (a3_0 == a1_1) = false := beq_eq_false_iff_ne.mpr c13
    have c13b1 : (a3_0 != a1_1) = true := bne_iff_ne.mpr c13
    have H' := Aside0.mk H
    clear H
    have hnb19 := NB335_333.out
    have hnc19 := NB333_335.out
    have hnb20 := NB335_334.out
    have hnc20 := NB334_335.out
    have hcz21_0 : w8.cell? ⟨gb335, 0, none⟩ = some (.int .i64 a3_0) := (blk_cell BK335.out 0).trans rfl
    have hcz21_1 : w8.cell? ⟨gb335, 1, none⟩ = some (.int .i64 a3_1) := (blk_cell BK335.out 1).trans rfl
    have hcz21_2 : w8.cell? ⟨gb335, 2, none⟩ = some (.string a3_2) := (blk_cell BK335.out 2).trans rfl
    have hcz21_3 : w8.cell? ⟨gb335, 3, none⟩ = some (.int .u64 a3_3) := (blk_cell BK335.out 3).trans rfl
    have hcz21_4 : w8.cell? ⟨gb335, 4, none⟩ = some (.bool a3_4) := (blk_cell BK335.out 4).trans rfl
    have hcz21_5 : w8.cell? ⟨gb335, 5, none⟩ = some (.bool a3_5) := (blk_cell BK335.out 5).trans rfl
    have hfz21_0 := blk_frozen BK335.out 0
    have hfz21_1 := blk_frozen BK335.out 1
    have hfz21_2 := blk_frozen BK335.out 2
    have hfz21_3 := blk_frozen BK335.out 3
    have hfz21_4 := blk_frozen BK335.out 4
    have hfz21_5 := blk_frozen BK335.out 5
    have hnb22 := NB334_333.out
    have hnc22 := NB333_334.out
    have hcz23_0 : w8.cell? ⟨gb334, 0, none⟩ = some (.slice A1_0 l1_0.length c1_0) := (blk_cell BK334.out 0).trans rfl
    have hcz23_1 : w8.cell? ⟨gb334, 1, none⟩ = some (.int .i64 a1_1) := (blk_cell BK334.out 1).trans rfl
    have hcz23_2 : w8.cell? ⟨gb334, 2, none⟩ = some (.int .i64 a1_2) := (blk_cell BK334.out 2).trans rfl
    have hcz23_3 : w8.cell? ⟨gb334, 3, none⟩ = some (.int .u64 a1_3) := (blk_cell BK334.out 3).trans rfl
    have hfz23_0 := blk_frozen BK334.out 0
    have hfz23_1 := blk_frozen BK334.out 1
    have hfz23_2 := blk_frozen BK334.out 2
    have hfz23_3 := blk_frozen BK334.out 3
    go_wp2
    go_meet
    case rel => exact ⟨_, (a3_5), (by first | rfl | (simp; done) | (simp [*]; done)), H', ⟨by first | omega | exact Nat.le_refl _⟩, ⟨by (with_reducible repeat (first | refine blk_drewN ?_ _ | refine blk_drew ?_ | refine blk_alloc ?_ _)); exact BK333.out⟩, ⟨by (with_reducible repeat (first | refine blk_drewN ?_ _ | refine blk_drew ?_ | refine blk_alloc ?_ _)); exact BK334.out⟩, ⟨by (with_reducible repeat (first | refine blk_drewN ?_ _ | refine blk_drew ?_ | refine blk_alloc ?_ _)); exact BK335.out⟩, ⟨by repeat (first | (with_reducible first | exact HB.out | apply below_alloc | apply pw_below_drewN | apply below_drew1 | refine below_set ?_ GE333.out | refine below_set ?_ GE334.out | refine below_set ?_ GE335.out) | exact HB.out)⟩⟩
 case rest =>
  clear HC5
  try clear c1
  try clear c2
  try clear p2
  try clear c6
  try clear c9
  try clear c9b0
  try clear c9b1
  try clear c10
  try clear c11
  try clear c13
  try clear c13b0
  try clear c13b1
  try clear c14
  try clear c15
  try clear c17
  try clear c19
  try clear c20
  try clear c22
  try clear hcz12_0
  try clear hcz12_1
  try clear hcz12_2
  try clear hcz12_3
  try clear hcz12_4
  try clear hcz12_5
  try clear hcz16_0
  try clear hcz16_1
  try clear hcz16_2
  try clear hcz16_3
  try clear hcz16_4
  try clear hcz16_5
  try clear hcz18_0
  try clear hcz18_1
  try clear hcz18_2
  try clear hcz18_3
  try clear hcz21_0
  try clear hcz21_1
  try clear hcz21_2
  try clear hcz21_3
  try clear hcz21_4
  try clear hcz21_5
  try clear hcz23_0
  try clear hcz23_1
  try clear hcz23_2
  try clear hcz23_3
  try clear hfz12_0
  try clear hfz12_1
  try clear hfz12_2
  try clear hfz12_3
  try clear hfz12_4
  try clear hfz12_5
  try clear hfz16_0
  try clear hfz16_1
  try clear hfz16_2
  try clear hfz16_3
  try clear hfz16_4
  try clear hfz16_5
  try clear hfz18_0
  try clear hfz18_1
  try clear hfz18_2
  try clear hfz18_3
  try clear hfz21_0
  try clear hfz21_1
  try clear hfz21_2
  try clear hfz21_3
  try clear hfz21_4
  try clear hfz21_5
  try clear hfz23_0
  try clear hfz23_1
  try clear hfz23_2
  try clear hfz23_3
  obtain ⟨kq, x23_4, rfl, HA, HJ4, BK333, BK334, BK335, HB⟩ := hcut
  cases kq with
  | zero => exact absurd HA.out (by simp [rootcellarref16_kept.j0])
  | succ kj4 =>
   have H := HA.out
   clear HA
   simp only [rootcellarref16_kept.j0] at H
   by_cases c24 : x23_4 = true
   ·subst c24
    have H1 : (some true) = some r := by rw [if_pos rfl] at H; exact H
    clear H
    have H := H1
    clear H1
    obtain rfl := Option.some.inj H
    go_wp2
    go_ret
    exact ⟨by first | rfl | (simp [errW_none, errW_some] <;> rfl) | (simp [*, errW_none, errW_some] <;> rfl), by repeat (first | (with_reducible first | exact HB.out | apply below_alloc | apply pw_below_drewN | apply below_drew1 | refine below_set ?_ GE333.out | refine below_set ?_ GE334.out | refine below_set ?_ GE335.out) | exact HB.out)⟩
   ·replace c24 := Bool.eq_false_iff.mpr c24
    subst c24
    have H1 : (rootcellarref16_kept.l0 kj4 l2 0 a0_0 a0_1 a0_2 a0_3 a3_0 a3_1 a3_2 a3_3 a3_4 a3_5) = some r := by rw [if_neg (show ¬ (false = true) by decide)] at H; exact H
    clear H
    have H := H1
    clear H1
    have H' := Aside0.mk H
    clear H
    go_wp2
    go_loopg [9] kj4 (fun kq v9 w' => ∃ (x9_2 : Int), v9 = .int .i64 x9_2 ∧ Aside0 (rootcellarref16_kept.l0 kq l2 x9_2 a0_0 a0_1 a0_2 a0_3 a3_0 a3_1 a3_2 a3_3 a3_4 a3_5 = some r) ∧ Aside0 (kq ≤ kj4) ∧ Aside0 (w'.heap[gb333]? = some (.cells #[.int .i64 a0_0, .int .i64 a0_1, .int .i64 a0_2, .int .i64 a0_3] 37 (0, 0))) ∧ Aside0 (w'.heap[gb334]? = some (.cells #[(.slice A1_0 l1_0.length c1_0), .int .i64 a1_1, .int .i64 a1_2, .int .u64 a1_3] 41 (0, 0))) ∧ Aside0 (w'.heap[gb335]? = some (.cells #[.int .i64 a3_0, .int .i64 a3_1, .string a3_2, .int .u64 a3_3, .bool a3_4, .bool a3_5] 81 (0, 0))) ∧ Aside0 (Below w.heap.size w w'))
    case atStart => exact ⟨(0), (by first | rfl | (simp; done) | (simp [*]; done)), H', ⟨Nat.le_refl _⟩, ⟨by (with_reducible repeat (first | refine blk_drewN ?_ _ | refine blk_drew ?_ | refine blk_alloc ?_ _)); exact BK333.out⟩, ⟨by (with_reducible repeat (first | refine blk_drewN ?_ _ | refine blk_drew ?_ | refine blk_alloc ?_ _)); exact BK334.out⟩, ⟨by (with_reducible repeat (first | refine blk_drewN ?_ _ | refine blk_drew ?_ | refine blk_alloc ?_ _)); exact BK335.out⟩, ⟨by repeat (first | (with_reducible first | exact HB.out | apply below_alloc | apply pw_below_drewN | apply below_drew1 | refine below_set ?_ GE333.out | refine below_set ?_ GE334.out | refine below_set ?_ GE335.out) | exact HB.out)⟩⟩
    case round =>
     clear H'
     try clear c1
     try clear c2
     try clear p2
     try clear c6
     try clear c9
     try clear c9b0
     try clear c9b1
     try clear c10
     try clear c11
     try clear c13
     try clear c13b0
     try clear c13b1
     try clear c14
     try clear c15
     try clear c17
     try clear c19
     try clear c20
     try clear c22
     try clear c24
     try clear hcz12_0
     try clear hcz12_1
     try clear hcz12_2
     try clear hcz12_3
     try clear hcz12_4
     try clear hcz12_5
     try clear hcz16_0
     try clear hcz16_1
     try clear hcz16_2
     try clear hcz16_3
     try clear hcz16_4
     try clear hcz16_5
     try clear hcz18_0
     try clear hcz18_1
     try clear hcz18_2
     try clear hcz18_3
     try clear hcz21_0
     try clear hcz21_1
     try clear hcz21_2
     try clear hcz21_3
     try clear hcz21_4
     try clear hcz21_5
     try clear hcz23_0
     try clear hcz23_1
     try clear hcz23_2
     try clear hcz23_3
     try clear hfz12_0
     try clear hfz12_1
     try clear hfz12_2
     try clear hfz12_3
     try clear hfz12_4
     try clear hfz12_5
     try clear hfz16_0
     try clear hfz16_1
     try clear hfz16_2
     try clear hfz16_3
     try clear hfz16_4
     try clear hfz16_5
     try clear hfz18_0
     try clear hfz18_1
     try clear hfz18_2
     try clear hfz18_3
     try clear hfz21_0
     try clear hfz21_1
     try clear hfz21_2
     try clear hfz21_3
     try clear hfz21_4
     try clear hfz21_5
     try clear hfz23_0
     try clear hfz23_1
     try clear hfz23_2
     try clear hfz23_3
     try clear p2
     obtain ⟨x9_2, rfl, HA, HK2, BK333, BK334, BK335, HB⟩ := hrel
     cases gk with
     | zero => exact absurd HA.out (by simp [rootcellarref16_kept.l0])
     | succ k2 =>
      have H := HA.out
      clear HA
      simp only [rootcellarref16_kept.l0] at H
      by_cases c25 : x9_2 < 4
      ·rw [if_pos c25] at H
       have c25b0 : decide (x9_2 < 4) = true := decide_eq_true c25
       clear c25
       replace H := Option.bind_eq_some_iff.mp H
       obtain ⟨t336, A260, H⟩ := H
       replace H : (if t336 = true then ((rootcellarref16_later.f k2 l2 a3_0 a3_1 a3_2 a3_3 a3_4 a3_5 x9_2).bind fun t337 => ((rootcellarref16_Of.f a0_0 a0_1 a0_2 a0_3 x9_2).bind fun t338 => (if t337 < t338 then (some true) else (rootcellarref16_kept.l0 k2 l2 (wrap64 (x9_2 + 1)) a0_0 a0_1 a0_2 a0_3 a3_0 a3_1 a3_2 a3_3 a3_4 a3_5)))) else (rootcellarref16_kept.l0 k2 l2 (wrap64 (x9_2 + 1)) a0_0 a0_1 a0_2 a0_3 a3_0 a3_1 a3_2 a3_3 a3_4 a3_5)) = some r := H
       have A26 := Aside0.mk A260
       clear A260
       by_cases c27 : t336 = true
       ·subst c27
        have H1 : ((rootcellarref16_later.f k2 l2 a3_0 a3_1 a3_2 a3_3 a3_4 a3_5 x9_2).bind fun t337 => ((rootcellarref16_Of.f a0_0 a0_1 a0_2 a0_3 x9_2).bind fun t338 => (if t337 < t338 then (some true) else (rootcellarref16_kept.l0 k2 l2 (wrap64 (x9_2 + 1)) a0_0 a0_1 a0_2 a0_3 a3_0 a3_1 a3_2 a3_3 a3_4 a3_5)))) = some r := by rw [if_pos rfl] at H; exact H
        clear H
        have H := H1
        clear H1
        replace H := Option.bind_eq_some_iff.mp H
        obtain ⟨t337, A280, H⟩ := H
        replace H : ((rootcellarref16_Of.f a0_0 a0_1 a0_2 a0_3 x9_2).bind fun t338 => (if t337 < t338 then (some true) else (rootcellarref16_kept.l0 k2 l2 (wrap64 (x9_2 + 1)) a0_0 a0_1 a0_2 a0_3 a3_0 a3_1 a3_2 a3_3 a3_4 a3_5))) = some r := H
        have A28 := Aside0.mk A280
        clear A280
        replace H := Option.bind_eq_some_iff.mp H
        obtain ⟨t338, A290, H⟩ := H
        replace H : (if t337 < t338 then (some true) else (rootcellarref16_kept.l0 k2 l2 (wrap64 (x9_2 + 1)) a0_0 a0_1 a0_2 a0_3 a3_0 a3_1 a3_2 a3_3 a3_4 a3_5)) = some r := H
        have A29 := Aside0.mk A290
        clear A290
        by_cases c30 : t337 < t338
        ·rw [if_pos c30] at H
         have c30b0 : decide (t337 < t338) = true := decide_eq_true c30
         clear c30
         obtain rfl := Option.some.inj H
         try go_wp2
         have n0_ := Aside0.mk (blk_drew BK333.out)
         have n1_ := Aside0.mk (blk_drew BK334.out)
         have n2_ := Aside0.mk (blk_drew BK335.out)
         have n3_ := Aside0.mk (below_drew1 HB.out)
         clear BK333
         clear BK334
         clear BK335
         clear HB
         have BK333 := n0_
         have BK334 := n1_
         have BK335 := n2_
         have HB := n3_
         clear n0_ n1_ n2_ n3_
         refine start_ (n := 14) (S := fun w' => w'.cell? ⟨gb335, 0, none⟩ = some (.int .i64 a3_0) ∧ w'.cell? ⟨gb335, 1, none⟩ = some (.int .i64 a3_1) ∧ w'.cell? ⟨gb335, 2, none⟩ = some (.string a3_2) ∧ w'.cell? ⟨gb335, 3, none⟩ = some (.int .u64 a3_3) ∧ w'.cell? ⟨gb335, 4, none⟩ = some (.bool a3_4) ∧ w'.cell? ⟨gb335, 5, none⟩ = some (.bool a3_5) ∧ w'.cell? ⟨gb333, 0, none⟩ = some (.int .i64 a0_0) ∧ w'.cell? ⟨gb333, 1, none⟩ = some (.int .i64 a0_1) ∧ w'.cell? ⟨gb333, 2, none⟩ = some (.int .i64 a0_2) ∧ w'.cell? ⟨gb333, 3, none⟩ = some (.int .i64 a0_3)) (ds := []) #[Z,Z,Z,Z,Z,Z,Z,Z,Z,Z,Z,Z,Z,Z] (by kernel_rfl) rfl rfl ⟨(blk_cell BK335.out 0).trans rfl, (blk_cell BK335.out 1).trans rfl, (blk_cell BK335.out 2).trans rfl, (blk_cell BK335.out 3).trans rfl, (blk_cell BK335.out 4).trans rfl, (blk_cell BK335.out 5).trans rfl, (blk_cell BK333.out 0).trans rfl, (blk_cell BK333.out 1).trans rfl, (blk_cell BK333.out 2).trans rfl, (blk_cell BK333.out 3).trans rfl⟩ (fun hHeld => ?_); refine with_tabW rootcellarref16_kept.tab6 rootcellarref16_kept.bits6 (fun HT_ HW_ => ?_)
         generalize wr.drew = w31 at BK333 BK334 BK335 HB hHeld ⊢
         refine pure_ (i := 0) (N := some 28) (v := ?_) (a' := ?_) #[Y,Z,Z,Z,Z,Z,Z,Z,Z,Z,Z,Z,Z,Z] rfl rfl (any_of HT_.out (by kernel_rfl)) (fun _ _ _ h => h) (Or.inl ⟨by rfl, ?_⟩) ?_ ?_
         rotate_left
         ·intro w'
          go_simp
          with_reducible rfl
         rotate_left
         ·simp only [Act.put, List.setIfInBounds_toArray, List.set_cons_zero, List.set_cons_succ, i64_w, i32_w]
          rfl
         refine pure_ (i := 2) (N := some 30) (v := ?_) (a' := ?_) #[Y,Z,Y,Z,Z,Z,Z,Z,Z,Z,Z,Z,Z,Z] rfl rfl (any_of HT_.out (by kernel_rfl)) (fun _ _ _ h => h) (Or.inl ⟨by rfl, ?_⟩) ?_ ?_
         rotate_left
         ·intro w'
          go_simp
          with_reducible rfl
         rotate_left
         ·simp only [Act.put, List.setIfInBounds_toArray, List.set_cons_zero, List.set_cons_succ, i64_w, i32_w]
          rfl
         refine take_ (i := 1) (N := some 29) (v := ?_) (a' := ?_) #[Y,Y,Y,Z,Z,Z,Z,Z,Z,Z,Z,Z,Z,Z] rfl rfl (take_ofW HT_.out HW_.out (by kernel_rfl)) (fun _ _ _ h => h) (Or.inl ⟨by rfl, ?_⟩) hHeld ?_ ?_
         rotate_left
         ·rintro w' ⟨s0, s1, s2, s3, s4, s5, s6, s7, s8, s9⟩
          go_simp
          with_reducible rfl
         rotate_left
         ·simp only [Act.put, List.setIfInBounds_toArray, List.set_cons_zero, List.set_cons_succ, i64_w, i32_w]
          rfl
         refine one_ (i := 3) (N := some 31) #[Y,Y,Y,Y,Z,Z,Z,Z,Z,Z,Z,Z,Z,Z] rfl rfl (one_of HT_.out (by kernel_rfl)) (by decide) (fun K hK => ?_)
         refine goes_ Tryz.func104 (by kernel_rfl) rfl #[.slice A2 l2.length c2, .agg #[.int .i64 a3_0, .int .i64 a3_1, .string a3_2, .int .u64 a3_3, .bool a3_4, .bool a3_5], .int .i64 x9_2] (by rfl) rfl rfl argA ?_
         with_reducible refine (rootcellarref16_newest.calls k2 _ _ l2 a3_0 a3_1 a3_2 a3_3 a3_4 a3_5 x9_2 true _ ?side1 ?side2 A26.out).mono ?_
         (case side1 => repeat (first | exact (Kd.C_below HR2.out HB.out) | (with_reducible refine Kd.C_alloc ?_ _) | (with_reducible refine Kd.C_drewN ?_ _) | (with_reducible refine Kd.C_drew ?_)))
         (case side2 => exact HC2.out)
         rintro e w32 ⟨rfl, hb⟩
         refine ⟨_, rfl, ?_⟩
         have n0_ := Aside0.mk (blk_below (g := gb333) (o := .cells #[.int .i64 a0_0, .int .i64 a0_1, .int .i64 a0_2, .int .i64 a0_3] 37 (0, 0)) (blkN BK333.out) hb)
         have n1_ := Aside0.mk (blk_below (g := gb334) (o := .cells #[.slice A1_0 l1_0.length c1_0, .int .i64 a1_1, .int .i64 a1_2, .int .u64 a1_3] 41 (0, 0)) (blkN BK334.out) hb)
         have n2_ := Aside0.mk (blk_below (g := gb335) (o := .cells #[.int .i64 a3_0, .int .i64 a3_1, .string a3_2, .int .u64 a3_3, .bool a3_4, .bool a3_5] 81 (0, 0)) (blkN BK335.out) hb)
         have n3_ := Aside0.mk (below_step (by repeat (first | (with_reducible first | exact HB.out | apply below_alloc | apply pw_below_drewN | apply below_drew1 | refine below_set ?_ GE333.out | refine below_set ?_ GE334.out | refine below_set ?_ GE335.out) | exact HB.out)) hb)
         clear BK333
         clear BK334
         clear BK335
         clear HB
         have BK333 := n0_
         have BK334 := n1_
         have BK335 := n2_
         have HB := n3_
         clear n0_ n1_ n2_ n3_
         (try clear hb)
         (try clear hb2)
         (try clear hk)
         (try clear hi)
         refine hK.out _ _ ⟨(blk_cell BK335.out 0).trans rfl, (blk_cell BK335.out 1).trans rfl, (blk_cell BK335.out 2).trans rfl, (blk_cell BK335.out 3).trans rfl, (blk_cell BK335.out 4).trans rfl, (blk_cell BK335.out 5).trans rfl, (blk_cell BK333.out 0).trans rfl, (blk_cell BK333.out 1).trans rfl, (blk_cell BK333.out 2).trans rfl, (blk_cell BK333.out 3).trans rfl⟩ (fun hHeld => ?_)
         clear hK K
         refine norm_ (a' := ?_) ?_ ?_
         rotate_left
         ·show Act.put _ (some 31) _ = _
          simp only [Act.put, List.setIfInBounds_toArray, List.set_cons_zero, List.set_cons_succ, i64_w, i32_w]
          rfl
         refine pure_ (i := 4) (N := some 32) (v := ?_) (a' := ?_) #[Y,Y,Y,Y,Y,Z,Z,Z,Z,Z,Z,Z,Z,Z] rfl rfl (any_of HT_.out (by kernel_rfl)) (fun _ _ _ h => h) (Or.inl ⟨by rfl, ?_⟩) ?_ ?_
         rotate_left
         ·intro w'
          go_simp
          with_reducible rfl
         rotate_left
         ·simp only [Act.put, List.setIfInBounds_toArray, List.set_cons_zero, List.set_cons_succ, i64_w, i32_w]
          rfl
         refine pure_ (i := 5) (N := some 33) (v := ?_) (a' := ?_) #[Y,Y,Y,Y,Y,Y,Z,Z,Z,Z,Z,Z,Z,Z] rfl rfl (any_of HT_.out (by kernel_rfl)) (fun _ _ _ h => h) (Or.inl ⟨by rfl, ?_⟩) ?_ ?_
         rotate_left
         ·intro w'
          go_simp
          with_reducible rfl
         rotate_left
         ·simp only [Act.put, List.setIfInBounds_toArray, List.set_cons_zero, List.set_cons_succ, i64_w, i32_w]
          rfl
         refine pure_ (i := 7) (N := some 35) (v := ?_) (a' := ?_) #[Y,Y,Y,Y,Y,Y,Z,Y,Z,Z,Z,Z,Z,Z] rfl rfl (any_of HT_.out (by kernel_rfl)) (fun _ _ _ h => h) (Or.inl ⟨by rfl, ?_⟩) ?_ ?_
         rotate_left
         ·intro w'
          go_simp
          with_reducible rfl
         rotate_left
         ·simp only [Act.put, List.setIfInBounds_toArray, List.set_cons_zero, List.set_cons_succ, i64_w, i32_w]
          rfl
         refine pure_ (i := 10) (N := some 38) (v := ?_) (a' := ?_) #[Y,Y,Y,Y,Y,Y,Z,Y,Z,Z,Y,Z,Z,Z] rfl rfl (any_of HT_.out (by kernel_rfl)) (fun _ _ _ h => h) (Or.inl ⟨by rfl, ?_⟩) ?_ ?_
         rotate_left
         ·intro w'
          go_simp
          with_reducible rfl
         rotate_left
         ·simp only [Act.put, List.setIfInBounds_toArray, List.set_cons_zero, List.set_cons_succ, i64_w, i32_w]
          rfl
         refine take_ (i := 6) (N := some 34) (v := ?_) (a' := ?_) #[Y,Y,Y,Y,Y,Y,Y,Y,Z,Z,Y,Z,Z,Z] rfl rfl (take_ofW HT_.out HW_.out (by kernel_rfl)) (fun _ _ _ h => h) (Or.inl ⟨by rfl, ?_⟩) hHeld ?_ ?_
         rotate_left
         ·rintro w' ⟨s0, s1, s2, s3, s4, s5, s6, s7, s8, s9⟩
          go_simp
          with_reducible rfl
         rotate_left
         ·simp only [Act.put, List.setIfInBounds_toArray, List.set_cons_zero, List.set_cons_succ, i64_w, i32_w]
          rfl
         refine take_ (i := 9) (N := some 37) (v := ?_) (a' := ?_) #[Y,Y,Y,Y,Y,Y,Y,Y,Z,Y,Y,Z,Z,Z] rfl rfl (take_ofW HT_.out HW_.out (by kernel_rfl)) (fun _ _ _ h => h) (Or.inl ⟨by rfl, ?_⟩) hHeld ?_ ?_
         rotate_left
         ·rintro w' ⟨s0, s1, s2, s3, s4, s5, s6, s7, s8, s9⟩
          go_simp
          with_reducible rfl
         rotate_left
         ·simp only [Act.put, List.setIfInBounds_toArray, List.set_cons_zero, List.set_cons_succ, i64_w, i32_w]
          rfl
         refine one_ (i := 8) (N := some 36) #[Y,Y,Y,Y,Y,Y,Y,Y,Y,Y,Y,Z,Z,Z] rfl rfl (one_of HT_.out (by kernel_rfl)) (by decide) (fun K hK => ?_)
         refine goes_ Tryz.func105 (by kernel_rfl) rfl #[.slice A2 l2.length c2, .agg #[.int .i64 a3_0, .int .i64 a3_1, .string a3_2, .int .u64 a3_3, .bool a3_4, .bool a3_5], .int .i64 x9_2] (by rfl) rfl rfl argA ?_
         with_reducible refine (rootcellarref16_later.calls k2 _ _ l2 a3_0 a3_1 a3_2 a3_3 a3_4 a3_5 x9_2 t337 _ ?side1 ?side2 A28.out).mono ?_
         (case side1 => repeat (first | exact (Kd.C_below HR2.out HB.out) | (with_reducible refine Kd.C_alloc ?_ _) | (with_reducible refine Kd.C_drewN ?_ _) | (with_reducible refine Kd.C_drew ?_)))
         (case side2 => exact HC2.out)
         rintro e w33 ⟨rfl, hb⟩
         refine ⟨_, rfl, ?_⟩
         have n0_ := Aside0.mk (blk_below (g := gb333) (o := .cells #[.int .i64 a0_0, .int .i64 a0_1, .int .i64 a0_2, .int .i64 a0_3] 37 (0, 0)) (blkN BK333.out) hb)
         have n1_ := Aside0.mk (blk_below (g := gb334) (o := .cells #[.slice A1_0 l1_0.length c1_0, .int .i64 a1_1, .int .i64 a1_2, .int .u64 a1_3] 41 (0, 0)) (blkN BK334.out) hb)
         have n2_ := Aside0.mk (blk_below (g := gb335) (o := .cells #[.int .i64 a3_0, .int .i64 a3_1, .string a3_2, .int .u64 a3_3, .bool a3_4, .bool a3_5] 81 (0, 0)) (blkN BK335.out) hb)
         have n3_ := Aside0.mk (below_step (by repeat (first | (with_reducible first | exact HB.out | apply below_alloc | apply pw_below_drewN | apply below_drew1 | refine below_set ?_ GE333.out | refine below_set ?_ GE334.out | refine below_set ?_ GE335.out) | exact HB.out)) hb)
         clear BK333
         clear BK334
         clear BK335
         clear HB
         have BK333 := n0_
         have BK334 := n1_
         have BK335 := n2_
         have HB := n3_
         clear n0_ n1_ n2_ n3_
         (try clear hb)
         (try clear hb2)
         (try clear hk)
         (try clear hi)
         refine hK.out _ _ ⟨(blk_cell BK335.out 0).trans rfl, (blk_cell BK335.out 1).trans rfl, (blk_cell BK335.out 2).trans rfl, (blk_cell BK335.out 3).trans rfl, (blk_cell BK335.out 4).trans rfl, (blk_cell BK335.out 5).trans rfl, (blk_cell BK333.out 0).trans rfl, (blk_cell BK333.out 1).trans rfl, (blk_cell BK333.out 2).trans rfl, (blk_cell BK333.out 3).trans rfl⟩ (fun hHeld => ?_)
         clear hK K
         refine norm_ (a' := ?_) ?_ ?_
         rotate_left
         ·show Act.put _ (some 36) _ = _
          simp only [Act.put, List.setIfInBounds_toArray, List.set_cons_zero, List.set_cons_succ, i64_w, i32_w]
          rfl
         refine one_ (i := 11) (N := some 39) #[Y,Y,Y,Y,Y,Y,Y,Y,Y,Y,Y,Y,Z,Z] rfl rfl (one_of HT_.out (by kernel_rfl)) (by decide) (fun K hK => ?_)
         refine goes_ Tryz.func26 (by kernel_rfl) rfl #[.agg #[.int .i64 a0_0, .int .i64 a0_1, .int .i64 a0_2, .int .i64 a0_3], .int .i64 x9_2] (by rfl) rfl rfl argA ?_
         with_reducible refine (rootcellarref16_Of.calls a0_0 a0_1 a0_2 a0_3 x9_2 t338 _ A29.out).mono ?_
         rintro e w34 ⟨rfl, hb⟩
         refine ⟨_, rfl, ?_⟩
         have n0_ := Aside0.mk (blk_below (g := gb333) (o := .cells #[.int .i64 a0_0, .int .i64 a0_1, .int .i64 a0_2, .int .i64 a0_3] 37 (0, 0)) (blkN BK333.out) hb)
         have n1_ := Aside0.mk (blk_below (g := gb334) (o := .cells #[.slice A1_0 l1_0.length c1_0, .int .i64 a1_1, .int .i64 a1_2, .int .u64 a1_3] 41 (0, 0)) (blkN BK334.out) hb)
         have n2_ := Aside0.mk (blk_below (g := gb335) (o := .cells #[.int .i64 a3_0, .int .i64 a3_1, .string a3_2, .int .u64 a3_3, .bool a3_4, .bool a3_5] 81 (0, 0)) (blkN BK335.out) hb)
         have n3_ := Aside0.mk (below_step (by repeat (first | (with_reducible first | exact HB.out | apply below_alloc | apply pw_below_drewN | apply below_drew1 | refine below_set ?_ GE333.out | refine below_set ?_ GE334.out | refine below_set ?_ GE335.out) | exact HB.out)) hb)
         clear BK333
         clear BK334
         clear BK335
         clear HB
         have BK333 := n0_
         have BK334 := n1_
         have BK335 := n2_
         have HB := n3_
         clear n0_ n1_ n2_ n3_
         (try clear hb)
         (try clear hb2)
         (try clear hk)
         (try clear hi)
         refine hK.out _ _ ⟨(blk_cell BK335.out 0).trans rfl, (blk_cell BK335.out 1).trans rfl, (blk_cell BK335.out 2).trans rfl, (blk_cell BK335.out 3).trans rfl, (blk_cell BK335.out 4).trans rfl, (blk_cell BK335.out 5).trans rfl, (blk_cell BK333.out 0).trans rfl, (blk_cell BK333.out 1).trans rfl, (blk_cell BK333.out 2).trans rfl, (blk_cell BK333.out 3).trans rfl⟩ (fun hHeld => ?_)
         clear hK K
         refine norm_ (a' := ?_) ?_ ?_
         rotate_left
         ·show Act.put _ (some 39) _ = _
          simp only [Act.put, List.setIfInBounds_toArray, List.set_cons_zero, List.set_cons_succ, i64_w, i32_w]
          rfl
         refine pure_ (i := 12) (N := some 40) (v := ?_) (a' := ?_) #[Y,Y,Y,Y,Y,Y,Y,Y,Y,Y,Y,Y,Y,Z] rfl rfl (any_of HT_.out (by kernel_rfl)) (fun _ _ _ h => h) (Or.inl ⟨by rfl, ?_⟩) ?_ ?_
         rotate_left
         ·intro w'
          go_simp
          with_reducible rfl
         rotate_left
         ·simp only [Act.put, List.setIfInBounds_toArray, List.set_cons_zero, List.set_cons_succ, i64_w, i32_w]
          rfl
         refine pure_ (i := 13) (N := some 41) (v := ?_) (a' := ?_) #[Y,Y,Y,Y,Y,Y,Y,Y,Y,Y,Y,Y,Y,Y] rfl rfl (any_of HT_.out (by kernel_rfl)) (fun _ _ _ h => h) (Or.inl ⟨by rfl, ?_⟩) ?_ ?_
         rotate_left
         ·intro w'
          go_simp
          with_reducible rfl
         rotate_left
         ·simp only [Act.put, List.setIfInBounds_toArray, List.set_cons_zero, List.set_cons_succ, i64_w, i32_w]
          rfl
         refine done_ (done_of HT_.out (by kernel_rfl)) ?_
         try go_wp2
         go_ret
         exact ⟨by first | rfl | (simp [errW_none, errW_some] <;> rfl) | (simp [*, errW_none, errW_some] <;> rfl), by repeat (first | (with_reducible first | exact HB.out | apply below_alloc | apply pw_below_drewN | apply below_drew1 | refine below_set ?_ GE333.out | refine below_set ?_ GE334.out | refine below_set ?_ GE335.out) | exact HB.out)⟩
        ·rw [if_neg c30] at H
         have c30b0 : decide (t337 < t338) = false := decide_eq_false c30
         clear c30
         have H' := Aside0.mk H
         clear H
         try go_wp2
         have n0_ := Aside0.mk (blk_drew BK333.out)
         have n1_ := Aside0.mk (blk_drew BK334.out)
         have n2_ := Aside0.mk (blk_drew BK335.out)
         have n3_ := Aside0.mk (below_drew1 HB.out)
         clear BK333
         clear BK334
         clear BK335
         clear HB
         have BK333 := n0_
         have BK334 := n1_
         have BK335 := n2_
         have HB := n3_
         clear n0_ n1_ n2_ n3_
         refine start_ (n := 14) (S := fun w' => w'.cell? ⟨gb335, 0, none⟩ = some (.int .i64 a3_0) ∧ w'.cell? ⟨gb335, 1, none⟩ = some (.int .i64 a3_1) ∧ w'.cell? ⟨gb335, 2, none⟩ = some (.string a3_2) ∧ w'.cell? ⟨gb335, 3, none⟩ = some (.int .u64 a3_3) ∧ w'.cell? ⟨gb335, 4, none⟩ = some (.bool a3_4) ∧ w'.cell? ⟨gb335, 5, none⟩ = some (.bool a3_5) ∧ w'.cell? ⟨gb333, 0, none⟩ = some (.int .i64 a0_0) ∧ w'.cell? ⟨gb333, 1, none⟩ = some (.int .i64 a0_1) ∧ w'.cell? ⟨gb333, 2, none⟩ = some (.int .i64 a0_2) ∧ w'.cell? ⟨gb333, 3, none⟩ = some (.int .i64 a0_3)) (ds := []) #[Z,Z,Z,Z,Z,Z,Z,Z,Z,Z,Z,Z,Z,Z] (by kernel_rfl) rfl rfl ⟨(blk_cell BK335.out 0).trans rfl, (blk_cell BK335.out 1).trans rfl, (blk_cell BK335.out 2).trans rfl, (blk_cell BK335.out 3).trans rfl, (blk_cell BK335.out 4).trans rfl, (blk_cell BK335.out 5).trans rfl, (blk_cell BK333.out 0).trans rfl, (blk_cell BK333.out 1).trans rfl, (blk_cell BK333.out 2).trans rfl, (blk_cell BK333.out 3).trans rfl⟩ (fun hHeld => ?_); refine with_tabW rootcellarref16_kept.tab6 rootcellarref16_kept.bits6 (fun HT_ HW_ => ?_)
         generalize wr.drew = w35 at BK333 BK334 BK335 HB hHeld ⊢
         refine pure_ (i := 0) (N := some 28) (v := ?_) (a' := ?_) #[Y,Z,Z,Z,Z,Z,Z,Z,Z,Z,Z,Z,Z,Z] rfl rfl (any_of HT_.out (by kernel_rfl)) (fun _ _ _ h => h) (Or.inl ⟨by rfl, ?_⟩) ?_ ?_
         rotate_left
         ·intro w'
          go_simp
          with_reducible rfl
         rotate_left
         ·simp only [Act.put, List.setIfInBounds_toArray, List.set_cons_zero, List.set_cons_succ, i64_w, i32_w]
          rfl
         refine pure_ (i := 2) (N := some 30) (v := ?_) (a' := ?_) #[Y,Z,Y,Z,Z,Z,Z,Z,Z,Z,Z,Z,Z,Z] rfl rfl (any_of HT_.out (by kernel_rfl)) (fun _ _ _ h => h) (Or.inl ⟨by rfl, ?_⟩) ?_ ?_
         rotate_left
         ·intro w'
          go_simp
          with_reducible rfl
         rotate_left
         ·simp only [Act.put, List.setIfInBounds_toArray, List.set_cons_zero, List.set_cons_succ, i64_w, i32_w]
          rfl
         refine take_ (i := 1) (N := some 29) (v := ?_) (a' := ?_) #[Y,Y,Y,Z,Z,Z,Z,Z,Z,Z,Z,Z,Z,Z] rfl rfl (take_ofW HT_.out HW_.out (by kernel_rfl)) (fun _ _ _ h => h) (Or.inl ⟨by rfl, ?_⟩) hHeld ?_ ?_
         rotate_left
         ·rintro w' ⟨s0, s1, s2, s3, s4, s5, s6, s7, s8, s9⟩
          go_simp
          with_reducible rfl
         rotate_left
         ·simp only [Act.put, List.setIfInBounds_toArray, List.set_cons_zero, List.set_cons_succ, i64_w, i32_w]
          rfl
         refine one_ (i := 3) (N := some 31) #[Y,Y,Y,Y,Z,Z,Z,Z,Z,Z,Z,Z,Z,Z] rfl rfl (one_of HT_.out (by kernel_rfl)) (by decide) (fun K hK => ?_)
         refine goes_ Tryz.func104 (by kernel_rfl) rfl #[.slice A2 l2.length c2, .agg #[.int .i64 a3_0, .int .i64 a3_1, .string a3_2, .int .u64 a3_3, .bool a3_4, .bool a3_5], .int .i64 x9_2] (by rfl) rfl rfl argA ?_
         with_reducible refine (rootcellarref16_newest.calls k2 _ _ l2 a3_0 a3_1 a3_2 a3_3 a3_4 a3_5 x9_2 true _ ?side1 ?side2 A26.out).mono ?_
         (case side1 => repeat (first | exact (Kd.C_below HR2.out HB.out) | (with_reducible refine Kd.C_alloc ?_ _) | (with_reducible refine Kd.C_drewN ?_ _) | (with_reducible refine Kd.C_drew ?_)))
         (case side2 => exact HC2.out)
         rintro e w36 ⟨rfl, hb⟩
         refine ⟨_, rfl, ?_⟩
         have n0_ := Aside0.mk (blk_below (g := gb333) (o := .cells #[.int .i64 a0_0, .int .i64 a0_1, .int .i64 a0_2, .int .i64 a0_3] 37 (0, 0)) (blkN BK333.out) hb)
         have n1_ := Aside0.mk (blk_below (g := gb334) (o := .cells #[.slice A1_0 l1_0.length c1_0, .int .i64 a1_1, .int .i64 a1_2, .int .u64 a1_3] 41 (0, 0)) (blkN BK334.out) hb)
         have n2_ := Aside0.mk (blk_below (g := gb335) (o := .cells #[.int .i64 a3_0, .int .i64 a3_1, .string a3_2, .int .u64 a3_3, .bool a3_4, .bool a3_5] 81 (0, 0)) (blkN BK335.out) hb)
         have n3_ := Aside0.mk (below_step (by repeat (first | (with_reducible first | exact HB.out | apply below_alloc | apply pw_below_drewN | apply below_drew1 | refine below_set ?_ GE333.out | refine below_set ?_ GE334.out | refine below_set ?_ GE335.out) | exact HB.out)) hb)
         clear BK333
         clear BK334
         clear BK335
         clear HB
         have BK333 := n0_
         have BK334 := n1_
         have BK335 := n2_
         have HB := n3_
         clear n0_ n1_ n2_ n3_
         (try clear hb)
         (try clear hb2)
         (try clear hk)
         (try clear hi)
         refine hK.out _ _ ⟨(blk_cell BK335.out 0).trans rfl, (blk_cell BK335.out 1).trans rfl, (blk_cell BK335.out 2).trans rfl, (blk_cell BK335.out 3).trans rfl, (blk_cell BK335.out 4).trans rfl, (blk_cell BK335.out 5).trans rfl, (blk_cell BK333.out 0).trans rfl, (blk_cell BK333.out 1).trans rfl, (blk_cell BK333.out 2).trans rfl, (blk_cell BK333.out 3).trans rfl⟩ (fun hHeld => ?_)
         clear hK K
         refine norm_ (a' := ?_) ?_ ?_
         rotate_left
         ·show Act.put _ (some 31) _ = _
          simp only [Act.put, List.setIfInBounds_toArray, List.set_cons_zero, List.set_cons_succ, i64_w, i32_w]
          rfl
         refine pure_ (i := 4) (N := some 32) (v := ?_) (a' := ?_) #[Y,Y,Y,Y,Y,Z,Z,Z,Z,Z,Z,Z,Z,Z] rfl rfl (any_of HT_.out (by kernel_rfl)) (fun _ _ _ h => h) (Or.inl ⟨by rfl, ?_⟩) ?_ ?_
         rotate_left
         ·intro w'
          go_simp
          with_reducible rfl
         rotate_left
         ·simp only [Act.put, List.setIfInBounds_toArray, List.set_cons_zero, List.set_cons_succ, i64_w, i32_w]
          rfl
         refine pure_ (i := 5) (N := some 33) (v := ?_) (a' := ?_) #[Y,Y,Y,Y,Y,Y,Z,Z,Z,Z,Z,Z,Z,Z] rfl rfl (any_of HT_.out (by kernel_rfl)) (fun _ _ _ h => h) (Or.inl ⟨by rfl, ?_⟩) ?_ ?_
         rotate_left
         ·intro w'
          go_simp
          with_reducible rfl
         rotate_left
         ·simp only [Act.put, List.setIfInBounds_toArray, List.set_cons_zero, List.set_cons_succ, i64_w, i32_w]
          rfl
         refine pure_ (i := 7) (N := some 35) (v := ?_) (a' := ?_) #[Y,Y,Y,Y,Y,Y,Z,Y,Z,Z,Z,Z,Z,Z] rfl rfl (any_of HT_.out (by kernel_rfl)) (fun _ _ _ h => h) (Or.inl ⟨by rfl, ?_⟩) ?_ ?_
         rotate_left
         ·intro w'
          go_simp
          with_reducible rfl
         rotate_left
         ·simp only [Act.put, List.setIfInBounds_toArray, List.set_cons_zero, List.set_cons_succ, i64_w, i32_w]
          rfl
         refine pure_ (i := 10) (N := some 38) (v := ?_) (a' := ?_) #[Y,Y,Y,Y,Y,Y,Z,Y,Z,Z,Y,Z,Z,Z] rfl rfl (any_of HT_.out (by kernel_rfl)) (fun _ _ _ h => h) (Or.inl ⟨by rfl, ?_⟩) ?_ ?_
         rotate_left
         ·intro w'
          go_simp
          with_reducible rfl
         rotate_left
         ·simp only [Act.put, List.setIfInBounds_toArray, List.set_cons_zero, List.set_cons_succ, i64_w, i32_w]
          rfl
         refine take_ (i := 6) (N := some 34) (v := ?_) (a' := ?_) #[Y,Y,Y,Y,Y,Y,Y,Y,Z,Z,Y,Z,Z,Z] rfl rfl (take_ofW HT_.out HW_.out (by kernel_rfl)) (fun _ _ _ h => h) (Or.inl ⟨by rfl, ?_⟩) hHeld ?_ ?_
         rotate_left
         ·rintro w' ⟨s0, s1, s2, s3, s4, s5, s6, s7, s8, s9⟩
          go_simp
          with_reducible rfl
         rotate_left
         ·simp only [Act.put, List.setIfInBounds_toArray, List.set_cons_zero, List.set_cons_succ, i64_w, i32_w]
          rfl
         refine take_ (i := 9) (N := some 37) (v := ?_) (a' := ?_) #[Y,Y,Y,Y,Y,Y,Y,Y,Z,Y,Y,Z,Z,Z] rfl rfl (take_ofW HT_.out HW_.out (by kernel_rfl)) (fun _ _ _ h => h) (Or.inl ⟨by rfl, ?_⟩) hHeld ?_ ?_
         rotate_left
         ·rintro w' ⟨s0, s1, s2, s3, s4, s5, s6, s7, s8, s9⟩
          go_simp
          with_reducible rfl
         rotate_left
         ·simp only [Act.put, List.setIfInBounds_toArray, List.set_cons_zero, List.set_cons_succ, i64_w, i32_w]
          rfl
         refine one_ (i := 8) (N := some 36) #[Y,Y,Y,Y,Y,Y,Y,Y,Y,Y,Y,Z,Z,Z] rfl rfl (one_of HT_.out (by kernel_rfl)) (by decide) (fun K hK => ?_)
         refine goes_ Tryz.func105 (by kernel_rfl) rfl #[.slice A2 l2.length c2, .agg #[.int .i64 a3_0, .int .i64 a3_1, .string a3_2, .int .u64 a3_3, .bool a3_4, .bool a3_5], .int .i64 x9_2] (by rfl) rfl rfl argA ?_
         with_reducible refine (rootcellarref16_later.calls k2 _ _ l2 a3_0 a3_1 a3_2 a3_3 a3_4 a3_5 x9_2 t337 _ ?side1 ?side2 A28.out).mono ?_
         (case side1 => repeat (first | exact (Kd.C_below HR2.out HB.out) | (with_reducible refine Kd.C_alloc ?_ _) | (with_reducible refine Kd.C_drewN ?_ _) | (with_reducible refine Kd.C_drew ?_)))
         (case side2 => exact HC2.out)
         rintro e w37 ⟨rfl, hb⟩
         refine ⟨_, rfl, ?_⟩
         have n0_ := Aside0.mk (blk_below (g := gb333) (o := .cells #[.int .i64 a0_0, .int .i64 a0_1, .int .i64 a0_2, .int .i64 a0_3] 37 (0, 0)) (blkN BK333.out) hb)
         have n1_ := Aside0.mk (blk_below (g := gb334) (o := .cells #[.slice A1_0 l1_0.length c1_0, .int .i64 a1_1, .int .i64 a1_2, .int .u64 a1_3] 41 (0, 0)) (blkN BK334.out) hb)
         have n2_ := Aside0.mk (blk_below (g := gb335) (o := .cells #[.int .i64 a3_0, .int .i64 a3_1, .string a3_2, .int .u64 a3_3, .bool a3_4, .bool a3_5] 81 (0, 0)) (blkN BK335.out) hb)
         have n3_ := Aside0.mk (below_step (by repeat (first | (with_reducible first | exact HB.out | apply below_alloc | apply pw_below_drewN | apply below_drew1 | refine below_set ?_ GE333.out | refine below_set ?_ GE334.out | refine below_set ?_ GE335.out) | exact HB.out)) hb)
         clear BK333
         clear BK334
         clear BK335
         clear HB
         have BK333 := n0_
         have BK334 := n1_
         have BK335 := n2_
         have HB := n3_
         clear n0_ n1_ n2_ n3_
         (try clear hb)
         (try clear hb2)
         (try clear hk)
         (try clear hi)
         refine hK.out _ _ ⟨(blk_cell BK335.out 0).trans rfl, (blk_cell BK335.out 1).trans rfl, (blk_cell BK335.out 2).trans rfl, (blk_cell BK335.out 3).trans rfl, (blk_cell BK335.out 4).trans rfl, (blk_cell BK335.out 5).trans rfl, (blk_cell BK333.out 0).trans rfl, (blk_cell BK333.out 1).trans rfl, (blk_cell BK333.out 2).trans rfl, (blk_cell BK333.out 3).trans rfl⟩ (fun hHeld => ?_)
         clear hK K
         refine norm_ (a' := ?_) ?_ ?_
         rotate_left
         ·show Act.put _ (some 36) _ = _
          simp only [Act.put, List.setIfInBounds_toArray, List.set_cons_zero, List.set_cons_succ, i64_w, i32_w]
          rfl
         refine one_ (i := 11) (N := some 39) #[Y,Y,Y,Y,Y,Y,Y,Y,Y,Y,Y,Y,Z,Z] rfl rfl (one_of HT_.out (by kernel_rfl)) (by decide) (fun K hK => ?_)
         refine goes_ Tryz.func26 (by kernel_rfl) rfl #[.agg #[.int .i64 a0_0, .int .i64 a0_1, .int .i64 a0_2, .int .i64 a0_3], .int .i64 x9_2] (by rfl) rfl rfl argA ?_
         with_reducible refine (rootcellarref16_Of.calls a0_0 a0_1 a0_2 a0_3 x9_2 t338 _ A29.out).mono ?_
         rintro e w38 ⟨rfl, hb⟩
         refine ⟨_, rfl, ?_⟩
         have n0_ := Aside0.mk (blk_below (g := gb333) (o := .cells #[.int .i64 a0_0, .int .i64 a0_1, .int .i64 a0_2, .int .i64 a0_3] 37 (0, 0)) (blkN BK333.out) hb)
         have n1_ := Aside0.mk (blk_below (g := gb334) (o := .cells #[.slice A1_0 l1_0.length c1_0, .int .i64 a1_1, .int .i64 a1_2, .int .u64 a1_3] 41 (0, 0)) (blkN BK334.out) hb)
         have n2_ := Aside0.mk (blk_below (g := gb335) (o := .cells #[.int .i64 a3_0, .int .i64 a3_1, .string a3_2, .int .u64 a3_3, .bool a3_4, .bool a3_5] 81 (0, 0)) (blkN BK335.out) hb)
         have n3_ := Aside0.mk (below_step (by repeat (first | (with_reducible first | exact HB.out | apply below_alloc | apply pw_below_drewN | apply below_drew1 | refine below_set ?_ GE333.out | refine below_set ?_ GE334.out | refine below_set ?_ GE335.out) | exact HB.out)) hb)
         clear BK333
         clear BK334
         clear BK335
         clear HB
         have BK333 := n0_
         have BK334 := n1_
         have BK335 := n2_
         have HB := n3_
         clear n0_ n1_ n2_ n3_
         (try clear hb)
         (try clear hb2)
         (try clear hk)
         (try clear hi)
         refine hK.out _ _ ⟨(blk_cell BK335.out 0).trans rfl, (blk_cell BK335.out 1).trans rfl, (blk_cell BK335.out 2).trans rfl, (blk_cell BK335.out 3).trans rfl, (blk_cell BK335.out 4).trans rfl, (blk_cell BK335.out 5).trans rfl, (blk_cell BK333.out 0).trans rfl, (blk_cell BK333.out 1).trans rfl, (blk_cell BK333.out 2).trans rfl, (blk_cell BK333.out 3).trans rfl⟩ (fun hHeld => ?_)
         clear hK K
         refine norm_ (a' := ?_) ?_ ?_
         rotate_left
         ·show Act.put _ (some 39) _ = _
          simp only [Act.put, List.setIfInBounds_toArray, List.set_cons_zero, List.set_cons_succ, i64_w, i32_w]
          rfl
         refine pure_ (i := 12) (N := some 40) (v := ?_) (a' := ?_) #[Y,Y,Y,Y,Y,Y,Y,Y,Y,Y,Y,Y,Y,Z] rfl rfl (any_of HT_.out (by kernel_rfl)) (fun _ _ _ h => h) (Or.inl ⟨by rfl, ?_⟩) ?_ ?_
         rotate_left
         ·intro w'
          go_simp
          with_reducible rfl
         rotate_left
         ·simp only [Act.put, List.setIfInBounds_toArray, List.set_cons_zero, List.set_cons_succ, i64_w, i32_w]
          rfl
         refine pure_ (i := 13) (N := some 41) (v := ?_) (a' := ?_) #[Y,Y,Y,Y,Y,Y,Y,Y,Y,Y,Y,Y,Y,Y] rfl rfl (any_of HT_.out (by kernel_rfl)) (fun _ _ _ h => h) (Or.inl ⟨by rfl, ?_⟩) ?_ ?_
         rotate_left
         ·intro w'
          go_simp
          with_reducible rfl
         rotate_left
         ·simp only [Act.put, List.setIfInBounds_toArray, List.set_cons_zero, List.set_cons_succ, i64_w, i32_w]
          rfl
         refine done_ (done_of HT_.out (by kernel_rfl)) ?_
         try go_wp2
         go_roundg k2
         case measure => have := HJ4.out; have := HK2.out; omega
         case rel => exact ⟨(wrap64 (x9_2 + 1)), (by first | rfl | (simp; done) | (simp [*]; done)), H', ⟨by have := HJ4.out; have := HK2.out; omega⟩, ⟨by (with_reducible repeat (first | refine blk_drewN ?_ _ | refine blk_drew ?_ | refine blk_alloc ?_ _)); exact BK333.out⟩, ⟨by (with_reducible repeat (first | refine blk_drewN ?_ _ | refine blk_drew ?_ | refine blk_alloc ?_ _)); exact BK334.out⟩, ⟨by (with_reducible repeat (first | refine blk_drewN ?_ _ | refine blk_drew ?_ | refine blk_alloc ?_ _)); exact BK335.out⟩, ⟨by repeat (first | (with_reducible first | exact HB.out | apply below_alloc | apply pw_below_drewN | apply below_drew1 | refine below_set ?_ GE333.out | refine below_set ?_ GE334.out | refine below_set ?_ GE335.out) | exact HB.out)⟩⟩
       ·replace c27 := Bool.eq_false_iff.mpr c27
        subst c27
        have H1 : (rootcellarref16_kept.l0 k2 l2 (wrap64 (x9_2 + 1)) a0_0 a0_1 a0_2 a0_3 a3_0 a3_1 a3_2 a3_3 a3_4 a3_5) = some r := by rw [if_neg (show ¬ (false = true) by decide)] at H; exact H
        clear H
        have H := H1
        clear H1
        have H' := Aside0.mk H
        clear H
        try go_wp2
        have n0_ := Aside0.mk (blk_drew BK333.out)
        have n1_ := Aside0.mk (blk_drew BK334.out)
        have n2_ := Aside0.mk (blk_drew BK335.out)
        have n3_ := Aside0.mk (below_drew1 HB.out)
        clear BK333
        clear BK334
        clear BK335
        clear HB
        have BK333 := n0_
        have BK334 := n1_
        have BK335 := n2_
        have HB := n3_
        clear n0_ n1_ n2_ n3_
        refine start_ (n := 14) (S := fun w' => w'.cell? ⟨gb335, 0, none⟩ = some (.int .i64 a3_0) ∧ w'.cell? ⟨gb335, 1, none⟩ = some (.int .i64 a3_1) ∧ w'.cell? ⟨gb335, 2, none⟩ = some (.string a3_2) ∧ w'.cell? ⟨gb335, 3, none⟩ = some (.int .u64 a3_3) ∧ w'.cell? ⟨gb335, 4, none⟩ = some (.bool a3_4) ∧ w'.cell? ⟨gb335, 5, none⟩ = some (.bool a3_5)) (ds := []) #[Z,Z,Z,Z,Z,Z,Z,Z,Z,Z,Z,Z,Z,Z] (by kernel_rfl) rfl rfl ⟨(blk_cell BK335.out 0).trans rfl, (blk_cell BK335.out 1).trans rfl, (blk_cell BK335.out 2).trans rfl, (blk_cell BK335.out 3).trans rfl, (blk_cell BK335.out 4).trans rfl, (blk_cell BK335.out 5).trans rfl⟩ (fun hHeld => ?_); refine with_tabW rootcellarref16_kept.tab6 rootcellarref16_kept.bits6 (fun HT_ HW_ => ?_)
        generalize wr.drew = w39 at BK333 BK334 BK335 HB hHeld ⊢
        refine pure_ (i := 0) (N := some 28) (v := ?_) (a' := ?_) #[Y,Z,Z,Z,Z,Z,Z,Z,Z,Z,Z,Z,Z,Z] rfl rfl (any_of HT_.out (by kernel_rfl)) (fun _ _ _ h => h) (Or.inl ⟨by rfl, ?_⟩) ?_ ?_
        rotate_left
        ·intro w'
         go_simp
         with_reducible rfl
        rotate_left
        ·simp only [Act.put, List.setIfInBounds_toArray, List.set_cons_zero, List.set_cons_succ, i64_w, i32_w]
         rfl
        refine pure_ (i := 2) (N := some 30) (v := ?_) (a' := ?_) #[Y,Z,Y,Z,Z,Z,Z,Z,Z,Z,Z,Z,Z,Z] rfl rfl (any_of HT_.out (by kernel_rfl)) (fun _ _ _ h => h) (Or.inl ⟨by rfl, ?_⟩) ?_ ?_
        rotate_left
        ·intro w'
         go_simp
         with_reducible rfl
        rotate_left
        ·simp only [Act.put, List.setIfInBounds_toArray, List.set_cons_zero, List.set_cons_succ, i64_w, i32_w]
         rfl
        refine take_ (i := 1) (N := some 29) (v := ?_) (a' := ?_) #[Y,Y,Y,Z,Z,Z,Z,Z,Z,Z,Z,Z,Z,Z] rfl rfl (take_ofW HT_.out HW_.out (by kernel_rfl)) (fun _ _ _ h => h) (Or.inl ⟨by rfl, ?_⟩) hHeld ?_ ?_
        rotate_left
        ·rintro w' ⟨s0, s1, s2, s3, s4, s5⟩
         go_simp
         with_reducible rfl
        rotate_left
        ·simp only [Act.put, List.setIfInBounds_toArray, List.set_cons_zero, List.set_cons_succ, i64_w, i32_w]
         rfl
        refine one_ (i := 3) (N := some 31) #[Y,Y,Y,Y,Z,Z,Z,Z,Z,Z,Z,Z,Z,Z] rfl rfl (one_of HT_.out (by kernel_rfl)) (by decide) (fun K hK => ?_)
        refine goes_ Tryz.func104 (by kernel_rfl) rfl #[.slice A2 l2.length c2, .agg #[.int .i64 a3_0, .int .i64 a3_1, .string a3_2, .int .u64 a3_3, .bool a3_4, .bool a3_5], .int .i64 x9_2] (by rfl) rfl rfl argA ?_
        with_reducible refine (rootcellarref16_newest.calls k2 _ _ l2 a3_0 a3_1 a3_2 a3_3 a3_4 a3_5 x9_2 false _ ?side1 ?side2 A26.out).mono ?_
        (case side1 => repeat (first | exact (Kd.C_below HR2.out HB.out) | (with_reducible refine Kd.C_alloc ?_ _) | (with_reducible refine Kd.C_drewN ?_ _) | (with_reducible refine Kd.C_drew ?_)))
        (case side2 => exact HC2.out)
        rintro e w40 ⟨rfl, hb⟩
        refine ⟨_, rfl, ?_⟩
        have n0_ := Aside0.mk (blk_below (g := gb333) (o := .cells #[.int .i64 a0_0, .int .i64 a0_1, .int .i64 a0_2, .int .i64 a0_3] 37 (0, 0)) (blkN BK333.out) hb)
        have n1_ := Aside0.mk (blk_below (g := gb334) (o := .cells #[.slice A1_0 l1_0.length c1_0, .int .i64 a1_1, .int .i64 a1_2, .int .u64 a1_3] 41 (0, 0)) (blkN BK334.out) hb)
        have n2_ := Aside0.mk (blk_below (g := gb335) (o := .cells #[.int .i64 a3_0, .int .i64 a3_1, .string a3_2, .int .u64 a3_3, .bool a3_4, .bool a3_5] 81 (0, 0)) (blkN BK335.out) hb)
        have n3_ := Aside0.mk (below_step (by repeat (first | (with_reducible first | exact HB.out | apply below_alloc | apply pw_below_drewN | apply below_drew1 | refine below_set ?_ GE333.out | refine below_set ?_ GE334.out | refine below_set ?_ GE335.out) | exact HB.out)) hb)
        clear BK333
        clear BK334
        clear BK335
        clear HB
        have BK333 := n0_
        have BK334 := n1_
        have BK335 := n2_
        have HB := n3_
        clear n0_ n1_ n2_ n3_
        (try clear hb)
        (try clear hb2)
        (try clear hk)
        (try clear hi)
        refine hK.out _ _ ⟨(blk_cell BK335.out 0).trans rfl, (blk_cell BK335.out 1).trans rfl, (blk_cell BK335.out 2).trans rfl, (blk_cell BK335.out 3).trans rfl, (blk_cell BK335.out 4).trans rfl, (blk_cell BK335.out 5).trans rfl⟩ (fun hHeld => ?_)
        clear hK K
        refine norm_ (a' := ?_) ?_ ?_
        rotate_left
        ·show Act.put _ (some 31) _ = _
         simp only [Act.put, List.setIfInBounds_toArray, List.set_cons_zero, List.set_cons_succ, i64_w, i32_w]
         rfl
        refine pure_ (i := 4) (N := some 32) (v := ?_) (a' := ?_) #[Y,Y,Y,Y,Y,Z,Z,Z,Z,Z,Z,Z,Z,Z] rfl rfl (any_of HT_.out (by kernel_rfl)) (fun _ _ _ h => h) (Or.inl ⟨by rfl, ?_⟩) ?_ ?_
        rotate_left
        ·intro w'
         go_simp
         with_reducible rfl
        rotate_left
        ·simp only [Act.put, List.setIfInBounds_toArray, List.set_cons_zero, List.set_cons_succ, i64_w, i32_w]
         rfl
        refine pure_ (i := 5) (N := some 33) (v := undef) (a' := ?_) #[Y,Y,Y,Y,Y,Y,Z,Z,Z,Z,Z,Z,Z,Z] rfl rfl (any_of HT_.out (by kernel_rfl)) (fun _ _ _ h => h) (Or.inr ⟨by rfl, rfl⟩) ?_ ?_
        rotate_left
        ·simp only [Act.put, List.setIfInBounds_toArray, List.set_cons_zero, List.set_cons_succ, i64_w, i32_w]
         rfl
        refine pure_ (i := 6) (N := some 34) (v := undef) (a' := ?_) #[Y,Y,Y,Y,Y,Y,Y,Z,Z,Z,Z,Z,Z,Z] rfl rfl (any_of HT_.out (by kernel_rfl)) (fun _ _ _ h => h) (Or.inr ⟨by rfl, rfl⟩) ?_ ?_
        rotate_left
        ·simp only [Act.put, List.setIfInBounds_toArray, List.set_cons_zero, List.set_cons_succ, i64_w, i32_w]
         rfl
        refine pure_ (i := 7) (N := some 35) (v := undef) (a' := ?_) #[Y,Y,Y,Y,Y,Y,Y,Y,Z,Z,Z,Z,Z,Z] rfl rfl (any_of HT_.out (by kernel_rfl)) (fun _ _ _ h => h) (Or.inr ⟨by rfl, rfl⟩) ?_ ?_
        rotate_left
        ·simp only [Act.put, List.setIfInBounds_toArray, List.set_cons_zero, List.set_cons_succ, i64_w, i32_w]
         rfl
        refine pure_ (i := 8) (N := some 36) (v := undef) (a' := ?_) #[Y,Y,Y,Y,Y,Y,Y,Y,Y,Z,Z,Z,Z,Z] rfl rfl (any_of HT_.out (by kernel_rfl)) (fun _ _ _ h => h) (Or.inr ⟨by rfl, rfl⟩) ?_ ?_
        rotate_left
        ·simp only [Act.put, List.setIfInBounds_toArray, List.set_cons_zero, List.set_cons_succ, i64_w, i32_w]
         rfl
        refine pure_ (i := 9) (N := some 37) (v := undef) (a' := ?_) #[Y,Y,Y,Y,Y,Y,Y,Y,Y,Y,Z,Z,Z,Z] rfl rfl (any_of HT_.out (by kernel_rfl)) (fun _ _ _ h => h) (Or.inr ⟨by rfl, rfl⟩) ?_ ?_
        rotate_left
        ·simp only [Act.put, List.setIfInBounds_toArray, List.set_cons_zero, List.set_cons_succ, i64_w, i32_w]
         rfl
        refine pure_ (i := 10) (N := some 38) (v := undef) (a' := ?_) #[Y,Y,Y,Y,Y,Y,Y,Y,Y,Y,Y,Z,Z,Z] rfl rfl (any_of HT_.out (by kernel_rfl)) (fun _ _ _ h => h) (Or.inr ⟨by rfl, rfl⟩) ?_ ?_
        rotate_left
        ·simp only [Act.put, List.setIfInBounds_toArray, List.set_cons_zero, List.set_cons_succ, i64_w, i32_w]
         rfl
        refine pure_ (i := 11) (N := some 39) (v := undef) (a' := ?_) #[Y,Y,Y,Y,Y,Y,Y,Y,Y,Y,Y,Y,Z,Z] rfl rfl (any_of HT_.out (by kernel_rfl)) (fun _ _ _ h => h) (Or.inr ⟨by rfl, rfl⟩) ?_ ?_
        rotate_left
        ·simp only [Act.put, List.setIfInBounds_toArray, List.set_cons_zero, List.set_cons_succ, i64_w, i32_w]
         rfl
        refine pure_ (i := 12) (N := some 40) (v := undef) (a' := ?_) #[Y,Y,Y,Y,Y,Y,Y,Y,Y,Y,Y,Y,Y,Z] rfl rfl (any_of HT_.out (by kernel_rfl)) (fun _ _ _ h => h) (Or.inr ⟨by rfl, rfl⟩) ?_ ?_
        rotate_left
        ·simp only [Act.put, List.setIfInBounds_toArray, List.set_cons_zero, List.set_cons_succ, i64_w, i32_w]
         rfl
        refine pure_ (i := 13) (N := some 41) (v := ?_) (a' := ?_) #[Y,Y,Y,Y,Y,Y,Y,Y,Y,Y,Y,Y,Y,Y] rfl rfl (any_of HT_.out (by kernel_rfl)) (fun _ _ _ h => h) (Or.inl ⟨by rfl, ?_⟩) ?_ ?_
        rotate_left
        ·intro w'
         go_simp
         with_reducible rfl
        rotate_left
        ·simp only [Act.put, List.setIfInBounds_toArray, List.set_cons_zero, List.set_cons_succ, i64_w, i32_w]
         rfl
        refine done_ (done_of HT_.out (by kernel_rfl)) ?_
        try go_wp2
        go_roundg k2
        case measure => have := HJ4.out; have := HK2.out; omega
        case rel => exact ⟨(wrap64 (x9_2 + 1)), (by first | rfl | (simp; done) | (simp [*]; done)), H', ⟨by have := HJ4.out; have := HK2.out; omega⟩, ⟨by (with_reducible repeat (first | refine blk_drewN ?_ _ | refine blk_drew ?_ | refine blk_alloc ?_ _)); exact BK333.out⟩, ⟨by (with_reducible repeat (first | refine blk_drewN ?_ _ | refine blk_drew ?_ | refine blk_alloc ?_ _)); exact BK334.out⟩, ⟨by (with_reducible repeat (first | refine blk_drewN ?_ _ | refine blk_drew ?_ | refine blk_alloc ?_ _)); exact BK335.out⟩, ⟨by repeat (first | (with_reducible first | exact HB.out | apply below_alloc | apply pw_below_drewN | apply below_drew1 | refine below_set ?_ GE333.out | refine below_set ?_ GE334.out | refine below_set ?_ GE335.out) | exact HB.out)⟩⟩
      ·rw [if_neg c25] at H
       have c25b0 : decide (x9_2 < 4) = false := decide_eq_false c25
       clear c25
       obtain rfl := Option.some.inj H
       go_wp2
       go_ret
       exact ⟨by first | rfl | (simp [errW_none, errW_some] <;> rfl) | (simp [*, errW_none, errW_some] <;> rfl), by repeat (first | (with_reducible first | exact HB.out | apply below_alloc | apply pw_below_drewN | apply below_drew1 | refine below_set ?_ GE333.out | refine below_set ?_ GE334.out | refine below_set ?_ GE335.out) | exact HB.out)⟩
end Go.Proofs.YtfdlbnfjohpdlaaGreatDoor.PPo
