-- laid by gprint.py (this session's own program) out of the translation: Lean checks it
import Derived.Test.YtfdlbnfjohpdlaaGreatDoorPPox0
import Derived.Test.YtfdlbnfjohpdlaaGreatDoorPPox19
--compressed
namespace Go.Proofs.YtfdlbnfjohpdlaaGreatDoor.PPo
open Go.RowKit Go.Proofs.YtfdlbnfjohpdlaaGreatDoorW.PrintWords Go.Proofs.YtfdlbnfjohpdlaaGreatDoorW.PrintLast Go.Proofs.YtfdlbnfjohpdlaaGreatDoorW.PrintMore
attribute [local go_sem] max2_int min2_int max_two min_two max_three min_three max_four min_four   -- for this text's walks alone
attribute [local go_sem high] hw_str_leq hw_str_gtr
set_option linter.unusedVariables false
set_option linter.unusedSimpArgs false
-- NOT PRINTED: function 42 (rootcellarref16_parted)
-- NOT PRINTED: function 14 (rootcellarref16_Keep)
def rootcellarlaw16_must.f (a0_0 : Int) (a0_1 : Int) (a0_2 : Int) (a0_3 : Int) : Option (Int × Int × Int × Int) := some (a0_0, a0_1, a0_2, a0_3)
set_option maxHeartbeats 8000000 in
set_option maxRecDepth 100000 in
theorem rootcellarlaw16_must.calls (a0_0 : Int) (a0_1 : Int) (a0_2 : Int) (a0_3 : Int) (r1 : Int) (r2 : Int) (r3 : Int) (r4 : Int) (w : World) (h : rootcellarlaw16_must.f a0_0 a0_1 a0_2 a0_3 = some (r1, r2, r3, r4)) :
  Calls Tryz.prog 15 #[.agg #[.int .i64 a0_0, .int .i64 a0_1, .int .i64 a0_2, .int .i64 a0_3]] w fun e w' => e = .returned (.agg #[.int .i64 r1, .int .i64 r2, .int .i64 r3, .int .i64 r4]) ∧ Below w.heap.size w w' := by
 have hu23 := Tryz.underlying23
 have hu37 := Tryz.underlying37
 have HB := Aside0.mk (Below.refl w.heap.size w)
 have H : (some (a0_0, a0_1, a0_2, a0_3)) = some (r1, r2, r3, r4) := h
 clear h
 simp only [Option.some.injEq, Prod.mk.injEq] at H
 obtain ⟨rfl, rfl, rfl, rfl⟩ := H
 go_enter Tryz.func15, Tryz.ntmps15
 go_wp2_with (first | ((with_reducible refine gate_dst (N := 1) rfl ?_); refine box_event ?hg (N := 1) ?hd (cs := #[.int .i64 a0_0, .int .i64 a0_1, .int .i64 a0_2, .int .i64 a0_3]) (t := 23) ?hr ?_; (case hd => rfl); (case hg => rfl); (case hr => first | (go_simp; done) | (go_simp; rfl)); intro gb344 hg w2 hbox hb; have n0_ := Aside0.mk (below_step belA hb); have n1_ := Aside0.mk (hbox); have n2_ := Aside0.mk ((by rw [hg]; exact (below_size belA) : w.heap.size ≤ gb344)); have n3_ := Aside0.mk ((by rw [hg]; exact (below_size belA) : w.heap.size ≤ gb344)); clear HB; have HB := n0_; have BK344 := n1_; have GW344 := n2_; have GE344 := n3_; clear n0_ n1_ n2_ n3_; clear hb hbox hg) | ((with_reducible refine gate_dst (N := 2) rfl ?_); refine box_event ?hg (N := 2) ?hd (cs := #[.int .i64 0, .int .i64 0, .int .i64 0, .int .i64 0]) (t := 37) ?hr ?_; (case hd => rfl); (case hg => rfl); (case hr => first | (go_simp; done) | (go_simp; rfl)); intro gb345 hg w3 hbox hb; have n0_ := Aside0.mk (blk_below (g := gb344) (o := .cells #[.int .i64 a0_0, .int .i64 a0_1, .int .i64 a0_2, .int .i64 a0_3] 23 (0, 0)) (blkN BK344.out) hb); have n1_ := Aside0.mk (below_step (by repeat (first | (with_reducible first | exact HB.out | apply below_alloc | apply pw_below_drewN | apply below_drew1 | refine below_set ?_ GE344.out) | exact HB.out)) hb); have n2_ := Aside0.mk (hbox); have n3_ := Aside0.mk ((by rw [hg]; exact (below_size (by repeat (first | (with_reducible first | exact HB.out | apply below_alloc | apply pw_below_drewN | apply below_drew1 | refine below_set ?_ GE344.out) | exact HB.out))) : w.heap.size ≤ gb345)); have n4_ := Aside0.mk ((by rw [hg]; exact (below_size (by repeat (first | (with_reducible first | exact HB.out | apply below_alloc | apply pw_below_drewN | apply below_drew1 | refine below_set ?_ GE344.out) | exact HB.out))) : w.heap.size ≤ gb345)); have n5_ := Aside0.mk ((by rw [hg]; exact Nat.ne_of_lt (blk_lt (g := gb344) (o := .cells #[.int .i64 a0_0, .int .i64 a0_1, .int .i64 a0_2, .int .i64 a0_3] 23 (0, 0)) (blkN BK344.out)) : gb344 ≠ gb345)); have n6_ := Aside0.mk ((by rw [hg]; exact Nat.ne_of_gt (blk_lt (g := gb344) (o := .cells #[.int .i64 a0_0, .int .i64 a0_1, .int .i64 a0_2, .int .i64 a0_3] 23 (0, 0)) (blkN BK344.out)) : gb345 ≠ gb344)); clear BK344; clear HB; have BK344 := n0_; have HB := n1_; have BK345 := n2_; have GW345 := n3_; have GE345 := n4_; have NB344_345 := n5_; have NB345_344 := n6_; clear n0_ n1_ n2_ n3_ n4_ n5_ n6_; clear hb hbox hg; have hnb4 := NB344_345.out; have hnc4 := NB345_344.out; have hcz5_0 : w3.cell? ⟨gb344, 0, none⟩ = some (.int .i64 a0_0) := (blk_cell BK344.out 0).trans rfl; have hcz5_1 : w3.cell? ⟨gb344, 1, none⟩ = some (.int .i64 a0_1) := (blk_cell BK344.out 1).trans rfl; have hcz5_2 : w3.cell? ⟨gb344, 2, none⟩ = some (.int .i64 a0_2) := (blk_cell BK344.out 2).trans rfl; have hcz5_3 : w3.cell? ⟨gb344, 3, none⟩ = some (.int .i64 a0_3) := (blk_cell BK344.out 3).trans rfl; have hfz5_0 := blk_frozen BK344.out 0; have hfz5_1 := blk_frozen BK344.out 1; have hfz5_2 := blk_frozen BK344.out 2; have hfz5_3 := blk_frozen BK344.out 3; have hcz6_0 : w3.cell? ⟨gb345, 0, none⟩ = some (.int .i64 0) := (blk_cell BK345.out 0).trans rfl; have hcz6_1 : w3.cell? ⟨gb345, 1, none⟩ = some (.int .i64 0) := (blk_cell BK345.out 1).trans rfl; have hcz6_2 : w3.cell? ⟨gb345, 2, none⟩ = some (.int .i64 0) := (blk_cell BK345.out 2).trans rfl; have hcz6_3 : w3.cell? ⟨gb345, 3, none⟩ = some (.int .i64 0) := (blk_cell BK345.out 3).trans rfl; have hfz6_0 := blk_frozen BK345.out 0; have hfz6_1 := blk_frozen BK345.out 1; have hfz6_2 := blk_frozen BK345.out 2; have hfz6_3 := blk_frozen BK345.out 3))
 refine bodyPost_ret (results_cell_row rfl _ _ gb345 37 #[.int .i64 a0_0, .int .i64 a0_1, .int .i64 a0_2, .int .i64 a0_3] (0, 0) _ rfl (by (with_reducible repeat (first | refine blk_drewN ?_ _ | refine blk_drew ?_ | refine blk_alloc ?_ _)); refine blk_put (cs := #[.int .i64 a0_0, .int .i64 a0_1, .int .i64 a0_2, .int .i64 0]) ?_ 3 _ rfl; (with_reducible repeat (first | refine blk_drewN ?_ _ | refine blk_drew ?_ | refine blk_alloc ?_ _)); refine blk_put (cs := #[.int .i64 a0_0, .int .i64 a0_1, .int .i64 0, .int .i64 0]) ?_ 2 _ rfl; (with_reducible repeat (first | refine blk_drewN ?_ _ | refine blk_drew ?_ | refine blk_alloc ?_ _)); refine blk_put (cs := #[.int .i64 a0_0, .int .i64 0, .int .i64 0, .int .i64 0]) ?_ 1 _ rfl; (with_reducible repeat (first | refine blk_drewN ?_ _ | refine blk_drew ?_ | refine blk_alloc ?_ _)); refine blk_put (cs := #[.int .i64 0, .int .i64 0, .int .i64 0, .int .i64 0]) ?_ 0 _ rfl; (with_reducible repeat (first | refine blk_drewN ?_ _ | refine blk_drew ?_ | refine blk_alloc ?_ _)); exact BK345.out) Tryz.underlying37 rfl (by kernel_rfl)) rfl ?_
 exact ⟨by first | rfl | (simp [errW_none, errW_some] <;> rfl) | (simp [*, errW_none, errW_some] <;> rfl), by repeat (first | (with_reducible first | exact HB.out | apply below_alloc | apply pw_below_drewN | apply below_drew1 | refine below_set ?_ GE344.out | refine below_set ?_ GE345.out) | exact HB.out)⟩
def rootcellarlaw16_link.f (a0_0 : Int) (a0_1 : Int) (a0_2 : ByteArray) (a0_3 : Int) (a0_4 : Bool) (a0_5 : Bool) : Option (Int × Int × ByteArray × Int × Bool × Bool) := some (a0_0, a0_1, a0_2, a0_3, a0_4, a0_5)
set_option maxHeartbeats 8000000 in
set_option maxRecDepth 100000 in
theorem rootcellarlaw16_link.calls (a0_0 : Int) (a0_1 : Int) (a0_2 : ByteArray) (a0_3 : Int) (a0_4 : Bool) (a0_5 : Bool) (r1 : Int) (r2 : Int) (r3 : ByteArray) (r4 : Int) (r5 : Bool) (r6 : Bool) (w : World) (h : rootcellarlaw16_link.f a0_0 a0_1 a0_2 a0_3 a0_4 a0_5 = some (r1, r2, r3, r4, r5, r6)) :
  Calls Tryz.prog 43 #[.agg #[.int .i64 a0_0, .int .i64 a0_1, .string a0_2, .int .u64 a0_3, .bool a0_4, .bool a0_5]] w fun e w' => e = .returned (.agg #[.int .i64 r1, .int .i64 r2, .string r3, .int .u64 r4, .bool r5, .bool r6]) ∧ Below w.heap.size w w' := by
 have hu31 := Tryz.underlying31
 have hu81 := Tryz.underlying81
 have HB := Aside0.mk (Below.refl w.heap.size w)
 have H : (some (a0_0, a0_1, a0_2, a0_3, a0_4, a0_5)) = some (r1, r2, r3, r4, r5, r6) := h
 clear h
 simp only [Option.some.injEq, Prod.mk.injEq] at H
 obtain ⟨rfl, rfl, rfl, rfl, rfl, rfl⟩ := H
 go_enter Tryz.func43, Tryz.ntmps43
 go_wp2_with (first | ((with_reducible refine gate_dst (N := 1) rfl ?_); refine box_event ?hg (N := 1) ?hd (cs := #[.int .i64 a0_0, .int .i64 a0_1, .string a0_2, .int .u64 a0_3, .bool a0_4, .bool a0_5]) (t := 31) ?hr ?_; (case hd => rfl); (case hg => rfl); (case hr => first | (go_simp; done) | (go_simp; rfl)); intro gb346 hg w2 hbox hb; have n0_ := Aside0.mk (below_step belA hb); have n1_ := Aside0.mk (hbox); have n2_ := Aside0.mk ((by rw [hg]; exact (below_size belA) : w.heap.size ≤ gb346)); have n3_ := Aside0.mk ((by rw [hg]; exact (below_size belA) : w.heap.size ≤ gb346)); clear HB; have HB := n0_; have BK346 := n1_; have GW346 := n2_; have GE346 := n3_; clear n0_ n1_ n2_ n3_; clear hb hbox hg) | ((with_reducible refine gate_dst (N := 2) rfl ?_); refine box_event ?hg (N := 2) ?hd (cs := #[.int .i64 0, .int .i64 0, .string (⟨#[]⟩ : ByteArray), .int .u64 0, .bool false, .bool false]) (t := 81) ?hr ?_; (case hd => rfl); (case hg => rfl); (case hr => first | (go_simp; done) | (go_simp; rfl)); intro gb347 hg w3 hbox hb; have n0_ := Aside0.mk (blk_below (g := gb346) (o := .cells #[.int .i64 a0_0, .int .i64 a0_1, .string a0_2, .int .u64 a0_3, .bool a0_4, .bool a0_5] 31 (0, 0)) (blkN BK346.out) hb); have n1_ := Aside0.mk (below_step (by repeat (first | (with_reducible first | exact HB.out | apply below_alloc | apply pw_below_drewN | apply below_drew1 | refine below_set ?_ GE346.out) | exact HB.out)) hb); have n2_ := Aside0.mk (hbox); have n3_ := Aside0.mk ((by rw [hg]; exact (below_size (by repeat (first | (with_reducible first | exact HB.out | apply below_alloc | apply pw_below_drewN | apply below_drew1 | refine below_set ?_ GE346.out) | exact HB.out))) : w.heap.size ≤ gb347)); have n4_ := Aside0.mk ((by rw [hg]; exact (below_size (by repeat (first | (with_reducible first | exact HB.out | apply below_alloc | apply pw_below_drewN | apply below_drew1 | refine below_set ?_ GE346.out) | exact HB.out))) : w.heap.size ≤ gb347)); have n5_ := Aside0.mk ((by rw [hg]; exact Nat.ne_of_lt (blk_lt (g := gb346) (o := .cells #[.int .i64 a0_0, .int .i64 a0_1, .string a0_2, .int .u64 a0_3, .bool a0_4, .bool a0_5] 31 (0, 0)) (blkN BK346.out)) : gb346 ≠ gb347)); have n6_ := Aside0.mk ((by rw [hg]; exact Nat.ne_of_gt (blk_lt (g := gb346) (o := .cells #[.int .i64 a0_0, .int .i64 a0_1, .string a0_2, .int .u64 a0_3, .bool a0_4, .bool a0_5] 31 (0, 0)) (blkN BK346.out)) : gb347 ≠ gb346)); clear BK346; clear HB; have BK346 := n0_; have HB := n1_; have BK347 := n2_; have GW347 := n3_; have GE347 := n4_; have NB346_347 := n5_; have NB347_346 := n6_; clear n0_ n1_ n2_ n3_ n4_ n5_ n6_; clear hb hbox hg; have hnb4 := NB346_347.out; have hnc4 := NB347_346.out; have hcz5_0 : w3.cell? ⟨gb346, 0, none⟩ = some (.int .i64 a0_0) := (blk_cell BK346.out 0).trans rfl; have hcz5_1 : w3.cell? ⟨gb346, 1, none⟩ = some (.int .i64 a0_1) := (blk_cell BK346.out 1).trans rfl; have hcz5_2 : w3.cell? ⟨gb346, 2, none⟩ = some (.string a0_2) := (blk_cell BK346.out 2).trans rfl; have hcz5_3 : w3.cell? ⟨gb346, 3, none⟩ = some (.int .u64 a0_3) := (blk_cell BK346.out 3).trans rfl; have hcz5_4 : w3.cell? ⟨gb346, 4, none⟩ = some (.bool a0_4) := (blk_cell BK346.out 4).trans rfl; have hcz5_5 : w3.cell? ⟨gb346, 5, none⟩ = some (.bool a0_5) := (blk_cell BK346.out 5).trans rfl; have hfz5_0 := blk_frozen BK346.out 0; have hfz5_1 := blk_frozen BK346.out 1; have hfz5_2 := blk_frozen BK346.out 2; have hfz5_3 := blk_frozen BK346.out 3; have hfz5_4 := blk_frozen BK346.out 4; have hfz5_5 := blk_frozen BK346.out 5; have hcz6_0 : w3.cell? ⟨gb347, 0, none⟩ = some (.int .i64 0) := (blk_cell BK347.out 0).trans rfl; have hcz6_1 : w3.cell? ⟨gb347, 1, none⟩ = some (.int .i64 0) := (blk_cell BK347.out 1).trans rfl; have hcz6_2 : w3.cell? ⟨gb347, 2, none⟩ = some (.string (⟨#[]⟩ : ByteArray)) := (blk_cell BK347.out 2).trans rfl; have hcz6_3 : w3.cell? ⟨gb347, 3, none⟩ = some (.int .u64 0) := (blk_cell BK347.out 3).trans rfl; have hcz6_4 : w3.cell? ⟨gb347, 4, none⟩ = some (.bool false) := (blk_cell BK347.out 4).trans rfl; have hcz6_5 : w3.cell? ⟨gb347, 5, none⟩ = some (.bool false) := (blk_cell BK347.out 5).trans rfl; have hfz6_0 := blk_frozen BK347.out 0; have hfz6_1 := blk_frozen BK347.out 1; have hfz6_2 := blk_frozen BK347.out 2; have hfz6_3 := blk_frozen BK347.out 3; have hfz6_4 := blk_frozen BK347.out 4; have hfz6_5 := blk_frozen BK347.out 5))
 refine bodyPost_ret (results_cell_row rfl _ _ gb347 81 #[.int .i64 a0_0, .int .i64 a0_1, .string a0_2, .int .u64 a0_3, .bool a0_4, .bool a0_5] (0, 0) _ rfl (by (with_reducible repeat (first | refine blk_drewN ?_ _ | refine blk_drew ?_ | refine blk_alloc ?_ _)); refine blk_put (cs := #[.int .i64 a0_0, .int .i64 a0_1, .string a0_2, .int .u64 a0_3, .bool a0_4, .bool false]) ?_ 5 _ rfl; (with_reducible repeat (first | refine blk_drewN ?_ _ | refine blk_drew ?_ | refine blk_alloc ?_ _)); refine blk_put (cs := #[.int .i64 a0_0, .int .i64 a0_1, .string a0_2, .int .u64 a0_3, .bool false, .bool false]) ?_ 4 _ rfl; (with_reducible repeat (first | refine blk_drewN ?_ _ | refine blk_drew ?_ | refine blk_alloc ?_ _)); refine blk_put (cs := #[.int .i64 a0_0, .int .i64 a0_1, .string a0_2, .int .u64 0, .bool false, .bool false]) ?_ 3 _ rfl; (with_reducible repeat (first | refine blk_drewN ?_ _ | refine blk_drew ?_ | refine blk_alloc ?_ _)); refine blk_put (cs := #[.int .i64 a0_0, .int .i64 a0_1, .string (⟨#[]⟩ : ByteArray), .int .u64 0, .bool false, .bool false]) ?_ 2 _ rfl; (with_reducible repeat (first | refine blk_drewN ?_ _ | refine blk_drew ?_ | refine blk_alloc ?_ _)); refine blk_put (cs := #[.int .i64 a0_0, .int .i64 0, .string (⟨#[]⟩ : ByteArray), .int .u64 0, .bool false, .bool false]) ?_ 1 _ rfl; (with_reducible repeat (first | refine blk_drewN ?_ _ | refine blk_drew ?_ | refine blk_alloc ?_ _)); refine blk_put (cs := #[.int .i64 0, .int .i64 0, .string (⟨#[]⟩ : ByteArray), .int .u64 0, .bool false, .bool false]) ?_ 0 _ rfl; (with_reducible repeat (first | refine blk_drewN ?_ _ | refine blk_drew ?_ | refine blk_alloc ?_ _)); exact BK347.out) Tryz.underlying81 rfl (by kernel_rfl)) rfl ?_
 exact ⟨by first | rfl | (simp [errW_none, errW_some] <;> rfl) | (simp [*, errW_none, errW_some] <;> rfl), by repeat (first | (with_reducible first | exact HB.out | apply below_alloc | apply pw_below_drewN | apply below_drew1 | refine below_set ?_ GE346.out | refine below_set ?_ GE347.out) | exact HB.out)⟩
def rootcellarlaw16_as.l0 : Nat → Int → List (S31) → Int → Int → Int → List (S81) → Int → Int → Int → Option ((List (S81)) × Int × Int × Int)
 | 0, _, _, _, _, _, _, _, _, _ => none
 | k + 1, x4, x349000, x349001, x349002, x349003, x351000, x351001, x351002, x351003 => if x4 < (x349000.length : Int) then (if 0 ≤ x4 then ((rootcellarlaw16_link.f ((rd_T31 x349000 x4).f0) ((rd_T31 x349000 x4).f1) ((rd_T31 x349000 x4).f2) ((rd_T31 x349000 x4).f3) ((rd_T31 x349000 x4).f4) ((rd_T31 x349000 x4).f5)).bind fun bt352 => (if x351000.length < 2932031007402 then (rootcellarlaw16_as.l0 k (wrap64 (x4 + 1)) x349000 x349001 x349002 x349003 (x351000 ++ [(⟨bt352.1, bt352.2.1, bt352.2.2.1, bt352.2.2.2.1, bt352.2.2.2.2.1, bt352.2.2.2.2.2⟩ : S81)]) x351001 x351002 x351003) else (none))) else (none)) else (some (x351000, x351001, x351002, x351003))
def rootcellarlaw16_as.f (k : Nat) (l0_0 : List (S31)) (a0_1 : Int) (a0_2 : Int) (a0_3 : Int) : Option ((List (S81)) × Int × Int × Int) := rootcellarlaw16_as.l0 k 0 l0_0 a0_1 a0_2 a0_3 ([] : List (S81)) a0_1 a0_2 a0_3
def rootcellarlaw16_as.T5 : Bool × List (List Nat × List Nat) := (true, [([], []), ([0], [0]), ([], []), ([2], [2]), ([], []), ([3, 4], [3, 4]), ([5], [5]), ([6], [6]), ([7], [7]), ([1, 8, 7], [1, 8]), ([0, 1, 2, 3, 4, 5, 6, 7, 8, 9], []), ([10, 9, 9, 0, 1, 2, 3, 4, 5, 6, 7, 8, 9], [9, 10])])
def rootcellarlaw16_as.B5 : List Nat := [0, 1, 0, 4, 0, 28, 60, 124, 252, 511, 1023, 2047]
theorem rootcellarlaw16_as.tab5 : rtab .any (opsOf Tryz.f16 5) = rootcellarlaw16_as.T5 := by kernel_rfl
theorem rootcellarlaw16_as.bits5 : waitsOk rootcellarlaw16_as.T5.2 rootcellarlaw16_as.B5 = true := by kernel_rfl
set_option maxHeartbeats 8000000 in
set_option maxRecDepth 100000 in
theorem rootcellarlaw16_as.calls (k : Nat) (A0_0 : Option Addr) (c0_0 : Nat) (l0_0 : List (S31)) (a0_1 : Int) (a0_2 : Int) (a0_3 : Int) (r1 : List (S81)) (r2 : Int) (r3 : Int) (r4 : Int) (w : World) (hr0_0 : Kd.C k31 w A0_0 l0_0.length l0_0) (hc0_0 : l0_0.length ≤ c0_0) (h : rootcellarlaw16_as.f k l0_0 a0_1 a0_2 a0_3 = some (r1, r2, r3, r4)) :
  Calls Tryz.prog 16 #[.agg #[.slice A0_0 l0_0.length c0_0, .int .i64 a0_1, .int .i64 a0_2, .int .u64 a0_3]] w fun e w' => ∃ v0_ : Value, e = .returned (.agg #[v0_, .int .i64 r2, .int .i64 r3, .int .u64 r4]) ∧ Kd.R k81 81 w' w.heap.size (fun _ => True) v0_ r1 ∧ Below w.heap.size w w' := by
 have hu28 := Tryz.underlying28
 have hu41 := Tryz.underlying41
 have hu31 := Tryz.underlying31
 have HR0_0 := Aside0.mk hr0_0
 have HC0_0 := Aside0.mk hc0_0
 clear hr0_0 hc0_0
 have HB := Aside0.mk (Below.refl w.heap.size w)
 have H : (rootcellarlaw16_as.l0 k 0 l0_0 a0_1 a0_2 a0_3 ([] : List (S81)) a0_1 a0_2 a0_3) = some (r1, r2, r3, r4) := h
 clear h
 have H' := Aside0.mk H
 clear H
 go_enter Tryz.func16, Tryz.ntmps16
 go_wp2_with (first | ((with_reducible refine gate_dst (N := 1) rfl ?_); refine box_event ?hg (N := 1) ?hd (cs := #[.slice A0_0 l0_0.length c0_0, .int .i64 a0_1, .int .i64 a0_2, .int .u64 a0_3]) (t := 28) ?hr ?_; (case hd => rfl); (case hg => rfl); (case hr => first | (go_simp; done) | (go_simp; rfl)); intro gb348 hg w2 hbox hb; have n0_ := Aside0.mk (below_step belA hb); have n1_ := Aside0.mk (hbox); have n2_ := Aside0.mk ((by rw [hg]; exact (below_size belA) : w.heap.size ≤ gb348)); have n3_ := Aside0.mk ((by rw [hg]; exact (below_size belA) : w.heap.size ≤ gb348)); clear HB; have HB := n0_; have BK348 := n1_; have GW348 := n2_; have GE348 := n3_; clear n0_ n1_ n2_ n3_; clear hb hbox hg) | ((with_reducible refine gate_dst (N := 2) rfl ?_); refine box_event ?hg (N := 2) ?hd (cs := #[.slice none 0 0, .int .i64 0, .int .i64 0, .int .u64 0]) (t := 41) ?hr ?_; (case hd => rfl); (case hg => rfl); (case hr => first | (go_simp; done) | (go_simp; rfl)); intro gb349 hg w3 hbox hb; have n0_ := Aside0.mk (blk_below (g := gb348) (o := .cells #[.slice A0_0 l0_0.length c0_0, .int .i64 a0_1, .int .i64 a0_2, .int .u64 a0_3] 28 (0, 0)) (blkN BK348.out) hb); have n1_ := Aside0.mk (below_step (by repeat (first | (with_reducible first | exact HB.out | apply below_alloc | apply pw_below_drewN | apply below_drew1 | refine below_set ?_ GE348.out) | exact HB.out)) hb); have n2_ := Aside0.mk (hbox); have n3_ := Aside0.mk ((by rw [hg]; exact (below_size (by repeat (first | (with_reducible first | exact HB.out | apply below_alloc | apply pw_below_drewN | apply below_drew1 | refine below_set ?_ GE348.out) | exact HB.out))) : w.heap.size ≤ gb349)); have n4_ := Aside0.mk ((by rw [hg]; exact (below_size (by repeat (first | (with_reducible first | exact HB.out | apply below_alloc | apply pw_below_drewN | apply below_drew1 | refine below_set ?_ GE348.out) | exact HB.out))) : w.heap.size ≤ gb349)); have n5_ := Aside0.mk ((by rw [hg]; exact Nat.ne_of_lt (blk_lt (g := gb348) (o := .cells #[.slice A0_0 l0_0.length c0_0, .int .i64 a0_1, .int .i64 a0_2, .int .u64 a0_3] 28 (0, 0)) (blkN BK348.out)) : gb348 ≠ gb349)); have n6_ := Aside0.mk ((by rw [hg]; exact Nat.ne_of_gt (blk_lt (g := gb348) (o := .cells #[.slice A0_0 l0_0.length c0_0, .int .i64 a0_1, .int .i64 a0_2, .int .u64 a0_3] 28 (0, 0)) (blkN BK348.out)) : gb349 ≠ gb348)); clear BK348; clear HB; have BK348 := n0_; have HB := n1_; have BK349 := n2_; have GW349 := n3_; have GE349 := n4_; have NB348_349 := n5_; have NB349_348 := n6_; clear n0_ n1_ n2_ n3_ n4_ n5_ n6_; clear hb hbox hg; have hnb4 := NB348_349.out; have hnc4 := NB349_348.out; have hcz5_0 : w3.cell? ⟨gb348, 0, none⟩ = some (.slice A0_0 l0_0.length c0_0) := (blk_cell BK348.out 0).trans rfl; have hcz5_1 : w3.cell? ⟨gb348, 1, none⟩ = some (.int .i64 a0_1) := (blk_cell BK348.out 1).trans rfl; have hcz5_2 : w3.cell? ⟨gb348, 2, none⟩ = some (.int .i64 a0_2) := (blk_cell BK348.out 2).trans rfl; have hcz5_3 : w3.cell? ⟨gb348, 3, none⟩ = some (.int .u64 a0_3) := (blk_cell BK348.out 3).trans rfl; have hfz5_0 := blk_frozen BK348.out 0; have hfz5_1 := blk_frozen BK348.out 1; have hfz5_2 := blk_frozen BK348.out 2; have hfz5_3 := blk_frozen BK348.out 3) | ((with_reducible refine gate_dst (N := 3) rfl ?_); refine box_event ?hg (N := 3) ?hd (cs := #[.slice none 0 0, .int .i64 0, .int .i64 0, .int .u64 0]) (t := 41) ?hr ?_; (case hd => rfl); (case hg => rfl); (case hr => first | (go_simp; done) | (go_simp; rfl)); intro gb350 hg w6 hbox hb; have n0_ := Aside0.mk (blk_below (g := gb348) (o := .cells #[.slice A0_0 l0_0.length c0_0, .int .i64 a0_1, .int .i64 a0_2, .int .u64 a0_3] 28 (0, 0)) (blkN BK348.out) hb); have n1_ := Aside0.mk (blk_below (g := gb349) (o := .cells #[.slice none 0 0, .int .i64 0, .int .i64 0, .int .u64 0] 41 (0, 0)) (blkN BK349.out) hb); have n2_ := Aside0.mk (below_step (by repeat (first | (with_reducible first | exact HB.out | apply below_alloc | apply pw_below_drewN | apply below_drew1 | refine below_set ?_ GE348.out | refine below_set ?_ GE349.out) | exact HB.out)) hb); have n3_ := Aside0.mk (hbox); have n4_ := Aside0.mk ((by rw [hg]; exact (below_size (by repeat (first | (with_reducible first | exact HB.out | apply below_alloc | apply pw_below_drewN | apply below_drew1 | refine below_set ?_ GE348.out | refine below_set ?_ GE349.out) | exact HB.out))) : w.heap.size ≤ gb350)); have n5_ := Aside0.mk ((by rw [hg]; exact (below_size (by repeat (first | (with_reducible first | exact HB.out | apply below_alloc | apply pw_below_drewN | apply below_drew1 | refine below_set ?_ GE348.out | refine below_set ?_ GE349.out) | exact HB.out))) : w.heap.size ≤ gb350)); have n6_ := Aside0.mk ((by rw [hg]; exact Nat.ne_of_lt (blk_lt (g := gb348) (o := .cells #[.slice A0_0 l0_0.length c0_0, .int .i64 a0_1, .int .i64 a0_2, .int .u64 a0_3] 28 (0, 0)) (blkN BK348.out)) : gb348 ≠ gb350)); have n7_ := Aside0.mk ((by rw [hg]; exact Nat.ne_of_gt (blk_lt (g := gb348) (o := .cells #[.slice A0_0 l0_0.length c0_0, .int .i64 a0_1, .int .i64 a0_2, .int .u64 a0_3] 28 (0, 0)) (blkN BK348.out)) : gb350 ≠ gb348)); have n8_ := Aside0.mk ((by rw [hg]; exact Nat.ne_of_lt (blk_lt (g := gb349) (o := .cells #[.slice none 0 0, .int .i64 0, .int .i64 0, .int .u64 0] 41 (0, 0)) (blkN BK349.out)) : gb349 ≠ gb350)); have n9_ := Aside0.mk ((by rw [hg]; exact Nat.ne_of_gt (blk_lt (g := gb349) (o := .cells #[.slice none 0 0, .int .i64 0, .int .i64 0, .int .u64 0] 41 (0, 0)) (blkN BK349.out)) : gb350 ≠ gb349)); clear BK348; clear BK349; clear HB; have BK348 := n0_; have BK349 := n1_; have HB := n2_; have BK350 := n3_; have GW350 := n4_; have GE350 := n5_; have NB348_350 := n6_; have NB350_348 := n7_; have NB349_350 := n8_; have NB350_349 := n9_; clear n0_ n1_ n2_ n3_ n4_ n5_ n6_ n7_ n8_ n9_; clear hb hbox hg; have hnb7 := NB350_348.out; have hnc7 := NB348_350.out; have hnb8 := NB350_349.out; have hnc8 := NB349_350.out; have hcz9_0 : w6.cell? ⟨gb350, 0, none⟩ = some (.slice none 0 0) := (blk_cell BK350.out 0).trans rfl; have hcz9_1 : w6.cell? ⟨gb350, 1, none⟩ = some (.int .i64 0) := (blk_cell BK350.out 1).trans rfl; have hcz9_2 : w6.cell? ⟨gb350, 2, none⟩ = some (.int .i64 0) := (blk_cell BK350.out 2).trans rfl; have hcz9_3 : w6.cell? ⟨gb350, 3, none⟩ = some (.int .u64 0) := (blk_cell BK350.out 3).trans rfl; have hfz9_0 := blk_frozen BK350.out 0; have hfz9_1 := blk_frozen BK350.out 1; have hfz9_2 := blk_frozen BK350.out 2; have hfz9_3 := blk_frozen BK350.out 3))
 go_loopg [4] k (fun kq v4 w' => ∃ (x4_1 : Int) (x351000_1 : List (S81)) (u351000 : Value), v4 = .int .i64 x4_1 ∧ Aside0 (rootcellarlaw16_as.l0 kq x4_1 l0_0 a0_1 a0_2 a0_3 x351000_1 a0_1 a0_2 a0_3 = some (r1, r2, r3, r4)) ∧ Aside0 (kq ≤ k) ∧ Aside0 (Kd.R k81 81 w' w.heap.size (fun _ => True) u351000 x351000_1) ∧ Aside0 (w'.heap[gb348]? = some (.cells #[(.slice A0_0 l0_0.length c0_0), .int .i64 a0_1, .int .i64 a0_2, .int .u64 a0_3] 28 (0, 0))) ∧ Aside0 (w'.heap[gb349]? = some (.cells #[(.slice none 0 0), .int .i64 0, .int .i64 0, .int .u64 0] 41 (0, 0))) ∧ Aside0 (w'.heap[gb350]? = some (.cells #[u351000, .int .i64 a0_1, .int .i64 a0_2, .int .u64 a0_3] 41 (0, 0))) ∧ Aside0 (Below w.heap.size w w'))
 case atStart => exact ⟨(0), (([] : List (S81))), (.slice none 0 0), (by first | rfl | (simp; done) | (simp [*]; done)), H', ⟨Nat.le_refl _⟩, ⟨by first | exact Kd.R_nil _ _ _ _ _ | exact Kd.N_nil _ _ _ _ _ | exact Kd.V_nil _ _ _ _ _ | exact Kd.Q_nil _ _ _ _ _ | exact Kd.S_nil _ _ _ _ _⟩, ⟨by (with_reducible repeat (first | refine blk_drewN ?_ _ | refine blk_drew ?_ | refine blk_alloc ?_ _)); refine blk_far ?_ NB348_350.out _; (with_reducible repeat (first | refine blk_drewN ?_ _ | refine blk_drew ?_ | refine blk_alloc ?_ _)); refine blk_far ?_ NB348_350.out _; (with_reducible repeat (first | refine blk_drewN ?_ _ | refine blk_drew ?_ | refine blk_alloc ?_ _)); refine blk_far ?_ NB348_350.out _; (with_reducible repeat (first | refine blk_drewN ?_ _ | refine blk_drew ?_ | refine blk_alloc ?_ _)); refine blk_far ?_ NB348_350.out _; (with_reducible repeat (first | refine blk_drewN ?_ _ | refine blk_drew ?_ | refine blk_alloc ?_ _)); exact BK348.out⟩, ⟨by (with_reducible repeat (first | refine blk_drewN ?_ _ | refine blk_drew ?_ | refine blk_alloc ?_ _)); refine blk_far ?_ NB349_350.out _; (with_reducible repeat (first | refine blk_drewN ?_ _ | refine blk_drew ?_ | refine blk_alloc ?_ _)); refine blk_far ?_ NB349_350.out _; (with_reducible repeat (first | refine blk_drewN ?_ _ | refine blk_drew ?_ | refine blk_alloc ?_ _)); refine blk_far ?_ NB349_350.out _; (with_reducible repeat (first | refine blk_drewN ?_ _ | refine blk_drew ?_ | refine blk_alloc ?_ _)); refine blk_far ?_ NB349_350.out _; (with_reducible repeat (first | refine blk_drewN ?_ _ | refine blk_drew ?_ | refine blk_alloc ?_ _)); exact BK349.out⟩, ⟨by (with_reducible repeat (first | refine blk_drewN ?_ _ | refine blk_drew ?_ | refine blk_alloc ?_ _)); refine blk_put (cs := #[.slice none 0 0, .int .i64 a0_1, .int .i64 a0_2, .int .u64 0]) ?_ 3 _ rfl; (with_reducible repeat (first | refine blk_drewN ?_ _ | refine blk_drew ?_ | refine blk_alloc ?_ _)); refine blk_put (cs := #[.slice none 0 0, .int .i64 a0_1, .int .i64 0, .int .u64 0]) ?_ 2 _ rfl; (with_reducible repeat (first | refine blk_drewN ?_ _ | refine blk_drew ?_ | refine blk_alloc ?_ _)); refine blk_put (cs := #[.slice none 0 0, .int .i64 0, .int .i64 0, .int .u64 0]) ?_ 1 _ rfl; (with_reducible repeat (first | refine blk_drewN ?_ _ | refine blk_drew ?_ | refine blk_alloc ?_ _)); refine blk_put (cs := #[.slice none 0 0, .int .i64 0, .int .i64 0, .int .u64 0]) ?_ 0 _ rfl; (with_reducible repeat (first | refine blk_drewN ?_ _ | refine blk_drew ?_ | refine blk_alloc ?_ _)); exact BK350.out⟩, ⟨by repeat (first | (with_reducible first | exact HB.out | apply below_alloc | apply pw_below_drewN | apply below_drew1 | refine below_set ?_ GE348.out | refine below_set ?_ GE349.out | refine below_set ?_ GE350.out) | exact HB.out)⟩⟩
 case round =>
  clear H'
  try clear c1
  try clear p2
  try clear c4
  try clear c7
  try clear c8
  try clear hcz5_0
  try clear hcz5_1
  try clear hcz5_2
  try clear hcz5_3
  try clear hcz9_0
  try clear hcz9_1
  try clear hcz9_2
  try clear hcz9_3
  try clear hfz5_0
  try clear hfz5_1
  try clear hfz5_2
  try clear hfz5_3
  try clear hfz9_0
  try clear hfz9_1
  try clear hfz9_2
  try clear hfz9_3
  obtain ⟨x4_1, x351000_1, u351000, rfl, HA, HK1, HO_351000, BK348, BK349, BK350, HB⟩ := hrel
  cases gk with
  | zero => exact absurd HA.out (by simp [rootcellarlaw16_as.l0])
  | succ k1 =>
   have H := HA.out
   clear HA
   simp only [rootcellarlaw16_as.l0] at H
   by_cases c10 : x4_1 < (l0_0.length : Int)
   ·rw [if_pos c10] at H
    have c10b0 : decide (x4_1 < (l0_0.length : Int)) = true := decide_eq_true c10
    clear c10
    by_cases c11 : 0 ≤ x4_1
    ·rw [if_pos c11] at H
     have c11b0 : decide (0 ≤ x4_1) = true := decide_eq_true c11
     clear c11
     replace H := Option.bind_eq_some_iff.mp H
     obtain ⟨⟨t352, t353, t354, t355, t356, t357⟩, A120, H⟩ := H
     replace H : (if x351000_1.length < 2932031007402 then (rootcellarlaw16_as.l0 k1 (wrap64 (x4_1 + 1)) l0_0 a0_1 a0_2 a0_3 (x351000_1 ++ [(⟨t352, t353, t354, t355, t356, t357⟩ : S81)]) a0_1 a0_2 a0_3) else (none)) = some (r1, r2, r3, r4) := H
     have A12 := Aside0.mk A120
     clear A120
     by_cases c13 : x351000_1.length < 2932031007402
     ·rw [if_pos c13] at H
      have LMc13 := Aside0.mk c13
      clear c13
      obtain ⟨y358, hy358⟩ : ∃ y_ : List (S81), y_ = (x351000_1 ++ [(⟨t352, t353, t354, t355, t356, t357⟩ : S81)]) := ⟨_, rfl⟩
      replace H : (rootcellarlaw16_as.l0 k1 (wrap64 (x4_1 + 1)) l0_0 a0_1 a0_2 a0_3 y358 a0_1 a0_2 a0_3) = some (r1, r2, r3, r4) := by first | (rw [hy358]; with_reducible exact H) | (have H2_ := (Option.bind_some _ _).symm.trans H; rw [hy358]; with_reducible exact H2_) | (have H2_ := (Option.bind_some _ _).symm.trans H; with_reducible exact H2_) | with_reducible exact H | (rw [hy358]; exact H) | exact H
      have Ny358 := Aside0.mk hy358
      clear hy358
      have H' := Aside0.mk H
      clear H
      have hnb14 := NB348_349.out
      have hnc14 := NB349_348.out
      have hnb15 := NB348_350.out
      have hnc15 := NB350_348.out
      have hcz16_0 : wr.cell? ⟨gb348, 0, none⟩ = some (.slice A0_0 l0_0.length c0_0) := (blk_cell BK348.out 0).trans rfl
      have hcz16_1 : wr.cell? ⟨gb348, 1, none⟩ = some (.int .i64 a0_1) := (blk_cell BK348.out 1).trans rfl
      have hcz16_2 : wr.cell? ⟨gb348, 2, none⟩ = some (.int .i64 a0_2) := (blk_cell BK348.out 2).trans rfl
      have hcz16_3 : wr.cell? ⟨gb348, 3, none⟩ = some (.int .u64 a0_3) := (blk_cell BK348.out 3).trans rfl
      have hfz16_0 := blk_frozen BK348.out 0
      have hfz16_1 := blk_frozen BK348.out 1
      have hfz16_2 := blk_frozen BK348.out 2
      have hfz16_3 := blk_frozen BK348.out 3
      try go_wp2
      have n0_ := Aside0.mk (Kd.R_drew HO_351000.out)
      have n1_ := Aside0.mk (blk_drew BK348.out)
      have n2_ := Aside0.mk (blk_drew BK349.out)
      have n3_ := Aside0.mk (blk_drew BK350.out)
      have n4_ := Aside0.mk (below_drew1 HB.out)
      clear HO_351000
      clear BK348
      clear BK349
      clear BK350
      clear HB
      have HO_351000 := n0_
      have BK348 := n1_
      have BK349 := n2_
      have BK350 := n3_
      have HB := n4_
      clear n0_ n1_ n2_ n3_ n4_
      have p351 : 0 ≤ (x4_1 : Int) := of_decide_eq_true asA
      have q351 : x4_1 < (l0_0.length : Int) := of_decide_eq_true asA
      obtain ⟨ad351, e351, hx351_0, hx351_1, hx351_2, hx351_3, hx351_4, hx351_5⟩ := at_T31 HR0_0.out x4_1 p351 q351
      have hw351_5 := hx351_5
      have hw351_4 := hx351_4
      have hw351_3 := hx351_3
      have hw351_2 := hx351_2
      have hw351_1 := hx351_1
      have hw351_0 := hx351_0
      cases e351
      replace hx351_0 := (HB.out.cell (World.block_lt_of_cell? w _ hx351_0)).trans hx351_0
      replace hx351_1 := (HB.out.cell (World.block_lt_of_cell? w _ hx351_1)).trans hx351_1
      replace hx351_2 := (HB.out.cell (World.block_lt_of_cell? w _ hx351_2)).trans hx351_2
      replace hx351_3 := (HB.out.cell (World.block_lt_of_cell? w _ hx351_3)).trans hx351_3
      replace hx351_4 := (HB.out.cell (World.block_lt_of_cell? w _ hx351_4)).trans hx351_4
      replace hx351_5 := (HB.out.cell (World.block_lt_of_cell? w _ hx351_5)).trans hx351_5
      replace p351 := eq_true p351
      replace q351 := eq_true q351
      refine start_ (n := 12) (S := fun w' => w'.cell? ⟨gb350, 0, none⟩ = some (u351000) ∧ w'.cell? ⟨gb350, 1, none⟩ = some (.int .i64 a0_1) ∧ w'.cell? ⟨gb350, 2, none⟩ = some (.int .i64 a0_2) ∧ w'.cell? ⟨gb350, 3, none⟩ = some (.int .u64 a0_3) ∧ w'.cell? ⟨gb348, 0, none⟩ = some (.slice (some ad351) l0_0.length c0_0) ∧ w'.cell? ⟨gb348, 1, none⟩ = some (.int .i64 a0_1) ∧ w'.cell? ⟨gb348, 2, none⟩ = some (.int .i64 a0_2) ∧ w'.cell? ⟨gb348, 3, none⟩ = some (.int .u64 a0_3) ∧ w'.cell? (ad351.add ((x4_1).toNat * 6)) = some (.int .i64 ((rd_T31 l0_0 x4_1).f0)) ∧ w'.cell? ⟨(ad351.add ((x4_1).toNat * 6)).block, (ad351.add ((x4_1).toNat * 6)).off + 1, none⟩ = some (.int .i64 ((rd_T31 l0_0 x4_1).f1)) ∧ w'.cell? ⟨(ad351.add ((x4_1).toNat * 6)).block, (ad351.add ((x4_1).toNat * 6)).off + 2, none⟩ = some (.string ((rd_T31 l0_0 x4_1).f2)) ∧ w'.cell? ⟨(ad351.add ((x4_1).toNat * 6)).block, (ad351.add ((x4_1).toNat * 6)).off + 3, none⟩ = some (.int .u64 ((rd_T31 l0_0 x4_1).f3)) ∧ w'.cell? ⟨(ad351.add ((x4_1).toNat * 6)).block, (ad351.add ((x4_1).toNat * 6)).off + 4, none⟩ = some (.bool ((rd_T31 l0_0 x4_1).f4)) ∧ w'.cell? ⟨(ad351.add ((x4_1).toNat * 6)).block, (ad351.add ((x4_1).toNat * 6)).off + 5, none⟩ = some (.bool ((rd_T31 l0_0 x4_1).f5))) (ds := [11]) #[Z,Z,Z,Z,Z,Z,Z,Z,Z,Z,Z,Z] (by kernel_rfl) rfl rfl ⟨(blk_cell BK350.out 0).trans rfl, (blk_cell BK350.out 1).trans rfl, (blk_cell BK350.out 2).trans rfl, (blk_cell BK350.out 3).trans rfl, (blk_cell BK348.out 0).trans rfl, (blk_cell BK348.out 1).trans rfl, (blk_cell BK348.out 2).trans rfl, (blk_cell BK348.out 3).trans rfl, ((HB.out.cell (World.block_lt_of_cell? w _ hw351_0)).trans hw351_0), ((HB.out.cell (World.block_lt_of_cell? w _ hw351_1)).trans hw351_1), ((HB.out.cell (World.block_lt_of_cell? w _ hw351_2)).trans hw351_2), ((HB.out.cell (World.block_lt_of_cell? w _ hw351_3)).trans hw351_3), ((HB.out.cell (World.block_lt_of_cell? w _ hw351_4)).trans hw351_4), ((HB.out.cell (World.block_lt_of_cell? w _ hw351_5)).trans hw351_5)⟩ (fun hHeld => ?_); refine with_tabW rootcellarlaw16_as.tab5 rootcellarlaw16_as.bits5 (fun HT_ HW_ => ?_)
      generalize wr.drew = w17 at HO_351000 BK348 BK349 BK350 HB hx351_0 hx351_1 hx351_2 hx351_3 hx351_4 hx351_5 hHeld ⊢
      refine pure_ (i := 0) (N := some 19) (v := ?_) (a' := ?_) #[Y,Z,Z,Z,Z,Z,Z,Z,Z,Z,Z,Z] rfl rfl (any_of HT_.out (by kernel_rfl)) (fun _ _ _ h => h) (Or.inl ⟨by rfl, ?_⟩) ?_ ?_
      rotate_left
      ·intro w'
       go_simp
       with_reducible rfl
      rotate_left
      ·simp only [Act.put, List.setIfInBounds_toArray, List.set_cons_zero, List.set_cons_succ, i64_w, i32_w]
       rfl
      refine pure_ (i := 2) (N := some 21) (v := ?_) (a' := ?_) #[Y,Z,Y,Z,Z,Z,Z,Z,Z,Z,Z,Z] rfl rfl (any_of HT_.out (by kernel_rfl)) (fun _ _ _ h => h) (Or.inl ⟨by rfl, ?_⟩) ?_ ?_
      rotate_left
      ·intro w'
       go_simp
       with_reducible rfl
      rotate_left
      ·simp only [Act.put, List.setIfInBounds_toArray, List.set_cons_zero, List.set_cons_succ, i64_w, i32_w]
       rfl
      refine pure_ (i := 4) (N := some 23) (v := ?_) (a' := ?_) #[Y,Z,Y,Z,Y,Z,Z,Z,Z,Z,Z,Z] rfl rfl (any_of HT_.out (by kernel_rfl)) (fun _ _ _ h => h) (Or.inl ⟨by rfl, ?_⟩) ?_ ?_
      rotate_left
      ·intro w'
       go_simp
       with_reducible rfl
      rotate_left
      ·simp only [Act.put, List.setIfInBounds_toArray, List.set_cons_zero, List.set_cons_succ, i64_w, i32_w]
       rfl
      refine take_ (i := 1) (N := some 20) (v := ?_) (a' := ?_) #[Y,Y,Y,Z,Y,Z,Z,Z,Z,Z,Z,Z] rfl rfl (take_ofW HT_.out HW_.out (by kernel_rfl)) (fun _ _ _ h => h) (Or.inl ⟨by rfl, ?_⟩) hHeld ?_ ?_
      rotate_left
      ·rintro w' ⟨s0, s1, s2, s3, s4, s5, s6, s7, s8, s9, s10, s11, s12, s13⟩
       go_simp
       with_reducible rfl
      rotate_left
      ·simp only [Act.put, List.setIfInBounds_toArray, List.set_cons_zero, List.set_cons_succ, i64_w, i32_w]
       rfl
      refine take_ (i := 3) (N := some 22) (v := ?_) (a' := ?_) #[Y,Y,Y,Y,Y,Z,Z,Z,Z,Z,Z,Z] rfl rfl (take_ofW HT_.out HW_.out (by kernel_rfl)) (fun _ _ _ h => h) (Or.inl ⟨by rfl, ?_⟩) hHeld ?_ ?_
      rotate_left
      ·rintro w' ⟨s0, s1, s2, s3, s4, s5, s6, s7, s8, s9, s10, s11, s12, s13⟩
       go_simp
       with_reducible rfl
      rotate_left
      ·simp only [Act.put, List.setIfInBounds_toArray, List.set_cons_zero, List.set_cons_succ, i64_w, i32_w]
       rfl
      refine pure_ (i := 5) (N := some 24) (v := ?_) (a' := ?_) #[Y,Y,Y,Y,Y,Y,Z,Z,Z,Z,Z,Z] rfl rfl (any_of HT_.out (by kernel_rfl)) (fun _ _ _ h => h) (Or.inl ⟨by rfl, ?_⟩) ?_ ?_
      rotate_left
      ·intro w'
       go_simp
       with_reducible rfl
      rotate_left
      ·simp only [Act.put, List.setIfInBounds_toArray, List.set_cons_zero, List.set_cons_succ, i64_w, i32_w]
       rfl
      refine take_ (i := 6) (N := some 25) (v := ?_) (a' := ?_) #[Y,Y,Y,Y,Y,Y,Y,Z,Z,Z,Z,Z] rfl rfl (take_ofW HT_.out HW_.out (by kernel_rfl)) (fun _ _ _ h => h) (Or.inl ⟨by rfl, ?_⟩) hHeld ?_ ?_
      rotate_left
      ·rintro w' ⟨s0, s1, s2, s3, s4, s5, s6, s7, s8, s9, s10, s11, s12, s13⟩
       go_simp
       with_reducible rfl
      rotate_left
      ·simp only [Act.put, List.setIfInBounds_toArray, List.set_cons_zero, List.set_cons_succ, i64_w, i32_w]
       rfl
      refine one_ (i := 7) (N := some 26) #[Y,Y,Y,Y,Y,Y,Y,Y,Z,Z,Z,Z] rfl rfl (one_of HT_.out (by kernel_rfl)) (by decide) (fun K hK => ?_)
      refine goes_ Tryz.func43 (by kernel_rfl) rfl #[.agg #[.int .i64 ((rd_T31 l0_0 x4_1).f0), .int .i64 ((rd_T31 l0_0 x4_1).f1), .string ((rd_T31 l0_0 x4_1).f2), .int .u64 ((rd_T31 l0_0 x4_1).f3), .bool ((rd_T31 l0_0 x4_1).f4), .bool ((rd_T31 l0_0 x4_1).f5)]] (by rfl) rfl rfl argA ?_
      with_reducible refine (rootcellarlaw16_link.calls ((rd_T31 l0_0 x4_1).f0) ((rd_T31 l0_0 x4_1).f1) ((rd_T31 l0_0 x4_1).f2) ((rd_T31 l0_0 x4_1).f3) ((rd_T31 l0_0 x4_1).f4) ((rd_T31 l0_0 x4_1).f5) t352 t353 t354 t355 t356 t357 _ A12.out).mono ?_
      rintro e w18 ⟨rfl, hb⟩
      refine ⟨_, rfl, ?_⟩
      have n0_ := Aside0.mk (Kd.R_below (kdR_ HO_351000.out) hb)
      have n1_ := Aside0.mk (blk_below (g := gb348) (o := .cells #[.slice (some ad351) l0_0.length c0_0, .int .i64 a0_1, .int .i64 a0_2, .int .u64 a0_3] 28 (0, 0)) (blkN BK348.out) hb)
      have n2_ := Aside0.mk (blk_below (g := gb349) (o := .cells #[.slice none 0 0, .int .i64 0, .int .i64 0, .int .u64 0] 41 (0, 0)) (blkN BK349.out) hb)
      have n3_ := Aside0.mk (blk_below (g := gb350) (o := .cells #[u351000, .int .i64 a0_1, .int .i64 a0_2, .int .u64 a0_3] 41 (0, 0)) (blkN BK350.out) hb)
      have n4_ := Aside0.mk (below_step (by repeat (first | (with_reducible first | exact HB.out | apply below_alloc | apply pw_below_drewN | apply below_drew1 | refine below_set ?_ GE348.out | refine below_set ?_ GE349.out | refine below_set ?_ GE350.out) | exact HB.out)) hb)
      clear HO_351000
      clear BK348
      clear BK349
      clear BK350
      clear HB
      have HO_351000 := n0_
      have BK348 := n1_
      have BK349 := n2_
      have BK350 := n3_
      have HB := n4_
      clear n0_ n1_ n2_ n3_ n4_
      (try clear hb)
      (try clear hb2)
      (try clear hk)
      (try clear hi)
      refine hK.out _ _ ⟨(blk_cell BK350.out 0).trans rfl, (blk_cell BK350.out 1).trans rfl, (blk_cell BK350.out 2).trans rfl, (blk_cell BK350.out 3).trans rfl, (blk_cell BK348.out 0).trans rfl, (blk_cell BK348.out 1).trans rfl, (blk_cell BK348.out 2).trans rfl, (blk_cell BK348.out 3).trans rfl, ((HB.out.cell (World.block_lt_of_cell? w _ hw351_0)).trans hw351_0), ((HB.out.cell (World.block_lt_of_cell? w _ hw351_1)).trans hw351_1), ((HB.out.cell (World.block_lt_of_cell? w _ hw351_2)).trans hw351_2), ((HB.out.cell (World.block_lt_of_cell? w _ hw351_3)).trans hw351_3), ((HB.out.cell (World.block_lt_of_cell? w _ hw351_4)).trans hw351_4), ((HB.out.cell (World.block_lt_of_cell? w _ hw351_5)).trans hw351_5)⟩ (fun hHeld => ?_)
      clear hK K
      refine norm_ (a' := ?_) ?_ ?_
      rotate_left
      ·show Act.put _ (some 26) _ = _
       simp only [Act.put, List.setIfInBounds_toArray, List.set_cons_zero, List.set_cons_succ, i64_w, i32_w]
       rfl
      refine one_ (i := 8) (N := some 27) #[Y,Y,Y,Y,Y,Y,Y,Y,Y,Z,Z,Z] rfl rfl (one_of HT_.out (by kernel_rfl)) (by decide) (fun K hK => ?_)
      refine value_ (w1 := ?_) (v := ?_) (by rfl) rfl ?_ ?_
      rotate_left 2
      ·go_simp
       constructor
       ·rfl
       ·rfl
      refine hK.out _ _ ⟨(blk_cell (blk_alloc BK350.out _) 0).trans rfl, (blk_cell (blk_alloc BK350.out _) 1).trans rfl, (blk_cell (blk_alloc BK350.out _) 2).trans rfl, (blk_cell (blk_alloc BK350.out _) 3).trans rfl, (blk_cell (blk_alloc BK348.out _) 0).trans rfl, (blk_cell (blk_alloc BK348.out _) 1).trans rfl, (blk_cell (blk_alloc BK348.out _) 2).trans rfl, (blk_cell (blk_alloc BK348.out _) 3).trans rfl, (World.cell?_alloc_lt _ _ _ (World.block_lt_of_cell? _ _ (((HB.out.cell (World.block_lt_of_cell? w _ hw351_0)).trans hw351_0)))).trans (((HB.out.cell (World.block_lt_of_cell? w _ hw351_0)).trans hw351_0)), (World.cell?_alloc_lt _ _ _ (World.block_lt_of_cell? _ _ (((HB.out.cell (World.block_lt_of_cell? w _ hw351_1)).trans hw351_1)))).trans (((HB.out.cell (World.block_lt_of_cell? w _ hw351_1)).trans hw351_1)), (World.cell?_alloc_lt _ _ _ (World.block_lt_of_cell? _ _ (((HB.out.cell (World.block_lt_of_cell? w _ hw351_2)).trans hw351_2)))).trans (((HB.out.cell (World.block_lt_of_cell? w _ hw351_2)).trans hw351_2)), (World.cell?_alloc_lt _ _ _ (World.block_lt_of_cell? _ _ (((HB.out.cell (World.block_lt_of_cell? w _ hw351_3)).trans hw351_3)))).trans (((HB.out.cell (World.block_lt_of_cell? w _ hw351_3)).trans hw351_3)), (World.cell?_alloc_lt _ _ _ (World.block_lt_of_cell? _ _ (((HB.out.cell (World.block_lt_of_cell? w _ hw351_4)).trans hw351_4)))).trans (((HB.out.cell (World.block_lt_of_cell? w _ hw351_4)).trans hw351_4)), (World.cell?_alloc_lt _ _ _ (World.block_lt_of_cell? _ _ (((HB.out.cell (World.block_lt_of_cell? w _ hw351_5)).trans hw351_5)))).trans (((HB.out.cell (World.block_lt_of_cell? w _ hw351_5)).trans hw351_5))⟩ (fun hHeld => ?_)
      clear hK K
      refine norm_ (a' := ?_) ?_ ?_
      rotate_left
      ·show Act.put _ (some 27) _ = _
       simp only [Act.put, List.setIfInBounds_toArray, List.set_cons_zero, List.set_cons_succ, i64_w, i32_w]
       rfl
      refine one_ (i := 9) (N := some 28) #[Y,Y,Y,Y,Y,Y,Y,Y,Y,Y,Z,Z] rfl rfl (one_of HT_.out (by kernel_rfl)) (by decide) (fun K hK => ?_)
      refine Kd.R_append_step k81 (w0 := w) w.heap.size (by rfl) (.tmp 20) (.tmp 27) 39 81 (.agg #[(.int .i64 0), (.int .i64 0), (.string ⟨#[]⟩), (.int .u64 0), (.bool false), (.bool false)]) 48 rfl Tryz.underlying39 info81 rfl (by decide) (by omega) u351000 x351000_1 (⟨t352, t353, t354, t355, t356, t357⟩ : S81) [.int .i64 t352, .int .i64 t353, .string t354, .int .u64 t355, .bool t356, .bool t357] (fun _ => True) (fun _ => False) rfl rfl ?aP (fun _ hk => hk.elim) ?aF ?aO ?aB ?aS ?aL ?_
      (case aP => exact k81_mkM _ _ _ (⟨t352, t353, t354, t355, t356, t357⟩ : S81))
      (case aB => exact (by repeat (first | (with_reducible first | exact HB.out | apply below_alloc | apply pw_below_drewN | apply below_drew1 | refine below_set ?_ GE348.out | refine below_set ?_ GE349.out | refine below_set ?_ GE350.out) | exact HB.out)))
      (case aF => exact (fun _ _ => trivial))
      (case aO => exact (kdR_ HO_351000.out))
      (case aS => exact (below_size (by repeat (first | (with_reducible first | exact HB.out | apply below_alloc | apply pw_below_drewN | apply below_drew1 | refine below_set ?_ GE348.out | refine below_set ?_ GE349.out | refine below_set ?_ GE350.out) | exact HB.out))))
      (case aL => have := LMc13.out; omega)
      intro v359 w19 ho hb hg hat
      rw [← Ny358.out] at ho
      have n0_ := Aside0.mk (blk_grown (g := gb348) (o := .cells #[.slice (some ad351) l0_0.length c0_0, .int .i64 a0_1, .int .i64 a0_2, .int .u64 a0_3] 28 (0, 0)) (blkN BK348.out) hg (Kd.R_ne HO_351000.out BK348.out (by decide)))
      have n1_ := Aside0.mk (blk_grown (g := gb349) (o := .cells #[.slice none 0 0, .int .i64 0, .int .i64 0, .int .u64 0] 41 (0, 0)) (blkN BK349.out) hg (Kd.R_ne HO_351000.out BK349.out (by decide)))
      have n2_ := Aside0.mk (blk_grown (g := gb350) (o := .cells #[u351000, .int .i64 a0_1, .int .i64 a0_2, .int .u64 a0_3] 41 (0, 0)) (blkN BK350.out) hg (Kd.R_ne HO_351000.out BK350.out (by decide)))
      have n3_ := Aside0.mk (hb)
      have n4_ := Aside0.mk (ho)
      clear BK348
      clear BK349
      clear BK350
      clear HB
      clear HO_351000
      have BK348 := n0_
      have BK349 := n1_
      have BK350 := n2_
      have HB := n3_
      have HO360 := n4_
      clear n0_ n1_ n2_ n3_ n4_
      clear ho hb hg hat
      obtain ⟨Ao20, co20, eo20⟩ := Kd.R_slice HO360.out
      (first | subst eo20 | (injection eo20 with f1_ f2_ f3_; have f4_ := f1_.symm; have f5_ := f3_.symm; clear f1_ f2_ f3_; subst f4_; subst f5_))
      refine hK.out _ _ ⟨(blk_cell BK350.out 0).trans rfl, (blk_cell BK350.out 1).trans rfl, (blk_cell BK350.out 2).trans rfl, (blk_cell BK350.out 3).trans rfl, (blk_cell BK348.out 0).trans rfl, (blk_cell BK348.out 1).trans rfl, (blk_cell BK348.out 2).trans rfl, (blk_cell BK348.out 3).trans rfl, ((HB.out.cell (World.block_lt_of_cell? w _ hw351_0)).trans hw351_0), ((HB.out.cell (World.block_lt_of_cell? w _ hw351_1)).trans hw351_1), ((HB.out.cell (World.block_lt_of_cell? w _ hw351_2)).trans hw351_2), ((HB.out.cell (World.block_lt_of_cell? w _ hw351_3)).trans hw351_3), ((HB.out.cell (World.block_lt_of_cell? w _ hw351_4)).trans hw351_4), ((HB.out.cell (World.block_lt_of_cell? w _ hw351_5)).trans hw351_5)⟩ (fun hHeld => ?_)
      clear hK K
      refine norm_ (a' := ?_) ?_ ?_
      rotate_left
      ·show Act.put _ (some 28) _ = _
       simp only [Act.put, List.setIfInBounds_toArray, List.set_cons_zero, List.set_cons_succ, i64_w, i32_w]
       rfl
      refine pure_ (i := 10) (N := some 29) (v := ?_) (a' := ?_) #[Y,Y,Y,Y,Y,Y,Y,Y,Y,Y,Y,Z] rfl rfl (any_of HT_.out (by kernel_rfl)) (fun _ _ _ h => h) (Or.inl ⟨by rfl, ?_⟩) ?_ ?_
      rotate_left
      ·intro w'
       go_simp
       with_reducible rfl
      rotate_left
      ·simp only [Act.put, List.setIfInBounds_toArray, List.set_cons_zero, List.set_cons_succ, i64_w, i32_w]
       rfl
      refine last_ (i := 11) (N := none) #[Y,Y,Y,Y,Y,Y,Y,Y,Y,Y,Y,Y] rfl rfl (one_of HT_.out (by kernel_rfl)) (by decide) (fun K hK => ?_)
      have hs21 : w19.cell? ⟨gb350, 0, none⟩ = some (u351000) := (blk_cell BK350.out 0).trans rfl
      have hfs21 := blk_frozen BK350.out 0
      have hns21_0 := NB348_350.out
      have hns21_1 := NB349_350.out
      have hms21_0 := NB350_348.out
      have hms21_1 := NB350_349.out
      refine skip_ (w1 := ?_) (by rfl) rfl ?_ ?_
      rotate_left
      ·go_simp
       rfl
      refine hK.out _ _ ?_
      clear hK K
      refine done_ (done_of HT_.out (by kernel_rfl)) ?_
      try go_wp2
      go_roundg k1
      case measure => have := HK1.out; omega
      case rel => exact ⟨(wrap64 (x4_1 + 1)), (y358), (.slice Ao20 y358.length co20), (by first | rfl | (simp; done) | (simp [*]; done)), H', ⟨by have := HK1.out; omega⟩, ⟨by (with_reducible repeat (first | apply Kd.R_alloc | apply Kd.R_drewN | apply Kd.R_drew)); exact Kd.R_mono (Kd.R_far (p := ⟨gb350, 0, none⟩) (Kd.R_types HO360.out BK350.out (by decide)) (fun _ hk => hk.2) (.slice Ao20 y358.length co20)) (fun _ hk => trivial)⟩, ⟨by (with_reducible repeat (first | refine blk_drewN ?_ _ | refine blk_drew ?_ | refine blk_alloc ?_ _)); refine blk_far ?_ NB348_350.out _; (with_reducible repeat (first | refine blk_drewN ?_ _ | refine blk_drew ?_ | refine blk_alloc ?_ _)); exact BK348.out⟩, ⟨by (with_reducible repeat (first | refine blk_drewN ?_ _ | refine blk_drew ?_ | refine blk_alloc ?_ _)); refine blk_far ?_ NB349_350.out _; (with_reducible repeat (first | refine blk_drewN ?_ _ | refine blk_drew ?_ | refine blk_alloc ?_ _)); exact BK349.out⟩, ⟨by (with_reducible repeat (first | refine blk_drewN ?_ _ | refine blk_drew ?_ | refine blk_alloc ?_ _)); refine blk_put (cs := #[u351000, .int .i64 a0_1, .int .i64 a0_2, .int .u64 a0_3]) ?_ 0 _ rfl; (with_reducible repeat (first | refine blk_drewN ?_ _ | refine blk_drew ?_ | refine blk_alloc ?_ _)); exact BK350.out⟩, ⟨by repeat (first | (with_reducible first | exact HB.out | apply below_alloc | apply pw_below_drewN | apply below_drew1 | refine below_set ?_ GE348.out | refine below_set ?_ GE349.out | refine below_set ?_ GE350.out) | exact HB.out)⟩⟩
     ·rw [if_neg c13] at H
      exact absurd H (by simp)
    ·rw [if_neg c11] at H
     exact absurd H (by simp)
   ·rw [if_neg c10] at H
    have c10b0 : decide (x4_1 < (l0_0.length : Int)) = false := decide_eq_false c10
    clear c10
    simp only [Option.some.injEq, Prod.mk.injEq] at H
    obtain ⟨rfl, rfl, rfl, rfl⟩ := H
    have hnb22 := NB348_349.out
    have hnc22 := NB349_348.out
    have hnb23 := NB348_350.out
    have hnc23 := NB350_348.out
    have hcz24_0 : wr.cell? ⟨gb348, 0, none⟩ = some (.slice A0_0 l0_0.length c0_0) := (blk_cell BK348.out 0).trans rfl
    have hcz24_1 : wr.cell? ⟨gb348, 1, none⟩ = some (.int .i64 a0_1) := (blk_cell BK348.out 1).trans rfl
    have hcz24_2 : wr.cell? ⟨gb348, 2, none⟩ = some (.int .i64 a0_2) := (blk_cell BK348.out 2).trans rfl
    have hcz24_3 : wr.cell? ⟨gb348, 3, none⟩ = some (.int .u64 a0_3) := (blk_cell BK348.out 3).trans rfl
    have hfz24_0 := blk_frozen BK348.out 0
    have hfz24_1 := blk_frozen BK348.out 1
    have hfz24_2 := blk_frozen BK348.out 2
    have hfz24_3 := blk_frozen BK348.out 3
    have hnb25 := NB350_349.out
    have hnc25 := NB349_350.out
    have hcz26_0 : wr.cell? ⟨gb350, 0, none⟩ = some (u351000) := (blk_cell BK350.out 0).trans rfl
    have hcz26_1 : wr.cell? ⟨gb350, 1, none⟩ = some (.int .i64 a0_1) := (blk_cell BK350.out 1).trans rfl
    have hcz26_2 : wr.cell? ⟨gb350, 2, none⟩ = some (.int .i64 a0_2) := (blk_cell BK350.out 2).trans rfl
    have hcz26_3 : wr.cell? ⟨gb350, 3, none⟩ = some (.int .u64 a0_3) := (blk_cell BK350.out 3).trans rfl
    have hfz26_0 := blk_frozen BK350.out 0
    have hfz26_1 := blk_frozen BK350.out 1
    have hfz26_2 := blk_frozen BK350.out 2
    have hfz26_3 := blk_frozen BK350.out 3
    obtain ⟨Ao27, co27, eo27⟩ := Kd.R_slice HO_351000.out
    subst eo27
    have hcz28_0 : wr.cell? ⟨gb349, 0, none⟩ = some (.slice none 0 0) := (blk_cell BK349.out 0).trans rfl
    have hcz28_1 : wr.cell? ⟨gb349, 1, none⟩ = some (.int .i64 0) := (blk_cell BK349.out 1).trans rfl
    have hcz28_2 : wr.cell? ⟨gb349, 2, none⟩ = some (.int .i64 0) := (blk_cell BK349.out 2).trans rfl
    have hcz28_3 : wr.cell? ⟨gb349, 3, none⟩ = some (.int .u64 0) := (blk_cell BK349.out 3).trans rfl
    have hfz28_0 := blk_frozen BK349.out 0
    have hfz28_1 := blk_frozen BK349.out 1
    have hfz28_2 := blk_frozen BK349.out 2
    have hfz28_3 := blk_frozen BK349.out 3
    go_wp2
    refine bodyPost_ret (results_cell_row rfl _ _ gb349 41 #[.slice Ao27 x351000_1.length co27, .int .i64 a0_1, .int .i64 a0_2, .int .u64 a0_3] (0, 0) _ rfl (by (with_reducible repeat (first | refine blk_drewN ?_ _ | refine blk_drew ?_ | refine blk_alloc ?_ _)); refine blk_put (cs := #[.slice Ao27 x351000_1.length co27, .int .i64 a0_1, .int .i64 a0_2, .int .u64 0]) ?_ 3 _ rfl; (with_reducible repeat (first | refine blk_drewN ?_ _ | refine blk_drew ?_ | refine blk_alloc ?_ _)); refine blk_put (cs := #[.slice Ao27 x351000_1.length co27, .int .i64 a0_1, .int .i64 0, .int .u64 0]) ?_ 2 _ rfl; (with_reducible repeat (first | refine blk_drewN ?_ _ | refine blk_drew ?_ | refine blk_alloc ?_ _)); refine blk_put (cs := #[.slice Ao27 x351000_1.length co27, .int .i64 0, .int .i64 0, .int .u64 0]) ?_ 1 _ rfl; (with_reducible repeat (first | refine blk_drewN ?_ _ | refine blk_drew ?_ | refine blk_alloc ?_ _)); refine blk_put (cs := #[.slice none 0 0, .int .i64 0, .int .i64 0, .int .u64 0]) ?_ 0 _ rfl; (with_reducible repeat (first | refine blk_drewN ?_ _ | refine blk_drew ?_ | refine blk_alloc ?_ _)); exact BK349.out) Tryz.underlying41 rfl (by kernel_rfl)) rfl ?_
    exact ⟨_, by first | rfl | (simp [errW_none, errW_some] <;> rfl) | (simp [*, errW_none, errW_some] <;> rfl), by (with_reducible repeat (first | apply Kd.R_alloc | apply Kd.R_drewN | apply Kd.R_drew)); exact Kd.R_mono (Kd.R_far (p := ⟨gb349, 3, none⟩) (Kd.R_far (p := ⟨gb349, 2, none⟩) (Kd.R_far (p := ⟨gb349, 1, none⟩) (Kd.R_far (p := ⟨gb349, 0, none⟩) (Kd.R_types HO_351000.out BK349.out (by decide)) (fun _ hk => hk.2) (.slice Ao27 x351000_1.length co27)) (fun _ hk => hk.2) (.int .i64 a0_1)) (fun _ hk => hk.2) (.int .i64 a0_2)) (fun _ hk => hk.2) (.int .u64 a0_3)) (fun _ hk => trivial), by repeat (first | (with_reducible first | exact HB.out | apply below_alloc | apply pw_below_drewN | apply below_drew1 | refine below_set ?_ GE348.out | refine below_set ?_ GE349.out | refine below_set ?_ GE350.out) | exact HB.out)⟩
-- NOT PRINTED: function 18 (rootcellarref16_Drops)
def rootcellarlaw16_in.l0 : Nat → List Int → Int → Int → Option (Bool)
 | 0, _, _, _ => none
 | k + 1, x0, x1, x5 => if x5 < (x0.length : Int) then (if 0 ≤ x5 then (if (rd x0 x5) = x1 then (some true) else (rootcellarlaw16_in.l0 k x0 x1 (wrap64 (x5 + 1)))) else (none)) else (some false)
def rootcellarlaw16_in.f (k : Nat) (l0 : List Int) (a1 : Int) : Option (Bool) := rootcellarlaw16_in.l0 k l0 a1 0
set_option maxHeartbeats 8000000 in
set_option maxRecDepth 100000 in
theorem rootcellarlaw16_in.calls (k : Nat) (A0 : Option Addr) (c0 : Nat) (l0 : List Int) (a1 : Int) (r : Bool) (w : World) (hr0 : Kd.C (Kd.int .i64) w A0 l0.length l0) (hc0 : l0.length ≤ c0) (h : rootcellarlaw16_in.f k l0 a1 = some r) :
  Calls Tryz.prog 21 #[.slice A0 l0.length c0, .int .i64 a1] w fun e w' => e = .returned (.bool r) ∧ Drawn0 w w' := by
 have HR0 := Aside0.mk hr0
 have HC0 := Aside0.mk hc0
 clear hr0 hc0
 have H : (rootcellarlaw16_in.l0 k l0 a1 0) = some r := h
 clear h
 have H' := Aside0.mk H
 clear H
 go_enter Tryz.func21, Tryz.ntmps21
 go_wp2
 go_loopg [5] k (fun kq v5 w' => ∃ (x5_1 : Int), v5 = .int .i64 x5_1 ∧ Aside0 (rootcellarlaw16_in.l0 kq l0 a1 x5_1 = some r) ∧ Aside0 (kq ≤ k) ∧ Drawn0 w w')
 case atStart => exact ⟨(0), (by first | rfl | (simp; done) | (simp [*]; done)), H', ⟨Nat.le_refl _⟩, by repeat (first | exact Drawn0.refl _ | apply Drawn0.step)⟩
 case round =>
  clear H'
  try clear c2
  try clear p2
  obtain ⟨x5_1, rfl, HA, HK1, ⟨m1, rfl⟩⟩ := hrel
  cases gk with
  | zero => exact absurd HA.out (by simp [rootcellarlaw16_in.l0])
  | succ k1 =>
   have H := HA.out
   clear HA
   simp only [rootcellarlaw16_in.l0] at H
   by_cases c3 : x5_1 < (l0.length : Int)
   ·rw [if_pos c3] at H
    have c3b0 : decide (x5_1 < (l0.length : Int)) = true := decide_eq_true c3
    clear c3
    by_cases c4 : 0 ≤ x5_1
    ·rw [if_pos c4] at H
     have c4b0 : decide (0 ≤ x5_1) = true := decide_eq_true c4
     clear c4
     by_cases c5 : (rd l0 x5_1) = a1
     ·rw [if_pos c5] at H
      have c5b0 : ((rd l0 x5_1) == a1) = true := beq_iff_eq.mpr c5
      have c5b1 : ((rd l0 x5_1) != a1) = false := bne_eq_false_iff_eq.mpr c5
      clear c5
      obtain rfl := Option.some.inj H
      have p363 : 0 ≤ (x5_1 : Int) := of_decide_eq_true asA
      have q363 : x5_1 < (l0.length : Int) := of_decide_eq_true asA
      obtain ⟨ad363, e363, hx363_0⟩ := Kd.at_int HR0.out x5_1 p363 q363
      cases e363
      replace p363 := eq_true p363
      replace q363 := eq_true q363
      go_wp2
      go_ret
      exact ⟨by first | rfl | (simp; done) | (simp [*]; done), by repeat (first | exact Drawn0.refl _ | apply Drawn0.step)⟩
     ·rw [if_neg c5] at H
      have c5b0 : ((rd l0 x5_1) == a1) = false := beq_eq_false_iff_ne.mpr c5
      have c5b1 : ((rd l0 x5_1) != a1) = true := bne_iff_ne.mpr c5
      have H' := Aside0.mk H
      clear H
      have p363 : 0 ≤ (x5_1 : Int) := of_decide_eq_true asA
      have q363 : x5_1 < (l0.length : Int) := of_decide_eq_true asA
      obtain ⟨ad363, e363, hx363_0⟩ := Kd.at_int HR0.out x5_1 p363 q363
      cases e363
      replace p363 := eq_true p363
      replace q363 := eq_true q363
      go_wp2
      go_roundg k1
      case measure => have := HK1.out; omega
      case rel => exact ⟨(wrap64 (x5_1 + 1)), (by first | rfl | (simp; done) | (simp [*]; done)), H', ⟨by have := HK1.out; omega⟩, by repeat (first | exact Drawn0.refl _ | apply Drawn0.step)⟩
    ·rw [if_neg c4] at H
     exact absurd H (by simp)
   ·rw [if_neg c3] at H
    have c3b0 : decide (x5_1 < (l0.length : Int)) = false := decide_eq_false c3
    clear c3
    obtain rfl := Option.some.inj H
    go_wp2
    go_ret
    exact ⟨by first | rfl | (simp; done) | (simp [*]; done), by repeat (first | exact Drawn0.refl _ | apply Drawn0.step)⟩
def rootcellarlaw16_last.l0 : Nat → Int → Int → Int → List (S31) → Int → Int → Int → Int → Int → ByteArray → Int → Bool → Bool → Option (Int)
 | 0, _, _, _, _, _, _, _, _, _, _, _, _, _ => none
 | k + 1, x5, x6, x7, x365000, x365001, x365002, x365003, x366000, x366001, x366002, x366003, x366004, x366005 => if x7 < (x365000.length : Int) then (if 0 ≤ x7 then ((rootcellarref15_Bucket.f k 0 ((rd_T31 x365000 x7).f3)).bind fun t368 => ((rootcellarref15_Bucket.f k 0 x366003).bind fun t369 => (if t368 > t369 then (some 0) else (if t368 = t369 then (if ((rd_T31 x365000 x7).f3) ≥ x6 then (rootcellarlaw16_last.l0 k ((rd_T31 x365000 x7).f0) ((rd_T31 x365000 x7).f3) (wrap64 (x7 + 1)) x365000 x365001 x365002 x365003 x366000 x366001 x366002 x366003 x366004 x366005) else (rootcellarlaw16_last.l0 k x5 x6 (wrap64 (x7 + 1)) x365000 x365001 x365002 x365003 x366000 x366001 x366002 x366003 x366004 x366005)) else (rootcellarlaw16_last.l0 k x5 x6 (wrap64 (x7 + 1)) x365000 x365001 x365002 x365003 x366000 x366001 x366002 x366003 x366004 x366005))))) else (none)) else (some x5)
def rootcellarlaw16_last.f (k : Nat) (l0_0 : List (S31)) (a0_1 : Int) (a0_2 : Int) (a0_3 : Int) (a1_0 : Int) (a1_1 : Int) (a1_2 : ByteArray) (a1_3 : Int) (a1_4 : Bool) (a1_5 : Bool) : Option (Int) := rootcellarlaw16_last.l0 k 0 0 1 l0_0 a0_1 a0_2 a0_3 a1_0 a1_1 a1_2 a1_3 a1_4 a1_5
end Go.Proofs.YtfdlbnfjohpdlaaGreatDoor.PPo
