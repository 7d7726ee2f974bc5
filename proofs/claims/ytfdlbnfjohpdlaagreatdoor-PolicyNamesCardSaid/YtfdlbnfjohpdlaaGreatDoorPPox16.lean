import Derived.Test.YtfdlbnfjohpdlaaGreatDoorPPox0
import Derived.Test.YtfdlbnfjohpdlaaGreatDoorPPox7
--compressed
namespace Go.Proofs.YtfdlbnfjohpdlaaGreatDoor.PPo
open Go.RowKit Go.Proofs.YtfdlbnfjohpdlaaGreatDoorW.PrintWords Go.Proofs.YtfdlbnfjohpdlaaGreatDoorW.PrintLast Go.Proofs.YtfdlbnfjohpdlaaGreatDoorW.PrintMore
attribute [local go_sem] max2_int min2_int max_two min_two max_three min_three max_four min_four   -- for this text's walks alone
attribute [local go_sem high] hw_str_leq hw_str_gtr
set_option linter.unusedVariables false
set_option linter.unusedSimpArgs false
attribute [local go_sem high] eqA31
def tree_Link_well.f (a0_0 : Int) (a0_1 : Int) (a0_2 : ByteArray) (a0_3 : Int) (a0_4 : Bool) (a0_5 : Bool) : Option (Bool) := if a0_4 = true then (some (a0_2.toList == ([] : List UInt8) && (a0_3 == 0 && (a0_4 && (!a0_5))))) else ((label_Right.f a0_2).bind fun t118 => (some t118))
set_option maxHeartbeats 8000000 in
set_option maxRecDepth 100000 in
theorem tree_Link_well.calls (a0_0 : Int) (a0_1 : Int) (a0_2 : ByteArray) (a0_3 : Int) (a0_4 : Bool) (a0_5 : Bool) (r : Bool) (w : World) (ht : TabsW w) (h : tree_Link_well.f a0_0 a0_1 a0_2 a0_3 a0_4 a0_5 = some r) :
  Calls Tryz.prog 46 #[.agg #[.int .i64 a0_0, .int .i64 a0_1, .string a0_2, .int .u64 a0_3, .bool a0_4, .bool a0_5]] w fun e w' => e = .returned (.bool r) ∧ Below w.heap.size w w' := by
 have hu31 := Tryz.underlying31
 have HT0 := Aside0.mk ht
 clear ht
 have HB := Aside0.mk (Below.refl w.heap.size w)
 have H : (if a0_4 = true then (some (a0_2.toList == ([] : List UInt8) && (a0_3 == 0 && (a0_4 && (!a0_5))))) else ((label_Right.f a0_2).bind fun t118 => (some t118))) = some r := h
 clear h
 by_cases c2 : a0_4 = true
 ·subst c2
  have H1 : (some (a0_2.toList == ([] : List UInt8) && (a0_3 == 0 && (true && (!a0_5))))) = some r := by rw [if_pos rfl] at H; exact H
  clear H
  have H := H1
  clear H1
  obtain rfl := Option.some.inj H
  go_enter Tryz.func46, Tryz.ntmps46
  go_wp2_with (first | ((with_reducible refine gate_dst (N := 1) rfl ?_); refine box_event ?hg (N := 1) ?hd (cs := #[.int .i64 a0_0, .int .i64 a0_1, .string a0_2, .int .u64 a0_3, .bool true, .bool a0_5]) (t := 31) ?hr ?_; (case hd => rfl); (case hg => rfl); (case hr => first | (go_simp; done) | (go_simp; rfl)); intro gb117 hg w3 hbox hb; have n0_ := Aside0.mk (below_step belA hb); have n1_ := Aside0.mk (hbox); have n2_ := Aside0.mk ((by rw [hg]; exact (below_size belA) : w.heap.size ≤ gb117)); have n3_ := Aside0.mk ((by rw [hg]; exact (below_size belA) : w.heap.size ≤ gb117)); clear HB; have HB := n0_; have BK117 := n1_; have GW117 := n2_; have GE117 := n3_; clear n0_ n1_ n2_ n3_; clear hb hbox hg; have hcz4_0 : w3.cell? ⟨gb117, 0, none⟩ = some (.int .i64 a0_0) := (blk_cell BK117.out 0).trans rfl; have hcz4_1 : w3.cell? ⟨gb117, 1, none⟩ = some (.int .i64 a0_1) := (blk_cell BK117.out 1).trans rfl; have hcz4_2 : w3.cell? ⟨gb117, 2, none⟩ = some (.string a0_2) := (blk_cell BK117.out 2).trans rfl; have hcz4_3 : w3.cell? ⟨gb117, 3, none⟩ = some (.int .u64 a0_3) := (blk_cell BK117.out 3).trans rfl; have hcz4_4 : w3.cell? ⟨gb117, 4, none⟩ = some (.bool true) := (blk_cell BK117.out 4).trans rfl; have hcz4_5 : w3.cell? ⟨gb117, 5, none⟩ = some (.bool a0_5) := (blk_cell BK117.out 5).trans rfl; have hfz4_0 := blk_frozen BK117.out 0; have hfz4_1 := blk_frozen BK117.out 1; have hfz4_2 := blk_frozen BK117.out 2; have hfz4_3 := blk_frozen BK117.out 3; have hfz4_4 := blk_frozen BK117.out 4; have hfz4_5 := blk_frozen BK117.out 5))
  go_ret
  exact ⟨by first | rfl | (simp [errW_none, errW_some] <;> rfl) | (simp [*, errW_none, errW_some] <;> rfl), by repeat (first | (with_reducible first | exact HB.out | apply below_alloc | apply pw_below_drewN | apply below_drew1 | refine below_set ?_ GE117.out) | exact HB.out)⟩
 ·replace c2 := Bool.eq_false_iff.mpr c2
  subst c2
  have H1 : ((label_Right.f a0_2).bind fun t118 => (some t118)) = some r := by rw [if_neg (show ¬ (false = true) by decide)] at H; exact H
  clear H
  have H := H1
  clear H1
  replace H := Option.bind_eq_some_iff.mp H
  obtain ⟨t118, A50, H⟩ := H
  replace H : (some t118) = some r := H
  have A5 := Aside0.mk A50
  clear A50
  obtain rfl := Option.some.inj H
  go_enter Tryz.func46, Tryz.ntmps46
  go_wp2_with (first | ((with_reducible refine gate_dst (N := 1) rfl ?_); refine box_event ?hg (N := 1) ?hd (cs := #[.int .i64 a0_0, .int .i64 a0_1, .string a0_2, .int .u64 a0_3, .bool false, .bool a0_5]) (t := 31) ?hr ?_; (case hd => rfl); (case hg => rfl); (case hr => first | (go_simp; done) | (go_simp; rfl)); intro gb117 hg w6 hbox hb; have n0_ := Aside0.mk (below_step belA hb); have n1_ := Aside0.mk (hbox); have n2_ := Aside0.mk ((by rw [hg]; exact (below_size belA) : w.heap.size ≤ gb117)); have n3_ := Aside0.mk ((by rw [hg]; exact (below_size belA) : w.heap.size ≤ gb117)); clear HB; have HB := n0_; have BK117 := n1_; have GW117 := n2_; have GE117 := n3_; clear n0_ n1_ n2_ n3_; clear hb hbox hg; have hcz7_0 : w6.cell? ⟨gb117, 0, none⟩ = some (.int .i64 a0_0) := (blk_cell BK117.out 0).trans rfl; have hcz7_1 : w6.cell? ⟨gb117, 1, none⟩ = some (.int .i64 a0_1) := (blk_cell BK117.out 1).trans rfl; have hcz7_2 : w6.cell? ⟨gb117, 2, none⟩ = some (.string a0_2) := (blk_cell BK117.out 2).trans rfl; have hcz7_3 : w6.cell? ⟨gb117, 3, none⟩ = some (.int .u64 a0_3) := (blk_cell BK117.out 3).trans rfl; have hcz7_4 : w6.cell? ⟨gb117, 4, none⟩ = some (.bool false) := (blk_cell BK117.out 4).trans rfl; have hcz7_5 : w6.cell? ⟨gb117, 5, none⟩ = some (.bool a0_5) := (blk_cell BK117.out 5).trans rfl; have hfz7_0 := blk_frozen BK117.out 0; have hfz7_1 := blk_frozen BK117.out 1; have hfz7_2 := blk_frozen BK117.out 2; have hfz7_3 := blk_frozen BK117.out 3; have hfz7_4 := blk_frozen BK117.out 4; have hfz7_5 := blk_frozen BK117.out 5) | ((with_reducible refine gate_callee (f := 72) rfl ?_); refine goesL_ (some 14) rfl rfl Tryz.func72 (by kernel_rfl) rfl #[.string a0_2] rfl argA ?_; (with_reducible refine (label_Right.calls a0_2 t118 _ ?side1 A5.out).mono ?_); (case side1 => exact TabsW.below HT0.out (by repeat (first | (with_reducible first | exact HB.out | apply below_alloc | apply pw_below_drewN | apply below_drew1 | refine below_set ?_ GE117.out) | exact HB.out))); rintro e w8 ⟨rfl, hb⟩; refine ⟨_, rfl, ?_⟩; have n0_ := Aside0.mk (blk_below (g := gb117) (o := .cells #[.int .i64 a0_0, .int .i64 a0_1, .string a0_2, .int .u64 a0_3, .bool false, .bool a0_5] 31 (0, 0)) (blkN BK117.out) hb); have n1_ := Aside0.mk (below_step (by repeat (first | (with_reducible first | exact HB.out | apply below_alloc | apply pw_below_drewN | apply below_drew1 | refine below_set ?_ GE117.out) | exact HB.out)) hb); clear BK117; clear HB; have BK117 := n0_; have HB := n1_; clear n0_ n1_; (try clear hb); (try clear hb2); (try clear hk); (try clear hi)))
  go_ret
  exact ⟨by first | rfl | (simp [errW_none, errW_some] <;> rfl) | (simp [*, errW_none, errW_some] <;> rfl), by repeat (first | (with_reducible first | exact HB.out | apply below_alloc | apply pw_below_drewN | apply below_drew1 | refine below_set ?_ GE117.out) | exact HB.out)⟩
-- NOT PRINTED: function 20 (tree_Right)
-- NOT PRINTED: function 82 (tree_Link_82)
-- NOT PRINTED: function 119 (tree_Link_119)
-- NOT PRINTED: function 83 (tree_Link_83)
def date_Civil.j0 : Nat → Int → Bool → Option (Int × Int × Int)
 | 0, _, _ => none
 | k + 1, x0, x15 => if x15 = true then (some (0, 0, 0)) else (if (wrap64 ((wrap64 (Int.tdiv (wrap64 ((wrap64 (5 * (wrap64 ((Int.tmod (wrap64 (x0 + 719468)) 146097) - (wrap64 ((wrap64 ((wrap64 (365 * (wrap64 (Int.tdiv (wrap64 ((wrap64 ((wrap64 ((Int.tmod (wrap64 (x0 + 719468)) 146097) - (wrap64 (Int.tdiv (Int.tmod (wrap64 (x0 + 719468)) 146097) 1460)))) + (wrap64 (Int.tdiv (Int.tmod (wrap64 (x0 + 719468)) 146097) 36524)))) - (wrap64 (Int.tdiv (Int.tmod (wrap64 (x0 + 719468)) 146097) 146096)))) 365)))) + (wrap64 (Int.tdiv (wrap64 (Int.tdiv (wrap64 ((wrap64 ((wrap64 ((Int.tmod (wrap64 (x0 + 719468)) 146097) - (wrap64 (Int.tdiv (Int.tmod (wrap64 (x0 + 719468)) 146097) 1460)))) + (wrap64 (Int.tdiv (Int.tmod (wrap64 (x0 + 719468)) 146097) 36524)))) - (wrap64 (Int.tdiv (Int.tmod (wrap64 (x0 + 719468)) 146097) 146096)))) 365)) 4)))) - (wrap64 (Int.tdiv (wrap64 (Int.tdiv (wrap64 ((wrap64 ((wrap64 ((Int.tmod (wrap64 (x0 + 719468)) 146097) - (wrap64 (Int.tdiv (Int.tmod (wrap64 (x0 + 719468)) 146097) 1460)))) + (wrap64 (Int.tdiv (Int.tmod (wrap64 (x0 + 719468)) 146097) 36524)))) - (wrap64 (Int.tdiv (Int.tmod (wrap64 (x0 + 719468)) 146097) 146096)))) 365)) 100)))))))) + 2)) 153)) + 3)) > 12 then (some (wrap64 ((wrap64 ((wrap64 (Int.tdiv (wrap64 ((wrap64 ((wrap64 ((Int.tmod (wrap64 (x0 + 719468)) 146097) - (wrap64 (Int.tdiv (Int.tmod (wrap64 (x0 + 719468)) 146097) 1460)))) + (wrap64 (Int.tdiv (Int.tmod (wrap64 (x0 + 719468)) 146097) 36524)))) - (wrap64 (Int.tdiv (Int.tmod (wrap64 (x0 + 719468)) 146097) 146096)))) 365)) + (wrap64 ((wrap64 (Int.tdiv (wrap64 (x0 + 719468)) 146097)) * 400)))) + 1), wrap64 ((wrap64 ((wrap64 (Int.tdiv (wrap64 ((wrap64 (5 * (wrap64 ((Int.tmod (wrap64 (x0 + 719468)) 146097) - (wrap64 ((wrap64 ((wrap64 (365 * (wrap64 (Int.tdiv (wrap64 ((wrap64 ((wrap64 ((Int.tmod (wrap64 (x0 + 719468)) 146097) - (wrap64 (Int.tdiv (Int.tmod (wrap64 (x0 + 719468)) 146097) 1460)))) + (wrap64 (Int.tdiv (Int.tmod (wrap64 (x0 + 719468)) 146097) 36524)))) - (wrap64 (Int.tdiv (Int.tmod (wrap64 (x0 + 719468)) 146097) 146096)))) 365)))) + (wrap64 (Int.tdiv (wrap64 (Int.tdiv (wrap64 ((wrap64 ((wrap64 ((Int.tmod (wrap64 (x0 + 719468)) 146097) - (wrap64 (Int.tdiv (Int.tmod (wrap64 (x0 + 719468)) 146097) 1460)))) + (wrap64 (Int.tdiv (Int.tmod (wrap64 (x0 + 719468)) 146097) 36524)))) - (wrap64 (Int.tdiv (Int.tmod (wrap64 (x0 + 719468)) 146097) 146096)))) 365)) 4)))) - (wrap64 (Int.tdiv (wrap64 (Int.tdiv (wrap64 ((wrap64 ((wrap64 ((Int.tmod (wrap64 (x0 + 719468)) 146097) - (wrap64 (Int.tdiv (Int.tmod (wrap64 (x0 + 719468)) 146097) 1460)))) + (wrap64 (Int.tdiv (Int.tmod (wrap64 (x0 + 719468)) 146097) 36524)))) - (wrap64 (Int.tdiv (Int.tmod (wrap64 (x0 + 719468)) 146097) 146096)))) 365)) 100)))))))) + 2)) 153)) + 3)) - 12), wrap64 ((wrap64 ((wrap64 ((Int.tmod (wrap64 (x0 + 719468)) 146097) - (wrap64 ((wrap64 ((wrap64 (365 * (wrap64 (Int.tdiv (wrap64 ((wrap64 ((wrap64 ((Int.tmod (wrap64 (x0 + 719468)) 146097) - (wrap64 (Int.tdiv (Int.tmod (wrap64 (x0 + 719468)) 146097) 1460)))) + (wrap64 (Int.tdiv (Int.tmod (wrap64 (x0 + 719468)) 146097) 36524)))) - (wrap64 (Int.tdiv (Int.tmod (wrap64 (x0 + 719468)) 146097) 146096)))) 365)))) + (wrap64 (Int.tdiv (wrap64 (Int.tdiv (wrap64 ((wrap64 ((wrap64 ((Int.tmod (wrap64 (x0 + 719468)) 146097) - (wrap64 (Int.tdiv (Int.tmod (wrap64 (x0 + 719468)) 146097) 1460)))) + (wrap64 (Int.tdiv (Int.tmod (wrap64 (x0 + 719468)) 146097) 36524)))) - (wrap64 (Int.tdiv (Int.tmod (wrap64 (x0 + 719468)) 146097) 146096)))) 365)) 4)))) - (wrap64 (Int.tdiv (wrap64 (Int.tdiv (wrap64 ((wrap64 ((wrap64 ((Int.tmod (wrap64 (x0 + 719468)) 146097) - (wrap64 (Int.tdiv (Int.tmod (wrap64 (x0 + 719468)) 146097) 1460)))) + (wrap64 (Int.tdiv (Int.tmod (wrap64 (x0 + 719468)) 146097) 36524)))) - (wrap64 (Int.tdiv (Int.tmod (wrap64 (x0 + 719468)) 146097) 146096)))) 365)) 100)))))) - (wrap64 (Int.tdiv (wrap64 ((wrap64 (153 * (wrap64 (Int.tdiv (wrap64 ((wrap64 (5 * (wrap64 ((Int.tmod (wrap64 (x0 + 719468)) 146097) - (wrap64 ((wrap64 ((wrap64 (365 * (wrap64 (Int.tdiv (wrap64 ((wrap64 ((wrap64 ((Int.tmod (wrap64 (x0 + 719468)) 146097) - (wrap64 (Int.tdiv (Int.tmod (wrap64 (x0 + 719468)) 146097) 1460)))) + (wrap64 (Int.tdiv (Int.tmod (wrap64 (x0 + 719468)) 146097) 36524)))) - (wrap64 (Int.tdiv (Int.tmod (wrap64 (x0 + 719468)) 146097) 146096)))) 365)))) + (wrap64 (Int.tdiv (wrap64 (Int.tdiv (wrap64 ((wrap64 ((wrap64 ((Int.tmod (wrap64 (x0 + 719468)) 146097) - (wrap64 (Int.tdiv (Int.tmod (wrap64 (x0 + 719468)) 146097) 1460)))) + (wrap64 (Int.tdiv (Int.tmod (wrap64 (x0 + 719468)) 146097) 36524)))) - (wrap64 (Int.tdiv (Int.tmod (wrap64 (x0 + 719468)) 146097) 146096)))) 365)) 4)))) - (wrap64 (Int.tdiv (wrap64 (Int.tdiv (wrap64 ((wrap64 ((wrap64 ((Int.tmod (wrap64 (x0 + 719468)) 146097) - (wrap64 (Int.tdiv (Int.tmod (wrap64 (x0 + 719468)) 146097) 1460)))) + (wrap64 (Int.tdiv (Int.tmod (wrap64 (x0 + 719468)) 146097) 36524)))) - (wrap64 (Int.tdiv (Int.tmod (wrap64 (x0 + 719468)) 146097) 146096)))) 365)) 100)))))))) + 2)) 153)))) + 2)) 5)))) + 1))) else (some (wrap64 ((wrap64 (Int.tdiv (wrap64 ((wrap64 ((wrap64 ((Int.tmod (wrap64 (x0 + 719468)) 146097) - (wrap64 (Int.tdiv (Int.tmod (wrap64 (x0 + 719468)) 146097) 1460)))) + (wrap64 (Int.tdiv (Int.tmod (wrap64 (x0 + 719468)) 146097) 36524)))) - (wrap64 (Int.tdiv (Int.tmod (wrap64 (x0 + 719468)) 146097) 146096)))) 365)) + (wrap64 ((wrap64 (Int.tdiv (wrap64 (x0 + 719468)) 146097)) * 400))), wrap64 ((wrap64 (Int.tdiv (wrap64 ((wrap64 (5 * (wrap64 ((Int.tmod (wrap64 (x0 + 719468)) 146097) - (wrap64 ((wrap64 ((wrap64 (365 * (wrap64 (Int.tdiv (wrap64 ((wrap64 ((wrap64 ((Int.tmod (wrap64 (x0 + 719468)) 146097) - (wrap64 (Int.tdiv (Int.tmod (wrap64 (x0 + 719468)) 146097) 1460)))) + (wrap64 (Int.tdiv (Int.tmod (wrap64 (x0 + 719468)) 146097) 36524)))) - (wrap64 (Int.tdiv (Int.tmod (wrap64 (x0 + 719468)) 146097) 146096)))) 365)))) + (wrap64 (Int.tdiv (wrap64 (Int.tdiv (wrap64 ((wrap64 ((wrap64 ((Int.tmod (wrap64 (x0 + 719468)) 146097) - (wrap64 (Int.tdiv (Int.tmod (wrap64 (x0 + 719468)) 146097) 1460)))) + (wrap64 (Int.tdiv (Int.tmod (wrap64 (x0 + 719468)) 146097) 36524)))) - (wrap64 (Int.tdiv (Int.tmod (wrap64 (x0 + 719468)) 146097) 146096)))) 365)) 4)))) - (wrap64 (Int.tdiv (wrap64 (Int.tdiv (wrap64 ((wrap64 ((wrap64 ((Int.tmod (wrap64 (x0 + 719468)) 146097) - (wrap64 (Int.tdiv (Int.tmod (wrap64 (x0 + 719468)) 146097) 1460)))) + (wrap64 (Int.tdiv (Int.tmod (wrap64 (x0 + 719468)) 146097) 36524)))) - (wrap64 (Int.tdiv (Int.tmod (wrap64 (x0 + 719468)) 146097) 146096)))) 365)) 100)))))))) + 2)) 153)) + 3), wrap64 ((wrap64 ((wrap64 ((Int.tmod (wrap64 (x0 + 719468)) 146097) - (wrap64 ((wrap64 ((wrap64 (365 * (wrap64 (Int.tdiv (wrap64 ((wrap64 ((wrap64 ((Int.tmod (wrap64 (x0 + 719468)) 146097) - (wrap64 (Int.tdiv (Int.tmod (wrap64 (x0 + 719468)) 146097) 1460)))) + (wrap64 (Int.tdiv (Int.tmod (wrap64 (x0 + 719468)) 146097) 36524)))) - (wrap64 (Int.tdiv (Int.tmod (wrap64 (x0 + 719468)) 146097) 146096)))) 365)))) + (wrap64 (Int.tdiv (wrap64 (Int.tdiv (wrap64 ((wrap64 ((wrap64 ((Int.tmod (wrap64 (x0 + 719468)) 146097) - (wrap64 (Int.tdiv (Int.tmod (wrap64 (x0 + 719468)) 146097) 1460)))) + (wrap64 (Int.tdiv (Int.tmod (wrap64 (x0 + 719468)) 146097) 36524)))) - (wrap64 (Int.tdiv (Int.tmod (wrap64 (x0 + 719468)) 146097) 146096)))) 365)) 4)))) - (wrap64 (Int.tdiv (wrap64 (Int.tdiv (wrap64 ((wrap64 ((wrap64 ((Int.tmod (wrap64 (x0 + 719468)) 146097) - (wrap64 (Int.tdiv (Int.tmod (wrap64 (x0 + 719468)) 146097) 1460)))) + (wrap64 (Int.tdiv (Int.tmod (wrap64 (x0 + 719468)) 146097) 36524)))) - (wrap64 (Int.tdiv (Int.tmod (wrap64 (x0 + 719468)) 146097) 146096)))) 365)) 100)))))) - (wrap64 (Int.tdiv (wrap64 ((wrap64 (153 * (wrap64 (Int.tdiv (wrap64 ((wrap64 (5 * (wrap64 ((Int.tmod (wrap64 (x0 + 719468)) 146097) - (wrap64 ((wrap64 ((wrap64 (365 * (wrap64 (Int.tdiv (wrap64 ((wrap64 ((wrap64 ((Int.tmod (wrap64 (x0 + 719468)) 146097) - (wrap64 (Int.tdiv (Int.tmod (wrap64 (x0 + 719468)) 146097) 1460)))) + (wrap64 (Int.tdiv (Int.tmod (wrap64 (x0 + 719468)) 146097) 36524)))) - (wrap64 (Int.tdiv (Int.tmod (wrap64 (x0 + 719468)) 146097) 146096)))) 365)))) + (wrap64 (Int.tdiv (wrap64 (Int.tdiv (wrap64 ((wrap64 ((wrap64 ((Int.tmod (wrap64 (x0 + 719468)) 146097) - (wrap64 (Int.tdiv (Int.tmod (wrap64 (x0 + 719468)) 146097) 1460)))) + (wrap64 (Int.tdiv (Int.tmod (wrap64 (x0 + 719468)) 146097) 36524)))) - (wrap64 (Int.tdiv (Int.tmod (wrap64 (x0 + 719468)) 146097) 146096)))) 365)) 4)))) - (wrap64 (Int.tdiv (wrap64 (Int.tdiv (wrap64 ((wrap64 ((wrap64 ((Int.tmod (wrap64 (x0 + 719468)) 146097) - (wrap64 (Int.tdiv (Int.tmod (wrap64 (x0 + 719468)) 146097) 1460)))) + (wrap64 (Int.tdiv (Int.tmod (wrap64 (x0 + 719468)) 146097) 36524)))) - (wrap64 (Int.tdiv (Int.tmod (wrap64 (x0 + 719468)) 146097) 146096)))) 365)) 100)))))))) + 2)) 153)))) + 2)) 5)))) + 1))))
def date_Civil.f (k : Nat) (a0 : Int) : Option (Int × Int × Int) := if a0 < 0 then (date_Civil.j0 k a0 true) else (date_Civil.j0 k a0 (decide (a0 > 281474976710656)))
set_option maxHeartbeats 8000000 in
set_option maxRecDepth 100000 in
theorem date_Civil.calls (k : Nat) (a0 : Int) (r1 : Int) (r2 : Int) (r3 : Int) (w : World) (h : date_Civil.f k a0 = some (r1, r2, r3)) :
  Calls Tryz.prog 92 #[.int .i64 a0] w fun e w' => e = .returned (.tuple #[.int .i64 r1, .int .i64 r2, .int .i64 r3]) ∧ Drawn0 w w' := by
 have H : (if a0 < 0 then (date_Civil.j0 k a0 true) else (date_Civil.j0 k a0 (decide (a0 > 281474976710656)))) = some (r1, r2, r3) := h
 clear h
 have HC2 := Aside0.mk H
 clear H
 go_enter Tryz.func92, Tryz.ntmps92
 go_upto_region 1 with (fail)
 go_cut [15] (fun v15 wc => ∃ (kq : Nat) (x15_1 : Bool), v15 = .bool x15_1 ∧ Aside0 (date_Civil.j0 kq a0 x15_1 = some (r1, r2, r3)) ∧ Aside0 (kq ≤ k) ∧ Drawn0 w wc)
 case first =>
  have H := HC2.out
  clear HC2
  by_cases c3 : a0 < 0
  ·rw [if_pos c3] at H
   have c3b0 : decide (a0 < 0) = true := decide_eq_true c3
   clear c3
   (first | rw [c3b0] | (simp only [i64_w, i32_w]; rw [c3b0]) | skip)
   have H' := Aside0.mk H
   clear H
   go_wp2
   go_meet
   case rel => exact ⟨_, (true), (by first | rfl | (simp; done) | (simp [*]; done)), H', ⟨by first | omega | exact Nat.le_refl _⟩, by repeat (first | exact Drawn0.refl _ | apply Drawn0.step)⟩
  ·rw [if_neg c3] at H
   have c3b0 : decide (a0 < 0) = false := decide_eq_false c3
   clear c3
   (first | rw [c3b0] | (simp only [i64_w, i32_w]; rw [c3b0]) | skip)
   have H' := Aside0.mk H
   clear H
   go_wp2
   go_meet
   case rel => exact ⟨_, (decide (a0 > 281474976710656)), (by first | rfl | (simp; done) | (simp [*]; done)), H', ⟨by first | omega | exact Nat.le_refl _⟩, by repeat (first | exact Drawn0.refl _ | apply Drawn0.step)⟩
 case rest =>
  clear HC2
  try clear p2
  try clear c3
  try clear c3b0
  obtain ⟨kq, x15_1, rfl, HA, HJ1, ⟨mc1, rfl⟩⟩ := hcut
  cases kq with
  | zero => exact absurd HA.out (by simp [date_Civil.j0])
  | succ kj1 =>
   have H := HA.out
   clear HA
   simp only [date_Civil.j0] at H
   by_cases c4 : x15_1 = true
   ·subst c4
    have H1 : (some (0, 0, 0)) = some (r1, r2, r3) := by rw [if_pos rfl] at H; exact H
    clear H
    have H := H1
    clear H1
    simp only [Option.some.injEq, Prod.mk.injEq] at H
    obtain ⟨rfl, rfl, rfl⟩ := H
    go_wp2
    go_ret3
    exact ⟨by first | rfl | (simp; done) | (simp [*]; done), by repeat (first | exact Drawn0.refl _ | apply Drawn0.step)⟩
   ·replace c4 := Bool.eq_false_iff.mpr c4
    subst c4
    have H1 : (if (wrap64 ((wrap64 (Int.tdiv (wrap64 ((wrap64 (5 * (wrap64 ((Int.tmod (wrap64 (a0 + 719468)) 146097) - (wrap64 ((wrap64 ((wrap64 (365 * (wrap64 (Int.tdiv (wrap64 ((wrap64 ((wrap64 ((Int.tmod (wrap64 (a0 + 719468)) 146097) - (wrap64 (Int.tdiv (Int.tmod (wrap64 (a0 + 719468)) 146097) 1460)))) + (wrap64 (Int.tdiv (Int.tmod (wrap64 (a0 + 719468)) 146097) 36524)))) - (wrap64 (Int.tdiv (Int.tmod (wrap64 (a0 + 719468)) 146097) 146096)))) 365)))) + (wrap64 (Int.tdiv (wrap64 (Int.tdiv (wrap64 ((wrap64 ((wrap64 ((Int.tmod (wrap64 (a0 + 719468)) 146097) - (wrap64 (Int.tdiv (Int.tmod (wrap64 (a0 + 719468)) 146097) 1460)))) + (wrap64 (Int.tdiv (Int.tmod (wrap64 (a0 + 719468)) 146097) 36524)))) - (wrap64 (Int.tdiv (Int.tmod (wrap64 (a0 + 719468)) 146097) 146096)))) 365)) 4)))) - (wrap64 (Int.tdiv (wrap64 (Int.tdiv (wrap64 ((wrap64 ((wrap64 ((Int.tmod (wrap64 (a0 + 719468)) 146097) - (wrap64 (Int.tdiv (Int.tmod (wrap64 (a0 + 719468)) 146097) 1460)))) + (wrap64 (Int.tdiv (Int.tmod (wrap64 (a0 + 719468)) 146097) 36524)))) - (wrap64 (Int.tdiv (Int.tmod (wrap64 (a0 + 719468)) 146097) 146096)))) 365)) 100)))))))) + 2)) 153)) + 3)) > 12 then (some (wrap64 ((wrap64 ((wrap64 (Int.tdiv (wrap64 ((wrap64 ((wrap64 ((Int.tmod (wrap64 (a0 + 719468)) 146097) - (wrap64 (Int.tdiv (Int.tmod (wrap64 (a0 + 719468)) 146097) 1460)))) + (wrap64 (Int.tdiv (Int.tmod (wrap64 (a0 + 719468)) 146097) 36524)))) - (wrap64 (Int.tdiv (Int.tmod (wrap64 (a0 + 719468)) 146097) 146096)))) 365)) + (wrap64 ((wrap64 (Int.tdiv (wrap64 (a0 + 719468)) 146097)) * 400)))) + 1), wrap64 ((wrap64 ((wrap64 (Int.tdiv (wrap64 ((wrap64 (5 * (wrap64 ((Int.tmod (wrap64 (a0 + 719468)) 146097) - (wrap64 ((wrap64 ((wrap64 (365 * (wrap64 (Int.tdiv (wrap64 ((wrap64 ((wrap64 ((Int.tmod (wrap64 (a0 + 719468)) 146097) - (wrap64 (Int.tdiv (Int.tmod (wrap64 (a0 + 719468)) 146097) 1460)))) + (wrap64 (Int.tdiv (Int.tmod (wrap64 (a0 + 719468)) 146097) 36524)))) - (wrap64 (Int.tdiv (Int.tmod (wrap64 (a0 + 719468)) 146097) 146096)))) 365)))) + (wrap64 (Int.tdiv (wrap64 (Int.tdiv (wrap64 ((wrap64 ((wrap64 ((Int.tmod (wrap64 (a0 + 719468)) 146097) - (wrap64 (Int.tdiv (Int.tmod (wrap64 (a0 + 719468)) 146097) 1460)))) + (wrap64 (Int.tdiv (Int.tmod (wrap64 (a0 + 719468)) 146097) 36524)))) - (wrap64 (Int.tdiv (Int.tmod (wrap64 (a0 + 719468)) 146097) 146096)))) 365)) 4)))) - (wrap64 (Int.tdiv (wrap64 (Int.tdiv (wrap64 ((wrap64 ((wrap64 ((Int.tmod (wrap64 (a0 + 719468)) 146097) - (wrap64 (Int.tdiv (Int.tmod (wrap64 (a0 + 719468)) 146097) 1460)))) + (wrap64 (Int.tdiv (Int.tmod (wrap64 (a0 + 719468)) 146097) 36524)))) - (wrap64 (Int.tdiv (Int.tmod (wrap64 (a0 + 719468)) 146097) 146096)))) 365)) 100)))))))) + 2)) 153)) + 3)) - 12), wrap64 ((wrap64 ((wrap64 ((Int.tmod (wrap64 (a0 + 719468)) 146097) - (wrap64 ((wrap64 ((wrap64 (365 * (wrap64 (Int.tdiv (wrap64 ((wrap64 ((wrap64 ((Int.tmod (wrap64 (a0 + 719468)) 146097) - (wrap64 (Int.tdiv (Int.tmod (wrap64 (a0 + 719468)) 146097) 1460)))) + (wrap64 (Int.tdiv (Int.tmod (wrap64 (a0 + 719468)) 146097) 36524)))) - (wrap64 (Int.tdiv (Int.tmod (wrap64 (a0 + 719468)) 146097) 146096)))) 365)))) + (wrap64 (Int.tdiv (wrap64 (Int.tdiv (wrap64 ((wrap64 ((wrap64 ((Int.tmod (wrap64 (a0 + 719468)) 146097) - (wrap64 (Int.tdiv (Int.tmod (wrap64 (a0 + 719468)) 146097) 1460)))) + (wrap64 (Int.tdiv (Int.tmod (wrap64 (a0 + 719468)) 146097) 36524)))) - (wrap64 (Int.tdiv (Int.tmod (wrap64 (a0 + 719468)) 146097) 146096)))) 365)) 4)))) - (wrap64 (Int.tdiv (wrap64 (Int.tdiv (wrap64 ((wrap64 ((wrap64 ((Int.tmod (wrap64 (a0 + 719468)) 146097) - (wrap64 (Int.tdiv (Int.tmod (wrap64 (a0 + 719468)) 146097) 1460)))) + (wrap64 (Int.tdiv (Int.tmod (wrap64 (a0 + 719468)) 146097) 36524)))) - (wrap64 (Int.tdiv (Int.tmod (wrap64 (a0 + 719468)) 146097) 146096)))) 365)) 100)))))) - (wrap64 (Int.tdiv (wrap64 ((wrap64 (153 * (wrap64 (Int.tdiv (wrap64 ((wrap64 (5 * (wrap64 ((Int.tmod (wrap64 (a0 + 719468)) 146097) - (wrap64 ((wrap64 ((wrap64 (365 * (wrap64 (Int.tdiv (wrap64 ((wrap64 ((wrap64 ((Int.tmod (wrap64 (a0 + 719468)) 146097) - (wrap64 (Int.tdiv (Int.tmod (wrap64 (a0 + 719468)) 146097) 1460)))) + (wrap64 (Int.tdiv (Int.tmod (wrap64 (a0 + 719468)) 146097) 36524)))) - (wrap64 (Int.tdiv (Int.tmod (wrap64 (a0 + 719468)) 146097) 146096)))) 365)))) + (wrap64 (Int.tdiv (wrap64 (Int.tdiv (wrap64 ((wrap64 ((wrap64 ((Int.tmod (wrap64 (a0 + 719468)) 146097) - (wrap64 (Int.tdiv (Int.tmod (wrap64 (a0 + 719468)) 146097) 1460)))) + (wrap64 (Int.tdiv (Int.tmod (wrap64 (a0 + 719468)) 146097) 36524)))) - (wrap64 (Int.tdiv (Int.tmod (wrap64 (a0 + 719468)) 146097) 146096)))) 365)) 4)))) - (wrap64 (Int.tdiv (wrap64 (Int.tdiv (wrap64 ((wrap64 ((wrap64 ((Int.tmod (wrap64 (a0 + 719468)) 146097) - (wrap64 (Int.tdiv (Int.tmod (wrap64 (a0 + 719468)) 146097) 1460)))) + (wrap64 (Int.tdiv (Int.tmod (wrap64 (a0 + 719468)) 146097) 36524)))) - (wrap64 (Int.tdiv (Int.tmod (wrap64 (a0 + 719468)) 146097) 146096)))) 365)) 100)))))))) + 2)) 153)))) + 2)) 5)))) + 1))) else (some (wrap64 ((wrap64 (Int.tdiv (wrap64 ((wrap64 ((wrap64 ((Int.tmod (wrap64 (a0 + 719468)) 146097) - (wrap64 (Int.tdiv (Int.tmod (wrap64 (a0 + 719468)) 146097) 1460)))) + (wrap64 (Int.tdiv (Int.tmod (wrap64 (a0 + 719468)) 146097) 36524)))) - (wrap64 (Int.tdiv (Int.tmod (wrap64 (a0 + 719468)) 146097) 146096)))) 365)) + (wrap64 ((wrap64 (Int.tdiv (wrap64 (a0 + 719468)) 146097)) * 400))), wrap64 ((wrap64 (Int.tdiv (wrap64 ((wrap64 (5 * (wrap64 ((Int.tmod (wrap64 (a0 + 719468)) 146097) - (wrap64 ((wrap64 ((wrap64 (365 * (wrap64 (Int.tdiv (wrap64 ((wrap64 ((wrap64 ((Int.tmod (wrap64 (a0 + 719468)) 146097) - (wrap64 (Int.tdiv (Int.tmod (wrap64 (a0 + 719468)) 146097) 1460)))) + (wrap64 (Int.tdiv (Int.tmod (wrap64 (a0 + 719468)) 146097) 36524)))) - (wrap64 (Int.tdiv (Int.tmod (wrap64 (a0 + 719468)) 146097) 146096)))) 365)))) + (wrap64 (Int.tdiv (wrap64 (Int.tdiv (wrap64 ((wrap64 ((wrap64 ((Int.tmod (wrap64 (a0 + 719468)) 146097) - (wrap64 (Int.tdiv (Int.tmod (wrap64 (a0 + 719468)) 146097) 1460)))) + (wrap64 (Int.tdiv (Int.tmod (wrap64 (a0 + 719468)) 146097) 36524)))) - (wrap64 (Int.tdiv (Int.tmod (wrap64 (a0 + 719468)) 146097) 146096)))) 365)) 4)))) - (wrap64 (Int.tdiv (wrap64 (Int.tdiv (wrap64 ((wrap64 ((wrap64 ((Int.tmod (wrap64 (a0 + 719468)) 146097) - (wrap64 (Int.tdiv (Int.tmod (wrap64 (a0 + 719468)) 146097) 1460)))) + (wrap64 (Int.tdiv (Int.tmod (wrap64 (a0 + 719468)) 146097) 36524)))) - (wrap64 (Int.tdiv (Int.tmod (wrap64 (a0 + 719468)) 146097) 146096)))) 365)) 100)))))))) + 2)) 153)) + 3), wrap64 ((wrap64 ((wrap64 ((Int.tmod (wrap64 (a0 + 719468)) 146097) - (wrap64 ((wrap64 ((wrap64 (365 * (wrap64 (Int.tdiv (wrap64 ((wrap64 ((wrap64 ((Int.tmod (wrap64 (a0 + 719468)) 146097) - (wrap64 (Int.tdiv (Int.tmod (wrap64 (a0 + 719468)) 146097) 1460)))) + (wrap64 (Int.tdiv (Int.tmod (wrap64 (a0 + 719468)) 146097) 36524)))) - (wrap64 (Int.tdiv (Int.tmod (wrap64 (a0 + 719468)) 146097) 146096)))) 365)))) + (wrap64 (Int.tdiv (wrap64 (Int.tdiv (wrap64 ((wrap64 ((wrap64 ((Int.tmod (wrap64 (a0 + 719468)) 146097) - (wrap64 (Int.tdiv (Int.tmod (wrap64 (a0 + 719468)) 146097) 1460)))) + (wrap64 (Int.tdiv (Int.tmod (wrap64 (a0 + 719468)) 146097) 36524)))) - (wrap64 (Int.tdiv (Int.tmod (wrap64 (a0 + 719468)) 146097) 146096)))) 365)) 4)))) - (wrap64 (Int.tdiv (wrap64 (Int.tdiv (wrap64 ((wrap64 ((wrap64 ((Int.tmod (wrap64 (a0 + 719468)) 146097) - (wrap64 (Int.tdiv (Int.tmod (wrap64 (a0 + 719468)) 146097) 1460)))) + (wrap64 (Int.tdiv (Int.tmod (wrap64 (a0 + 719468)) 146097) 36524)))) - (wrap64 (Int.tdiv (Int.tmod (wrap64 (a0 + 719468)) 146097) 146096)))) 365)) 100)))))) - (wrap64 (Int.tdiv (wrap64 ((wrap64 (153 * (wrap64 (Int.tdiv (wrap64 ((wrap64 (5 * (wrap64 ((Int.tmod (wrap64 (a0 + 719468)) 146097) - (wrap64 ((wrap64 ((wrap64 (365 * (wrap64 (Int.tdiv (wrap64 ((wrap64 ((wrap64 ((Int.tmod (wrap64 (a0 + 719468)) 146097) - (wrap64 (Int.tdiv (Int.tmod (wrap64 (a0 + 719468)) 146097) 1460)))) + (wrap64 (Int.tdiv (Int.tmod (wrap64 (a0 + 719468)) 146097) 36524)))) - (wrap64 (Int.tdiv (Int.tmod (wrap64 (a0 + 719468)) 146097) 146096)))) 365)))) + (wrap64 (Int.tdiv (wrap64 (Int.tdiv (wrap64 ((wrap64 ((wrap64 ((Int.tmod (wrap64 (a0 + 719468)) 146097) - (wrap64 (Int.tdiv (Int.tmod (wrap64 (a0 + 719468)) 146097) 1460)))) + (wrap64 (Int.tdiv (Int.tmod (wrap64 (a0 + 719468)) 146097) 36524)))) - (wrap64 (Int.tdiv (Int.tmod (wrap64 (a0 + 719468)) 146097) 146096)))) 365)) 4)))) - (wrap64 (Int.tdiv (wrap64 (Int.tdiv (wrap64 ((wrap64 ((wrap64 ((Int.tmod (wrap64 (a0 + 719468)) 146097) - (wrap64 (Int.tdiv (Int.tmod (wrap64 (a0 + 719468)) 146097) 1460)))) + (wrap64 (Int.tdiv (Int.tmod (wrap64 (a0 + 719468)) 146097) 36524)))) - (wrap64 (Int.tdiv (Int.tmod (wrap64 (a0 + 719468)) 146097) 146096)))) 365)) 100)))))))) + 2)) 153)))) + 2)) 5)))) + 1)))) = some (r1, r2, r3) := by rw [if_neg (show ¬ (false = true) by decide)] at H; exact H
    clear H
    have H := H1
    clear H1
    by_cases c5 : (wrap64 ((wrap64 (Int.tdiv (wrap64 ((wrap64 (5 * (wrap64 ((Int.tmod (wrap64 (a0 + 719468)) 146097) - (wrap64 ((wrap64 ((wrap64 (365 * (wrap64 (Int.tdiv (wrap64 ((wrap64 ((wrap64 ((Int.tmod (wrap64 (a0 + 719468)) 146097) - (wrap64 (Int.tdiv (Int.tmod (wrap64 (a0 + 719468)) 146097) 1460)))) + (wrap64 (Int.tdiv (Int.tmod (wrap64 (a0 + 719468)) 146097) 36524)))) - (wrap64 (Int.tdiv (Int.tmod (wrap64 (a0 + 719468)) 146097) 146096)))) 365)))) + (wrap64 (Int.tdiv (wrap64 (Int.tdiv (wrap64 ((wrap64 ((wrap64 ((Int.tmod (wrap64 (a0 + 719468)) 146097) - (wrap64 (Int.tdiv (Int.tmod (wrap64 (a0 + 719468)) 146097) 1460)))) + (wrap64 (Int.tdiv (Int.tmod (wrap64 (a0 + 719468)) 146097) 36524)))) - (wrap64 (Int.tdiv (Int.tmod (wrap64 (a0 + 719468)) 146097) 146096)))) 365)) 4)))) - (wrap64 (Int.tdiv (wrap64 (Int.tdiv (wrap64 ((wrap64 ((wrap64 ((Int.tmod (wrap64 (a0 + 719468)) 146097) - (wrap64 (Int.tdiv (Int.tmod (wrap64 (a0 + 719468)) 146097) 1460)))) + (wrap64 (Int.tdiv (Int.tmod (wrap64 (a0 + 719468)) 146097) 36524)))) - (wrap64 (Int.tdiv (Int.tmod (wrap64 (a0 + 719468)) 146097) 146096)))) 365)) 100)))))))) + 2)) 153)) + 3)) > 12
    ·rw [if_pos c5] at H
     have c5b0 : decide (12 < (wrap64 ((wrap64 (Int.tdiv (wrap64 ((wrap64 (5 * (wrap64 ((Int.tmod (wrap64 (a0 + 719468)) 146097) - (wrap64 ((wrap64 ((wrap64 (365 * (wrap64 (Int.tdiv (wrap64 ((wrap64 ((wrap64 ((Int.tmod (wrap64 (a0 + 719468)) 146097) - (wrap64 (Int.tdiv (Int.tmod (wrap64 (a0 + 719468)) 146097) 1460)))) + (wrap64 (Int.tdiv (Int.tmod (wrap64 (a0 + 719468)) 146097) 36524)))) - (wrap64 (Int.tdiv (Int.tmod (wrap64 (a0 + 719468)) 146097) 146096)))) 365)))) + (wrap64 (Int.tdiv (wrap64 (Int.tdiv (wrap64 ((wrap64 ((wrap64 ((Int.tmod (wrap64 (a0 + 719468)) 146097) - (wrap64 (Int.tdiv (Int.tmod (wrap64 (a0 + 719468)) 146097) 1460)))) + (wrap64 (Int.tdiv (Int.tmod (wrap64 (a0 + 719468)) 146097) 36524)))) - (wrap64 (Int.tdiv (Int.tmod (wrap64 (a0 + 719468)) 146097) 146096)))) 365)) 4)))) - (wrap64 (Int.tdiv (wrap64 (Int.tdiv (wrap64 ((wrap64 ((wrap64 ((Int.tmod (wrap64 (a0 + 719468)) 146097) - (wrap64 (Int.tdiv (Int.tmod (wrap64 (a0 + 719468)) 146097) 1460)))) + (wrap64 (Int.tdiv (Int.tmod (wrap64 (a0 + 719468)) 146097) 36524)))) - (wrap64 (Int.tdiv (Int.tmod (wrap64 (a0 + 719468)) 146097) 146096)))) 365)) 100)))))))) + 2)) 153)) + 3))) = true := decide_eq_true c5
     clear c5
     simp only [Option.some.injEq, Prod.mk.injEq] at H
     obtain ⟨rfl, rfl, rfl⟩ := H
     go_wp2
     go_ret3
     exact ⟨by first | rfl | (simp; done) | (simp [*]; done), by repeat (first | exact Drawn0.refl _ | apply Drawn0.step)⟩
    ·rw [if_neg c5] at H
     have c5b0 : decide (12 < (wrap64 ((wrap64 (Int.tdiv (wrap64 ((wrap64 (5 * (wrap64 ((Int.tmod (wrap64 (a0 + 719468)) 146097) - (wrap64 ((wrap64 ((wrap64 (365 * (wrap64 (Int.tdiv (wrap64 ((wrap64 ((wrap64 ((Int.tmod (wrap64 (a0 + 719468)) 146097) - (wrap64 (Int.tdiv (Int.tmod (wrap64 (a0 + 719468)) 146097) 1460)))) + (wrap64 (Int.tdiv (Int.tmod (wrap64 (a0 + 719468)) 146097) 36524)))) - (wrap64 (Int.tdiv (Int.tmod (wrap64 (a0 + 719468)) 146097) 146096)))) 365)))) + (wrap64 (Int.tdiv (wrap64 (Int.tdiv (wrap64 ((wrap64 ((wrap64 ((Int.tmod (wrap64 (a0 + 719468)) 146097) - (wrap64 (Int.tdiv (Int.tmod (wrap64 (a0 + 719468)) 146097) 1460)))) + (wrap64 (Int.tdiv (Int.tmod (wrap64 (a0 + 719468)) 146097) 36524)))) - (wrap64 (Int.tdiv (Int.tmod (wrap64 (a0 + 719468)) 146097) 146096)))) 365)) 4)))) - (wrap64 (Int.tdiv (wrap64 (Int.tdiv (wrap64 ((wrap64 ((wrap64 ((Int.tmod (wrap64 (a0 + 719468)) 146097) - (wrap64 (Int.tdiv (Int.tmod (wrap64 (a0 + 719468)) 146097) 1460)))) + (wrap64 (Int.tdiv (Int.tmod (wrap64 (a0 + 719468)) 146097) 36524)))) - (wrap64 (Int.tdiv (Int.tmod (wrap64 (a0 + 719468)) 146097) 146096)))) 365)) 100)))))))) + 2)) 153)) + 3))) = false := decide_eq_false c5
     clear c5
     simp only [Option.some.injEq, Prod.mk.injEq] at H
     obtain ⟨rfl, rfl, rfl⟩ := H
     go_wp2
     go_ret3
     exact ⟨by first | rfl | (simp; done) | (simp [*]; done), by repeat (first | exact Drawn0.refl _ | apply Drawn0.step)⟩
def date_Bucket.f (k : Nat) (a0 : Int) (a1 : Int) : Option (Int) := (date_Civil.f k (wrap64 (IntKind.u64.wrap (Int.tdiv a1 86400)))).bind fun bt122 => (if a0 = 0 then (some (wrap64 (IntKind.u64.wrap (Int.tdiv a1 86400)))) else (if a0 = 1 then (some (wrap64 (Int.tdiv (wrap64 ((wrap64 (IntKind.u64.wrap (Int.tdiv a1 86400))) + 3)) 7))) else (if a0 = 2 then (some (wrap64 ((wrap64 ((wrap64 (12 * bt122.1)) + bt122.2.1)) - 1))) else (if a0 = 3 then (some bt122.1) else (some 0)))))
set_option maxHeartbeats 8000000 in
set_option maxRecDepth 100000 in
theorem date_Bucket.calls (k : Nat) (a0 : Int) (a1 : Int) (r : Int) (w : World) (h : date_Bucket.f k a0 a1 = some r) :
  Calls Tryz.prog 65 #[.int .i64 a0, .int .u64 a1] w fun e w' => e = .returned (.int .i64 r) ∧ Drawn0 w w' := by
 have H : ((date_Civil.f k (wrap64 (IntKind.u64.wrap (Int.tdiv a1 86400)))).bind fun bt122 => (if a0 = 0 then (some (wrap64 (IntKind.u64.wrap (Int.tdiv a1 86400)))) else (if a0 = 1 then (some (wrap64 (Int.tdiv (wrap64 ((wrap64 (IntKind.u64.wrap (Int.tdiv a1 86400))) + 3)) 7))) else (if a0 = 2 then (some (wrap64 ((wrap64 ((wrap64 (12 * bt122.1)) + bt122.2.1)) - 1))) else (if a0 = 3 then (some bt122.1) else (some 0)))))) = some r := h
 clear h
 replace H := Option.bind_eq_some_iff.mp H
 obtain ⟨⟨t122, t123, t124⟩, A30, H⟩ := H
 replace H : (if a0 = 0 then (some (wrap64 (IntKind.u64.wrap (Int.tdiv a1 86400)))) else (if a0 = 1 then (some (wrap64 (Int.tdiv (wrap64 ((wrap64 (IntKind.u64.wrap (Int.tdiv a1 86400))) + 3)) 7))) else (if a0 = 2 then (some (wrap64 ((wrap64 ((wrap64 (12 * t122)) + t123)) - 1))) else (if a0 = 3 then (some t122) else (some 0))))) = some r := H
 have A3 := Aside0.mk A30
 clear A30
 by_cases c4 : a0 = 0
 ·rw [if_pos c4] at H
  have c4b0 : (a0 == 0) = true := beq_iff_eq.mpr c4
  have c4b1 : (a0 != 0) = false := bne_eq_false_iff_eq.mpr c4
  clear c4
  obtain rfl := Option.some.inj H
  go_enter Tryz.func65, Tryz.ntmps65
  go_wp2_with (first | ((with_reducible refine gate_callee (f := 92) rfl ?_); refine goesL_ (some 14) rfl rfl Tryz.func92 (by kernel_rfl) rfl #[.int .i64 (wrap64 (IntKind.u64.wrap (Int.tdiv a1 86400)))] rfl argA ?_; (with_reducible refine (date_Civil.calls k (wrap64 (IntKind.u64.wrap (Int.tdiv a1 86400))) t122 t123 t124 _ A3.out).mono ?_); rintro e w' ⟨rfl, ⟨nd, rfl⟩⟩; refine ⟨_, rfl, ?_⟩))
  go_ret
  exact ⟨by first | rfl | (simp; done) | (simp [*]; done), by repeat (first | exact Drawn0.refl _ | apply Drawn0.step)⟩
 ·rw [if_neg c4] at H
  have c4b0 : (a0 == 0) = false := beq_eq_false_iff_ne.mpr c4
  have c4b1 : (a0 != 0) = true := bne_iff_ne.mpr c4
  by_cases c5 : a0 = 1
  ·rw [if_pos c5] at H
   have c5b0 : (a0 == 1) = true := beq_iff_eq.mpr c5
   have c5b1 : (a0 != 1) = false := bne_eq_false_iff_eq.mpr c5
   clear c5
   obtain rfl := Option.some.inj H
   go_enter Tryz.func65, Tryz.ntmps65
   go_wp2_with (first | ((with_reducible refine gate_callee (f := 92) rfl ?_); refine goesL_ (some 14) rfl rfl Tryz.func92 (by kernel_rfl) rfl #[.int .i64 (wrap64 (IntKind.u64.wrap (Int.tdiv a1 86400)))] rfl argA ?_; (with_reducible refine (date_Civil.calls k (wrap64 (IntKind.u64.wrap (Int.tdiv a1 86400))) t122 t123 t124 _ A3.out).mono ?_); rintro e w' ⟨rfl, ⟨nd, rfl⟩⟩; refine ⟨_, rfl, ?_⟩))
   go_ret
   exact ⟨by first | rfl | (simp; done) | (simp [*]; done), by repeat (first | exact Drawn0.refl _ | apply Drawn0.step)⟩
  ·rw [if_neg c5] at H
   have c5b0 : (a0 == 1) = false := beq_eq_false_iff_ne.mpr c5
   have c5b1 : (a0 != 1) = true := bne_iff_ne.mpr c5
   by_cases c6 : a0 = 2
   ·rw [if_pos c6] at H
    have c6b0 : (a0 == 2) = true := beq_iff_eq.mpr c6
    have c6b1 : (a0 != 2) = false := bne_eq_false_iff_eq.mpr c6
    clear c6
    obtain rfl := Option.some.inj H
    go_enter Tryz.func65, Tryz.ntmps65
    go_wp2_with (first | ((with_reducible refine gate_callee (f := 92) rfl ?_); refine goesL_ (some 14) rfl rfl Tryz.func92 (by kernel_rfl) rfl #[.int .i64 (wrap64 (IntKind.u64.wrap (Int.tdiv a1 86400)))] rfl argA ?_; (with_reducible refine (date_Civil.calls k (wrap64 (IntKind.u64.wrap (Int.tdiv a1 86400))) t122 t123 t124 _ A3.out).mono ?_); rintro e w' ⟨rfl, ⟨nd, rfl⟩⟩; refine ⟨_, rfl, ?_⟩))
    go_ret
    exact ⟨by first | rfl | (simp; done) | (simp [*]; done), by repeat (first | exact Drawn0.refl _ | apply Drawn0.step)⟩
   ·rw [if_neg c6] at H
    have c6b0 : (a0 == 2) = false := beq_eq_false_iff_ne.mpr c6
    have c6b1 : (a0 != 2) = true := bne_iff_ne.mpr c6
    by_cases c7 : a0 = 3
    ·rw [if_pos c7] at H
     have c7b0 : (a0 == 3) = true := beq_iff_eq.mpr c7
     have c7b1 : (a0 != 3) = false := bne_eq_false_iff_eq.mpr c7
     clear c7
     obtain rfl := Option.some.inj H
     go_enter Tryz.func65, Tryz.ntmps65
     go_wp2_with (first | ((with_reducible refine gate_callee (f := 92) rfl ?_); refine goesL_ (some 14) rfl rfl Tryz.func92 (by kernel_rfl) rfl #[.int .i64 (wrap64 (IntKind.u64.wrap (Int.tdiv a1 86400)))] rfl argA ?_; (with_reducible refine (date_Civil.calls k (wrap64 (IntKind.u64.wrap (Int.tdiv a1 86400))) t122 t123 t124 _ A3.out).mono ?_); rintro e w' ⟨rfl, ⟨nd, rfl⟩⟩; refine ⟨_, rfl, ?_⟩))
     go_ret
     exact ⟨by first | rfl | (simp; done) | (simp [*]; done), by repeat (first | exact Drawn0.refl _ | apply Drawn0.step)⟩
    ·rw [if_neg c7] at H
     have c7b0 : (a0 == 3) = false := beq_eq_false_iff_ne.mpr c7
     have c7b1 : (a0 != 3) = true := bne_iff_ne.mpr c7
     obtain rfl := Option.some.inj H
     go_enter Tryz.func65, Tryz.ntmps65
     go_wp2_with (first | ((with_reducible refine gate_callee (f := 92) rfl ?_); refine goesL_ (some 14) rfl rfl Tryz.func92 (by kernel_rfl) rfl #[.int .i64 (wrap64 (IntKind.u64.wrap (Int.tdiv a1 86400)))] rfl argA ?_; (with_reducible refine (date_Civil.calls k (wrap64 (IntKind.u64.wrap (Int.tdiv a1 86400))) t122 t123 t124 _ A3.out).mono ?_); rintro e w' ⟨rfl, ⟨nd, rfl⟩⟩; refine ⟨_, rfl, ?_⟩))
     go_ret
     exact ⟨by first | rfl | (simp; done) | (simp [*]; done), by repeat (first | exact Drawn0.refl _ | apply Drawn0.step)⟩
end Go.Proofs.YtfdlbnfjohpdlaaGreatDoor.PPo
namespace Go.Proofs.YtfdlbnfjohpdlaaGreatDoor.PPo
open Go.RowKit Go.Proofs.YtfdlbnfjohpdlaaGreatDoorW.PrintWords Go.Proofs.YtfdlbnfjohpdlaaGreatDoorW.PrintLast Go.Proofs.YtfdlbnfjohpdlaaGreatDoorW.PrintMore
attribute [local go_sem] max2_int min2_int max_two min_two max_three min_three max_four min_four   -- for this text's walks alone
attribute [local go_sem high] hw_str_leq hw_str_gtr
set_option linter.unusedVariables false
set_option linter.unusedSimpArgs false
mutual
def policy_latest.l0 : Nat → Int → Int → List Int → Int → List (S31) → Int → Int → Option (List Int)
 | 0, _, _, _, _, _, _, _ => none
 | k + 1, x1, x2, x7, x8, x12, x13, x14 => if x14 < x13 then (if 0 ≤ x14 then (if x14 < (x12.length : Int) then ((date_Bucket.f k x1 ((rd_T31 x12 x14).f3)).bind fun t127 => (if x14 > 0 then (policy_latest.j1 k x1 x2 x7 x8 t127 x12 x13 x14 (t127 == x8) ((rd_T31 x12 x14).f0) ((rd_T31 x12 x14).f1) ((rd_T31 x12 x14).f2) ((rd_T31 x12 x14).f3) ((rd_T31 x12 x14).f4) ((rd_T31 x12 x14).f5)) else (policy_latest.j1 k x1 x2 x7 x8 t127 x12 x13 x14 false ((rd_T31 x12 x14).f0) ((rd_T31 x12 x14).f1) ((rd_T31 x12 x14).f2) ((rd_T31 x12 x14).f3) ((rd_T31 x12 x14).f4) ((rd_T31 x12 x14).f5)))) else (none)) else (none)) else (some x7)
def policy_latest.j1 : Nat → Int → Int → List Int → Int → Int → List (S31) → Int → Int → Bool → Int → Int → ByteArray → Int → Bool → Bool → Option (List Int)
 | 0, _, _, _, _, _, _, _, _, _, _, _, _, _, _, _ => none
 | k + 1, x1, x2, x7, x8, x11, x12, x13, x14, x29, x127000, x127001, x127002, x127003, x127004, x127005 => if x29 = true then (policy_latest.l0 k x1 x2 x7 x8 x12 x13 (wrap64 (x14 + 1))) else (if (x7.length : Int) < x2 then (if x7.length < 17592186044416 then (policy_latest.l0 k x1 x2 (x7 ++ [x127000]) x11 x12 x13 (wrap64 (x14 + 1))) else (none)) else (policy_latest.l0 k x1 x2 x7 x11 x12 x13 (wrap64 (x14 + 1))))
end
def policy_latest.f (k : Nat) (l0 : List (S31)) (a1 : Int) (a2 : Int) : Option (List Int) := policy_latest.l0 k a1 a2 ([] : List Int) 0 l0 (l0.length : Int) 0
set_option maxHeartbeats 8000000 in
set_option maxRecDepth 100000 in
theorem policy_latest.calls (k : Nat) (A0 : Option Addr) (c0 : Nat) (l0 : List (S31)) (a1 : Int) (a2 : Int) (r : List Int) (w : World) (hr0 : Kd.C k31 w A0 l0.length l0) (hc0 : l0.length ≤ c0) (h : policy_latest.f k l0 a1 a2 = some r) :
  Calls Tryz.prog 39 #[.slice A0 l0.length c0, .int .i64 a1, .int .i64 a2] w fun e w' => ∃ v0_ : Value, e = .returned (v0_) ∧ Kd.R (Kd.int .i64) 3 w' w.heap.size (fun _ => True) v0_ r ∧ Below w.heap.size w w' := by
 have hu31 := Tryz.underlying31
 have HR0 := Aside0.mk hr0
 have HC0 := Aside0.mk hc0
 clear hr0 hc0
 have HB := Aside0.mk (Below.refl w.heap.size w)
 have H : (policy_latest.l0 k a1 a2 ([] : List Int) 0 l0 (l0.length : Int) 0) = some r := h
 clear h
 have H' := Aside0.mk H
 clear H
 go_enter Tryz.func39, Tryz.ntmps39
 go_wp2
 go_loopg [7, 8, 14] k (fun kq v7 v8 v14 w' => ∃ (x7_1 : List Int) (x8_1 : Int) (x14_1 : Int), v8 = .int .i64 x8_1 ∧ v14 = .int .i64 x14_1 ∧ Aside0 (policy_latest.l0 kq a1 a2 x7_1 x8_1 l0 (l0.length : Int) x14_1 = some r) ∧ Aside0 (kq ≤ k) ∧ Aside0 (Kd.R (Kd.int .i64) 3 w' w.heap.size (fun _ => True) v7 x7_1) ∧ Aside0 (Below w.heap.size w w'))
 case atStart => exact ⟨(([] : List Int)), (0), (0), (by first | rfl | (simp; done) | (simp [*]; done)), (by first | rfl | (simp; done) | (simp [*]; done)), H', ⟨Nat.le_refl _⟩, ⟨by first | exact Kd.R_nil _ _ _ _ _ | exact Kd.N_nil _ _ _ _ _ | exact Kd.V_nil _ _ _ _ _ | exact Kd.Q_nil _ _ _ _ _ | exact Kd.S_nil _ _ _ _ _⟩, ⟨by repeat (first | (with_reducible first | exact HB.out | apply below_alloc | apply pw_below_drewN | apply below_drew1) | exact HB.out)⟩⟩
 case round =>
  clear H'
  try clear p2
  try clear c3
  obtain ⟨x7_1, x8_1, x14_1, rfl, rfl, HA, HK1, HO_7, HB⟩ := hrel
  cases gk with
  | zero => exact absurd HA.out (by simp [policy_latest.l0])
  | succ k1 =>
   have H := HA.out
   clear HA
   simp only [policy_latest.l0] at H
   by_cases c4 : x14_1 < (l0.length : Int)
   ·rw [if_pos c4] at H
    have c4b0 : decide (x14_1 < (l0.length : Int)) = true := decide_eq_true c4
    clear c4
    by_cases c5 : 0 ≤ x14_1
    ·rw [if_pos c5] at H
     have c5b0 : decide (0 ≤ x14_1) = true := decide_eq_true c5
     clear c5
     by_cases c6 : x14_1 < (l0.length : Int)
     ·rw [if_pos c6] at H
      have c6b0 : decide (x14_1 < (l0.length : Int)) = true := decide_eq_true c6
      clear c6
      replace H := Option.bind_eq_some_iff.mp H
      obtain ⟨t127, A70, H⟩ := H
      replace H : (if x14_1 > 0 then (policy_latest.j1 k1 a1 a2 x7_1 x8_1 t127 l0 (l0.length : Int) x14_1 (t127 == x8_1) ((rd_T31 l0 x14_1).f0) ((rd_T31 l0 x14_1).f1) ((rd_T31 l0 x14_1).f2) ((rd_T31 l0 x14_1).f3) ((rd_T31 l0 x14_1).f4) ((rd_T31 l0 x14_1).f5)) else (policy_latest.j1 k1 a1 a2 x7_1 x8_1 t127 l0 (l0.length : Int) x14_1 false ((rd_T31 l0 x14_1).f0) ((rd_T31 l0 x14_1).f1) ((rd_T31 l0 x14_1).f2) ((rd_T31 l0 x14_1).f3) ((rd_T31 l0 x14_1).f4) ((rd_T31 l0 x14_1).f5))) = some r := H
      have A7 := Aside0.mk A70
      clear A70
      have HC8 := Aside0.mk H
      clear H
      have p125 : 0 ≤ (x14_1 : Int) := of_decide_eq_true asA
      have q125 : x14_1 < (l0.length : Int) := of_decide_eq_true asA
      obtain ⟨ad125, e125, hx125_0, hx125_1, hx125_2, hx125_3, hx125_4, hx125_5⟩ := at_T31 HR0.out x14_1 p125 q125
      cases e125
      replace hx125_0 := (HB.out.cell (World.block_lt_of_cell? w _ hx125_0)).trans hx125_0
      replace hx125_1 := (HB.out.cell (World.block_lt_of_cell? w _ hx125_1)).trans hx125_1
      replace hx125_2 := (HB.out.cell (World.block_lt_of_cell? w _ hx125_2)).trans hx125_2
      replace hx125_3 := (HB.out.cell (World.block_lt_of_cell? w _ hx125_3)).trans hx125_3
      replace hx125_4 := (HB.out.cell (World.block_lt_of_cell? w _ hx125_4)).trans hx125_4
      replace hx125_5 := (HB.out.cell (World.block_lt_of_cell? w _ hx125_5)).trans hx125_5
      replace p125 := eq_true p125
      replace q125 := eq_true q125
      go_upto_region 7 with (first | ((with_reducible refine gate_dst (N := 10) rfl ?_); refine box_event ?hg (N := 10) ?hd (cs := #[.int .i64 0, .int .i64 0, .string (⟨#[]⟩ : ByteArray), .int .u64 0, .bool false, .bool false]) (t := 31) ?hr ?_; (case hd => rfl); (case hg => rfl); (case hr => first | (go_simp; done) | (go_simp; rfl)); intro gb126 hg w9 hbox hb; have n0_ := Aside0.mk (Kd.R_below (kdR_ HO_7.out) hb); have n1_ := Aside0.mk (below_step belA hb); have n2_ := Aside0.mk (hbox); have n3_ := Aside0.mk ((by rw [hg]; exact (below_size belA) : w.heap.size ≤ gb126)); have n4_ := Aside0.mk ((by rw [hg]; exact (below_size belA) : w.heap.size ≤ gb126)); clear HO_7; clear HB; have HO_7 := n0_; have HB := n1_; have BK126 := n2_; have GW126 := n3_; have GE126 := n4_; clear n0_ n1_ n2_ n3_ n4_; clear hb hbox hg; have hcz10_0 : w9.cell? ⟨gb126, 0, none⟩ = some (.int .i64 0) := (blk_cell BK126.out 0).trans rfl; have hcz10_1 : w9.cell? ⟨gb126, 1, none⟩ = some (.int .i64 0) := (blk_cell BK126.out 1).trans rfl; have hcz10_2 : w9.cell? ⟨gb126, 2, none⟩ = some (.string (⟨#[]⟩ : ByteArray)) := (blk_cell BK126.out 2).trans rfl; have hcz10_3 : w9.cell? ⟨gb126, 3, none⟩ = some (.int .u64 0) := (blk_cell BK126.out 3).trans rfl; have hcz10_4 : w9.cell? ⟨gb126, 4, none⟩ = some (.bool false) := (blk_cell BK126.out 4).trans rfl; have hcz10_5 : w9.cell? ⟨gb126, 5, none⟩ = some (.bool false) := (blk_cell BK126.out 5).trans rfl; have hfz10_0 := blk_frozen BK126.out 0; have hfz10_1 := blk_frozen BK126.out 1; have hfz10_2 := blk_frozen BK126.out 2; have hfz10_3 := blk_frozen BK126.out 3; have hfz10_4 := blk_frozen BK126.out 4; have hfz10_5 := blk_frozen BK126.out 5) | ((with_reducible refine gate_callee (f := 65) rfl ?_); refine goesL_ (some 22) rfl rfl Tryz.func65 (by kernel_rfl) rfl #[.int .i64 a1, .int .u64 ((rd_T31 l0 x14_1).f3)] rfl argA ?_; (with_reducible refine (date_Bucket.calls k1 a1 ((rd_T31 l0 x14_1).f3) t127 _ A7.out).mono ?_); rintro e w' ⟨rfl, ⟨nd, rfl⟩⟩; refine ⟨_, rfl, ?_⟩))
      (try simp only [Act.put, List.setIfInBounds_toArray, List.set_cons_zero, List.set_cons_succ])
      go_cut [29] (fun v29 wc => ∃ (kq : Nat) (x29_7 : Bool), v29 = .bool x29_7 ∧ Aside0 (policy_latest.j1 kq a1 a2 x7_1 x8_1 t127 l0 (l0.length : Int) x14_1 x29_7 ((rd_T31 l0 x14_1).f0) ((rd_T31 l0 x14_1).f1) ((rd_T31 l0 x14_1).f2) ((rd_T31 l0 x14_1).f3) ((rd_T31 l0 x14_1).f4) ((rd_T31 l0 x14_1).f5) = some r) ∧ Aside0 (kq ≤ k1) ∧ Aside0 (Kd.R (Kd.int .i64) 3 wc w.heap.size (fun _ => True) u7 x7_1) ∧ Aside0 (wc.heap[gb126]? = some (.cells #[.int .i64 ((rd_T31 l0 x14_1).f0), .int .i64 ((rd_T31 l0 x14_1).f1), .string ((rd_T31 l0 x14_1).f2), .int .u64 ((rd_T31 l0 x14_1).f3), .bool ((rd_T31 l0 x14_1).f4), .bool ((rd_T31 l0 x14_1).f5)] 31 (0, 0))) ∧ Aside0 (Below w.heap.size w wc))
      case first =>
       have H := HC8.out
       clear HC8
       by_cases c11 : x14_1 > 0
       ·rw [if_pos c11] at H
        have c11b0 : decide (0 < x14_1) = true := decide_eq_true c11
        clear c11
        (first | rw [c11b0] | (simp only [i64_w, i32_w]; rw [c11b0]) | skip)
        have H' := Aside0.mk H
        clear H
        go_wp2
        go_meet
        case rel => exact ⟨_, ((t127 == x8_1)), (by first | rfl | (simp; done) | (simp [*]; done)), H', ⟨by have := HK1.out; first | omega | exact Nat.le_refl _⟩, ⟨by (with_reducible repeat (first | apply Kd.R_alloc | apply Kd.R_drewN | apply Kd.R_drew)); exact Kd.R_mono (Kd.R_far (p := ⟨gb126, 5, none⟩) (Kd.R_far (p := ⟨gb126, 4, none⟩) (Kd.R_far (p := ⟨gb126, 3, none⟩) (Kd.R_far (p := ⟨gb126, 2, none⟩) (Kd.R_far (p := ⟨gb126, 1, none⟩) (Kd.R_far (p := ⟨gb126, 0, none⟩) (Kd.R_types HO_7.out BK126.out (by decide)) (fun _ hk => hk.2) (.int .i64 ((rd_T31 l0 x14_1).f0))) (fun _ hk => hk.2) (.int .i64 ((rd_T31 l0 x14_1).f1))) (fun _ hk => hk.2) (.string ((rd_T31 l0 x14_1).f2))) (fun _ hk => hk.2) (.int .u64 ((rd_T31 l0 x14_1).f3))) (fun _ hk => hk.2) (.bool ((rd_T31 l0 x14_1).f4))) (fun _ hk => hk.2) (.bool ((rd_T31 l0 x14_1).f5))) (fun _ hk => trivial)⟩, ⟨by (with_reducible repeat (first | refine blk_drewN ?_ _ | refine blk_drew ?_ | refine blk_alloc ?_ _)); refine blk_put (cs := #[.int .i64 ((rd_T31 l0 x14_1).f0), .int .i64 ((rd_T31 l0 x14_1).f1), .string ((rd_T31 l0 x14_1).f2), .int .u64 ((rd_T31 l0 x14_1).f3), .bool ((rd_T31 l0 x14_1).f4), .bool false]) ?_ 5 _ rfl; (with_reducible repeat (first | refine blk_drewN ?_ _ | refine blk_drew ?_ | refine blk_alloc ?_ _)); refine blk_put (cs := #[.int .i64 ((rd_T31 l0 x14_1).f0), .int .i64 ((rd_T31 l0 x14_1).f1), .string ((rd_T31 l0 x14_1).f2), .int .u64 ((rd_T31 l0 x14_1).f3), .bool false, .bool false]) ?_ 4 _ rfl; (with_reducible repeat (first | refine blk_drewN ?_ _ | refine blk_drew ?_ | refine blk_alloc ?_ _)); refine blk_put (cs := #[.int .i64 ((rd_T31 l0 x14_1).f0), .int .i64 ((rd_T31 l0 x14_1).f1), .string ((rd_T31 l0 x14_1).f2), .int .u64 0, .bool false, .bool false]) ?_ 3 _ rfl; (with_reducible repeat (first | refine blk_drewN ?_ _ | refine blk_drew ?_ | refine blk_alloc ?_ _)); refine blk_put (cs := #[.int .i64 ((rd_T31 l0 x14_1).f0), .int .i64 ((rd_T31 l0 x14_1).f1), .string (⟨#[]⟩ : ByteArray), .int .u64 0, .bool false, .bool false]) ?_ 2 _ rfl; (with_reducible repeat (first | refine blk_drewN ?_ _ | refine blk_drew ?_ | refine blk_alloc ?_ _)); refine blk_put (cs := #[.int .i64 ((rd_T31 l0 x14_1).f0), .int .i64 0, .string (⟨#[]⟩ : ByteArray), .int .u64 0, .bool false, .bool false]) ?_ 1 _ rfl; (with_reducible repeat (first | refine blk_drewN ?_ _ | refine blk_drew ?_ | refine blk_alloc ?_ _)); refine blk_put (cs := #[.int .i64 0, .int .i64 0, .string (⟨#[]⟩ : ByteArray), .int .u64 0, .bool false, .bool false]) ?_ 0 _ rfl; (with_reducible repeat (first | refine blk_drewN ?_ _ | refine blk_drew ?_ | refine blk_alloc ?_ _)); exact BK126.out⟩, ⟨by repeat (first | (with_reducible first | exact HB.out | apply below_alloc | apply pw_below_drewN | apply below_drew1 | refine below_set ?_ GE126.out) | exact HB.out)⟩⟩
       ·rw [if_neg c11] at H
        have c11b0 : decide (0 < x14_1) = false := decide_eq_false c11
        clear c11
        (first | rw [c11b0] | (simp only [i64_w, i32_w]; rw [c11b0]) | skip)
        have H' := Aside0.mk H
        clear H
        go_wp2
        go_meet
        case rel => exact ⟨_, (false), (by first | rfl | (simp; done) | (simp [*]; done)), H', ⟨by have := HK1.out; first | omega | exact Nat.le_refl _⟩, ⟨by (with_reducible repeat (first | apply Kd.R_alloc | apply Kd.R_drewN | apply Kd.R_drew)); exact Kd.R_mono (Kd.R_far (p := ⟨gb126, 5, none⟩) (Kd.R_far (p := ⟨gb126, 4, none⟩) (Kd.R_far (p := ⟨gb126, 3, none⟩) (Kd.R_far (p := ⟨gb126, 2, none⟩) (Kd.R_far (p := ⟨gb126, 1, none⟩) (Kd.R_far (p := ⟨gb126, 0, none⟩) (Kd.R_types HO_7.out BK126.out (by decide)) (fun _ hk => hk.2) (.int .i64 ((rd_T31 l0 x14_1).f0))) (fun _ hk => hk.2) (.int .i64 ((rd_T31 l0 x14_1).f1))) (fun _ hk => hk.2) (.string ((rd_T31 l0 x14_1).f2))) (fun _ hk => hk.2) (.int .u64 ((rd_T31 l0 x14_1).f3))) (fun _ hk => hk.2) (.bool ((rd_T31 l0 x14_1).f4))) (fun _ hk => hk.2) (.bool ((rd_T31 l0 x14_1).f5))) (fun _ hk => trivial)⟩, ⟨by (with_reducible repeat (first | refine blk_drewN ?_ _ | refine blk_drew ?_ | refine blk_alloc ?_ _)); refine blk_put (cs := #[.int .i64 ((rd_T31 l0 x14_1).f0), .int .i64 ((rd_T31 l0 x14_1).f1), .string ((rd_T31 l0 x14_1).f2), .int .u64 ((rd_T31 l0 x14_1).f3), .bool ((rd_T31 l0 x14_1).f4), .bool false]) ?_ 5 _ rfl; (with_reducible repeat (first | refine blk_drewN ?_ _ | refine blk_drew ?_ | refine blk_alloc ?_ _)); refine blk_put (cs := #[.int .i64 ((rd_T31 l0 x14_1).f0), .int .i64 ((rd_T31 l0 x14_1).f1), .string ((rd_T31 l0 x14_1).f2), .int .u64 ((rd_T31 l0 x14_1).f3), .bool false, .bool false]) ?_ 4 _ rfl; (with_reducible repeat (first | refine blk_drewN ?_ _ | refine blk_drew ?_ | refine blk_alloc ?_ _)); refine blk_put (cs := #[.int .i64 ((rd_T31 l0 x14_1).f0), .int .i64 ((rd_T31 l0 x14_1).f1), .string ((rd_T31 l0 x14_1).f2), .int .u64 0, .bool false, .bool false]) ?_ 3 _ rfl; (with_reducible repeat (first | refine blk_drewN ?_ _ | refine blk_drew ?_ | refine blk_alloc ?_ _)); refine blk_put (cs := #[.int .i64 ((rd_T31 l0 x14_1).f0), .int .i64 ((rd_T31 l0 x14_1).f1), .string (⟨#[]⟩ : ByteArray), .int .u64 0, .bool false, .bool false]) ?_ 2 _ rfl; (with_reducible repeat (first | refine blk_drewN ?_ _ | refine blk_drew ?_ | refine blk_alloc ?_ _)); refine blk_put (cs := #[.int .i64 ((rd_T31 l0 x14_1).f0), .int .i64 0, .string (⟨#[]⟩ : ByteArray), .int .u64 0, .bool false, .bool false]) ?_ 1 _ rfl; (with_reducible repeat (first | refine blk_drewN ?_ _ | refine blk_drew ?_ | refine blk_alloc ?_ _)); refine blk_put (cs := #[.int .i64 0, .int .i64 0, .string (⟨#[]⟩ : ByteArray), .int .u64 0, .bool false, .bool false]) ?_ 0 _ rfl; (with_reducible repeat (first | refine blk_drewN ?_ _ | refine blk_drew ?_ | refine blk_alloc ?_ _)); exact BK126.out⟩, ⟨by repeat (first | (with_reducible first | exact HB.out | apply below_alloc | apply pw_below_drewN | apply below_drew1 | refine below_set ?_ GE126.out) | exact HB.out)⟩⟩
      case rest =>
       clear HC8
       try clear c1
       try clear p1
       try clear q1
       try clear hx1
       try clear p2
       try clear c3
       try clear c4
       try clear c4b0
       try clear c5
       try clear c5b0
       try clear c6
       try clear c6b0
       try clear c11
       try clear c11b0
       try clear hcz10_0
       try clear hcz10_1
       try clear hcz10_2
       try clear hcz10_3
       try clear hcz10_4
       try clear hcz10_5
       try clear hfz10_0
       try clear hfz10_1
       try clear hfz10_2
       try clear hfz10_3
       try clear hfz10_4
       try clear hfz10_5
       try clear hx125_0
       try clear hx125_1
       try clear hx125_2
       try clear hx125_3
       try clear hx125_4
       try clear hx125_5
       try clear p125
       try clear p2
       try clear q125
       obtain ⟨kq, x29_7, rfl, HA, HJ7, HO_7, BK126, HB⟩ := hcut
       cases kq with
       | zero => exact absurd HA.out (by simp [policy_latest.j1])
       | succ kj7 =>
        have H := HA.out
        clear HA
        simp only [policy_latest.j1] at H
        by_cases c12 : x29_7 = true
        ·subst c12
         have H1 : (policy_latest.l0 kj7 a1 a2 x7_1 x8_1 l0 (l0.length : Int) (wrap64 (x14_1 + 1))) = some r := by rw [if_pos rfl] at H; exact H
         clear H
         have H := H1
         clear H1
         have H' := Aside0.mk H
         clear H
         go_wp2
         go_roundg kj7
         case measure => have := HK1.out; have := HJ7.out; omega
         case rel => exact ⟨(x7_1), (x8_1), (wrap64 (x14_1 + 1)), (by first | rfl | (simp; done) | (simp [*]; done)), (by first | rfl | (simp; done) | (simp [*]; done)), H', ⟨by have := HK1.out; have := HJ7.out; omega⟩, ⟨by (with_reducible repeat (first | apply Kd.R_alloc | apply Kd.R_drewN | apply Kd.R_drew)); exact HO_7.out⟩, ⟨by repeat (first | (with_reducible first | exact HB.out | apply below_alloc | apply pw_below_drewN | apply below_drew1 | refine below_set ?_ GE126.out) | exact HB.out)⟩⟩
        ·replace c12 := Bool.eq_false_iff.mpr c12
         subst c12
         have H1 : (if (x7_1.length : Int) < a2 then (if x7_1.length < 17592186044416 then (policy_latest.l0 kj7 a1 a2 (x7_1 ++ [((rd_T31 l0 x14_1).f0)]) t127 l0 (l0.length : Int) (wrap64 (x14_1 + 1))) else (none)) else (policy_latest.l0 kj7 a1 a2 x7_1 t127 l0 (l0.length : Int) (wrap64 (x14_1 + 1)))) = some r := by rw [if_neg (show ¬ (false = true) by decide)] at H; exact H
         clear H
         have H := H1
         clear H1
         by_cases c13 : (x7_1.length : Int) < a2
         ·rw [if_pos c13] at H
          have c13b0 : decide ((x7_1.length : Int) < a2) = true := decide_eq_true c13
          clear c13
          by_cases c14 : x7_1.length < 17592186044416
          ·rw [if_pos c14] at H
           have LMc14 := Aside0.mk c14
           clear c14
           obtain ⟨y128, hy128⟩ : ∃ y_ : List Int, y_ = (x7_1 ++ [((rd_T31 l0 x14_1).f0)]) := ⟨_, rfl⟩
           replace H : (policy_latest.l0 kj7 a1 a2 y128 t127 l0 (l0.length : Int) (wrap64 (x14_1 + 1))) = some r := by first | (rw [hy128]; with_reducible exact H) | (have H2_ := (Option.bind_some _ _).symm.trans H; rw [hy128]; with_reducible exact H2_) | (have H2_ := (Option.bind_some _ _).symm.trans H; with_reducible exact H2_) | with_reducible exact H | (rw [hy128]; exact H) | exact H
           have Ny128 := Aside0.mk hy128
           clear hy128
           have H' := Aside0.mk H
           clear H
           obtain ⟨Ao15, co15, eo15⟩ := Kd.R_slice HO_7.out
           subst eo15
           have hcz16_0 : wc.cell? ⟨gb126, 0, none⟩ = some (.int .i64 ((rd_T31 l0 x14_1).f0)) := (blk_cell BK126.out 0).trans rfl
           have hcz16_1 : wc.cell? ⟨gb126, 1, none⟩ = some (.int .i64 ((rd_T31 l0 x14_1).f1)) := (blk_cell BK126.out 1).trans rfl
           have hcz16_2 : wc.cell? ⟨gb126, 2, none⟩ = some (.string ((rd_T31 l0 x14_1).f2)) := (blk_cell BK126.out 2).trans rfl
           have hcz16_3 : wc.cell? ⟨gb126, 3, none⟩ = some (.int .u64 ((rd_T31 l0 x14_1).f3)) := (blk_cell BK126.out 3).trans rfl
           have hcz16_4 : wc.cell? ⟨gb126, 4, none⟩ = some (.bool ((rd_T31 l0 x14_1).f4)) := (blk_cell BK126.out 4).trans rfl
           have hcz16_5 : wc.cell? ⟨gb126, 5, none⟩ = some (.bool ((rd_T31 l0 x14_1).f5)) := (blk_cell BK126.out 5).trans rfl
           have hfz16_0 := blk_frozen BK126.out 0
           have hfz16_1 := blk_frozen BK126.out 1
           have hfz16_2 := blk_frozen BK126.out 2
           have hfz16_3 := blk_frozen BK126.out 3
           have hfz16_4 := blk_frozen BK126.out 4
           have hfz16_5 := blk_frozen BK126.out 5
           go_wp2_with (first | ((with_reducible refine gate_builtin (b := .append) (xs := #[.tmp 35, .tmp 38]) rfl ?_); at_builtin; refine Kd.R_append (Kd.int .i64) (w0 := w) w.heap.size rfl (.tmp 35) (.tmp 38) 34 3 (.int .i64 0) 8 rfl Tryz.underlying34 info3 rfl (by decide) (by omega) (.slice Ao15 x7_1.length co15) x7_1 ((rd_T31 l0 x14_1).f0) [.int .i64 ((rd_T31 l0 x14_1).f0)] (fun _ => True) (fun _ => False) rfl rfl ?aP (fun _ hk => hk.elim) ?aF ?aO ?aB ?aS ?aL ?_; (case aP => exact rfl); (case aB => exact (by repeat (first | (with_reducible first | exact HB.out | apply below_alloc | apply pw_below_drewN | apply below_drew1 | refine below_set ?_ GE126.out) | exact HB.out))); (case aF => exact (fun _ _ => trivial)); (case aO => exact (kdR_ HO_7.out)); (case aS => exact (below_size (by repeat (first | (with_reducible first | exact HB.out | apply below_alloc | apply pw_below_drewN | apply below_drew1 | refine below_set ?_ GE126.out) | exact HB.out)))); (case aL => have := LMc14.out; omega); intro v129 w17 ho hb hg hat; rw [← Ny128.out] at ho; have n0_ := Aside0.mk (blk_grown (g := gb126) (o := .cells #[.int .i64 ((rd_T31 l0 x14_1).f0), .int .i64 ((rd_T31 l0 x14_1).f1), .string ((rd_T31 l0 x14_1).f2), .int .u64 ((rd_T31 l0 x14_1).f3), .bool ((rd_T31 l0 x14_1).f4), .bool ((rd_T31 l0 x14_1).f5)] 31 (0, 0)) (blkN BK126.out) hg (Kd.R_ne HO_7.out BK126.out (by decide))); have n1_ := Aside0.mk (hb); have n2_ := Aside0.mk (ho); clear BK126; clear HB; clear HO_7; have BK126 := n0_; have HB := n1_; have HO130 := n2_; clear n0_ n1_ n2_; clear ho hb hg hat))
           go_roundg kj7
           case measure => have := HK1.out; have := HJ7.out; omega
           case rel => exact ⟨(y128), (t127), (wrap64 (x14_1 + 1)), (by first | rfl | (simp; done) | (simp [*]; done)), (by first | rfl | (simp; done) | (simp [*]; done)), H', ⟨by have := HK1.out; have := HJ7.out; omega⟩, ⟨by (with_reducible repeat (first | apply Kd.R_alloc | apply Kd.R_drewN | apply Kd.R_drew)); exact HO130.out⟩, ⟨by repeat (first | (with_reducible first | exact HB.out | apply below_alloc | apply pw_below_drewN | apply below_drew1 | refine below_set ?_ GE126.out) | exact HB.out)⟩⟩
          ·rw [if_neg c14] at H
           exact absurd H (by simp)
         ·rw [if_neg c13] at H
          have c13b0 : decide ((x7_1.length : Int) < a2) = false := decide_eq_false c13
          clear c13
          have H' := Aside0.mk H
          clear H
          obtain ⟨Ao18, co18, eo18⟩ := Kd.R_slice HO_7.out
          subst eo18
          go_wp2
          go_roundg kj7
          case measure => have := HK1.out; have := HJ7.out; omega
          case rel => exact ⟨(x7_1), (t127), (wrap64 (x14_1 + 1)), (by first | rfl | (simp; done) | (simp [*]; done)), (by first | rfl | (simp; done) | (simp [*]; done)), H', ⟨by have := HK1.out; have := HJ7.out; omega⟩, ⟨by (with_reducible repeat (first | apply Kd.R_alloc | apply Kd.R_drewN | apply Kd.R_drew)); exact HO_7.out⟩, ⟨by repeat (first | (with_reducible first | exact HB.out | apply below_alloc | apply pw_below_drewN | apply below_drew1 | refine below_set ?_ GE126.out) | exact HB.out)⟩⟩
     ·rw [if_neg c6] at H
      exact absurd H (by simp)
    ·rw [if_neg c5] at H
     exact absurd H (by simp)
   ·rw [if_neg c4] at H
    have c4b0 : decide (x14_1 < (l0.length : Int)) = false := decide_eq_false c4
    clear c4
    obtain rfl := Option.some.inj H
    go_wp2
    go_ret
    exact ⟨_, by first | rfl | (simp [errW_none, errW_some] <;> rfl) | (simp [*, errW_none, errW_some] <;> rfl), by (with_reducible repeat (first | apply Kd.R_alloc | apply Kd.R_drewN | apply Kd.R_drew)); exact HO_7.out, by repeat (first | (with_reducible first | exact HB.out | apply below_alloc | apply pw_below_drewN | apply below_drew1) | exact HB.out)⟩
end Go.Proofs.YtfdlbnfjohpdlaaGreatDoor.PPo
namespace Go.Proofs.YtfdlbnfjohpdlaaGreatDoor.PPo
open Go.RowKit Go.Proofs.YtfdlbnfjohpdlaaGreatDoorW.PrintWords Go.Proofs.YtfdlbnfjohpdlaaGreatDoorW.PrintLast Go.Proofs.YtfdlbnfjohpdlaaGreatDoorW.PrintMore
attribute [local go_sem] max2_int min2_int max_two min_two max_three min_three max_four min_four   -- for this text's walks alone
attribute [local go_sem high] hw_str_leq hw_str_gtr
set_option linter.unusedVariables false
set_option linter.unusedSimpArgs false
-- NOT PRINTED: function 101 (slices_partitionOrdered_int)
-- NOT PRINTED: function 66 (slices_pdqsortOrdered_int)
-- NOT PRINTED: function 40 (slices_Sort_int_int)
-- NOT PRINTED: function 41 (slices_Compact_int_int)
-- NOT PRINTED: function 13 (policy_Keep)
def slices_Index_int_int.l0 : Nat → List Int → Int → Int → Int → Option (Int)
 | 0, _, _, _, _ => none
 | k + 1, x0, x1, x7, x8 => if x8 < x7 then (if 0 ≤ x8 then (if x8 < (x0.length : Int) then (if x1 = (rd x0 x8) then (some x8) else (slices_Index_int_int.l0 k x0 x1 x7 (wrap64 (x8 + 1)))) else (none)) else (none)) else (some (-1))
def slices_Index_int_int.f (k : Nat) (l0 : List Int) (a1 : Int) : Option (Int) := slices_Index_int_int.l0 k l0 a1 (l0.length : Int) 0
set_option maxHeartbeats 8000000 in
set_option maxRecDepth 100000 in
theorem slices_Index_int_int.calls (k : Nat) (A0 : Option Addr) (c0 : Nat) (l0 : List Int) (a1 : Int) (r : Int) (w : World) (hr0 : Kd.C (Kd.int .i64) w A0 l0.length l0) (hc0 : l0.length ≤ c0) (h : slices_Index_int_int.f k l0 a1 = some r) :
  Calls Tryz.prog 69 #[.slice A0 l0.length c0, .int .i64 a1] w fun e w' => e = .returned (.int .i64 r) ∧ Drawn0 w w' := by
 have HR0 := Aside0.mk hr0
 have HC0 := Aside0.mk hc0
 clear hr0 hc0
 have H : (slices_Index_int_int.l0 k l0 a1 (l0.length : Int) 0) = some r := h
 clear h
 have H' := Aside0.mk H
 clear H
 go_enter Tryz.func69, Tryz.ntmps69
 go_wp2
 go_loopg [8] k (fun kq v8 w' => ∃ (x8_1 : Int), v8 = .int .i64 x8_1 ∧ Aside0 (slices_Index_int_int.l0 kq l0 a1 (l0.length : Int) x8_1 = some r) ∧ Aside0 (kq ≤ k) ∧ Drawn0 w w')
 case atStart => exact ⟨(0), (by first | rfl | (simp; done) | (simp [*]; done)), H', ⟨Nat.le_refl _⟩, by repeat (first | exact Drawn0.refl _ | apply Drawn0.step)⟩
 case round =>
  clear H'
  try clear p2
  obtain ⟨x8_1, rfl, HA, HK1, ⟨m1, rfl⟩⟩ := hrel
  cases gk with
  | zero => exact absurd HA.out (by simp [slices_Index_int_int.l0])
  | succ k1 =>
   have H := HA.out
   clear HA
   simp only [slices_Index_int_int.l0] at H
   by_cases c3 : x8_1 < (l0.length : Int)
   ·rw [if_pos c3] at H
    have c3b0 : decide (x8_1 < (l0.length : Int)) = true := decide_eq_true c3
    clear c3
    by_cases c4 : 0 ≤ x8_1
    ·rw [if_pos c4] at H
     have c4b0 : decide (0 ≤ x8_1) = true := decide_eq_true c4
     clear c4
     by_cases c5 : x8_1 < (l0.length : Int)
     ·rw [if_pos c5] at H
      have c5b0 : decide (x8_1 < (l0.length : Int)) = true := decide_eq_true c5
      clear c5
      by_cases c6 : a1 = (rd l0 x8_1)
      ·rw [if_pos c6] at H
       have c6b0 : (a1 == (rd l0 x8_1)) = true := beq_iff_eq.mpr c6
       have c6b1 : (a1 != (rd l0 x8_1)) = false := bne_eq_false_iff_eq.mpr c6
       clear c6
       obtain rfl := Option.some.inj H
       have p236 : 0 ≤ (x8_1 : Int) := of_decide_eq_true asA
       have q236 : x8_1 < (l0.length : Int) := of_decide_eq_true asA
       obtain ⟨ad236, e236, hx236_0⟩ := Kd.at_int HR0.out x8_1 p236 q236
       cases e236
       replace p236 := eq_true p236
       replace q236 := eq_true q236
       go_wp2
       go_ret
       exact ⟨by first | rfl | (simp; done) | (simp [*]; done), by repeat (first | exact Drawn0.refl _ | apply Drawn0.step)⟩
      ·rw [if_neg c6] at H
       have c6b0 : (a1 == (rd l0 x8_1)) = false := beq_eq_false_iff_ne.mpr c6
       have c6b1 : (a1 != (rd l0 x8_1)) = true := bne_iff_ne.mpr c6
       have H' := Aside0.mk H
       clear H
       have p236 : 0 ≤ (x8_1 : Int) := of_decide_eq_true asA
       have q236 : x8_1 < (l0.length : Int) := of_decide_eq_true asA
       obtain ⟨ad236, e236, hx236_0⟩ := Kd.at_int HR0.out x8_1 p236 q236
       cases e236
       replace p236 := eq_true p236
       replace q236 := eq_true q236
       go_wp2
       go_roundg k1
       case measure => have := HK1.out; omega
       case rel => exact ⟨(wrap64 (x8_1 + 1)), (by first | rfl | (simp; done) | (simp [*]; done)), H', ⟨by have := HK1.out; omega⟩, by repeat (first | exact Drawn0.refl _ | apply Drawn0.step)⟩
     ·rw [if_neg c5] at H
      exact absurd H (by simp)
    ·rw [if_neg c4] at H
     exact absurd H (by simp)
   ·rw [if_neg c3] at H
    have c3b0 : decide (x8_1 < (l0.length : Int)) = false := decide_eq_false c3
    clear c3
    obtain rfl := Option.some.inj H
    go_wp2
    go_ret
    exact ⟨by first | rfl | (simp; done) | (simp [*]; done), by repeat (first | exact Drawn0.refl _ | apply Drawn0.step)⟩
def slices_Contains_int_int.f (k : Nat) (l0 : List Int) (a1 : Int) : Option (Bool) := (slices_Index_int_int.f k l0 a1).bind fun t237 => (some (decide (t237 ≥ 0)))
set_option maxHeartbeats 8000000 in
set_option maxRecDepth 100000 in
theorem slices_Contains_int_int.calls (k : Nat) (A0 : Option Addr) (c0 : Nat) (l0 : List Int) (a1 : Int) (r : Bool) (w : World) (hr0 : Kd.C (Kd.int .i64) w A0 l0.length l0) (hc0 : l0.length ≤ c0) (h : slices_Contains_int_int.f k l0 a1 = some r) :
  Calls Tryz.prog 44 #[.slice A0 l0.length c0, .int .i64 a1] w fun e w' => e = .returned (.bool r) ∧ Drawn0 w w' := by
 have HR0 := Aside0.mk hr0
 have HC0 := Aside0.mk hc0
 clear hr0 hc0
 have H : ((slices_Index_int_int.f k l0 a1).bind fun t237 => (some (decide (t237 ≥ 0)))) = some r := h
 clear h
 replace H := Option.bind_eq_some_iff.mp H
 obtain ⟨t237, A30, H⟩ := H
 replace H : (some (decide (t237 ≥ 0))) = some r := H
 have A3 := Aside0.mk A30
 clear A30
 obtain rfl := Option.some.inj H
 go_enter Tryz.func44, Tryz.ntmps44
 go_wp2_with (first | ((with_reducible refine gate_callee (f := 69) rfl ?_); refine goesL_ (some 7) rfl rfl Tryz.func69 (by kernel_rfl) rfl #[.slice A0 l0.length c0, .int .i64 a1] rfl argA ?_; (with_reducible refine (slices_Index_int_int.calls k _ _ l0 a1 t237 _ ?side1 ?side2 A3.out).mono ?_); (case side1 => repeat (first | exact HR0.out | (with_reducible refine Kd.C_alloc ?_ _) | (with_reducible refine Kd.C_drewN ?_ _) | (with_reducible refine Kd.C_drew ?_))); (case side2 => exact HC0.out); rintro e w' ⟨rfl, ⟨nd, rfl⟩⟩; refine ⟨_, rfl, ?_⟩))
 go_ret
 exact ⟨by first | rfl | (simp; done) | (simp [*]; done), by repeat (first | exact Drawn0.refl _ | apply Drawn0.step)⟩
-- NOT PRINTED: function 17 (policy_Drops)
-- NOT PRINTED: function 133 (bytealg_IndexByteString)
-- NOT PRINTED: function 111 (stringslite_IndexByte)
-- NOT PRINTED: function 112 (bytealg_IndexString)
-- NOT PRINTED: function 136 (strconv_numDigits)
-- NOT PRINTED: function 137 (strconv_formatBase10)
-- NOT PRINTED: function 152 (bits_TrailingZeros32)
-- NOT PRINTED: function 153 (bits_TrailingZeros64)
-- NOT PRINTED: function 150 (bits_TrailingZeros)
-- NOT PRINTED: function 138 (strconv_formatBits)
-- NOT PRINTED: function 116 (strconv_FormatInt)
-- NOT PRINTED: function 78 (strconv_Itoa_78)
-- NOT PRINTED: function 58 (strconv_Itoa_58)
-- NOT PRINTED: function 52 (policy_count)
end Go.Proofs.YtfdlbnfjohpdlaaGreatDoor.PPo
namespace Go.Proofs.YtfdlbnfjohpdlaaGreatDoor.PPo
open Go.RowKit Go.Proofs.YtfdlbnfjohpdlaaGreatDoorW.PrintWords Go.Proofs.YtfdlbnfjohpdlaaGreatDoorW.PrintLast Go.Proofs.YtfdlbnfjohpdlaaGreatDoorW.PrintMore
attribute [local go_sem] max2_int min2_int max_two min_two max_three min_three max_four min_four   -- for this text's walks alone
attribute [local go_sem high] hw_str_leq hw_str_gtr
set_option linter.unusedVariables false
set_option linter.unusedSimpArgs false
def stringslite_HasPrefix.f (a0 : ByteArray) (a1 : ByteArray) : Option (Bool) := if (a0.size : Int) ≥ (a1.size : Int) then (if 0 ≤ (a1.size : Int) then (if (a1.size : Int) ≤ (a0.size : Int) then (some ((a0.extract 0 ((a1.size : Int) : Int).toNat).toList == a1.toList)) else (none)) else (none)) else (some false)
set_option maxHeartbeats 8000000 in
set_option maxRecDepth 100000 in
theorem stringslite_HasPrefix.calls (a0 : ByteArray) (a1 : ByteArray) (r : Bool) (w : World) (h : stringslite_HasPrefix.f a0 a1 = some r) :
  Calls Tryz.prog 115 #[.string a0, .string a1] w fun e w' => e = .returned (.bool r) ∧ Drawn0 w w' := by
 have H : (if (a0.size : Int) ≥ (a1.size : Int) then (if 0 ≤ (a1.size : Int) then (if (a1.size : Int) ≤ (a0.size : Int) then (some ((a0.extract 0 ((a1.size : Int) : Int).toNat).toList == a1.toList)) else (none)) else (none)) else (some false)) = some r := h
 clear h
 by_cases c3 : (a0.size : Int) ≥ (a1.size : Int)
 ·rw [if_pos c3] at H
  have c3b0 : decide ((a1.size : Int) ≤ (a0.size : Int)) = true := decide_eq_true c3
  have c3b1 : decide (a1.size ≤ a0.size) = true := decide_eq_true (Int.ofNat_le.mp c3)
  clear c3
  by_cases c4 : 0 ≤ (a1.size : Int)
  ·rw [if_pos c4] at H
   have c4b0 := eq_true c4
   have c4b1 : decide (0 ≤ (a1.size : Int)) = true := decide_eq_true c4
   clear c4
   by_cases c5 : (a1.size : Int) ≤ (a0.size : Int)
   ·rw [if_pos c5] at H
    have c5b0 := eq_true c5
    have c5b1 : decide ((a1.size : Int) ≤ (a0.size : Int)) = true := decide_eq_true c5
    clear c5
    obtain rfl := Option.some.inj H
    go_enter Tryz.func115, Tryz.ntmps115
    go_wp2
    go_ret
    exact ⟨by first | rfl | (simp; done) | (simp [*]; done), by repeat (first | exact Drawn0.refl _ | apply Drawn0.step)⟩
   ·rw [if_neg c5] at H
    exact absurd H (by simp)
  ·rw [if_neg c4] at H
   exact absurd H (by simp)
 ·rw [if_neg c3] at H
  have c3b0 : decide ((a1.size : Int) ≤ (a0.size : Int)) = false := decide_eq_false c3
  have c3b1 : decide (a1.size ≤ a0.size) = false := decide_eq_false (fun h => c3 (Int.ofNat_le.mpr h))
  clear c3
  obtain rfl := Option.some.inj H
  go_enter Tryz.func115, Tryz.ntmps115
  go_wp2
  go_ret
  exact ⟨by first | rfl | (simp; done) | (simp [*]; done), by repeat (first | exact Drawn0.refl _ | apply Drawn0.step)⟩
def stringslite_TrimPrefix.f (a0 : ByteArray) (a1 : ByteArray) : Option (ByteArray) := (stringslite_HasPrefix.f a0 a1).bind fun t260 => (if t260 = true then (if 0 ≤ (a1.size : Int) then (if (a1.size : Int) ≤ (a0.size : Int) then (some (a0.extract ((a1.size : Int) : Int).toNat a0.size)) else (none)) else (none)) else (some a0))
set_option maxHeartbeats 8000000 in
set_option maxRecDepth 100000 in
theorem stringslite_TrimPrefix.calls (a0 : ByteArray) (a1 : ByteArray) (r : ByteArray) (w : World) (h : stringslite_TrimPrefix.f a0 a1 = some r) :
  Calls Tryz.prog 77 #[.string a0, .string a1] w fun e w' => e = .returned (.string r) ∧ Drawn0 w w' := by
 have H : ((stringslite_HasPrefix.f a0 a1).bind fun t260 => (if t260 = true then (if 0 ≤ (a1.size : Int) then (if (a1.size : Int) ≤ (a0.size : Int) then (some (a0.extract ((a1.size : Int) : Int).toNat a0.size)) else (none)) else (none)) else (some a0))) = some r := h
 clear h
 replace H := Option.bind_eq_some_iff.mp H
 obtain ⟨t260, A30, H⟩ := H
 replace H : (if t260 = true then (if 0 ≤ (a1.size : Int) then (if (a1.size : Int) ≤ (a0.size : Int) then (some (a0.extract ((a1.size : Int) : Int).toNat a0.size)) else (none)) else (none)) else (some a0)) = some r := H
 have A3 := Aside0.mk A30
 clear A30
 by_cases c4 : t260 = true
 ·subst c4
  have H1 : (if 0 ≤ (a1.size : Int) then (if (a1.size : Int) ≤ (a0.size : Int) then (some (a0.extract ((a1.size : Int) : Int).toNat a0.size)) else (none)) else (none)) = some r := by rw [if_pos rfl] at H; exact H
  clear H
  have H := H1
  clear H1
  by_cases c5 : 0 ≤ (a1.size : Int)
  ·rw [if_pos c5] at H
   have c5b0 := eq_true c5
   have c5b1 : decide (0 ≤ (a1.size : Int)) = true := decide_eq_true c5
   clear c5
   by_cases c6 : (a1.size : Int) ≤ (a0.size : Int)
   ·rw [if_pos c6] at H
    have c6b0 := eq_true c6
    have c6b1 : decide ((a1.size : Int) ≤ (a0.size : Int)) = true := decide_eq_true c6
    clear c6
    obtain rfl := Option.some.inj H
    go_enter Tryz.func77, Tryz.ntmps77
    go_wp2_with (first | ((with_reducible refine gate_callee (f := 115) rfl ?_); refine goesL_ (some 7) rfl rfl Tryz.func115 (by kernel_rfl) rfl #[.string a0, .string a1] rfl argA ?_; (with_reducible refine (stringslite_HasPrefix.calls a0 a1 true _ A3.out).mono ?_); rintro e w' ⟨rfl, ⟨nd, rfl⟩⟩; refine ⟨_, rfl, ?_⟩))
    go_ret
    exact ⟨by first | rfl | (simp; done) | (simp [*]; done), by repeat (first | exact Drawn0.refl _ | apply Drawn0.step)⟩
   ·rw [if_neg c6] at H
    exact absurd H (by simp)
  ·rw [if_neg c5] at H
   exact absurd H (by simp)
 ·replace c4 := Bool.eq_false_iff.mpr c4
  subst c4
  have H1 : (some a0) = some r := by rw [if_neg (show ¬ (false = true) by decide)] at H; exact H
  clear H
  have H := H1
  clear H1
  obtain rfl := Option.some.inj H
  go_enter Tryz.func77, Tryz.ntmps77
  go_wp2_with (first | ((with_reducible refine gate_callee (f := 115) rfl ?_); refine goesL_ (some 7) rfl rfl Tryz.func115 (by kernel_rfl) rfl #[.string a0, .string a1] rfl argA ?_; (with_reducible refine (stringslite_HasPrefix.calls a0 a1 false _ A3.out).mono ?_); rintro e w' ⟨rfl, ⟨nd, rfl⟩⟩; refine ⟨_, rfl, ?_⟩))
  go_ret
  exact ⟨by first | rfl | (simp; done) | (simp [*]; done), by repeat (first | exact Drawn0.refl _ | apply Drawn0.step)⟩
def strings_TrimPrefix.f (a0 : ByteArray) (a1 : ByteArray) : Option (ByteArray) := (stringslite_TrimPrefix.f a0 a1).bind fun t261 => (some t261)
set_option maxHeartbeats 8000000 in
set_option maxRecDepth 100000 in
theorem strings_TrimPrefix.calls (a0 : ByteArray) (a1 : ByteArray) (r : ByteArray) (w : World) (h : strings_TrimPrefix.f a0 a1 = some r) :
  Calls Tryz.prog 53 #[.string a0, .string a1] w fun e w' => e = .returned (.string r) ∧ Drawn0 w w' := by
 have H : ((stringslite_TrimPrefix.f a0 a1).bind fun t261 => (some t261)) = some r := h
 clear h
 replace H := Option.bind_eq_some_iff.mp H
 obtain ⟨t261, A30, H⟩ := H
 replace H : (some t261) = some r := H
 have A3 := Aside0.mk A30
 clear A30
 obtain rfl := Option.some.inj H
 go_enter Tryz.func53, Tryz.ntmps53
 go_wp2_with (first | ((with_reducible refine gate_callee (f := 77) rfl ?_); refine goesL_ (some 7) rfl rfl Tryz.func77 (by kernel_rfl) rfl #[.string a0, .string a1] rfl argA ?_; (with_reducible refine (stringslite_TrimPrefix.calls a0 a1 t261 _ A3.out).mono ?_); rintro e w' ⟨rfl, ⟨nd, rfl⟩⟩; refine ⟨_, rfl, ?_⟩))
 go_ret
 exact ⟨by first | rfl | (simp; done) | (simp [*]; done), by repeat (first | exact Drawn0.refl _ | apply Drawn0.step)⟩
-- NOT PRINTED: function 54 (strings_Contains)
-- NOT PRINTED: function 28 (policy_Parse)
-- NOT PRINTED: function 10 (rootcellarlaw16_shown)
end Go.Proofs.YtfdlbnfjohpdlaaGreatDoor.PPo
