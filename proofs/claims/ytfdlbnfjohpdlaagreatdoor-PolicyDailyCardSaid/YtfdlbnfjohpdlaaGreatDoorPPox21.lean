-- laid by gprint.py (this session's own program) out of the translation: Lean checks it
import Derived.Test.YtfdlbnfjohpdlaaGreatDoorPPox0
import Derived.Test.YtfdlbnfjohpdlaaGreatDoorPPox19
import Derived.Test.YtfdlbnfjohpdlaaGreatDoorPPox20
--compressed
namespace Go.Proofs.YtfdlbnfjohpdlaaGreatDoor.PPo
open Go.RowKit Go.Proofs.YtfdlbnfjohpdlaaGreatDoorW.PrintWords Go.Proofs.YtfdlbnfjohpdlaaGreatDoorW.PrintLast Go.Proofs.YtfdlbnfjohpdlaaGreatDoorW.PrintMore
attribute [local go_sem] max2_int min2_int max_two min_two max_three min_three max_four min_four   -- for this text's walks alone
attribute [local go_sem high] hw_str_leq hw_str_gtr
set_option linter.unusedVariables false
set_option linter.unusedSimpArgs false
def rootcellarref16_later.l0 : Nat → List (S81) → Int → Int → Int → Int → Int → ByteArray → Int → Bool → Bool → Option (Int)
 | 0, _, _, _, _, _, _, _, _, _, _ => none
 | k + 1, x0, x2, x7, x8, x328000, x328001, x328002, x328003, x328004, x328005 => if x8 < (x0.length : Int) then (if 0 ≤ x8 then ((rootcellarref16_newest.f k x0 ((rd_T81 x0 x8).f0) ((rd_T81 x0 x8).f1) ((rd_T81 x0 x8).f2) ((rd_T81 x0 x8).f3) ((rd_T81 x0 x8).f4) ((rd_T81 x0 x8).f5) x2).bind fun t329 => (if t329 = true then ((rootcellarref15_Bucket.f k x2 ((rd_T81 x0 x8).f3)).bind fun t331 => ((rootcellarref15_Bucket.f k x2 x328003).bind fun t332 => (if t331 > t332 then (rootcellarref16_later.l0 k x0 x2 (wrap64 (x7 + 1)) (wrap64 (x8 + 1)) x328000 x328001 x328002 x328003 x328004 x328005) else (rootcellarref16_later.l0 k x0 x2 x7 (wrap64 (x8 + 1)) x328000 x328001 x328002 x328003 x328004 x328005)))) else (rootcellarref16_later.l0 k x0 x2 x7 (wrap64 (x8 + 1)) x328000 x328001 x328002 x328003 x328004 x328005))) else (none)) else (some x7)
def rootcellarref16_later.f (k : Nat) (l0 : List (S81)) (a1_0 : Int) (a1_1 : Int) (a1_2 : ByteArray) (a1_3 : Int) (a1_4 : Bool) (a1_5 : Bool) (a2 : Int) : Option (Int) := rootcellarref16_later.l0 k l0 a2 0 0 a1_0 a1_1 a1_2 a1_3 a1_4 a1_5
def rootcellarref16_later.T5 : Bool × List (List Nat × List Nat) := (true, [([], []), ([], []), ([], []), ([1, 2], [1, 2]), ([3], [3]), ([], []), ([0, 4, 5], [0, 4, 5]), ([6, 6], [6]), ([7], [7]), ([7], [7]), ([7], [7]), ([9, 10, 7], [7, 9, 10]), ([11, 7], [7, 11]), ([12, 7], [7, 12]), ([8, 13, 7, 7], [7, 8, 13]), ([7], [7]), ([7], [7]), ([16, 7], [7, 16]), ([15, 17, 14, 7], [7, 15, 17]), ([14, 18, 7], [7, 14, 18]), ([7, 19], [7, 19])])
def rootcellarref16_later.B5 : List Nat := [0, 0, 0, 6, 14, 0, 63, 127, 255, 255, 255, 1791, 3839, 7935, 16383, 255, 255, 65791, 262143, 524287, 1048575]
theorem rootcellarref16_later.tab5 : rtab .any (opsOf Tryz.f105 5) = rootcellarref16_later.T5 := by kernel_rfl
theorem rootcellarref16_later.bits5 : waitsOk rootcellarref16_later.T5.2 rootcellarref16_later.B5 = true := by kernel_rfl
set_option maxHeartbeats 8000000 in
set_option maxRecDepth 100000 in
theorem rootcellarref16_later.calls (k : Nat) (A0 : Option Addr) (c0 : Nat) (l0 : List (S81)) (a1_0 : Int) (a1_1 : Int) (a1_2 : ByteArray) (a1_3 : Int) (a1_4 : Bool) (a1_5 : Bool) (a2 : Int) (r : Int) (w : World) (hr0 : Kd.C k81 w A0 l0.length l0) (hc0 : l0.length ≤ c0) (h : rootcellarref16_later.f k l0 a1_0 a1_1 a1_2 a1_3 a1_4 a1_5 a2 = some r) :
  Calls Tryz.prog 105 #[.slice A0 l0.length c0, .agg #[.int .i64 a1_0, .int .i64 a1_1, .string a1_2, .int .u64 a1_3, .bool a1_4, .bool a1_5], .int .i64 a2] w fun e w' => e = .returned (.int .i64 r) ∧ Below w.heap.size w w' := by
 have hu81 := Tryz.underlying81
 have HR0 := Aside0.mk hr0
 have HC0 := Aside0.mk hc0
 clear hr0 hc0
 have HB := Aside0.mk (Below.refl w.heap.size w)
 have H : (rootcellarref16_later.l0 k l0 a2 0 0 a1_0 a1_1 a1_2 a1_3 a1_4 a1_5) = some r := h
 clear h
 have H' := Aside0.mk H
 clear H
 go_enter Tryz.func105, Tryz.ntmps105
 go_wp2_with (first | ((with_reducible refine gate_dst (N := 4) rfl ?_); refine box_event ?hg (N := 4) ?hd (cs := #[.int .i64 a1_0, .int .i64 a1_1, .string a1_2, .int .u64 a1_3, .bool a1_4, .bool a1_5]) (t := 81) ?hr ?_; (case hd => rfl); (case hg => rfl); (case hr => first | (go_simp; done) | (go_simp; rfl)); intro gb327 hg w4 hbox hb; have n0_ := Aside0.mk (below_step belA hb); have n1_ := Aside0.mk (hbox); have n2_ := Aside0.mk ((by rw [hg]; exact (below_size belA) : w.heap.size ≤ gb327)); have n3_ := Aside0.mk ((by rw [hg]; exact (below_size belA) : w.heap.size ≤ gb327)); clear HB; have HB := n0_; have BK327 := n1_; have GW327 := n2_; have GE327 := n3_; clear n0_ n1_ n2_ n3_; clear hb hbox hg))
 go_loopg [7, 8] k (fun kq v7 v8 w' => ∃ (x7_1 : Int) (x8_1 : Int), v7 = .int .i64 x7_1 ∧ v8 = .int .i64 x8_1 ∧ Aside0 (rootcellarref16_later.l0 kq l0 a2 x7_1 x8_1 a1_0 a1_1 a1_2 a1_3 a1_4 a1_5 = some r) ∧ Aside0 (kq ≤ k) ∧ Aside0 (w'.heap[gb327]? = some (.cells #[.int .i64 a1_0, .int .i64 a1_1, .string a1_2, .int .u64 a1_3, .bool a1_4, .bool a1_5] 81 (0, 0))) ∧ Aside0 (Below w.heap.size w w'))
 case atStart => exact ⟨(0), (0), (by first | rfl | (simp; done) | (simp [*]; done)), (by first | rfl | (simp; done) | (simp [*]; done)), H', ⟨Nat.le_refl _⟩, ⟨by (with_reducible repeat (first | refine blk_drewN ?_ _ | refine blk_drew ?_ | refine blk_alloc ?_ _)); exact BK327.out⟩, ⟨by repeat (first | (with_reducible first | exact HB.out | apply below_alloc | apply pw_below_drewN | apply below_drew1 | refine below_set ?_ GE327.out) | exact HB.out)⟩⟩
 case round =>
  clear H'
  try clear c1
  try clear p2
  obtain ⟨x7_1, x8_1, rfl, rfl, HA, HK1, BK327, HB⟩ := hrel
  cases gk with
  | zero => exact absurd HA.out (by simp [rootcellarref16_later.l0])
  | succ k1 =>
   have H := HA.out
   clear HA
   simp only [rootcellarref16_later.l0] at H
   by_cases c5 : x8_1 < (l0.length : Int)
   ·rw [if_pos c5] at H
    have c5b0 : decide (x8_1 < (l0.length : Int)) = true := decide_eq_true c5
    clear c5
    by_cases c6 : 0 ≤ x8_1
    ·rw [if_pos c6] at H
     have c6b0 : decide (0 ≤ x8_1) = true := decide_eq_true c6
     clear c6
     replace H := Option.bind_eq_some_iff.mp H
     obtain ⟨t329, A70, H⟩ := H
     replace H : (if t329 = true then ((rootcellarref15_Bucket.f k1 a2 ((rd_T81 l0 x8_1).f3)).bind fun t331 => ((rootcellarref15_Bucket.f k1 a2 a1_3).bind fun t332 => (if t331 > t332 then (rootcellarref16_later.l0 k1 l0 a2 (wrap64 (x7_1 + 1)) (wrap64 (x8_1 + 1)) a1_0 a1_1 a1_2 a1_3 a1_4 a1_5) else (rootcellarref16_later.l0 k1 l0 a2 x7_1 (wrap64 (x8_1 + 1)) a1_0 a1_1 a1_2 a1_3 a1_4 a1_5)))) else (rootcellarref16_later.l0 k1 l0 a2 x7_1 (wrap64 (x8_1 + 1)) a1_0 a1_1 a1_2 a1_3 a1_4 a1_5)) = some r := H
     have A7 := Aside0.mk A70
     clear A70
     by_cases c8 : t329 = true
     ·subst c8
      have H1 : ((rootcellarref15_Bucket.f k1 a2 ((rd_T81 l0 x8_1).f3)).bind fun t331 => ((rootcellarref15_Bucket.f k1 a2 a1_3).bind fun t332 => (if t331 > t332 then (rootcellarref16_later.l0 k1 l0 a2 (wrap64 (x7_1 + 1)) (wrap64 (x8_1 + 1)) a1_0 a1_1 a1_2 a1_3 a1_4 a1_5) else (rootcellarref16_later.l0 k1 l0 a2 x7_1 (wrap64 (x8_1 + 1)) a1_0 a1_1 a1_2 a1_3 a1_4 a1_5)))) = some r := by rw [if_pos rfl] at H; exact H
      clear H
      have H := H1
      clear H1
      replace H := Option.bind_eq_some_iff.mp H
      obtain ⟨t331, A90, H⟩ := H
      replace H : ((rootcellarref15_Bucket.f k1 a2 a1_3).bind fun t332 => (if t331 > t332 then (rootcellarref16_later.l0 k1 l0 a2 (wrap64 (x7_1 + 1)) (wrap64 (x8_1 + 1)) a1_0 a1_1 a1_2 a1_3 a1_4 a1_5) else (rootcellarref16_later.l0 k1 l0 a2 x7_1 (wrap64 (x8_1 + 1)) a1_0 a1_1 a1_2 a1_3 a1_4 a1_5))) = some r := H
      have A9 := Aside0.mk A90
      clear A90
      replace H := Option.bind_eq_some_iff.mp H
      obtain ⟨t332, A100, H⟩ := H
      replace H : (if t331 > t332 then (rootcellarref16_later.l0 k1 l0 a2 (wrap64 (x7_1 + 1)) (wrap64 (x8_1 + 1)) a1_0 a1_1 a1_2 a1_3 a1_4 a1_5) else (rootcellarref16_later.l0 k1 l0 a2 x7_1 (wrap64 (x8_1 + 1)) a1_0 a1_1 a1_2 a1_3 a1_4 a1_5)) = some r := H
      have A10 := Aside0.mk A100
      clear A100
      by_cases c11 : t331 > t332
      ·rw [if_pos c11] at H
       have c11b0 : decide (t332 < t331) = true := decide_eq_true c11
       clear c11
       have H' := Aside0.mk H
       clear H
       try go_wp2
       have n0_ := Aside0.mk (blk_drew BK327.out)
       have n1_ := Aside0.mk (below_drew1 HB.out)
       clear BK327
       clear HB
       have BK327 := n0_
       have HB := n1_
       clear n0_ n1_
       have p328 : 0 ≤ (x8_1 : Int) := of_decide_eq_true asA
       have q328 : x8_1 < (l0.length : Int) := of_decide_eq_true asA
       obtain ⟨ad328, e328, hx328_0, hx328_1, hx328_2, hx328_3, hx328_4, hx328_5⟩ := at_T81 HR0.out x8_1 p328 q328
       have hw328_5 := hx328_5
       have hw328_4 := hx328_4
       have hw328_3 := hx328_3
       have hw328_2 := hx328_2
       have hw328_1 := hx328_1
       have hw328_0 := hx328_0
       cases e328
       replace hx328_0 := (HB.out.cell (World.block_lt_of_cell? w _ hx328_0)).trans hx328_0
       replace hx328_1 := (HB.out.cell (World.block_lt_of_cell? w _ hx328_1)).trans hx328_1
       replace hx328_2 := (HB.out.cell (World.block_lt_of_cell? w _ hx328_2)).trans hx328_2
       replace hx328_3 := (HB.out.cell (World.block_lt_of_cell? w _ hx328_3)).trans hx328_3
       replace hx328_4 := (HB.out.cell (World.block_lt_of_cell? w _ hx328_4)).trans hx328_4
       replace hx328_5 := (HB.out.cell (World.block_lt_of_cell? w _ hx328_5)).trans hx328_5
       replace p328 := eq_true p328
       replace q328 := eq_true q328
       have p330 : 0 ≤ (x8_1 : Int) := of_decide_eq_true asA
       have q330 : x8_1 < (l0.length : Int) := of_decide_eq_true asA
       obtain ⟨ad330, e330, hx330_0, hx330_1, hx330_2, hx330_3, hx330_4, hx330_5⟩ := at_T81 HR0.out x8_1 p330 q330
       have hw330_5 := hx330_5
       have hw330_4 := hx330_4
       have hw330_3 := hx330_3
       have hw330_2 := hx330_2
       have hw330_1 := hx330_1
       have hw330_0 := hx330_0
       obtain rfl : ad328 = ad330 := (by injection e330)
       replace hx330_0 := (HB.out.cell (World.block_lt_of_cell? w _ hx330_0)).trans hx330_0
       replace hx330_1 := (HB.out.cell (World.block_lt_of_cell? w _ hx330_1)).trans hx330_1
       replace hx330_2 := (HB.out.cell (World.block_lt_of_cell? w _ hx330_2)).trans hx330_2
       replace hx330_3 := (HB.out.cell (World.block_lt_of_cell? w _ hx330_3)).trans hx330_3
       replace hx330_4 := (HB.out.cell (World.block_lt_of_cell? w _ hx330_4)).trans hx330_4
       replace hx330_5 := (HB.out.cell (World.block_lt_of_cell? w _ hx330_5)).trans hx330_5
       replace p330 := eq_true p330
       replace q330 := eq_true q330
       refine start_ (n := 21) (S := fun w' => w'.cell? ⟨gb327, 0, none⟩ = some (.int .i64 a1_0) ∧ w'.cell? ⟨gb327, 1, none⟩ = some (.int .i64 a1_1) ∧ w'.cell? ⟨gb327, 2, none⟩ = some (.string a1_2) ∧ w'.cell? ⟨gb327, 3, none⟩ = some (.int .u64 a1_3) ∧ w'.cell? ⟨gb327, 4, none⟩ = some (.bool a1_4) ∧ w'.cell? ⟨gb327, 5, none⟩ = some (.bool a1_5) ∧ w'.cell? (ad328.add ((x8_1).toNat * 6)) = some (.int .i64 ((rd_T81 l0 x8_1).f0)) ∧ w'.cell? ⟨(ad328.add ((x8_1).toNat * 6)).block, (ad328.add ((x8_1).toNat * 6)).off + 1, none⟩ = some (.int .i64 ((rd_T81 l0 x8_1).f1)) ∧ w'.cell? ⟨(ad328.add ((x8_1).toNat * 6)).block, (ad328.add ((x8_1).toNat * 6)).off + 2, none⟩ = some (.string ((rd_T81 l0 x8_1).f2)) ∧ w'.cell? ⟨(ad328.add ((x8_1).toNat * 6)).block, (ad328.add ((x8_1).toNat * 6)).off + 3, none⟩ = some (.int .u64 ((rd_T81 l0 x8_1).f3)) ∧ w'.cell? ⟨(ad328.add ((x8_1).toNat * 6)).block, (ad328.add ((x8_1).toNat * 6)).off + 4, none⟩ = some (.bool ((rd_T81 l0 x8_1).f4)) ∧ w'.cell? ⟨(ad328.add ((x8_1).toNat * 6)).block, (ad328.add ((x8_1).toNat * 6)).off + 5, none⟩ = some (.bool ((rd_T81 l0 x8_1).f5)) ∧ w'.cell? (ad328.add ((x8_1).toNat * 6)) = some (.int .i64 ((rd_T81 l0 x8_1).f0)) ∧ w'.cell? ⟨(ad328.add ((x8_1).toNat * 6)).block, (ad328.add ((x8_1).toNat * 6)).off + 1, none⟩ = some (.int .i64 ((rd_T81 l0 x8_1).f1)) ∧ w'.cell? ⟨(ad328.add ((x8_1).toNat * 6)).block, (ad328.add ((x8_1).toNat * 6)).off + 2, none⟩ = some (.string ((rd_T81 l0 x8_1).f2)) ∧ w'.cell? ⟨(ad328.add ((x8_1).toNat * 6)).block, (ad328.add ((x8_1).toNat * 6)).off + 3, none⟩ = some (.int .u64 ((rd_T81 l0 x8_1).f3)) ∧ w'.cell? ⟨(ad328.add ((x8_1).toNat * 6)).block, (ad328.add ((x8_1).toNat * 6)).off + 4, none⟩ = some (.bool ((rd_T81 l0 x8_1).f4)) ∧ w'.cell? ⟨(ad328.add ((x8_1).toNat * 6)).block, (ad328.add ((x8_1).toNat * 6)).off + 5, none⟩ = some (.bool ((rd_T81 l0 x8_1).f5))) (ds := []) #[Z,Z,Z,Z,Z,Z,Z,Z,Z,Z,Z,Z,Z,Z,Z,Z,Z,Z,Z,Z,Z] (by kernel_rfl) rfl rfl ⟨(blk_cell BK327.out 0).trans rfl, (blk_cell BK327.out 1).trans rfl, (blk_cell BK327.out 2).trans rfl, (blk_cell BK327.out 3).trans rfl, (blk_cell BK327.out 4).trans rfl, (blk_cell BK327.out 5).trans rfl, ((HB.out.cell (World.block_lt_of_cell? w _ hw328_0)).trans hw328_0), ((HB.out.cell (World.block_lt_of_cell? w _ hw328_1)).trans hw328_1), ((HB.out.cell (World.block_lt_of_cell? w _ hw328_2)).trans hw328_2), ((HB.out.cell (World.block_lt_of_cell? w _ hw328_3)).trans hw328_3), ((HB.out.cell (World.block_lt_of_cell? w _ hw328_4)).trans hw328_4), ((HB.out.cell (World.block_lt_of_cell? w _ hw328_5)).trans hw328_5), ((HB.out.cell (World.block_lt_of_cell? w _ hw330_0)).trans hw330_0), ((HB.out.cell (World.block_lt_of_cell? w _ hw330_1)).trans hw330_1), ((HB.out.cell (World.block_lt_of_cell? w _ hw330_2)).trans hw330_2), ((HB.out.cell (World.block_lt_of_cell? w _ hw330_3)).trans hw330_3), ((HB.out.cell (World.block_lt_of_cell? w _ hw330_4)).trans hw330_4), ((HB.out.cell (World.block_lt_of_cell? w _ hw330_5)).trans hw330_5)⟩ (fun hHeld => ?_); refine with_tabW rootcellarref16_later.tab5 rootcellarref16_later.bits5 (fun HT_ HW_ => ?_)
       generalize wr.drew = w12 at BK327 HB hx328_0 hx328_1 hx328_2 hx328_3 hx328_4 hx328_5 hx330_0 hx330_1 hx330_2 hx330_3 hx330_4 hx330_5 hHeld ⊢
       refine pure_ (i := 0) (N := some 15) (v := ?_) (a' := ?_) #[Y,Z,Z,Z,Z,Z,Z,Z,Z,Z,Z,Z,Z,Z,Z,Z,Z,Z,Z,Z,Z] rfl rfl (any_of HT_.out (by kernel_rfl)) (fun _ _ _ h => h) (Or.inl ⟨by rfl, ?_⟩) ?_ ?_
       rotate_left
       ·intro w'
        go_simp
        with_reducible rfl
       rotate_left
       ·simp only [Act.put, List.setIfInBounds_toArray, List.set_cons_zero, List.set_cons_succ, i64_w, i32_w]
        rfl
       refine pure_ (i := 1) (N := some 16) (v := ?_) (a' := ?_) #[Y,Y,Z,Z,Z,Z,Z,Z,Z,Z,Z,Z,Z,Z,Z,Z,Z,Z,Z,Z,Z] rfl rfl (any_of HT_.out (by kernel_rfl)) (fun _ _ _ h => h) (Or.inl ⟨by rfl, ?_⟩) ?_ ?_
       rotate_left
       ·intro w'
        go_simp
        with_reducible rfl
       rotate_left
       ·simp only [Act.put, List.setIfInBounds_toArray, List.set_cons_zero, List.set_cons_succ, i64_w, i32_w]
        rfl
       refine pure_ (i := 2) (N := some 17) (v := ?_) (a' := ?_) #[Y,Y,Y,Z,Z,Z,Z,Z,Z,Z,Z,Z,Z,Z,Z,Z,Z,Z,Z,Z,Z] rfl rfl (any_of HT_.out (by kernel_rfl)) (fun _ _ _ h => h) (Or.inl ⟨by rfl, ?_⟩) ?_ ?_
       rotate_left
       ·intro w'
        go_simp
        with_reducible rfl
       rotate_left
       ·simp only [Act.put, List.setIfInBounds_toArray, List.set_cons_zero, List.set_cons_succ, i64_w, i32_w]
        rfl
       refine pure_ (i := 3) (N := some 18) (v := ?_) (a' := ?_) #[Y,Y,Y,Y,Z,Z,Z,Z,Z,Z,Z,Z,Z,Z,Z,Z,Z,Z,Z,Z,Z] rfl rfl (any_of HT_.out (by kernel_rfl)) (fun _ _ _ h => h) (Or.inl ⟨by rfl, ?_⟩) ?_ ?_
       rotate_left
       ·intro w'
        go_simp
        with_reducible rfl
       rotate_left
       ·simp only [Act.put, List.setIfInBounds_toArray, List.set_cons_zero, List.set_cons_succ, i64_w, i32_w]
        rfl
       refine pure_ (i := 5) (N := some 20) (v := ?_) (a' := ?_) #[Y,Y,Y,Y,Z,Y,Z,Z,Z,Z,Z,Z,Z,Z,Z,Z,Z,Z,Z,Z,Z] rfl rfl (any_of HT_.out (by kernel_rfl)) (fun _ _ _ h => h) (Or.inl ⟨by rfl, ?_⟩) ?_ ?_
       rotate_left
       ·intro w'
        go_simp
        with_reducible rfl
       rotate_left
       ·simp only [Act.put, List.setIfInBounds_toArray, List.set_cons_zero, List.set_cons_succ, i64_w, i32_w]
        rfl
       refine take_ (i := 4) (N := some 19) (v := ?_) (a' := ?_) #[Y,Y,Y,Y,Y,Y,Z,Z,Z,Z,Z,Z,Z,Z,Z,Z,Z,Z,Z,Z,Z] rfl rfl (take_ofW HT_.out HW_.out (by kernel_rfl)) (fun _ _ _ h => h) (Or.inl ⟨by rfl, ?_⟩) hHeld ?_ ?_
       rotate_left
       ·rintro w' ⟨s0, s1, s2, s3, s4, s5, s6, s7, s8, s9, s10, s11, s12, s13, s14, s15, s16, s17⟩
        go_simp
        with_reducible rfl
       rotate_left
       ·simp only [Act.put, List.setIfInBounds_toArray, List.set_cons_zero, List.set_cons_succ, i64_w, i32_w]
        rfl
       refine one_ (i := 6) (N := some 21) #[Y,Y,Y,Y,Y,Y,Y,Z,Z,Z,Z,Z,Z,Z,Z,Z,Z,Z,Z,Z,Z] rfl rfl (one_of HT_.out (by kernel_rfl)) (by decide) (fun K hK => ?_)
       refine goes_ Tryz.func104 (by kernel_rfl) rfl #[.slice (some ad328) l0.length c0, .agg #[.int .i64 ((rd_T81 l0 x8_1).f0), .int .i64 ((rd_T81 l0 x8_1).f1), .string ((rd_T81 l0 x8_1).f2), .int .u64 ((rd_T81 l0 x8_1).f3), .bool ((rd_T81 l0 x8_1).f4), .bool ((rd_T81 l0 x8_1).f5)], .int .i64 a2] (by rfl) rfl rfl argA ?_
       with_reducible refine (rootcellarref16_newest.calls k1 _ _ l0 ((rd_T81 l0 x8_1).f0) ((rd_T81 l0 x8_1).f1) ((rd_T81 l0 x8_1).f2) ((rd_T81 l0 x8_1).f3) ((rd_T81 l0 x8_1).f4) ((rd_T81 l0 x8_1).f5) a2 true _ ?side1 ?side2 A7.out).mono ?_
       (case side1 => repeat (first | exact (Kd.C_below HR0.out HB.out) | (with_reducible refine Kd.C_alloc ?_ _) | (with_reducible refine Kd.C_drewN ?_ _) | (with_reducible refine Kd.C_drew ?_)))
       (case side2 => exact HC0.out)
       rintro e w13 ⟨rfl, hb⟩
       refine ⟨_, rfl, ?_⟩
       have n0_ := Aside0.mk (blk_below (g := gb327) (o := .cells #[.int .i64 a1_0, .int .i64 a1_1, .string a1_2, .int .u64 a1_3, .bool a1_4, .bool a1_5] 81 (0, 0)) (blkN BK327.out) hb)
       have n1_ := Aside0.mk (below_step (by repeat (first | (with_reducible first | exact HB.out | apply below_alloc | apply pw_below_drewN | apply below_drew1 | refine below_set ?_ GE327.out) | exact HB.out)) hb)
       clear BK327
       clear HB
       have BK327 := n0_
       have HB := n1_
       clear n0_ n1_
       (try clear hb)
       (try clear hb2)
       (try clear hk)
       (try clear hi)
       refine hK.out _ _ ⟨(blk_cell BK327.out 0).trans rfl, (blk_cell BK327.out 1).trans rfl, (blk_cell BK327.out 2).trans rfl, (blk_cell BK327.out 3).trans rfl, (blk_cell BK327.out 4).trans rfl, (blk_cell BK327.out 5).trans rfl, ((HB.out.cell (World.block_lt_of_cell? w _ hw328_0)).trans hw328_0), ((HB.out.cell (World.block_lt_of_cell? w _ hw328_1)).trans hw328_1), ((HB.out.cell (World.block_lt_of_cell? w _ hw328_2)).trans hw328_2), ((HB.out.cell (World.block_lt_of_cell? w _ hw328_3)).trans hw328_3), ((HB.out.cell (World.block_lt_of_cell? w _ hw328_4)).trans hw328_4), ((HB.out.cell (World.block_lt_of_cell? w _ hw328_5)).trans hw328_5), ((HB.out.cell (World.block_lt_of_cell? w _ hw330_0)).trans hw330_0), ((HB.out.cell (World.block_lt_of_cell? w _ hw330_1)).trans hw330_1), ((HB.out.cell (World.block_lt_of_cell? w _ hw330_2)).trans hw330_2), ((HB.out.cell (World.block_lt_of_cell? w _ hw330_3)).trans hw330_3), ((HB.out.cell (World.block_lt_of_cell? w _ hw330_4)).trans hw330_4), ((HB.out.cell (World.block_lt_of_cell? w _ hw330_5)).trans hw330_5)⟩ (fun hHeld => ?_)
       clear hK K
       refine norm_ (a' := ?_) ?_ ?_
       rotate_left
       ·show Act.put _ (some 21) _ = _
        simp only [Act.put, List.setIfInBounds_toArray, List.set_cons_zero, List.set_cons_succ, i64_w, i32_w]
        rfl
       refine pure_ (i := 7) (N := some 22) (v := ?_) (a' := ?_) #[Y,Y,Y,Y,Y,Y,Y,Y,Z,Z,Z,Z,Z,Z,Z,Z,Z,Z,Z,Z,Z] rfl rfl (any_of HT_.out (by kernel_rfl)) (fun _ _ _ h => h) (Or.inl ⟨by rfl, ?_⟩) ?_ ?_
       rotate_left
       ·intro w'
        go_simp
        with_reducible rfl
       rotate_left
       ·simp only [Act.put, List.setIfInBounds_toArray, List.set_cons_zero, List.set_cons_succ, i64_w, i32_w]
        rfl
       refine pure_ (i := 8) (N := some 23) (v := ?_) (a' := ?_) #[Y,Y,Y,Y,Y,Y,Y,Y,Y,Z,Z,Z,Z,Z,Z,Z,Z,Z,Z,Z,Z] rfl rfl (any_of HT_.out (by kernel_rfl)) (fun _ _ _ h => h) (Or.inl ⟨by rfl, ?_⟩) ?_ ?_
       rotate_left
       ·intro w'
        go_simp
        with_reducible rfl
       rotate_left
       ·simp only [Act.put, List.setIfInBounds_toArray, List.set_cons_zero, List.set_cons_succ, i64_w, i32_w]
        rfl
       refine pure_ (i := 9) (N := some 24) (v := ?_) (a' := ?_) #[Y,Y,Y,Y,Y,Y,Y,Y,Y,Y,Z,Z,Z,Z,Z,Z,Z,Z,Z,Z,Z] rfl rfl (any_of HT_.out (by kernel_rfl)) (fun _ _ _ h => h) (Or.inl ⟨by rfl, ?_⟩) ?_ ?_
       rotate_left
       ·intro w'
        go_simp
        with_reducible rfl
       rotate_left
       ·simp only [Act.put, List.setIfInBounds_toArray, List.set_cons_zero, List.set_cons_succ, i64_w, i32_w]
        rfl
       refine pure_ (i := 10) (N := some 25) (v := ?_) (a' := ?_) #[Y,Y,Y,Y,Y,Y,Y,Y,Y,Y,Y,Z,Z,Z,Z,Z,Z,Z,Z,Z,Z] rfl rfl (any_of HT_.out (by kernel_rfl)) (fun _ _ _ h => h) (Or.inl ⟨by rfl, ?_⟩) ?_ ?_
       rotate_left
       ·intro w'
        go_simp
        with_reducible rfl
       rotate_left
       ·simp only [Act.put, List.setIfInBounds_toArray, List.set_cons_zero, List.set_cons_succ, i64_w, i32_w]
        rfl
       refine pure_ (i := 11) (N := some 26) (v := ?_) (a' := ?_) #[Y,Y,Y,Y,Y,Y,Y,Y,Y,Y,Y,Y,Z,Z,Z,Z,Z,Z,Z,Z,Z] rfl rfl (any_of HT_.out (by kernel_rfl)) (fun _ _ _ h => h) (Or.inl ⟨by rfl, ?_⟩) ?_ ?_
       rotate_left
       ·intro w'
        go_simp
        with_reducible rfl
       rotate_left
       ·simp only [Act.put, List.setIfInBounds_toArray, List.set_cons_zero, List.set_cons_succ, i64_w, i32_w]
        rfl
       refine pure_ (i := 12) (N := some 27) (v := ?_) (a' := ?_) #[Y,Y,Y,Y,Y,Y,Y,Y,Y,Y,Y,Y,Y,Z,Z,Z,Z,Z,Z,Z,Z] rfl rfl (any_of HT_.out (by kernel_rfl)) (fun _ _ _ h => h) (Or.inl ⟨by rfl, ?_⟩) ?_ ?_
       rotate_left
       ·intro w'
        go_simp
        with_reducible rfl
       rotate_left
       ·simp only [Act.put, List.setIfInBounds_toArray, List.set_cons_zero, List.set_cons_succ, i64_w, i32_w]
        rfl
       refine pure_ (i := 15) (N := some 30) (v := ?_) (a' := ?_) #[Y,Y,Y,Y,Y,Y,Y,Y,Y,Y,Y,Y,Y,Z,Z,Y,Z,Z,Z,Z,Z] rfl rfl (any_of HT_.out (by kernel_rfl)) (fun _ _ _ h => h) (Or.inl ⟨by rfl, ?_⟩) ?_ ?_
       rotate_left
       ·intro w'
        go_simp
        with_reducible rfl
       rotate_left
       ·simp only [Act.put, List.setIfInBounds_toArray, List.set_cons_zero, List.set_cons_succ, i64_w, i32_w]
        rfl
       refine pure_ (i := 16) (N := some 31) (v := ?_) (a' := ?_) #[Y,Y,Y,Y,Y,Y,Y,Y,Y,Y,Y,Y,Y,Z,Z,Y,Y,Z,Z,Z,Z] rfl rfl (any_of HT_.out (by kernel_rfl)) (fun _ _ _ h => h) (Or.inl ⟨by rfl, ?_⟩) ?_ ?_
       rotate_left
       ·intro w'
        go_simp
        with_reducible rfl
       rotate_left
       ·simp only [Act.put, List.setIfInBounds_toArray, List.set_cons_zero, List.set_cons_succ, i64_w, i32_w]
        rfl
       refine take_ (i := 13) (N := some 28) (v := ?_) (a' := ?_) #[Y,Y,Y,Y,Y,Y,Y,Y,Y,Y,Y,Y,Y,Y,Z,Y,Y,Z,Z,Z,Z] rfl rfl (take_ofW HT_.out HW_.out (by kernel_rfl)) (fun _ _ _ h => h) (Or.inl ⟨by rfl, ?_⟩) hHeld ?_ ?_
       rotate_left
       ·rintro w' ⟨s0, s1, s2, s3, s4, s5, s6, s7, s8, s9, s10, s11, s12, s13, s14, s15, s16, s17⟩
        go_simp
        with_reducible rfl
       rotate_left
       ·simp only [Act.put, List.setIfInBounds_toArray, List.set_cons_zero, List.set_cons_succ, i64_w, i32_w]
        rfl
       refine take_ (i := 17) (N := some 32) (v := ?_) (a' := ?_) #[Y,Y,Y,Y,Y,Y,Y,Y,Y,Y,Y,Y,Y,Y,Z,Y,Y,Y,Z,Z,Z] rfl rfl (take_ofW HT_.out HW_.out (by kernel_rfl)) (fun _ _ _ h => h) (Or.inl ⟨by rfl, ?_⟩) hHeld ?_ ?_
       rotate_left
       ·rintro w' ⟨s0, s1, s2, s3, s4, s5, s6, s7, s8, s9, s10, s11, s12, s13, s14, s15, s16, s17⟩
        go_simp
        with_reducible rfl
       rotate_left
       ·simp only [Act.put, List.setIfInBounds_toArray, List.set_cons_zero, List.set_cons_succ, i64_w, i32_w]
        rfl
       refine one_ (i := 14) (N := some 29) #[Y,Y,Y,Y,Y,Y,Y,Y,Y,Y,Y,Y,Y,Y,Y,Y,Y,Y,Z,Z,Z] rfl rfl (one_of HT_.out (by kernel_rfl)) (by decide) (fun K hK => ?_)
       refine goes_ Tryz.func25 (by kernel_rfl) rfl #[.int .i64 a2, .int .u64 ((rd_T81 l0 x8_1).f3)] (by rfl) rfl rfl argA ?_
       with_reducible refine (rootcellarref15_Bucket.calls k1 a2 ((rd_T81 l0 x8_1).f3) t331 _ A9.out).mono ?_
       rintro e w' ⟨rfl, ⟨nd, rfl⟩⟩
       refine ⟨_, rfl, ?_⟩
       refine hK.out _ _ ⟨(blk_cell BK327.out 0).trans rfl, (blk_cell BK327.out 1).trans rfl, (blk_cell BK327.out 2).trans rfl, (blk_cell BK327.out 3).trans rfl, (blk_cell BK327.out 4).trans rfl, (blk_cell BK327.out 5).trans rfl, ((HB.out.cell (World.block_lt_of_cell? w _ hw328_0)).trans hw328_0), ((HB.out.cell (World.block_lt_of_cell? w _ hw328_1)).trans hw328_1), ((HB.out.cell (World.block_lt_of_cell? w _ hw328_2)).trans hw328_2), ((HB.out.cell (World.block_lt_of_cell? w _ hw328_3)).trans hw328_3), ((HB.out.cell (World.block_lt_of_cell? w _ hw328_4)).trans hw328_4), ((HB.out.cell (World.block_lt_of_cell? w _ hw328_5)).trans hw328_5), ((HB.out.cell (World.block_lt_of_cell? w _ hw330_0)).trans hw330_0), ((HB.out.cell (World.block_lt_of_cell? w _ hw330_1)).trans hw330_1), ((HB.out.cell (World.block_lt_of_cell? w _ hw330_2)).trans hw330_2), ((HB.out.cell (World.block_lt_of_cell? w _ hw330_3)).trans hw330_3), ((HB.out.cell (World.block_lt_of_cell? w _ hw330_4)).trans hw330_4), ((HB.out.cell (World.block_lt_of_cell? w _ hw330_5)).trans hw330_5)⟩ (fun hHeld => ?_)
       clear hK K
       refine norm_ (a' := ?_) ?_ ?_
       rotate_left
       ·show Act.put _ (some 29) _ = _
        simp only [Act.put, List.setIfInBounds_toArray, List.set_cons_zero, List.set_cons_succ, i64_w, i32_w]
        rfl
       refine one_ (i := 18) (N := some 33) #[Y,Y,Y,Y,Y,Y,Y,Y,Y,Y,Y,Y,Y,Y,Y,Y,Y,Y,Y,Z,Z] rfl rfl (one_of HT_.out (by kernel_rfl)) (by decide) (fun K hK => ?_)
       refine goes_ Tryz.func25 (by kernel_rfl) rfl #[.int .i64 a2, .int .u64 a1_3] (by rfl) rfl rfl argA ?_
       with_reducible refine (rootcellarref15_Bucket.calls k1 a2 a1_3 t332 _ A10.out).mono ?_
       rintro e w' ⟨rfl, ⟨nd, rfl⟩⟩
       refine ⟨_, rfl, ?_⟩
       refine hK.out _ _ ⟨(blk_cell BK327.out 0).trans rfl, (blk_cell BK327.out 1).trans rfl, (blk_cell BK327.out 2).trans rfl, (blk_cell BK327.out 3).trans rfl, (blk_cell BK327.out 4).trans rfl, (blk_cell BK327.out 5).trans rfl, ((HB.out.cell (World.block_lt_of_cell? w _ hw328_0)).trans hw328_0), ((HB.out.cell (World.block_lt_of_cell? w _ hw328_1)).trans hw328_1), ((HB.out.cell (World.block_lt_of_cell? w _ hw328_2)).trans hw328_2), ((HB.out.cell (World.block_lt_of_cell? w _ hw328_3)).trans hw328_3), ((HB.out.cell (World.block_lt_of_cell? w _ hw328_4)).trans hw328_4), ((HB.out.cell (World.block_lt_of_cell? w _ hw328_5)).trans hw328_5), ((HB.out.cell (World.block_lt_of_cell? w _ hw330_0)).trans hw330_0), ((HB.out.cell (World.block_lt_of_cell? w _ hw330_1)).trans hw330_1), ((HB.out.cell (World.block_lt_of_cell? w _ hw330_2)).trans hw330_2), ((HB.out.cell (World.block_lt_of_cell? w _ hw330_3)).trans hw330_3), ((HB.out.cell (World.block_lt_of_cell? w _ hw330_4)).trans hw330_4), ((HB.out.cell (World.block_lt_of_cell? w _ hw330_5)).trans hw330_5)⟩ (fun hHeld => ?_)
       clear hK K
       refine norm_ (a' := ?_) ?_ ?_
       rotate_left
       ·show Act.put _ (some 33) _ = _
        simp only [Act.put, List.setIfInBounds_toArray, List.set_cons_zero, List.set_cons_succ, i64_w, i32_w]
        rfl
       refine pure_ (i := 19) (N := some 34) (v := ?_) (a' := ?_) #[Y,Y,Y,Y,Y,Y,Y,Y,Y,Y,Y,Y,Y,Y,Y,Y,Y,Y,Y,Y,Z] rfl rfl (any_of HT_.out (by kernel_rfl)) (fun _ _ _ h => h) (Or.inl ⟨by rfl, ?_⟩) ?_ ?_
       rotate_left
       ·intro w'
        go_simp
        with_reducible rfl
       rotate_left
       ·simp only [Act.put, List.setIfInBounds_toArray, List.set_cons_zero, List.set_cons_succ, i64_w, i32_w]
        rfl
       refine pure_ (i := 20) (N := some 35) (v := ?_) (a' := ?_) #[Y,Y,Y,Y,Y,Y,Y,Y,Y,Y,Y,Y,Y,Y,Y,Y,Y,Y,Y,Y,Y] rfl rfl (any_of HT_.out (by kernel_rfl)) (fun _ _ _ h => h) (Or.inl ⟨by rfl, ?_⟩) ?_ ?_
       rotate_left
       ·intro w'
        go_simp
        with_reducible rfl
       rotate_left
       ·simp only [Act.put, List.setIfInBounds_toArray, List.set_cons_zero, List.set_cons_succ, i64_w, i32_w]
        rfl
       refine done_ (done_of HT_.out (by kernel_rfl)) ?_
       try go_wp2
       go_roundg k1
       case measure => have := HK1.out; omega
       case rel => exact ⟨(wrap64 (x7_1 + 1)), (wrap64 (x8_1 + 1)), (by first | rfl | (simp; done) | (simp [*]; done)), (by first | rfl | (simp; done) | (simp [*]; done)), H', ⟨by have := HK1.out; omega⟩, ⟨by (with_reducible repeat (first | refine blk_drewN ?_ _ | refine blk_drew ?_ | refine blk_alloc ?_ _)); exact BK327.out⟩, ⟨by repeat (first | (with_reducible first | exact HB.out | apply below_alloc | apply pw_below_drewN | apply below_drew1 | refine below_set ?_ GE327.out) | exact HB.out)⟩⟩
      ·rw [if_neg c11] at H
       have c11b0 : decide (t332 < t331) = false := decide_eq_false c11
       clear c11
       have H' := Aside0.mk H
       clear H
       try go_wp2
       have n0_ := Aside0.mk (blk_drew BK327.out)
       have n1_ := Aside0.mk (below_drew1 HB.out)
       clear BK327
       clear HB
       have BK327 := n0_
       have HB := n1_
       clear n0_ n1_
       have p328 : 0 ≤ (x8_1 : Int) := of_decide_eq_true asA
       have q328 : x8_1 < (l0.length : Int) := of_decide_eq_true asA
       obtain ⟨ad328, e328, hx328_0, hx328_1, hx328_2, hx328_3, hx328_4, hx328_5⟩ := at_T81 HR0.out x8_1 p328 q328
       have hw328_5 := hx328_5
       have hw328_4 := hx328_4
       have hw328_3 := hx328_3
       have hw328_2 := hx328_2
       have hw328_1 := hx328_1
       have hw328_0 := hx328_0
       cases e328
       replace hx328_0 := (HB.out.cell (World.block_lt_of_cell? w _ hx328_0)).trans hx328_0
       replace hx328_1 := (HB.out.cell (World.block_lt_of_cell? w _ hx328_1)).trans hx328_1
       replace hx328_2 := (HB.out.cell (World.block_lt_of_cell? w _ hx328_2)).trans hx328_2
       replace hx328_3 := (HB.out.cell (World.block_lt_of_cell? w _ hx328_3)).trans hx328_3
       replace hx328_4 := (HB.out.cell (World.block_lt_of_cell? w _ hx328_4)).trans hx328_4
       replace hx328_5 := (HB.out.cell (World.block_lt_of_cell? w _ hx328_5)).trans hx328_5
       replace p328 := eq_true p328
       replace q328 := eq_true q328
       have p330 : 0 ≤ (x8_1 : Int) := of_decide_eq_true asA
       have q330 : x8_1 < (l0.length : Int) := of_decide_eq_true asA
       obtain ⟨ad330, e330, hx330_0, hx330_1, hx330_2, hx330_3, hx330_4, hx330_5⟩ := at_T81 HR0.out x8_1 p330 q330
       have hw330_5 := hx330_5
       have hw330_4 := hx330_4
       have hw330_3 := hx330_3
       have hw330_2 := hx330_2
       have hw330_1 := hx330_1
       have hw330_0 := hx330_0
       obtain rfl : ad328 = ad330 := (by injection e330)
       replace hx330_0 := (HB.out.cell (World.block_lt_of_cell? w _ hx330_0)).trans hx330_0
       replace hx330_1 := (HB.out.cell (World.block_lt_of_cell? w _ hx330_1)).trans hx330_1
       replace hx330_2 := (HB.out.cell (World.block_lt_of_cell? w _ hx330_2)).trans hx330_2
       replace hx330_3 := (HB.out.cell (World.block_lt_of_cell? w _ hx330_3)).trans hx330_3
       replace hx330_4 := (HB.out.cell (World.block_lt_of_cell? w _ hx330_4)).trans hx330_4
       replace hx330_5 := (HB.out.cell (World.block_lt_of_cell? w _ hx330_5)).trans hx330_5
       replace p330 := eq_true p330
       replace q330 := eq_true q330
       refine start_ (n := 21) (S := fun w' => w'.cell? ⟨gb327, 0, none⟩ = some (.int .i64 a1_0) ∧ w'.cell? ⟨gb327, 1, none⟩ = some (.int .i64 a1_1) ∧ w'.cell? ⟨gb327, 2, none⟩ = some (.string a1_2) ∧ w'.cell? ⟨gb327, 3, none⟩ = some (.int .u64 a1_3) ∧ w'.cell? ⟨gb327, 4, none⟩ = some (.bool a1_4) ∧ w'.cell? ⟨gb327, 5, none⟩ = some (.bool a1_5) ∧ w'.cell? (ad328.add ((x8_1).toNat * 6)) = some (.int .i64 ((rd_T81 l0 x8_1).f0)) ∧ w'.cell? ⟨(ad328.add ((x8_1).toNat * 6)).block, (ad328.add ((x8_1).toNat * 6)).off + 1, none⟩ = some (.int .i64 ((rd_T81 l0 x8_1).f1)) ∧ w'.cell? ⟨(ad328.add ((x8_1).toNat * 6)).block, (ad328.add ((x8_1).toNat * 6)).off + 2, none⟩ = some (.string ((rd_T81 l0 x8_1).f2)) ∧ w'.cell? ⟨(ad328.add ((x8_1).toNat * 6)).block, (ad328.add ((x8_1).toNat * 6)).off + 3, none⟩ = some (.int .u64 ((rd_T81 l0 x8_1).f3)) ∧ w'.cell? ⟨(ad328.add ((x8_1).toNat * 6)).block, (ad328.add ((x8_1).toNat * 6)).off + 4, none⟩ = some (.bool ((rd_T81 l0 x8_1).f4)) ∧ w'.cell? ⟨(ad328.add ((x8_1).toNat * 6)).block, (ad328.add ((x8_1).toNat * 6)).off + 5, none⟩ = some (.bool ((rd_T81 l0 x8_1).f5)) ∧ w'.cell? (ad328.add ((x8_1).toNat * 6)) = some (.int .i64 ((rd_T81 l0 x8_1).f0)) ∧ w'.cell? ⟨(ad328.add ((x8_1).toNat * 6)).block, (ad328.add ((x8_1).toNat * 6)).off + 1, none⟩ = some (.int .i64 ((rd_T81 l0 x8_1).f1)) ∧ w'.cell? ⟨(ad328.add ((x8_1).toNat * 6)).block, (ad328.add ((x8_1).toNat * 6)).off + 2, none⟩ = some (.string ((rd_T81 l0 x8_1).f2)) ∧ w'.cell? ⟨(ad328.add ((x8_1).toNat * 6)).block, (ad328.add ((x8_1).toNat * 6)).off + 3, none⟩ = some (.int .u64 ((rd_T81 l0 x8_1).f3)) ∧ w'.cell? ⟨(ad328.add ((x8_1).toNat * 6)).block, (ad328.add ((x8_1).toNat * 6)).off + 4, none⟩ = some (.bool ((rd_T81 l0 x8_1).f4)) ∧ w'.cell? ⟨(ad328.add ((x8_1).toNat * 6)).block, (ad328.add ((x8_1).toNat * 6)).off + 5, none⟩ = some (.bool ((rd_T81 l0 x8_1).f5))) (ds := []) #[Z,Z,Z,Z,Z,Z,Z,Z,Z,Z,Z,Z,Z,Z,Z,Z,Z,Z,Z,Z,Z] (by kernel_rfl) rfl rfl ⟨(blk_cell BK327.out 0).trans rfl, (blk_cell BK327.out 1).trans rfl, (blk_cell BK327.out 2).trans rfl, (blk_cell BK327.out 3).trans rfl, (blk_cell BK327.out 4).trans rfl, (blk_cell BK327.out 5).trans rfl, ((HB.out.cell (World.block_lt_of_cell? w _ hw328_0)).trans hw328_0), ((HB.out.cell (World.block_lt_of_cell? w _ hw328_1)).trans hw328_1), ((HB.out.cell (World.block_lt_of_cell? w _ hw328_2)).trans hw328_2), ((HB.out.cell (World.block_lt_of_cell? w _ hw328_3)).trans hw328_3), ((HB.out.cell (World.block_lt_of_cell? w _ hw328_4)).trans hw328_4), ((HB.out.cell (World.block_lt_of_cell? w _ hw328_5)).trans hw328_5), ((HB.out.cell (World.block_lt_of_cell? w _ hw330_0)).trans hw330_0), ((HB.out.cell (World.block_lt_of_cell? w _ hw330_1)).trans hw330_1), ((HB.out.cell (World.block_lt_of_cell? w _ hw330_2)).trans hw330_2), ((HB.out.cell (World.block_lt_of_cell? w _ hw330_3)).trans hw330_3), ((HB.out.cell (World.block_lt_of_cell? w _ hw330_4)).trans hw330_4), ((HB.out.cell (World.block_lt_of_cell? w _ hw330_5)).trans hw330_5)⟩ (fun hHeld => ?_); refine with_tabW rootcellarref16_later.tab5 rootcellarref16_later.bits5 (fun HT_ HW_ => ?_)
       generalize wr.drew = w14 at BK327 HB hx328_0 hx328_1 hx328_2 hx328_3 hx328_4 hx328_5 hx330_0 hx330_1 hx330_2 hx330_3 hx330_4 hx330_5 hHeld ⊢
       refine pure_ (i := 0) (N := some 15) (v := ?_) (a' := ?_) #[Y,Z,Z,Z,Z,Z,Z,Z,Z,Z,Z,Z,Z,Z,Z,Z,Z,Z,Z,Z,Z] rfl rfl (any_of HT_.out (by kernel_rfl)) (fun _ _ _ h => h) (Or.inl ⟨by rfl, ?_⟩) ?_ ?_
       rotate_left
       ·intro w'
        go_simp
        with_reducible rfl
       rotate_left
       ·simp only [Act.put, List.setIfInBounds_toArray, List.set_cons_zero, List.set_cons_succ, i64_w, i32_w]
        rfl
       refine pure_ (i := 1) (N := some 16) (v := ?_) (a' := ?_) #[Y,Y,Z,Z,Z,Z,Z,Z,Z,Z,Z,Z,Z,Z,Z,Z,Z,Z,Z,Z,Z] rfl rfl (any_of HT_.out (by kernel_rfl)) (fun _ _ _ h => h) (Or.inl ⟨by rfl, ?_⟩) ?_ ?_
       rotate_left
       ·intro w'
        go_simp
        with_reducible rfl
       rotate_left
       ·simp only [Act.put, List.setIfInBounds_toArray, List.set_cons_zero, List.set_cons_succ, i64_w, i32_w]
        rfl
       refine pure_ (i := 2) (N := some 17) (v := ?_) (a' := ?_) #[Y,Y,Y,Z,Z,Z,Z,Z,Z,Z,Z,Z,Z,Z,Z,Z,Z,Z,Z,Z,Z] rfl rfl (any_of HT_.out (by kernel_rfl)) (fun _ _ _ h => h) (Or.inl ⟨by rfl, ?_⟩) ?_ ?_
       rotate_left
       ·intro w'
        go_simp
        with_reducible rfl
       rotate_left
       ·simp only [Act.put, List.setIfInBounds_toArray, List.set_cons_zero, List.set_cons_succ, i64_w, i32_w]
        rfl
       refine pure_ (i := 3) (N := some 18) (v := ?_) (a' := ?_) #[Y,Y,Y,Y,Z,Z,Z,Z,Z,Z,Z,Z,Z,Z,Z,Z,Z,Z,Z,Z,Z] rfl rfl (any_of HT_.out (by kernel_rfl)) (fun _ _ _ h => h) (Or.inl ⟨by rfl, ?_⟩) ?_ ?_
       rotate_left
       ·intro w'
        go_simp
        with_reducible rfl
       rotate_left
       ·simp only [Act.put, List.setIfInBounds_toArray, List.set_cons_zero, List.set_cons_succ, i64_w, i32_w]
        rfl
       refine pure_ (i := 5) (N := some 20) (v := ?_) (a' := ?_) #[Y,Y,Y,Y,Z,Y,Z,Z,Z,Z,Z,Z,Z,Z,Z,Z,Z,Z,Z,Z,Z] rfl rfl (any_of HT_.out (by kernel_rfl)) (fun _ _ _ h => h) (Or.inl ⟨by rfl, ?_⟩) ?_ ?_
       rotate_left
       ·intro w'
        go_simp
        with_reducible rfl
       rotate_left
       ·simp only [Act.put, List.setIfInBounds_toArray, List.set_cons_zero, List.set_cons_succ, i64_w, i32_w]
        rfl
       refine take_ (i := 4) (N := some 19) (v := ?_) (a' := ?_) #[Y,Y,Y,Y,Y,Y,Z,Z,Z,Z,Z,Z,Z,Z,Z,Z,Z,Z,Z,Z,Z] rfl rfl (take_ofW HT_.out HW_.out (by kernel_rfl)) (fun _ _ _ h => h) (Or.inl ⟨by rfl, ?_⟩) hHeld ?_ ?_
       rotate_left
       ·rintro w' ⟨s0, s1, s2, s3, s4, s5, s6, s7, s8, s9, s10, s11, s12, s13, s14, s15, s16, s17⟩
        go_simp
        with_reducible rfl
       rotate_left
       ·simp only [Act.put, List.setIfInBounds_toArray, List.set_cons_zero, List.set_cons_succ, i64_w, i32_w]
        rfl
       refine one_ (i := 6) (N := some 21) #[Y,Y,Y,Y,Y,Y,Y,Z,Z,Z,Z,Z,Z,Z,Z,Z,Z,Z,Z,Z,Z] rfl rfl (one_of HT_.out (by kernel_rfl)) (by decide) (fun K hK => ?_)
       refine goes_ Tryz.func104 (by kernel_rfl) rfl #[.slice (some ad328) l0.length c0, .agg #[.int .i64 ((rd_T81 l0 x8_1).f0), .int .i64 ((rd_T81 l0 x8_1).f1), .string ((rd_T81 l0 x8_1).f2), .int .u64 ((rd_T81 l0 x8_1).f3), .bool ((rd_T81 l0 x8_1).f4), .bool ((rd_T81 l0 x8_1).f5)], .int .i64 a2] (by rfl) rfl rfl argA ?_
       with_reducible refine (rootcellarref16_newest.calls k1 _ _ l0 ((rd_T81 l0 x8_1).f0) ((rd_T81 l0 x8_1).f1) ((rd_T81 l0 x8_1).f2) ((rd_T81 l0 x8_1).f3) ((rd_T81 l0 x8_1).f4) ((rd_T81 l0 x8_1).f5) a2 true _ ?side1 ?side2 A7.out).mono ?_
       (case side1 => repeat (first | exact (Kd.C_below HR0.out HB.out) | (with_reducible refine Kd.C_alloc ?_ _) | (with_reducible refine Kd.C_drewN ?_ _) | (with_reducible refine Kd.C_drew ?_)))
       (case side2 => exact HC0.out)
       rintro e w15 ⟨rfl, hb⟩
       refine ⟨_, rfl, ?_⟩
       have n0_ := Aside0.mk (blk_below (g := gb327) (o := .cells #[.int .i64 a1_0, .int .i64 a1_1, .string a1_2, .int .u64 a1_3, .bool a1_4, .bool a1_5] 81 (0, 0)) (blkN BK327.out) hb)
       have n1_ := Aside0.mk (below_step (by repeat (first | (with_reducible first | exact HB.out | apply below_alloc | apply pw_below_drewN | apply below_drew1 | refine below_set ?_ GE327.out) | exact HB.out)) hb)
       clear BK327
       clear HB
       have BK327 := n0_
       have HB := n1_
       clear n0_ n1_
       (try clear hb)
       (try clear hb2)
       (try clear hk)
       (try clear hi)
       refine hK.out _ _ ⟨(blk_cell BK327.out 0).trans rfl, (blk_cell BK327.out 1).trans rfl, (blk_cell BK327.out 2).trans rfl, (blk_cell BK327.out 3).trans rfl, (blk_cell BK327.out 4).trans rfl, (blk_cell BK327.out 5).trans rfl, ((HB.out.cell (World.block_lt_of_cell? w _ hw328_0)).trans hw328_0), ((HB.out.cell (World.block_lt_of_cell? w _ hw328_1)).trans hw328_1), ((HB.out.cell (World.block_lt_of_cell? w _ hw328_2)).trans hw328_2), ((HB.out.cell (World.block_lt_of_cell? w _ hw328_3)).trans hw328_3), ((HB.out.cell (World.block_lt_of_cell? w _ hw328_4)).trans hw328_4), ((HB.out.cell (World.block_lt_of_cell? w _ hw328_5)).trans hw328_5), ((HB.out.cell (World.block_lt_of_cell? w _ hw330_0)).trans hw330_0), ((HB.out.cell (World.block_lt_of_cell? w _ hw330_1)).trans hw330_1), ((HB.out.cell (World.block_lt_of_cell? w _ hw330_2)).trans hw330_2), ((HB.out.cell (World.block_lt_of_cell? w _ hw330_3)).trans hw330_3), ((HB.out.cell (World.block_lt_of_cell? w _ hw330_4)).trans hw330_4), ((HB.out.cell (World.block_lt_of_cell? w _ hw330_5)).trans hw330_5)⟩ (fun hHeld => ?_)
       clear hK K
       refine norm_ (a' := ?_) ?_ ?_
       rotate_left
       ·show Act.put _ (some 21) _ = _
        simp only [Act.put, List.setIfInBounds_toArray, List.set_cons_zero, List.set_cons_succ, i64_w, i32_w]
        rfl
       refine pure_ (i := 7) (N := some 22) (v := ?_) (a' := ?_) #[Y,Y,Y,Y,Y,Y,Y,Y,Z,Z,Z,Z,Z,Z,Z,Z,Z,Z,Z,Z,Z] rfl rfl (any_of HT_.out (by kernel_rfl)) (fun _ _ _ h => h) (Or.inl ⟨by rfl, ?_⟩) ?_ ?_
       rotate_left
       ·intro w'
        go_simp
        with_reducible rfl
       rotate_left
       ·simp only [Act.put, List.setIfInBounds_toArray, List.set_cons_zero, List.set_cons_succ, i64_w, i32_w]
        rfl
       refine pure_ (i := 8) (N := some 23) (v := ?_) (a' := ?_) #[Y,Y,Y,Y,Y,Y,Y,Y,Y,Z,Z,Z,Z,Z,Z,Z,Z,Z,Z,Z,Z] rfl rfl (any_of HT_.out (by kernel_rfl)) (fun _ _ _ h => h) (Or.inl ⟨by rfl, ?_⟩) ?_ ?_
       rotate_left
       ·intro w'
        go_simp
        with_reducible rfl
       rotate_left
       ·simp only [Act.put, List.setIfInBounds_toArray, List.set_cons_zero, List.set_cons_succ, i64_w, i32_w]
        rfl
       refine pure_ (i := 9) (N := some 24) (v := ?_) (a' := ?_) #[Y,Y,Y,Y,Y,Y,Y,Y,Y,Y,Z,Z,Z,Z,Z,Z,Z,Z,Z,Z,Z] rfl rfl (any_of HT_.out (by kernel_rfl)) (fun _ _ _ h => h) (Or.inl ⟨by rfl, ?_⟩) ?_ ?_
       rotate_left
       ·intro w'
        go_simp
        with_reducible rfl
       rotate_left
       ·simp only [Act.put, List.setIfInBounds_toArray, List.set_cons_zero, List.set_cons_succ, i64_w, i32_w]
        rfl
       refine pure_ (i := 10) (N := some 25) (v := ?_) (a' := ?_) #[Y,Y,Y,Y,Y,Y,Y,Y,Y,Y,Y,Z,Z,Z,Z,Z,Z,Z,Z,Z,Z] rfl rfl (any_of HT_.out (by kernel_rfl)) (fun _ _ _ h => h) (Or.inl ⟨by rfl, ?_⟩) ?_ ?_
       rotate_left
       ·intro w'
        go_simp
        with_reducible rfl
       rotate_left
       ·simp only [Act.put, List.setIfInBounds_toArray, List.set_cons_zero, List.set_cons_succ, i64_w, i32_w]
        rfl
       refine pure_ (i := 11) (N := some 26) (v := ?_) (a' := ?_) #[Y,Y,Y,Y,Y,Y,Y,Y,Y,Y,Y,Y,Z,Z,Z,Z,Z,Z,Z,Z,Z] rfl rfl (any_of HT_.out (by kernel_rfl)) (fun _ _ _ h => h) (Or.inl ⟨by rfl, ?_⟩) ?_ ?_
       rotate_left
       ·intro w'
        go_simp
        with_reducible rfl
       rotate_left
       ·simp only [Act.put, List.setIfInBounds_toArray, List.set_cons_zero, List.set_cons_succ, i64_w, i32_w]
        rfl
       refine pure_ (i := 12) (N := some 27) (v := ?_) (a' := ?_) #[Y,Y,Y,Y,Y,Y,Y,Y,Y,Y,Y,Y,Y,Z,Z,Z,Z,Z,Z,Z,Z] rfl rfl (any_of HT_.out (by kernel_rfl)) (fun _ _ _ h => h) (Or.inl ⟨by rfl, ?_⟩) ?_ ?_
       rotate_left
       ·intro w'
        go_simp
        with_reducible rfl
       rotate_left
       ·simp only [Act.put, List.setIfInBounds_toArray, List.set_cons_zero, List.set_cons_succ, i64_w, i32_w]
        rfl
       refine pure_ (i := 15) (N := some 30) (v := ?_) (a' := ?_) #[Y,Y,Y,Y,Y,Y,Y,Y,Y,Y,Y,Y,Y,Z,Z,Y,Z,Z,Z,Z,Z] rfl rfl (any_of HT_.out (by kernel_rfl)) (fun _ _ _ h => h) (Or.inl ⟨by rfl, ?_⟩) ?_ ?_
       rotate_left
       ·intro w'
        go_simp
        with_reducible rfl
       rotate_left
       ·simp only [Act.put, List.setIfInBounds_toArray, List.set_cons_zero, List.set_cons_succ, i64_w, i32_w]
        rfl
       refine pure_ (i := 16) (N := some 31) (v := ?_) (a' := ?_) #[Y,Y,Y,Y,Y,Y,Y,Y,Y,Y,Y,Y,Y,Z,Z,Y,Y,Z,Z,Z,Z] rfl rfl (any_of HT_.out (by kernel_rfl)) (fun _ _ _ h => h) (Or.inl ⟨by rfl, ?_⟩) ?_ ?_
       rotate_left
       ·intro w'
        go_simp
        with_reducible rfl
       rotate_left
       ·simp only [Act.put, List.setIfInBounds_toArray, List.set_cons_zero, List.set_cons_succ, i64_w, i32_w]
        rfl
       refine take_ (i := 13) (N := some 28) (v := ?_) (a' := ?_) #[Y,Y,Y,Y,Y,Y,Y,Y,Y,Y,Y,Y,Y,Y,Z,Y,Y,Z,Z,Z,Z] rfl rfl (take_ofW HT_.out HW_.out (by kernel_rfl)) (fun _ _ _ h => h) (Or.inl ⟨by rfl, ?_⟩) hHeld ?_ ?_
       rotate_left
       ·rintro w' ⟨s0, s1, s2, s3, s4, s5, s6, s7, s8, s9, s10, s11, s12, s13, s14, s15, s16, s17⟩
        go_simp
        with_reducible rfl
       rotate_left
       ·simp only [Act.put, List.setIfInBounds_toArray, List.set_cons_zero, List.set_cons_succ, i64_w, i32_w]
        rfl
       refine take_ (i := 17) (N := some 32) (v := ?_) (a' := ?_) #[Y,Y,Y,Y,Y,Y,Y,Y,Y,Y,Y,Y,Y,Y,Z,Y,Y,Y,Z,Z,Z] rfl rfl (take_ofW HT_.out HW_.out (by kernel_rfl)) (fun _ _ _ h => h) (Or.inl ⟨by rfl, ?_⟩) hHeld ?_ ?_
       rotate_left
       ·rintro w' ⟨s0, s1, s2, s3, s4, s5, s6, s7, s8, s9, s10, s11, s12, s13, s14, s15, s16, s17⟩
        go_simp
        with_reducible rfl
       rotate_left
       ·simp only [Act.put, List.setIfInBounds_toArray, List.set_cons_zero, List.set_cons_succ, i64_w, i32_w]
        rfl
       refine one_ (i := 14) (N := some 29) #[Y,Y,Y,Y,Y,Y,Y,Y,Y,Y,Y,Y,Y,Y,Y,Y,Y,Y,Z,Z,Z] rfl rfl (one_of HT_.out (by kernel_rfl)) (by decide) (fun K hK => ?_)
       refine goes_ Tryz.func25 (by kernel_rfl) rfl #[.int .i64 a2, .int .u64 ((rd_T81 l0 x8_1).f3)] (by rfl) rfl rfl argA ?_
       with_reducible refine (rootcellarref15_Bucket.calls k1 a2 ((rd_T81 l0 x8_1).f3) t331 _ A9.out).mono ?_
       rintro e w' ⟨rfl, ⟨nd, rfl⟩⟩
       refine ⟨_, rfl, ?_⟩
       refine hK.out _ _ ⟨(blk_cell BK327.out 0).trans rfl, (blk_cell BK327.out 1).trans rfl, (blk_cell BK327.out 2).trans rfl, (blk_cell BK327.out 3).trans rfl, (blk_cell BK327.out 4).trans rfl, (blk_cell BK327.out 5).trans rfl, ((HB.out.cell (World.block_lt_of_cell? w _ hw328_0)).trans hw328_0), ((HB.out.cell (World.block_lt_of_cell? w _ hw328_1)).trans hw328_1), ((HB.out.cell (World.block_lt_of_cell? w _ hw328_2)).trans hw328_2), ((HB.out.cell (World.block_lt_of_cell? w _ hw328_3)).trans hw328_3), ((HB.out.cell (World.block_lt_of_cell? w _ hw328_4)).trans hw328_4), ((HB.out.cell (World.block_lt_of_cell? w _ hw328_5)).trans hw328_5), ((HB.out.cell (World.block_lt_of_cell? w _ hw330_0)).trans hw330_0), ((HB.out.cell (World.block_lt_of_cell? w _ hw330_1)).trans hw330_1), ((HB.out.cell (World.block_lt_of_cell? w _ hw330_2)).trans hw330_2), ((HB.out.cell (World.block_lt_of_cell? w _ hw330_3)).trans hw330_3), ((HB.out.cell (World.block_lt_of_cell? w _ hw330_4)).trans hw330_4), ((HB.out.cell (World.block_lt_of_cell? w _ hw330_5)).trans hw330_5)⟩ (fun hHeld => ?_)
       clear hK K
       refine norm_ (a' := ?_) ?_ ?_
       rotate_left
       ·show Act.put _ (some 29) _ = _
        simp only [Act.put, List.setIfInBounds_toArray, List.set_cons_zero, List.set_cons_succ, i64_w, i32_w]
        rfl
       refine one_ (i := 18) (N := some 33) #[Y,Y,Y,Y,Y,Y,Y,Y,Y,Y,Y,Y,Y,Y,Y,Y,Y,Y,Y,Z,Z] rfl rfl (one_of HT_.out (by kernel_rfl)) (by decide) (fun K hK => ?_)
       refine goes_ Tryz.func25 (by kernel_rfl) rfl #[.int .i64 a2, .int .u64 a1_3] (by rfl) rfl rfl argA ?_
       with_reducible refine (rootcellarref15_Bucket.calls k1 a2 a1_3 t332 _ A10.out).mono ?_
       rintro e w' ⟨rfl, ⟨nd, rfl⟩⟩
       refine ⟨_, rfl, ?_⟩
       refine hK.out _ _ ⟨(blk_cell BK327.out 0).trans rfl, (blk_cell BK327.out 1).trans rfl, (blk_cell BK327.out 2).trans rfl, (blk_cell BK327.out 3).trans rfl, (blk_cell BK327.out 4).trans rfl, (blk_cell BK327.out 5).trans rfl, ((HB.out.cell (World.block_lt_of_cell? w _ hw328_0)).trans hw328_0), ((HB.out.cell (World.block_lt_of_cell? w _ hw328_1)).trans hw328_1), ((HB.out.cell (World.block_lt_of_cell? w _ hw328_2)).trans hw328_2), ((HB.out.cell (World.block_lt_of_cell? w _ hw328_3)).trans hw328_3), ((HB.out.cell (World.block_lt_of_cell? w _ hw328_4)).trans hw328_4), ((HB.out.cell (World.block_lt_of_cell? w _ hw328_5)).trans hw328_5), ((HB.out.cell (World.block_lt_of_cell? w _ hw330_0)).trans hw330_0), ((HB.out.cell (World.block_lt_of_cell? w _ hw330_1)).trans hw330_1), ((HB.out.cell (World.block_lt_of_cell? w _ hw330_2)).trans hw330_2), ((HB.out.cell (World.block_lt_of_cell? w _ hw330_3)).trans hw330_3), ((HB.out.cell (World.block_lt_of_cell? w _ hw330_4)).trans hw330_4), ((HB.out.cell (World.block_lt_of_cell? w _ hw330_5)).trans hw330_5)⟩ (fun hHeld => ?_)
       clear hK K
       refine norm_ (a' := ?_) ?_ ?_
       rotate_left
       ·show Act.put _ (some 33) _ = _
        simp only [Act.put, List.setIfInBounds_toArray, List.set_cons_zero, List.set_cons_succ, i64_w, i32_w]
        rfl
       refine pure_ (i := 19) (N := some 34) (v := ?_) (a' := ?_) #[Y,Y,Y,Y,Y,Y,Y,Y,Y,Y,Y,Y,Y,Y,Y,Y,Y,Y,Y,Y,Z] rfl rfl (any_of HT_.out (by kernel_rfl)) (fun _ _ _ h => h) (Or.inl ⟨by rfl, ?_⟩) ?_ ?_
       rotate_left
       ·intro w'
        go_simp
        with_reducible rfl
       rotate_left
       ·simp only [Act.put, List.setIfInBounds_toArray, List.set_cons_zero, List.set_cons_succ, i64_w, i32_w]
        rfl
       refine pure_ (i := 20) (N := some 35) (v := ?_) (a' := ?_) #[Y,Y,Y,Y,Y,Y,Y,Y,Y,Y,Y,Y,Y,Y,Y,Y,Y,Y,Y,Y,Y] rfl rfl (any_of HT_.out (by kernel_rfl)) (fun _ _ _ h => h) (Or.inl ⟨by rfl, ?_⟩) ?_ ?_
       rotate_left
       ·intro w'
        go_simp
        with_reducible rfl
       rotate_left
       ·simp only [Act.put, List.setIfInBounds_toArray, List.set_cons_zero, List.set_cons_succ, i64_w, i32_w]
        rfl
       refine done_ (done_of HT_.out (by kernel_rfl)) ?_
       try go_wp2
       go_roundg k1
       case measure => have := HK1.out; omega
       case rel => exact ⟨(x7_1), (wrap64 (x8_1 + 1)), (by first | rfl | (simp; done) | (simp [*]; done)), (by first | rfl | (simp; done) | (simp [*]; done)), H', ⟨by have := HK1.out; omega⟩, ⟨by (with_reducible repeat (first | refine blk_drewN ?_ _ | refine blk_drew ?_ | refine blk_alloc ?_ _)); exact BK327.out⟩, ⟨by repeat (first | (with_reducible first | exact HB.out | apply below_alloc | apply pw_below_drewN | apply below_drew1 | refine below_set ?_ GE327.out) | exact HB.out)⟩⟩
     ·replace c8 := Bool.eq_false_iff.mpr c8
      subst c8
      have H1 : (rootcellarref16_later.l0 k1 l0 a2 x7_1 (wrap64 (x8_1 + 1)) a1_0 a1_1 a1_2 a1_3 a1_4 a1_5) = some r := by rw [if_neg (show ¬ (false = true) by decide)] at H; exact H
      clear H
      have H := H1
      clear H1
      have H' := Aside0.mk H
      clear H
      try go_wp2
      have n0_ := Aside0.mk (blk_drew BK327.out)
      have n1_ := Aside0.mk (below_drew1 HB.out)
      clear BK327
      clear HB
      have BK327 := n0_
      have HB := n1_
      clear n0_ n1_
      have p328 : 0 ≤ (x8_1 : Int) := of_decide_eq_true asA
      have q328 : x8_1 < (l0.length : Int) := of_decide_eq_true asA
      obtain ⟨ad328, e328, hx328_0, hx328_1, hx328_2, hx328_3, hx328_4, hx328_5⟩ := at_T81 HR0.out x8_1 p328 q328
      have hw328_5 := hx328_5
      have hw328_4 := hx328_4
      have hw328_3 := hx328_3
      have hw328_2 := hx328_2
      have hw328_1 := hx328_1
      have hw328_0 := hx328_0
      cases e328
      replace hx328_0 := (HB.out.cell (World.block_lt_of_cell? w _ hx328_0)).trans hx328_0
      replace hx328_1 := (HB.out.cell (World.block_lt_of_cell? w _ hx328_1)).trans hx328_1
      replace hx328_2 := (HB.out.cell (World.block_lt_of_cell? w _ hx328_2)).trans hx328_2
      replace hx328_3 := (HB.out.cell (World.block_lt_of_cell? w _ hx328_3)).trans hx328_3
      replace hx328_4 := (HB.out.cell (World.block_lt_of_cell? w _ hx328_4)).trans hx328_4
      replace hx328_5 := (HB.out.cell (World.block_lt_of_cell? w _ hx328_5)).trans hx328_5
      replace p328 := eq_true p328
      replace q328 := eq_true q328
      refine start_ (n := 21) (S := fun w' => w'.cell? (ad328.add ((x8_1).toNat * 6)) = some (.int .i64 ((rd_T81 l0 x8_1).f0)) ∧ w'.cell? ⟨(ad328.add ((x8_1).toNat * 6)).block, (ad328.add ((x8_1).toNat * 6)).off + 1, none⟩ = some (.int .i64 ((rd_T81 l0 x8_1).f1)) ∧ w'.cell? ⟨(ad328.add ((x8_1).toNat * 6)).block, (ad328.add ((x8_1).toNat * 6)).off + 2, none⟩ = some (.string ((rd_T81 l0 x8_1).f2)) ∧ w'.cell? ⟨(ad328.add ((x8_1).toNat * 6)).block, (ad328.add ((x8_1).toNat * 6)).off + 3, none⟩ = some (.int .u64 ((rd_T81 l0 x8_1).f3)) ∧ w'.cell? ⟨(ad328.add ((x8_1).toNat * 6)).block, (ad328.add ((x8_1).toNat * 6)).off + 4, none⟩ = some (.bool ((rd_T81 l0 x8_1).f4)) ∧ w'.cell? ⟨(ad328.add ((x8_1).toNat * 6)).block, (ad328.add ((x8_1).toNat * 6)).off + 5, none⟩ = some (.bool ((rd_T81 l0 x8_1).f5))) (ds := []) #[Z,Z,Z,Z,Z,Z,Z,Z,Z,Z,Z,Z,Z,Z,Z,Z,Z,Z,Z,Z,Z] (by kernel_rfl) rfl rfl ⟨((HB.out.cell (World.block_lt_of_cell? w _ hw328_0)).trans hw328_0), ((HB.out.cell (World.block_lt_of_cell? w _ hw328_1)).trans hw328_1), ((HB.out.cell (World.block_lt_of_cell? w _ hw328_2)).trans hw328_2), ((HB.out.cell (World.block_lt_of_cell? w _ hw328_3)).trans hw328_3), ((HB.out.cell (World.block_lt_of_cell? w _ hw328_4)).trans hw328_4), ((HB.out.cell (World.block_lt_of_cell? w _ hw328_5)).trans hw328_5)⟩ (fun hHeld => ?_); refine with_tabW rootcellarref16_later.tab5 rootcellarref16_later.bits5 (fun HT_ HW_ => ?_)
      generalize wr.drew = w16 at BK327 HB hx328_0 hx328_1 hx328_2 hx328_3 hx328_4 hx328_5 hHeld ⊢
      refine pure_ (i := 0) (N := some 15) (v := ?_) (a' := ?_) #[Y,Z,Z,Z,Z,Z,Z,Z,Z,Z,Z,Z,Z,Z,Z,Z,Z,Z,Z,Z,Z] rfl rfl (any_of HT_.out (by kernel_rfl)) (fun _ _ _ h => h) (Or.inl ⟨by rfl, ?_⟩) ?_ ?_
      rotate_left
      ·intro w'
       go_simp
       with_reducible rfl
      rotate_left
      ·simp only [Act.put, List.setIfInBounds_toArray, List.set_cons_zero, List.set_cons_succ, i64_w, i32_w]
       rfl
      refine pure_ (i := 1) (N := some 16) (v := ?_) (a' := ?_) #[Y,Y,Z,Z,Z,Z,Z,Z,Z,Z,Z,Z,Z,Z,Z,Z,Z,Z,Z,Z,Z] rfl rfl (any_of HT_.out (by kernel_rfl)) (fun _ _ _ h => h) (Or.inl ⟨by rfl, ?_⟩) ?_ ?_
      rotate_left
      ·intro w'
       go_simp
       with_reducible rfl
      rotate_left
      ·simp only [Act.put, List.setIfInBounds_toArray, List.set_cons_zero, List.set_cons_succ, i64_w, i32_w]
       rfl
      refine pure_ (i := 2) (N := some 17) (v := ?_) (a' := ?_) #[Y,Y,Y,Z,Z,Z,Z,Z,Z,Z,Z,Z,Z,Z,Z,Z,Z,Z,Z,Z,Z] rfl rfl (any_of HT_.out (by kernel_rfl)) (fun _ _ _ h => h) (Or.inl ⟨by rfl, ?_⟩) ?_ ?_
      rotate_left
      ·intro w'
       go_simp
       with_reducible rfl
      rotate_left
      ·simp only [Act.put, List.setIfInBounds_toArray, List.set_cons_zero, List.set_cons_succ, i64_w, i32_w]
       rfl
      refine pure_ (i := 3) (N := some 18) (v := ?_) (a' := ?_) #[Y,Y,Y,Y,Z,Z,Z,Z,Z,Z,Z,Z,Z,Z,Z,Z,Z,Z,Z,Z,Z] rfl rfl (any_of HT_.out (by kernel_rfl)) (fun _ _ _ h => h) (Or.inl ⟨by rfl, ?_⟩) ?_ ?_
      rotate_left
      ·intro w'
       go_simp
       with_reducible rfl
      rotate_left
      ·simp only [Act.put, List.setIfInBounds_toArray, List.set_cons_zero, List.set_cons_succ, i64_w, i32_w]
       rfl
      refine pure_ (i := 5) (N := some 20) (v := ?_) (a' := ?_) #[Y,Y,Y,Y,Z,Y,Z,Z,Z,Z,Z,Z,Z,Z,Z,Z,Z,Z,Z,Z,Z] rfl rfl (any_of HT_.out (by kernel_rfl)) (fun _ _ _ h => h) (Or.inl ⟨by rfl, ?_⟩) ?_ ?_
      rotate_left
      ·intro w'
       go_simp
       with_reducible rfl
      rotate_left
      ·simp only [Act.put, List.setIfInBounds_toArray, List.set_cons_zero, List.set_cons_succ, i64_w, i32_w]
       rfl
      refine take_ (i := 4) (N := some 19) (v := ?_) (a' := ?_) #[Y,Y,Y,Y,Y,Y,Z,Z,Z,Z,Z,Z,Z,Z,Z,Z,Z,Z,Z,Z,Z] rfl rfl (take_ofW HT_.out HW_.out (by kernel_rfl)) (fun _ _ _ h => h) (Or.inl ⟨by rfl, ?_⟩) hHeld ?_ ?_
      rotate_left
      ·rintro w' ⟨s0, s1, s2, s3, s4, s5⟩
       go_simp
       with_reducible rfl
      rotate_left
      ·simp only [Act.put, List.setIfInBounds_toArray, List.set_cons_zero, List.set_cons_succ, i64_w, i32_w]
       rfl
      refine one_ (i := 6) (N := some 21) #[Y,Y,Y,Y,Y,Y,Y,Z,Z,Z,Z,Z,Z,Z,Z,Z,Z,Z,Z,Z,Z] rfl rfl (one_of HT_.out (by kernel_rfl)) (by decide) (fun K hK => ?_)
      refine goes_ Tryz.func104 (by kernel_rfl) rfl #[.slice (some ad328) l0.length c0, .agg #[.int .i64 ((rd_T81 l0 x8_1).f0), .int .i64 ((rd_T81 l0 x8_1).f1), .string ((rd_T81 l0 x8_1).f2), .int .u64 ((rd_T81 l0 x8_1).f3), .bool ((rd_T81 l0 x8_1).f4), .bool ((rd_T81 l0 x8_1).f5)], .int .i64 a2] (by rfl) rfl rfl argA ?_
      with_reducible refine (rootcellarref16_newest.calls k1 _ _ l0 ((rd_T81 l0 x8_1).f0) ((rd_T81 l0 x8_1).f1) ((rd_T81 l0 x8_1).f2) ((rd_T81 l0 x8_1).f3) ((rd_T81 l0 x8_1).f4) ((rd_T81 l0 x8_1).f5) a2 false _ ?side1 ?side2 A7.out).mono ?_
      (case side1 => repeat (first | exact (Kd.C_below HR0.out HB.out) | (with_reducible refine Kd.C_alloc ?_ _) | (with_reducible refine Kd.C_drewN ?_ _) | (with_reducible refine Kd.C_drew ?_)))
      (case side2 => exact HC0.out)
      rintro e w17 ⟨rfl, hb⟩
      refine ⟨_, rfl, ?_⟩
      have n0_ := Aside0.mk (blk_below (g := gb327) (o := .cells #[.int .i64 a1_0, .int .i64 a1_1, .string a1_2, .int .u64 a1_3, .bool a1_4, .bool a1_5] 81 (0, 0)) (blkN BK327.out) hb)
      have n1_ := Aside0.mk (below_step (by repeat (first | (with_reducible first | exact HB.out | apply below_alloc | apply pw_below_drewN | apply below_drew1 | refine below_set ?_ GE327.out) | exact HB.out)) hb)
      clear BK327
      clear HB
      have BK327 := n0_
      have HB := n1_
      clear n0_ n1_
      (try clear hb)
      (try clear hb2)
      (try clear hk)
      (try clear hi)
      refine hK.out _ _ ⟨((HB.out.cell (World.block_lt_of_cell? w _ hw328_0)).trans hw328_0), ((HB.out.cell (World.block_lt_of_cell? w _ hw328_1)).trans hw328_1), ((HB.out.cell (World.block_lt_of_cell? w _ hw328_2)).trans hw328_2), ((HB.out.cell (World.block_lt_of_cell? w _ hw328_3)).trans hw328_3), ((HB.out.cell (World.block_lt_of_cell? w _ hw328_4)).trans hw328_4), ((HB.out.cell (World.block_lt_of_cell? w _ hw328_5)).trans hw328_5)⟩ (fun hHeld => ?_)
      clear hK K
      refine norm_ (a' := ?_) ?_ ?_
      rotate_left
      ·show Act.put _ (some 21) _ = _
       simp only [Act.put, List.setIfInBounds_toArray, List.set_cons_zero, List.set_cons_succ, i64_w, i32_w]
       rfl
      refine pure_ (i := 7) (N := some 22) (v := ?_) (a' := ?_) #[Y,Y,Y,Y,Y,Y,Y,Y,Z,Z,Z,Z,Z,Z,Z,Z,Z,Z,Z,Z,Z] rfl rfl (any_of HT_.out (by kernel_rfl)) (fun _ _ _ h => h) (Or.inl ⟨by rfl, ?_⟩) ?_ ?_
      rotate_left
      ·intro w'
       go_simp
       with_reducible rfl
      rotate_left
      ·simp only [Act.put, List.setIfInBounds_toArray, List.set_cons_zero, List.set_cons_succ, i64_w, i32_w]
       rfl
      refine pure_ (i := 8) (N := some 23) (v := undef) (a' := ?_) #[Y,Y,Y,Y,Y,Y,Y,Y,Y,Z,Z,Z,Z,Z,Z,Z,Z,Z,Z,Z,Z] rfl rfl (any_of HT_.out (by kernel_rfl)) (fun _ _ _ h => h) (Or.inr ⟨by rfl, rfl⟩) ?_ ?_
      rotate_left
      ·simp only [Act.put, List.setIfInBounds_toArray, List.set_cons_zero, List.set_cons_succ, i64_w, i32_w]
       rfl
      refine pure_ (i := 9) (N := some 24) (v := undef) (a' := ?_) #[Y,Y,Y,Y,Y,Y,Y,Y,Y,Y,Z,Z,Z,Z,Z,Z,Z,Z,Z,Z,Z] rfl rfl (any_of HT_.out (by kernel_rfl)) (fun _ _ _ h => h) (Or.inr ⟨by rfl, rfl⟩) ?_ ?_
      rotate_left
      ·simp only [Act.put, List.setIfInBounds_toArray, List.set_cons_zero, List.set_cons_succ, i64_w, i32_w]
       rfl
      refine pure_ (i := 10) (N := some 25) (v := undef) (a' := ?_) #[Y,Y,Y,Y,Y,Y,Y,Y,Y,Y,Y,Z,Z,Z,Z,Z,Z,Z,Z,Z,Z] rfl rfl (any_of HT_.out (by kernel_rfl)) (fun _ _ _ h => h) (Or.inr ⟨by rfl, rfl⟩) ?_ ?_
      rotate_left
      ·simp only [Act.put, List.setIfInBounds_toArray, List.set_cons_zero, List.set_cons_succ, i64_w, i32_w]
       rfl
      refine pure_ (i := 11) (N := some 26) (v := undef) (a' := ?_) #[Y,Y,Y,Y,Y,Y,Y,Y,Y,Y,Y,Y,Z,Z,Z,Z,Z,Z,Z,Z,Z] rfl rfl (any_of HT_.out (by kernel_rfl)) (fun _ _ _ h => h) (Or.inr ⟨by rfl, rfl⟩) ?_ ?_
      rotate_left
      ·simp only [Act.put, List.setIfInBounds_toArray, List.set_cons_zero, List.set_cons_succ, i64_w, i32_w]
       rfl
      refine pure_ (i := 12) (N := some 27) (v := undef) (a' := ?_) #[Y,Y,Y,Y,Y,Y,Y,Y,Y,Y,Y,Y,Y,Z,Z,Z,Z,Z,Z,Z,Z] rfl rfl (any_of HT_.out (by kernel_rfl)) (fun _ _ _ h => h) (Or.inr ⟨by rfl, rfl⟩) ?_ ?_
      rotate_left
      ·simp only [Act.put, List.setIfInBounds_toArray, List.set_cons_zero, List.set_cons_succ, i64_w, i32_w]
       rfl
      refine pure_ (i := 13) (N := some 28) (v := undef) (a' := ?_) #[Y,Y,Y,Y,Y,Y,Y,Y,Y,Y,Y,Y,Y,Y,Z,Z,Z,Z,Z,Z,Z] rfl rfl (any_of HT_.out (by kernel_rfl)) (fun _ _ _ h => h) (Or.inr ⟨by rfl, rfl⟩) ?_ ?_
      rotate_left
      ·simp only [Act.put, List.setIfInBounds_toArray, List.set_cons_zero, List.set_cons_succ, i64_w, i32_w]
       rfl
      refine pure_ (i := 14) (N := some 29) (v := undef) (a' := ?_) #[Y,Y,Y,Y,Y,Y,Y,Y,Y,Y,Y,Y,Y,Y,Y,Z,Z,Z,Z,Z,Z] rfl rfl (any_of HT_.out (by kernel_rfl)) (fun _ _ _ h => h) (Or.inr ⟨by rfl, rfl⟩) ?_ ?_
      rotate_left
      ·simp only [Act.put, List.setIfInBounds_toArray, List.set_cons_zero, List.set_cons_succ, i64_w, i32_w]
       rfl
      refine pure_ (i := 15) (N := some 30) (v := undef) (a' := ?_) #[Y,Y,Y,Y,Y,Y,Y,Y,Y,Y,Y,Y,Y,Y,Y,Y,Z,Z,Z,Z,Z] rfl rfl (any_of HT_.out (by kernel_rfl)) (fun _ _ _ h => h) (Or.inr ⟨by rfl, rfl⟩) ?_ ?_
      rotate_left
      ·simp only [Act.put, List.setIfInBounds_toArray, List.set_cons_zero, List.set_cons_succ, i64_w, i32_w]
       rfl
      refine pure_ (i := 16) (N := some 31) (v := undef) (a' := ?_) #[Y,Y,Y,Y,Y,Y,Y,Y,Y,Y,Y,Y,Y,Y,Y,Y,Y,Z,Z,Z,Z] rfl rfl (any_of HT_.out (by kernel_rfl)) (fun _ _ _ h => h) (Or.inr ⟨by rfl, rfl⟩) ?_ ?_
      rotate_left
      ·simp only [Act.put, List.setIfInBounds_toArray, List.set_cons_zero, List.set_cons_succ, i64_w, i32_w]
       rfl
      refine pure_ (i := 17) (N := some 32) (v := undef) (a' := ?_) #[Y,Y,Y,Y,Y,Y,Y,Y,Y,Y,Y,Y,Y,Y,Y,Y,Y,Y,Z,Z,Z] rfl rfl (any_of HT_.out (by kernel_rfl)) (fun _ _ _ h => h) (Or.inr ⟨by rfl, rfl⟩) ?_ ?_
      rotate_left
      ·simp only [Act.put, List.setIfInBounds_toArray, List.set_cons_zero, List.set_cons_succ, i64_w, i32_w]
       rfl
      refine pure_ (i := 18) (N := some 33) (v := undef) (a' := ?_) #[Y,Y,Y,Y,Y,Y,Y,Y,Y,Y,Y,Y,Y,Y,Y,Y,Y,Y,Y,Z,Z] rfl rfl (any_of HT_.out (by kernel_rfl)) (fun _ _ _ h => h) (Or.inr ⟨by rfl, rfl⟩) ?_ ?_
      rotate_left
      ·simp only [Act.put, List.setIfInBounds_toArray, List.set_cons_zero, List.set_cons_succ, i64_w, i32_w]
       rfl
      refine pure_ (i := 19) (N := some 34) (v := undef) (a' := ?_) #[Y,Y,Y,Y,Y,Y,Y,Y,Y,Y,Y,Y,Y,Y,Y,Y,Y,Y,Y,Y,Z] rfl rfl (any_of HT_.out (by kernel_rfl)) (fun _ _ _ h => h) (Or.inr ⟨by rfl, rfl⟩) ?_ ?_
      rotate_left
      ·simp only [Act.put, List.setIfInBounds_toArray, List.set_cons_zero, List.set_cons_succ, i64_w, i32_w]
       rfl
      refine pure_ (i := 20) (N := some 35) (v := ?_) (a' := ?_) #[Y,Y,Y,Y,Y,Y,Y,Y,Y,Y,Y,Y,Y,Y,Y,Y,Y,Y,Y,Y,Y] rfl rfl (any_of HT_.out (by kernel_rfl)) (fun _ _ _ h => h) (Or.inl ⟨by rfl, ?_⟩) ?_ ?_
      rotate_left
      ·intro w'
       go_simp
       with_reducible rfl
      rotate_left
      ·simp only [Act.put, List.setIfInBounds_toArray, List.set_cons_zero, List.set_cons_succ, i64_w, i32_w]
       rfl
      refine done_ (done_of HT_.out (by kernel_rfl)) ?_
      try go_wp2
      go_roundg k1
      case measure => have := HK1.out; omega
      case rel => exact ⟨(x7_1), (wrap64 (x8_1 + 1)), (by first | rfl | (simp; done) | (simp [*]; done)), (by first | rfl | (simp; done) | (simp [*]; done)), H', ⟨by have := HK1.out; omega⟩, ⟨by (with_reducible repeat (first | refine blk_drewN ?_ _ | refine blk_drew ?_ | refine blk_alloc ?_ _)); exact BK327.out⟩, ⟨by repeat (first | (with_reducible first | exact HB.out | apply below_alloc | apply pw_below_drewN | apply below_drew1 | refine below_set ?_ GE327.out) | exact HB.out)⟩⟩
    ·rw [if_neg c6] at H
     exact absurd H (by simp)
   ·rw [if_neg c5] at H
    have c5b0 : decide (x8_1 < (l0.length : Int)) = false := decide_eq_false c5
    clear c5
    obtain rfl := Option.some.inj H
    go_wp2
    go_ret
    exact ⟨by first | rfl | (simp [errW_none, errW_some] <;> rfl) | (simp [*, errW_none, errW_some] <;> rfl), by repeat (first | (with_reducible first | exact HB.out | apply below_alloc | apply pw_below_drewN | apply below_drew1 | refine below_set ?_ GE327.out) | exact HB.out)⟩
end Go.Proofs.YtfdlbnfjohpdlaaGreatDoor.PPo
