-- laid by gprint.py (this session's own program) out of the translation: Lean checks it
import Derived.Test.YtfdlbnfjohpdlaaGreatDoorPPox0
import Derived.Test.YtfdlbnfjohpdlaaGreatDoorPPox25
--compressed
namespace Go.Proofs.YtfdlbnfjohpdlaaGreatDoor.PPo
open Go.RowKit Go.Proofs.YtfdlbnfjohpdlaaGreatDoorW.PrintWords Go.Proofs.YtfdlbnfjohpdlaaGreatDoorW.PrintLast Go.Proofs.YtfdlbnfjohpdlaaGreatDoorW.PrintMore
attribute [local go_sem] max2_int min2_int max_two min_two max_three min_three max_four min_four   -- for this text's walks alone
attribute [local go_sem high] hw_str_leq hw_str_gtr
set_option linter.unusedVariables false
set_option linter.unusedSimpArgs false
mutual
def rootcellarref16_Parse.l0 : Nat → List ByteArray → List Int → Int → Option (Int × Int × Int × Int × Int)
 | 0, _, _, _ => none
 | k + 1, x4, x5, x6 => if x6 < (x4.length : Int) then (if 0 ≤ x6 then (if 0 < ((rdOf ByteArray.empty x4 x6).size : Int) then ((rootcellarref16_tier.f k (bt (rdOf ByteArray.empty x4 x6) 0)).bind fun t389 => (if 1 ≤ ((rdOf ByteArray.empty x4 x6).size : Int) then ((rootcellarref16_number.f k ((rdOf ByteArray.empty x4 x6).extract 1 (rdOf ByteArray.empty x4 x6).size)).bind fun t391 => (if t389 < 0 then (rootcellarref16_Parse.j1 k x4 x5 x6 t389 t391 true) else (if t391 < 0 then (rootcellarref16_Parse.j1 k x4 x5 x6 t389 t391 true) else (if 0 ≤ t389 then (if t389 < (x5.length : Int) then (rootcellarref16_Parse.j1 k x4 x5 x6 t389 t391 (decide ((rd x5 t389) ≥ 0))) else (none)) else (none))))) else (none))) else (none)) else (none)) else (if (x4.length : Int) = 0 then (some (0, 0, 0, 0, 0)) else (if 0 < (x5.length : Int) then (if 1 < (x5.length : Int) then (if 2 < (x5.length : Int) then (if 3 < (x5.length : Int) then (some (mx (rd x5 0) 0, mx (rd x5 1) 0, mx (rd x5 2) 0, mx (rd x5 3) 0, 0)) else (none)) else (none)) else (none)) else (none)))
def rootcellarref16_Parse.j1 : Nat → List ByteArray → List Int → Int → Int → Int → Bool → Option (Int × Int × Int × Int × Int)
 | 0, _, _, _, _, _, _ => none
 | k + 1, x4, x5, x6, x7, x8, x42 => if x42 = true then (some (0, 0, 0, 0, 2)) else (if 0 ≤ x7 then (if x7 < (x5.length : Int) then (rootcellarref16_Parse.l0 k x4 (x5.set (x7 : Int).toNat x8) (wrap64 (x6 + 1))) else (none)) else (none))
end
def rootcellarref16_Parse.f (k : Nat) (a0 : ByteArray) : Option (Int × Int × Int × Int × Int) := (rootcellarref16_words.f k a0).bind fun t382 => (rootcellarref16_Parse.l0 k t382 (([(-1), (-1), (-1), (-1)] : List Int)) 0)
def rootcellarref16_Parse.T13 : Bool × List (List Nat × List Nat) := (true, [([], []), ([0], [0]), ([1], [1]), ([2], [2]), ([], []), ([4], [4]), ([5], [5]), ([6], [6]), ([], []), ([8], [8]), ([9], [9]), ([10], [10]), ([], []), ([12], [12]), ([13], [13]), ([14], [14]), ([3, 7, 11, 15], [3, 7, 11, 15]), ([16, 0, 1, 2, 3, 4, 5, 6, 7, 8, 9, 10, 11, 12, 13, 14, 15, 16], [16]), ([17, 0, 1, 2, 3, 4, 5, 6, 7, 8, 9, 10, 11, 12, 13, 14, 15, 16, 17], [])])
def rootcellarref16_Parse.B13 : List Nat := [0, 1, 3, 7, 0, 16, 48, 112, 0, 256, 768, 1792, 0, 4096, 12288, 28672, 65535, 131071, 262143]
theorem rootcellarref16_Parse.tab13 : rtab .any (opsOf Tryz.f29 13) = rootcellarref16_Parse.T13 := by kernel_rfl
theorem rootcellarref16_Parse.bits13 : waitsOk rootcellarref16_Parse.T13.2 rootcellarref16_Parse.B13 = true := by kernel_rfl
set_option maxHeartbeats 8000000 in
set_option maxRecDepth 100000 in
theorem rootcellarref16_Parse.calls (k : Nat) (a0 : ByteArray) (r1 : Int) (r2 : Int) (r3 : Int) (r4 : Int) (r5 : Int) (w : World) (h : rootcellarref16_Parse.f k a0 = some (r1, r2, r3, r4, r5)) :
  Calls Tryz.prog 29 #[.string a0] w fun e w' => e = .returned (.tuple #[.agg #[.int .i64 r1, .int .i64 r2, .int .i64 r3, .int .i64 r4], .int .i64 r5]) ∧ Below w.heap.size w w' := by
 have hu37 := Tryz.underlying37
 have HB := Aside0.mk (Below.refl w.heap.size w)
 have H : ((rootcellarref16_words.f k a0).bind fun t382 => (rootcellarref16_Parse.l0 k t382 (([(-1), (-1), (-1), (-1)] : List Int)) 0)) = some (r1, r2, r3, r4, r5) := h
 clear h
 replace H := Option.bind_eq_some_iff.mp H
 obtain ⟨t382, A20, H⟩ := H
 replace H : (rootcellarref16_Parse.l0 k t382 (([(-1), (-1), (-1), (-1)] : List Int)) 0) = some (r1, r2, r3, r4, r5) := H
 have A2 := Aside0.mk A20
 clear A20
 obtain ⟨y385, hy385⟩ : ∃ y_ : List Int, y_ = (([(-1), (-1), (-1), (-1)] : List Int)) := ⟨_, rfl⟩
 replace H : (rootcellarref16_Parse.l0 k t382 y385 0) = some (r1, r2, r3, r4, r5) := by first | (rw [hy385]; with_reducible exact H) | (have H2_ := (Option.bind_some _ _).symm.trans H; rw [hy385]; with_reducible exact H2_) | (have H2_ := (Option.bind_some _ _).symm.trans H; with_reducible exact H2_) | with_reducible exact H | (rw [hy385]; exact H) | exact H
 have Ny385 := Aside0.mk hy385
 clear hy385
 have H' := Aside0.mk H
 clear H
 go_enter Tryz.func29, Tryz.ntmps29
 go_wp2_with (first | ((with_reducible refine gate_dst (N := 2) rfl ?_); refine box_event ?hg (N := 2) ?hd (cs := #[.int .i64 0, .int .i64 0, .int .i64 0, .int .i64 0]) (t := 37) ?hr ?_; (case hd => rfl); (case hg => rfl); (case hr => first | (go_simp; done) | (go_simp; rfl)); intro gb381 hg w3 hbox hb; have n0_ := Aside0.mk (below_step belA hb); have n1_ := Aside0.mk (hbox); have n2_ := Aside0.mk ((by rw [hg]; exact (below_size belA) : w.heap.size ≤ gb381)); have n3_ := Aside0.mk ((by rw [hg]; exact (below_size belA) : w.heap.size ≤ gb381)); clear HB; have HB := n0_; have BK381 := n1_; have GW381 := n2_; have GE381 := n3_; clear n0_ n1_ n2_ n3_; clear hb hbox hg) | ((with_reducible refine gate_callee (f := 55) rfl ?_); refine goesL_ (some 10) rfl rfl Tryz.func55 (by kernel_rfl) rfl #[.string a0] rfl argA ?_; (with_reducible refine (rootcellarref16_words.calls k a0 t382 _ A2.out).mono ?_); rintro e w4 ⟨v383, rfl, ho0, hb⟩; refine ⟨_, rfl, ?_⟩; have n0_ := Aside0.mk (Kd.R_lower ho0 (below_size (by repeat (first | (with_reducible first | exact HB.out | apply below_alloc | apply pw_below_drewN | apply below_drew1 | refine below_set ?_ GE381.out) | exact HB.out)))); have n1_ := Aside0.mk (blk_below (g := gb381) (o := .cells #[.int .i64 0, .int .i64 0, .int .i64 0, .int .i64 0] 37 (0, 0)) (blkN BK381.out) hb); have n2_ := Aside0.mk (below_step (by repeat (first | (with_reducible first | exact HB.out | apply below_alloc | apply pw_below_drewN | apply below_drew1 | refine below_set ?_ GE381.out) | exact HB.out)) hb); clear BK381; clear HB; have HO384 := n0_; have BK381 := n1_; have HB := n2_; clear n0_ n1_ n2_; (try clear hb); (try clear hb2); (try clear hk); (try clear hi); (try clear ho0)) | ((with_reducible refine gate_dst (N := 11) rfl ?_); refine Kd.R_lit (Kd.int .i64) _ 3 ?hg (N := 11) ?hd (xs := ([(-1), (-1), (-1), (-1)] : List Int)) (inner := [.int .i64 (-1), .int .i64 (-1), .int .i64 (-1), .int .i64 (-1)]) (ok := fun _ => True) (okp := fun _ => True) ?hr ?hp (fun _ hk => hk) trivial (Below.refl _ _) (Nat.le_refl _) (by simp) ?_; (case hd => rfl); (case hg => rfl); (case hr => first | (go_simp; done) | (go_simp; rfl)); (case hp => exact (Reps.one (show Kd.M (Kd.int .i64) _ _ _ (-1) [.int .i64 (-1)] from rfl) (Reps.one (show Kd.M (Kd.int .i64) _ _ _ (-1) [.int .i64 (-1)] from rfl) (Reps.one (show Kd.M (Kd.int .i64) _ _ _ (-1) [.int .i64 (-1)] from rfl) (Reps.one (show Kd.M (Kd.int .i64) _ _ _ (-1) [.int .i64 (-1)] from rfl) (Reps.none _ _)))))); intro v386 w5 ho6 hb hg_ hnew_; clear hg_ hnew_; (first | rw [← Ny385.out] at ho6 | (simp only [Int.reduceToNat] at ho6; rw [← Ny385.out] at ho6)); have n0_ := Aside0.mk (Kd.R_below (kdR_ HO384.out) hb); have n1_ := Aside0.mk (Kd.R_lower ho6 (below_size (by repeat (first | (with_reducible first | exact HB.out | apply below_alloc | apply pw_below_drewN | apply below_drew1 | refine below_set ?_ GE381.out) | exact HB.out)))); have n2_ := Aside0.mk (blk_below (g := gb381) (o := .cells #[.int .i64 0, .int .i64 0, .int .i64 0, .int .i64 0] 37 (0, 0)) (blkN BK381.out) hb); have n3_ := Aside0.mk (below_step (by repeat (first | (with_reducible first | exact HB.out | apply below_alloc | apply pw_below_drewN | apply below_drew1 | refine below_set ?_ GE381.out) | exact HB.out)) hb); clear HO384; clear BK381; clear HB; have HO384 := n0_; have HO387 := n1_; have BK381 := n2_; have HB := n3_; clear n0_ n1_ n2_ n3_; clear hb ho6))
 go_loopg [6] k (fun kq v6 w' => ∃ (x5_1 : List Int) (x6_1 : Int) (x382000_1 : Int) (x382001_1 : Int) (x382002_1 : Int) (x382003_1 : Int), v6 = .int .i64 x6_1 ∧ Aside0 (rootcellarref16_Parse.l0 kq t382 x5_1 x6_1 = some (r1, r2, r3, r4, r5)) ∧ Aside0 (kq ≤ k) ∧ Aside0 (Kd.R Kd.string 9 w' w.heap.size (fun _ => True) v383 t382) ∧ Aside0 (Kd.R (Kd.int .i64) 3 w' w.heap.size (fun _ => True) v386 x5_1) ∧ Aside0 (w'.heap[gb381]? = some (.cells #[.int .i64 x382000_1, .int .i64 x382001_1, .int .i64 x382002_1, .int .i64 x382003_1] 37 (0, 0))) ∧ Aside0 (Below w.heap.size w w'))
 case atStart => exact ⟨(y385), (0), (0), (0), (0), (0), (by first | rfl | (simp; done) | (simp [*]; done)), H', ⟨Nat.le_refl _⟩, ⟨by (with_reducible repeat (first | apply Kd.R_alloc | apply Kd.R_drewN | apply Kd.R_drew)); exact HO384.out⟩, ⟨by (with_reducible repeat (first | apply Kd.R_alloc | apply Kd.R_drewN | apply Kd.R_drew)); exact HO387.out⟩, ⟨by (with_reducible repeat (first | refine blk_drewN ?_ _ | refine blk_drew ?_ | refine blk_alloc ?_ _)); exact BK381.out⟩, ⟨by repeat (first | (with_reducible first | exact HB.out | apply below_alloc | apply pw_below_drewN | apply below_drew1 | refine below_set ?_ GE381.out) | exact HB.out)⟩⟩
 case round =>
  clear H'
  try clear c2
  try clear p2
  try clear c5
  obtain ⟨x5_1, x6_1, x382000_1, x382001_1, x382002_1, x382003_1, rfl, HA, HK1, HO_4, HO_5, BK381, HB⟩ := hrel
  cases gk with
  | zero => exact absurd HA.out (by simp [rootcellarref16_Parse.l0])
  | succ k1 =>
   have H := HA.out
   clear HA
   simp only [rootcellarref16_Parse.l0] at H
   by_cases c7 : x6_1 < (t382.length : Int)
   ·rw [if_pos c7] at H
    have c7b0 : decide (x6_1 < (t382.length : Int)) = true := decide_eq_true c7
    clear c7
    by_cases c8 : 0 ≤ x6_1
    ·rw [if_pos c8] at H
     have c8b0 : decide (0 ≤ x6_1) = true := decide_eq_true c8
     clear c8
     by_cases c9 : 0 < ((rdOf ByteArray.empty t382 x6_1).size : Int)
     ·rw [if_pos c9] at H
      have c9b0 : decide (0 < ((rdOf ByteArray.empty t382 x6_1).size : Int)) = true := decide_eq_true c9
      have c9b1 : decide (0 < (rdOf ByteArray.empty t382 x6_1).size) = true := decide_eq_true (by omega)
      clear c9
      replace H := Option.bind_eq_some_iff.mp H
      obtain ⟨t389, A110, H⟩ := H
      replace H : (if 1 ≤ ((rdOf ByteArray.empty t382 x6_1).size : Int) then ((rootcellarref16_number.f k1 ((rdOf ByteArray.empty t382 x6_1).extract 1 (rdOf ByteArray.empty t382 x6_1).size)).bind fun t391 => (if t389 < 0 then (rootcellarref16_Parse.j1 k1 t382 x5_1 x6_1 t389 t391 true) else (if t391 < 0 then (rootcellarref16_Parse.j1 k1 t382 x5_1 x6_1 t389 t391 true) else (if 0 ≤ t389 then (if t389 < (x5_1.length : Int) then (rootcellarref16_Parse.j1 k1 t382 x5_1 x6_1 t389 t391 (decide ((rd x5_1 t389) ≥ 0))) else (none)) else (none))))) else (none)) = some (r1, r2, r3, r4, r5) := H
      have A11 := Aside0.mk A110
      clear A110
      by_cases c12 : 1 ≤ ((rdOf ByteArray.empty t382 x6_1).size : Int)
      ·rw [if_pos c12] at H
       have c12b0 := eq_true c12
       have c12b1 : decide (1 ≤ ((rdOf ByteArray.empty t382 x6_1).size : Int)) = true := decide_eq_true c12
       clear c12
       replace H := Option.bind_eq_some_iff.mp H
       obtain ⟨t391, A130, H⟩ := H
       replace H : (if t389 < 0 then (rootcellarref16_Parse.j1 k1 t382 x5_1 x6_1 t389 t391 true) else (if t391 < 0 then (rootcellarref16_Parse.j1 k1 t382 x5_1 x6_1 t389 t391 true) else (if 0 ≤ t389 then (if t389 < (x5_1.length : Int) then (rootcellarref16_Parse.j1 k1 t382 x5_1 x6_1 t389 t391 (decide ((rd x5_1 t389) ≥ 0))) else (none)) else (none)))) = some (r1, r2, r3, r4, r5) := H
       have A13 := Aside0.mk A130
       clear A130
       have HC14 := Aside0.mk H
       clear H
       obtain ⟨Ao15, co15, eo15⟩ := Kd.R_slice HO_4.out
       subst eo15
       have p388 : 0 ≤ (x6_1 : Int) := of_decide_eq_true asA
       have q388 : x6_1 < (t382.length : Int) := of_decide_eq_true asA
       obtain ⟨ad388, e388, hx388_0⟩ := Kd.at_string (Kd.R_reads' HO_4.out).2.2 x6_1 p388 q388
       cases e388
       replace p388 := eq_true p388
       replace q388 := eq_true q388
       have p10 : 0 ≤ (0 : Int) := (by omega)
       have q10 : 0 < (rdOf ByteArray.empty t382 x6_1).size := (by have : (0 : Int) < ((rdOf ByteArray.empty t382 x6_1).size : Int) := of_decide_eq_true asA; omega)
       have hx10 : ∀ h : 0 < (rdOf ByteArray.empty t382 x6_1).size, (((rdOf ByteArray.empty t382 x6_1)[0]'h).toNat : Int) = bt (rdOf ByteArray.empty t382 x6_1) 0 := bt_at (rdOf ByteArray.empty t382 x6_1) 0
       clear p10
       have qi10 : (0 < ((rdOf ByteArray.empty t382 x6_1).size : Int)) = True := eq_true (of_decide_eq_true asA)
       replace q10 := eq_true q10
       go_upto_region 8 with (first | ((with_reducible refine gate_callee (f := 56) rfl ?_); refine goesL_ (some 23) rfl rfl Tryz.func56 (by kernel_rfl) rfl #[.int .u8 (bt (rdOf ByteArray.empty t382 x6_1) 0)] rfl argA ?_; (with_reducible refine (rootcellarref16_tier.calls k1 (bt (rdOf ByteArray.empty t382 x6_1) 0) t389 _ A11.out).mono ?_); rintro e w' ⟨rfl, ⟨nd, rfl⟩⟩; refine ⟨_, rfl, ?_⟩; have p390 : 0 ≤ (x6_1 : Int) := of_decide_eq_true asA; have q390 : x6_1 < (t382.length : Int) := of_decide_eq_true asA; obtain ⟨ad390, e390, hx390_0⟩ := Kd.at_string (Kd.R_reads' HO_4.out).2.2 x6_1 p390 q390; obtain rfl : ad388 = ad390 := (by injection e390); replace p390 := eq_true p390; replace q390 := eq_true q390) | ((with_reducible refine gate_callee (f := 57) rfl ?_); refine goesL_ (some 29) rfl rfl Tryz.func57 (by kernel_rfl) rfl #[.string ((rdOf ByteArray.empty t382 x6_1).extract 1 (rdOf ByteArray.empty t382 x6_1).size)] rfl argA ?_; (with_reducible refine (rootcellarref16_number.calls k1 ((rdOf ByteArray.empty t382 x6_1).extract 1 (rdOf ByteArray.empty t382 x6_1).size) t391 _ A13.out).mono ?_); rintro e w' ⟨rfl, ⟨nd, rfl⟩⟩; refine ⟨_, rfl, ?_⟩))
       (try simp only [Act.put, List.setIfInBounds_toArray, List.set_cons_zero, List.set_cons_succ])
       go_cut [42] (fun v42 wc => ∃ (kq : Nat) (x42_13 : Bool), v42 = .bool x42_13 ∧ Aside0 (rootcellarref16_Parse.j1 kq t382 x5_1 x6_1 t389 t391 x42_13 = some (r1, r2, r3, r4, r5)) ∧ Aside0 (kq ≤ k1) ∧ Aside0 (Kd.R Kd.string 9 wc w.heap.size (fun _ => True) (.slice (some ad388) t382.length co15) t382) ∧ Aside0 (Kd.R (Kd.int .i64) 3 wc w.heap.size (fun _ => True) v386 x5_1) ∧ Aside0 (wc.heap[gb381]? = some (.cells #[.int .i64 x382000_1, .int .i64 x382001_1, .int .i64 x382002_1, .int .i64 x382003_1] 37 (0, 0))) ∧ Aside0 (Below w.heap.size w wc))
       case first =>
        have H := HC14.out
        clear HC14
        by_cases c16 : t389 < 0
        ·rw [if_pos c16] at H
         have c16b0 : decide (t389 < 0) = true := decide_eq_true c16
         clear c16
         (first | rw [c16b0] | (simp only [i64_w, i32_w]; rw [c16b0]) | skip)
         have H' := Aside0.mk H
         clear H
         go_wp2
         go_meet
         case rel => exact ⟨_, (true), (by first | rfl | (simp; done) | (simp [*]; done)), H', ⟨by have := HK1.out; first | omega | exact Nat.le_refl _⟩, ⟨by (with_reducible repeat (first | apply Kd.R_alloc | apply Kd.R_drewN | apply Kd.R_drew)); exact HO_4.out⟩, ⟨by (with_reducible repeat (first | apply Kd.R_alloc | apply Kd.R_drewN | apply Kd.R_drew)); exact HO_5.out⟩, ⟨by (with_reducible repeat (first | refine blk_drewN ?_ _ | refine blk_drew ?_ | refine blk_alloc ?_ _)); exact BK381.out⟩, ⟨by repeat (first | (with_reducible first | exact HB.out | apply below_alloc | apply pw_below_drewN | apply below_drew1 | refine below_set ?_ GE381.out) | exact HB.out)⟩⟩
        ·rw [if_neg c16] at H
         have c16b0 : decide (t389 < 0) = false := decide_eq_false c16
         clear c16
         (first | rw [c16b0] | (simp only [i64_w, i32_w]; rw [c16b0]) | skip)
         by_cases c17 : t391 < 0
         ·rw [if_pos c17] at H
          have c17b0 : decide (t391 < 0) = true := decide_eq_true c17
          clear c17
          have H' := Aside0.mk H
          clear H
          go_wp2
          go_meet
          case rel => exact ⟨_, (true), (by first | rfl | (simp; done) | (simp [*]; done)), H', ⟨by have := HK1.out; first | omega | exact Nat.le_refl _⟩, ⟨by (with_reducible repeat (first | apply Kd.R_alloc | apply Kd.R_drewN | apply Kd.R_drew)); exact HO_4.out⟩, ⟨by (with_reducible repeat (first | apply Kd.R_alloc | apply Kd.R_drewN | apply Kd.R_drew)); exact HO_5.out⟩, ⟨by (with_reducible repeat (first | refine blk_drewN ?_ _ | refine blk_drew ?_ | refine blk_alloc ?_ _)); exact BK381.out⟩, ⟨by repeat (first | (with_reducible first | exact HB.out | apply below_alloc | apply pw_below_drewN | apply below_drew1 | refine below_set ?_ GE381.out) | exact HB.out)⟩⟩
         ·rw [if_neg c17] at H
          have c17b0 : decide (t391 < 0) = false := decide_eq_false c17
          clear c17
          by_cases c18 : 0 ≤ t389
          ·rw [if_pos c18] at H
           have c18b0 : decide (0 ≤ t389) = true := decide_eq_true c18
           clear c18
           by_cases c19 : t389 < (x5_1.length : Int)
           ·rw [if_pos c19] at H
            have c19b0 : decide (t389 < (x5_1.length : Int)) = true := decide_eq_true c19
            clear c19
            have H' := Aside0.mk H
            clear H
            obtain ⟨Ao20, co20, eo20⟩ := Kd.R_slice HO_5.out
            subst eo20
            have p392 : 0 ≤ (t389 : Int) := of_decide_eq_true asA
            have q392 : t389 < (x5_1.length : Int) := of_decide_eq_true asA
            obtain ⟨ad392, e392, hx392_0⟩ := Kd.at_int (Kd.R_reads' HO_5.out).2.2 t389 p392 q392
            cases e392
            replace p392 := eq_true p392
            replace q392 := eq_true q392
            go_wp2
            go_meet
            case rel => exact ⟨_, (decide ((rd x5_1 t389) ≥ 0)), (by first | rfl | (simp; done) | (simp [*]; done)), H', ⟨by have := HK1.out; first | omega | exact Nat.le_refl _⟩, ⟨by (with_reducible repeat (first | apply Kd.R_alloc | apply Kd.R_drewN | apply Kd.R_drew)); exact HO_4.out⟩, ⟨by (with_reducible repeat (first | apply Kd.R_alloc | apply Kd.R_drewN | apply Kd.R_drew)); exact HO_5.out⟩, ⟨by (with_reducible repeat (first | refine blk_drewN ?_ _ | refine blk_drew ?_ | refine blk_alloc ?_ _)); exact BK381.out⟩, ⟨by repeat (first | (with_reducible first | exact HB.out | apply below_alloc | apply pw_below_drewN | apply below_drew1 | refine below_set ?_ GE381.out) | exact HB.out)⟩⟩
           ·rw [if_neg c19] at H
            exact absurd H (by simp)
          ·rw [if_neg c18] at H
           exact absurd H (by simp)
       case rest =>
        clear HC14
        try clear c1
        try clear p1
        try clear q1
        try clear hx1
        try clear qi1
        try clear c2
        try clear p2
        try clear p3
        try clear q3
        try clear hx3
        try clear c5
        try clear c7
        try clear c7b0
        try clear c8
        try clear c8b0
        try clear c9
        try clear c9b0
        try clear c9b1
        try clear p10
        try clear q10
        try clear hx10
        try clear qi10
        try clear c12
        try clear c12b0
        try clear c12b1
        try clear c16
        try clear c16b0
        try clear c17
        try clear c17b0
        try clear c18
        try clear c18b0
        try clear c19
        try clear c19b0
        try clear hx388_0
        try clear hx390_0
        try clear hx392_0
        try clear p10
        try clear p2
        try clear p388
        try clear p390
        try clear p392
        try clear q10
        try clear q388
        try clear q390
        try clear q392
        obtain ⟨kq, x42_13, rfl, HA, HJ13, HO_4, HO_5, BK381, HB⟩ := hcut
        cases kq with
        | zero => exact absurd HA.out (by simp [rootcellarref16_Parse.j1])
        | succ kj13 =>
         have H := HA.out
         clear HA
         simp only [rootcellarref16_Parse.j1] at H
         by_cases c21 : x42_13 = true
         ·subst c21
          have H1 : (some (0, 0, 0, 0, 2)) = some (r1, r2, r3, r4, r5) := by rw [if_pos rfl] at H; exact H
          clear H
          have H := H1
          clear H1
          simp only [Option.some.injEq, Prod.mk.injEq] at H
          obtain ⟨rfl, rfl, rfl, rfl, rfl⟩ := H
          have hcz22_0 : wc.cell? ⟨gb381, 0, none⟩ = some (.int .i64 x382000_1) := (blk_cell BK381.out 0).trans rfl
          have hcz22_1 : wc.cell? ⟨gb381, 1, none⟩ = some (.int .i64 x382001_1) := (blk_cell BK381.out 1).trans rfl
          have hcz22_2 : wc.cell? ⟨gb381, 2, none⟩ = some (.int .i64 x382002_1) := (blk_cell BK381.out 2).trans rfl
          have hcz22_3 : wc.cell? ⟨gb381, 3, none⟩ = some (.int .i64 x382003_1) := (blk_cell BK381.out 3).trans rfl
          have hfz22_0 := blk_frozen BK381.out 0
          have hfz22_1 := blk_frozen BK381.out 1
          have hfz22_2 := blk_frozen BK381.out 2
          have hfz22_3 := blk_frozen BK381.out 3
          go_wp2
          refine bodyPost_ret (results_ct rfl _ _ gb381 37 #[.int .i64 0, .int .i64 0, .int .i64 0, .int .i64 0] (0, 0) _ rfl (by (with_reducible repeat (first | refine blk_drewN ?_ _ | refine blk_drew ?_ | refine blk_alloc ?_ _)); refine blk_put (cs := #[.int .i64 0, .int .i64 0, .int .i64 0, .int .i64 x382003_1]) ?_ 3 _ rfl; (with_reducible repeat (first | refine blk_drewN ?_ _ | refine blk_drew ?_ | refine blk_alloc ?_ _)); refine blk_put (cs := #[.int .i64 0, .int .i64 0, .int .i64 x382002_1, .int .i64 x382003_1]) ?_ 2 _ rfl; (with_reducible repeat (first | refine blk_drewN ?_ _ | refine blk_drew ?_ | refine blk_alloc ?_ _)); refine blk_put (cs := #[.int .i64 0, .int .i64 x382001_1, .int .i64 x382002_1, .int .i64 x382003_1]) ?_ 1 _ rfl; (with_reducible repeat (first | refine blk_drewN ?_ _ | refine blk_drew ?_ | refine blk_alloc ?_ _)); refine blk_put (cs := #[.int .i64 x382000_1, .int .i64 x382001_1, .int .i64 x382002_1, .int .i64 x382003_1]) ?_ 0 _ rfl; (with_reducible repeat (first | refine blk_drewN ?_ _ | refine blk_drew ?_ | refine blk_alloc ?_ _)); exact BK381.out) Tryz.underlying37 rfl (by kernel_rfl)) rfl ?_
          exact ⟨by first | rfl | (simp [errW_none, errW_some] <;> rfl) | (simp [*, errW_none, errW_some] <;> rfl), by repeat (first | (with_reducible first | exact HB.out | apply below_alloc | apply pw_below_drewN | apply below_drew1 | refine below_set ?_ GE381.out) | exact HB.out)⟩
         ·replace c21 := Bool.eq_false_iff.mpr c21
          subst c21
          have H1 : (if 0 ≤ t389 then (if t389 < (x5_1.length : Int) then (rootcellarref16_Parse.l0 kj13 t382 (x5_1.set (t389 : Int).toNat t391) (wrap64 (x6_1 + 1))) else (none)) else (none)) = some (r1, r2, r3, r4, r5) := by rw [if_neg (show ¬ (false = true) by decide)] at H; exact H
          clear H
          have H := H1
          clear H1
          by_cases c23 : 0 ≤ t389
          ·rw [if_pos c23] at H
           have c23b0 : decide (0 ≤ t389) = true := decide_eq_true c23
           clear c23
           by_cases c24 : t389 < (x5_1.length : Int)
           ·rw [if_pos c24] at H
            have c24b0 : decide (t389 < (x5_1.length : Int)) = true := decide_eq_true c24
            clear c24
            obtain ⟨y393, hy393⟩ : ∃ y_ : List Int, y_ = (x5_1.set (t389 : Int).toNat t391) := ⟨_, rfl⟩
            replace H : (rootcellarref16_Parse.l0 kj13 t382 y393 (wrap64 (x6_1 + 1))) = some (r1, r2, r3, r4, r5) := by first | (rw [hy393]; with_reducible exact H) | (have H2_ := (Option.bind_some _ _).symm.trans H; rw [hy393]; with_reducible exact H2_) | (have H2_ := (Option.bind_some _ _).symm.trans H; with_reducible exact H2_) | with_reducible exact H | (rw [hy393]; exact H) | exact H
            have Ny393 := Aside0.mk hy393
            clear hy393
            have H' := Aside0.mk H
            clear H
            have p25 : 0 ≤ (t389 : Int) := of_decide_eq_true asA
            have q25 : (t389 : Int) < ((x5_1.length : Int) : Int) := of_decide_eq_true asA
            obtain ⟨go25, co25, eo25, gb25, gl25, cl25, HG25⟩ := Kd.R_form HO_5.out (by omega)
            (first | cases eo25 | (injection eo25 with ea_ en_ ec_; (first | subst ea_ | (injection ea_ with ea_; subst ea_)); subst ec_; clear en_))
            have GB25 := Aside0.mk gb25
            have GG25 := Aside0.mk HG25
            clear gb25 gl25 HG25
            obtain ⟨hx25_0, hf25_0⟩ := Kd.R_celln 0 HO_5.out (t389 : Int) p25 q25
            replace p25 := eq_true p25
            replace q25 := eq_true q25
            have HP26 := Kd.R_putg HO_5.out (t389 : Int) t391
            go_wp2_with (first | ((with_reducible refine gate_store (t := 3) (p := 47) rfl ?_); refine store_event (t := 3) (p := 47) (v := ?vo_w27) (w1 := (wc.setCell ⟨go25, (t389 : Int).toNat, none⟩ (.int .i64 t391))) ?hg ?ho ?hn ?hr ?_; (case ho => rfl); (case hg => rfl); (case hn => rfl); (case hr => first | (go_simp; done) | (go_simp; rfl)); intro w27 hw; have hg : wc.grownBy w27 (some go25) := (by rw [hw]; exact HP26.2); have hp_ : Kd.R (Kd.int .i64) 3 w27 w.heap.size (fun _ => True) (.slice (some ⟨go25, 0, none⟩) x5_1.length co25) y393 := (by rw [hw, Ny393.out]; exact HP26.1); clear HP26; have n0_ := Aside0.mk (Kd.R_over' (v := (.slice (some ⟨go25, 0, none⟩) x5_1.length co25)) (kdR_ HO_4.out) (Kd.R_typed HO_5.out) (by decide) hg); have n1_ := Aside0.mk (hp_); have n2_ := Aside0.mk (blk_grown (g := gb381) (o := .cells #[.int .i64 x382000_1, .int .i64 x382001_1, .int .i64 x382002_1, .int .i64 x382003_1] 37 (0, 0)) (blkN BK381.out) hg (Kd.R_ne HO_5.out BK381.out (by decide))); have n3_ := Aside0.mk ((by rw [hw]; exact below_set (HB.out) GB25.out : Below w.heap.size w w27)); clear HO_4; clear HO_5; clear BK381; clear HB; have HO_4 := n0_; have HO_5 := n1_; have BK381 := n2_; have HB := n3_; clear n0_ n1_ n2_ n3_; clear hg hw hp_))
            go_roundg kj13
            case measure => have := HK1.out; have := HJ13.out; omega
            case rel => exact ⟨(y393), (wrap64 (x6_1 + 1)), (x382000_1), (x382001_1), (x382002_1), (x382003_1), (by first | rfl | (simp; done) | (simp [*]; done)), H', ⟨by have := HK1.out; have := HJ13.out; omega⟩, ⟨by (with_reducible repeat (first | apply Kd.R_alloc | apply Kd.R_drewN | apply Kd.R_drew)); exact HO_4.out⟩, ⟨by (with_reducible repeat (first | apply Kd.R_alloc | apply Kd.R_drewN | apply Kd.R_drew)); exact HO_5.out⟩, ⟨by (with_reducible repeat (first | refine blk_drewN ?_ _ | refine blk_drew ?_ | refine blk_alloc ?_ _)); exact BK381.out⟩, ⟨by repeat (first | (with_reducible first | exact HB.out | apply below_alloc | apply pw_below_drewN | apply below_drew1 | refine below_set ?_ GE381.out) | exact HB.out)⟩⟩
           ·rw [if_neg c24] at H
            exact absurd H (by simp)
          ·rw [if_neg c23] at H
           exact absurd H (by simp)
      ·rw [if_neg c12] at H
       exact absurd H (by simp)
     ·rw [if_neg c9] at H
      exact absurd H (by simp)
    ·rw [if_neg c8] at H
     exact absurd H (by simp)
   ·rw [if_neg c7] at H
    have c7b0 : decide (x6_1 < (t382.length : Int)) = false := decide_eq_false c7
    clear c7
    by_cases c28 : (t382.length : Int) = 0
    ·rw [if_pos c28] at H
     have c28b0 : ((t382.length : Int) == 0) = true := beq_iff_eq.mpr c28
     have c28b1 : ((t382.length : Int) != 0) = false := bne_eq_false_iff_eq.mpr c28
     clear c28
     simp only [Option.some.injEq, Prod.mk.injEq] at H
     obtain ⟨rfl, rfl, rfl, rfl, rfl⟩ := H
     obtain ⟨Ao29, co29, eo29⟩ := Kd.R_slice HO_4.out
     subst eo29
     have hcz30_0 : wr.cell? ⟨gb381, 0, none⟩ = some (.int .i64 x382000_1) := (blk_cell BK381.out 0).trans rfl
     have hcz30_1 : wr.cell? ⟨gb381, 1, none⟩ = some (.int .i64 x382001_1) := (blk_cell BK381.out 1).trans rfl
     have hcz30_2 : wr.cell? ⟨gb381, 2, none⟩ = some (.int .i64 x382002_1) := (blk_cell BK381.out 2).trans rfl
     have hcz30_3 : wr.cell? ⟨gb381, 3, none⟩ = some (.int .i64 x382003_1) := (blk_cell BK381.out 3).trans rfl
     have hfz30_0 := blk_frozen BK381.out 0
     have hfz30_1 := blk_frozen BK381.out 1
     have hfz30_2 := blk_frozen BK381.out 2
     have hfz30_3 := blk_frozen BK381.out 3
     go_wp2
     refine bodyPost_ret (results_ct rfl _ _ gb381 37 #[.int .i64 0, .int .i64 0, .int .i64 0, .int .i64 0] (0, 0) _ rfl (by (with_reducible repeat (first | refine blk_drewN ?_ _ | refine blk_drew ?_ | refine blk_alloc ?_ _)); refine blk_put (cs := #[.int .i64 0, .int .i64 0, .int .i64 0, .int .i64 x382003_1]) ?_ 3 _ rfl; (with_reducible repeat (first | refine blk_drewN ?_ _ | refine blk_drew ?_ | refine blk_alloc ?_ _)); refine blk_put (cs := #[.int .i64 0, .int .i64 0, .int .i64 x382002_1, .int .i64 x382003_1]) ?_ 2 _ rfl; (with_reducible repeat (first | refine blk_drewN ?_ _ | refine blk_drew ?_ | refine blk_alloc ?_ _)); refine blk_put (cs := #[.int .i64 0, .int .i64 x382001_1, .int .i64 x382002_1, .int .i64 x382003_1]) ?_ 1 _ rfl; (with_reducible repeat (first | refine blk_drewN ?_ _ | refine blk_drew ?_ | refine blk_alloc ?_ _)); refine blk_put (cs := #[.int .i64 x382000_1, .int .i64 x382001_1, .int .i64 x382002_1, .int .i64 x382003_1]) ?_ 0 _ rfl; (with_reducible repeat (first | refine blk_drewN ?_ _ | refine blk_drew ?_ | refine blk_alloc ?_ _)); exact BK381.out) Tryz.underlying37 rfl (by kernel_rfl)) rfl ?_
     exact ⟨by first | rfl | (simp [errW_none, errW_some] <;> rfl) | (simp [*, errW_none, errW_some] <;> rfl), by repeat (first | (with_reducible first | exact HB.out | apply below_alloc | apply pw_below_drewN | apply below_drew1 | refine below_set ?_ GE381.out) | exact HB.out)⟩
    ·rw [if_neg c28] at H
     have c28b0 : ((t382.length : Int) == 0) = false := beq_eq_false_iff_ne.mpr c28
     have c28b1 : ((t382.length : Int) != 0) = true := bne_iff_ne.mpr c28
     have c28b2 : ¬ (t382 = []) := fun h_ => c28 (by rw [h_]; rfl)
     by_cases c31 : 0 < (x5_1.length : Int)
     ·rw [if_pos c31] at H
      have c31b0 : decide (0 < (x5_1.length : Int)) = true := decide_eq_true c31
      have c31b1 : decide (0 < x5_1.length) = true := decide_eq_true (by omega)
      clear c31
      obtain ⟨ji32, hji32⟩ : ∃ j_ : Int, (mx (rd x5_1 0) 0) = j_ := ⟨_, rfl⟩
      replace H : (if 1 < (x5_1.length : Int) then (if 2 < (x5_1.length : Int) then (if 3 < (x5_1.length : Int) then (some (ji32, mx (rd x5_1 1) 0, mx (rd x5_1 2) 0, mx (rd x5_1 3) 0, 0)) else (none)) else (none)) else (none)) = some (r1, r2, r3, r4, r5) := by first | (rw [hji32] at H; exact H) | (simp only [hji32] at H ⊢; exact H)
      have hji32_ : (if (rd x5_1 0) < 0 then 0 else (rd x5_1 0)) = ji32 := hji32
      by_cases c33 : 1 < (x5_1.length : Int)
      ·rw [if_pos c33] at H
       have c33b0 : decide (1 < (x5_1.length : Int)) = true := decide_eq_true c33
       have c33b1 : decide (1 < x5_1.length) = true := decide_eq_true (by omega)
       clear c33
       obtain ⟨ji34, hji34⟩ : ∃ j_ : Int, (mx (rd x5_1 1) 0) = j_ := ⟨_, rfl⟩
       replace H : (if 2 < (x5_1.length : Int) then (if 3 < (x5_1.length : Int) then (some (ji32, ji34, mx (rd x5_1 2) 0, mx (rd x5_1 3) 0, 0)) else (none)) else (none)) = some (r1, r2, r3, r4, r5) := by first | (rw [hji34] at H; exact H) | (simp only [hji34] at H ⊢; exact H)
       have hji34_ : (if (rd x5_1 1) < 0 then 0 else (rd x5_1 1)) = ji34 := hji34
       by_cases c35 : 2 < (x5_1.length : Int)
       ·rw [if_pos c35] at H
        have c35b0 : decide (2 < (x5_1.length : Int)) = true := decide_eq_true c35
        have c35b1 : decide (2 < x5_1.length) = true := decide_eq_true (by omega)
        clear c35
        obtain ⟨ji36, hji36⟩ : ∃ j_ : Int, (mx (rd x5_1 2) 0) = j_ := ⟨_, rfl⟩
        replace H : (if 3 < (x5_1.length : Int) then (some (ji32, ji34, ji36, mx (rd x5_1 3) 0, 0)) else (none)) = some (r1, r2, r3, r4, r5) := by first | (rw [hji36] at H; exact H) | (simp only [hji36] at H ⊢; exact H)
        have hji36_ : (if (rd x5_1 2) < 0 then 0 else (rd x5_1 2)) = ji36 := hji36
        by_cases c37 : 3 < (x5_1.length : Int)
        ·rw [if_pos c37] at H
         have c37b0 : decide (3 < (x5_1.length : Int)) = true := decide_eq_true c37
         have c37b1 : decide (3 < x5_1.length) = true := decide_eq_true (by omega)
         clear c37
         obtain ⟨ji38, hji38⟩ : ∃ j_ : Int, (mx (rd x5_1 3) 0) = j_ := ⟨_, rfl⟩
         replace H : (some (ji32, ji34, ji36, ji38, 0)) = some (r1, r2, r3, r4, r5) := by first | (rw [hji38] at H; exact H) | (simp only [hji38] at H ⊢; exact H)
         have hji38_ : (if (rd x5_1 3) < 0 then 0 else (rd x5_1 3)) = ji38 := hji38
         simp only [Option.some.injEq, Prod.mk.injEq] at H
         obtain ⟨rfl, rfl, rfl, rfl, rfl⟩ := H
         obtain ⟨Ao39, co39, eo39⟩ := Kd.R_slice HO_4.out
         subst eo39
         try go_wp2
         have n0_ := Aside0.mk (Kd.R_drew HO_4.out)
         have n1_ := Aside0.mk (Kd.R_drew HO_5.out)
         have n2_ := Aside0.mk (blk_drew BK381.out)
         have n3_ := Aside0.mk (below_drew1 HB.out)
         clear HO_4
         clear HO_5
         clear BK381
         clear HB
         have HO_4 := n0_
         have HO_5 := n1_
         have BK381 := n2_
         have HB := n3_
         clear n0_ n1_ n2_ n3_
         obtain ⟨Ao41, co41, eo41⟩ := Kd.R_slice HO_5.out
         (first | subst eo41 | (injection eo41 with f1_ f2_ f3_; have f4_ := f1_.symm; have f5_ := f3_.symm; clear f1_ f2_ f3_; subst f4_; subst f5_))
         have p394 : 0 ≤ (0 : Int) := (by omega)
         have q394 : 0 < (x5_1.length : Int) := of_decide_eq_true asA
         obtain ⟨ad394, e394, hx394_0⟩ := Kd.at_int (Kd.R_reads' HO_5.out).2.2 0 p394 q394
         cases e394
         have qi394 : (0 < x5_1.length) = True := eq_true (by omega)
         (try rw [show ((0 : Int)).toNat = 0 from rfl] at hx394_0)
         (try rw [Addr.add_zero'] at hx394_0)
         replace p394 := eq_true p394
         replace q394 := eq_true q394
         have p395 : 0 ≤ (1 : Int) := (by omega)
         have q395 : 1 < (x5_1.length : Int) := of_decide_eq_true asA
         obtain ⟨ad395, e395, hx395_0⟩ := Kd.at_int (Kd.R_reads' HO_5.out).2.2 1 p395 q395
         obtain rfl : ad394 = ad395 := (by injection e395)
         (try simp only [show (1 : Int).toNat = 1 from rfl, Nat.reduceMul, Nat.reduceEqDiff, Go.Addr.add, ↓reduceIte] at hx395_0)
         have qi395 : (1 < x5_1.length) = True := eq_true (by omega)
         (try rw [show ((1 : Int)).toNat = 1 from rfl] at hx395_0)
         replace p395 := eq_true p395
         replace q395 := eq_true q395
         have p396 : 0 ≤ (2 : Int) := (by omega)
         have q396 : 2 < (x5_1.length : Int) := of_decide_eq_true asA
         obtain ⟨ad396, e396, hx396_0⟩ := Kd.at_int (Kd.R_reads' HO_5.out).2.2 2 p396 q396
         obtain rfl : ad394 = ad396 := (by injection e396)
         (try simp only [show (2 : Int).toNat = 2 from rfl, Nat.reduceMul, Nat.reduceEqDiff, Go.Addr.add, ↓reduceIte] at hx396_0)
         have qi396 : (2 < x5_1.length) = True := eq_true (by omega)
         (try rw [show ((2 : Int)).toNat = 2 from rfl] at hx396_0)
         replace p396 := eq_true p396
         replace q396 := eq_true q396
         have p397 : 0 ≤ (3 : Int) := (by omega)
         have q397 : 3 < (x5_1.length : Int) := of_decide_eq_true asA
         obtain ⟨ad397, e397, hx397_0⟩ := Kd.at_int (Kd.R_reads' HO_5.out).2.2 3 p397 q397
         obtain rfl : ad394 = ad397 := (by injection e397)
         (try simp only [show (3 : Int).toNat = 3 from rfl, Nat.reduceMul, Nat.reduceEqDiff, Go.Addr.add, ↓reduceIte] at hx397_0)
         have qi397 : (3 < x5_1.length) = True := eq_true (by omega)
         (try rw [show ((3 : Int)).toNat = 3 from rfl] at hx397_0)
         replace p397 := eq_true p397
         replace q397 := eq_true q397
         refine start_ (n := 19) (S := fun w' => w'.cell? ad394 = some (.int .i64 (rd x5_1 0)) ∧ w'.cell? ⟨ad394.block, ad394.off + 1, none⟩ = some (.int .i64 (rd x5_1 1)) ∧ w'.cell? ⟨ad394.block, ad394.off + 2, none⟩ = some (.int .i64 (rd x5_1 2)) ∧ w'.cell? ⟨ad394.block, ad394.off + 3, none⟩ = some (.int .i64 (rd x5_1 3))) (ds := []) #[Z,Z,Z,Z,Z,Z,Z,Z,Z,Z,Z,Z,Z,Z,Z,Z,Z,Z,Z] (by kernel_rfl) rfl rfl ⟨hx394_0, hx395_0, hx396_0, hx397_0⟩ (fun hHeld => ?_); refine with_tabW rootcellarref16_Parse.tab13 rootcellarref16_Parse.bits13 (fun HT_ HW_ => ?_)
         generalize wr.drew = w40 at HO_4 HO_5 BK381 HB hx394_0 hx395_0 hx396_0 hx397_0 hHeld ⊢
         refine pure_ (i := 0) (N := some 52) (v := ?_) (a' := ?_) #[Y,Z,Z,Z,Z,Z,Z,Z,Z,Z,Z,Z,Z,Z,Z,Z,Z,Z,Z] rfl rfl (any_of HT_.out (by kernel_rfl)) (fun _ _ _ h => h) (Or.inl ⟨by rfl, ?_⟩) ?_ ?_
         rotate_left
         ·intro w'
          go_simp
          with_reducible rfl
         rotate_left
         ·simp only [Act.put, List.setIfInBounds_toArray, List.set_cons_zero, List.set_cons_succ, i64_w, i32_w]
          rfl
         refine pure_ (i := 1) (N := some 53) (v := ?_) (a' := ?_) #[Y,Y,Z,Z,Z,Z,Z,Z,Z,Z,Z,Z,Z,Z,Z,Z,Z,Z,Z] rfl rfl (any_of HT_.out (by kernel_rfl)) (fun _ _ _ h => h) (Or.inl ⟨by rfl, ?_⟩) ?_ ?_
         rotate_left
         ·intro w'
          go_simp
          with_reducible rfl
         rotate_left
         ·simp only [Act.put, List.setIfInBounds_toArray, List.set_cons_zero, List.set_cons_succ, i64_w, i32_w]
          rfl
         refine pure_ (i := 4) (N := some 56) (v := ?_) (a' := ?_) #[Y,Y,Z,Z,Y,Z,Z,Z,Z,Z,Z,Z,Z,Z,Z,Z,Z,Z,Z] rfl rfl (any_of HT_.out (by kernel_rfl)) (fun _ _ _ h => h) (Or.inl ⟨by rfl, ?_⟩) ?_ ?_
         rotate_left
         ·intro w'
          go_simp
          with_reducible rfl
         rotate_left
         ·simp only [Act.put, List.setIfInBounds_toArray, List.set_cons_zero, List.set_cons_succ, i64_w, i32_w]
          rfl
         refine pure_ (i := 5) (N := some 57) (v := ?_) (a' := ?_) #[Y,Y,Z,Z,Y,Y,Z,Z,Z,Z,Z,Z,Z,Z,Z,Z,Z,Z,Z] rfl rfl (any_of HT_.out (by kernel_rfl)) (fun _ _ _ h => h) (Or.inl ⟨by rfl, ?_⟩) ?_ ?_
         rotate_left
         ·intro w'
          go_simp
          with_reducible rfl
         rotate_left
         ·simp only [Act.put, List.setIfInBounds_toArray, List.set_cons_zero, List.set_cons_succ, i64_w, i32_w]
          rfl
         refine pure_ (i := 8) (N := some 60) (v := ?_) (a' := ?_) #[Y,Y,Z,Z,Y,Y,Z,Z,Y,Z,Z,Z,Z,Z,Z,Z,Z,Z,Z] rfl rfl (any_of HT_.out (by kernel_rfl)) (fun _ _ _ h => h) (Or.inl ⟨by rfl, ?_⟩) ?_ ?_
         rotate_left
         ·intro w'
          go_simp
          with_reducible rfl
         rotate_left
         ·simp only [Act.put, List.setIfInBounds_toArray, List.set_cons_zero, List.set_cons_succ, i64_w, i32_w]
          rfl
         refine pure_ (i := 9) (N := some 61) (v := ?_) (a' := ?_) #[Y,Y,Z,Z,Y,Y,Z,Z,Y,Y,Z,Z,Z,Z,Z,Z,Z,Z,Z] rfl rfl (any_of HT_.out (by kernel_rfl)) (fun _ _ _ h => h) (Or.inl ⟨by rfl, ?_⟩) ?_ ?_
         rotate_left
         ·intro w'
          go_simp
          with_reducible rfl
         rotate_left
         ·simp only [Act.put, List.setIfInBounds_toArray, List.set_cons_zero, List.set_cons_succ, i64_w, i32_w]
          rfl
         refine pure_ (i := 12) (N := some 64) (v := ?_) (a' := ?_) #[Y,Y,Z,Z,Y,Y,Z,Z,Y,Y,Z,Z,Y,Z,Z,Z,Z,Z,Z] rfl rfl (any_of HT_.out (by kernel_rfl)) (fun _ _ _ h => h) (Or.inl ⟨by rfl, ?_⟩) ?_ ?_
         rotate_left
         ·intro w'
          go_simp
          with_reducible rfl
         rotate_left
         ·simp only [Act.put, List.setIfInBounds_toArray, List.set_cons_zero, List.set_cons_succ, i64_w, i32_w]
          rfl
         refine pure_ (i := 13) (N := some 65) (v := ?_) (a' := ?_) #[Y,Y,Z,Z,Y,Y,Z,Z,Y,Y,Z,Z,Y,Y,Z,Z,Z,Z,Z] rfl rfl (any_of HT_.out (by kernel_rfl)) (fun _ _ _ h => h) (Or.inl ⟨by rfl, ?_⟩) ?_ ?_
         rotate_left
         ·intro w'
          go_simp
          with_reducible rfl
         rotate_left
         ·simp only [Act.put, List.setIfInBounds_toArray, List.set_cons_zero, List.set_cons_succ, i64_w, i32_w]
          rfl
         refine take_ (i := 2) (N := some 54) (v := ?_) (a' := ?_) #[Y,Y,Y,Z,Y,Y,Z,Z,Y,Y,Z,Z,Y,Y,Z,Z,Z,Z,Z] rfl rfl (take_ofW HT_.out HW_.out (by kernel_rfl)) (fun _ _ _ h => h) (Or.inl ⟨by rfl, ?_⟩) hHeld ?_ ?_
         rotate_left
         ·rintro w' ⟨s0, s1, s2, s3⟩
          go_simp
          with_reducible rfl
         rotate_left
         ·simp only [Act.put, List.setIfInBounds_toArray, List.set_cons_zero, List.set_cons_succ, i64_w, i32_w]
          rfl
         refine pure_ (i := 3) (N := some 55) (v := ?_) (a' := ?_) #[Y,Y,Y,Y,Y,Y,Z,Z,Y,Y,Z,Z,Y,Y,Z,Z,Z,Z,Z] rfl rfl (any_of HT_.out (by kernel_rfl)) (fun _ _ _ h => h) (Or.inl ⟨by rfl, ?_⟩) ?_ ?_
         rotate_left
         ·intro w'
          go_simp
          with_reducible rfl
         rotate_left
         ·simp only [Act.put, List.setIfInBounds_toArray, List.set_cons_zero, List.set_cons_succ, i64_w, i32_w]
          rfl
         refine take_ (i := 6) (N := some 58) (v := ?_) (a' := ?_) #[Y,Y,Y,Y,Y,Y,Y,Z,Y,Y,Z,Z,Y,Y,Z,Z,Z,Z,Z] rfl rfl (take_ofW HT_.out HW_.out (by kernel_rfl)) (fun _ _ _ h => h) (Or.inl ⟨by rfl, ?_⟩) hHeld ?_ ?_
         rotate_left
         ·rintro w' ⟨s0, s1, s2, s3⟩
          go_simp
          with_reducible rfl
         rotate_left
         ·simp only [Act.put, List.setIfInBounds_toArray, List.set_cons_zero, List.set_cons_succ, i64_w, i32_w]
          rfl
         refine pure_ (i := 7) (N := some 59) (v := ?_) (a' := ?_) #[Y,Y,Y,Y,Y,Y,Y,Y,Y,Y,Z,Z,Y,Y,Z,Z,Z,Z,Z] rfl rfl (any_of HT_.out (by kernel_rfl)) (fun _ _ _ h => h) (Or.inl ⟨by rfl, ?_⟩) ?_ ?_
         rotate_left
         ·intro w'
          go_simp
          with_reducible rfl
         rotate_left
         ·simp only [Act.put, List.setIfInBounds_toArray, List.set_cons_zero, List.set_cons_succ, i64_w, i32_w]
          rfl
         refine take_ (i := 10) (N := some 62) (v := ?_) (a' := ?_) #[Y,Y,Y,Y,Y,Y,Y,Y,Y,Y,Y,Z,Y,Y,Z,Z,Z,Z,Z] rfl rfl (take_ofW HT_.out HW_.out (by kernel_rfl)) (fun _ _ _ h => h) (Or.inl ⟨by rfl, ?_⟩) hHeld ?_ ?_
         rotate_left
         ·rintro w' ⟨s0, s1, s2, s3⟩
          go_simp
          with_reducible rfl
         rotate_left
         ·simp only [Act.put, List.setIfInBounds_toArray, List.set_cons_zero, List.set_cons_succ, i64_w, i32_w]
          rfl
         refine pure_ (i := 11) (N := some 63) (v := ?_) (a' := ?_) #[Y,Y,Y,Y,Y,Y,Y,Y,Y,Y,Y,Y,Y,Y,Z,Z,Z,Z,Z] rfl rfl (any_of HT_.out (by kernel_rfl)) (fun _ _ _ h => h) (Or.inl ⟨by rfl, ?_⟩) ?_ ?_
         rotate_left
         ·intro w'
          go_simp
          with_reducible rfl
         rotate_left
         ·simp only [Act.put, List.setIfInBounds_toArray, List.set_cons_zero, List.set_cons_succ, i64_w, i32_w]
          rfl
         refine take_ (i := 14) (N := some 66) (v := ?_) (a' := ?_) #[Y,Y,Y,Y,Y,Y,Y,Y,Y,Y,Y,Y,Y,Y,Y,Z,Z,Z,Z] rfl rfl (take_ofW HT_.out HW_.out (by kernel_rfl)) (fun _ _ _ h => h) (Or.inl ⟨by rfl, ?_⟩) hHeld ?_ ?_
         rotate_left
         ·rintro w' ⟨s0, s1, s2, s3⟩
          go_simp
          with_reducible rfl
         rotate_left
         ·simp only [Act.put, List.setIfInBounds_toArray, List.set_cons_zero, List.set_cons_succ, i64_w, i32_w]
          rfl
         refine pure_ (i := 15) (N := some 67) (v := ?_) (a' := ?_) #[Y,Y,Y,Y,Y,Y,Y,Y,Y,Y,Y,Y,Y,Y,Y,Y,Z,Z,Z] rfl rfl (any_of HT_.out (by kernel_rfl)) (fun _ _ _ h => h) (Or.inl ⟨by rfl, ?_⟩) ?_ ?_
         rotate_left
         ·intro w'
          go_simp
          with_reducible rfl
         rotate_left
         ·simp only [Act.put, List.setIfInBounds_toArray, List.set_cons_zero, List.set_cons_succ, i64_w, i32_w]
          rfl
         refine pure_ (i := 16) (N := some 68) (v := ?_) (a' := ?_) #[Y,Y,Y,Y,Y,Y,Y,Y,Y,Y,Y,Y,Y,Y,Y,Y,Y,Z,Z] rfl rfl (any_of HT_.out (by kernel_rfl)) (fun _ _ _ h => h) (Or.inl ⟨by rfl, ?_⟩) ?_ ?_
         rotate_left
         ·intro w'
          go_simp
          with_reducible rfl
         rotate_left
         ·simp only [Act.put, List.setIfInBounds_toArray, List.set_cons_zero, List.set_cons_succ, i64_w, i32_w]
          rfl
         refine one_ (i := 17) (N := none) #[Y,Y,Y,Y,Y,Y,Y,Y,Y,Y,Y,Y,Y,Y,Y,Y,Y,Y,Z] rfl rfl (one_of HT_.out (by kernel_rfl)) (by decide) (fun K hK => ?_)
         have hs42 : w40.cell? ⟨gb381, 0, none⟩ = some (.int .i64 x382000_1) := (blk_cell BK381.out 0).trans rfl
         have hfs42 := blk_frozen BK381.out 0
         have hs43 : w40.cell? ⟨gb381, 1, none⟩ = some (.int .i64 x382001_1) := (blk_cell BK381.out 1).trans rfl
         have hfs43 := blk_frozen BK381.out 1
         have hs44 : w40.cell? ⟨gb381, 2, none⟩ = some (.int .i64 x382002_1) := (blk_cell BK381.out 2).trans rfl
         have hfs44 := blk_frozen BK381.out 2
         have hs45 : w40.cell? ⟨gb381, 3, none⟩ = some (.int .i64 x382003_1) := (blk_cell BK381.out 3).trans rfl
         have hfs45 := blk_frozen BK381.out 3
         refine skip_ (w1 := ?_) (by rfl) rfl ?_ ?_
         rotate_left
         ·go_simp
          rfl
         refine hK.out _ _ ⟨((cell_far (p := ⟨gb381, _, none⟩) (by first | exact Kd.own_blk (Kd.R_ne HO_5.out BK381.out (by decide)) | (rw [add_block]; exact Kd.own_blk (Kd.R_ne HO_5.out BK381.out (by decide))) | (show (Addr.add _ _).block ≠ _; rw [add_block]; exact Kd.own_blk (Kd.R_ne HO_5.out BK381.out (by decide))) | (dsimp only; exact Kd.own_blk (Kd.R_ne HO_5.out BK381.out (by decide)))) _).trans (((cell_far (p := ⟨gb381, _, none⟩) (by first | exact Kd.own_blk (Kd.R_ne HO_5.out BK381.out (by decide)) | (rw [add_block]; exact Kd.own_blk (Kd.R_ne HO_5.out BK381.out (by decide))) | (show (Addr.add _ _).block ≠ _; rw [add_block]; exact Kd.own_blk (Kd.R_ne HO_5.out BK381.out (by decide))) | (dsimp only; exact Kd.own_blk (Kd.R_ne HO_5.out BK381.out (by decide)))) _).trans (((cell_far (p := ⟨gb381, _, none⟩) (by first | exact Kd.own_blk (Kd.R_ne HO_5.out BK381.out (by decide)) | (rw [add_block]; exact Kd.own_blk (Kd.R_ne HO_5.out BK381.out (by decide))) | (show (Addr.add _ _).block ≠ _; rw [add_block]; exact Kd.own_blk (Kd.R_ne HO_5.out BK381.out (by decide))) | (dsimp only; exact Kd.own_blk (Kd.R_ne HO_5.out BK381.out (by decide)))) _).trans (((cell_far (p := ⟨gb381, _, none⟩) (by first | exact Kd.own_blk (Kd.R_ne HO_5.out BK381.out (by decide)) | (rw [add_block]; exact Kd.own_blk (Kd.R_ne HO_5.out BK381.out (by decide))) | (show (Addr.add _ _).block ≠ _; rw [add_block]; exact Kd.own_blk (Kd.R_ne HO_5.out BK381.out (by decide))) | (dsimp only; exact Kd.own_blk (Kd.R_ne HO_5.out BK381.out (by decide)))) _).trans (hHeld.1)))))))), ((cell_far (p := ⟨gb381, _, none⟩) (by first | exact Kd.own_blk (Kd.R_ne HO_5.out BK381.out (by decide)) | (rw [add_block]; exact Kd.own_blk (Kd.R_ne HO_5.out BK381.out (by decide))) | (show (Addr.add _ _).block ≠ _; rw [add_block]; exact Kd.own_blk (Kd.R_ne HO_5.out BK381.out (by decide))) | (dsimp only; exact Kd.own_blk (Kd.R_ne HO_5.out BK381.out (by decide)))) _).trans (((cell_far (p := ⟨gb381, _, none⟩) (by first | exact Kd.own_blk (Kd.R_ne HO_5.out BK381.out (by decide)) | (rw [add_block]; exact Kd.own_blk (Kd.R_ne HO_5.out BK381.out (by decide))) | (show (Addr.add _ _).block ≠ _; rw [add_block]; exact Kd.own_blk (Kd.R_ne HO_5.out BK381.out (by decide))) | (dsimp only; exact Kd.own_blk (Kd.R_ne HO_5.out BK381.out (by decide)))) _).trans (((cell_far (p := ⟨gb381, _, none⟩) (by first | exact Kd.own_blk (Kd.R_ne HO_5.out BK381.out (by decide)) | (rw [add_block]; exact Kd.own_blk (Kd.R_ne HO_5.out BK381.out (by decide))) | (show (Addr.add _ _).block ≠ _; rw [add_block]; exact Kd.own_blk (Kd.R_ne HO_5.out BK381.out (by decide))) | (dsimp only; exact Kd.own_blk (Kd.R_ne HO_5.out BK381.out (by decide)))) _).trans (((cell_far (p := ⟨gb381, _, none⟩) (by first | exact Kd.own_blk (Kd.R_ne HO_5.out BK381.out (by decide)) | (rw [add_block]; exact Kd.own_blk (Kd.R_ne HO_5.out BK381.out (by decide))) | (show (Addr.add _ _).block ≠ _; rw [add_block]; exact Kd.own_blk (Kd.R_ne HO_5.out BK381.out (by decide))) | (dsimp only; exact Kd.own_blk (Kd.R_ne HO_5.out BK381.out (by decide)))) _).trans (hHeld.2.1)))))))), ((cell_far (p := ⟨gb381, _, none⟩) (by first | exact Kd.own_blk (Kd.R_ne HO_5.out BK381.out (by decide)) | (rw [add_block]; exact Kd.own_blk (Kd.R_ne HO_5.out BK381.out (by decide))) | (show (Addr.add _ _).block ≠ _; rw [add_block]; exact Kd.own_blk (Kd.R_ne HO_5.out BK381.out (by decide))) | (dsimp only; exact Kd.own_blk (Kd.R_ne HO_5.out BK381.out (by decide)))) _).trans (((cell_far (p := ⟨gb381, _, none⟩) (by first | exact Kd.own_blk (Kd.R_ne HO_5.out BK381.out (by decide)) | (rw [add_block]; exact Kd.own_blk (Kd.R_ne HO_5.out BK381.out (by decide))) | (show (Addr.add _ _).block ≠ _; rw [add_block]; exact Kd.own_blk (Kd.R_ne HO_5.out BK381.out (by decide))) | (dsimp only; exact Kd.own_blk (Kd.R_ne HO_5.out BK381.out (by decide)))) _).trans (((cell_far (p := ⟨gb381, _, none⟩) (by first | exact Kd.own_blk (Kd.R_ne HO_5.out BK381.out (by decide)) | (rw [add_block]; exact Kd.own_blk (Kd.R_ne HO_5.out BK381.out (by decide))) | (show (Addr.add _ _).block ≠ _; rw [add_block]; exact Kd.own_blk (Kd.R_ne HO_5.out BK381.out (by decide))) | (dsimp only; exact Kd.own_blk (Kd.R_ne HO_5.out BK381.out (by decide)))) _).trans (((cell_far (p := ⟨gb381, _, none⟩) (by first | exact Kd.own_blk (Kd.R_ne HO_5.out BK381.out (by decide)) | (rw [add_block]; exact Kd.own_blk (Kd.R_ne HO_5.out BK381.out (by decide))) | (show (Addr.add _ _).block ≠ _; rw [add_block]; exact Kd.own_blk (Kd.R_ne HO_5.out BK381.out (by decide))) | (dsimp only; exact Kd.own_blk (Kd.R_ne HO_5.out BK381.out (by decide)))) _).trans (hHeld.2.2.1)))))))), ((cell_far (p := ⟨gb381, _, none⟩) (by first | exact Kd.own_blk (Kd.R_ne HO_5.out BK381.out (by decide)) | (rw [add_block]; exact Kd.own_blk (Kd.R_ne HO_5.out BK381.out (by decide))) | (show (Addr.add _ _).block ≠ _; rw [add_block]; exact Kd.own_blk (Kd.R_ne HO_5.out BK381.out (by decide))) | (dsimp only; exact Kd.own_blk (Kd.R_ne HO_5.out BK381.out (by decide)))) _).trans (((cell_far (p := ⟨gb381, _, none⟩) (by first | exact Kd.own_blk (Kd.R_ne HO_5.out BK381.out (by decide)) | (rw [add_block]; exact Kd.own_blk (Kd.R_ne HO_5.out BK381.out (by decide))) | (show (Addr.add _ _).block ≠ _; rw [add_block]; exact Kd.own_blk (Kd.R_ne HO_5.out BK381.out (by decide))) | (dsimp only; exact Kd.own_blk (Kd.R_ne HO_5.out BK381.out (by decide)))) _).trans (((cell_far (p := ⟨gb381, _, none⟩) (by first | exact Kd.own_blk (Kd.R_ne HO_5.out BK381.out (by decide)) | (rw [add_block]; exact Kd.own_blk (Kd.R_ne HO_5.out BK381.out (by decide))) | (show (Addr.add _ _).block ≠ _; rw [add_block]; exact Kd.own_blk (Kd.R_ne HO_5.out BK381.out (by decide))) | (dsimp only; exact Kd.own_blk (Kd.R_ne HO_5.out BK381.out (by decide)))) _).trans (((cell_far (p := ⟨gb381, _, none⟩) (by first | exact Kd.own_blk (Kd.R_ne HO_5.out BK381.out (by decide)) | (rw [add_block]; exact Kd.own_blk (Kd.R_ne HO_5.out BK381.out (by decide))) | (show (Addr.add _ _).block ≠ _; rw [add_block]; exact Kd.own_blk (Kd.R_ne HO_5.out BK381.out (by decide))) | (dsimp only; exact Kd.own_blk (Kd.R_ne HO_5.out BK381.out (by decide)))) _).trans (hHeld.2.2.2))))))))⟩ (fun hHeld => ?_)
         clear hK K
         refine pure_ (i := 18) (N := some 3) (v := ?_) (a' := ?_) #[Y,Y,Y,Y,Y,Y,Y,Y,Y,Y,Y,Y,Y,Y,Y,Y,Y,Y,Y] rfl rfl (any_of HT_.out (by kernel_rfl)) (fun _ _ _ h => h) (Or.inl ⟨by rfl, ?_⟩) ?_ ?_
         rotate_left
         ·intro w'
          go_simp
          with_reducible rfl
         rotate_left
         ·simp only [Act.put, List.setIfInBounds_toArray, List.set_cons_zero, List.set_cons_succ, i64_w, i32_w]
          rfl
         refine done_ (done_of HT_.out (by kernel_rfl)) ?_
         try go_wp2
         refine bodyPost_ret (results_ct rfl _ _ gb381 37 #[.int .i64 ji32, .int .i64 ji34, .int .i64 ji36, .int .i64 ji38] (0, 0) _ rfl (by (with_reducible repeat (first | refine blk_drewN ?_ _ | refine blk_drew ?_ | refine blk_alloc ?_ _)); refine blk_put (cs := #[.int .i64 ji32, .int .i64 ji34, .int .i64 ji36, .int .i64 x382003_1]) ?_ 3 _ rfl; (with_reducible repeat (first | refine blk_drewN ?_ _ | refine blk_drew ?_ | refine blk_alloc ?_ _)); refine blk_put (cs := #[.int .i64 ji32, .int .i64 ji34, .int .i64 x382002_1, .int .i64 x382003_1]) ?_ 2 _ rfl; (with_reducible repeat (first | refine blk_drewN ?_ _ | refine blk_drew ?_ | refine blk_alloc ?_ _)); refine blk_put (cs := #[.int .i64 ji32, .int .i64 x382001_1, .int .i64 x382002_1, .int .i64 x382003_1]) ?_ 1 _ rfl; (with_reducible repeat (first | refine blk_drewN ?_ _ | refine blk_drew ?_ | refine blk_alloc ?_ _)); refine blk_put (cs := #[.int .i64 x382000_1, .int .i64 x382001_1, .int .i64 x382002_1, .int .i64 x382003_1]) ?_ 0 _ rfl; (with_reducible repeat (first | refine blk_drewN ?_ _ | refine blk_drew ?_ | refine blk_alloc ?_ _)); exact BK381.out) Tryz.underlying37 rfl (by kernel_rfl)) rfl ?_
         exact ⟨by first | rfl | (simp [errW_none, errW_some] <;> rfl) | (simp only [← hji32, ← hji34, ← hji36, ← hji38]; first | rfl | (simp [errW_none, errW_some] <;> rfl)) | (simp [*, errW_none, errW_some] <;> rfl), by repeat (first | (with_reducible first | exact HB.out | apply below_alloc | apply pw_below_drewN | apply below_drew1 | refine below_set ?_ GE381.out) | exact HB.out)⟩
        ·rw [if_neg c37] at H
         exact absurd H (by simp)
       ·rw [if_neg c35] at H
        exact absurd H (by simp)
      ·rw [if_neg c33] at H
       exact absurd H (by simp)
     ·rw [if_neg c31] at H
      exact absurd H (by simp)
-- NOT PRINTED: function 139 (abi_NoEscape)
-- NOT PRINTED: function 117 (strings_Builder_copyCheck)
-- NOT PRINTED: function 140 (bytealg_MakeNoZero)
-- NOT PRINTED: function 118 (strings_Builder_grow)
-- NOT PRINTED: function 79 (strings_Builder_Grow)
-- NOT PRINTED: function 80 (strings_Builder_WriteString)
-- NOT PRINTED: function 81 (strings_Builder_String)
-- NOT PRINTED: function 59 (strings_Join)
-- NOT PRINTED: function 31 (policy_Print)
def rootcellarref16_decimal.l0 : Nat → Int → ByteArray → Option (ByteArray)
 | 0, _, _ => none
 | k + 1, x0, x3 => if x0 > 0 then (if 0 ≤ (Int.tmod x0 10) then (if (Int.tmod x0 10) ≤ (wrap64 ((Int.tmod x0 10) + 1)) then (if (wrap64 ((Int.tmod x0 10) + 1)) ≤ 10 then (if ((⟨#[48, 49, 50, 51, 52, 53, 54, 55, 56, 57]⟩ : ByteArray).extract ((Int.tmod x0 10) : Int).toNat ((wrap64 ((Int.tmod x0 10) + 1)) : Int).toNat).size + x3.size ≤ 9223372036854775807 then (rootcellarref16_decimal.l0 k (wrap64 (Int.tdiv x0 10)) (((⟨#[48, 49, 50, 51, 52, 53, 54, 55, 56, 57]⟩ : ByteArray).extract ((Int.tmod x0 10) : Int).toNat ((wrap64 ((Int.tmod x0 10) + 1)) : Int).toNat) ++ x3)) else (none)) else (none)) else (none)) else (none)) else (if x3.toList = ([] : List UInt8) then (if 0 ≤ (Int.tmod x0 10) then (if (Int.tmod x0 10) ≤ (wrap64 ((Int.tmod x0 10) + 1)) then (if (wrap64 ((Int.tmod x0 10) + 1)) ≤ 10 then (if ((⟨#[48, 49, 50, 51, 52, 53, 54, 55, 56, 57]⟩ : ByteArray).extract ((Int.tmod x0 10) : Int).toNat ((wrap64 ((Int.tmod x0 10) + 1)) : Int).toNat).size + x3.size ≤ 9223372036854775807 then (rootcellarref16_decimal.l0 k (wrap64 (Int.tdiv x0 10)) (((⟨#[48, 49, 50, 51, 52, 53, 54, 55, 56, 57]⟩ : ByteArray).extract ((Int.tmod x0 10) : Int).toNat ((wrap64 ((Int.tmod x0 10) + 1)) : Int).toNat) ++ x3)) else (none)) else (none)) else (none)) else (none)) else (some x3))
def rootcellarref16_decimal.f (k : Nat) (a0 : Int) : Option (ByteArray) := rootcellarref16_decimal.l0 k a0 (⟨#[]⟩ : ByteArray)
set_option maxHeartbeats 8000000 in
set_option maxRecDepth 100000 in
theorem rootcellarref16_decimal.calls (k : Nat) (a0 : Int) (r : ByteArray) (w : World) (h : rootcellarref16_decimal.f k a0 = some r) :
  Calls Tryz.prog 60 #[.int .i64 a0] w fun e w' => e = .returned (.string r) ∧ Drawn0 w w' := by
 have H : (rootcellarref16_decimal.l0 k a0 (⟨#[]⟩ : ByteArray)) = some r := h
 clear h
 have H' := Aside0.mk H
 clear H
 go_enter Tryz.func60, Tryz.ntmps60
 go_wp2
 go_loopg [0, 3] k (fun kq v0 v3 w' => ∃ (x0_1 : Int) (x3_1 : ByteArray), v0 = .int .i64 x0_1 ∧ v3 = .string x3_1 ∧ Aside0 (rootcellarref16_decimal.l0 kq x0_1 x3_1 = some r) ∧ Aside0 (kq ≤ k) ∧ Drawn0 w w')
 case atStart => exact ⟨(a0), ((⟨#[]⟩ : ByteArray)), (by first | rfl | (simp; done) | (simp [*]; done)), (by first | rfl | (simp; done) | (simp [*]; done)), H', ⟨Nat.le_refl _⟩, by repeat (first | exact Drawn0.refl _ | apply Drawn0.step)⟩
 case round =>
  clear H'
  obtain ⟨x0_1, x3_1, rfl, rfl, HA, HK1, ⟨m1, rfl⟩⟩ := hrel
  cases gk with
  | zero => exact absurd HA.out (by simp [rootcellarref16_decimal.l0])
  | succ k1 =>
   have H := HA.out
   clear HA
   simp only [rootcellarref16_decimal.l0] at H
   by_cases c2 : x0_1 > 0
   ·rw [if_pos c2] at H
    have c2b0 : decide (0 < x0_1) = true := decide_eq_true c2
    clear c2
    obtain ⟨ji3, hji3⟩ : ∃ j_ : Int, (Int.tmod x0_1 10) = j_ := ⟨_, rfl⟩
    replace H : (if 0 ≤ (ji3) then (if (ji3) ≤ (wrap64 ((ji3) + 1)) then (if (wrap64 ((ji3) + 1)) ≤ 10 then (if ((⟨#[48, 49, 50, 51, 52, 53, 54, 55, 56, 57]⟩ : ByteArray).extract ((ji3) : Int).toNat ((wrap64 ((ji3) + 1)) : Int).toNat).size + x3_1.size ≤ 9223372036854775807 then (rootcellarref16_decimal.l0 k1 (wrap64 (Int.tdiv x0_1 10)) (((⟨#[48, 49, 50, 51, 52, 53, 54, 55, 56, 57]⟩ : ByteArray).extract ((ji3) : Int).toNat ((wrap64 ((ji3) + 1)) : Int).toNat) ++ x3_1)) else (none)) else (none)) else (none)) else (none)) = some r := by first | (rw [hji3] at H; exact H) | (simp only [hji3] at H ⊢; exact H)
    by_cases c4 : 0 ≤ (ji3)
    ·rw [if_pos c4] at H
     have c4b0 := eq_true c4
     have c4b1 : decide (0 ≤ (ji3)) = true := decide_eq_true c4
     clear c4
     by_cases c5 : (ji3) ≤ (wrap64 ((ji3) + 1))
     ·rw [if_pos c5] at H
      have c5b0 := eq_true c5
      have c5b1 : decide ((ji3) ≤ (wrap64 ((ji3) + 1))) = true := decide_eq_true c5
      by_cases c6 : (wrap64 ((ji3) + 1)) ≤ 10
      ·rw [if_pos c6] at H
       have c6b0 := eq_true c6
       have c6b1 : decide ((wrap64 ((ji3) + 1)) ≤ 10) = true := decide_eq_true c6
       by_cases c7 : ((⟨#[48, 49, 50, 51, 52, 53, 54, 55, 56, 57]⟩ : ByteArray).extract ((ji3) : Int).toNat ((wrap64 ((ji3) + 1)) : Int).toNat).size + x3_1.size ≤ 9223372036854775807
       ·rw [if_pos c7] at H
        have c7b0 := eq_true c7
        have c7b1 : decide (((⟨#[48, 49, 50, 51, 52, 53, 54, 55, 56, 57]⟩ : ByteArray).extract ((ji3) : Int).toNat ((wrap64 ((ji3) + 1)) : Int).toNat).size + x3_1.size ≤ 9223372036854775807) = true := decide_eq_true c7
        try have c7b2 : (9223372036854775807 < ((⟨#[48, 49, 50, 51, 52, 53, 54, 55, 56, 57]⟩ : ByteArray).extract ((ji3) : Int).toNat ((wrap64 ((ji3) + 1)) : Int).toNat).size + x3_1.size) = False := eq_false (Nat.not_lt.2 c7)
        have H' := Aside0.mk H
        clear H
        go_wp2
        go_roundg k1
        case measure => have := HK1.out; omega
        case rel => exact ⟨(wrap64 (Int.tdiv x0_1 10)), (((⟨#[48, 49, 50, 51, 52, 53, 54, 55, 56, 57]⟩ : ByteArray).extract ((ji3) : Int).toNat ((wrap64 ((ji3) + 1)) : Int).toNat) ++ x3_1), (by first | rfl | (simp; done) | (simp [*]; done)), (by first | rfl | (simp; done) | (simp only [← hji3] <;> (first | rfl | simp)) | (simp [*]; done)), H', ⟨by have := HK1.out; omega⟩, by repeat (first | exact Drawn0.refl _ | apply Drawn0.step)⟩
       ·rw [if_neg c7] at H
        exact absurd H (by simp)
      ·rw [if_neg c6] at H
       exact absurd H (by simp)
     ·rw [if_neg c5] at H
      exact absurd H (by simp)
    ·rw [if_neg c4] at H
     exact absurd H (by simp)
   ·rw [if_neg c2] at H
    have c2b0 : decide (0 < x0_1) = false := decide_eq_false c2
    clear c2
    by_cases c8 : x3_1.toList = ([] : List UInt8)
    ·rw [if_pos c8] at H
     have c8b0 : (x3_1.toList == ([] : List UInt8)) = true := beq_iff_eq.mpr c8
     have c8b1 : (x3_1.toList != ([] : List UInt8)) = false := bne_eq_false_iff_eq.mpr c8
     clear c8
     obtain ⟨ji9, hji9⟩ : ∃ j_ : Int, (Int.tmod x0_1 10) = j_ := ⟨_, rfl⟩
     replace H : (if 0 ≤ (ji9) then (if (ji9) ≤ (wrap64 ((ji9) + 1)) then (if (wrap64 ((ji9) + 1)) ≤ 10 then (if ((⟨#[48, 49, 50, 51, 52, 53, 54, 55, 56, 57]⟩ : ByteArray).extract ((ji9) : Int).toNat ((wrap64 ((ji9) + 1)) : Int).toNat).size + x3_1.size ≤ 9223372036854775807 then (rootcellarref16_decimal.l0 k1 (wrap64 (Int.tdiv x0_1 10)) (((⟨#[48, 49, 50, 51, 52, 53, 54, 55, 56, 57]⟩ : ByteArray).extract ((ji9) : Int).toNat ((wrap64 ((ji9) + 1)) : Int).toNat) ++ x3_1)) else (none)) else (none)) else (none)) else (none)) = some r := by first | (rw [hji9] at H; exact H) | (simp only [hji9] at H ⊢; exact H)
     by_cases c10 : 0 ≤ (ji9)
     ·rw [if_pos c10] at H
      have c10b0 := eq_true c10
      have c10b1 : decide (0 ≤ (ji9)) = true := decide_eq_true c10
      clear c10
      by_cases c11 : (ji9) ≤ (wrap64 ((ji9) + 1))
      ·rw [if_pos c11] at H
       have c11b0 := eq_true c11
       have c11b1 : decide ((ji9) ≤ (wrap64 ((ji9) + 1))) = true := decide_eq_true c11
       by_cases c12 : (wrap64 ((ji9) + 1)) ≤ 10
       ·rw [if_pos c12] at H
        have c12b0 := eq_true c12
        have c12b1 : decide ((wrap64 ((ji9) + 1)) ≤ 10) = true := decide_eq_true c12
        by_cases c13 : ((⟨#[48, 49, 50, 51, 52, 53, 54, 55, 56, 57]⟩ : ByteArray).extract ((ji9) : Int).toNat ((wrap64 ((ji9) + 1)) : Int).toNat).size + x3_1.size ≤ 9223372036854775807
        ·rw [if_pos c13] at H
         have c13b0 := eq_true c13
         have c13b1 : decide (((⟨#[48, 49, 50, 51, 52, 53, 54, 55, 56, 57]⟩ : ByteArray).extract ((ji9) : Int).toNat ((wrap64 ((ji9) + 1)) : Int).toNat).size + x3_1.size ≤ 9223372036854775807) = true := decide_eq_true c13
         try have c13b2 : (9223372036854775807 < ((⟨#[48, 49, 50, 51, 52, 53, 54, 55, 56, 57]⟩ : ByteArray).extract ((ji9) : Int).toNat ((wrap64 ((ji9) + 1)) : Int).toNat).size + x3_1.size) = False := eq_false (Nat.not_lt.2 c13)
         have H' := Aside0.mk H
         clear H
         go_wp2
         go_roundg k1
         case measure => have := HK1.out; omega
         case rel => exact ⟨(wrap64 (Int.tdiv x0_1 10)), (((⟨#[48, 49, 50, 51, 52, 53, 54, 55, 56, 57]⟩ : ByteArray).extract ((ji9) : Int).toNat ((wrap64 ((ji9) + 1)) : Int).toNat) ++ x3_1), (by first | rfl | (simp; done) | (simp [*]; done)), (by first | rfl | (simp; done) | (simp only [← hji9] <;> (first | rfl | simp)) | (simp [*]; done)), H', ⟨by have := HK1.out; omega⟩, by repeat (first | exact Drawn0.refl _ | apply Drawn0.step)⟩
        ·rw [if_neg c13] at H
         exact absurd H (by simp)
       ·rw [if_neg c12] at H
        exact absurd H (by simp)
      ·rw [if_neg c11] at H
       exact absurd H (by simp)
     ·rw [if_neg c10] at H
      exact absurd H (by simp)
    ·rw [if_neg c8] at H
     have c8b0 : (x3_1.toList == ([] : List UInt8)) = false := beq_eq_false_iff_ne.mpr c8
     have c8b1 : (x3_1.toList != ([] : List UInt8)) = true := bne_iff_ne.mpr c8
     obtain rfl := Option.some.inj H
     go_wp2
     go_ret
     exact ⟨by first | rfl | (simp; done) | (simp [*]; done), by repeat (first | exact Drawn0.refl _ | apply Drawn0.step)⟩
end Go.Proofs.YtfdlbnfjohpdlaaGreatDoor.PPo
