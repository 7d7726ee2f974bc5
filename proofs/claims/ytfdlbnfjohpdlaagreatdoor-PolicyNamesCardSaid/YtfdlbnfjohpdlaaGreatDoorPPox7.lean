import Derived.Test.YtfdlbnfjohpdlaaGreatDoorPPox0
import Derived.Lib.OthersKept
import Derived.Outline
import Derived.Test.YtfdlbnfjohpdlaaGreatDoorLayD
--compressed
namespace Go.Proofs.YtfdlbnfjohpdlaaGreatDoor.PPo
open Go.RowKit Go.Proofs.YtfdlbnfjohpdlaaGreatDoorW.PrintWords Go.Proofs.YtfdlbnfjohpdlaaGreatDoorW.PrintLast Go.Proofs.YtfdlbnfjohpdlaaGreatDoorW.PrintMore
attribute [local go_sem] max2_int min2_int max_two min_two max_three min_three max_four min_four   -- for this text's walks alone
attribute [local go_sem high] hw_str_leq hw_str_gtr
set_option linter.unusedVariables false
set_option linter.unusedSimpArgs false
theorem eqA31 (d : Nat) (w : World) (x0 y0 : Int) (x1 y1 : Int) (x2 y2 : ByteArray) (x3 y3 : Int) (x4 y4 : Bool) (x5 y5 : Bool) :
  (Op.equalIn (d + 2) 31 (.agg #[.int .i64 x0, .int .i64 x1, .string x2, .int .u64 x3, .bool x4, .bool x5]) (.agg #[.int .i64 y0, .int .i64 y1, .string y2, .int .u64 y3, .bool y4, .bool y5])).run Tryz.prog w = .ok (x0 == y0 && (x1 == y1 && (x2.toList == y2.toList && (x3 == y3 && (x4 == y4 && (x5 == y5)))))) w := by
 refine eqA_of Tryz.underlying31 (by kernel_rfl) ?_
 refine eqf_cons (by rfl) (by go_simp; rfl) (by go_simp; rfl) (by go_simp) ?_
 refine eqf_cons (by rfl) (by go_simp; rfl) (by go_simp; rfl) (by go_simp) ?_
 refine eqf_cons (by rfl) (by go_simp; rfl) (by go_simp; rfl) (by go_simp) ?_
 refine eqf_cons (by rfl) (by go_simp; rfl) (by go_simp; rfl) (by go_simp) ?_
 refine eqf_cons (by rfl) (by go_simp; rfl) (by go_simp; rfl) (by go_simp) ?_
 exact eqf_last (by rfl) (by go_simp; rfl) (by go_simp; rfl) (by go_simp)
end Go.Proofs.YtfdlbnfjohpdlaaGreatDoor.PPo
namespace Go.Proofs.YtfdlbnfjohpdlaaGreatDoor.PPo
open Go.RowKit Go.Proofs.YtfdlbnfjohpdlaaGreatDoorW.PrintWords Go.Proofs.YtfdlbnfjohpdlaaGreatDoorW.PrintLast Go.Proofs.YtfdlbnfjohpdlaaGreatDoorW.PrintMore
attribute [local go_sem] max2_int min2_int max_two min_two max_three min_three max_four min_four   -- for this text's walks alone
attribute [local go_sem high] hw_str_leq hw_str_gtr
set_option linter.unusedVariables false
set_option linter.unusedSimpArgs false
def rootcellarlaw16_grown.l0 : Nat → List (S68) → Int → Int → List (S31) → Int → Int → Int → Option ((List (S31)) × Int × Int × Int)
 | 0, _, _, _, _, _, _, _ => none
 | k + 1, x0, x1, x6, x106000, x106001, x106002, x106003 => if x6 < (x0.length : Int) then (if x6 < 50 then (if 0 ≤ x6 then (if x106000.length < 2932031007402 then (rootcellarlaw16_grown.l0 k x0 x1 (wrap64 (x6 + 1)) (x106000 ++ [(⟨wrap64 (x6 + 2), wrap64 (1 + (mx 0 (mn ((rd_T68 x0 x6).f2) x6))), (⟨#[110]⟩ : ByteArray), (rd_T68 x0 x6).f0, false, (rd_T68 x0 x6).f1⟩ : S31)]) x106001 (wrap64 (x6 + 3)) x106003) else (none)) else (none)) else (some (x106000, wrap64 (1 + (mx 0 (mn x1 (wrap64 ((x106000.length : Int) - 1))))), x106002, x106003))) else (some (x106000, wrap64 (1 + (mx 0 (mn x1 (wrap64 ((x106000.length : Int) - 1))))), x106002, x106003))
def rootcellarlaw16_grown.f (k : Nat) (l0 : List (S68)) (a1 : Int) : Option ((List (S31)) × Int × Int × Int) := rootcellarlaw16_grown.l0 k l0 a1 0 (([(⟨1, 0, (⟨#[114, 111, 111, 116]⟩ : ByteArray), 0, false, false⟩ : S31)] : List (S31))) 1 2 0
def rootcellarlaw16_grown.T5 : Bool × List (List Nat × List Nat) := (true, [([], []), ([0], [0]), ([], []), ([2], [2]), ([], []), ([], []), ([4, 5], [4, 5]), ([6], [6]), ([7], [7]), ([], []), ([8, 9], [8, 9]), ([10], [10]), ([11], [11]), ([], []), ([], []), ([13, 14], [13, 14]), ([15], [15]), ([16], [16]), ([], []), ([], []), ([18, 19], [18, 19]), ([20], [20]), ([21], [21]), ([3, 12, 17, 22], [3, 12, 17, 22]), ([23], [23]), ([1, 24], [1, 24]), ([0, 1, 2, 3, 4, 5, 6, 7, 8, 9, 10, 11, 12, 13, 14, 15, 16, 17, 18, 19, 20, 21, 22, 23, 24, 25], []), ([26, 25, 25, 0, 1, 2, 3, 4, 5, 6, 7, 8, 9, 10, 11, 12, 13, 14, 15, 16, 17, 18, 19, 20, 21, 22, 23, 24, 25], [25, 26])])
def rootcellarlaw16_grown.B5 : List Nat := [0, 1, 0, 4, 0, 0, 48, 112, 240, 0, 1008, 2032, 4080, 0, 0, 24576, 57344, 122880, 0, 0, 786432, 1835008, 3932160, 8388604, 16777212, 33554431, 67108863, 134217727]
theorem rootcellarlaw16_grown.tab5 : rtab .any (opsOf Tryz.f11 5) = rootcellarlaw16_grown.T5 := by kernel_rfl
theorem rootcellarlaw16_grown.bits5 : waitsOk rootcellarlaw16_grown.T5.2 rootcellarlaw16_grown.B5 = true := by kernel_rfl
set_option maxHeartbeats 8000000 in
set_option maxRecDepth 100000 in
theorem rootcellarlaw16_grown.calls (k : Nat) (A0 : Option Addr) (c0 : Nat) (l0 : List (S68)) (a1 : Int) (r1 : List (S31)) (r2 : Int) (r3 : Int) (r4 : Int) (w : World) (hr0 : Kd.C k68 w A0 l0.length l0) (hc0 : l0.length ≤ c0) (h : rootcellarlaw16_grown.f k l0 a1 = some (r1, r2, r3, r4)) :
  Calls Tryz.prog 11 #[.slice A0 l0.length c0, .int .i64 a1] w fun e w' => ∃ v0_ : Value, e = .returned (.agg #[v0_, .int .i64 r2, .int .i64 r3, .int .u64 r4]) ∧ Kd.R k31 31 w' w.heap.size (fun _ => True) v0_ r1 ∧ Below w.heap.size w w' := by
 have hu28 := Tryz.underlying28
 have hu31 := Tryz.underlying31
 have HR0 := Aside0.mk hr0
 have HC0 := Aside0.mk hc0
 clear hr0 hc0
 have HB := Aside0.mk (Below.refl w.heap.size w)
 have H : (rootcellarlaw16_grown.l0 k l0 a1 0 (([(⟨1, 0, (⟨#[114, 111, 111, 116]⟩ : ByteArray), 0, false, false⟩ : S31)] : List (S31))) 1 2 0) = some (r1, r2, r3, r4) := h
 clear h
 obtain ⟨y102, hy102⟩ : ∃ y_ : List (S31), y_ = (([(⟨1, 0, (⟨#[114, 111, 111, 116]⟩ : ByteArray), 0, false, false⟩ : S31)] : List (S31))) := ⟨_, rfl⟩
 replace H : (rootcellarlaw16_grown.l0 k l0 a1 0 y102 1 2 0) = some (r1, r2, r3, r4) := by first | (rw [hy102]; with_reducible exact H) | (have H2_ := (Option.bind_some _ _).symm.trans H; rw [hy102]; with_reducible exact H2_) | (have H2_ := (Option.bind_some _ _).symm.trans H; with_reducible exact H2_) | with_reducible exact H | (rw [hy102]; exact H) | exact H
 have Ny102 := Aside0.mk hy102
 clear hy102
 have H' := Aside0.mk H
 clear H
 go_enter Tryz.func11, Tryz.ntmps11
 go_wp2_with (first | ((with_reducible refine gate_dst (N := 4) rfl ?_); refine box_event ?hg (N := 4) ?hd (cs := #[.slice none 0 0, .int .i64 0, .int .i64 0, .int .u64 0]) (t := 28) ?hr ?_; (case hd => rfl); (case hg => rfl); (case hr => first | (go_simp; done) | (go_simp; rfl)); intro gb101 hg w3 hbox hb; have n0_ := Aside0.mk (below_step belA hb); have n1_ := Aside0.mk (hbox); have n2_ := Aside0.mk ((by rw [hg]; exact (below_size belA) : w.heap.size ≤ gb101)); have n3_ := Aside0.mk ((by rw [hg]; exact (below_size belA) : w.heap.size ≤ gb101)); clear HB; have HB := n0_; have BK101 := n1_; have GW101 := n2_; have GE101 := n3_; clear n0_ n1_ n2_ n3_; clear hb hbox hg) | ((with_reducible refine gate_dst (N := 8) rfl ?_); refine Kd.R_lit k31 _ 31 ?hg (N := 8) ?hd (xs := ([(⟨1, 0, (⟨#[114, 111, 111, 116]⟩ : ByteArray), 0, false, false⟩ : S31)] : List (S31))) (inner := [.int .i64 1, .int .i64 0, .string (⟨#[114, 111, 111, 116]⟩ : ByteArray), .int .u64 0, .bool false, .bool false]) (ok := fun _ => True) (okp := fun _ => True) ?hr ?hp (fun _ hk => hk) trivial (Below.refl _ _) (Nat.le_refl _) (by simp) ?_; (case hd => rfl); (case hg => rfl); (case hr => first | (go_simp; done) | (go_simp; rfl)); (case hp => exact (Reps.c6 (show Kd.M k31 _ _ _ (⟨1, 0, (⟨#[114, 111, 111, 116]⟩ : ByteArray), 0, false, false⟩ : S31) [.int .i64 1, .int .i64 0, .string (⟨#[114, 111, 111, 116]⟩ : ByteArray), .int .u64 0, .bool false, .bool false] from (k31_mkM _ _ _ (⟨1, 0, (⟨#[114, 111, 111, 116]⟩ : ByteArray), 0, false, false⟩ : S31) )) (Reps.none _ _))); intro v103 w4 ho5 hb hg_ hnew_; clear hg_ hnew_; (first | rw [← Ny102.out] at ho5 | (simp only [Int.reduceToNat] at ho5; rw [← Ny102.out] at ho5)); have n0_ := Aside0.mk (Kd.R_lower ho5 (below_size (by repeat (first | (with_reducible first | exact HB.out | apply below_alloc | apply pw_below_drewN | apply below_drew1 | refine below_set ?_ GE101.out) | exact HB.out)))); have n1_ := Aside0.mk (blk_below (g := gb101) (o := .cells #[.slice none 0 0, .int .i64 0, .int .i64 0, .int .u64 0] 28 (0, 0)) (blkN BK101.out) hb); have n2_ := Aside0.mk (below_step (by repeat (first | (with_reducible first | exact HB.out | apply below_alloc | apply pw_below_drewN | apply below_drew1 | refine below_set ?_ GE101.out) | exact HB.out)) hb); clear BK101; clear HB; have HO104 := n0_; have BK101 := n1_; have HB := n2_; clear n0_ n1_ n2_; clear hb ho5; obtain ⟨Ao6, co6, eo6⟩ := Kd.R_slice HO104.out; subst eo6) | ((with_reducible refine gate_dst (N := 5) rfl ?_); refine box_event ?hg (N := 5) ?hd (cs := #[.slice none 0 0, .int .i64 0, .int .i64 0, .int .u64 0]) (t := 28) ?hr ?_; (case hd => rfl); (case hg => rfl); (case hr => first | (go_simp; done) | (go_simp; rfl)); intro gb105 hg w7 hbox hb; have n0_ := Aside0.mk (Kd.R_below (kdR_ HO104.out) hb); have n1_ := Aside0.mk (blk_below (g := gb101) (o := .cells #[.slice none 0 0, .int .i64 0, .int .i64 0, .int .u64 0] 28 (0, 0)) (blkN BK101.out) hb); have n2_ := Aside0.mk (below_step (by repeat (first | (with_reducible first | exact HB.out | apply below_alloc | apply pw_below_drewN | apply below_drew1 | refine below_set ?_ GE101.out) | exact HB.out)) hb); have n3_ := Aside0.mk (hbox); have n4_ := Aside0.mk ((by rw [hg]; exact (below_size (by repeat (first | (with_reducible first | exact HB.out | apply below_alloc | apply pw_below_drewN | apply below_drew1 | refine below_set ?_ GE101.out) | exact HB.out))) : w.heap.size ≤ gb105)); have n5_ := Aside0.mk ((by rw [hg]; exact (below_size (by repeat (first | (with_reducible first | exact HB.out | apply below_alloc | apply pw_below_drewN | apply below_drew1 | refine below_set ?_ GE101.out) | exact HB.out))) : w.heap.size ≤ gb105)); have n6_ := Aside0.mk ((by rw [hg]; exact Nat.ne_of_lt (blk_lt (g := gb101) (o := .cells #[.slice none 0 0, .int .i64 0, .int .i64 0, .int .u64 0] 28 (0, 0)) (blkN BK101.out)) : gb101 ≠ gb105)); have n7_ := Aside0.mk ((by rw [hg]; exact Nat.ne_of_gt (blk_lt (g := gb101) (o := .cells #[.slice none 0 0, .int .i64 0, .int .i64 0, .int .u64 0] 28 (0, 0)) (blkN BK101.out)) : gb105 ≠ gb101)); clear HO104; clear BK101; clear HB; have HO104 := n0_; have BK101 := n1_; have HB := n2_; have BK105 := n3_; have GW105 := n4_; have GE105 := n5_; have NB101_105 := n6_; have NB105_101 := n7_; clear n0_ n1_ n2_ n3_ n4_ n5_ n6_ n7_; clear hb hbox hg; have hnb8 := NB105_101.out; have hnc8 := NB101_105.out; have hcz9_0 : w7.cell? ⟨gb105, 0, none⟩ = some (.slice none 0 0) := (blk_cell BK105.out 0).trans rfl; have hcz9_1 : w7.cell? ⟨gb105, 1, none⟩ = some (.int .i64 0) := (blk_cell BK105.out 1).trans rfl; have hcz9_2 : w7.cell? ⟨gb105, 2, none⟩ = some (.int .i64 0) := (blk_cell BK105.out 2).trans rfl; have hcz9_3 : w7.cell? ⟨gb105, 3, none⟩ = some (.int .u64 0) := (blk_cell BK105.out 3).trans rfl; have hfz9_0 := blk_frozen BK105.out 0; have hfz9_1 := blk_frozen BK105.out 1; have hfz9_2 := blk_frozen BK105.out 2; have hfz9_3 := blk_frozen BK105.out 3))
 go_loopg [6] k (fun kq v6 w' => ∃ (x6_1 : Int) (x106000_1 : List (S31)) (x106002_1 : Int) (u106000 : Value), v6 = .int .i64 x6_1 ∧ Aside0 (rootcellarlaw16_grown.l0 kq l0 a1 x6_1 x106000_1 1 x106002_1 0 = some (r1, r2, r3, r4)) ∧ Aside0 (kq ≤ k) ∧ Aside0 (Kd.R k31 31 w' w.heap.size (fun _ => True) u106000 x106000_1) ∧ Aside0 (w'.heap[gb101]? = some (.cells #[(.slice none 0 0), .int .i64 0, .int .i64 0, .int .u64 0] 28 (0, 0))) ∧ Aside0 (w'.heap[gb105]? = some (.cells #[u106000, .int .i64 1, .int .i64 x106002_1, .int .u64 0] 28 (0, 0))) ∧ Aside0 (Below w.heap.size w w'))
 case atStart => exact ⟨(0), (y102), (2), (.slice Ao6 y102.length co6), (by first | rfl | (simp; done) | (simp [*]; done)), H', ⟨Nat.le_refl _⟩, ⟨by (with_reducible repeat (first | apply Kd.R_alloc | apply Kd.R_drewN | apply Kd.R_drew)); exact Kd.R_mono (Kd.R_far (p := ⟨gb105, 3, none⟩) (Kd.R_far (p := ⟨gb105, 2, none⟩) (Kd.R_far (p := ⟨gb105, 1, none⟩) (Kd.R_far (p := ⟨gb105, 0, none⟩) (Kd.R_types HO104.out BK105.out (by decide)) (fun _ hk => hk.2) (.slice Ao6 y102.length co6)) (fun _ hk => hk.2) (.int .i64 1)) (fun _ hk => hk.2) (.int .i64 2)) (fun _ hk => hk.2) (.int .u64 0)) (fun _ hk => trivial)⟩, ⟨by (with_reducible repeat (first | refine blk_drewN ?_ _ | refine blk_drew ?_ | refine blk_alloc ?_ _)); refine blk_far ?_ NB101_105.out _; (with_reducible repeat (first | refine blk_drewN ?_ _ | refine blk_drew ?_ | refine blk_alloc ?_ _)); refine blk_far ?_ NB101_105.out _; (with_reducible repeat (first | refine blk_drewN ?_ _ | refine blk_drew ?_ | refine blk_alloc ?_ _)); refine blk_far ?_ NB101_105.out _; (with_reducible repeat (first | refine blk_drewN ?_ _ | refine blk_drew ?_ | refine blk_alloc ?_ _)); refine blk_far ?_ NB101_105.out _; (with_reducible repeat (first | refine blk_drewN ?_ _ | refine blk_drew ?_ | refine blk_alloc ?_ _)); exact BK101.out⟩, ⟨by (with_reducible repeat (first | refine blk_drewN ?_ _ | refine blk_drew ?_ | refine blk_alloc ?_ _)); refine blk_put (cs := #[.slice Ao6 y102.length co6, .int .i64 1, .int .i64 2, .int .u64 0]) ?_ 3 _ rfl; (with_reducible repeat (first | refine blk_drewN ?_ _ | refine blk_drew ?_ | refine blk_alloc ?_ _)); refine blk_put (cs := #[.slice Ao6 y102.length co6, .int .i64 1, .int .i64 0, .int .u64 0]) ?_ 2 _ rfl; (with_reducible repeat (first | refine blk_drewN ?_ _ | refine blk_drew ?_ | refine blk_alloc ?_ _)); refine blk_put (cs := #[.slice Ao6 y102.length co6, .int .i64 0, .int .i64 0, .int .u64 0]) ?_ 1 _ rfl; (with_reducible repeat (first | refine blk_drewN ?_ _ | refine blk_drew ?_ | refine blk_alloc ?_ _)); refine blk_put (cs := #[.slice none 0 0, .int .i64 0, .int .i64 0, .int .u64 0]) ?_ 0 _ rfl; (with_reducible repeat (first | refine blk_drewN ?_ _ | refine blk_drew ?_ | refine blk_alloc ?_ _)); exact BK105.out⟩, ⟨by repeat (first | (with_reducible first | exact HB.out | apply below_alloc | apply pw_below_drewN | apply below_drew1 | refine below_set ?_ GE101.out | refine below_set ?_ GE105.out) | exact HB.out)⟩⟩
 case round =>
  clear H'
  try clear c1
  try clear p2
  try clear c6
  try clear c8
  try clear hcz9_0
  try clear hcz9_1
  try clear hcz9_2
  try clear hcz9_3
  try clear hfz9_0
  try clear hfz9_1
  try clear hfz9_2
  try clear hfz9_3
  obtain ⟨x6_1, x106000_1, x106002_1, u106000, rfl, HA, HK1, HO_106000, BK101, BK105, HB⟩ := hrel
  cases gk with
  | zero => exact absurd HA.out (by simp [rootcellarlaw16_grown.l0])
  | succ k1 =>
   have H := HA.out
   clear HA
   simp only [rootcellarlaw16_grown.l0] at H
   by_cases c10 : x6_1 < (l0.length : Int)
   ·rw [if_pos c10] at H
    have c10b0 : decide (x6_1 < (l0.length : Int)) = true := decide_eq_true c10
    clear c10
    by_cases c11 : x6_1 < 50
    ·rw [if_pos c11] at H
     have c11b0 : decide (x6_1 < 50) = true := decide_eq_true c11
     clear c11
     by_cases c12 : 0 ≤ x6_1
     ·rw [if_pos c12] at H
      have c12b0 : decide (0 ≤ x6_1) = true := decide_eq_true c12
      clear c12
      obtain ⟨ji13, hji13⟩ : ∃ j_ : Int, (mn ((rd_T68 l0 x6_1).f2) x6_1) = j_ := ⟨_, rfl⟩
      replace H : (if x106000_1.length < 2932031007402 then (rootcellarlaw16_grown.l0 k1 l0 a1 (wrap64 (x6_1 + 1)) (x106000_1 ++ [(⟨wrap64 (x6_1 + 2), wrap64 (1 + (mx 0 (ji13))), (⟨#[110]⟩ : ByteArray), (rd_T68 l0 x6_1).f0, false, (rd_T68 l0 x6_1).f1⟩ : S31)]) 1 (wrap64 (x6_1 + 3)) 0) else (none)) = some (r1, r2, r3, r4) := by first | (rw [hji13] at H; exact H) | (simp only [hji13] at H ⊢; exact H)
      have hji13_ : (if x6_1 < ((rd_T68 l0 x6_1).f2) then x6_1 else ((rd_T68 l0 x6_1).f2)) = ji13 := hji13
      obtain ⟨ji14, hji14⟩ : ∃ j_ : Int, (mx 0 (ji13)) = j_ := ⟨_, rfl⟩
      replace H : (if x106000_1.length < 2932031007402 then (rootcellarlaw16_grown.l0 k1 l0 a1 (wrap64 (x6_1 + 1)) (x106000_1 ++ [(⟨wrap64 (x6_1 + 2), wrap64 (1 + (ji14)), (⟨#[110]⟩ : ByteArray), (rd_T68 l0 x6_1).f0, false, (rd_T68 l0 x6_1).f1⟩ : S31)]) 1 (wrap64 (x6_1 + 3)) 0) else (none)) = some (r1, r2, r3, r4) := by first | (rw [hji14] at H; exact H) | (simp only [hji14] at H ⊢; exact H)
      have hji14_ : (if 0 < (ji13) then (ji13) else 0) = ji14 := hji14
      by_cases c15 : x106000_1.length < 2932031007402
      ·rw [if_pos c15] at H
       have LMc15 := Aside0.mk c15
       clear c15
       obtain ⟨y109, hy109⟩ : ∃ y_ : List (S31), y_ = (x106000_1 ++ [(⟨wrap64 (x6_1 + 2), wrap64 (1 + (ji14)), (⟨#[110]⟩ : ByteArray), (rd_T68 l0 x6_1).f0, false, (rd_T68 l0 x6_1).f1⟩ : S31)]) := ⟨_, rfl⟩
       replace H : (rootcellarlaw16_grown.l0 k1 l0 a1 (wrap64 (x6_1 + 1)) y109 1 (wrap64 (x6_1 + 3)) 0) = some (r1, r2, r3, r4) := by first | (rw [hy109]; with_reducible exact H) | (have H2_ := (Option.bind_some _ _).symm.trans H; rw [hy109]; with_reducible exact H2_) | (have H2_ := (Option.bind_some _ _).symm.trans H; with_reducible exact H2_) | with_reducible exact H | (rw [hy109]; exact H) | exact H
       have Ny109 := Aside0.mk hy109
       clear hy109
       have H' := Aside0.mk H
       clear H
       try go_wp2
       have n0_ := Aside0.mk (Kd.R_drew HO_106000.out)
       have n1_ := Aside0.mk (blk_drew BK101.out)
       have n2_ := Aside0.mk (blk_drew BK105.out)
       have n3_ := Aside0.mk (below_drew1 HB.out)
       clear HO_106000
       clear BK101
       clear BK105
       clear HB
       have HO_106000 := n0_
       have BK101 := n1_
       have BK105 := n2_
       have HB := n3_
       clear n0_ n1_ n2_ n3_
       have p106 : 0 ≤ (x6_1 : Int) := of_decide_eq_true asA
       have q106 : x6_1 < (l0.length : Int) := of_decide_eq_true asA
       obtain ⟨ad106, e106, hx106_0, hx106_1, hx106_2⟩ := at_T68 HR0.out x6_1 p106 q106
       have hw106_2 := hx106_2
       have hw106_1 := hx106_1
       have hw106_0 := hx106_0
       cases e106
       replace hx106_0 := (HB.out.cell (World.block_lt_of_cell? w _ hx106_0)).trans hx106_0
       replace hx106_1 := (HB.out.cell (World.block_lt_of_cell? w _ hx106_1)).trans hx106_1
       replace hx106_2 := (HB.out.cell (World.block_lt_of_cell? w _ hx106_2)).trans hx106_2
       replace p106 := eq_true p106
       replace q106 := eq_true q106
       have p107 : 0 ≤ (x6_1 : Int) := of_decide_eq_true asA
       have q107 : x6_1 < (l0.length : Int) := of_decide_eq_true asA
       obtain ⟨ad107, e107, hx107_0, hx107_1, hx107_2⟩ := at_T68 HR0.out x6_1 p107 q107
       have hw107_2 := hx107_2
       have hw107_1 := hx107_1
       have hw107_0 := hx107_0
       obtain rfl : ad106 = ad107 := (by injection e107)
       replace hx107_0 := (HB.out.cell (World.block_lt_of_cell? w _ hx107_0)).trans hx107_0
       replace hx107_1 := (HB.out.cell (World.block_lt_of_cell? w _ hx107_1)).trans hx107_1
       replace hx107_2 := (HB.out.cell (World.block_lt_of_cell? w _ hx107_2)).trans hx107_2
       replace p107 := eq_true p107
       replace q107 := eq_true q107
       have p108 : 0 ≤ (x6_1 : Int) := of_decide_eq_true asA
       have q108 : x6_1 < (l0.length : Int) := of_decide_eq_true asA
       obtain ⟨ad108, e108, hx108_0, hx108_1, hx108_2⟩ := at_T68 HR0.out x6_1 p108 q108
       have hw108_2 := hx108_2
       have hw108_1 := hx108_1
       have hw108_0 := hx108_0
       obtain rfl : ad106 = ad108 := (by injection e108)
       replace hx108_0 := (HB.out.cell (World.block_lt_of_cell? w _ hx108_0)).trans hx108_0
       replace hx108_1 := (HB.out.cell (World.block_lt_of_cell? w _ hx108_1)).trans hx108_1
       replace hx108_2 := (HB.out.cell (World.block_lt_of_cell? w _ hx108_2)).trans hx108_2
       replace p108 := eq_true p108
       replace q108 := eq_true q108
       refine start_ (n := 28) (S := fun w' => w'.cell? ⟨gb105, 0, none⟩ = some (u106000) ∧ w'.cell? ⟨gb105, 1, none⟩ = some (.int .i64 1) ∧ w'.cell? ⟨gb105, 2, none⟩ = some (.int .i64 x106002_1) ∧ w'.cell? ⟨gb105, 3, none⟩ = some (.int .u64 0) ∧ w'.cell? (ad106.add ((x6_1).toNat * 3)) = some (.int .u64 ((rd_T68 l0 x6_1).f0)) ∧ w'.cell? ⟨(ad106.add ((x6_1).toNat * 3)).block, (ad106.add ((x6_1).toNat * 3)).off + 1, none⟩ = some (.bool ((rd_T68 l0 x6_1).f1)) ∧ w'.cell? ⟨(ad106.add ((x6_1).toNat * 3)).block, (ad106.add ((x6_1).toNat * 3)).off + 2, none⟩ = some (.int .i64 ((rd_T68 l0 x6_1).f2)) ∧ w'.cell? (ad106.add ((x6_1).toNat * 3)) = some (.int .u64 ((rd_T68 l0 x6_1).f0)) ∧ w'.cell? ⟨(ad106.add ((x6_1).toNat * 3)).block, (ad106.add ((x6_1).toNat * 3)).off + 1, none⟩ = some (.bool ((rd_T68 l0 x6_1).f1)) ∧ w'.cell? ⟨(ad106.add ((x6_1).toNat * 3)).block, (ad106.add ((x6_1).toNat * 3)).off + 2, none⟩ = some (.int .i64 ((rd_T68 l0 x6_1).f2)) ∧ w'.cell? (ad106.add ((x6_1).toNat * 3)) = some (.int .u64 ((rd_T68 l0 x6_1).f0)) ∧ w'.cell? ⟨(ad106.add ((x6_1).toNat * 3)).block, (ad106.add ((x6_1).toNat * 3)).off + 1, none⟩ = some (.bool ((rd_T68 l0 x6_1).f1)) ∧ w'.cell? ⟨(ad106.add ((x6_1).toNat * 3)).block, (ad106.add ((x6_1).toNat * 3)).off + 2, none⟩ = some (.int .i64 ((rd_T68 l0 x6_1).f2))) (ds := [27]) #[Z,Z,Z,Z,Z,Z,Z,Z,Z,Z,Z,Z,Z,Z,Z,Z,Z,Z,Z,Z,Z,Z,Z,Z,Z,Z,Z,Z] (by kernel_rfl) rfl rfl ⟨(blk_cell BK105.out 0).trans rfl, (blk_cell BK105.out 1).trans rfl, (blk_cell BK105.out 2).trans rfl, (blk_cell BK105.out 3).trans rfl, ((HB.out.cell (World.block_lt_of_cell? w _ hw106_0)).trans hw106_0), ((HB.out.cell (World.block_lt_of_cell? w _ hw106_1)).trans hw106_1), ((HB.out.cell (World.block_lt_of_cell? w _ hw106_2)).trans hw106_2), ((HB.out.cell (World.block_lt_of_cell? w _ hw107_0)).trans hw107_0), ((HB.out.cell (World.block_lt_of_cell? w _ hw107_1)).trans hw107_1), ((HB.out.cell (World.block_lt_of_cell? w _ hw107_2)).trans hw107_2), ((HB.out.cell (World.block_lt_of_cell? w _ hw108_0)).trans hw108_0), ((HB.out.cell (World.block_lt_of_cell? w _ hw108_1)).trans hw108_1), ((HB.out.cell (World.block_lt_of_cell? w _ hw108_2)).trans hw108_2)⟩ (fun hHeld => ?_); refine with_tabW rootcellarlaw16_grown.tab5 rootcellarlaw16_grown.bits5 (fun HT_ HW_ => ?_)
       generalize wr.drew = w16 at HO_106000 BK101 BK105 HB hx106_0 hx106_1 hx106_2 hx107_0 hx107_1 hx107_2 hx108_0 hx108_1 hx108_2 hHeld ⊢
       refine pure_ (i := 0) (N := some 20) (v := ?_) (a' := ?_) #[Y,Z,Z,Z,Z,Z,Z,Z,Z,Z,Z,Z,Z,Z,Z,Z,Z,Z,Z,Z,Z,Z,Z,Z,Z,Z,Z,Z] rfl rfl (any_of HT_.out (by kernel_rfl)) (fun _ _ _ h => h) (Or.inl ⟨by rfl, ?_⟩) ?_ ?_
       rotate_left
       ·intro w'
        go_simp
        with_reducible rfl
       rotate_left
       ·simp only [Act.put, List.setIfInBounds_toArray, List.set_cons_zero, List.set_cons_succ, i64_w, i32_w]
        rfl
       refine pure_ (i := 2) (N := some 22) (v := ?_) (a' := ?_) #[Y,Z,Y,Z,Z,Z,Z,Z,Z,Z,Z,Z,Z,Z,Z,Z,Z,Z,Z,Z,Z,Z,Z,Z,Z,Z,Z,Z] rfl rfl (any_of HT_.out (by kernel_rfl)) (fun _ _ _ h => h) (Or.inl ⟨by rfl, ?_⟩) ?_ ?_
       rotate_left
       ·intro w'
        go_simp
        with_reducible rfl
       rotate_left
       ·simp only [Act.put, List.setIfInBounds_toArray, List.set_cons_zero, List.set_cons_succ, i64_w, i32_w]
        rfl
       refine pure_ (i := 3) (N := some 23) (v := ?_) (a' := ?_) #[Y,Z,Y,Y,Z,Z,Z,Z,Z,Z,Z,Z,Z,Z,Z,Z,Z,Z,Z,Z,Z,Z,Z,Z,Z,Z,Z,Z] rfl rfl (any_of HT_.out (by kernel_rfl)) (fun _ _ _ h => h) (Or.inl ⟨by rfl, ?_⟩) ?_ ?_
       rotate_left
       ·intro w'
        go_simp
        with_reducible rfl
       rotate_left
       ·simp only [Act.put, List.setIfInBounds_toArray, List.set_cons_zero, List.set_cons_succ, i64_w, i32_w]
        rfl
       refine pure_ (i := 4) (N := some 24) (v := ?_) (a' := ?_) #[Y,Z,Y,Y,Y,Z,Z,Z,Z,Z,Z,Z,Z,Z,Z,Z,Z,Z,Z,Z,Z,Z,Z,Z,Z,Z,Z,Z] rfl rfl (any_of HT_.out (by kernel_rfl)) (fun _ _ _ h => h) (Or.inl ⟨by rfl, ?_⟩) ?_ ?_
       rotate_left
       ·intro w'
        go_simp
        with_reducible rfl
       rotate_left
       ·simp only [Act.put, List.setIfInBounds_toArray, List.set_cons_zero, List.set_cons_succ, i64_w, i32_w]
        rfl
       refine pure_ (i := 5) (N := some 25) (v := ?_) (a' := ?_) #[Y,Z,Y,Y,Y,Y,Z,Z,Z,Z,Z,Z,Z,Z,Z,Z,Z,Z,Z,Z,Z,Z,Z,Z,Z,Z,Z,Z] rfl rfl (any_of HT_.out (by kernel_rfl)) (fun _ _ _ h => h) (Or.inl ⟨by rfl, ?_⟩) ?_ ?_
       rotate_left
       ·intro w'
        go_simp
        with_reducible rfl
       rotate_left
       ·simp only [Act.put, List.setIfInBounds_toArray, List.set_cons_zero, List.set_cons_succ, i64_w, i32_w]
        rfl
       refine pure_ (i := 6) (N := some 26) (v := ?_) (a' := ?_) #[Y,Z,Y,Y,Y,Y,Y,Z,Z,Z,Z,Z,Z,Z,Z,Z,Z,Z,Z,Z,Z,Z,Z,Z,Z,Z,Z,Z] rfl rfl (any_of HT_.out (by kernel_rfl)) (fun _ _ _ h => h) (Or.inl ⟨by rfl, ?_⟩) ?_ ?_
       rotate_left
       ·intro w'
        go_simp
        with_reducible rfl
       rotate_left
       ·simp only [Act.put, List.setIfInBounds_toArray, List.set_cons_zero, List.set_cons_succ, i64_w, i32_w]
        rfl
       refine pure_ (i := 7) (N := some 27) (v := ?_) (a' := ?_) #[Y,Z,Y,Y,Y,Y,Y,Y,Z,Z,Z,Z,Z,Z,Z,Z,Z,Z,Z,Z,Z,Z,Z,Z,Z,Z,Z,Z] rfl rfl (any_of HT_.out (by kernel_rfl)) (fun _ _ _ h => h) (Or.inl ⟨by rfl, ?_⟩) ?_ ?_
       rotate_left
       ·intro w'
        go_simp
        with_reducible rfl
       rotate_left
       ·simp only [Act.put, List.setIfInBounds_toArray, List.set_cons_zero, List.set_cons_succ, i64_w, i32_w]
        rfl
       refine pure_ (i := 9) (N := some 29) (v := ?_) (a' := ?_) #[Y,Z,Y,Y,Y,Y,Y,Y,Z,Y,Z,Z,Z,Z,Z,Z,Z,Z,Z,Z,Z,Z,Z,Z,Z,Z,Z,Z] rfl rfl (any_of HT_.out (by kernel_rfl)) (fun _ _ _ h => h) (Or.inl ⟨by rfl, ?_⟩) ?_ ?_
       rotate_left
       ·intro w'
        go_simp
        with_reducible rfl
       rotate_left
       ·simp only [Act.put, List.setIfInBounds_toArray, List.set_cons_zero, List.set_cons_succ, i64_w, i32_w]
        rfl
       refine pure_ (i := 13) (N := some 33) (v := ?_) (a' := ?_) #[Y,Z,Y,Y,Y,Y,Y,Y,Z,Y,Z,Z,Z,Y,Z,Z,Z,Z,Z,Z,Z,Z,Z,Z,Z,Z,Z,Z] rfl rfl (any_of HT_.out (by kernel_rfl)) (fun _ _ _ h => h) (Or.inl ⟨by rfl, ?_⟩) ?_ ?_
       rotate_left
       ·intro w'
        go_simp
        with_reducible rfl
       rotate_left
       ·simp only [Act.put, List.setIfInBounds_toArray, List.set_cons_zero, List.set_cons_succ, i64_w, i32_w]
        rfl
       refine pure_ (i := 14) (N := some 34) (v := ?_) (a' := ?_) #[Y,Z,Y,Y,Y,Y,Y,Y,Z,Y,Z,Z,Z,Y,Y,Z,Z,Z,Z,Z,Z,Z,Z,Z,Z,Z,Z,Z] rfl rfl (any_of HT_.out (by kernel_rfl)) (fun _ _ _ h => h) (Or.inl ⟨by rfl, ?_⟩) ?_ ?_
       rotate_left
       ·intro w'
        go_simp
        with_reducible rfl
       rotate_left
       ·simp only [Act.put, List.setIfInBounds_toArray, List.set_cons_zero, List.set_cons_succ, i64_w, i32_w]
        rfl
       refine pure_ (i := 15) (N := some 35) (v := ?_) (a' := ?_) #[Y,Z,Y,Y,Y,Y,Y,Y,Z,Y,Z,Z,Z,Y,Y,Y,Z,Z,Z,Z,Z,Z,Z,Z,Z,Z,Z,Z] rfl rfl (any_of HT_.out (by kernel_rfl)) (fun _ _ _ h => h) (Or.inl ⟨by rfl, ?_⟩) ?_ ?_
       rotate_left
       ·intro w'
        go_simp
        with_reducible rfl
       rotate_left
       ·simp only [Act.put, List.setIfInBounds_toArray, List.set_cons_zero, List.set_cons_succ, i64_w, i32_w]
        rfl
       refine pure_ (i := 16) (N := some 36) (v := ?_) (a' := ?_) #[Y,Z,Y,Y,Y,Y,Y,Y,Z,Y,Z,Z,Z,Y,Y,Y,Y,Z,Z,Z,Z,Z,Z,Z,Z,Z,Z,Z] rfl rfl (any_of HT_.out (by kernel_rfl)) (fun _ _ _ h => h) (Or.inl ⟨by rfl, ?_⟩) ?_ ?_
       rotate_left
       ·intro w'
        go_simp
        with_reducible rfl
       rotate_left
       ·simp only [Act.put, List.setIfInBounds_toArray, List.set_cons_zero, List.set_cons_succ, i64_w, i32_w]
        rfl
       refine pure_ (i := 18) (N := some 38) (v := ?_) (a' := ?_) #[Y,Z,Y,Y,Y,Y,Y,Y,Z,Y,Z,Z,Z,Y,Y,Y,Y,Z,Y,Z,Z,Z,Z,Z,Z,Z,Z,Z] rfl rfl (any_of HT_.out (by kernel_rfl)) (fun _ _ _ h => h) (Or.inl ⟨by rfl, ?_⟩) ?_ ?_
       rotate_left
       ·intro w'
        go_simp
        with_reducible rfl
       rotate_left
       ·simp only [Act.put, List.setIfInBounds_toArray, List.set_cons_zero, List.set_cons_succ, i64_w, i32_w]
        rfl
       refine pure_ (i := 19) (N := some 39) (v := ?_) (a' := ?_) #[Y,Z,Y,Y,Y,Y,Y,Y,Z,Y,Z,Z,Z,Y,Y,Y,Y,Z,Y,Y,Z,Z,Z,Z,Z,Z,Z,Z] rfl rfl (any_of HT_.out (by kernel_rfl)) (fun _ _ _ h => h) (Or.inl ⟨by rfl, ?_⟩) ?_ ?_
       rotate_left
       ·intro w'
        go_simp
        with_reducible rfl
       rotate_left
       ·simp only [Act.put, List.setIfInBounds_toArray, List.set_cons_zero, List.set_cons_succ, i64_w, i32_w]
        rfl
       refine pure_ (i := 20) (N := some 40) (v := ?_) (a' := ?_) #[Y,Z,Y,Y,Y,Y,Y,Y,Z,Y,Z,Z,Z,Y,Y,Y,Y,Z,Y,Y,Y,Z,Z,Z,Z,Z,Z,Z] rfl rfl (any_of HT_.out (by kernel_rfl)) (fun _ _ _ h => h) (Or.inl ⟨by rfl, ?_⟩) ?_ ?_
       rotate_left
       ·intro w'
        go_simp
        with_reducible rfl
       rotate_left
       ·simp only [Act.put, List.setIfInBounds_toArray, List.set_cons_zero, List.set_cons_succ, i64_w, i32_w]
        rfl
       refine pure_ (i := 21) (N := some 41) (v := ?_) (a' := ?_) #[Y,Z,Y,Y,Y,Y,Y,Y,Z,Y,Z,Z,Z,Y,Y,Y,Y,Z,Y,Y,Y,Y,Z,Z,Z,Z,Z,Z] rfl rfl (any_of HT_.out (by kernel_rfl)) (fun _ _ _ h => h) (Or.inl ⟨by rfl, ?_⟩) ?_ ?_
       rotate_left
       ·intro w'
        go_simp
        with_reducible rfl
       rotate_left
       ·simp only [Act.put, List.setIfInBounds_toArray, List.set_cons_zero, List.set_cons_succ, i64_w, i32_w]
        rfl
       refine take_ (i := 1) (N := some 21) (v := ?_) (a' := ?_) #[Y,Y,Y,Y,Y,Y,Y,Y,Z,Y,Z,Z,Z,Y,Y,Y,Y,Z,Y,Y,Y,Y,Z,Z,Z,Z,Z,Z] rfl rfl (take_ofW HT_.out HW_.out (by kernel_rfl)) (fun _ _ _ h => h) (Or.inl ⟨by rfl, ?_⟩) hHeld ?_ ?_
       rotate_left
       ·rintro w' ⟨s0, s1, s2, s3, s4, s5, s6, s7, s8, s9, s10, s11, s12⟩
        go_simp
        with_reducible rfl
       rotate_left
       ·simp only [Act.put, List.setIfInBounds_toArray, List.set_cons_zero, List.set_cons_succ, i64_w, i32_w]
        rfl
       refine take_ (i := 8) (N := some 28) (v := ?_) (a' := ?_) #[Y,Y,Y,Y,Y,Y,Y,Y,Y,Y,Z,Z,Z,Y,Y,Y,Y,Z,Y,Y,Y,Y,Z,Z,Z,Z,Z,Z] rfl rfl (take_ofW HT_.out HW_.out (by kernel_rfl)) (fun _ _ _ h => h) (Or.inl ⟨by rfl, ?_⟩) hHeld ?_ ?_
       rotate_left
       ·rintro w' ⟨s0, s1, s2, s3, s4, s5, s6, s7, s8, s9, s10, s11, s12⟩
        go_simp
        with_reducible rfl
       rotate_left
       ·simp only [Act.put, List.setIfInBounds_toArray, List.set_cons_zero, List.set_cons_succ, i64_w, i32_w]
        rfl
       refine pure_ (i := 10) (N := some 30) (v := ?_) (a' := ?_) #[Y,Y,Y,Y,Y,Y,Y,Y,Y,Y,Y,Z,Z,Y,Y,Y,Y,Z,Y,Y,Y,Y,Z,Z,Z,Z,Z,Z] rfl rfl (any_of HT_.out (by kernel_rfl)) (fun _ _ _ h => h) (Or.inl ⟨by rfl, ?_⟩) ?_ ?_
       rotate_left
       ·intro w'
        go_simp
        with_reducible rfl
       rotate_left
       ·simp only [Act.put, List.setIfInBounds_toArray, List.set_cons_zero, List.set_cons_succ, i64_w, i32_w]
        rfl
       refine pure_ (i := 11) (N := some 31) (v := ?_) (a' := ?_) #[Y,Y,Y,Y,Y,Y,Y,Y,Y,Y,Y,Y,Z,Y,Y,Y,Y,Z,Y,Y,Y,Y,Z,Z,Z,Z,Z,Z] rfl rfl (any_of HT_.out (by kernel_rfl)) (fun _ _ _ h => h) (Or.inl ⟨by rfl, ?_⟩) ?_ ?_
       rotate_left
       ·intro w'
        go_simp
        with_reducible rfl
       rotate_left
       ·simp only [Act.put, List.setIfInBounds_toArray, List.set_cons_zero, List.set_cons_succ, i64_w, i32_w]
        rfl
       refine pure_ (i := 12) (N := some 32) (v := ?_) (a' := ?_) #[Y,Y,Y,Y,Y,Y,Y,Y,Y,Y,Y,Y,Y,Y,Y,Y,Y,Z,Y,Y,Y,Y,Z,Z,Z,Z,Z,Z] rfl rfl (any_of HT_.out (by kernel_rfl)) (fun _ _ _ h => h) (Or.inl ⟨by rfl, ?_⟩) ?_ ?_
       rotate_left
       ·intro w'
        go_simp
        with_reducible rfl
       rotate_left
       ·simp only [Act.put, List.setIfInBounds_toArray, List.set_cons_zero, List.set_cons_succ, i64_w, i32_w]
        rfl
       refine take_ (i := 17) (N := some 37) (v := ?_) (a' := ?_) #[Y,Y,Y,Y,Y,Y,Y,Y,Y,Y,Y,Y,Y,Y,Y,Y,Y,Y,Y,Y,Y,Y,Z,Z,Z,Z,Z,Z] rfl rfl (take_ofW HT_.out HW_.out (by kernel_rfl)) (fun _ _ _ h => h) (Or.inl ⟨by rfl, ?_⟩) hHeld ?_ ?_
       rotate_left
       ·rintro w' ⟨s0, s1, s2, s3, s4, s5, s6, s7, s8, s9, s10, s11, s12⟩
        go_simp
        with_reducible rfl
       rotate_left
       ·simp only [Act.put, List.setIfInBounds_toArray, List.set_cons_zero, List.set_cons_succ, i64_w, i32_w]
        rfl
       refine take_ (i := 22) (N := some 42) (v := ?_) (a' := ?_) #[Y,Y,Y,Y,Y,Y,Y,Y,Y,Y,Y,Y,Y,Y,Y,Y,Y,Y,Y,Y,Y,Y,Y,Z,Z,Z,Z,Z] rfl rfl (take_ofW HT_.out HW_.out (by kernel_rfl)) (fun _ _ _ h => h) (Or.inl ⟨by rfl, ?_⟩) hHeld ?_ ?_
       rotate_left
       ·rintro w' ⟨s0, s1, s2, s3, s4, s5, s6, s7, s8, s9, s10, s11, s12⟩
        go_simp
        with_reducible rfl
       rotate_left
       ·simp only [Act.put, List.setIfInBounds_toArray, List.set_cons_zero, List.set_cons_succ, i64_w, i32_w]
        rfl
       refine pure_ (i := 23) (N := some 43) (v := ?_) (a' := ?_) #[Y,Y,Y,Y,Y,Y,Y,Y,Y,Y,Y,Y,Y,Y,Y,Y,Y,Y,Y,Y,Y,Y,Y,Y,Z,Z,Z,Z] rfl rfl (any_of HT_.out (by kernel_rfl)) (fun _ _ _ h => h) (Or.inl ⟨by rfl, ?_⟩) ?_ ?_
       rotate_left
       ·intro w'
        go_simp
        with_reducible rfl
       rotate_left
       ·simp only [Act.put, List.setIfInBounds_toArray, List.set_cons_zero, List.set_cons_succ, i64_w, i32_w]
        rfl
       refine one_ (i := 24) (N := some 44) #[Y,Y,Y,Y,Y,Y,Y,Y,Y,Y,Y,Y,Y,Y,Y,Y,Y,Y,Y,Y,Y,Y,Y,Y,Y,Z,Z,Z] rfl rfl (one_of HT_.out (by kernel_rfl)) (by decide) (fun K hK => ?_)
       refine value_ (w1 := ?_) (v := ?_) (by rfl) rfl ?_ ?_
       rotate_left 2
       ·go_simp
        constructor
        ·rfl
        ·rfl
       refine hK.out _ _ ⟨(blk_cell (blk_alloc BK105.out _) 0).trans rfl, (blk_cell (blk_alloc BK105.out _) 1).trans rfl, (blk_cell (blk_alloc BK105.out _) 2).trans rfl, (blk_cell (blk_alloc BK105.out _) 3).trans rfl, (World.cell?_alloc_lt _ _ _ (World.block_lt_of_cell? _ _ (((HB.out.cell (World.block_lt_of_cell? w _ hw106_0)).trans hw106_0)))).trans (((HB.out.cell (World.block_lt_of_cell? w _ hw106_0)).trans hw106_0)), (World.cell?_alloc_lt _ _ _ (World.block_lt_of_cell? _ _ (((HB.out.cell (World.block_lt_of_cell? w _ hw106_1)).trans hw106_1)))).trans (((HB.out.cell (World.block_lt_of_cell? w _ hw106_1)).trans hw106_1)), (World.cell?_alloc_lt _ _ _ (World.block_lt_of_cell? _ _ (((HB.out.cell (World.block_lt_of_cell? w _ hw106_2)).trans hw106_2)))).trans (((HB.out.cell (World.block_lt_of_cell? w _ hw106_2)).trans hw106_2)), (World.cell?_alloc_lt _ _ _ (World.block_lt_of_cell? _ _ (((HB.out.cell (World.block_lt_of_cell? w _ hw107_0)).trans hw107_0)))).trans (((HB.out.cell (World.block_lt_of_cell? w _ hw107_0)).trans hw107_0)), (World.cell?_alloc_lt _ _ _ (World.block_lt_of_cell? _ _ (((HB.out.cell (World.block_lt_of_cell? w _ hw107_1)).trans hw107_1)))).trans (((HB.out.cell (World.block_lt_of_cell? w _ hw107_1)).trans hw107_1)), (World.cell?_alloc_lt _ _ _ (World.block_lt_of_cell? _ _ (((HB.out.cell (World.block_lt_of_cell? w _ hw107_2)).trans hw107_2)))).trans (((HB.out.cell (World.block_lt_of_cell? w _ hw107_2)).trans hw107_2)), (World.cell?_alloc_lt _ _ _ (World.block_lt_of_cell? _ _ (((HB.out.cell (World.block_lt_of_cell? w _ hw108_0)).trans hw108_0)))).trans (((HB.out.cell (World.block_lt_of_cell? w _ hw108_0)).trans hw108_0)), (World.cell?_alloc_lt _ _ _ (World.block_lt_of_cell? _ _ (((HB.out.cell (World.block_lt_of_cell? w _ hw108_1)).trans hw108_1)))).trans (((HB.out.cell (World.block_lt_of_cell? w _ hw108_1)).trans hw108_1)), (World.cell?_alloc_lt _ _ _ (World.block_lt_of_cell? _ _ (((HB.out.cell (World.block_lt_of_cell? w _ hw108_2)).trans hw108_2)))).trans (((HB.out.cell (World.block_lt_of_cell? w _ hw108_2)).trans hw108_2))⟩ (fun hHeld => ?_)
       clear hK K
       refine norm_ (a' := ?_) ?_ ?_
       rotate_left
       ·show Act.put _ (some 44) _ = _
        simp only [Act.put, List.setIfInBounds_toArray, List.set_cons_zero, List.set_cons_succ, i64_w, i32_w]
        rfl
       refine one_ (i := 25) (N := some 45) #[Y,Y,Y,Y,Y,Y,Y,Y,Y,Y,Y,Y,Y,Y,Y,Y,Y,Y,Y,Y,Y,Y,Y,Y,Y,Y,Z,Z] rfl rfl (one_of HT_.out (by kernel_rfl)) (by decide) (fun K hK => ?_)
       refine Kd.R_append_step k31 (w0 := w) w.heap.size (by rfl) (.tmp 21) (.tmp 44) 25 31 (.agg #[(.int .i64 0), (.int .i64 0), (.string ⟨#[]⟩), (.int .u64 0), (.bool false), (.bool false)]) 48 rfl Tryz.underlying25 info31 rfl (by decide) (by omega) u106000 x106000_1 (⟨wrap64 (x6_1 + 2), wrap64 (1 + (ji14)), (⟨#[110]⟩ : ByteArray), (rd_T68 l0 x6_1).f0, false, (rd_T68 l0 x6_1).f1⟩ : S31) [.int .i64 (wrap64 (x6_1 + 2)), .int .i64 (wrap64 (1 + (ji14))), .string (⟨#[110]⟩ : ByteArray), .int .u64 ((rd_T68 l0 x6_1).f0), .bool false, .bool ((rd_T68 l0 x6_1).f1)] (fun _ => True) (fun _ => False) rfl rfl ?aP (fun _ hk => hk.elim) ?aF ?aO ?aB ?aS ?aL ?_
       (case aP => exact k31_mkM _ _ _ (⟨wrap64 (x6_1 + 2), wrap64 (1 + (ji14)), (⟨#[110]⟩ : ByteArray), (rd_T68 l0 x6_1).f0, false, (rd_T68 l0 x6_1).f1⟩ : S31))
       (case aB => exact (by repeat (first | (with_reducible first | exact HB.out | apply below_alloc | apply pw_below_drewN | apply below_drew1 | refine below_set ?_ GE101.out | refine below_set ?_ GE105.out) | exact HB.out)))
       (case aF => exact (fun _ _ => trivial))
       (case aO => exact (kdR_ HO_106000.out))
       (case aS => exact (below_size (by repeat (first | (with_reducible first | exact HB.out | apply below_alloc | apply pw_below_drewN | apply below_drew1 | refine below_set ?_ GE101.out | refine below_set ?_ GE105.out) | exact HB.out))))
       (case aL => have := LMc15.out; omega)
       intro v110 w17 ho hb hg hat
       rw [← Ny109.out] at ho
       have n0_ := Aside0.mk (blk_grown (g := gb101) (o := .cells #[.slice none 0 0, .int .i64 0, .int .i64 0, .int .u64 0] 28 (0, 0)) (blkN BK101.out) hg (Kd.R_ne HO_106000.out BK101.out (by decide)))
       have n1_ := Aside0.mk (blk_grown (g := gb105) (o := .cells #[u106000, .int .i64 1, .int .i64 x106002_1, .int .u64 0] 28 (0, 0)) (blkN BK105.out) hg (Kd.R_ne HO_106000.out BK105.out (by decide)))
       have n2_ := Aside0.mk (hb)
       have n3_ := Aside0.mk (ho)
       clear BK101
       clear BK105
       clear HB
       clear HO_106000
       have BK101 := n0_
       have BK105 := n1_
       have HB := n2_
       have HO111 := n3_
       clear n0_ n1_ n2_ n3_
       clear ho hb hg hat
       obtain ⟨Ao18, co18, eo18⟩ := Kd.R_slice HO111.out
       (first | subst eo18 | (injection eo18 with f1_ f2_ f3_; have f4_ := f1_.symm; have f5_ := f3_.symm; clear f1_ f2_ f3_; subst f4_; subst f5_))
       refine hK.out _ _ ⟨(blk_cell BK105.out 0).trans rfl, (blk_cell BK105.out 1).trans rfl, (blk_cell BK105.out 2).trans rfl, (blk_cell BK105.out 3).trans rfl, ((HB.out.cell (World.block_lt_of_cell? w _ hw106_0)).trans hw106_0), ((HB.out.cell (World.block_lt_of_cell? w _ hw106_1)).trans hw106_1), ((HB.out.cell (World.block_lt_of_cell? w _ hw106_2)).trans hw106_2), ((HB.out.cell (World.block_lt_of_cell? w _ hw107_0)).trans hw107_0), ((HB.out.cell (World.block_lt_of_cell? w _ hw107_1)).trans hw107_1), ((HB.out.cell (World.block_lt_of_cell? w _ hw107_2)).trans hw107_2), ((HB.out.cell (World.block_lt_of_cell? w _ hw108_0)).trans hw108_0), ((HB.out.cell (World.block_lt_of_cell? w _ hw108_1)).trans hw108_1), ((HB.out.cell (World.block_lt_of_cell? w _ hw108_2)).trans hw108_2)⟩ (fun hHeld => ?_)
       clear hK K
       refine norm_ (a' := ?_) ?_ ?_
       rotate_left
       ·show Act.put _ (some 45) _ = _
        simp only [Act.put, List.setIfInBounds_toArray, List.set_cons_zero, List.set_cons_succ, i64_w, i32_w]
        rfl
       refine pure_ (i := 26) (N := some 46) (v := ?_) (a' := ?_) #[Y,Y,Y,Y,Y,Y,Y,Y,Y,Y,Y,Y,Y,Y,Y,Y,Y,Y,Y,Y,Y,Y,Y,Y,Y,Y,Y,Z] rfl rfl (any_of HT_.out (by kernel_rfl)) (fun _ _ _ h => h) (Or.inl ⟨by rfl, ?_⟩) ?_ ?_
       rotate_left
       ·intro w'
        go_simp
        with_reducible rfl
       rotate_left
       ·simp only [Act.put, List.setIfInBounds_toArray, List.set_cons_zero, List.set_cons_succ, i64_w, i32_w]
        rfl
       refine last_ (i := 27) (N := none) #[Y,Y,Y,Y,Y,Y,Y,Y,Y,Y,Y,Y,Y,Y,Y,Y,Y,Y,Y,Y,Y,Y,Y,Y,Y,Y,Y,Y] rfl rfl (one_of HT_.out (by kernel_rfl)) (by decide) (fun K hK => ?_)
       have hs19 : w17.cell? ⟨gb105, 0, none⟩ = some (u106000) := (blk_cell BK105.out 0).trans rfl
       have hfs19 := blk_frozen BK105.out 0
       have hns19_0 := NB101_105.out
       have hms19_0 := NB105_101.out
       refine skip_ (w1 := ?_) (by rfl) rfl ?_ ?_
       rotate_left
       ·go_simp
        rfl
       refine hK.out _ _ ?_
       clear hK K
       refine done_ (done_of HT_.out (by kernel_rfl)) ?_
       have hnb20 := NB105_101.out
       have hnc20 := NB101_105.out
       have hcz21_0 : w17.cell? ⟨gb105, 0, none⟩ = some (u106000) := (blk_cell BK105.out 0).trans rfl
       have hcz21_1 : w17.cell? ⟨gb105, 1, none⟩ = some (.int .i64 1) := (blk_cell BK105.out 1).trans rfl
       have hcz21_2 : w17.cell? ⟨gb105, 2, none⟩ = some (.int .i64 x106002_1) := (blk_cell BK105.out 2).trans rfl
       have hcz21_3 : w17.cell? ⟨gb105, 3, none⟩ = some (.int .u64 0) := (blk_cell BK105.out 3).trans rfl
       have hfz21_0 := blk_frozen BK105.out 0
       have hfz21_1 := blk_frozen BK105.out 1
       have hfz21_2 := blk_frozen BK105.out 2
       have hfz21_3 := blk_frozen BK105.out 3
       try go_wp2
       go_roundg k1
       case measure => have := HK1.out; omega
       case rel => exact ⟨(wrap64 (x6_1 + 1)), (y109), (wrap64 (x6_1 + 3)), (.slice Ao18 y109.length co18), (by first | rfl | (simp; done) | (simp [*]; done)), H', ⟨by have := HK1.out; omega⟩, ⟨by (with_reducible repeat (first | apply Kd.R_alloc | apply Kd.R_drewN | apply Kd.R_drew)); exact Kd.R_mono (Kd.R_far (p := ⟨gb105, 2, none⟩) (Kd.R_far (p := ⟨gb105, 0, none⟩) (Kd.R_types HO111.out BK105.out (by decide)) (fun _ hk => hk.2) (.slice Ao18 y109.length co18)) (fun _ hk => hk.2) (.int .i64 (wrap64 (x6_1 + 3)))) (fun _ hk => trivial)⟩, ⟨by (with_reducible repeat (first | refine blk_drewN ?_ _ | refine blk_drew ?_ | refine blk_alloc ?_ _)); refine blk_far ?_ NB101_105.out _; (with_reducible repeat (first | refine blk_drewN ?_ _ | refine blk_drew ?_ | refine blk_alloc ?_ _)); refine blk_far ?_ NB101_105.out _; (with_reducible repeat (first | refine blk_drewN ?_ _ | refine blk_drew ?_ | refine blk_alloc ?_ _)); exact BK101.out⟩, ⟨by (with_reducible repeat (first | refine blk_drewN ?_ _ | refine blk_drew ?_ | refine blk_alloc ?_ _)); refine blk_put (cs := #[.slice Ao18 y109.length co18, .int .i64 1, .int .i64 x106002_1, .int .u64 0]) ?_ 2 _ rfl; (with_reducible repeat (first | refine blk_drewN ?_ _ | refine blk_drew ?_ | refine blk_alloc ?_ _)); refine blk_put (cs := #[u106000, .int .i64 1, .int .i64 x106002_1, .int .u64 0]) ?_ 0 _ rfl; (with_reducible repeat (first | refine blk_drewN ?_ _ | refine blk_drew ?_ | refine blk_alloc ?_ _)); exact BK105.out⟩, ⟨by repeat (first | (with_reducible first | exact HB.out | apply below_alloc | apply pw_below_drewN | apply below_drew1 | refine below_set ?_ GE101.out | refine below_set ?_ GE105.out) | exact HB.out)⟩⟩
      ·rw [if_neg c15] at H
       exact absurd H (by simp)
     ·rw [if_neg c12] at H
      exact absurd H (by simp)
    ·rw [if_neg c11] at H
     have c11b0 : decide (x6_1 < 50) = false := decide_eq_false c11
     clear c11
     obtain ⟨ji22, hji22⟩ : ∃ j_ : Int, (mn a1 (wrap64 ((x106000_1.length : Int) - 1))) = j_ := ⟨_, rfl⟩
     replace H : (some (x106000_1, wrap64 (1 + (mx 0 (ji22))), x106002_1, 0)) = some (r1, r2, r3, r4) := by first | (rw [hji22] at H; exact H) | (simp only [hji22] at H ⊢; exact H)
     have hji22_ : (if (wrap64 ((x106000_1.length : Int) - 1)) < a1 then (wrap64 ((x106000_1.length : Int) - 1)) else a1) = ji22 := hji22
     obtain ⟨ji23, hji23⟩ : ∃ j_ : Int, (mx 0 (ji22)) = j_ := ⟨_, rfl⟩
     replace H : (some (x106000_1, wrap64 (1 + (ji23)), x106002_1, 0)) = some (r1, r2, r3, r4) := by first | (rw [hji23] at H; exact H) | (simp only [hji23] at H ⊢; exact H)
     have hji23_ : (if 0 < (ji22) then (ji22) else 0) = ji23 := hji23
     simp only [Option.some.injEq, Prod.mk.injEq] at H
     obtain ⟨rfl, rfl, rfl, rfl⟩ := H
     have hnb24 := NB105_101.out
     have hnc24 := NB101_105.out
     have hcz25_0 : wr.cell? ⟨gb105, 0, none⟩ = some (u106000) := (blk_cell BK105.out 0).trans rfl
     have hcz25_1 : wr.cell? ⟨gb105, 1, none⟩ = some (.int .i64 1) := (blk_cell BK105.out 1).trans rfl
     have hcz25_2 : wr.cell? ⟨gb105, 2, none⟩ = some (.int .i64 x106002_1) := (blk_cell BK105.out 2).trans rfl
     have hcz25_3 : wr.cell? ⟨gb105, 3, none⟩ = some (.int .u64 0) := (blk_cell BK105.out 3).trans rfl
     have hfz25_0 := blk_frozen BK105.out 0
     have hfz25_1 := blk_frozen BK105.out 1
     have hfz25_2 := blk_frozen BK105.out 2
     have hfz25_3 := blk_frozen BK105.out 3
     obtain ⟨Ao26, co26, eo26⟩ := Kd.R_slice HO_106000.out
     subst eo26
     have hcz27_0 : wr.cell? ⟨gb101, 0, none⟩ = some (.slice none 0 0) := (blk_cell BK101.out 0).trans rfl
     have hcz27_1 : wr.cell? ⟨gb101, 1, none⟩ = some (.int .i64 0) := (blk_cell BK101.out 1).trans rfl
     have hcz27_2 : wr.cell? ⟨gb101, 2, none⟩ = some (.int .i64 0) := (blk_cell BK101.out 2).trans rfl
     have hcz27_3 : wr.cell? ⟨gb101, 3, none⟩ = some (.int .u64 0) := (blk_cell BK101.out 3).trans rfl
     have hfz27_0 := blk_frozen BK101.out 0
     have hfz27_1 := blk_frozen BK101.out 1
     have hfz27_2 := blk_frozen BK101.out 2
     have hfz27_3 := blk_frozen BK101.out 3
     go_wp2
     refine bodyPost_ret (results_cell_row rfl _ _ gb101 28 #[.slice Ao26 x106000_1.length co26, .int .i64 (wrap64 (1 + (ji23))), .int .i64 x106002_1, .int .u64 0] (0, 0) _ rfl (by (with_reducible repeat (first | refine blk_drewN ?_ _ | refine blk_drew ?_ | refine blk_alloc ?_ _)); refine blk_put (cs := #[.slice Ao26 x106000_1.length co26, .int .i64 (wrap64 (1 + (ji23))), .int .i64 x106002_1, .int .u64 0]) ?_ 3 _ rfl; (with_reducible repeat (first | refine blk_drewN ?_ _ | refine blk_drew ?_ | refine blk_alloc ?_ _)); refine blk_put (cs := #[.slice Ao26 x106000_1.length co26, .int .i64 (wrap64 (1 + (ji23))), .int .i64 0, .int .u64 0]) ?_ 2 _ rfl; (with_reducible repeat (first | refine blk_drewN ?_ _ | refine blk_drew ?_ | refine blk_alloc ?_ _)); refine blk_put (cs := #[.slice Ao26 x106000_1.length co26, .int .i64 0, .int .i64 0, .int .u64 0]) ?_ 1 _ rfl; (with_reducible repeat (first | refine blk_drewN ?_ _ | refine blk_drew ?_ | refine blk_alloc ?_ _)); refine blk_put (cs := #[.slice none 0 0, .int .i64 0, .int .i64 0, .int .u64 0]) ?_ 0 _ rfl; (with_reducible repeat (first | refine blk_drewN ?_ _ | refine blk_drew ?_ | refine blk_alloc ?_ _)); refine blk_far ?_ NB101_105.out _; (with_reducible repeat (first | refine blk_drewN ?_ _ | refine blk_drew ?_ | refine blk_alloc ?_ _)); exact BK101.out) Tryz.underlying28 rfl (by kernel_rfl)) rfl ?_
     exact ⟨_, by first | rfl | (simp [errW_none, errW_some] <;> rfl) | (simp only [← hji22, ← hji23]; first | rfl | (simp [errW_none, errW_some] <;> rfl)) | (simp [*, errW_none, errW_some] <;> rfl), by (with_reducible repeat (first | apply Kd.R_alloc | apply Kd.R_drewN | apply Kd.R_drew)); exact Kd.R_mono (Kd.R_far (p := ⟨gb101, 3, none⟩) (Kd.R_far (p := ⟨gb101, 2, none⟩) (Kd.R_far (p := ⟨gb101, 1, none⟩) (Kd.R_far (p := ⟨gb101, 0, none⟩) (Kd.R_far (p := ⟨gb105, 1, none⟩) (Kd.R_types (Kd.R_types HO_106000.out BK105.out (by decide)) BK101.out (by decide)) (fun _ hk => hk.1.2) (.int .i64 (wrap64 (1 + (ji23))))) (fun _ hk => hk.2) (.slice Ao26 x106000_1.length co26)) (fun _ hk => hk.2) (.int .i64 (wrap64 (1 + (ji23))))) (fun _ hk => hk.2) (.int .i64 x106002_1)) (fun _ hk => hk.2) (.int .u64 0)) (fun _ hk => trivial), by repeat (first | (with_reducible first | exact HB.out | apply below_alloc | apply pw_below_drewN | apply below_drew1 | refine below_set ?_ GE101.out | refine below_set ?_ GE105.out) | exact HB.out)⟩
   ·rw [if_neg c10] at H
    have c10b0 : decide (x6_1 < (l0.length : Int)) = false := decide_eq_false c10
    clear c10
    obtain ⟨ji28, hji28⟩ : ∃ j_ : Int, (mn a1 (wrap64 ((x106000_1.length : Int) - 1))) = j_ := ⟨_, rfl⟩
    replace H : (some (x106000_1, wrap64 (1 + (mx 0 (ji28))), x106002_1, 0)) = some (r1, r2, r3, r4) := by first | (rw [hji28] at H; exact H) | (simp only [hji28] at H ⊢; exact H)
    have hji28_ : (if (wrap64 ((x106000_1.length : Int) - 1)) < a1 then (wrap64 ((x106000_1.length : Int) - 1)) else a1) = ji28 := hji28
    obtain ⟨ji29, hji29⟩ : ∃ j_ : Int, (mx 0 (ji28)) = j_ := ⟨_, rfl⟩
    replace H : (some (x106000_1, wrap64 (1 + (ji29)), x106002_1, 0)) = some (r1, r2, r3, r4) := by first | (rw [hji29] at H; exact H) | (simp only [hji29] at H ⊢; exact H)
    have hji29_ : (if 0 < (ji28) then (ji28) else 0) = ji29 := hji29
    simp only [Option.some.injEq, Prod.mk.injEq] at H
    obtain ⟨rfl, rfl, rfl, rfl⟩ := H
    have hnb30 := NB105_101.out
    have hnc30 := NB101_105.out
    have hcz31_0 : wr.cell? ⟨gb105, 0, none⟩ = some (u106000) := (blk_cell BK105.out 0).trans rfl
    have hcz31_1 : wr.cell? ⟨gb105, 1, none⟩ = some (.int .i64 1) := (blk_cell BK105.out 1).trans rfl
    have hcz31_2 : wr.cell? ⟨gb105, 2, none⟩ = some (.int .i64 x106002_1) := (blk_cell BK105.out 2).trans rfl
    have hcz31_3 : wr.cell? ⟨gb105, 3, none⟩ = some (.int .u64 0) := (blk_cell BK105.out 3).trans rfl
    have hfz31_0 := blk_frozen BK105.out 0
    have hfz31_1 := blk_frozen BK105.out 1
    have hfz31_2 := blk_frozen BK105.out 2
    have hfz31_3 := blk_frozen BK105.out 3
    obtain ⟨Ao32, co32, eo32⟩ := Kd.R_slice HO_106000.out
    subst eo32
    have hcz33_0 : wr.cell? ⟨gb101, 0, none⟩ = some (.slice none 0 0) := (blk_cell BK101.out 0).trans rfl
    have hcz33_1 : wr.cell? ⟨gb101, 1, none⟩ = some (.int .i64 0) := (blk_cell BK101.out 1).trans rfl
    have hcz33_2 : wr.cell? ⟨gb101, 2, none⟩ = some (.int .i64 0) := (blk_cell BK101.out 2).trans rfl
    have hcz33_3 : wr.cell? ⟨gb101, 3, none⟩ = some (.int .u64 0) := (blk_cell BK101.out 3).trans rfl
    have hfz33_0 := blk_frozen BK101.out 0
    have hfz33_1 := blk_frozen BK101.out 1
    have hfz33_2 := blk_frozen BK101.out 2
    have hfz33_3 := blk_frozen BK101.out 3
    go_wp2
    refine bodyPost_ret (results_cell_row rfl _ _ gb101 28 #[.slice Ao32 x106000_1.length co32, .int .i64 (wrap64 (1 + (ji29))), .int .i64 x106002_1, .int .u64 0] (0, 0) _ rfl (by (with_reducible repeat (first | refine blk_drewN ?_ _ | refine blk_drew ?_ | refine blk_alloc ?_ _)); refine blk_put (cs := #[.slice Ao32 x106000_1.length co32, .int .i64 (wrap64 (1 + (ji29))), .int .i64 x106002_1, .int .u64 0]) ?_ 3 _ rfl; (with_reducible repeat (first | refine blk_drewN ?_ _ | refine blk_drew ?_ | refine blk_alloc ?_ _)); refine blk_put (cs := #[.slice Ao32 x106000_1.length co32, .int .i64 (wrap64 (1 + (ji29))), .int .i64 0, .int .u64 0]) ?_ 2 _ rfl; (with_reducible repeat (first | refine blk_drewN ?_ _ | refine blk_drew ?_ | refine blk_alloc ?_ _)); refine blk_put (cs := #[.slice Ao32 x106000_1.length co32, .int .i64 0, .int .i64 0, .int .u64 0]) ?_ 1 _ rfl; (with_reducible repeat (first | refine blk_drewN ?_ _ | refine blk_drew ?_ | refine blk_alloc ?_ _)); refine blk_put (cs := #[.slice none 0 0, .int .i64 0, .int .i64 0, .int .u64 0]) ?_ 0 _ rfl; (with_reducible repeat (first | refine blk_drewN ?_ _ | refine blk_drew ?_ | refine blk_alloc ?_ _)); refine blk_far ?_ NB101_105.out _; (with_reducible repeat (first | refine blk_drewN ?_ _ | refine blk_drew ?_ | refine blk_alloc ?_ _)); exact BK101.out) Tryz.underlying28 rfl (by kernel_rfl)) rfl ?_
    exact ⟨_, by first | rfl | (simp [errW_none, errW_some] <;> rfl) | (simp only [← hji28, ← hji29]; first | rfl | (simp [errW_none, errW_some] <;> rfl)) | (simp [*, errW_none, errW_some] <;> rfl), by (with_reducible repeat (first | apply Kd.R_alloc | apply Kd.R_drewN | apply Kd.R_drew)); exact Kd.R_mono (Kd.R_far (p := ⟨gb101, 3, none⟩) (Kd.R_far (p := ⟨gb101, 2, none⟩) (Kd.R_far (p := ⟨gb101, 1, none⟩) (Kd.R_far (p := ⟨gb101, 0, none⟩) (Kd.R_far (p := ⟨gb105, 1, none⟩) (Kd.R_types (Kd.R_types HO_106000.out BK105.out (by decide)) BK101.out (by decide)) (fun _ hk => hk.1.2) (.int .i64 (wrap64 (1 + (ji29))))) (fun _ hk => hk.2) (.slice Ao32 x106000_1.length co32)) (fun _ hk => hk.2) (.int .i64 (wrap64 (1 + (ji29))))) (fun _ hk => hk.2) (.int .i64 x106002_1)) (fun _ hk => hk.2) (.int .u64 0)) (fun _ hk => trivial), by repeat (first | (with_reducible first | exact HB.out | apply below_alloc | apply pw_below_drewN | apply below_drew1 | refine below_set ?_ GE101.out | refine below_set ?_ GE105.out) | exact HB.out)⟩
def rootcellarlaw16_sameInts.l0 : Nat → List Int → List Int → Int → Option (Bool)
 | 0, _, _, _ => none
 | k + 1, x0, x1, x5 => if x5 < (x0.length : Int) then (if 0 ≤ x5 then (if x5 < (x1.length : Int) then (if (rd x0 x5) = (rd x1 x5) then (rootcellarlaw16_sameInts.l0 k x0 x1 (wrap64 (x5 + 1))) else (some false)) else (none)) else (none)) else (some true)
def rootcellarlaw16_sameInts.f (k : Nat) (l0 : List Int) (l1 : List Int) : Option (Bool) := if (l0.length : Int) = (l1.length : Int) then (rootcellarlaw16_sameInts.l0 k l0 l1 0) else (some false)
set_option maxHeartbeats 8000000 in
set_option maxRecDepth 100000 in
theorem rootcellarlaw16_sameInts.calls (k : Nat) (A0 : Option Addr) (c0 : Nat) (l0 : List Int) (A1 : Option Addr) (c1 : Nat) (l1 : List Int) (r : Bool) (w : World) (hr0 : Kd.C (Kd.int .i64) w A0 l0.length l0) (hc0 : l0.length ≤ c0) (hr1 : Kd.C (Kd.int .i64) w A1 l1.length l1) (hc1 : l1.length ≤ c1) (h : rootcellarlaw16_sameInts.f k l0 l1 = some r) :
  Calls Tryz.prog 12 #[.slice A0 l0.length c0, .slice A1 l1.length c1] w fun e w' => e = .returned (.bool r) ∧ Drawn0 w w' := by
 have HR0 := Aside0.mk hr0
 have HC0 := Aside0.mk hc0
 clear hr0 hc0
 have HR1 := Aside0.mk hr1
 have HC1 := Aside0.mk hc1
 clear hr1 hc1
 have H : (if (l0.length : Int) = (l1.length : Int) then (rootcellarlaw16_sameInts.l0 k l0 l1 0) else (some false)) = some r := h
 clear h
 by_cases c3 : (l0.length : Int) = (l1.length : Int)
 ·rw [if_pos c3] at H
  have c3b0 : ((l0.length : Int) == (l1.length : Int)) = true := beq_iff_eq.mpr c3
  have c3b1 : ((l0.length : Int) != (l1.length : Int)) = false := bne_eq_false_iff_eq.mpr c3
  have c3b2 : (l0.length == l1.length) = true := by first | simpa using c3 | (simp at c3 ⊢; omega)
  clear c3
  have H' := Aside0.mk H
  clear H
  go_enter Tryz.func12, Tryz.ntmps12
  go_wp2
  repeat (go_quiet (fail); try go_wp2)
  go_loopg [5] k (fun kq v5 w' => ∃ (x5_1 : Int), v5 = .int .i64 x5_1 ∧ Aside0 (rootcellarlaw16_sameInts.l0 kq l0 l1 x5_1 = some r) ∧ Aside0 (kq ≤ k) ∧ Drawn0 w w')
  case atStart => exact ⟨(0), (by first | rfl | (simp; done) | (simp [*]; done)), H', ⟨Nat.le_refl _⟩, by repeat (first | exact Drawn0.refl _ | apply Drawn0.step)⟩
  case round =>
   clear H'
   try clear c1
   try clear p2
   try clear c3
   try clear c3b0
   try clear c3b1
   try clear c3b2
   obtain ⟨x5_1, rfl, HA, HK1, ⟨m1, rfl⟩⟩ := hrel
   cases gk with
   | zero => exact absurd HA.out (by simp [rootcellarlaw16_sameInts.l0])
   | succ k1 =>
    have H := HA.out
    clear HA
    simp only [rootcellarlaw16_sameInts.l0] at H
    by_cases c4 : x5_1 < (l0.length : Int)
    ·rw [if_pos c4] at H
     have c4b0 : decide (x5_1 < (l0.length : Int)) = true := decide_eq_true c4
     clear c4
     by_cases c5 : 0 ≤ x5_1
     ·rw [if_pos c5] at H
      have c5b0 : decide (0 ≤ x5_1) = true := decide_eq_true c5
      clear c5
      by_cases c6 : x5_1 < (l1.length : Int)
      ·rw [if_pos c6] at H
       have c6b0 : decide (x5_1 < (l1.length : Int)) = true := decide_eq_true c6
       clear c6
       by_cases c7 : (rd l0 x5_1) = (rd l1 x5_1)
       ·rw [if_pos c7] at H
        have c7b0 : ((rd l0 x5_1) == (rd l1 x5_1)) = true := beq_iff_eq.mpr c7
        have c7b1 : ((rd l0 x5_1) != (rd l1 x5_1)) = false := bne_eq_false_iff_eq.mpr c7
        clear c7
        have H' := Aside0.mk H
        clear H
        have p112 : 0 ≤ (x5_1 : Int) := of_decide_eq_true asA
        have q112 : x5_1 < (l0.length : Int) := of_decide_eq_true asA
        obtain ⟨ad112, e112, hx112_0⟩ := Kd.at_int HR0.out x5_1 p112 q112
        cases e112
        replace p112 := eq_true p112
        replace q112 := eq_true q112
        have p113 : 0 ≤ (x5_1 : Int) := of_decide_eq_true asA
        have q113 : x5_1 < (l1.length : Int) := of_decide_eq_true asA
        obtain ⟨ad113, e113, hx113_0⟩ := Kd.at_int HR1.out x5_1 p113 q113
        cases e113
        replace p113 := eq_true p113
        replace q113 := eq_true q113
        go_wp2
        repeat (go_quiet (fail); try go_wp2)
        go_roundg k1
        case measure => have := HK1.out; omega
        case rel => exact ⟨(wrap64 (x5_1 + 1)), (by first | rfl | (simp; done) | (simp [*]; done)), H', ⟨by have := HK1.out; omega⟩, by repeat (first | exact Drawn0.refl _ | apply Drawn0.step)⟩
       ·rw [if_neg c7] at H
        have c7b0 : ((rd l0 x5_1) == (rd l1 x5_1)) = false := beq_eq_false_iff_ne.mpr c7
        have c7b1 : ((rd l0 x5_1) != (rd l1 x5_1)) = true := bne_iff_ne.mpr c7
        obtain rfl := Option.some.inj H
        have p112 : 0 ≤ (x5_1 : Int) := of_decide_eq_true asA
        have q112 : x5_1 < (l0.length : Int) := of_decide_eq_true asA
        obtain ⟨ad112, e112, hx112_0⟩ := Kd.at_int HR0.out x5_1 p112 q112
        cases e112
        replace p112 := eq_true p112
        replace q112 := eq_true q112
        have p113 : 0 ≤ (x5_1 : Int) := of_decide_eq_true asA
        have q113 : x5_1 < (l1.length : Int) := of_decide_eq_true asA
        obtain ⟨ad113, e113, hx113_0⟩ := Kd.at_int HR1.out x5_1 p113 q113
        cases e113
        replace p113 := eq_true p113
        replace q113 := eq_true q113
        go_wp2
        repeat (go_quiet (fail); try go_wp2)
        go_ret
        exact ⟨by first | rfl | (simp; done) | (simp [*]; done), by repeat (first | exact Drawn0.refl _ | apply Drawn0.step)⟩
      ·rw [if_neg c6] at H
       exact absurd H (by simp)
     ·rw [if_neg c5] at H
      exact absurd H (by simp)
    ·rw [if_neg c4] at H
     have c4b0 : decide (x5_1 < (l0.length : Int)) = false := decide_eq_false c4
     clear c4
     obtain rfl := Option.some.inj H
     go_wp2
     repeat (go_quiet (fail); try go_wp2)
     go_ret
     exact ⟨by first | rfl | (simp; done) | (simp [*]; done), by repeat (first | exact Drawn0.refl _ | apply Drawn0.step)⟩
 ·rw [if_neg c3] at H
  have c3b0 : ((l0.length : Int) == (l1.length : Int)) = false := beq_eq_false_iff_ne.mpr c3
  have c3b1 : ((l0.length : Int) != (l1.length : Int)) = true := bne_iff_ne.mpr c3
  have c3b2 : (l0.length == l1.length) = false := by first | simpa using c3 | (simp at c3 ⊢; omega)
  obtain rfl := Option.some.inj H
  go_enter Tryz.func12, Tryz.ntmps12
  go_wp2
  repeat (go_quiet (fail); try go_wp2)
  go_ret
  exact ⟨by first | rfl | (simp; done) | (simp [*]; done), by repeat (first | exact Drawn0.refl _ | apply Drawn0.step)⟩
-- NOT PRINTED: function 38 (policy_Policy_counts)
-- NOT PRINTED: function 19 (policy_Right)
-- NOT PRINTED: function 70 (tree_Link_70)
-- NOT PRINTED: function 45 (tree_Find)
end Go.Proofs.YtfdlbnfjohpdlaaGreatDoor.PPo
namespace Go.Proofs.YtfdlbnfjohpdlaaGreatDoor.PPo
open Go.RowKit Go.Proofs.YtfdlbnfjohpdlaaGreatDoorW.PrintWords Go.Proofs.YtfdlbnfjohpdlaaGreatDoorW.PrintLast Go.Proofs.YtfdlbnfjohpdlaaGreatDoorW.PrintMore
attribute [local go_sem] max2_int min2_int max_two min_two max_three min_three max_four min_four   -- for this text's walks alone
attribute [local go_sem high] hw_str_leq hw_str_gtr
set_option linter.unusedVariables false
set_option linter.unusedSimpArgs false
def cntR (s : ByteArray) : Nat → Nat → Nat
 | 0, _ => 0
 | fuel + 1, pos => if pos < s.size then 1 + cntR s fuel (pos + (Utf8.decode s pos).2) else 0
theorem width_posR (s : ByteArray) (pos : Nat) (h : pos < s.size) : 1 ≤ (Utf8.decode s pos).2 := by
 by_cases ha : (s[pos]'h).toNat < 128
 ·rw [decode_ascii s pos h ha]
  exact Nat.le_refl _
 ·exact (decode_high s pos h (by omega)).2
theorem cntR_end (s : ByteArray) (fuel pos : Nat) (h : ¬ pos < s.size) : cntR s fuel pos = 0 := by
 cases fuel with
 | zero => rfl
 | succ f => simp [cntR, h]
theorem cntR_le (s : ByteArray) : ∀ fuel pos, cntR s fuel pos ≤ fuel
 | 0, _ => Nat.le_refl _
 | f + 1, pos => by
  unfold cntR
  split
  ·have := cntR_le s f (pos + (Utf8.decode s pos).2); omega
  ·omega
def label_Count.f (a0 : ByteArray) : Option Int := if a0.size ≤ 9223372036854775807 then some (cntR a0 a0.size 0 : Int) else none
set_option maxHeartbeats 1000000 in
set_option maxRecDepth 100000 in
theorem label_Count.calls (a0 : ByteArray) (r : Int) (w : World) (h : label_Count.f a0 = some r) :
  Calls Tryz.prog 107 #[.string a0] w fun e w' => e = .returned (.int .i64 r) ∧ Below w.heap.size w w' := by
 unfold label_Count.f at h
 by_cases hs : a0.size ≤ 9223372036854775807
 ·rw [if_pos hs] at h
  obtain rfl := Option.some.inj h
  clear h
  have hle := cntR_le a0 a0.size 0
  generalize hR : cntR a0 a0.size 0 = R at hle ⊢
  go_enter Tryz.func107, Tryz.ntmps107
  go_wp2
  go_loopw [3] (fun s3 wr => ∃ (pos fuel n : Nat), s3 = .int .i64 n ∧ wr.heap[w.heap.size]? = some (.stringIter a0 pos) ∧ Below w.heap.size w wr ∧ n + cntR a0 fuel pos = R ∧ a0.size ≤ pos + fuel) (fun _ wr => a0.size - wr.iterPos w.heap.size)
  case atStart =>
   refine ⟨0, a0.size, 0, rfl, ?_, (Below.refl _ w).alloc (Nat.le_refl _) _, by rw [hR]; omega, by omega⟩
   exact World.iter_heap w a0 0
  case round =>
   obtain ⟨pos, fuel, n, rfl, hit, hbw, hacc, hfu⟩ := hrel
   by_cases hp : pos < a0.size
   ·have hnx : ∀ ty, (Instr.next (.pointer (some ⟨w.heap.size, 0, none⟩)) true ty).run Tryz.prog wr = _ := fun ty => Lib.run_next_any_at wr w.heap.size a0 pos ty hit hp
    have hwd := width_posR a0 pos hp
    have hit2 := Lib.iterAt_heap wr w.heap.size a0 pos (pos + (Utf8.decode a0 pos).2) hit
    have hbw2 := Lib.below_iterAt hbw (k := w.heap.size) (Nat.le_refl _) a0 (pos + (Utf8.decode a0 pos).2)
    obtain ⟨f, rfl⟩ : ∃ f, fuel = f + 1 := ⟨fuel - 1, by omega⟩
    rw [cntR, if_pos hp] at hacc
    go_wp2
    go_roundw
    case rel => exact ⟨pos + (Utf8.decode a0 pos).2, f, n + 1, by go_num, hit2, hbw2, by omega, by omega⟩
    case measure =>
     simp only [World.iterPos, hit2, hit]
     omega
   ·have hnx : ∀ ty, (Instr.next (.pointer (some ⟨w.heap.size, 0, none⟩)) true ty).run Tryz.prog wr = _ := fun ty => Lib.run_next_end_at wr w.heap.size a0 pos ty hit hp
    rw [cntR_end a0 fuel pos hp] at hacc
    obtain rfl : n = R := by omega
    go_wp2
    go_ret
    exact ⟨rfl, hbw⟩
 ·rw [if_neg hs] at h
  cases h
end Go.Proofs.YtfdlbnfjohpdlaaGreatDoor.PPo
namespace Go.Proofs.YtfdlbnfjohpdlaaGreatDoor.PPo
open Go.RowKit Go.Proofs.YtfdlbnfjohpdlaaGreatDoorW.PrintWords Go.Proofs.YtfdlbnfjohpdlaaGreatDoorW.PrintLast Go.Proofs.YtfdlbnfjohpdlaaGreatDoorW.PrintMore
attribute [local go_sem] max2_int min2_int max_two min_two max_three min_three max_four min_four   -- for this text's walks alone
attribute [local go_sem high] hw_str_leq hw_str_gtr
set_option linter.unusedVariables false
set_option linter.unusedSimpArgs false
def TabsW (w : World) : Prop := Lib.Utf8Tabs (Tryz.layValid_ren.g 3) (Tryz.layValid_ren.g 4) w
theorem TabsW.below {w w' : World} (h : TabsW w) (hb : Below w.heap.size w w') : TabsW w' := Utf8Tabs_below h hb
end Go.Proofs.YtfdlbnfjohpdlaaGreatDoor.PPo
namespace Go.Proofs.YtfdlbnfjohpdlaaGreatDoor.PPo
open Go.RowKit Go.Proofs.YtfdlbnfjohpdlaaGreatDoorW.PrintWords Go.Proofs.YtfdlbnfjohpdlaaGreatDoorW.PrintLast Go.Proofs.YtfdlbnfjohpdlaaGreatDoorW.PrintMore
attribute [local go_sem] max2_int min2_int max_two min_two max_three min_three max_four min_four   -- for this text's walks alone
attribute [local go_sem high] hw_str_leq hw_str_gtr
set_option linter.unusedVariables false
set_option linter.unusedSimpArgs false
def utf8_ValidString.f (a0 : ByteArray) : Option Bool := if a0.size ≤ 9223372036854775807 then some (Lib.validD a0.data.toList) else none
theorem utf8_ValidString.calls (a0 : ByteArray) (r : Bool) (w : World) (ht : TabsW w) (h : utf8_ValidString.f a0 = some r) :
  Calls Tryz.prog 129 #[.string a0] w fun e w' => e = .returned (.bool r) ∧ Below w.heap.size w w' := by
 unfold utf8_ValidString.f at h
 by_cases hs : a0.size ≤ 9223372036854775807
 ·rw [if_pos hs] at h
  obtain rfl := Option.some.inj h
  exact Any.utf8_ValidString Tryz.layValid a0 w hs ht
 ·rw [if_neg hs] at h
  cases h
end Go.Proofs.YtfdlbnfjohpdlaaGreatDoor.PPo
namespace Go.Proofs.YtfdlbnfjohpdlaaGreatDoor.PPo
open Go.RowKit Go.Proofs.YtfdlbnfjohpdlaaGreatDoorW.PrintWords Go.Proofs.YtfdlbnfjohpdlaaGreatDoorW.PrintLast Go.Proofs.YtfdlbnfjohpdlaaGreatDoorW.PrintMore
attribute [local go_sem] max2_int min2_int max_two min_two max_three min_three max_four min_four   -- for this text's walks alone
attribute [local go_sem high] hw_str_leq hw_str_gtr
set_option linter.unusedVariables false
set_option linter.unusedSimpArgs false
def label_Valid.f (a0 : ByteArray) : Option (Bool) := (utf8_ValidString.f a0).bind fun t116 => (some t116)
set_option maxHeartbeats 8000000 in
set_option maxRecDepth 100000 in
theorem label_Valid.calls (a0 : ByteArray) (r : Bool) (w : World) (ht : TabsW w) (h : label_Valid.f a0 = some r) :
  Calls Tryz.prog 106 #[.string a0] w fun e w' => e = .returned (.bool r) ∧ Below w.heap.size w w' := by
 have HT0 := Aside0.mk ht
 clear ht
 have HB := Aside0.mk (Below.refl w.heap.size w)
 have H : ((utf8_ValidString.f a0).bind fun t116 => (some t116)) = some r := h
 clear h
 replace H := Option.bind_eq_some_iff.mp H
 obtain ⟨t116, A20, H⟩ := H
 replace H : (some t116) = some r := H
 have A2 := Aside0.mk A20
 clear A20
 obtain rfl := Option.some.inj H
 go_enter Tryz.func106, Tryz.ntmps106
 go_wp2_with (first | ((with_reducible refine gate_callee (f := 129) rfl ?_); refine goesL_ (some 4) rfl rfl Tryz.func129 (by kernel_rfl) rfl #[.string a0] rfl argA ?_; (with_reducible refine (utf8_ValidString.calls a0 t116 _ ?side1 A2.out).mono ?_); (case side1 => exact TabsW.below HT0.out belA); rintro e w3 ⟨rfl, hb⟩; refine ⟨_, rfl, ?_⟩; have n0_ := Aside0.mk (below_step belA hb); clear HB; have HB := n0_; clear n0_; (try clear hb); (try clear hb2); (try clear hk); (try clear hi)))
 go_ret
 exact ⟨by first | rfl | (simp [errW_none, errW_some] <;> rfl) | (simp [*, errW_none, errW_some] <;> rfl), by repeat (first | (with_reducible first | exact HB.out | apply below_alloc | apply pw_below_drewN | apply below_drew1) | exact HB.out)⟩
end Go.Proofs.YtfdlbnfjohpdlaaGreatDoor.PPo
namespace Go.Proofs.YtfdlbnfjohpdlaaGreatDoor.PPo
open Go.RowKit Go.Proofs.YtfdlbnfjohpdlaaGreatDoorW.PrintWords Go.Proofs.YtfdlbnfjohpdlaaGreatDoorW.PrintLast Go.Proofs.YtfdlbnfjohpdlaaGreatDoorW.PrintMore
attribute [local go_sem] max2_int min2_int max_two min_two max_three min_three max_four min_four   -- for this text's walks alone
attribute [local go_sem high] hw_str_leq hw_str_gtr
set_option linter.unusedVariables false
set_option linter.unusedSimpArgs false
def badR (s : ByteArray) : Nat → Nat → Bool
 | 0, _ => false
 | fuel + 1, pos => if pos < s.size then (if ((Utf8.decode s pos).1 : Int) < 32 then true else if ((Utf8.decode s pos).1 : Int) = 127 then true else badR s fuel (pos + (Utf8.decode s pos).2)) else false
theorem badR_end (s : ByteArray) (fuel pos : Nat) (h : ¬ pos < s.size) : badR s fuel pos = false := by
 cases fuel with
 | zero => rfl
 | succ f => simp [badR, h]
def label_Right.f (a0 : ByteArray) : Option Bool := if a0.size ≤ 9223372036854775807 then some (!(badR a0 a0.size 0) && (Lib.validD a0.data.toList && (decide (0 < a0.size) && (decide (cntR a0 a0.size 0 ≤ 24) && (decide (bt a0 0 ≠ 32) && decide (bt a0 ((a0.size : Int) - 1) ≠ 32)))))) else none
set_option maxHeartbeats 1000000 in
set_option maxRecDepth 100000 in
theorem label_Right.calls (a0 : ByteArray) (r : Bool) (w : World) (ht : TabsW w) (h : label_Right.f a0 = some r) :
  Calls Tryz.prog 72 #[.string a0] w fun e w' => e = .returned (.bool r) ∧ Below w.heap.size w w' := by
 unfold label_Right.f at h
 by_cases hs : a0.size ≤ 9223372036854775807
 ·rw [if_pos hs] at h
  obtain rfl := Option.some.inj h
  clear h
  have HT := Aside0.mk ht
  clear ht
  generalize hR : badR a0 a0.size 0 = R
  generalize hres0 : (!R && (Lib.validD a0.data.toList && (decide (0 < a0.size) && (decide (cntR a0 a0.size 0 ≤ 24) && (decide (bt a0 0 ≠ 32) && decide (bt a0 ((a0.size : Int) - 1) ≠ 32)))))) = res
  have HRES0 := Aside0.mk hres0
  clear hres0
  go_enter Tryz.func72, Tryz.ntmps72
  go_wp2
  go_loopw [] (fun wr => ∃ (pos fuel : Nat), wr.heap[w.heap.size]? = some (.stringIter a0 pos) ∧ Below w.heap.size w wr ∧ badR a0 fuel pos = R ∧ a0.size ≤ pos + fuel) (fun wr => a0.size - wr.iterPos w.heap.size)
  case atStart =>
   refine ⟨0, a0.size, ?_, (Below.refl _ w).alloc (Nat.le_refl _) _, hR, by omega⟩
   exact World.iter_heap w a0 0
  case round =>
   clear hR
   obtain ⟨pos, fuel, hit, hbw, hacc, hfu⟩ := hrel
   by_cases hp : pos < a0.size
   ·have hnx : ∀ ty, (Instr.next (.pointer (some ⟨w.heap.size, 0, none⟩)) true ty).run Tryz.prog wr = _ := fun ty => Lib.run_next_any_at wr w.heap.size a0 pos ty hit hp
    have hwd := width_posR a0 pos hp
    have hit2 := Lib.iterAt_heap wr w.heap.size a0 pos (pos + (Utf8.decode a0 pos).2) hit
    have hbw2 := Lib.below_iterAt hbw (k := w.heap.size) (Nat.le_refl _) a0 (pos + (Utf8.decode a0 pos).2)
    obtain ⟨f, rfl⟩ : ∃ f, fuel = f + 1 := ⟨fuel - 1, by omega⟩
    rw [badR, if_pos hp] at hacc
    by_cases h1 : ((Utf8.decode a0 pos).1 : Int) < 32
    ·have b1 : decide (((Utf8.decode a0 pos).1 : Int) < 32) = true := decide_eq_true h1
     rw [if_pos h1] at hacc
     subst hacc
     clear h1
     have HF := Aside0.mk (show res = false by rw [← HRES0.out]; rfl)
     clear HRES0
     go_wp2
     go_ret
     exact ⟨by rw [HF.out]; rfl, hbw2⟩
    ·have b1 : decide (((Utf8.decode a0 pos).1 : Int) < 32) = false := decide_eq_false h1
     rw [if_neg h1] at hacc
     clear h1
     by_cases h2 : ((Utf8.decode a0 pos).1 : Int) = 127
     ·have b2 : (((Utf8.decode a0 pos).1 : Int) == 127) = true := beq_iff_eq.2 h2
      have b3 : decide (((Utf8.decode a0 pos).1 : Int) = 127) = true := decide_eq_true h2
      rw [if_pos h2] at hacc
      subst hacc
      clear h2
      have HF := Aside0.mk (show res = false by rw [← HRES0.out]; rfl)
      clear HRES0
      go_wp2
      go_ret
      exact ⟨by rw [HF.out]; rfl, hbw2⟩
     ·have b2 : (((Utf8.decode a0 pos).1 : Int) == 127) = false := beq_eq_false_iff_ne.2 h2
      have b3 : decide (((Utf8.decode a0 pos).1 : Int) = 127) = false := decide_eq_false h2
      rw [if_neg h2] at hacc
      clear h2
      go_wp2
      go_roundw
      case rel => exact ⟨pos + (Utf8.decode a0 pos).2, f, hit2, hbw2, hacc, by omega⟩
      case measure =>
       simp only [World.iterPos, hit2, hit]
       omega
   ·have hnx : ∀ ty, (Instr.next (.pointer (some ⟨w.heap.size, 0, none⟩)) true ty).run Tryz.prog wr = _ := fun ty => Lib.run_next_end_at wr w.heap.size a0 pos ty hit hp
    rw [badR_end a0 fuel pos hp] at hacc
    subst hacc
    have hV : label_Valid.f a0 = some (Lib.validD a0.data.toList) := by unfold label_Valid.f utf8_ValidString.f; rw [if_pos hs]; rfl
    have hC : label_Count.f a0 = some (cntR a0 a0.size 0 : Int) := by unfold label_Count.f; rw [if_pos hs]
    have HTW := Aside0.mk (TabsW.below HT.out hbw)
    have HBW := Aside0.mk hbw
    have hbl : ∀ hz : 0 < a0.size, bt a0 0 = ((a0[0]'hz).toNat : Int) ∧ bt a0 ((a0.size : Int) - 1) = ((a0[a0.size - 1]'(by omega)).toNat : Int) := fun hz => by
     have e : ((a0.size : Int) - 1).toNat = a0.size - 1 := by omega
     refine ⟨?_, ?_⟩
     ·unfold bt; rw [dif_pos (show (0 : Int).toNat < a0.size from hz)]; rfl
     ·unfold bt; rw [dif_pos (by omega)]; simp only [e]
    have hres := HRES0.out
    clear HRES0
    cases hv : Lib.validD a0.data.toList with
    | false =>
     rw [hv] at hV hres
     have HRES := Aside0.mk (show res = false by rw [← hres]; simp)
     clear hres hbl hC
     go_wp2_with (go_at_call 106; refine (label_Valid.calls a0 _ _ HTW.out hV).mono ?_; rintro e w2 ⟨rfl, hb2⟩)
     go_ret
     exact ⟨by rw [HRES.out]; rfl, below_step HBW.out hb2⟩
    | true =>
     rw [hv] at hV hres
     by_cases hz : 0 < a0.size
     ·have he : a0.toList.isEmpty = false := by
       cases ht : a0.toList with
       | nil =>
        have : a0.data.toList.length = 0 := by rw [← Lib.toList_data, ht]; rfl
        rw [Array.length_toList] at this
        have h2 : a0.size = a0.data.size := rfl
        omega
       | cons _ _ => rfl
      by_cases h24 : cntR a0 a0.size 0 ≤ 24
      ·have h24z : decide ((cntR a0 a0.size 0 : Int) ≤ 24) = true := decide_eq_true (by omega)
       obtain ⟨q0, q1⟩ := hbl hz
       have HRES := Aside0.mk (show res = (decide ((a0[0].toNat : Int) ≠ 32) && decide ((a0[a0.size - 1].toNat : Int) ≠ 32)) by
        rw [← hres, decide_eq_true hz, decide_eq_true h24, q0, q1]
        rfl)
       clear hres q0 q1 hbl h24
       generalize cntR a0 a0.size 0 = cn at hC h24z
       by_cases e0 : (a0[0].toNat : Int) = 32
       ·have HR2 := Aside0.mk (show res = false by rw [HRES.out, e0]; rfl)
        clear HRES
        go_wp2_with (first | (go_at_call 106; refine (label_Valid.calls a0 _ _ HTW.out hV).mono ?_; rintro e w2 ⟨rfl, hb2⟩) | (go_at_call 107; refine (label_Count.calls a0 _ _ hC).mono ?_; rintro e w3 ⟨rfl, hb3⟩))
        go_ret
        exact ⟨by rw [HR2.out]; rfl, below_step (below_step HBW.out hb2) hb3⟩
       ·have n0 : ((a0[0].toNat : Int) != 32) = true := bne_iff_ne.2 e0
        have HR2 := Aside0.mk (show res = decide ((a0[a0.size - 1].toNat : Int) ≠ 32) by rw [HRES.out, decide_eq_true e0]; rfl)
        clear HRES
        by_cases e1 : (a0[a0.size - 1].toNat : Int) = 32
        ·have HR3 := Aside0.mk (show res = false by rw [HR2.out, e1]; rfl)
         clear HR2
         go_wp2_with (first | (go_at_call 106; refine (label_Valid.calls a0 _ _ HTW.out hV).mono ?_; rintro e w2 ⟨rfl, hb2⟩) | (go_at_call 107; refine (label_Count.calls a0 _ _ hC).mono ?_; rintro e w3 ⟨rfl, hb3⟩))
         go_ret
         exact ⟨by rw [HR3.out]; rfl, below_step (below_step HBW.out hb2) hb3⟩
        ·have n1 : ((a0[a0.size - 1].toNat : Int) != 32) = true := bne_iff_ne.2 e1
         have HR3 := Aside0.mk (show res = true by rw [HR2.out, decide_eq_true e1])
         clear HR2
         go_wp2_with (first | (go_at_call 106; refine (label_Valid.calls a0 _ _ HTW.out hV).mono ?_; rintro e w2 ⟨rfl, hb2⟩) | (go_at_call 107; refine (label_Count.calls a0 _ _ hC).mono ?_; rintro e w3 ⟨rfl, hb3⟩))
         go_ret
         exact ⟨by rw [HR3.out]; rfl, below_step (below_step HBW.out hb2) hb3⟩
      ·have h24z : decide ((cntR a0 a0.size 0 : Int) ≤ 24) = false := decide_eq_false (by omega)
       have HRES := Aside0.mk (show res = false by rw [← hres, decide_eq_false h24]; simp)
       clear hres hbl h24
       generalize cntR a0 a0.size 0 = cn at hC h24z
       go_wp2_with (first | (go_at_call 106; refine (label_Valid.calls a0 _ _ HTW.out hV).mono ?_; rintro e w2 ⟨rfl, hb2⟩) | (go_at_call 107; refine (label_Count.calls a0 _ _ hC).mono ?_; rintro e w3 ⟨rfl, hb3⟩))
       go_ret
       exact ⟨by rw [HRES.out]; rfl, below_step (below_step HBW.out hb2) hb3⟩
     ·have he : a0.toList.isEmpty = true := by
       rw [Lib.toList_data]
       have : a0.data.toList = [] := List.eq_nil_of_length_eq_zero (by rw [Array.length_toList]; have h2 : a0.size = a0.data.size := rfl; omega)
       rw [this]
       rfl
      have HRES := Aside0.mk (show res = false by rw [← hres, decide_eq_false hz]; simp)
      clear hres hbl hC
      go_wp2_with (go_at_call 106; refine (label_Valid.calls a0 _ _ HTW.out hV).mono ?_; rintro e w2 ⟨rfl, hb2⟩)
      go_ret
      exact ⟨by rw [HRES.out]; rfl, below_step HBW.out hb2⟩
 ·rw [if_neg hs] at h
  cases h
end Go.Proofs.YtfdlbnfjohpdlaaGreatDoor.PPo
