-- laid by gprint.py (this session's own program) out of the translation: Lean checks it
import Derived.Test.YtppbcankhkgpfaaDoorPDpx0
import Derived.Test.YtppbcankhkgpfaaDoorPDpx21
import Derived.Test.YtppbcankhkgpfaaDoorPDpx27
--compressed
namespace Go.Proofs.YtppbcankhkgpfaaDoor.PDp
open Go.RowKit Go.Proofs.YtppbcankhkgpfaaDoorW.PrintWords Go.Proofs.YtppbcankhkgpfaaDoorW.PrintLast Go.Proofs.YtppbcankhkgpfaaDoorW.PrintMore
attribute [local go_sem] max2_int min2_int max_two min_two max_three min_three max_four min_four   -- for this text's walks alone
attribute [local go_sem high] hw_str_leq hw_str_gtr
set_option linter.unusedVariables false
set_option linter.unusedSimpArgs false
mutual
def rootcellarref7_Put.l0 : Nat → List (S45) → ByteArray → Int → Option (ByteArray × Int)
 | 0, _, _, _ => none
 | k + 1, x0, x5, x6 => if x6 < (x0.length : Int) then (if 0 ≤ x6 then ((rootcellarref2_Put.f k (IntKind.u64.wrap ((((rd_T45 x0 x6).f0).size : Int))) 1).bind fun t264 => (if x5.size + t264.size ≤ 9223372036854775807 then (if (x5 ++ t264).size + ((rd_T45 x0 x6).f0).size ≤ 9223372036854775807 then ((rootcellarref2_Put.f k (IntKind.u64.wrap ((rd_T45 x0 x6).f1)) 4).bind fun t265 => (if ((x5 ++ t264) ++ ((rd_T45 x0 x6).f0)).size + t265.size ≤ 9223372036854775807 then ((rootcellarref2_Put.f k (IntKind.u64.wrap ((((rd_T45 x0 x6).f2).length : Int))) 1).bind fun t266 => (if (((x5 ++ t264) ++ ((rd_T45 x0 x6).f0)) ++ t265).size + t266.size ≤ 9223372036854775807 then (rootcellarref7_Put.l1 k x0 ((((x5 ++ t264) ++ ((rd_T45 x0 x6).f0)) ++ t265) ++ t266) x6 0 ((rd_T45 x0 x6).f0) ((rd_T45 x0 x6).f1) ((rd_T45 x0 x6).f2)) else (none))) else (none))) else (none)) else (none))) else (none)) else ((rootcellarref3_Put.f k x5).bind fun t261 => (some (t261, 0)))
def rootcellarref7_Put.l1 : Nat → List (S45) → ByteArray → Int → Int → ByteArray → Int → List (S64) → Option (ByteArray × Int)
 | 0, _, _, _, _, _, _, _ => none
 | k + 1, x0, x5, x6, x8, x264000, x264001, x264002 => if x8 < (x264002.length : Int) then (if 0 ≤ x8 then ((rootcellarref2_Put.f k (IntKind.u64.wrap ((rd_T64 x264002 x8).f0)) 2).bind fun t268 => (if x5.size + t268.size ≤ 9223372036854775807 then ((rootcellarref2_Put.f k (IntKind.u64.wrap ((rd_T64 x264002 x8).f1)) 2).bind fun t270 => (if (x5 ++ t268).size + t270.size ≤ 9223372036854775807 then (rootcellarref7_Put.l1 k x0 ((x5 ++ t268) ++ t270) x6 (wrap64 (x8 + 1)) x264000 x264001 x264002) else (none))) else (none))) else (none)) else (rootcellarref7_Put.l0 k x0 x5 (wrap64 (x6 + 1)))
end
def rootcellarref7_Put.f (k : Nat) (l0 : List (S45)) : Option (ByteArray × Int) := (rootcellarref7_Is.f k l0).bind fun t259 => (if t259 = true then ((rootcellarref2_Put.f k (IntKind.u64.wrap ((l0.length : Int))) 1).bind fun t260 => (rootcellarref7_Put.l0 k l0 t260 0)) else (some ((⟨#[]⟩ : ByteArray), 1)))
def rootcellarref7_Put.T9 : Bool × List (List Nat × List Nat) := (true, [([], []), ([], []), ([1], [1]), ([2], [2]), ([3], [3]), ([4], [4]), ([0, 5], [0, 5]), ([], []), ([7], [7]), ([6, 8], [6, 8]), ([], []), ([10], [10]), ([11], [11]), ([12, 5], [12]), ([9, 13], [9, 13]), ([], []), ([15], [15]), ([16], [16]), ([17], [17]), ([18, 13], [18]), ([14, 19], [14, 19]), ([20, 19, 0, 1, 2, 3, 4, 5, 6, 7, 8, 9, 10, 11, 12, 13, 14, 15, 16, 17, 18, 19, 20], [0, 20])])
def rootcellarref7_Put.B9 : List Nat := [0, 0, 2, 6, 14, 30, 63, 0, 128, 511, 0, 1024, 3072, 7230, 16383, 0, 32768, 98304, 229376, 506942, 1048575, 2097151]
theorem rootcellarref7_Put.tab9 : rtab .any (opsOf Tryd.f27 9) = rootcellarref7_Put.T9 := by kernel_rfl
theorem rootcellarref7_Put.bits9 : waitsOk rootcellarref7_Put.T9.2 rootcellarref7_Put.B9 = true := by kernel_rfl
def rootcellarref7_Put.T13 : Bool × List (List Nat × List Nat) := (true, [([], []), ([], []), ([1], [1]), ([], []), ([2, 3], [2, 3]), ([4], [4]), ([5], [5]), ([6], [6]), ([7], [7]), ([0, 8], [0, 8]), ([], []), ([10], [10]), ([], []), ([11, 12], [11, 12]), ([13], [13]), ([14], [14]), ([15], [15]), ([16, 8], [16]), ([9, 17], [9, 17]), ([18, 17, 0, 1, 2, 3, 4, 5, 6, 7, 8, 9, 10, 11, 12, 13, 14, 15, 16, 17, 18], [0, 18])])
def rootcellarref7_Put.B13 : List Nat := [0, 0, 2, 0, 14, 30, 62, 126, 254, 511, 0, 1024, 0, 7168, 15360, 31744, 64512, 130558, 262143, 524287]
theorem rootcellarref7_Put.tab13 : rtab .any (opsOf Tryd.f27 13) = rootcellarref7_Put.T13 := by kernel_rfl
theorem rootcellarref7_Put.bits13 : waitsOk rootcellarref7_Put.T13.2 rootcellarref7_Put.B13 = true := by kernel_rfl
set_option maxHeartbeats 8000000 in
set_option maxRecDepth 100000 in
theorem rootcellarref7_Put.calls (k : Nat) (A0 : Option Addr) (c0 : Nat) (l0 : List (S45)) (r1 : ByteArray) (r2 : Int) (w : World) (hr0 : Kd.C k45 w A0 l0.length l0) (hc0 : l0.length ≤ c0) (h : rootcellarref7_Put.f k l0 = some (r1, r2)) :
  Calls Tryd.prog 27 #[.slice A0 l0.length c0] w fun e w' => e = .returned (.tuple #[.string r1, .int .i64 r2]) ∧ Below w.heap.size w w' := by
 have hu45 := Tryd.underlying45
 have HR0 := Aside0.mk hr0
 have HC0 := Aside0.mk hc0
 clear hr0 hc0
 have HB := Aside0.mk (Below.refl w.heap.size w)
 have H : ((rootcellarref7_Is.f k l0).bind fun t259 => (if t259 = true then ((rootcellarref2_Put.f k (IntKind.u64.wrap ((l0.length : Int))) 1).bind fun t260 => (rootcellarref7_Put.l0 k l0 t260 0)) else (some ((⟨#[]⟩ : ByteArray), 1)))) = some (r1, r2) := h
 clear h
 replace H := Option.bind_eq_some_iff.mp H
 obtain ⟨t259, A20, H⟩ := H
 replace H : (if t259 = true then ((rootcellarref2_Put.f k (IntKind.u64.wrap ((l0.length : Int))) 1).bind fun t260 => (rootcellarref7_Put.l0 k l0 t260 0)) else (some ((⟨#[]⟩ : ByteArray), 1))) = some (r1, r2) := H
 have A2 := Aside0.mk A20
 clear A20
 by_cases c3 : t259 = true
 ·subst c3
  have H1 : ((rootcellarref2_Put.f k (IntKind.u64.wrap ((l0.length : Int))) 1).bind fun t260 => (rootcellarref7_Put.l0 k l0 t260 0)) = some (r1, r2) := by rw [if_pos rfl] at H; exact H
  clear H
  have H := H1
  clear H1
  replace H := Option.bind_eq_some_iff.mp H
  obtain ⟨t260, A40, H⟩ := H
  replace H : (rootcellarref7_Put.l0 k l0 t260 0) = some (r1, r2) := H
  have A4 := Aside0.mk A40
  clear A40
  have H' := Aside0.mk H
  clear H
  go_enter Tryd.func27, Tryd.ntmps27
  go_wp2_with (first | ((with_reducible refine gate_callee (f := 18) rfl ?_); refine goesL_ (some 10) rfl rfl Tryd.func18 (by kernel_rfl) rfl #[.slice A0 l0.length c0] rfl argA ?_; (with_reducible refine (rootcellarref7_Is.calls k _ _ l0 true _ ?side1 ?side2 A2.out).mono ?_); (case side1 => repeat (first | exact HR0.out | (with_reducible refine Kd.C_alloc ?_ _) | (with_reducible refine Kd.C_drewN ?_ _) | (with_reducible refine Kd.C_drew ?_))); (case side2 => exact HC0.out); rintro e w5 ⟨rfl, hb⟩; refine ⟨_, rfl, ?_⟩; have n0_ := Aside0.mk (below_step belA hb); clear HB; have HB := n0_; clear n0_; (try clear hb); (try clear hb2); (try clear hk); (try clear hi)) | ((with_reducible refine gate_callee (f := 33) rfl ?_); refine goesL_ (some 16) rfl rfl Tryd.func33 (by kernel_rfl) rfl #[.int .u64 (IntKind.u64.wrap ((l0.length : Int))), .int .i64 1] rfl argA ?_; (with_reducible refine (rootcellarref2_Put.calls k (IntKind.u64.wrap ((l0.length : Int))) 1 t260 _ A4.out).mono ?_); rintro e w6 ⟨rfl, hb⟩; refine ⟨_, rfl, ?_⟩; have n0_ := Aside0.mk (below_step belA hb); clear HB; have HB := n0_; clear n0_; (try clear hb); (try clear hb2); (try clear hk); (try clear hi)))
  go_loopg [5, 6] k (fun kq v5 v6 w' => ∃ (x5_1 : ByteArray) (x6_1 : Int), v5 = .string x5_1 ∧ v6 = .int .i64 x6_1 ∧ Aside0 (rootcellarref7_Put.l0 kq l0 x5_1 x6_1 = some (r1, r2)) ∧ Aside0 (kq ≤ k) ∧ Aside0 (Below w.heap.size w w'))
  case atStart => exact ⟨(t260), (0), (by first | rfl | (simp; done) | (simp [*]; done)), (by first | rfl | (simp; done) | (simp [*]; done)), H', ⟨Nat.le_refl _⟩, ⟨by repeat (first | (with_reducible first | exact HB.out | apply below_alloc | apply pw_below_drewN | apply below_drew1) | exact HB.out)⟩⟩
  case round =>
   clear H'
   try clear c1
   try clear c2
   try clear p2
   try clear c3
   obtain ⟨x5_1, x6_1, rfl, rfl, HA, HK1, HB⟩ := hrel
   cases gk with
   | zero => exact absurd HA.out (by simp [rootcellarref7_Put.l0])
   | succ k1 =>
    have H := HA.out
    clear HA
    simp only [rootcellarref7_Put.l0] at H
    by_cases c7 : x6_1 < (l0.length : Int)
    ·rw [if_pos c7] at H
     have c7b0 : decide (x6_1 < (l0.length : Int)) = true := decide_eq_true c7
     clear c7
     by_cases c8 : 0 ≤ x6_1
     ·rw [if_pos c8] at H
      have c8b0 : decide (0 ≤ x6_1) = true := decide_eq_true c8
      clear c8
      replace H := Option.bind_eq_some_iff.mp H
      obtain ⟨t264, A90, H⟩ := H
      replace H : (if x5_1.size + t264.size ≤ 9223372036854775807 then (if (x5_1 ++ t264).size + ((rd_T45 l0 x6_1).f0).size ≤ 9223372036854775807 then ((rootcellarref2_Put.f k1 (IntKind.u64.wrap ((rd_T45 l0 x6_1).f1)) 4).bind fun t265 => (if ((x5_1 ++ t264) ++ ((rd_T45 l0 x6_1).f0)).size + t265.size ≤ 9223372036854775807 then ((rootcellarref2_Put.f k1 (IntKind.u64.wrap ((((rd_T45 l0 x6_1).f2).length : Int))) 1).bind fun t266 => (if (((x5_1 ++ t264) ++ ((rd_T45 l0 x6_1).f0)) ++ t265).size + t266.size ≤ 9223372036854775807 then (rootcellarref7_Put.l1 k1 l0 ((((x5_1 ++ t264) ++ ((rd_T45 l0 x6_1).f0)) ++ t265) ++ t266) x6_1 0 ((rd_T45 l0 x6_1).f0) ((rd_T45 l0 x6_1).f1) ((rd_T45 l0 x6_1).f2)) else (none))) else (none))) else (none)) else (none)) = some (r1, r2) := H
      have A9 := Aside0.mk A90
      clear A90
      by_cases c10 : x5_1.size + t264.size ≤ 9223372036854775807
      ·rw [if_pos c10] at H
       have c10b0 := eq_true c10
       have c10b1 : decide (x5_1.size + t264.size ≤ 9223372036854775807) = true := decide_eq_true c10
       try have c10b2 : (9223372036854775807 < x5_1.size + t264.size) = False := eq_false (Nat.not_lt.2 c10)
       by_cases c11 : (x5_1 ++ t264).size + ((rd_T45 l0 x6_1).f0).size ≤ 9223372036854775807
       ·rw [if_pos c11] at H
        have c11b0 := eq_true c11
        have c11b1 : decide ((x5_1 ++ t264).size + ((rd_T45 l0 x6_1).f0).size ≤ 9223372036854775807) = true := decide_eq_true c11
        try have c11b2 : (9223372036854775807 < (x5_1 ++ t264).size + ((rd_T45 l0 x6_1).f0).size) = False := eq_false (Nat.not_lt.2 c11)
        try (have c11b3 := c11b2; simp only [ByteArray.size_append] at c11b3)
        replace H := Option.bind_eq_some_iff.mp H
        obtain ⟨t265, A120, H⟩ := H
        replace H : (if ((x5_1 ++ t264) ++ ((rd_T45 l0 x6_1).f0)).size + t265.size ≤ 9223372036854775807 then ((rootcellarref2_Put.f k1 (IntKind.u64.wrap ((((rd_T45 l0 x6_1).f2).length : Int))) 1).bind fun t266 => (if (((x5_1 ++ t264) ++ ((rd_T45 l0 x6_1).f0)) ++ t265).size + t266.size ≤ 9223372036854775807 then (rootcellarref7_Put.l1 k1 l0 ((((x5_1 ++ t264) ++ ((rd_T45 l0 x6_1).f0)) ++ t265) ++ t266) x6_1 0 ((rd_T45 l0 x6_1).f0) ((rd_T45 l0 x6_1).f1) ((rd_T45 l0 x6_1).f2)) else (none))) else (none)) = some (r1, r2) := H
        have A12 := Aside0.mk A120
        clear A120
        by_cases c13 : ((x5_1 ++ t264) ++ ((rd_T45 l0 x6_1).f0)).size + t265.size ≤ 9223372036854775807
        ·rw [if_pos c13] at H
         have c13b0 := eq_true c13
         have c13b1 : decide (((x5_1 ++ t264) ++ ((rd_T45 l0 x6_1).f0)).size + t265.size ≤ 9223372036854775807) = true := decide_eq_true c13
         try have c13b2 : (9223372036854775807 < ((x5_1 ++ t264) ++ ((rd_T45 l0 x6_1).f0)).size + t265.size) = False := eq_false (Nat.not_lt.2 c13)
         try (have c13b3 := c13b2; simp only [ByteArray.size_append] at c13b3)
         replace H := Option.bind_eq_some_iff.mp H
         obtain ⟨t266, A140, H⟩ := H
         replace H : (if (((x5_1 ++ t264) ++ ((rd_T45 l0 x6_1).f0)) ++ t265).size + t266.size ≤ 9223372036854775807 then (rootcellarref7_Put.l1 k1 l0 ((((x5_1 ++ t264) ++ ((rd_T45 l0 x6_1).f0)) ++ t265) ++ t266) x6_1 0 ((rd_T45 l0 x6_1).f0) ((rd_T45 l0 x6_1).f1) ((rd_T45 l0 x6_1).f2)) else (none)) = some (r1, r2) := H
         have A14 := Aside0.mk A140
         clear A140
         by_cases c15 : (((x5_1 ++ t264) ++ ((rd_T45 l0 x6_1).f0)) ++ t265).size + t266.size ≤ 9223372036854775807
         ·rw [if_pos c15] at H
          have c15b0 := eq_true c15
          have c15b1 : decide ((((x5_1 ++ t264) ++ ((rd_T45 l0 x6_1).f0)) ++ t265).size + t266.size ≤ 9223372036854775807) = true := decide_eq_true c15
          try have c15b2 : (9223372036854775807 < (((x5_1 ++ t264) ++ ((rd_T45 l0 x6_1).f0)) ++ t265).size + t266.size) = False := eq_false (Nat.not_lt.2 c15)
          try (have c15b3 := c15b2; simp only [ByteArray.size_append] at c15b3)
          have H' := Aside0.mk H
          clear H
          have p262 : 0 ≤ (x6_1 : Int) := of_decide_eq_true asA
          have q262 : x6_1 < (l0.length : Int) := of_decide_eq_true asA
          obtain ⟨ad262, A262_2, c262_2, e262, hx262_0, hx262_1, hx262_2, hl262_2, hi262_2⟩ := at_T45 HR0.out x6_1 p262 q262
          cases e262
          replace hx262_0 := (HB.out.cell (World.block_lt_of_cell? w _ hx262_0)).trans hx262_0
          replace hx262_1 := (HB.out.cell (World.block_lt_of_cell? w _ hx262_1)).trans hx262_1
          replace hx262_2 := (HB.out.cell (World.block_lt_of_cell? w _ hx262_2)).trans hx262_2
          have HR262_2 := Aside0.mk hi262_2
          have HC262_2 := Aside0.mk hl262_2
          clear hi262_2 hl262_2
          replace p262 := eq_true p262
          replace q262 := eq_true q262
          try go_wp2_with (first | ((with_reducible refine gate_dst (N := 7) rfl ?_); refine box_event ?hg (N := 7) ?hd (cs := #[.string (⟨#[]⟩ : ByteArray), .int .i64 0, .slice none 0 0]) (t := 45) ?hr ?_; (case hd => rfl); (case hg => rfl); (case hr => first | (go_simp; done) | (go_simp; rfl)); intro gb263 hg w16 hbox hb; have n0_ := Aside0.mk (below_step belA hb); have n1_ := Aside0.mk (hbox); have n2_ := Aside0.mk ((by rw [hg]; exact (below_size belA) : w.heap.size ≤ gb263)); have n3_ := Aside0.mk ((by rw [hg]; exact (below_size belA) : w.heap.size ≤ gb263)); clear HB; have HB := n0_; have BK263 := n1_; have GW263 := n2_; have GE263 := n3_; clear n0_ n1_ n2_ n3_; clear hb hbox hg; have hcz17_0 : w16.cell? ⟨gb263, 0, none⟩ = some (.string (⟨#[]⟩ : ByteArray)) := (blk_cell BK263.out 0).trans rfl; have hcz17_1 : w16.cell? ⟨gb263, 1, none⟩ = some (.int .i64 0) := (blk_cell BK263.out 1).trans rfl; have hcz17_2 : w16.cell? ⟨gb263, 2, none⟩ = some (.slice none 0 0) := (blk_cell BK263.out 2).trans rfl; have hfz17_0 := blk_frozen BK263.out 0; have hfz17_1 := blk_frozen BK263.out 1; have hfz17_2 := blk_frozen BK263.out 2))
          have n0_ : Aside0 ((((w16.setCell ⟨gb263, 0, none⟩ (.string ((rd_T45 l0 x6_1).f0))).setCell ⟨gb263, 1, none⟩ (.int .i64 ((rd_T45 l0 x6_1).f1))).setCell ⟨gb263, 2, none⟩ (.slice A262_2 ((rd_T45 l0 x6_1).f2).length c262_2)).heap[gb263]? = some (.cells #[.string ((rd_T45 l0 x6_1).f0), .int .i64 ((rd_T45 l0 x6_1).f1), .slice A262_2 ((rd_T45 l0 x6_1).f2).length c262_2] 45 (0, 0))) := ⟨by (with_reducible repeat (first | refine blk_drewN ?_ _ | refine blk_drew ?_ | refine blk_alloc ?_ _)); refine blk_put (cs := #[.string ((rd_T45 l0 x6_1).f0), .int .i64 ((rd_T45 l0 x6_1).f1), .slice none 0 0]) ?_ 2 _ rfl; (with_reducible repeat (first | refine blk_drewN ?_ _ | refine blk_drew ?_ | refine blk_alloc ?_ _)); refine blk_put (cs := #[.string ((rd_T45 l0 x6_1).f0), .int .i64 0, .slice none 0 0]) ?_ 1 _ rfl; (with_reducible repeat (first | refine blk_drewN ?_ _ | refine blk_drew ?_ | refine blk_alloc ?_ _)); refine blk_put (cs := #[.string (⟨#[]⟩ : ByteArray), .int .i64 0, .slice none 0 0]) ?_ 0 _ rfl; (with_reducible repeat (first | refine blk_drewN ?_ _ | refine blk_drew ?_ | refine blk_alloc ?_ _)); exact BK263.out⟩
          have n1_ : Aside0 (Below w.heap.size w (((w16.setCell ⟨gb263, 0, none⟩ (.string ((rd_T45 l0 x6_1).f0))).setCell ⟨gb263, 1, none⟩ (.int .i64 ((rd_T45 l0 x6_1).f1))).setCell ⟨gb263, 2, none⟩ (.slice A262_2 ((rd_T45 l0 x6_1).f2).length c262_2))) := ⟨by repeat (first | (with_reducible first | exact HB.out | apply below_alloc | apply pw_below_drewN | apply below_drew1 | refine below_set ?_ GE263.out) | exact HB.out)⟩
          (try clear BK263)
          (try clear HB)
          generalize (((w16.setCell ⟨gb263, 0, none⟩ (.string ((rd_T45 l0 x6_1).f0))).setCell ⟨gb263, 1, none⟩ (.int .i64 ((rd_T45 l0 x6_1).f1))).setCell ⟨gb263, 2, none⟩ (.slice A262_2 ((rd_T45 l0 x6_1).f2).length c262_2)) = w18 at n0_ n1_ ⊢
          have BK263 := n0_
          have HB := n1_
          clear n0_ n1_
          have n0_ := Aside0.mk (blk_drew BK263.out)
          have n1_ := Aside0.mk (below_drew1 HB.out)
          clear BK263
          clear HB
          have BK263 := n0_
          have HB := n1_
          clear n0_ n1_
          refine start_ (n := 22) (S := fun w' => w'.cell? ⟨gb263, 0, none⟩ = some (.string ((rd_T45 l0 x6_1).f0)) ∧ w'.cell? ⟨gb263, 1, none⟩ = some (.int .i64 ((rd_T45 l0 x6_1).f1)) ∧ w'.cell? ⟨gb263, 2, none⟩ = some (.slice A262_2 ((rd_T45 l0 x6_1).f2).length c262_2)) (ds := []) #[Z,Z,Z,Z,Z,Z,Z,Z,Z,Z,Z,Z,Z,Z,Z,Z,Z,Z,Z,Z,Z,Z] (by kernel_rfl) rfl rfl ⟨(blk_cell BK263.out 0).trans rfl, (blk_cell BK263.out 1).trans rfl, (blk_cell BK263.out 2).trans rfl⟩ (fun hHeld => ?_); refine with_tabW rootcellarref7_Put.tab9 rootcellarref7_Put.bits9 (fun HT_ HW_ => ?_)
          generalize w18.drew = w19 at BK263 HB hHeld ⊢
          refine pure_ (i := 0) (N := some 27) (v := ?_) (a' := ?_) #[Y,Z,Z,Z,Z,Z,Z,Z,Z,Z,Z,Z,Z,Z,Z,Z,Z,Z,Z,Z,Z,Z] rfl rfl (any_of HT_.out (by kernel_rfl)) (fun _ _ _ h => h) (Or.inl ⟨by rfl, ?_⟩) ?_ ?_
          rotate_left
          ·intro w'
           go_simp
           with_reducible rfl
          rotate_left
          ·simp only [Act.put, List.setIfInBounds_toArray, List.set_cons_zero, List.set_cons_succ, i64_w, i32_w]
           rfl
          refine pure_ (i := 1) (N := some 28) (v := ?_) (a' := ?_) #[Y,Y,Z,Z,Z,Z,Z,Z,Z,Z,Z,Z,Z,Z,Z,Z,Z,Z,Z,Z,Z,Z] rfl rfl (any_of HT_.out (by kernel_rfl)) (fun _ _ _ h => h) (Or.inl ⟨by rfl, ?_⟩) ?_ ?_
          rotate_left
          ·intro w'
           go_simp
           with_reducible rfl
          rotate_left
          ·simp only [Act.put, List.setIfInBounds_toArray, List.set_cons_zero, List.set_cons_succ, i64_w, i32_w]
           rfl
          refine pure_ (i := 7) (N := some 34) (v := ?_) (a' := ?_) #[Y,Y,Z,Z,Z,Z,Z,Y,Z,Z,Z,Z,Z,Z,Z,Z,Z,Z,Z,Z,Z,Z] rfl rfl (any_of HT_.out (by kernel_rfl)) (fun _ _ _ h => h) (Or.inl ⟨by rfl, ?_⟩) ?_ ?_
          rotate_left
          ·intro w'
           go_simp
           with_reducible rfl
          rotate_left
          ·simp only [Act.put, List.setIfInBounds_toArray, List.set_cons_zero, List.set_cons_succ, i64_w, i32_w]
           rfl
          refine pure_ (i := 10) (N := some 37) (v := ?_) (a' := ?_) #[Y,Y,Z,Z,Z,Z,Z,Y,Z,Z,Y,Z,Z,Z,Z,Z,Z,Z,Z,Z,Z,Z] rfl rfl (any_of HT_.out (by kernel_rfl)) (fun _ _ _ h => h) (Or.inl ⟨by rfl, ?_⟩) ?_ ?_
          rotate_left
          ·intro w'
           go_simp
           with_reducible rfl
          rotate_left
          ·simp only [Act.put, List.setIfInBounds_toArray, List.set_cons_zero, List.set_cons_succ, i64_w, i32_w]
           rfl
          refine pure_ (i := 15) (N := some 42) (v := ?_) (a' := ?_) #[Y,Y,Z,Z,Z,Z,Z,Y,Z,Z,Y,Z,Z,Z,Z,Y,Z,Z,Z,Z,Z,Z] rfl rfl (any_of HT_.out (by kernel_rfl)) (fun _ _ _ h => h) (Or.inl ⟨by rfl, ?_⟩) ?_ ?_
          rotate_left
          ·intro w'
           go_simp
           with_reducible rfl
          rotate_left
          ·simp only [Act.put, List.setIfInBounds_toArray, List.set_cons_zero, List.set_cons_succ, i64_w, i32_w]
           rfl
          refine take_ (i := 2) (N := some 29) (v := ?_) (a' := ?_) #[Y,Y,Y,Z,Z,Z,Z,Y,Z,Z,Y,Z,Z,Z,Z,Y,Z,Z,Z,Z,Z,Z] rfl rfl (take_ofW HT_.out HW_.out (by kernel_rfl)) (fun _ _ _ h => h) (Or.inl ⟨by rfl, ?_⟩) hHeld ?_ ?_
          rotate_left
          ·rintro w' ⟨s0, s1, s2⟩
           go_simp
           with_reducible rfl
          rotate_left
          ·simp only [Act.put, List.setIfInBounds_toArray, List.set_cons_zero, List.set_cons_succ, i64_w, i32_w]
           rfl
          refine pure_ (i := 3) (N := some 30) (v := ?_) (a' := ?_) #[Y,Y,Y,Y,Z,Z,Z,Y,Z,Z,Y,Z,Z,Z,Z,Y,Z,Z,Z,Z,Z,Z] rfl rfl (any_of HT_.out (by kernel_rfl)) (fun _ _ _ h => h) (Or.inl ⟨by rfl, ?_⟩) ?_ ?_
          rotate_left
          ·intro w'
           go_simp
           with_reducible rfl
          rotate_left
          ·simp only [Act.put, List.setIfInBounds_toArray, List.set_cons_zero, List.set_cons_succ, i64_w, i32_w]
           rfl
          refine pure_ (i := 4) (N := some 31) (v := ?_) (a' := ?_) #[Y,Y,Y,Y,Y,Z,Z,Y,Z,Z,Y,Z,Z,Z,Z,Y,Z,Z,Z,Z,Z,Z] rfl rfl (any_of HT_.out (by kernel_rfl)) (fun _ _ _ h => h) (Or.inl ⟨by rfl, ?_⟩) ?_ ?_
          rotate_left
          ·intro w'
           go_simp
           with_reducible rfl
          rotate_left
          ·simp only [Act.put, List.setIfInBounds_toArray, List.set_cons_zero, List.set_cons_succ, i64_w, i32_w]
           rfl
          refine take_ (i := 8) (N := some 35) (v := ?_) (a' := ?_) #[Y,Y,Y,Y,Y,Z,Z,Y,Y,Z,Y,Z,Z,Z,Z,Y,Z,Z,Z,Z,Z,Z] rfl rfl (take_ofW HT_.out HW_.out (by kernel_rfl)) (fun _ _ _ h => h) (Or.inl ⟨by rfl, ?_⟩) hHeld ?_ ?_
          rotate_left
          ·rintro w' ⟨s0, s1, s2⟩
           go_simp
           with_reducible rfl
          rotate_left
          ·simp only [Act.put, List.setIfInBounds_toArray, List.set_cons_zero, List.set_cons_succ, i64_w, i32_w]
           rfl
          refine take_ (i := 11) (N := some 38) (v := ?_) (a' := ?_) #[Y,Y,Y,Y,Y,Z,Z,Y,Y,Z,Y,Y,Z,Z,Z,Y,Z,Z,Z,Z,Z,Z] rfl rfl (take_ofW HT_.out HW_.out (by kernel_rfl)) (fun _ _ _ h => h) (Or.inl ⟨by rfl, ?_⟩) hHeld ?_ ?_
          rotate_left
          ·rintro w' ⟨s0, s1, s2⟩
           go_simp
           with_reducible rfl
          rotate_left
          ·simp only [Act.put, List.setIfInBounds_toArray, List.set_cons_zero, List.set_cons_succ, i64_w, i32_w]
           rfl
          refine pure_ (i := 12) (N := some 39) (v := ?_) (a' := ?_) #[Y,Y,Y,Y,Y,Z,Z,Y,Y,Z,Y,Y,Y,Z,Z,Y,Z,Z,Z,Z,Z,Z] rfl rfl (any_of HT_.out (by kernel_rfl)) (fun _ _ _ h => h) (Or.inl ⟨by rfl, ?_⟩) ?_ ?_
          rotate_left
          ·intro w'
           go_simp
           with_reducible rfl
          rotate_left
          ·simp only [Act.put, List.setIfInBounds_toArray, List.set_cons_zero, List.set_cons_succ, i64_w, i32_w]
           rfl
          refine take_ (i := 16) (N := some 43) (v := ?_) (a' := ?_) #[Y,Y,Y,Y,Y,Z,Z,Y,Y,Z,Y,Y,Y,Z,Z,Y,Y,Z,Z,Z,Z,Z] rfl rfl (take_ofW HT_.out HW_.out (by kernel_rfl)) (fun _ _ _ h => h) (Or.inl ⟨by rfl, ?_⟩) hHeld ?_ ?_
          rotate_left
          ·rintro w' ⟨s0, s1, s2⟩
           go_simp
           with_reducible rfl
          rotate_left
          ·simp only [Act.put, List.setIfInBounds_toArray, List.set_cons_zero, List.set_cons_succ, i64_w, i32_w]
           rfl
          refine pure_ (i := 17) (N := some 44) (v := ?_) (a' := ?_) #[Y,Y,Y,Y,Y,Z,Z,Y,Y,Z,Y,Y,Y,Z,Z,Y,Y,Y,Z,Z,Z,Z] rfl rfl (any_of HT_.out (by kernel_rfl)) (fun _ _ _ h => h) (Or.inl ⟨by rfl, ?_⟩) ?_ ?_
          rotate_left
          ·intro w'
           go_simp
           with_reducible rfl
          rotate_left
          ·simp only [Act.put, List.setIfInBounds_toArray, List.set_cons_zero, List.set_cons_succ, i64_w, i32_w]
           rfl
          refine pure_ (i := 18) (N := some 45) (v := ?_) (a' := ?_) #[Y,Y,Y,Y,Y,Z,Z,Y,Y,Z,Y,Y,Y,Z,Z,Y,Y,Y,Y,Z,Z,Z] rfl rfl (any_of HT_.out (by kernel_rfl)) (fun _ _ _ h => h) (Or.inl ⟨by rfl, ?_⟩) ?_ ?_
          rotate_left
          ·intro w'
           go_simp
           with_reducible rfl
          rotate_left
          ·simp only [Act.put, List.setIfInBounds_toArray, List.set_cons_zero, List.set_cons_succ, i64_w, i32_w]
           rfl
          refine one_ (i := 5) (N := some 32) #[Y,Y,Y,Y,Y,Y,Z,Y,Y,Z,Y,Y,Y,Z,Z,Y,Y,Y,Y,Z,Z,Z] rfl rfl (one_of HT_.out (by kernel_rfl)) (by decide) (fun K hK => ?_)
          refine goes_ Tryd.func33 (by kernel_rfl) rfl #[.int .u64 (IntKind.u64.wrap ((((rd_T45 l0 x6_1).f0).size : Int))), .int .i64 1] (by rfl) rfl rfl argA ?_
          with_reducible refine (rootcellarref2_Put.calls k1 (IntKind.u64.wrap ((((rd_T45 l0 x6_1).f0).size : Int))) 1 t264 _ A9.out).mono ?_
          rintro e w20 ⟨rfl, hb⟩
          refine ⟨_, rfl, ?_⟩
          have n0_ := Aside0.mk (blk_below (g := gb263) (o := .cells #[.string ((rd_T45 l0 x6_1).f0), .int .i64 ((rd_T45 l0 x6_1).f1), .slice A262_2 ((rd_T45 l0 x6_1).f2).length c262_2] 45 (0, 0)) (blkN BK263.out) hb)
          have n1_ := Aside0.mk (below_step (by repeat (first | (with_reducible first | exact HB.out | apply below_alloc | apply pw_below_drewN | apply below_drew1 | refine below_set ?_ GE263.out) | exact HB.out)) hb)
          clear BK263
          clear HB
          have BK263 := n0_
          have HB := n1_
          clear n0_ n1_
          (try clear hb)
          (try clear hb2)
          (try clear hk)
          (try clear hi)
          refine hK.out _ _ ⟨(blk_cell BK263.out 0).trans rfl, (blk_cell BK263.out 1).trans rfl, (blk_cell BK263.out 2).trans rfl⟩ (fun hHeld => ?_)
          clear hK K
          refine norm_ (a' := ?_) ?_ ?_
          rotate_left
          ·show Act.put _ (some 32) _ = _
           simp only [Act.put, List.setIfInBounds_toArray, List.set_cons_zero, List.set_cons_succ, i64_w, i32_w]
           rfl
          refine pure_ (i := 6) (N := some 33) (v := ?_) (a' := ?_) #[Y,Y,Y,Y,Y,Y,Y,Y,Y,Z,Y,Y,Y,Z,Z,Y,Y,Y,Y,Z,Z,Z] rfl rfl (any_of HT_.out (by kernel_rfl)) (fun _ _ _ h => h) (Or.inl ⟨by rfl, ?_⟩) ?_ ?_
          rotate_left
          ·intro w'
           go_simp
           with_reducible rfl
          rotate_left
          ·simp only [Act.put, List.setIfInBounds_toArray, List.set_cons_zero, List.set_cons_succ, i64_w, i32_w]
           rfl
          refine pure_ (i := 9) (N := some 36) (v := ?_) (a' := ?_) #[Y,Y,Y,Y,Y,Y,Y,Y,Y,Y,Y,Y,Y,Z,Z,Y,Y,Y,Y,Z,Z,Z] rfl rfl (any_of HT_.out (by kernel_rfl)) (fun _ _ _ h => h) (Or.inl ⟨by rfl, ?_⟩) ?_ ?_
          rotate_left
          ·intro w'
           go_simp
           with_reducible rfl
          rotate_left
          ·simp only [Act.put, List.setIfInBounds_toArray, List.set_cons_zero, List.set_cons_succ, i64_w, i32_w]
           rfl
          refine one_ (i := 13) (N := some 40) #[Y,Y,Y,Y,Y,Y,Y,Y,Y,Y,Y,Y,Y,Y,Z,Y,Y,Y,Y,Z,Z,Z] rfl rfl (one_of HT_.out (by kernel_rfl)) (by decide) (fun K hK => ?_)
          refine goes_ Tryd.func33 (by kernel_rfl) rfl #[.int .u64 (IntKind.u64.wrap ((rd_T45 l0 x6_1).f1)), .int .i64 4] (by rfl) rfl rfl argA ?_
          with_reducible refine (rootcellarref2_Put.calls k1 (IntKind.u64.wrap ((rd_T45 l0 x6_1).f1)) 4 t265 _ A12.out).mono ?_
          rintro e w21 ⟨rfl, hb⟩
          refine ⟨_, rfl, ?_⟩
          have n0_ := Aside0.mk (blk_below (g := gb263) (o := .cells #[.string ((rd_T45 l0 x6_1).f0), .int .i64 ((rd_T45 l0 x6_1).f1), .slice A262_2 ((rd_T45 l0 x6_1).f2).length c262_2] 45 (0, 0)) (blkN BK263.out) hb)
          have n1_ := Aside0.mk (below_step (by repeat (first | (with_reducible first | exact HB.out | apply below_alloc | apply pw_below_drewN | apply below_drew1 | refine below_set ?_ GE263.out) | exact HB.out)) hb)
          clear BK263
          clear HB
          have BK263 := n0_
          have HB := n1_
          clear n0_ n1_
          (try clear hb)
          (try clear hb2)
          (try clear hk)
          (try clear hi)
          refine hK.out _ _ ⟨(blk_cell BK263.out 0).trans rfl, (blk_cell BK263.out 1).trans rfl, (blk_cell BK263.out 2).trans rfl⟩ (fun hHeld => ?_)
          clear hK K
          refine norm_ (a' := ?_) ?_ ?_
          rotate_left
          ·show Act.put _ (some 40) _ = _
           simp only [Act.put, List.setIfInBounds_toArray, List.set_cons_zero, List.set_cons_succ, i64_w, i32_w]
           rfl
          refine pure_ (i := 14) (N := some 41) (v := ?_) (a' := ?_) #[Y,Y,Y,Y,Y,Y,Y,Y,Y,Y,Y,Y,Y,Y,Y,Y,Y,Y,Y,Z,Z,Z] rfl rfl (any_of HT_.out (by kernel_rfl)) (fun _ _ _ h => h) (Or.inl ⟨by rfl, ?_⟩) ?_ ?_
          rotate_left
          ·intro w'
           go_simp
           with_reducible rfl
          rotate_left
          ·simp only [Act.put, List.setIfInBounds_toArray, List.set_cons_zero, List.set_cons_succ, i64_w, i32_w]
           rfl
          refine one_ (i := 19) (N := some 46) #[Y,Y,Y,Y,Y,Y,Y,Y,Y,Y,Y,Y,Y,Y,Y,Y,Y,Y,Y,Y,Z,Z] rfl rfl (one_of HT_.out (by kernel_rfl)) (by decide) (fun K hK => ?_)
          refine goes_ Tryd.func33 (by kernel_rfl) rfl #[.int .u64 (IntKind.u64.wrap ((((rd_T45 l0 x6_1).f2).length : Int))), .int .i64 1] (by rfl) rfl rfl argA ?_
          with_reducible refine (rootcellarref2_Put.calls k1 (IntKind.u64.wrap ((((rd_T45 l0 x6_1).f2).length : Int))) 1 t266 _ A14.out).mono ?_
          rintro e w22 ⟨rfl, hb⟩
          refine ⟨_, rfl, ?_⟩
          have n0_ := Aside0.mk (blk_below (g := gb263) (o := .cells #[.string ((rd_T45 l0 x6_1).f0), .int .i64 ((rd_T45 l0 x6_1).f1), .slice A262_2 ((rd_T45 l0 x6_1).f2).length c262_2] 45 (0, 0)) (blkN BK263.out) hb)
          have n1_ := Aside0.mk (below_step (by repeat (first | (with_reducible first | exact HB.out | apply below_alloc | apply pw_below_drewN | apply below_drew1 | refine below_set ?_ GE263.out) | exact HB.out)) hb)
          clear BK263
          clear HB
          have BK263 := n0_
          have HB := n1_
          clear n0_ n1_
          (try clear hb)
          (try clear hb2)
          (try clear hk)
          (try clear hi)
          refine hK.out _ _ ⟨(blk_cell BK263.out 0).trans rfl, (blk_cell BK263.out 1).trans rfl, (blk_cell BK263.out 2).trans rfl⟩ (fun hHeld => ?_)
          clear hK K
          refine norm_ (a' := ?_) ?_ ?_
          rotate_left
          ·show Act.put _ (some 46) _ = _
           simp only [Act.put, List.setIfInBounds_toArray, List.set_cons_zero, List.set_cons_succ, i64_w, i32_w]
           rfl
          refine pure_ (i := 20) (N := some 47) (v := ?_) (a' := ?_) #[Y,Y,Y,Y,Y,Y,Y,Y,Y,Y,Y,Y,Y,Y,Y,Y,Y,Y,Y,Y,Y,Z] rfl rfl (any_of HT_.out (by kernel_rfl)) (fun _ _ _ h => h) (Or.inl ⟨by rfl, ?_⟩) ?_ ?_
          rotate_left
          ·intro w'
           go_simp
           with_reducible rfl
          rotate_left
          ·simp only [Act.put, List.setIfInBounds_toArray, List.set_cons_zero, List.set_cons_succ, i64_w, i32_w]
           rfl
          refine pure_ (i := 21) (N := some 5) (v := ?_) (a' := ?_) #[Y,Y,Y,Y,Y,Y,Y,Y,Y,Y,Y,Y,Y,Y,Y,Y,Y,Y,Y,Y,Y,Y] rfl rfl (any_of HT_.out (by kernel_rfl)) (fun _ _ _ h => h) (Or.inl ⟨by rfl, ?_⟩) ?_ ?_
          rotate_left
          ·intro w'
           go_simp
           with_reducible rfl
          rotate_left
          ·simp only [Act.put, List.setIfInBounds_toArray, List.set_cons_zero, List.set_cons_succ, i64_w, i32_w]
           rfl
          refine done_ (done_of HT_.out (by kernel_rfl)) ?_
          try go_wp2
          go_loopg [5, 8] k1 (fun kq v5 v8 w' => ∃ (x5_2 : ByteArray) (x8_2 : Int), v5 = .string x5_2 ∧ v8 = .int .i64 x8_2 ∧ Aside0 (rootcellarref7_Put.l1 kq l0 x5_2 x6_1 x8_2 ((rd_T45 l0 x6_1).f0) ((rd_T45 l0 x6_1).f1) ((rd_T45 l0 x6_1).f2) = some (r1, r2)) ∧ Aside0 (kq ≤ k1) ∧ Aside0 (w'.heap[gb263]? = some (.cells #[.string ((rd_T45 l0 x6_1).f0), .int .i64 ((rd_T45 l0 x6_1).f1), (.slice A262_2 ((rd_T45 l0 x6_1).f2).length c262_2)] 45 (0, 0))) ∧ Aside0 (Below w.heap.size w w'))
          case atStart => exact ⟨((((x5_1 ++ t264) ++ ((rd_T45 l0 x6_1).f0)) ++ t265) ++ t266), (0), (by first | rfl | (simp; done) | (simp [*]; done)), (by first | rfl | (simp; done) | (simp [*]; done)), H', ⟨Nat.le_refl _⟩, ⟨by (with_reducible repeat (first | refine blk_drewN ?_ _ | refine blk_drew ?_ | refine blk_alloc ?_ _)); exact BK263.out⟩, ⟨by repeat (first | (with_reducible first | exact HB.out | apply below_alloc | apply pw_below_drewN | apply below_drew1 | refine below_set ?_ GE263.out) | exact HB.out)⟩⟩
          case round =>
           clear H'
           try clear c1
           try clear c2
           try clear p2
           try clear q2
           try clear hx2
           try clear c3
           try clear c7
           try clear c7b0
           try clear c8
           try clear c8b0
           try clear c10
           try clear c10b0
           try clear c10b1
           try clear c10b2
           try clear c11
           try clear c11b0
           try clear c11b1
           try clear c11b2
           try clear c13
           try clear c13b0
           try clear c13b1
           try clear c13b2
           try clear c15
           try clear c15b0
           try clear c15b1
           try clear c15b2
           try clear c18
           try clear hcz17_0
           try clear hcz17_1
           try clear hcz17_2
           try clear hfz17_0
           try clear hfz17_1
           try clear hfz17_2
           try clear hx262_0
           try clear hx262_1
           try clear hx262_2
           try clear p2
           try clear p262
           try clear q262
           obtain ⟨x5_2, x8_2, rfl, rfl, HA, HK2, BK263, HB⟩ := hrel
           cases gk with
           | zero => exact absurd HA.out (by simp [rootcellarref7_Put.l1])
           | succ k2 =>
            have H := HA.out
            clear HA
            simp only [rootcellarref7_Put.l1] at H
            by_cases c23 : x8_2 < (((rd_T45 l0 x6_1).f2).length : Int)
            ·rw [if_pos c23] at H
             have c23b0 : decide (x8_2 < (((rd_T45 l0 x6_1).f2).length : Int)) = true := decide_eq_true c23
             clear c23
             by_cases c24 : 0 ≤ x8_2
             ·rw [if_pos c24] at H
              have c24b0 : decide (0 ≤ x8_2) = true := decide_eq_true c24
              clear c24
              replace H := Option.bind_eq_some_iff.mp H
              obtain ⟨t268, A250, H⟩ := H
              replace H : (if x5_2.size + t268.size ≤ 9223372036854775807 then ((rootcellarref2_Put.f k2 (IntKind.u64.wrap ((rd_T64 ((rd_T45 l0 x6_1).f2) x8_2).f1)) 2).bind fun t270 => (if (x5_2 ++ t268).size + t270.size ≤ 9223372036854775807 then (rootcellarref7_Put.l1 k2 l0 ((x5_2 ++ t268) ++ t270) x6_1 (wrap64 (x8_2 + 1)) ((rd_T45 l0 x6_1).f0) ((rd_T45 l0 x6_1).f1) ((rd_T45 l0 x6_1).f2)) else (none))) else (none)) = some (r1, r2) := H
              have A25 := Aside0.mk A250
              clear A250
              by_cases c26 : x5_2.size + t268.size ≤ 9223372036854775807
              ·rw [if_pos c26] at H
               have c26b0 := eq_true c26
               have c26b1 : decide (x5_2.size + t268.size ≤ 9223372036854775807) = true := decide_eq_true c26
               try have c26b2 : (9223372036854775807 < x5_2.size + t268.size) = False := eq_false (Nat.not_lt.2 c26)
               replace H := Option.bind_eq_some_iff.mp H
               obtain ⟨t270, A270, H⟩ := H
               replace H : (if (x5_2 ++ t268).size + t270.size ≤ 9223372036854775807 then (rootcellarref7_Put.l1 k2 l0 ((x5_2 ++ t268) ++ t270) x6_1 (wrap64 (x8_2 + 1)) ((rd_T45 l0 x6_1).f0) ((rd_T45 l0 x6_1).f1) ((rd_T45 l0 x6_1).f2)) else (none)) = some (r1, r2) := H
               have A27 := Aside0.mk A270
               clear A270
               by_cases c28 : (x5_2 ++ t268).size + t270.size ≤ 9223372036854775807
               ·rw [if_pos c28] at H
                have c28b0 := eq_true c28
                have c28b1 : decide ((x5_2 ++ t268).size + t270.size ≤ 9223372036854775807) = true := decide_eq_true c28
                try have c28b2 : (9223372036854775807 < (x5_2 ++ t268).size + t270.size) = False := eq_false (Nat.not_lt.2 c28)
                try (have c28b3 := c28b2; simp only [ByteArray.size_append] at c28b3)
                have H' := Aside0.mk H
                clear H
                have hcz29_0 : wr.cell? ⟨gb263, 0, none⟩ = some (.string ((rd_T45 l0 x6_1).f0)) := (blk_cell BK263.out 0).trans rfl
                have hcz29_1 : wr.cell? ⟨gb263, 1, none⟩ = some (.int .i64 ((rd_T45 l0 x6_1).f1)) := (blk_cell BK263.out 1).trans rfl
                have hcz29_2 : wr.cell? ⟨gb263, 2, none⟩ = some (.slice A262_2 ((rd_T45 l0 x6_1).f2).length c262_2) := (blk_cell BK263.out 2).trans rfl
                have hfz29_0 := blk_frozen BK263.out 0
                have hfz29_1 := blk_frozen BK263.out 1
                have hfz29_2 := blk_frozen BK263.out 2
                try go_wp2
                have n0_ := Aside0.mk (blk_drew BK263.out)
                have n1_ := Aside0.mk (below_drew1 HB.out)
                clear BK263
                clear HB
                have BK263 := n0_
                have HB := n1_
                clear n0_ n1_
                have p267 : 0 ≤ (x8_2 : Int) := of_decide_eq_true asA
                have q267 : x8_2 < (((rd_T45 l0 x6_1).f2).length : Int) := of_decide_eq_true asA
                obtain ⟨ad267, e267, hx267_0, hx267_1⟩ := at_T64 HR262_2.out x8_2 p267 q267
                have hw267_1 := hx267_1
                have hw267_0 := hx267_0
                cases e267
                replace hx267_0 := (HB.out.cell (World.block_lt_of_cell? w _ hx267_0)).trans hx267_0
                replace hx267_1 := (HB.out.cell (World.block_lt_of_cell? w _ hx267_1)).trans hx267_1
                replace p267 := eq_true p267
                replace q267 := eq_true q267
                have p269 : 0 ≤ (x8_2 : Int) := of_decide_eq_true asA
                have q269 : x8_2 < (((rd_T45 l0 x6_1).f2).length : Int) := of_decide_eq_true asA
                obtain ⟨ad269, e269, hx269_0, hx269_1⟩ := at_T64 HR262_2.out x8_2 p269 q269
                have hw269_1 := hx269_1
                have hw269_0 := hx269_0
                obtain rfl : ad267 = ad269 := (by injection e269)
                replace hx269_0 := (HB.out.cell (World.block_lt_of_cell? w _ hx269_0)).trans hx269_0
                replace hx269_1 := (HB.out.cell (World.block_lt_of_cell? w _ hx269_1)).trans hx269_1
                replace p269 := eq_true p269
                replace q269 := eq_true q269
                refine start_ (n := 20) (S := fun w' => w'.cell? ⟨gb263, 0, none⟩ = some (.string ((rd_T45 l0 x6_1).f0)) ∧ w'.cell? ⟨gb263, 1, none⟩ = some (.int .i64 ((rd_T45 l0 x6_1).f1)) ∧ w'.cell? ⟨gb263, 2, none⟩ = some (.slice (some ad267) ((rd_T45 l0 x6_1).f2).length c262_2) ∧ w'.cell? (ad267.add ((x8_2).toNat * 2)) = some (.int .i64 ((rd_T64 ((rd_T45 l0 x6_1).f2) x8_2).f0)) ∧ w'.cell? ⟨(ad267.add ((x8_2).toNat * 2)).block, (ad267.add ((x8_2).toNat * 2)).off + 1, none⟩ = some (.int .i64 ((rd_T64 ((rd_T45 l0 x6_1).f2) x8_2).f1)) ∧ w'.cell? (ad267.add ((x8_2).toNat * 2)) = some (.int .i64 ((rd_T64 ((rd_T45 l0 x6_1).f2) x8_2).f0)) ∧ w'.cell? ⟨(ad267.add ((x8_2).toNat * 2)).block, (ad267.add ((x8_2).toNat * 2)).off + 1, none⟩ = some (.int .i64 ((rd_T64 ((rd_T45 l0 x6_1).f2) x8_2).f1))) (ds := []) #[Z,Z,Z,Z,Z,Z,Z,Z,Z,Z,Z,Z,Z,Z,Z,Z,Z,Z,Z,Z] (by kernel_rfl) rfl rfl ⟨(blk_cell BK263.out 0).trans rfl, (blk_cell BK263.out 1).trans rfl, (blk_cell BK263.out 2).trans rfl, ((HB.out.cell (World.block_lt_of_cell? w _ hw267_0)).trans hw267_0), ((HB.out.cell (World.block_lt_of_cell? w _ hw267_1)).trans hw267_1), ((HB.out.cell (World.block_lt_of_cell? w _ hw269_0)).trans hw269_0), ((HB.out.cell (World.block_lt_of_cell? w _ hw269_1)).trans hw269_1)⟩ (fun hHeld => ?_); refine with_tabW rootcellarref7_Put.tab13 rootcellarref7_Put.bits13 (fun HT_ HW_ => ?_)
                generalize wr.drew = w30 at BK263 HB hx267_0 hx267_1 hx269_0 hx269_1 hHeld ⊢
                refine pure_ (i := 0) (N := some 55) (v := ?_) (a' := ?_) #[Y,Z,Z,Z,Z,Z,Z,Z,Z,Z,Z,Z,Z,Z,Z,Z,Z,Z,Z,Z] rfl rfl (any_of HT_.out (by kernel_rfl)) (fun _ _ _ h => h) (Or.inl ⟨by rfl, ?_⟩) ?_ ?_
                rotate_left
                ·intro w'
                 go_simp
                 with_reducible rfl
                rotate_left
                ·simp only [Act.put, List.setIfInBounds_toArray, List.set_cons_zero, List.set_cons_succ, i64_w, i32_w]
                 rfl
                refine pure_ (i := 1) (N := some 56) (v := ?_) (a' := ?_) #[Y,Y,Z,Z,Z,Z,Z,Z,Z,Z,Z,Z,Z,Z,Z,Z,Z,Z,Z,Z] rfl rfl (any_of HT_.out (by kernel_rfl)) (fun _ _ _ h => h) (Or.inl ⟨by rfl, ?_⟩) ?_ ?_
                rotate_left
                ·intro w'
                 go_simp
                 with_reducible rfl
                rotate_left
                ·simp only [Act.put, List.setIfInBounds_toArray, List.set_cons_zero, List.set_cons_succ, i64_w, i32_w]
                 rfl
                refine pure_ (i := 3) (N := some 58) (v := ?_) (a' := ?_) #[Y,Y,Z,Y,Z,Z,Z,Z,Z,Z,Z,Z,Z,Z,Z,Z,Z,Z,Z,Z] rfl rfl (any_of HT_.out (by kernel_rfl)) (fun _ _ _ h => h) (Or.inl ⟨by rfl, ?_⟩) ?_ ?_
                rotate_left
                ·intro w'
                 go_simp
                 with_reducible rfl
                rotate_left
                ·simp only [Act.put, List.setIfInBounds_toArray, List.set_cons_zero, List.set_cons_succ, i64_w, i32_w]
                 rfl
                refine pure_ (i := 10) (N := some 65) (v := ?_) (a' := ?_) #[Y,Y,Z,Y,Z,Z,Z,Z,Z,Z,Y,Z,Z,Z,Z,Z,Z,Z,Z,Z] rfl rfl (any_of HT_.out (by kernel_rfl)) (fun _ _ _ h => h) (Or.inl ⟨by rfl, ?_⟩) ?_ ?_
                rotate_left
                ·intro w'
                 go_simp
                 with_reducible rfl
                rotate_left
                ·simp only [Act.put, List.setIfInBounds_toArray, List.set_cons_zero, List.set_cons_succ, i64_w, i32_w]
                 rfl
                refine pure_ (i := 12) (N := some 67) (v := ?_) (a' := ?_) #[Y,Y,Z,Y,Z,Z,Z,Z,Z,Z,Y,Z,Y,Z,Z,Z,Z,Z,Z,Z] rfl rfl (any_of HT_.out (by kernel_rfl)) (fun _ _ _ h => h) (Or.inl ⟨by rfl, ?_⟩) ?_ ?_
                rotate_left
                ·intro w'
                 go_simp
                 with_reducible rfl
                rotate_left
                ·simp only [Act.put, List.setIfInBounds_toArray, List.set_cons_zero, List.set_cons_succ, i64_w, i32_w]
                 rfl
                refine take_ (i := 2) (N := some 57) (v := ?_) (a' := ?_) #[Y,Y,Y,Y,Z,Z,Z,Z,Z,Z,Y,Z,Y,Z,Z,Z,Z,Z,Z,Z] rfl rfl (take_ofW HT_.out HW_.out (by kernel_rfl)) (fun _ _ _ h => h) (Or.inl ⟨by rfl, ?_⟩) hHeld ?_ ?_
                rotate_left
                ·rintro w' ⟨s0, s1, s2, s3, s4, s5, s6⟩
                 go_simp
                 with_reducible rfl
                rotate_left
                ·simp only [Act.put, List.setIfInBounds_toArray, List.set_cons_zero, List.set_cons_succ, i64_w, i32_w]
                 rfl
                refine pure_ (i := 4) (N := some 59) (v := ?_) (a' := ?_) #[Y,Y,Y,Y,Y,Z,Z,Z,Z,Z,Y,Z,Y,Z,Z,Z,Z,Z,Z,Z] rfl rfl (any_of HT_.out (by kernel_rfl)) (fun _ _ _ h => h) (Or.inl ⟨by rfl, ?_⟩) ?_ ?_
                rotate_left
                ·intro w'
                 go_simp
                 with_reducible rfl
                rotate_left
                ·simp only [Act.put, List.setIfInBounds_toArray, List.set_cons_zero, List.set_cons_succ, i64_w, i32_w]
                 rfl
                refine pure_ (i := 5) (N := some 60) (v := ?_) (a' := ?_) #[Y,Y,Y,Y,Y,Y,Z,Z,Z,Z,Y,Z,Y,Z,Z,Z,Z,Z,Z,Z] rfl rfl (any_of HT_.out (by kernel_rfl)) (fun _ _ _ h => h) (Or.inl ⟨by rfl, ?_⟩) ?_ ?_
                rotate_left
                ·intro w'
                 go_simp
                 with_reducible rfl
                rotate_left
                ·simp only [Act.put, List.setIfInBounds_toArray, List.set_cons_zero, List.set_cons_succ, i64_w, i32_w]
                 rfl
                refine take_ (i := 6) (N := some 61) (v := ?_) (a' := ?_) #[Y,Y,Y,Y,Y,Y,Y,Z,Z,Z,Y,Z,Y,Z,Z,Z,Z,Z,Z,Z] rfl rfl (take_ofW HT_.out HW_.out (by kernel_rfl)) (fun _ _ _ h => h) (Or.inl ⟨by rfl, ?_⟩) hHeld ?_ ?_
                rotate_left
                ·rintro w' ⟨s0, s1, s2, s3, s4, s5, s6⟩
                 go_simp
                 with_reducible rfl
                rotate_left
                ·simp only [Act.put, List.setIfInBounds_toArray, List.set_cons_zero, List.set_cons_succ, i64_w, i32_w]
                 rfl
                refine pure_ (i := 7) (N := some 62) (v := ?_) (a' := ?_) #[Y,Y,Y,Y,Y,Y,Y,Y,Z,Z,Y,Z,Y,Z,Z,Z,Z,Z,Z,Z] rfl rfl (any_of HT_.out (by kernel_rfl)) (fun _ _ _ h => h) (Or.inl ⟨by rfl, ?_⟩) ?_ ?_
                rotate_left
                ·intro w'
                 go_simp
                 with_reducible rfl
                rotate_left
                ·simp only [Act.put, List.setIfInBounds_toArray, List.set_cons_zero, List.set_cons_succ, i64_w, i32_w]
                 rfl
                refine take_ (i := 11) (N := some 66) (v := ?_) (a' := ?_) #[Y,Y,Y,Y,Y,Y,Y,Y,Z,Z,Y,Y,Y,Z,Z,Z,Z,Z,Z,Z] rfl rfl (take_ofW HT_.out HW_.out (by kernel_rfl)) (fun _ _ _ h => h) (Or.inl ⟨by rfl, ?_⟩) hHeld ?_ ?_
                rotate_left
                ·rintro w' ⟨s0, s1, s2, s3, s4, s5, s6⟩
                 go_simp
                 with_reducible rfl
                rotate_left
                ·simp only [Act.put, List.setIfInBounds_toArray, List.set_cons_zero, List.set_cons_succ, i64_w, i32_w]
                 rfl
                refine pure_ (i := 13) (N := some 68) (v := ?_) (a' := ?_) #[Y,Y,Y,Y,Y,Y,Y,Y,Z,Z,Y,Y,Y,Y,Z,Z,Z,Z,Z,Z] rfl rfl (any_of HT_.out (by kernel_rfl)) (fun _ _ _ h => h) (Or.inl ⟨by rfl, ?_⟩) ?_ ?_
                rotate_left
                ·intro w'
                 go_simp
                 with_reducible rfl
                rotate_left
                ·simp only [Act.put, List.setIfInBounds_toArray, List.set_cons_zero, List.set_cons_succ, i64_w, i32_w]
                 rfl
                refine pure_ (i := 14) (N := some 69) (v := ?_) (a' := ?_) #[Y,Y,Y,Y,Y,Y,Y,Y,Z,Z,Y,Y,Y,Y,Y,Z,Z,Z,Z,Z] rfl rfl (any_of HT_.out (by kernel_rfl)) (fun _ _ _ h => h) (Or.inl ⟨by rfl, ?_⟩) ?_ ?_
                rotate_left
                ·intro w'
                 go_simp
                 with_reducible rfl
                rotate_left
                ·simp only [Act.put, List.setIfInBounds_toArray, List.set_cons_zero, List.set_cons_succ, i64_w, i32_w]
                 rfl
                refine take_ (i := 15) (N := some 70) (v := ?_) (a' := ?_) #[Y,Y,Y,Y,Y,Y,Y,Y,Z,Z,Y,Y,Y,Y,Y,Y,Z,Z,Z,Z] rfl rfl (take_ofW HT_.out HW_.out (by kernel_rfl)) (fun _ _ _ h => h) (Or.inl ⟨by rfl, ?_⟩) hHeld ?_ ?_
                rotate_left
                ·rintro w' ⟨s0, s1, s2, s3, s4, s5, s6⟩
                 go_simp
                 with_reducible rfl
                rotate_left
                ·simp only [Act.put, List.setIfInBounds_toArray, List.set_cons_zero, List.set_cons_succ, i64_w, i32_w]
                 rfl
                refine pure_ (i := 16) (N := some 71) (v := ?_) (a' := ?_) #[Y,Y,Y,Y,Y,Y,Y,Y,Z,Z,Y,Y,Y,Y,Y,Y,Y,Z,Z,Z] rfl rfl (any_of HT_.out (by kernel_rfl)) (fun _ _ _ h => h) (Or.inl ⟨by rfl, ?_⟩) ?_ ?_
                rotate_left
                ·intro w'
                 go_simp
                 with_reducible rfl
                rotate_left
                ·simp only [Act.put, List.setIfInBounds_toArray, List.set_cons_zero, List.set_cons_succ, i64_w, i32_w]
                 rfl
                refine one_ (i := 8) (N := some 63) #[Y,Y,Y,Y,Y,Y,Y,Y,Y,Z,Y,Y,Y,Y,Y,Y,Y,Z,Z,Z] rfl rfl (one_of HT_.out (by kernel_rfl)) (by decide) (fun K hK => ?_)
                refine goes_ Tryd.func33 (by kernel_rfl) rfl #[.int .u64 (IntKind.u64.wrap ((rd_T64 ((rd_T45 l0 x6_1).f2) x8_2).f0)), .int .i64 2] (by rfl) rfl rfl argA ?_
                with_reducible refine (rootcellarref2_Put.calls k2 (IntKind.u64.wrap ((rd_T64 ((rd_T45 l0 x6_1).f2) x8_2).f0)) 2 t268 _ A25.out).mono ?_
                rintro e w31 ⟨rfl, hb⟩
                refine ⟨_, rfl, ?_⟩
                have n0_ := Aside0.mk (blk_below (g := gb263) (o := .cells #[.string ((rd_T45 l0 x6_1).f0), .int .i64 ((rd_T45 l0 x6_1).f1), .slice (some ad267) ((rd_T45 l0 x6_1).f2).length c262_2] 45 (0, 0)) (blkN BK263.out) hb)
                have n1_ := Aside0.mk (below_step (by repeat (first | (with_reducible first | exact HB.out | apply below_alloc | apply pw_below_drewN | apply below_drew1 | refine below_set ?_ GE263.out) | exact HB.out)) hb)
                clear BK263
                clear HB
                have BK263 := n0_
                have HB := n1_
                clear n0_ n1_
                (try clear hb)
                (try clear hb2)
                (try clear hk)
                (try clear hi)
                refine hK.out _ _ ⟨(blk_cell BK263.out 0).trans rfl, (blk_cell BK263.out 1).trans rfl, (blk_cell BK263.out 2).trans rfl, ((HB.out.cell (World.block_lt_of_cell? w _ hw267_0)).trans hw267_0), ((HB.out.cell (World.block_lt_of_cell? w _ hw267_1)).trans hw267_1), ((HB.out.cell (World.block_lt_of_cell? w _ hw269_0)).trans hw269_0), ((HB.out.cell (World.block_lt_of_cell? w _ hw269_1)).trans hw269_1)⟩ (fun hHeld => ?_)
                clear hK K
                refine norm_ (a' := ?_) ?_ ?_
                rotate_left
                ·show Act.put _ (some 63) _ = _
                 simp only [Act.put, List.setIfInBounds_toArray, List.set_cons_zero, List.set_cons_succ, i64_w, i32_w]
                 rfl
                refine pure_ (i := 9) (N := some 64) (v := ?_) (a' := ?_) #[Y,Y,Y,Y,Y,Y,Y,Y,Y,Y,Y,Y,Y,Y,Y,Y,Y,Z,Z,Z] rfl rfl (any_of HT_.out (by kernel_rfl)) (fun _ _ _ h => h) (Or.inl ⟨by rfl, ?_⟩) ?_ ?_
                rotate_left
                ·intro w'
                 go_simp
                 with_reducible rfl
                rotate_left
                ·simp only [Act.put, List.setIfInBounds_toArray, List.set_cons_zero, List.set_cons_succ, i64_w, i32_w]
                 rfl
                refine one_ (i := 17) (N := some 72) #[Y,Y,Y,Y,Y,Y,Y,Y,Y,Y,Y,Y,Y,Y,Y,Y,Y,Y,Z,Z] rfl rfl (one_of HT_.out (by kernel_rfl)) (by decide) (fun K hK => ?_)
                refine goes_ Tryd.func33 (by kernel_rfl) rfl #[.int .u64 (IntKind.u64.wrap ((rd_T64 ((rd_T45 l0 x6_1).f2) x8_2).f1)), .int .i64 2] (by rfl) rfl rfl argA ?_
                with_reducible refine (rootcellarref2_Put.calls k2 (IntKind.u64.wrap ((rd_T64 ((rd_T45 l0 x6_1).f2) x8_2).f1)) 2 t270 _ A27.out).mono ?_
                rintro e w32 ⟨rfl, hb⟩
                refine ⟨_, rfl, ?_⟩
                have n0_ := Aside0.mk (blk_below (g := gb263) (o := .cells #[.string ((rd_T45 l0 x6_1).f0), .int .i64 ((rd_T45 l0 x6_1).f1), .slice (some ad267) ((rd_T45 l0 x6_1).f2).length c262_2] 45 (0, 0)) (blkN BK263.out) hb)
                have n1_ := Aside0.mk (below_step (by repeat (first | (with_reducible first | exact HB.out | apply below_alloc | apply pw_below_drewN | apply below_drew1 | refine below_set ?_ GE263.out) | exact HB.out)) hb)
                clear BK263
                clear HB
                have BK263 := n0_
                have HB := n1_
                clear n0_ n1_
                (try clear hb)
                (try clear hb2)
                (try clear hk)
                (try clear hi)
                refine hK.out _ _ ⟨(blk_cell BK263.out 0).trans rfl, (blk_cell BK263.out 1).trans rfl, (blk_cell BK263.out 2).trans rfl, ((HB.out.cell (World.block_lt_of_cell? w _ hw267_0)).trans hw267_0), ((HB.out.cell (World.block_lt_of_cell? w _ hw267_1)).trans hw267_1), ((HB.out.cell (World.block_lt_of_cell? w _ hw269_0)).trans hw269_0), ((HB.out.cell (World.block_lt_of_cell? w _ hw269_1)).trans hw269_1)⟩ (fun hHeld => ?_)
                clear hK K
                refine norm_ (a' := ?_) ?_ ?_
                rotate_left
                ·show Act.put _ (some 72) _ = _
                 simp only [Act.put, List.setIfInBounds_toArray, List.set_cons_zero, List.set_cons_succ, i64_w, i32_w]
                 rfl
                refine pure_ (i := 18) (N := some 73) (v := ?_) (a' := ?_) #[Y,Y,Y,Y,Y,Y,Y,Y,Y,Y,Y,Y,Y,Y,Y,Y,Y,Y,Y,Z] rfl rfl (any_of HT_.out (by kernel_rfl)) (fun _ _ _ h => h) (Or.inl ⟨by rfl, ?_⟩) ?_ ?_
                rotate_left
                ·intro w'
                 go_simp
                 with_reducible rfl
                rotate_left
                ·simp only [Act.put, List.setIfInBounds_toArray, List.set_cons_zero, List.set_cons_succ, i64_w, i32_w]
                 rfl
                refine pure_ (i := 19) (N := some 5) (v := ?_) (a' := ?_) #[Y,Y,Y,Y,Y,Y,Y,Y,Y,Y,Y,Y,Y,Y,Y,Y,Y,Y,Y,Y] rfl rfl (any_of HT_.out (by kernel_rfl)) (fun _ _ _ h => h) (Or.inl ⟨by rfl, ?_⟩) ?_ ?_
                rotate_left
                ·intro w'
                 go_simp
                 with_reducible rfl
                rotate_left
                ·simp only [Act.put, List.setIfInBounds_toArray, List.set_cons_zero, List.set_cons_succ, i64_w, i32_w]
                 rfl
                refine done_ (done_of HT_.out (by kernel_rfl)) ?_
                try go_wp2
                go_roundg k2
                case measure => have := HK1.out; have := HK2.out; omega
                case rel => exact ⟨((x5_2 ++ t268) ++ t270), (wrap64 (x8_2 + 1)), (by first | rfl | (simp; done) | (simp [*]; done)), (by first | rfl | (simp; done) | (simp [*]; done)), H', ⟨by have := HK1.out; have := HK2.out; omega⟩, ⟨by (with_reducible repeat (first | refine blk_drewN ?_ _ | refine blk_drew ?_ | refine blk_alloc ?_ _)); exact BK263.out⟩, ⟨by repeat (first | (with_reducible first | exact HB.out | apply below_alloc | apply pw_below_drewN | apply below_drew1 | refine below_set ?_ GE263.out) | exact HB.out)⟩⟩
               ·rw [if_neg c28] at H
                exact absurd H (by simp)
              ·rw [if_neg c26] at H
               exact absurd H (by simp)
             ·rw [if_neg c24] at H
              exact absurd H (by simp)
            ·rw [if_neg c23] at H
             have c23b0 : decide (x8_2 < (((rd_T45 l0 x6_1).f2).length : Int)) = false := decide_eq_false c23
             clear c23
             have H' := Aside0.mk H
             clear H
             have hcz33_0 : wr.cell? ⟨gb263, 0, none⟩ = some (.string ((rd_T45 l0 x6_1).f0)) := (blk_cell BK263.out 0).trans rfl
             have hcz33_1 : wr.cell? ⟨gb263, 1, none⟩ = some (.int .i64 ((rd_T45 l0 x6_1).f1)) := (blk_cell BK263.out 1).trans rfl
             have hcz33_2 : wr.cell? ⟨gb263, 2, none⟩ = some (.slice A262_2 ((rd_T45 l0 x6_1).f2).length c262_2) := (blk_cell BK263.out 2).trans rfl
             have hfz33_0 := blk_frozen BK263.out 0
             have hfz33_1 := blk_frozen BK263.out 1
             have hfz33_2 := blk_frozen BK263.out 2
             go_wp2
             go_roundg k2
             case measure => have := HK1.out; have := HK2.out; omega
             case rel => exact ⟨(x5_2), (wrap64 (x6_1 + 1)), (by first | rfl | (simp; done) | (simp [*]; done)), (by first | rfl | (simp; done) | (simp [*]; done)), H', ⟨by have := HK1.out; have := HK2.out; omega⟩, ⟨by repeat (first | (with_reducible first | exact HB.out | apply below_alloc | apply pw_below_drewN | apply below_drew1 | refine below_set ?_ GE263.out) | exact HB.out)⟩⟩
         ·rw [if_neg c15] at H
          exact absurd H (by simp)
        ·rw [if_neg c13] at H
         exact absurd H (by simp)
       ·rw [if_neg c11] at H
        exact absurd H (by simp)
      ·rw [if_neg c10] at H
       exact absurd H (by simp)
     ·rw [if_neg c8] at H
      exact absurd H (by simp)
    ·rw [if_neg c7] at H
     have c7b0 : decide (x6_1 < (l0.length : Int)) = false := decide_eq_false c7
     clear c7
     replace H := Option.bind_eq_some_iff.mp H
     obtain ⟨t261, A340, H⟩ := H
     replace H : (some (t261, 0)) = some (r1, r2) := H
     have A34 := Aside0.mk A340
     clear A340
     simp only [Option.some.injEq, Prod.mk.injEq] at H
     obtain ⟨rfl, rfl⟩ := H
     go_wp2_with (first | ((with_reducible refine gate_callee (f := 11) rfl ?_); refine goesL_ (some 75) rfl rfl Tryd.func11 (by kernel_rfl) rfl #[.string x5_1] rfl argA ?_; (with_reducible refine (rootcellarref3_Put.calls k1 x5_1 t261 _ A34.out).mono ?_); rintro e w35 ⟨rfl, hb⟩; refine ⟨_, rfl, ?_⟩; have n0_ := Aside0.mk (below_step belA hb); clear HB; have HB := n0_; clear n0_; (try clear hb); (try clear hb2); (try clear hk); (try clear hi)))
     go_ret2
     exact ⟨by first | rfl | (simp [errW_none, errW_some] <;> rfl) | (simp [*, errW_none, errW_some] <;> rfl), by repeat (first | (with_reducible first | exact HB.out | apply below_alloc | apply pw_below_drewN | apply below_drew1) | exact HB.out)⟩
 ·replace c3 := Bool.eq_false_iff.mpr c3
  subst c3
  have H1 : (some ((⟨#[]⟩ : ByteArray), 1)) = some (r1, r2) := by rw [if_neg (show ¬ (false = true) by decide)] at H; exact H
  clear H
  have H := H1
  clear H1
  simp only [Option.some.injEq, Prod.mk.injEq] at H
  obtain ⟨rfl, rfl⟩ := H
  go_enter Tryd.func27, Tryd.ntmps27
  go_wp2_with (first | ((with_reducible refine gate_callee (f := 18) rfl ?_); refine goesL_ (some 10) rfl rfl Tryd.func18 (by kernel_rfl) rfl #[.slice A0 l0.length c0] rfl argA ?_; (with_reducible refine (rootcellarref7_Is.calls k _ _ l0 false _ ?side1 ?side2 A2.out).mono ?_); (case side1 => repeat (first | exact HR0.out | (with_reducible refine Kd.C_alloc ?_ _) | (with_reducible refine Kd.C_drewN ?_ _) | (with_reducible refine Kd.C_drew ?_))); (case side2 => exact HC0.out); rintro e w36 ⟨rfl, hb⟩; refine ⟨_, rfl, ?_⟩; have n0_ := Aside0.mk (below_step belA hb); clear HB; have HB := n0_; clear n0_; (try clear hb); (try clear hb2); (try clear hk); (try clear hi)))
  go_ret2
  exact ⟨by first | rfl | (simp [errW_none, errW_some] <;> rfl) | (simp [*, errW_none, errW_some] <;> rfl), by repeat (first | (with_reducible first | exact HB.out | apply below_alloc | apply pw_below_drewN | apply below_drew1) | exact HB.out)⟩
end Go.Proofs.YtppbcankhkgpfaaDoor.PDp
