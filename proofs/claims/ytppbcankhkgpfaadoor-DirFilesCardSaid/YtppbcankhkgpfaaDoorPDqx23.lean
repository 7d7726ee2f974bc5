-- laid by gprint.py (this session's own program) out of the translation: Lean checks it
import Derived.Test.YtppbcankhkgpfaaDoorPDqx0
import Derived.Test.YtppbcankhkgpfaaDoorPDqx22
--compressed
namespace Go.Proofs.YtppbcankhkgpfaaDoor.PDq
open Go.RowKit Go.Proofs.YtppbcankhkgpfaaDoorW.PrintWords Go.Proofs.YtppbcankhkgpfaaDoorW.PrintLast Go.Proofs.YtppbcankhkgpfaaDoorW.PrintMore
attribute [local go_sem] max2_int min2_int max_two min_two max_three min_three max_four min_four   -- for this text's walks alone
attribute [local go_sem high] hw_str_leq hw_str_gtr
set_option linter.unusedVariables false
set_option linter.unusedSimpArgs false
mutual
def rootcellarref5_marks.j0 : Nat → List (S64) → Int → Bool → Option (List Bool × Int)
 | 0, _, _, _ => none
 | k + 1, x0, x1, x15 => if x15 = true then (some (([] : List Bool), 11)) else (rootcellarref5_marks.l0 k x0 x1 0)
def rootcellarref5_marks.l0 : Nat → List (S64) → Int → Int → Option (List Bool × Int)
 | 0, _, _, _ => none
 | k + 1, x0, x1, x6 => if x6 < (x0.length : Int) then (if 0 ≤ x6 then ((rootcellarref5_inside.f ((rd_T64 x0 x6).f0) ((rd_T64 x0 x6).f1) x1).bind fun t203 => (if t203 = true then (rootcellarref5_marks.l0 k x0 x1 (wrap64 (x6 + 1))) else (some (([] : List Bool), 11)))) else (none)) else (if 0 ≤ x1 then (if (x1 : Int).toNat ≤ 281474976710656 then (rootcellarref5_marks.l1 k x0 (List.replicate (x1 : Int).toNat false) 0) else (none)) else (none))
def rootcellarref5_marks.l1 : Nat → List (S64) → List Bool → Int → Option (List Bool × Int)
 | 0, _, _, _ => none
 | k + 1, x0, x7, x8 => if x8 < (x0.length : Int) then (if 0 ≤ x8 then (rootcellarref5_marks.l2 k x0 x7 x8 ((rd_T64 x0 x8).f0)) else (none)) else (some (x7, 0))
def rootcellarref5_marks.l2 : Nat → List (S64) → List Bool → Int → Int → Option (List Bool × Int)
 | 0, _, _, _, _ => none
 | k + 1, x0, x7, x8, x9 => if 0 ≤ x8 then (if x8 < (x0.length : Int) then (if x9 < (wrap64 (((rd_T64 x0 x8).f0) + ((rd_T64 x0 x8).f1))) then (if 0 ≤ x9 then (if x9 < (x7.length : Int) then (if rdOf false x7 x9 = true then (some (([] : List Bool), 5)) else (rootcellarref5_marks.l2 k x0 (x7.set (x9 : Int).toNat true) x8 (wrap64 (x9 + 1)))) else (none)) else (none)) else (rootcellarref5_marks.l1 k x0 x7 (wrap64 (x8 + 1)))) else (none)) else (none)
end
def rootcellarref5_marks.f (k : Nat) (l0 : List (S64)) (a1 : Int) : Option (List Bool × Int) := if a1 < 1 then (rootcellarref5_marks.j0 k l0 a1 true) else (rootcellarref5_marks.j0 k l0 a1 (decide (a1 > 8192)))
set_option maxHeartbeats 8000000 in
set_option maxRecDepth 100000 in
theorem rootcellarref5_marks.calls (k : Nat) (A0 : Option Addr) (c0 : Nat) (l0 : List (S64)) (a1 : Int) (r1 : List Bool) (r2 : Int) (w : World) (hr0 : Kd.C k64 w A0 l0.length l0) (hc0 : l0.length ≤ c0) (h : rootcellarref5_marks.f k l0 a1 = some (r1, r2)) :
  Calls Tryd.prog 76 #[.slice A0 l0.length c0, .int .i64 a1] w fun e w' => ∃ v0_ : Value, e = .returned (.tuple #[v0_, .int .i64 r2]) ∧ Kd.R Kd.bool 4 w' w.heap.size (fun _ => True) v0_ r1 ∧ Below w.heap.size w w' := by
 have hu64 := Tryd.underlying64
 have HR0 := Aside0.mk hr0
 have HC0 := Aside0.mk hc0
 clear hr0 hc0
 have HB := Aside0.mk (Below.refl w.heap.size w)
 have H : (if a1 < 1 then (rootcellarref5_marks.j0 k l0 a1 true) else (rootcellarref5_marks.j0 k l0 a1 (decide (a1 > 8192)))) = some (r1, r2) := h
 clear h
 have HC3 := Aside0.mk H
 clear H
 go_enter Tryd.func76, Tryd.ntmps76
 go_upto_region 1 with (fail)
 repeat (go_quiet (fail); go_upto_region 1 with (fail))
 go_cut [15] (fun v15 wc => ∃ (kq : Nat) (x15_2 : Bool), v15 = .bool x15_2 ∧ Aside0 (rootcellarref5_marks.j0 kq l0 a1 x15_2 = some (r1, r2)) ∧ Aside0 (kq ≤ k) ∧ Aside0 (Below w.heap.size w wc))
 case first =>
  have H := HC3.out
  clear HC3
  by_cases c4 : a1 < 1
  ·rw [if_pos c4] at H
   have c4b0 : decide (a1 < 1) = true := decide_eq_true c4
   clear c4
   (first | rw [c4b0] | (simp only [i64_w, i32_w]; rw [c4b0]) | skip)
   have H' := Aside0.mk H
   clear H
   go_wp2
   repeat (go_quiet (fail); try go_wp2)
   go_meet
   case rel => exact ⟨_, (true), (by first | rfl | (simp; done) | (simp [*]; done)), H', ⟨by first | omega | exact Nat.le_refl _⟩, ⟨by repeat (first | (with_reducible first | exact HB.out | apply below_alloc | apply pw_below_drewN | apply below_drew1) | exact HB.out)⟩⟩
  ·rw [if_neg c4] at H
   have c4b0 : decide (a1 < 1) = false := decide_eq_false c4
   clear c4
   (first | rw [c4b0] | (simp only [i64_w, i32_w]; rw [c4b0]) | skip)
   have H' := Aside0.mk H
   clear H
   go_wp2
   repeat (go_quiet (fail); try go_wp2)
   go_meet
   case rel => exact ⟨_, (decide (a1 > 8192)), (by first | rfl | (simp; done) | (simp [*]; done)), H', ⟨by first | omega | exact Nat.le_refl _⟩, ⟨by repeat (first | (with_reducible first | exact HB.out | apply below_alloc | apply pw_below_drewN | apply below_drew1) | exact HB.out)⟩⟩
 case rest =>
  clear HC3
  try clear p2
  try clear c4
  try clear c4b0
  obtain ⟨kq, x15_2, rfl, HA, HJ2, HB⟩ := hcut
  cases kq with
  | zero => exact absurd HA.out (by simp [rootcellarref5_marks.j0])
  | succ kj2 =>
   have H := HA.out
   clear HA
   simp only [rootcellarref5_marks.j0] at H
   by_cases c5 : x15_2 = true
   ·subst c5
    have H1 : (some (([] : List Bool), 11)) = some (r1, r2) := by rw [if_pos rfl] at H; exact H
    clear H
    have H := H1
    clear H1
    simp only [Option.some.injEq, Prod.mk.injEq] at H
    obtain ⟨rfl, rfl⟩ := H
    go_wp2
    repeat (go_quiet (fail); try go_wp2)
    go_ret2
    exact ⟨_, by first | rfl | (simp [errW_none, errW_some] <;> rfl) | (simp [*, errW_none, errW_some] <;> rfl), by first | exact Kd.R_nil _ _ _ _ _ | exact Kd.N_nil _ _ _ _ _ | exact Kd.V_nil _ _ _ _ _ | exact Kd.Q_nil _ _ _ _ _ | exact Kd.S_nil _ _ _ _ _, by repeat (first | (with_reducible first | exact HB.out | apply below_alloc | apply pw_below_drewN | apply below_drew1) | exact HB.out)⟩
   ·replace c5 := Bool.eq_false_iff.mpr c5
    subst c5
    have H1 : (rootcellarref5_marks.l0 kj2 l0 a1 0) = some (r1, r2) := by rw [if_neg (show ¬ (false = true) by decide)] at H; exact H
    clear H
    have H := H1
    clear H1
    have H' := Aside0.mk H
    clear H
    go_wp2
    repeat (go_quiet (fail); try go_wp2)
    go_loopg [6] kj2 (fun kq v6 w' => ∃ (x6_2 : Int), v6 = .int .i64 x6_2 ∧ Aside0 (rootcellarref5_marks.l0 kq l0 a1 x6_2 = some (r1, r2)) ∧ Aside0 (kq ≤ kj2) ∧ Aside0 (Below w.heap.size w w'))
    case atStart => exact ⟨(0), (by first | rfl | (simp; done) | (simp [*]; done)), H', ⟨Nat.le_refl _⟩, ⟨by repeat (first | (with_reducible first | exact HB.out | apply below_alloc | apply pw_below_drewN | apply below_drew1) | exact HB.out)⟩⟩
    case round =>
     clear H'
     try clear p2
     try clear c4
     try clear c4b0
     try clear c5
     try clear p2
     obtain ⟨x6_2, rfl, HA, HK2, HB⟩ := hrel
     cases gk with
     | zero => exact absurd HA.out (by simp [rootcellarref5_marks.l0])
     | succ k2 =>
      have H := HA.out
      clear HA
      simp only [rootcellarref5_marks.l0] at H
      by_cases c6 : x6_2 < (l0.length : Int)
      ·rw [if_pos c6] at H
       have c6b0 : decide (x6_2 < (l0.length : Int)) = true := decide_eq_true c6
       clear c6
       by_cases c7 : 0 ≤ x6_2
       ·rw [if_pos c7] at H
        have c7b0 : decide (0 ≤ x6_2) = true := decide_eq_true c7
        clear c7
        replace H := Option.bind_eq_some_iff.mp H
        obtain ⟨t203, A80, H⟩ := H
        replace H : (if t203 = true then (rootcellarref5_marks.l0 k2 l0 a1 (wrap64 (x6_2 + 1))) else (some (([] : List Bool), 11))) = some (r1, r2) := H
        have A8 := Aside0.mk A80
        clear A80
        by_cases c9 : t203 = true
        ·subst c9
         have H1 : (rootcellarref5_marks.l0 k2 l0 a1 (wrap64 (x6_2 + 1))) = some (r1, r2) := by rw [if_pos rfl] at H; exact H
         clear H
         have H := H1
         clear H1
         have H' := Aside0.mk H
         clear H
         have p202 : 0 ≤ (x6_2 : Int) := of_decide_eq_true asA
         have q202 : x6_2 < (l0.length : Int) := of_decide_eq_true asA
         obtain ⟨ad202, e202, hx202_0, hx202_1⟩ := at_T64 HR0.out x6_2 p202 q202
         cases e202
         replace hx202_0 := (HB.out.cell (World.block_lt_of_cell? w _ hx202_0)).trans hx202_0
         replace hx202_1 := (HB.out.cell (World.block_lt_of_cell? w _ hx202_1)).trans hx202_1
         replace p202 := eq_true p202
         replace q202 := eq_true q202
         go_wp2_with (first | (go_at_call 96; (with_reducible refine (rootcellarref5_inside.calls ((rd_T64 l0 x6_2).f0) ((rd_T64 l0 x6_2).f1) a1 true _ A8.out).mono ?_); rintro e w10 ⟨rfl, hb⟩; have n0_ := Aside0.mk (below_step belA hb); clear HB; have HB := n0_; clear n0_; (try clear hb); (try clear hb2); (try clear hk); (try clear hi)))
         repeat (go_quiet (first | (go_at_call 96; (with_reducible refine (rootcellarref5_inside.calls ((rd_T64 l0 x6_2).f0) ((rd_T64 l0 x6_2).f1) a1 true _ A8.out).mono ?_); rintro e w10 ⟨rfl, hb⟩; have n0_ := Aside0.mk (below_step belA hb); clear HB; have HB := n0_; clear n0_; (try clear hb); (try clear hb2); (try clear hk); (try clear hi))); try go_wp2_with (first | (go_at_call 96; (with_reducible refine (rootcellarref5_inside.calls ((rd_T64 l0 x6_2).f0) ((rd_T64 l0 x6_2).f1) a1 true _ A8.out).mono ?_); rintro e w10 ⟨rfl, hb⟩; have n0_ := Aside0.mk (below_step belA hb); clear HB; have HB := n0_; clear n0_; (try clear hb); (try clear hb2); (try clear hk); (try clear hi))))
         go_roundg k2
         case measure => have := HJ2.out; have := HK2.out; omega
         case rel => exact ⟨(wrap64 (x6_2 + 1)), (by first | rfl | (simp; done) | (simp [*]; done)), H', ⟨by have := HJ2.out; have := HK2.out; omega⟩, ⟨by repeat (first | (with_reducible first | exact HB.out | apply below_alloc | apply pw_below_drewN | apply below_drew1) | exact HB.out)⟩⟩
        ·replace c9 := Bool.eq_false_iff.mpr c9
         subst c9
         have H1 : (some (([] : List Bool), 11)) = some (r1, r2) := by rw [if_neg (show ¬ (false = true) by decide)] at H; exact H
         clear H
         have H := H1
         clear H1
         simp only [Option.some.injEq, Prod.mk.injEq] at H
         obtain ⟨rfl, rfl⟩ := H
         have p202 : 0 ≤ (x6_2 : Int) := of_decide_eq_true asA
         have q202 : x6_2 < (l0.length : Int) := of_decide_eq_true asA
         obtain ⟨ad202, e202, hx202_0, hx202_1⟩ := at_T64 HR0.out x6_2 p202 q202
         cases e202
         replace hx202_0 := (HB.out.cell (World.block_lt_of_cell? w _ hx202_0)).trans hx202_0
         replace hx202_1 := (HB.out.cell (World.block_lt_of_cell? w _ hx202_1)).trans hx202_1
         replace p202 := eq_true p202
         replace q202 := eq_true q202
         go_wp2_with (first | (go_at_call 96; (with_reducible refine (rootcellarref5_inside.calls ((rd_T64 l0 x6_2).f0) ((rd_T64 l0 x6_2).f1) a1 false _ A8.out).mono ?_); rintro e w11 ⟨rfl, hb⟩; have n0_ := Aside0.mk (below_step belA hb); clear HB; have HB := n0_; clear n0_; (try clear hb); (try clear hb2); (try clear hk); (try clear hi)))
         repeat (go_quiet (first | (go_at_call 96; (with_reducible refine (rootcellarref5_inside.calls ((rd_T64 l0 x6_2).f0) ((rd_T64 l0 x6_2).f1) a1 false _ A8.out).mono ?_); rintro e w11 ⟨rfl, hb⟩; have n0_ := Aside0.mk (below_step belA hb); clear HB; have HB := n0_; clear n0_; (try clear hb); (try clear hb2); (try clear hk); (try clear hi))); try go_wp2_with (first | (go_at_call 96; (with_reducible refine (rootcellarref5_inside.calls ((rd_T64 l0 x6_2).f0) ((rd_T64 l0 x6_2).f1) a1 false _ A8.out).mono ?_); rintro e w11 ⟨rfl, hb⟩; have n0_ := Aside0.mk (below_step belA hb); clear HB; have HB := n0_; clear n0_; (try clear hb); (try clear hb2); (try clear hk); (try clear hi))))
         go_ret2
         exact ⟨_, by first | rfl | (simp [errW_none, errW_some] <;> rfl) | (simp [*, errW_none, errW_some] <;> rfl), by first | exact Kd.R_nil _ _ _ _ _ | exact Kd.N_nil _ _ _ _ _ | exact Kd.V_nil _ _ _ _ _ | exact Kd.Q_nil _ _ _ _ _ | exact Kd.S_nil _ _ _ _ _, by repeat (first | (with_reducible first | exact HB.out | apply below_alloc | apply pw_below_drewN | apply below_drew1) | exact HB.out)⟩
       ·rw [if_neg c7] at H
        exact absurd H (by simp)
      ·rw [if_neg c6] at H
       have c6b0 : decide (x6_2 < (l0.length : Int)) = false := decide_eq_false c6
       clear c6
       by_cases c12 : 0 ≤ a1
       ·rw [if_pos c12] at H
        have c12b0 := eq_true c12
        have c12b1 : decide (0 ≤ a1) = true := decide_eq_true c12
        clear c12
        by_cases c13 : (a1 : Int).toNat ≤ 281474976710656
        ·rw [if_pos c13] at H
         have c13b0 := eq_true c13
         have c13b1 : decide ((a1 : Int).toNat ≤ 281474976710656) = true := decide_eq_true c13
         clear c13
         obtain ⟨y204, hy204⟩ : ∃ y_ : List Bool, y_ = (List.replicate (a1 : Int).toNat false) := ⟨_, rfl⟩
         replace H : (rootcellarref5_marks.l1 k2 l0 y204 0) = some (r1, r2) := by first | (rw [hy204]; with_reducible exact H) | (have H2_ := (Option.bind_some _ _).symm.trans H; rw [hy204]; with_reducible exact H2_) | (have H2_ := (Option.bind_some _ _).symm.trans H; with_reducible exact H2_) | with_reducible exact H | (rw [hy204]; exact H) | exact H
         have Ny204 := Aside0.mk hy204
         clear hy204
         have H' := Aside0.mk H
         clear H
         go_wp2_with (first | ((with_reducible refine gate_dst (N := 30) rfl ?_); refine Kd.R_make Kd.bool _ 4 rfl (N := 30) rfl 114 _ _ rfl a1 rfl rfl Tryd.underlying114 (.bool false) 1 info4 rfl (by decide) (by omega) false (ok := fun _ => True) (okp := fun _ => True) rfl (fun _ hk => hk) trivial (of_decide_eq_true asA) (Nat.le_trans (Nat.mul_le_mul_right _ (of_decide_eq_true asA : a1.toNat ≤ 281474976710656)) (by omega)) (Below.refl _ _) (Nat.le_refl _) ?_; intro v205 w14 ho15 hb hg_ hnew_; clear hg_ hnew_; (first | rw [← Ny204.out] at ho15 | (simp only [Int.reduceToNat] at ho15; rw [← Ny204.out] at ho15)); have n0_ := Aside0.mk (Kd.R_lower ho15 (below_size belA)); have n1_ := Aside0.mk (below_step belA hb); clear HB; have HO206 := n0_; have HB := n1_; clear n0_ n1_; clear hb ho15))
         repeat (go_quiet (first | ((with_reducible refine gate_dst (N := 30) rfl ?_); refine Kd.R_make Kd.bool _ 4 rfl (N := 30) rfl 114 _ _ rfl a1 rfl rfl Tryd.underlying114 (.bool false) 1 info4 rfl (by decide) (by omega) false (ok := fun _ => True) (okp := fun _ => True) rfl (fun _ hk => hk) trivial (of_decide_eq_true asA) (Nat.le_trans (Nat.mul_le_mul_right _ (of_decide_eq_true asA : a1.toNat ≤ 281474976710656)) (by omega)) (Below.refl _ _) (Nat.le_refl _) ?_; intro v205 w14 ho15 hb hg_ hnew_; clear hg_ hnew_; (first | rw [← Ny204.out] at ho15 | (simp only [Int.reduceToNat] at ho15; rw [← Ny204.out] at ho15)); have n0_ := Aside0.mk (Kd.R_lower ho15 (below_size belA)); have n1_ := Aside0.mk (below_step belA hb); clear HB; have HO206 := n0_; have HB := n1_; clear n0_ n1_; clear hb ho15)); try go_wp2_with (first | ((with_reducible refine gate_dst (N := 30) rfl ?_); refine Kd.R_make Kd.bool _ 4 rfl (N := 30) rfl 114 _ _ rfl a1 rfl rfl Tryd.underlying114 (.bool false) 1 info4 rfl (by decide) (by omega) false (ok := fun _ => True) (okp := fun _ => True) rfl (fun _ hk => hk) trivial (of_decide_eq_true asA) (Nat.le_trans (Nat.mul_le_mul_right _ (of_decide_eq_true asA : a1.toNat ≤ 281474976710656)) (by omega)) (Below.refl _ _) (Nat.le_refl _) ?_; intro v205 w14 ho15 hb hg_ hnew_; clear hg_ hnew_; (first | rw [← Ny204.out] at ho15 | (simp only [Int.reduceToNat] at ho15; rw [← Ny204.out] at ho15)); have n0_ := Aside0.mk (Kd.R_lower ho15 (below_size belA)); have n1_ := Aside0.mk (below_step belA hb); clear HB; have HO206 := n0_; have HB := n1_; clear n0_ n1_; clear hb ho15)))
         go_loopg [8] k2 (fun kq v8 w' => ∃ (x7_3 : List Bool) (x8_3 : Int), v8 = .int .i64 x8_3 ∧ Aside0 (rootcellarref5_marks.l1 kq l0 x7_3 x8_3 = some (r1, r2)) ∧ Aside0 (kq ≤ k2) ∧ Aside0 (Kd.R Kd.bool 4 w' w.heap.size (fun _ => True) v205 x7_3) ∧ Aside0 (Below w.heap.size w w'))
         case atStart => exact ⟨(y204), (0), (by first | rfl | (simp; done) | (simp [*]; done)), H', ⟨Nat.le_refl _⟩, ⟨by (with_reducible repeat (first | apply Kd.R_alloc | apply Kd.R_drewN | apply Kd.R_drew)); exact HO206.out⟩, ⟨by repeat (first | (with_reducible first | exact HB.out | apply below_alloc | apply pw_below_drewN | apply below_drew1) | exact HB.out)⟩⟩
         case round =>
          clear H'
          try clear c1
          try clear p2
          try clear q2
          try clear hx2
          try clear c4
          try clear c4b0
          try clear c5
          try clear c6
          try clear c6b0
          try clear p6
          try clear c7
          try clear c7b0
          try clear c9
          try clear c12
          try clear c12b0
          try clear c12b1
          try clear c13
          try clear c13b0
          try clear c13b1
          try clear hx202_0
          try clear hx202_1
          try clear p2
          try clear p202
          try clear q202
          obtain ⟨x7_3, x8_3, rfl, HA, HK3, HO_7, HB⟩ := hrel
          cases gk with
          | zero => exact absurd HA.out (by simp [rootcellarref5_marks.l1])
          | succ k3 =>
           have H := HA.out
           clear HA
           simp only [rootcellarref5_marks.l1] at H
           by_cases c16 : x8_3 < (l0.length : Int)
           ·rw [if_pos c16] at H
            have c16b0 : decide (x8_3 < (l0.length : Int)) = true := decide_eq_true c16
            clear c16
            by_cases c17 : 0 ≤ x8_3
            ·rw [if_pos c17] at H
             have c17b0 : decide (0 ≤ x8_3) = true := decide_eq_true c17
             clear c17
             have H' := Aside0.mk H
             clear H
             have p207 : 0 ≤ (x8_3 : Int) := of_decide_eq_true asA
             have q207 : x8_3 < (l0.length : Int) := of_decide_eq_true asA
             obtain ⟨ad207, e207, hx207_0, hx207_1⟩ := at_T64 HR0.out x8_3 p207 q207
             cases e207
             replace hx207_0 := (HB.out.cell (World.block_lt_of_cell? w _ hx207_0)).trans hx207_0
             replace hx207_1 := (HB.out.cell (World.block_lt_of_cell? w _ hx207_1)).trans hx207_1
             replace p207 := eq_true p207
             replace q207 := eq_true q207
             go_wp2
             repeat (go_quiet (fail); try go_wp2)
             go_loopg [9] k3 (fun kq v9 w' => ∃ (x7_4 : List Bool) (x9_4 : Int), v9 = .int .i64 x9_4 ∧ Aside0 (rootcellarref5_marks.l2 kq l0 x7_4 x8_3 x9_4 = some (r1, r2)) ∧ Aside0 (kq ≤ k3) ∧ Aside0 (Kd.R Kd.bool 4 w' w.heap.size (fun _ => True) v205 x7_4) ∧ Aside0 (Below w.heap.size w w'))
             case atStart => exact ⟨(x7_3), ((rd_T64 l0 x8_3).f0), (by first | rfl | (simp; done) | (simp [*]; done)), H', ⟨Nat.le_refl _⟩, ⟨by (with_reducible repeat (first | apply Kd.R_alloc | apply Kd.R_drewN | apply Kd.R_drew)); exact HO_7.out⟩, ⟨by repeat (first | (with_reducible first | exact HB.out | apply below_alloc | apply pw_below_drewN | apply below_drew1) | exact HB.out)⟩⟩
             case round =>
              clear H'
              try clear c1
              try clear p2
              try clear q2
              try clear hx2
              try clear c4
              try clear c4b0
              try clear c5
              try clear c6
              try clear c6b0
              try clear p6
              try clear c7
              try clear c7b0
              try clear c9
              try clear c12
              try clear c12b0
              try clear c12b1
              try clear c13
              try clear c13b0
              try clear c13b1
              try clear c16
              try clear c16b0
              try clear c17
              try clear c17b0
              try clear hx202_0
              try clear hx202_1
              try clear hx207_0
              try clear hx207_1
              try clear p2
              try clear p202
              try clear p207
              try clear p6
              try clear q2
              try clear q202
              try clear q207
              obtain ⟨x7_4, x9_4, rfl, HA, HK4, HO_7, HB⟩ := hrel
              cases gk with
              | zero => exact absurd HA.out (by simp [rootcellarref5_marks.l2])
              | succ k4 =>
               have H := HA.out
               clear HA
               simp only [rootcellarref5_marks.l2] at H
               by_cases c18 : 0 ≤ x8_3
               ·rw [if_pos c18] at H
                have c18b0 : decide (0 ≤ x8_3) = true := decide_eq_true c18
                clear c18
                by_cases c19 : x8_3 < (l0.length : Int)
                ·rw [if_pos c19] at H
                 have c19b0 : decide (x8_3 < (l0.length : Int)) = true := decide_eq_true c19
                 clear c19
                 by_cases c20 : x9_4 < (wrap64 (((rd_T64 l0 x8_3).f0) + ((rd_T64 l0 x8_3).f1)))
                 ·rw [if_pos c20] at H
                  have c20b0 : decide (x9_4 < (wrap64 (((rd_T64 l0 x8_3).f0) + ((rd_T64 l0 x8_3).f1)))) = true := decide_eq_true c20
                  clear c20
                  by_cases c21 : 0 ≤ x9_4
                  ·rw [if_pos c21] at H
                   have c21b0 : decide (0 ≤ x9_4) = true := decide_eq_true c21
                   clear c21
                   by_cases c22 : x9_4 < (x7_4.length : Int)
                   ·rw [if_pos c22] at H
                    have c22b0 : decide (x9_4 < (x7_4.length : Int)) = true := decide_eq_true c22
                    clear c22
                    obtain ⟨bq23, hbq23⟩ : ∃ b_ : Bool, b_ = (rdOf false x7_4 x9_4) := ⟨_, rfl⟩
                    replace H : (if bq23 = true then (some (([] : List Bool), 5)) else (rootcellarref5_marks.l2 k4 l0 (x7_4.set (x9_4 : Int).toNat true) x8_3 (wrap64 (x9_4 + 1)))) = some (r1, r2) := by rw [← hbq23] at H; exact H
                    have Nbq23 := Aside0.mk hbq23
                    clear hbq23
                    by_cases c24 : bq23 = true
                    ·subst c24
                     have H1 : (some (([] : List Bool), 5)) = some (r1, r2) := by rw [if_pos rfl] at H; exact H
                     clear H
                     have H := H1
                     clear H1
                     simp only [Option.some.injEq, Prod.mk.injEq] at H
                     obtain ⟨rfl, rfl⟩ := H
                     have p208 : 0 ≤ (x8_3 : Int) := of_decide_eq_true asA
                     have q208 : x8_3 < (l0.length : Int) := of_decide_eq_true asA
                     obtain ⟨ad208, e208, hx208_0, hx208_1⟩ := at_T64 HR0.out x8_3 p208 q208
                     obtain rfl : ad207 = ad208 := (by injection e208)
                     replace hx208_0 := (HB.out.cell (World.block_lt_of_cell? w _ hx208_0)).trans hx208_0
                     replace hx208_1 := (HB.out.cell (World.block_lt_of_cell? w _ hx208_1)).trans hx208_1
                     replace p208 := eq_true p208
                     replace q208 := eq_true q208
                     have p209 : 0 ≤ (x8_3 : Int) := of_decide_eq_true asA
                     have q209 : x8_3 < (l0.length : Int) := of_decide_eq_true asA
                     obtain ⟨ad209, e209, hx209_0, hx209_1⟩ := at_T64 HR0.out x8_3 p209 q209
                     obtain rfl : ad207 = ad209 := (by injection e209)
                     replace hx209_0 := (HB.out.cell (World.block_lt_of_cell? w _ hx209_0)).trans hx209_0
                     replace hx209_1 := (HB.out.cell (World.block_lt_of_cell? w _ hx209_1)).trans hx209_1
                     replace p209 := eq_true p209
                     replace q209 := eq_true q209
                     obtain ⟨Ao25, co25, eo25⟩ := Kd.R_slice HO_7.out
                     subst eo25
                     have p210 : 0 ≤ (x9_4 : Int) := of_decide_eq_true asA
                     have q210 : x9_4 < (x7_4.length : Int) := of_decide_eq_true asA
                     obtain ⟨ad210, e210, hx210_0⟩ := Kd.at_bool (Kd.R_reads' HO_7.out).2.2 x9_4 p210 q210
                     (try rw [← Nbq23.out] at hx210_0)
                     cases e210
                     replace p210 := eq_true p210
                     replace q210 := eq_true q210
                     go_wp2
                     repeat (go_quiet (fail); try go_wp2)
                     go_ret2
                     exact ⟨_, by first | rfl | (simp [errW_none, errW_some] <;> rfl) | (simp [*, errW_none, errW_some] <;> rfl), by first | exact Kd.R_nil _ _ _ _ _ | exact Kd.N_nil _ _ _ _ _ | exact Kd.V_nil _ _ _ _ _ | exact Kd.Q_nil _ _ _ _ _ | exact Kd.S_nil _ _ _ _ _, by repeat (first | (with_reducible first | exact HB.out | apply below_alloc | apply pw_below_drewN | apply below_drew1) | exact HB.out)⟩
                    ·replace c24 := Bool.eq_false_iff.mpr c24
                     subst c24
                     have H1 : (rootcellarref5_marks.l2 k4 l0 (x7_4.set (x9_4 : Int).toNat true) x8_3 (wrap64 (x9_4 + 1))) = some (r1, r2) := by rw [if_neg (show ¬ (false = true) by decide)] at H; exact H
                     clear H
                     have H := H1
                     clear H1
                     obtain ⟨y211, hy211⟩ : ∃ y_ : List Bool, y_ = (x7_4.set (x9_4 : Int).toNat true) := ⟨_, rfl⟩
                     replace H : (rootcellarref5_marks.l2 k4 l0 y211 x8_3 (wrap64 (x9_4 + 1))) = some (r1, r2) := by first | (rw [hy211]; with_reducible exact H) | (have H2_ := (Option.bind_some _ _).symm.trans H; rw [hy211]; with_reducible exact H2_) | (have H2_ := (Option.bind_some _ _).symm.trans H; with_reducible exact H2_) | with_reducible exact H | (rw [hy211]; exact H) | exact H
                     have Ny211 := Aside0.mk hy211
                     clear hy211
                     have H' := Aside0.mk H
                     clear H
                     have p208 : 0 ≤ (x8_3 : Int) := of_decide_eq_true asA
                     have q208 : x8_3 < (l0.length : Int) := of_decide_eq_true asA
                     obtain ⟨ad208, e208, hx208_0, hx208_1⟩ := at_T64 HR0.out x8_3 p208 q208
                     obtain rfl : ad207 = ad208 := (by injection e208)
                     replace hx208_0 := (HB.out.cell (World.block_lt_of_cell? w _ hx208_0)).trans hx208_0
                     replace hx208_1 := (HB.out.cell (World.block_lt_of_cell? w _ hx208_1)).trans hx208_1
                     replace p208 := eq_true p208
                     replace q208 := eq_true q208
                     have p209 : 0 ≤ (x8_3 : Int) := of_decide_eq_true asA
                     have q209 : x8_3 < (l0.length : Int) := of_decide_eq_true asA
                     obtain ⟨ad209, e209, hx209_0, hx209_1⟩ := at_T64 HR0.out x8_3 p209 q209
                     obtain rfl : ad207 = ad209 := (by injection e209)
                     replace hx209_0 := (HB.out.cell (World.block_lt_of_cell? w _ hx209_0)).trans hx209_0
                     replace hx209_1 := (HB.out.cell (World.block_lt_of_cell? w _ hx209_1)).trans hx209_1
                     replace p209 := eq_true p209
                     replace q209 := eq_true q209
                     obtain ⟨Ao27, co27, eo27⟩ := Kd.R_slice HO_7.out
                     subst eo27
                     have p210 : 0 ≤ (x9_4 : Int) := of_decide_eq_true asA
                     have q210 : x9_4 < (x7_4.length : Int) := of_decide_eq_true asA
                     obtain ⟨ad210, e210, hx210_0⟩ := Kd.at_bool (Kd.R_reads' HO_7.out).2.2 x9_4 p210 q210
                     (try rw [← Nbq23.out] at hx210_0)
                     cases e210
                     replace p210 := eq_true p210
                     replace q210 := eq_true q210
                     have p26 : 0 ≤ (x9_4 : Int) := of_decide_eq_true asA
                     have q26 : (x9_4 : Int) < ((x7_4.length : Int) : Int) := of_decide_eq_true asA
                     obtain ⟨go26, co26, eo26, gb26, gl26, cl26, HG26⟩ := Kd.R_form HO_7.out (by omega)
                     (first | cases eo26 | (injection eo26 with ea_ en_ ec_; (first | subst ea_ | (injection ea_ with ea_; subst ea_)); subst ec_; clear en_))
                     have GB26 := Aside0.mk gb26
                     have GG26 := Aside0.mk HG26
                     clear gb26 gl26 HG26
                     (first | simp only [add_plain] at hx210_0 | skip)
                     obtain ⟨hx26_0, hf26_0⟩ := Kd.R_celln false HO_7.out (x9_4 : Int) p26 q26
                     replace p26 := eq_true p26
                     replace q26 := eq_true q26
                     have HP28 := Kd.R_putg HO_7.out (x9_4 : Int) true
                     go_wp2_with (first | ((with_reducible refine gate_store (t := 4) (p := 63) rfl ?_); (try (rw [drewN_self wr]; generalize hq_ : World.drewN wr _ = wr; have n0_ := Aside0.mk (Kd.R_at hq_ HO_7.out); have n1_ := Aside0.mk (below_at hq_ HB.out); clear hq_ HO_7 HB; have HO_7 := n0_; have HB := n1_; clear n0_ n1_; (try (have HP28 := Kd.R_putg HO_7.out (x9_4 : Int) true)); (try (obtain ⟨hx26_0, hf26_0⟩ := Kd.R_celln false HO_7.out (x9_4 : Int) (of_eq_true p26) (of_eq_true q26))))); refine store_event (t := 4) (p := 63) (v := ?vo_w29) (w1 := (wr.setCell ⟨go26, (x9_4 : Int).toNat, none⟩ (.bool true))) ?hg ?ho ?hn ?hr ?_; (case ho => rfl); (case hg => rfl); (case hn => rfl); (case hr => first | (go_simp; done) | (go_simp; rfl)); intro w29 hw; have hg : wr.grownBy w29 (some go26) := (by rw [hw]; exact HP28.2); have hp_ : Kd.R Kd.bool 4 w29 w.heap.size (fun _ => True) (.slice (some ⟨go26, 0, none⟩) x7_4.length co27) y211 := (by rw [hw, Ny211.out]; exact HP28.1); clear HP28; have n0_ := Aside0.mk (hp_); have n1_ := Aside0.mk ((by rw [hw]; exact below_set (HB.out) GB26.out : Below w.heap.size w w29)); clear HO_7; clear HB; have HO_7 := n0_; have HB := n1_; clear n0_ n1_; clear hg hw hp_))
                     repeat (go_quiet (first | ((with_reducible refine gate_store (t := 4) (p := 63) rfl ?_); (try (rw [drewN_self wr]; generalize hq_ : World.drewN wr _ = wr; have n0_ := Aside0.mk (Kd.R_at hq_ HO_7.out); have n1_ := Aside0.mk (below_at hq_ HB.out); clear hq_ HO_7 HB; have HO_7 := n0_; have HB := n1_; clear n0_ n1_; (try (have HP28 := Kd.R_putg HO_7.out (x9_4 : Int) true)); (try (obtain ⟨hx26_0, hf26_0⟩ := Kd.R_celln false HO_7.out (x9_4 : Int) (of_eq_true p26) (of_eq_true q26))))); refine store_event (t := 4) (p := 63) (v := ?vo_w29) (w1 := (wr.setCell ⟨go26, (x9_4 : Int).toNat, none⟩ (.bool true))) ?hg ?ho ?hn ?hr ?_; (case ho => rfl); (case hg => rfl); (case hn => rfl); (case hr => first | (go_simp; done) | (go_simp; rfl)); intro w29 hw; have hg : wr.grownBy w29 (some go26) := (by rw [hw]; exact HP28.2); have hp_ : Kd.R Kd.bool 4 w29 w.heap.size (fun _ => True) (.slice (some ⟨go26, 0, none⟩) x7_4.length co27) y211 := (by rw [hw, Ny211.out]; exact HP28.1); clear HP28; have n0_ := Aside0.mk (hp_); have n1_ := Aside0.mk ((by rw [hw]; exact below_set (HB.out) GB26.out : Below w.heap.size w w29)); clear HO_7; clear HB; have HO_7 := n0_; have HB := n1_; clear n0_ n1_; clear hg hw hp_)); try go_wp2_with (first | ((with_reducible refine gate_store (t := 4) (p := 63) rfl ?_); (try (rw [drewN_self wr]; generalize hq_ : World.drewN wr _ = wr; have n0_ := Aside0.mk (Kd.R_at hq_ HO_7.out); have n1_ := Aside0.mk (below_at hq_ HB.out); clear hq_ HO_7 HB; have HO_7 := n0_; have HB := n1_; clear n0_ n1_; (try (have HP28 := Kd.R_putg HO_7.out (x9_4 : Int) true)); (try (obtain ⟨hx26_0, hf26_0⟩ := Kd.R_celln false HO_7.out (x9_4 : Int) (of_eq_true p26) (of_eq_true q26))))); refine store_event (t := 4) (p := 63) (v := ?vo_w29) (w1 := (wr.setCell ⟨go26, (x9_4 : Int).toNat, none⟩ (.bool true))) ?hg ?ho ?hn ?hr ?_; (case ho => rfl); (case hg => rfl); (case hn => rfl); (case hr => first | (go_simp; done) | (go_simp; rfl)); intro w29 hw; have hg : wr.grownBy w29 (some go26) := (by rw [hw]; exact HP28.2); have hp_ : Kd.R Kd.bool 4 w29 w.heap.size (fun _ => True) (.slice (some ⟨go26, 0, none⟩) x7_4.length co27) y211 := (by rw [hw, Ny211.out]; exact HP28.1); clear HP28; have n0_ := Aside0.mk (hp_); have n1_ := Aside0.mk ((by rw [hw]; exact below_set (HB.out) GB26.out : Below w.heap.size w w29)); clear HO_7; clear HB; have HO_7 := n0_; have HB := n1_; clear n0_ n1_; clear hg hw hp_)))
                     go_roundg k4
                     case measure => have := HJ2.out; have := HK2.out; have := HK3.out; have := HK4.out; omega
                     case rel => exact ⟨(y211), (wrap64 (x9_4 + 1)), (by first | rfl | (simp; done) | (simp [*]; done)), H', ⟨by have := HJ2.out; have := HK2.out; have := HK3.out; have := HK4.out; omega⟩, ⟨by (with_reducible repeat (first | apply Kd.R_alloc | apply Kd.R_drewN | apply Kd.R_drew)); exact HO_7.out⟩, ⟨by repeat (first | (with_reducible first | exact HB.out | apply below_alloc | apply pw_below_drewN | apply below_drew1) | exact HB.out)⟩⟩
                   ·rw [if_neg c22] at H
                    exact absurd H (by simp)
                  ·rw [if_neg c21] at H
                   exact absurd H (by simp)
                 ·rw [if_neg c20] at H
                  have c20b0 : decide (x9_4 < (wrap64 (((rd_T64 l0 x8_3).f0) + ((rd_T64 l0 x8_3).f1)))) = false := decide_eq_false c20
                  clear c20
                  have H' := Aside0.mk H
                  clear H
                  have p208 : 0 ≤ (x8_3 : Int) := of_decide_eq_true asA
                  have q208 : x8_3 < (l0.length : Int) := of_decide_eq_true asA
                  obtain ⟨ad208, e208, hx208_0, hx208_1⟩ := at_T64 HR0.out x8_3 p208 q208
                  obtain rfl : ad207 = ad208 := (by injection e208)
                  replace hx208_0 := (HB.out.cell (World.block_lt_of_cell? w _ hx208_0)).trans hx208_0
                  replace hx208_1 := (HB.out.cell (World.block_lt_of_cell? w _ hx208_1)).trans hx208_1
                  replace p208 := eq_true p208
                  replace q208 := eq_true q208
                  have p209 : 0 ≤ (x8_3 : Int) := of_decide_eq_true asA
                  have q209 : x8_3 < (l0.length : Int) := of_decide_eq_true asA
                  obtain ⟨ad209, e209, hx209_0, hx209_1⟩ := at_T64 HR0.out x8_3 p209 q209
                  obtain rfl : ad207 = ad209 := (by injection e209)
                  replace hx209_0 := (HB.out.cell (World.block_lt_of_cell? w _ hx209_0)).trans hx209_0
                  replace hx209_1 := (HB.out.cell (World.block_lt_of_cell? w _ hx209_1)).trans hx209_1
                  replace p209 := eq_true p209
                  replace q209 := eq_true q209
                  go_wp2
                  repeat (go_quiet (fail); try go_wp2)
                  go_roundg k4
                  case measure => have := HJ2.out; have := HK2.out; have := HK3.out; have := HK4.out; omega
                  case rel => exact ⟨(x7_4), (wrap64 (x8_3 + 1)), (by first | rfl | (simp; done) | (simp [*]; done)), H', ⟨by have := HJ2.out; have := HK2.out; have := HK3.out; have := HK4.out; omega⟩, ⟨by (with_reducible repeat (first | apply Kd.R_alloc | apply Kd.R_drewN | apply Kd.R_drew)); exact HO_7.out⟩, ⟨by repeat (first | (with_reducible first | exact HB.out | apply below_alloc | apply pw_below_drewN | apply below_drew1) | exact HB.out)⟩⟩
                ·rw [if_neg c19] at H
                 exact absurd H (by simp)
               ·rw [if_neg c18] at H
                exact absurd H (by simp)
            ·rw [if_neg c17] at H
             exact absurd H (by simp)
           ·rw [if_neg c16] at H
            have c16b0 : decide (x8_3 < (l0.length : Int)) = false := decide_eq_false c16
            clear c16
            simp only [Option.some.injEq, Prod.mk.injEq] at H
            obtain ⟨rfl, rfl⟩ := H
            go_wp2
            repeat (go_quiet (fail); try go_wp2)
            go_ret2
            exact ⟨_, by first | rfl | (simp [errW_none, errW_some] <;> rfl) | (simp [*, errW_none, errW_some] <;> rfl), by (with_reducible repeat (first | apply Kd.R_alloc | apply Kd.R_drewN | apply Kd.R_drew)); exact HO_7.out, by repeat (first | (with_reducible first | exact HB.out | apply below_alloc | apply pw_below_drewN | apply below_drew1) | exact HB.out)⟩
        ·rw [if_neg c13] at H
         exact absurd H (by simp)
       ·rw [if_neg c12] at H
        exact absurd H (by simp)
def rootcellarref5_row.l0 : Nat → List Bool → List (S64) → Int → Option ((List (S64)))
 | 0, _, _, _ => none
 | k + 1, x0, x3, x4 => if x4 < (x0.length : Int) then (if 0 ≤ x4 then (if rdOf false x0 x4 = true then (if x4 > 0 then (if 0 ≤ (wrap64 (x4 - 1)) then (if (wrap64 (x4 - 1)) < (x0.length : Int) then (if rdOf false x0 (wrap64 (x4 - 1)) = true then (if 0 ≤ (wrap64 ((x3.length : Int) - 1)) then (if (wrap64 ((x3.length : Int) - 1)) < (x3.length : Int) then (rootcellarref5_row.l0 k x0 (x3.set ((wrap64 ((x3.length : Int) - 1)) : Int).toNat (⟨(rd_T64 x3 (wrap64 ((x3.length : Int) - 1))).f0, wrap64 (((rd_T64 x3 (wrap64 ((x3.length : Int) - 1))).f1) + 1)⟩ : S64)) (wrap64 (x4 + 1))) else (none)) else (none)) else (if x3.length < 8796093022208 then (rootcellarref5_row.l0 k x0 (x3 ++ [(⟨x4, 1⟩ : S64)]) (wrap64 (x4 + 1))) else (none))) else (none)) else (none)) else (if x3.length < 8796093022208 then (rootcellarref5_row.l0 k x0 (x3 ++ [(⟨x4, 1⟩ : S64)]) (wrap64 (x4 + 1))) else (none))) else (rootcellarref5_row.l0 k x0 x3 (wrap64 (x4 + 1)))) else (none)) else (some x3)
def rootcellarref5_row.f (k : Nat) (l0 : List Bool) : Option ((List (S64))) := rootcellarref5_row.l0 k l0 ([] : List (S64)) 0
set_option maxHeartbeats 8000000 in
set_option maxRecDepth 100000 in
theorem rootcellarref5_row.calls (k : Nat) (A0 : Option Addr) (c0 : Nat) (l0 : List Bool) (r : List (S64)) (w : World) (hr0 : Kd.C Kd.bool w A0 l0.length l0) (hc0 : l0.length ≤ c0) (h : rootcellarref5_row.f k l0 = some r) :
  Calls Tryd.prog 77 #[.slice A0 l0.length c0] w fun e w' => ∃ v0_ : Value, e = .returned (v0_) ∧ Kd.R k64 64 w' w.heap.size (fun _ => True) v0_ r ∧ Below w.heap.size w w' := by
 have hu64 := Tryd.underlying64
 have HR0 := Aside0.mk hr0
 have HC0 := Aside0.mk hc0
 clear hr0 hc0
 have HB := Aside0.mk (Below.refl w.heap.size w)
 have H : (rootcellarref5_row.l0 k l0 ([] : List (S64)) 0) = some r := h
 clear h
 have H' := Aside0.mk H
 clear H
 go_enter Tryd.func77, Tryd.ntmps77
 go_wp2
 go_loopg [3, 4] k (fun kq v3 v4 w' => ∃ (x3_1 : List (S64)) (x4_1 : Int), v4 = .int .i64 x4_1 ∧ Aside0 (rootcellarref5_row.l0 kq l0 x3_1 x4_1 = some r) ∧ Aside0 (kq ≤ k) ∧ Aside0 (Kd.R k64 64 w' w.heap.size (fun _ => True) v3 x3_1) ∧ Aside0 (Below w.heap.size w w'))
 case atStart => exact ⟨(([] : List (S64))), (0), (by first | rfl | (simp; done) | (simp [*]; done)), H', ⟨Nat.le_refl _⟩, ⟨by first | exact Kd.R_nil _ _ _ _ _ | exact Kd.N_nil _ _ _ _ _ | exact Kd.V_nil _ _ _ _ _ | exact Kd.Q_nil _ _ _ _ _ | exact Kd.S_nil _ _ _ _ _⟩, ⟨by repeat (first | (with_reducible first | exact HB.out | apply below_alloc | apply pw_below_drewN | apply below_drew1) | exact HB.out)⟩⟩
 case round =>
  clear H'
  obtain ⟨x3_1, x4_1, rfl, HA, HK1, HO_3, HB⟩ := hrel
  cases gk with
  | zero => exact absurd HA.out (by simp [rootcellarref5_row.l0])
  | succ k1 =>
   have H := HA.out
   clear HA
   simp only [rootcellarref5_row.l0] at H
   by_cases c2 : x4_1 < (l0.length : Int)
   ·rw [if_pos c2] at H
    have c2b0 : decide (x4_1 < (l0.length : Int)) = true := decide_eq_true c2
    clear c2
    by_cases c3 : 0 ≤ x4_1
    ·rw [if_pos c3] at H
     have c3b0 : decide (0 ≤ x4_1) = true := decide_eq_true c3
     clear c3
     obtain ⟨bq4, hbq4⟩ : ∃ b_ : Bool, b_ = (rdOf false l0 x4_1) := ⟨_, rfl⟩
     replace H : (if bq4 = true then (if x4_1 > 0 then (if 0 ≤ (wrap64 (x4_1 - 1)) then (if (wrap64 (x4_1 - 1)) < (l0.length : Int) then (if rdOf false l0 (wrap64 (x4_1 - 1)) = true then (if 0 ≤ (wrap64 ((x3_1.length : Int) - 1)) then (if (wrap64 ((x3_1.length : Int) - 1)) < (x3_1.length : Int) then (rootcellarref5_row.l0 k1 l0 (x3_1.set ((wrap64 ((x3_1.length : Int) - 1)) : Int).toNat (⟨(rd_T64 x3_1 (wrap64 ((x3_1.length : Int) - 1))).f0, wrap64 (((rd_T64 x3_1 (wrap64 ((x3_1.length : Int) - 1))).f1) + 1)⟩ : S64)) (wrap64 (x4_1 + 1))) else (none)) else (none)) else (if x3_1.length < 8796093022208 then (rootcellarref5_row.l0 k1 l0 (x3_1 ++ [(⟨x4_1, 1⟩ : S64)]) (wrap64 (x4_1 + 1))) else (none))) else (none)) else (none)) else (if x3_1.length < 8796093022208 then (rootcellarref5_row.l0 k1 l0 (x3_1 ++ [(⟨x4_1, 1⟩ : S64)]) (wrap64 (x4_1 + 1))) else (none))) else (rootcellarref5_row.l0 k1 l0 x3_1 (wrap64 (x4_1 + 1)))) = some r := by rw [← hbq4] at H; exact H
     have Nbq4 := Aside0.mk hbq4
     clear hbq4
     by_cases c5 : bq4 = true
     ·subst c5
      have H1 : (if x4_1 > 0 then (if 0 ≤ (wrap64 (x4_1 - 1)) then (if (wrap64 (x4_1 - 1)) < (l0.length : Int) then (if rdOf false l0 (wrap64 (x4_1 - 1)) = true then (if 0 ≤ (wrap64 ((x3_1.length : Int) - 1)) then (if (wrap64 ((x3_1.length : Int) - 1)) < (x3_1.length : Int) then (rootcellarref5_row.l0 k1 l0 (x3_1.set ((wrap64 ((x3_1.length : Int) - 1)) : Int).toNat (⟨(rd_T64 x3_1 (wrap64 ((x3_1.length : Int) - 1))).f0, wrap64 (((rd_T64 x3_1 (wrap64 ((x3_1.length : Int) - 1))).f1) + 1)⟩ : S64)) (wrap64 (x4_1 + 1))) else (none)) else (none)) else (if x3_1.length < 8796093022208 then (rootcellarref5_row.l0 k1 l0 (x3_1 ++ [(⟨x4_1, 1⟩ : S64)]) (wrap64 (x4_1 + 1))) else (none))) else (none)) else (none)) else (if x3_1.length < 8796093022208 then (rootcellarref5_row.l0 k1 l0 (x3_1 ++ [(⟨x4_1, 1⟩ : S64)]) (wrap64 (x4_1 + 1))) else (none))) = some r := by rw [if_pos rfl] at H; exact H
      clear H
      have H := H1
      clear H1
      by_cases c6 : x4_1 > 0
      ·rw [if_pos c6] at H
       have c6b0 : decide (0 < x4_1) = true := decide_eq_true c6
       clear c6
       obtain ⟨ji7, hji7⟩ : ∃ j_ : Int, (wrap64 (x4_1 - 1)) = j_ := ⟨_, rfl⟩
       replace H : (if 0 ≤ (ji7) then (if (ji7) < (l0.length : Int) then (if rdOf false l0 (ji7) = true then (if 0 ≤ (wrap64 ((x3_1.length : Int) - 1)) then (if (wrap64 ((x3_1.length : Int) - 1)) < (x3_1.length : Int) then (rootcellarref5_row.l0 k1 l0 (x3_1.set ((wrap64 ((x3_1.length : Int) - 1)) : Int).toNat (⟨(rd_T64 x3_1 (wrap64 ((x3_1.length : Int) - 1))).f0, wrap64 (((rd_T64 x3_1 (wrap64 ((x3_1.length : Int) - 1))).f1) + 1)⟩ : S64)) (wrap64 (x4_1 + 1))) else (none)) else (none)) else (if x3_1.length < 8796093022208 then (rootcellarref5_row.l0 k1 l0 (x3_1 ++ [(⟨x4_1, 1⟩ : S64)]) (wrap64 (x4_1 + 1))) else (none))) else (none)) else (none)) = some r := by first | (rw [hji7] at H; exact H) | (simp only [hji7] at H ⊢; exact H)
       have hji7w : (IntKind.i64.wrap (x4_1 - 1)) = ji7 := (i64_w _).trans hji7
       by_cases c8 : 0 ≤ (ji7)
       ·rw [if_pos c8] at H
        have c8b0 : decide (0 ≤ (ji7)) = true := decide_eq_true c8
        clear c8
        by_cases c9 : (ji7) < (l0.length : Int)
        ·rw [if_pos c9] at H
         have c9b0 : decide ((ji7) < (l0.length : Int)) = true := decide_eq_true c9
         clear c9
         obtain ⟨bq10, hbq10⟩ : ∃ b_ : Bool, b_ = (rdOf false l0 (ji7)) := ⟨_, rfl⟩
         replace H : (if bq10 = true then (if 0 ≤ (wrap64 ((x3_1.length : Int) - 1)) then (if (wrap64 ((x3_1.length : Int) - 1)) < (x3_1.length : Int) then (rootcellarref5_row.l0 k1 l0 (x3_1.set ((wrap64 ((x3_1.length : Int) - 1)) : Int).toNat (⟨(rd_T64 x3_1 (wrap64 ((x3_1.length : Int) - 1))).f0, wrap64 (((rd_T64 x3_1 (wrap64 ((x3_1.length : Int) - 1))).f1) + 1)⟩ : S64)) (wrap64 (x4_1 + 1))) else (none)) else (none)) else (if x3_1.length < 8796093022208 then (rootcellarref5_row.l0 k1 l0 (x3_1 ++ [(⟨x4_1, 1⟩ : S64)]) (wrap64 (x4_1 + 1))) else (none))) = some r := by rw [← hbq10] at H; exact H
         have Nbq10 := Aside0.mk hbq10
         clear hbq10
         by_cases c11 : bq10 = true
         ·subst c11
          have H1 : (if 0 ≤ (wrap64 ((x3_1.length : Int) - 1)) then (if (wrap64 ((x3_1.length : Int) - 1)) < (x3_1.length : Int) then (rootcellarref5_row.l0 k1 l0 (x3_1.set ((wrap64 ((x3_1.length : Int) - 1)) : Int).toNat (⟨(rd_T64 x3_1 (wrap64 ((x3_1.length : Int) - 1))).f0, wrap64 (((rd_T64 x3_1 (wrap64 ((x3_1.length : Int) - 1))).f1) + 1)⟩ : S64)) (wrap64 (x4_1 + 1))) else (none)) else (none)) = some r := by rw [if_pos rfl] at H; exact H
          clear H
          have H := H1
          clear H1
          obtain ⟨ji12, hji12⟩ : ∃ j_ : Int, (wrap64 ((x3_1.length : Int) - 1)) = j_ := ⟨_, rfl⟩
          replace H : (if 0 ≤ (ji12) then (if (ji12) < (x3_1.length : Int) then (rootcellarref5_row.l0 k1 l0 (x3_1.set ((ji12) : Int).toNat (⟨(rd_T64 x3_1 (ji12)).f0, wrap64 (((rd_T64 x3_1 (ji12)).f1) + 1)⟩ : S64)) (wrap64 (x4_1 + 1))) else (none)) else (none)) = some r := by first | (rw [hji12] at H; exact H) | (simp only [hji12] at H ⊢; exact H)
          have hji12w : (IntKind.i64.wrap ((x3_1.length : Int) - 1)) = ji12 := (i64_w _).trans hji12
          by_cases c13 : 0 ≤ (ji12)
          ·rw [if_pos c13] at H
           have c13b0 : decide (0 ≤ (ji12)) = true := decide_eq_true c13
           clear c13
           by_cases c14 : (ji12) < (x3_1.length : Int)
           ·rw [if_pos c14] at H
            have c14b0 : decide ((ji12) < (x3_1.length : Int)) = true := decide_eq_true c14
            clear c14
            obtain ⟨y215, hy215⟩ : ∃ y_ : List (S64), y_ = (x3_1.set ((ji12) : Int).toNat (⟨(rd_T64 x3_1 (ji12)).f0, wrap64 (((rd_T64 x3_1 (ji12)).f1) + 1)⟩ : S64)) := ⟨_, rfl⟩
            replace H : (rootcellarref5_row.l0 k1 l0 y215 (wrap64 (x4_1 + 1))) = some r := by first | (rw [hy215]; with_reducible exact H) | (have H2_ := (Option.bind_some _ _).symm.trans H; rw [hy215]; with_reducible exact H2_) | (have H2_ := (Option.bind_some _ _).symm.trans H; with_reducible exact H2_) | with_reducible exact H | (rw [hy215]; exact H) | exact H
            have Ny215 := Aside0.mk hy215
            clear hy215
            have H' := Aside0.mk H
            clear H
            have p212 : 0 ≤ (x4_1 : Int) := of_decide_eq_true asA
            have q212 : x4_1 < (l0.length : Int) := of_decide_eq_true asA
            obtain ⟨ad212, e212, hx212_0⟩ := Kd.at_bool HR0.out x4_1 p212 q212
            (try rw [← Nbq4.out] at hx212_0)
            (try rw [← Nbq10.out] at hx212_0)
            cases e212
            replace hx212_0 := (HB.out.cell (World.block_lt_of_cell? w _ hx212_0)).trans hx212_0
            replace p212 := eq_true p212
            replace q212 := eq_true q212
            have p213 : 0 ≤ ((ji7) : Int) := of_decide_eq_true asA
            have q213 : (ji7) < (l0.length : Int) := of_decide_eq_true asA
            obtain ⟨ad213, e213, hx213_0⟩ := Kd.at_bool HR0.out (ji7) p213 q213
            (try rw [← Nbq4.out] at hx213_0)
            (try rw [← Nbq10.out] at hx213_0)
            obtain rfl : ad212 = ad213 := (by injection e213)
            replace hx213_0 := (HB.out.cell (World.block_lt_of_cell? w _ hx213_0)).trans hx213_0
            replace p213 := eq_true p213
            replace q213 := eq_true q213
            obtain ⟨Ao16, co16, eo16⟩ := Kd.R_slice HO_3.out
            subst eo16
            have p214 : 0 ≤ ((ji12) : Int) := of_decide_eq_true asA
            have q214 : (ji12) < (x3_1.length : Int) := of_decide_eq_true asA
            obtain ⟨ad214, e214, hx214_0, hx214_1⟩ := at_T64 (Kd.R_reads' HO_3.out).2.2 (ji12) p214 q214
            cases e214
            replace p214 := eq_true p214
            replace q214 := eq_true q214
            have p15 : 0 ≤ ((ji12) : Int) := of_decide_eq_true asA
            have q15 : ((ji12) : Int) < ((x3_1.length : Int) : Int) := of_decide_eq_true asA
            obtain ⟨go15, co15, eo15, gb15, gl15, cl15, HG15⟩ := Kd.R_form HO_3.out (by omega)
            (first | cases eo15 | (injection eo15 with ea_ en_ ec_; (first | subst ea_ | (injection ea_ with ea_; subst ea_)); subst ec_; clear en_))
            have GB15 := Aside0.mk gb15
            have GG15 := Aside0.mk HG15
            clear gb15 gl15 HG15
            (first | simp only [add_plain] at hx214_0 | skip)
            (first | simp only [add_plain] at hx214_1 | skip)
            obtain ⟨ce15, hcl15, hM15, hcc15, hfr15⟩ := Kd.R_elem HO_3.out z64 ((ji12) : Int) p15 q15
            obtain rfl := k64_openM hM15
            have hx15_0 : wr.cell? ⟨go15, ((ji12) : Int).toNat * 2, none⟩ = some (.int .i64 ((rd_T64 x3_1 (ji12)).f0)) := hcc15 0 _ rfl
            have hx15_1 : wr.cell? ⟨go15, ((ji12) : Int).toNat * 2 + 1, none⟩ = some (.int .i64 ((rd_T64 x3_1 (ji12)).f1)) := hcc15 1 _ rfl
            have hf15_0 : wr.frozen? ⟨go15, ((ji12) : Int).toNat * 2, none⟩ = false := hfr15 0
            have hf15_1 : wr.frozen? ⟨go15, ((ji12) : Int).toNat * 2 + 1, none⟩ = false := hfr15 1
            clear hcl15 hcc15 hfr15 hM15
            replace p15 := eq_true p15
            replace q15 := eq_true q15
            have HX17 := Aside0.mk (show Kd.R k64 64 wr w.heap.size (fun _ => True) (.slice (some ⟨go15, 0, none⟩) x3_1.length co16) x3_1 from (kdR_ HO_3.out))
            obtain ⟨ce17, hcl17, hM17, hcc17, hfr17⟩ := Kd.R_elem HX17.out z64 ((ji12) : Int) (of_decide_eq_true asA) (by have h_ : ((ji12) : Int) < ((x3_1.length : Int) : Int) := of_decide_eq_true asA; first | exact h_ | (have e_ := (Kd.R_reads' HO_3.out).1; omega) | simpa using h_)
            obtain rfl := k64_openM hM17
            have HP17 := Kd.R_seg HX17.out ((ji12) : Int) (of_decide_eq_true asA) (by have h_ : ((ji12) : Int) < ((x3_1.length : Int) : Int) := of_decide_eq_true asA; first | exact h_ | (have e_ := (Kd.R_reads' HO_3.out).1; omega) | simpa using h_) (seg := [.int .i64 (wrap64 (((rd_T64 x3_1 (ji12)).f1) + 1))]) (j := 1) hcl17 hcc17 (show 2 ≤ 2 from by decide) (x' := (⟨(rd_T64 x3_1 (ji12)).f0, wrap64 (((rd_T64 x3_1 (ji12)).f1) + 1)⟩ : S64)) (k64_mkM _ _ _ (⟨(rd_T64 x3_1 (ji12)).f0, wrap64 (((rd_T64 x3_1 (ji12)).f1) + 1)⟩ : S64) ) (fun _ hk => hk)
            have hx17_1 := hcc17 1 _ rfl
            (try simp only [show (k64).sz = 2 from rfl, Nat.mul_one, Nat.add_zero] at hx17_1)
            have hf17_1 := hfr17 1
            (try simp only [show (k64).sz = 2 from rfl, Nat.mul_one, Nat.add_zero] at hf17_1)
            clear hcl17 hcc17 hfr17 hM17
            go_wp2_with (first | ((with_reducible refine gate_store (t := 3) (p := 38) rfl ?_); refine store_event (t := 3) (p := 38) (v := ?vo_w18) (w1 := (wr.setCell ⟨go15, ((ji12) : Int).toNat * 2 + 1, none⟩ (.int .i64 (wrap64 (((rd_T64 x3_1 (ji12)).f1) + 1))))) ?hg ?ho ?hn ?hr ?_; (case ho => rfl); (case hg => rfl); (case hn => rfl); (case hr => first | (go_simp; done) | (go_simp; rfl)); intro w18 hw; have hg : wr.grownBy w18 (some go15) := (by rw [hw]; exact HP17.2); have hp_ : Kd.R k64 64 w18 w.heap.size (fun _ => True) (.slice (some ⟨go15, 0, none⟩) x3_1.length co16) y215 := (by rw [hw, Ny215.out]; exact HP17.1); clear HP17; have n0_ := Aside0.mk (hp_); have n1_ := Aside0.mk ((by rw [hw]; exact below_set (HB.out) GB15.out : Below w.heap.size w w18)); clear HO_3; clear HB; have HO_3 := n0_; have HB := n1_; clear n0_ n1_; clear hg hw hp_))
            go_roundg k1
            case measure => have := HK1.out; omega
            case rel => exact ⟨(y215), (wrap64 (x4_1 + 1)), (by first | rfl | (simp; done) | (simp [*]; done)), H', ⟨by have := HK1.out; omega⟩, ⟨by (with_reducible repeat (first | apply Kd.R_alloc | apply Kd.R_drewN | apply Kd.R_drew)); exact HO_3.out⟩, ⟨by repeat (first | (with_reducible first | exact HB.out | apply below_alloc | apply pw_below_drewN | apply below_drew1) | exact HB.out)⟩⟩
           ·rw [if_neg c14] at H
            exact absurd H (by simp)
          ·rw [if_neg c13] at H
           exact absurd H (by simp)
         ·replace c11 := Bool.eq_false_iff.mpr c11
          subst c11
          have H1 : (if x3_1.length < 8796093022208 then (rootcellarref5_row.l0 k1 l0 (x3_1 ++ [(⟨x4_1, 1⟩ : S64)]) (wrap64 (x4_1 + 1))) else (none)) = some r := by rw [if_neg (show ¬ (false = true) by decide)] at H; exact H
          clear H
          have H := H1
          clear H1
          by_cases c19 : x3_1.length < 8796093022208
          ·rw [if_pos c19] at H
           have LMc19 := Aside0.mk c19
           clear c19
           obtain ⟨y216, hy216⟩ : ∃ y_ : List (S64), y_ = (x3_1 ++ [(⟨x4_1, 1⟩ : S64)]) := ⟨_, rfl⟩
           replace H : (rootcellarref5_row.l0 k1 l0 y216 (wrap64 (x4_1 + 1))) = some r := by first | (rw [hy216]; with_reducible exact H) | (have H2_ := (Option.bind_some _ _).symm.trans H; rw [hy216]; with_reducible exact H2_) | (have H2_ := (Option.bind_some _ _).symm.trans H; with_reducible exact H2_) | with_reducible exact H | (rw [hy216]; exact H) | exact H
           have Ny216 := Aside0.mk hy216
           clear hy216
           have H' := Aside0.mk H
           clear H
           have p212 : 0 ≤ (x4_1 : Int) := of_decide_eq_true asA
           have q212 : x4_1 < (l0.length : Int) := of_decide_eq_true asA
           obtain ⟨ad212, e212, hx212_0⟩ := Kd.at_bool HR0.out x4_1 p212 q212
           (try rw [← Nbq4.out] at hx212_0)
           (try rw [← Nbq10.out] at hx212_0)
           cases e212
           replace hx212_0 := (HB.out.cell (World.block_lt_of_cell? w _ hx212_0)).trans hx212_0
           replace p212 := eq_true p212
           replace q212 := eq_true q212
           have p213 : 0 ≤ ((ji7) : Int) := of_decide_eq_true asA
           have q213 : (ji7) < (l0.length : Int) := of_decide_eq_true asA
           obtain ⟨ad213, e213, hx213_0⟩ := Kd.at_bool HR0.out (ji7) p213 q213
           (try rw [← Nbq4.out] at hx213_0)
           (try rw [← Nbq10.out] at hx213_0)
           obtain rfl : ad212 = ad213 := (by injection e213)
           replace hx213_0 := (HB.out.cell (World.block_lt_of_cell? w _ hx213_0)).trans hx213_0
           replace p213 := eq_true p213
           replace q213 := eq_true q213
           go_wp2_with (first | ((with_reducible refine gate_builtin (b := .append) (xs := #[.tmp 39, .tmp 42]) rfl ?_); at_builtin; refine Kd.R_append k64 (w0 := w) w.heap.size rfl (.tmp 39) (.tmp 42) 41 64 (.agg #[(.int .i64 0), (.int .i64 0)]) 16 rfl Tryd.underlying41 info64 rfl (by decide) (by omega) u3 x3_1 (⟨x4_1, 1⟩ : S64) [.int .i64 x4_1, .int .i64 1] (fun _ => True) (fun _ => False) rfl rfl ?aP (fun _ hk => hk.elim) ?aF ?aO ?aB ?aS ?aL ?_; (case aP => exact k64_mkM _ _ _ (⟨x4_1, 1⟩ : S64)); (case aB => exact belA); (case aF => exact (fun _ _ => trivial)); (case aO => exact (kdR_ HO_3.out)); (case aS => exact (below_size belA)); (case aL => have := LMc19.out; omega); intro v217 w20 ho hb hg hat; rw [← Ny216.out] at ho; have n0_ := Aside0.mk (hb); have n1_ := Aside0.mk (ho); clear HB; clear HO_3; have HB := n0_; have HO218 := n1_; clear n0_ n1_; clear ho hb hg hat))
           go_roundg k1
           case measure => have := HK1.out; omega
           case rel => exact ⟨(y216), (wrap64 (x4_1 + 1)), (by first | rfl | (simp; done) | (simp [*]; done)), H', ⟨by have := HK1.out; omega⟩, ⟨by (with_reducible repeat (first | apply Kd.R_alloc | apply Kd.R_drewN | apply Kd.R_drew)); exact HO218.out⟩, ⟨by repeat (first | (with_reducible first | exact HB.out | apply below_alloc | apply pw_below_drewN | apply below_drew1) | exact HB.out)⟩⟩
          ·rw [if_neg c19] at H
           exact absurd H (by simp)
        ·rw [if_neg c9] at H
         exact absurd H (by simp)
       ·rw [if_neg c8] at H
        exact absurd H (by simp)
      ·rw [if_neg c6] at H
       have c6b0 : decide (0 < x4_1) = false := decide_eq_false c6
       clear c6
       by_cases c21 : x3_1.length < 8796093022208
       ·rw [if_pos c21] at H
        have LMc21 := Aside0.mk c21
        clear c21
        obtain ⟨y219, hy219⟩ : ∃ y_ : List (S64), y_ = (x3_1 ++ [(⟨x4_1, 1⟩ : S64)]) := ⟨_, rfl⟩
        replace H : (rootcellarref5_row.l0 k1 l0 y219 (wrap64 (x4_1 + 1))) = some r := by first | (rw [hy219]; with_reducible exact H) | (have H2_ := (Option.bind_some _ _).symm.trans H; rw [hy219]; with_reducible exact H2_) | (have H2_ := (Option.bind_some _ _).symm.trans H; with_reducible exact H2_) | with_reducible exact H | (rw [hy219]; exact H) | exact H
        have Ny219 := Aside0.mk hy219
        clear hy219
        have H' := Aside0.mk H
        clear H
        have p212 : 0 ≤ (x4_1 : Int) := of_decide_eq_true asA
        have q212 : x4_1 < (l0.length : Int) := of_decide_eq_true asA
        obtain ⟨ad212, e212, hx212_0⟩ := Kd.at_bool HR0.out x4_1 p212 q212
        (try rw [← Nbq4.out] at hx212_0)
        cases e212
        replace hx212_0 := (HB.out.cell (World.block_lt_of_cell? w _ hx212_0)).trans hx212_0
        replace p212 := eq_true p212
        replace q212 := eq_true q212
        go_wp2_with (first | ((with_reducible refine gate_builtin (b := .append) (xs := #[.tmp 39, .tmp 42]) rfl ?_); at_builtin; refine Kd.R_append k64 (w0 := w) w.heap.size rfl (.tmp 39) (.tmp 42) 41 64 (.agg #[(.int .i64 0), (.int .i64 0)]) 16 rfl Tryd.underlying41 info64 rfl (by decide) (by omega) u3 x3_1 (⟨x4_1, 1⟩ : S64) [.int .i64 x4_1, .int .i64 1] (fun _ => True) (fun _ => False) rfl rfl ?aP (fun _ hk => hk.elim) ?aF ?aO ?aB ?aS ?aL ?_; (case aP => exact k64_mkM _ _ _ (⟨x4_1, 1⟩ : S64)); (case aB => exact belA); (case aF => exact (fun _ _ => trivial)); (case aO => exact (kdR_ HO_3.out)); (case aS => exact (below_size belA)); (case aL => have := LMc21.out; omega); intro v220 w22 ho hb hg hat; rw [← Ny219.out] at ho; have n0_ := Aside0.mk (hb); have n1_ := Aside0.mk (ho); clear HB; clear HO_3; have HB := n0_; have HO221 := n1_; clear n0_ n1_; clear ho hb hg hat))
        go_roundg k1
        case measure => have := HK1.out; omega
        case rel => exact ⟨(y219), (wrap64 (x4_1 + 1)), (by first | rfl | (simp; done) | (simp [*]; done)), H', ⟨by have := HK1.out; omega⟩, ⟨by (with_reducible repeat (first | apply Kd.R_alloc | apply Kd.R_drewN | apply Kd.R_drew)); exact HO221.out⟩, ⟨by repeat (first | (with_reducible first | exact HB.out | apply below_alloc | apply pw_below_drewN | apply below_drew1) | exact HB.out)⟩⟩
       ·rw [if_neg c21] at H
        exact absurd H (by simp)
     ·replace c5 := Bool.eq_false_iff.mpr c5
      subst c5
      have H1 : (rootcellarref5_row.l0 k1 l0 x3_1 (wrap64 (x4_1 + 1))) = some r := by rw [if_neg (show ¬ (false = true) by decide)] at H; exact H
      clear H
      have H := H1
      clear H1
      have H' := Aside0.mk H
      clear H
      have p212 : 0 ≤ (x4_1 : Int) := of_decide_eq_true asA
      have q212 : x4_1 < (l0.length : Int) := of_decide_eq_true asA
      obtain ⟨ad212, e212, hx212_0⟩ := Kd.at_bool HR0.out x4_1 p212 q212
      (try rw [← Nbq4.out] at hx212_0)
      cases e212
      replace hx212_0 := (HB.out.cell (World.block_lt_of_cell? w _ hx212_0)).trans hx212_0
      replace p212 := eq_true p212
      replace q212 := eq_true q212
      go_wp2
      go_roundg k1
      case measure => have := HK1.out; omega
      case rel => exact ⟨(x3_1), (wrap64 (x4_1 + 1)), (by first | rfl | (simp; done) | (simp [*]; done)), H', ⟨by have := HK1.out; omega⟩, ⟨by (with_reducible repeat (first | apply Kd.R_alloc | apply Kd.R_drewN | apply Kd.R_drew)); exact HO_3.out⟩, ⟨by repeat (first | (with_reducible first | exact HB.out | apply below_alloc | apply pw_below_drewN | apply below_drew1) | exact HB.out)⟩⟩
    ·rw [if_neg c3] at H
     exact absurd H (by simp)
   ·rw [if_neg c2] at H
    have c2b0 : decide (x4_1 < (l0.length : Int)) = false := decide_eq_false c2
    clear c2
    obtain rfl := Option.some.inj H
    go_wp2
    go_ret
    exact ⟨_, by first | rfl | (simp [errW_none, errW_some] <;> rfl) | (simp [*, errW_none, errW_some] <;> rfl), by (with_reducible repeat (first | apply Kd.R_alloc | apply Kd.R_drewN | apply Kd.R_drew)); exact HO_3.out, by repeat (first | (with_reducible first | exact HB.out | apply below_alloc | apply pw_below_drewN | apply below_drew1) | exact HB.out)⟩
def rootcellarref5_Norm.f (k : Nat) (l0 : List (S64)) (a1 : Int) : Option ((List (S64)) × Int) := (rootcellarref5_marks.f k l0 a1).bind fun bt222 => (if bt222.2 = 0 then ((rootcellarref5_row.f k bt222.1).bind fun t226 => (some (t226, 0))) else (some (([] : List (S64)), bt222.2)))
set_option maxHeartbeats 8000000 in
set_option maxRecDepth 100000 in
theorem rootcellarref5_Norm.calls (k : Nat) (A0 : Option Addr) (c0 : Nat) (l0 : List (S64)) (a1 : Int) (r1 : List (S64)) (r2 : Int) (w : World) (hr0 : Kd.C k64 w A0 l0.length l0) (hc0 : l0.length ≤ c0) (h : rootcellarref5_Norm.f k l0 a1 = some (r1, r2)) :
  Calls Tryd.prog 57 #[.slice A0 l0.length c0, .int .i64 a1] w fun e w' => ∃ v0_ : Value, e = .returned (.tuple #[v0_, .int .i64 r2]) ∧ Kd.R k64 64 w' w.heap.size (fun _ => True) v0_ r1 ∧ Below w.heap.size w w' := by
 have HR0 := Aside0.mk hr0
 have HC0 := Aside0.mk hc0
 clear hr0 hc0
 have HB := Aside0.mk (Below.refl w.heap.size w)
 have H : ((rootcellarref5_marks.f k l0 a1).bind fun bt222 => (if bt222.2 = 0 then ((rootcellarref5_row.f k bt222.1).bind fun t226 => (some (t226, 0))) else (some (([] : List (S64)), bt222.2)))) = some (r1, r2) := h
 clear h
 replace H := Option.bind_eq_some_iff.mp H
 obtain ⟨⟨t222, t223⟩, A30, H⟩ := H
 replace H : (if t223 = 0 then ((rootcellarref5_row.f k t222).bind fun t226 => (some (t226, 0))) else (some (([] : List (S64)), t223))) = some (r1, r2) := H
 have A3 := Aside0.mk A30
 clear A30
 by_cases c4 : t223 = 0
 ·rw [if_pos c4] at H
  have c4b0 : (t223 == 0) = true := beq_iff_eq.mpr c4
  have c4b1 : (t223 != 0) = false := bne_eq_false_iff_eq.mpr c4
  clear c4
  replace H := Option.bind_eq_some_iff.mp H
  obtain ⟨t226, A50, H⟩ := H
  replace H : (some (t226, 0)) = some (r1, r2) := H
  have A5 := Aside0.mk A50
  clear A50
  simp only [Option.some.injEq, Prod.mk.injEq] at H
  obtain ⟨rfl, rfl⟩ := H
  go_enter Tryd.func57, Tryd.ntmps57
  go_wp2_with (first | ((with_reducible refine gate_callee (f := 76) rfl ?_); refine goesL_ (some 11) rfl rfl Tryd.func76 (by kernel_rfl) rfl #[.slice A0 l0.length c0, .int .i64 a1] rfl argA ?_; (with_reducible refine (rootcellarref5_marks.calls k _ _ l0 a1 t222 t223 _ ?side1 ?side2 A3.out).mono ?_); (case side1 => repeat (first | exact HR0.out | (with_reducible refine Kd.C_alloc ?_ _) | (with_reducible refine Kd.C_drewN ?_ _) | (with_reducible refine Kd.C_drew ?_))); (case side2 => exact HC0.out); rintro e w6 ⟨v224, rfl, ho0, hb⟩; refine ⟨_, rfl, ?_⟩; have n0_ := Aside0.mk (Kd.R_lower ho0 (below_size belA)); have n1_ := Aside0.mk (below_step belA hb); clear HB; have HO225 := n0_; have HB := n1_; clear n0_ n1_; (try clear hb); (try clear hb2); (try clear hk); (try clear hi); (try clear ho0); obtain ⟨Ao7, co7, eo7⟩ := Kd.R_slice HO225.out; subst eo7) | ((with_reducible refine gate_callee (f := 77) rfl ?_); refine goesL_ (some 18) rfl rfl Tryd.func77 (by kernel_rfl) rfl #[.slice Ao7 t222.length co7] rfl argA ?_; (with_reducible refine (rootcellarref5_row.calls k _ _ t222 t226 _ ?side1 ?side2 A5.out).mono ?_); (case side1 => repeat (first | exact (Kd.R_reads' HO225.out).2.2 | (with_reducible refine Kd.C_alloc ?_ _) | (with_reducible refine Kd.C_drewN ?_ _) | (with_reducible refine Kd.C_drew ?_))); (case side2 => exact (Kd.R_reads' HO225.out).2.1); rintro e w8 ⟨v227, rfl, ho0, hb⟩; refine ⟨_, rfl, ?_⟩; have n0_ := Aside0.mk (Kd.R_below (kdR_ HO225.out) hb); have n1_ := Aside0.mk (Kd.R_lower ho0 (below_size belA)); have n2_ := Aside0.mk (below_step belA hb); clear HO225; clear HB; have HO225 := n0_; have HO228 := n1_; have HB := n2_; clear n0_ n1_ n2_; (try clear hb); (try clear hb2); (try clear hk); (try clear hi); (try clear ho0)))
  go_ret2
  exact ⟨_, by first | rfl | (simp [errW_none, errW_some] <;> rfl) | (simp [*, errW_none, errW_some] <;> rfl), by (with_reducible repeat (first | apply Kd.R_alloc | apply Kd.R_drewN | apply Kd.R_drew)); exact HO228.out, by repeat (first | (with_reducible first | exact HB.out | apply below_alloc | apply pw_below_drewN | apply below_drew1) | exact HB.out)⟩
 ·rw [if_neg c4] at H
  have c4b0 : (t223 == 0) = false := beq_eq_false_iff_ne.mpr c4
  have c4b1 : (t223 != 0) = true := bne_iff_ne.mpr c4
  simp only [Option.some.injEq, Prod.mk.injEq] at H
  obtain ⟨rfl, rfl⟩ := H
  go_enter Tryd.func57, Tryd.ntmps57
  go_wp2_with (first | ((with_reducible refine gate_callee (f := 76) rfl ?_); refine goesL_ (some 11) rfl rfl Tryd.func76 (by kernel_rfl) rfl #[.slice A0 l0.length c0, .int .i64 a1] rfl argA ?_; (with_reducible refine (rootcellarref5_marks.calls k _ _ l0 a1 t222 t223 _ ?side1 ?side2 A3.out).mono ?_); (case side1 => repeat (first | exact HR0.out | (with_reducible refine Kd.C_alloc ?_ _) | (with_reducible refine Kd.C_drewN ?_ _) | (with_reducible refine Kd.C_drew ?_))); (case side2 => exact HC0.out); rintro e w9 ⟨v224, rfl, ho0, hb⟩; refine ⟨_, rfl, ?_⟩; have n0_ := Aside0.mk (Kd.R_lower ho0 (below_size belA)); have n1_ := Aside0.mk (below_step belA hb); clear HB; have HO225 := n0_; have HB := n1_; clear n0_ n1_; (try clear hb); (try clear hb2); (try clear hk); (try clear hi); (try clear ho0)))
  go_ret2
  exact ⟨_, by first | rfl | (simp [errW_none, errW_some] <;> rfl) | (simp [*, errW_none, errW_some] <;> rfl), by first | exact Kd.R_nil _ _ _ _ _ | exact Kd.N_nil _ _ _ _ _ | exact Kd.V_nil _ _ _ _ _ | exact Kd.Q_nil _ _ _ _ _ | exact Kd.S_nil _ _ _ _ _, by repeat (first | (with_reducible first | exact HB.out | apply below_alloc | apply pw_below_drewN | apply below_drew1) | exact HB.out)⟩
end Go.Proofs.YtppbcankhkgpfaaDoor.PDq
