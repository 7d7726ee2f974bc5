-- laid by gprint.py (this session's own program) out of the translation: Lean checks it
import Derived.Test.YtjmplchknbgmgaaPSpanx0
import Derived.Test.YtjmplchknbgmgaaPSpanx2
import Derived.Test.YtjmplchknbgmgaaPSpanx15
namespace Go.Proofs.Ytjmplchknbgmgaa.PSpan
open Go.RowKit Go.Proofs.YtjmplchknbgmgaaW.PrintWords Go.Proofs.YtjmplchknbgmgaaW.PrintLast Go.Proofs.YtjmplchknbgmgaaW.PrintMore
attribute [local go_sem] max2_int min2_int max_two min_two max_three min_three max_four min_four   -- for this text's walks alone
set_option linter.unusedVariables false
set_option linter.unusedSimpArgs false

/-! ### rootcellarref5_Take: function 12 -/
mutual
def rootcellarref5_Take.j0 : Nat → List (S32) → Int → Bool → Option ((List (S32)) × (List (S32)) × Bool)
  | 0, _, _, _ => none
  | k + 1, x0, x1, x18 => if x18 = true then (some (([] : List (S32)), ([] : List (S32)), false)) else (if 8192 ≤ 281474976710656 then (rootcellarref5_Take.l0 k x0 x1 (List.replicate 8192 false) (List.replicate 8192 false) 0) else (none))
def rootcellarref5_Take.l0 : Nat → List (S32) → Int → List Bool → List Bool → Int → Option ((List (S32)) × (List (S32)) × Bool)
  | 0, _, _, _, _, _ => none
  | k + 1, x0, x1, x7, x8, x9 => if x9 < (x0.length : Int) then (if 0 ≤ x9 then (rootcellarref5_Take.l1 k x0 x1 x7 x8 x9 ((rd_T32 x0 x9).f0)) else (none)) else ((rootcellarref5_row.f k x7).bind fun t175 => ((rootcellarref5_row.f k x8).bind fun t178 => (some (t175, t178, true))))
def rootcellarref5_Take.l1 : Nat → List (S32) → Int → List Bool → List Bool → Int → Int → Option ((List (S32)) × (List (S32)) × Bool)
  | 0, _, _, _, _, _, _ => none
  | k + 1, x0, x1, x7, x8, x9, x10 => if 0 ≤ x9 then (if x9 < (x0.length : Int) then (if x10 < (wrap64 (((rd_T32 x0 x9).f0) + ((rd_T32 x0 x9).f1))) then (if x1 > 0 then (if 0 ≤ x10 then (if x10 < (x7.length : Int) then (rootcellarref5_Take.l1 k x0 (wrap64 (x1 - 1)) (x7.set (x10 : Int).toNat true) x8 x9 (wrap64 (x10 + 1))) else (none)) else (none)) else (if 0 ≤ x10 then (if x10 < (x8.length : Int) then (rootcellarref5_Take.l1 k x0 x1 x7 (x8.set (x10 : Int).toNat true) x9 (wrap64 (x10 + 1))) else (none)) else (none))) else (rootcellarref5_Take.l0 k x0 x1 x7 x8 (wrap64 (x9 + 1)))) else (none)) else (none)
end
def rootcellarref5_Take.f (k : Nat) (l0 : List (S32)) (a1 : Int) : Option ((List (S32)) × (List (S32)) × Bool) := if a1 < 0 then (rootcellarref5_Take.j0 k l0 a1 true) else ((rootcellarref5_Total.f k l0).bind fun t163 => (rootcellarref5_Take.j0 k l0 a1 (decide (a1 > t163))))
theorem rootcellarref5_Take.mono_l : ∀ k, (∀ y0 y1 y2, LeO (rootcellarref5_Take.j0 k y0 y1 y2) (rootcellarref5_Take.j0 (k + 1) y0 y1 y2)) ∧ (∀ y0 y1 y2 y3 y4, LeO (rootcellarref5_Take.l0 k y0 y1 y2 y3 y4) (rootcellarref5_Take.l0 (k + 1) y0 y1 y2 y3 y4)) ∧ (∀ y0 y1 y2 y3 y4 y5, LeO (rootcellarref5_Take.l1 k y0 y1 y2 y3 y4 y5) (rootcellarref5_Take.l1 (k + 1) y0 y1 y2 y3 y4 y5))
  | 0 => ⟨fun _ _ _ r h => by simp [rootcellarref5_Take.j0] at h, fun _ _ _ _ _ r h => by simp [rootcellarref5_Take.l0] at h, fun _ _ _ _ _ _ r h => by simp [rootcellarref5_Take.l1] at h⟩
  | k + 1 => by
    obtain ⟨ih0, ih1, ih2⟩ := rootcellarref5_Take.mono_l k
    refine ⟨?_, ?_, ?_⟩
    · intro y0 y1 y2
      unfold rootcellarref5_Take.j0
      repeat' first
      | (with_reducible exact ih0 _ _ _)
      | (with_reducible exact ih1 _ _ _ _ _)
      | (with_reducible exact ih2 _ _ _ _ _ _)
      | (with_reducible exact rootcellarref5_Total.mono _ _)
      | (with_reducible exact rootcellarref5_row.mono _ _)
      | (with_reducible exact LeO.refl _)
      | (with_reducible exact LeO.none _)
      | (with_reducible refine LeO.ite ?_ ?_)
      | (with_reducible refine LeO.bind ?_ (fun _ => ?_))
      | exact ih0 _ _ _
      | exact ih1 _ _ _ _ _
      | exact ih2 _ _ _ _ _ _
      | exact rootcellarref5_Total.mono _ _
      | exact rootcellarref5_row.mono _ _
      | exact LeO.none _
      | refine LeO.ite ?_ ?_
      | refine LeO.bind ?_ (fun _ => ?_)
    · intro y0 y1 y2 y3 y4
      unfold rootcellarref5_Take.l0
      repeat' first
      | (with_reducible exact ih0 _ _ _)
      | (with_reducible exact ih1 _ _ _ _ _)
      | (with_reducible exact ih2 _ _ _ _ _ _)
      | (with_reducible exact rootcellarref5_Total.mono _ _)
      | (with_reducible exact rootcellarref5_row.mono _ _)
      | (with_reducible exact LeO.refl _)
      | (with_reducible exact LeO.none _)
      | (with_reducible refine LeO.ite ?_ ?_)
      | (with_reducible refine LeO.bind ?_ (fun _ => ?_))
      | exact ih0 _ _ _
      | exact ih1 _ _ _ _ _
      | exact ih2 _ _ _ _ _ _
      | exact rootcellarref5_Total.mono _ _
      | exact rootcellarref5_row.mono _ _
      | exact LeO.none _
      | refine LeO.ite ?_ ?_
      | refine LeO.bind ?_ (fun _ => ?_)
    · intro y0 y1 y2 y3 y4 y5
      unfold rootcellarref5_Take.l1
      repeat' first
      | (with_reducible exact ih0 _ _ _)
      | (with_reducible exact ih1 _ _ _ _ _)
      | (with_reducible exact ih2 _ _ _ _ _ _)
      | (with_reducible exact rootcellarref5_Total.mono _ _)
      | (with_reducible exact rootcellarref5_row.mono _ _)
      | (with_reducible exact LeO.refl _)
      | (with_reducible exact LeO.none _)
      | (with_reducible refine LeO.ite ?_ ?_)
      | (with_reducible refine LeO.bind ?_ (fun _ => ?_))
      | exact ih0 _ _ _
      | exact ih1 _ _ _ _ _
      | exact ih2 _ _ _ _ _ _
      | exact rootcellarref5_Total.mono _ _
      | exact rootcellarref5_row.mono _ _
      | exact LeO.none _
      | refine LeO.ite ?_ ?_
      | refine LeO.bind ?_ (fun _ => ?_)
theorem rootcellarref5_Take.mono : ∀ a0 a1 k, LeO (rootcellarref5_Take.f k a0 a1) (rootcellarref5_Take.f (k + 1) a0 a1) := by
  intro a0 a1 k
  obtain ⟨ih0, ih1, ih2⟩ := rootcellarref5_Take.mono_l k
  unfold rootcellarref5_Take.f
  repeat' first
      | (with_reducible exact ih0 _ _ _)
      | (with_reducible exact ih1 _ _ _ _ _)
      | (with_reducible exact ih2 _ _ _ _ _ _)
      | (with_reducible exact rootcellarref5_Total.mono _ _)
      | (with_reducible exact rootcellarref5_row.mono _ _)
      | (with_reducible exact LeO.refl _)
      | (with_reducible exact LeO.none _)
      | (with_reducible refine LeO.ite ?_ ?_)
      | (with_reducible refine LeO.bind ?_ (fun _ => ?_))
      | exact ih0 _ _ _
      | exact ih1 _ _ _ _ _
      | exact ih2 _ _ _ _ _ _
      | exact rootcellarref5_Total.mono _ _
      | exact rootcellarref5_row.mono _ _
      | exact LeO.none _
      | refine LeO.ite ?_ ?_
      | refine LeO.bind ?_ (fun _ => ?_)
set_option maxHeartbeats 8000000 in
set_option maxRecDepth 100000 in
theorem rootcellarref5_Take.calls (k : Nat) (A0 : Option Addr) (c0 : Nat) (l0 : List (S32)) (a1 : Int) (r1 : List (S32)) (r2 : List (S32)) (r3 : Bool) (w : World) (hr0 : Kd.C k32 w A0 l0.length l0) (hc0 : l0.length ≤ c0) (h : rootcellarref5_Take.f k l0 a1 = some (r1, r2, r3)) :
    Calls Try.prog 12 #[.slice A0 l0.length c0, .int .i64 a1] w fun e w' => ∃ v0_ v1_ : Value, e = .returned (.tuple #[v0_, v1_, .bool r3]) ∧ Kd.R k32 32 w' w.heap.size (fun k_ => some k_ ≠ (v1_ : Value).ownBlock) v0_ r1 ∧ Kd.R k32 32 w' w.heap.size (fun k_ => some k_ ≠ (v0_ : Value).ownBlock) v1_ r2 ∧ Below w.heap.size w w' := by
  have HR0 := Aside0.mk hr0
  have HC0 := Aside0.mk hc0
  clear hr0 hc0
  have HB := Aside0.mk (Below.refl w.heap.size w)
  have H : (if a1 < 0 then (rootcellarref5_Take.j0 k l0 a1 true) else ((rootcellarref5_Total.f k l0).bind fun t163 => (rootcellarref5_Take.j0 k l0 a1 (decide (a1 > t163))))) = some (r1, r2, r3) := h
  clear h
  have HC3 := Aside0.mk H
  clear H
  go_enter Try.func12, Try.ntmps12
  go_upto_region 1 with (fail)
  repeat (go_quiet (fail); go_upto_region 1 with (fail))
  go_cut [18] (fun v18 wc => ∃ (kq : Nat) (x18_2 : Bool), v18 = .bool x18_2 ∧ Aside0 (rootcellarref5_Take.j0 kq l0 a1 x18_2 = some (r1, r2, r3)) ∧ Aside0 (kq ≤ k) ∧ Aside0 (Below w.heap.size w wc))
  case first =>
    have H := HC3.out
    clear HC3
    by_cases c4 : a1 < 0
    · rw [if_pos c4] at H
      have c4b0 : decide (a1 < 0) = true := decide_eq_true c4
      clear c4
      (first | rw [c4b0] | (simp only [i64_w, i32_w]; rw [c4b0]) | skip)
      have H' := Aside0.mk H
      clear H
      go_wp2
      repeat (go_quiet (fail); try go_wp2)
      go_meet
      case rel => exact ⟨_, (true), (by first | rfl | (simp; done) | (simp [*]; done)), H', ⟨by first | omega | exact Nat.le_refl _⟩, ⟨by repeat (first | (with_reducible first | exact HB.out | apply below_alloc | apply pw_below_drewN | apply below_drew1) | exact HB.out)⟩⟩
    · rw [if_neg c4] at H
      have c4b0 : decide (a1 < 0) = false := decide_eq_false c4
      clear c4
      (first | rw [c4b0] | (simp only [i64_w, i32_w]; rw [c4b0]) | skip)
      replace H := Option.bind_eq_some_iff.mp H
      obtain ⟨t163, A50, H⟩ := H
      replace H : (rootcellarref5_Take.j0 k l0 a1 (decide (a1 > t163))) = some (r1, r2, r3) := H
      have A5 := Aside0.mk A50
      clear A50
      have H' := Aside0.mk H
      clear H
      go_wp2_with (first | (go_at_call 20; (with_reducible refine (rootcellarref5_Total.calls k _ _ l0 t163 _ ?side1 ?side2 A5.out).mono ?_); (case side1 => repeat (first | exact (Kd.C_below HR0.out HB.out) | (with_reducible refine Kd.C_alloc ?_ _) | (with_reducible refine Kd.C_drewN ?_ _) | (with_reducible refine Kd.C_drew ?_))); (case side2 => exact HC0.out); rintro e w6 ⟨rfl, hb⟩; have n0_ := Aside0.mk (below_step (by repeat (first | (with_reducible first | exact HB.out | apply below_alloc | apply pw_below_drewN | apply below_drew1) | exact HB.out)) hb); clear HB; have HB := n0_; clear n0_; (try clear hb); (try clear hb2); (try clear hk); (try clear hi)))
      repeat (go_quiet (first | (go_at_call 20; (with_reducible refine (rootcellarref5_Total.calls k _ _ l0 t163 _ ?side1 ?side2 A5.out).mono ?_); (case side1 => repeat (first | exact (Kd.C_below HR0.out HB.out) | (with_reducible refine Kd.C_alloc ?_ _) | (with_reducible refine Kd.C_drewN ?_ _) | (with_reducible refine Kd.C_drew ?_))); (case side2 => exact HC0.out); rintro e w6 ⟨rfl, hb⟩; have n0_ := Aside0.mk (below_step (by repeat (first | (with_reducible first | exact HB.out | apply below_alloc | apply pw_below_drewN | apply below_drew1) | exact HB.out)) hb); clear HB; have HB := n0_; clear n0_; (try clear hb); (try clear hb2); (try clear hk); (try clear hi))); try go_wp2_with (first | (go_at_call 20; (with_reducible refine (rootcellarref5_Total.calls k _ _ l0 t163 _ ?side1 ?side2 A5.out).mono ?_); (case side1 => repeat (first | exact (Kd.C_below HR0.out HB.out) | (with_reducible refine Kd.C_alloc ?_ _) | (with_reducible refine Kd.C_drewN ?_ _) | (with_reducible refine Kd.C_drew ?_))); (case side2 => exact HC0.out); rintro e w6 ⟨rfl, hb⟩; have n0_ := Aside0.mk (below_step (by repeat (first | (with_reducible first | exact HB.out | apply below_alloc | apply pw_below_drewN | apply below_drew1) | exact HB.out)) hb); clear HB; have HB := n0_; clear n0_; (try clear hb); (try clear hb2); (try clear hk); (try clear hi))))
      go_meet
      case rel => exact ⟨_, (decide (a1 > t163)), (by first | rfl | (simp; done) | (simp [*]; done)), H', ⟨by first | omega | exact Nat.le_refl _⟩, ⟨by repeat (first | (with_reducible first | exact HB.out | apply below_alloc | apply pw_below_drewN | apply below_drew1) | exact HB.out)⟩⟩
  case rest =>
    clear HC3
    try clear c1
    try clear p2
    try clear c4
    try clear c4b0
    obtain ⟨kq, x18_2, rfl, HA, HJ2, HB⟩ := hcut
    cases kq with
    | zero => exact absurd HA.out (by simp [rootcellarref5_Take.j0])
    | succ kj2 =>
      have H := HA.out
      clear HA
      simp only [rootcellarref5_Take.j0] at H
      by_cases c7 : x18_2 = true
      · subst c7
        have H1 : (some (([] : List (S32)), ([] : List (S32)), false)) = some (r1, r2, r3) := by rw [if_pos rfl] at H; exact H
        clear H
        have H := H1
        clear H1
        simp only [Option.some.injEq, Prod.mk.injEq] at H
        obtain ⟨rfl, rfl, rfl⟩ := H
        go_wp2
        repeat (go_quiet (fail); try go_wp2)
        go_ret3
        exact ⟨_, _, by first | rfl | (simp [errW_none, errW_some] <;> rfl) | (simp [*, errW_none, errW_some] <;> rfl), by first | exact Kd.R_nil _ _ _ _ _ | exact Kd.N_nil _ _ _ _ _ | exact Kd.V_nil _ _ _ _ _ | exact Kd.Q_nil _ _ _ _ _ | exact Kd.S_nil _ _ _ _ _, by first | exact Kd.R_nil _ _ _ _ _ | exact Kd.N_nil _ _ _ _ _ | exact Kd.V_nil _ _ _ _ _ | exact Kd.Q_nil _ _ _ _ _ | exact Kd.S_nil _ _ _ _ _, by repeat (first | (with_reducible first | exact HB.out | apply below_alloc | apply pw_below_drewN | apply below_drew1) | exact HB.out)⟩
      · replace c7 := Bool.eq_false_iff.mpr c7
        subst c7
        have H1 : (if 8192 ≤ 281474976710656 then (rootcellarref5_Take.l0 kj2 l0 a1 (List.replicate 8192 false) (List.replicate 8192 false) 0) else (none)) = some (r1, r2, r3) := by rw [if_neg (show ¬ (false = true) by decide)] at H; exact H
        clear H
        have H := H1
        clear H1
        by_cases c8 : 8192 ≤ 281474976710656
        · rw [if_pos c8] at H
          have c8b0 := eq_true c8
          have c8b1 : decide (8192 ≤ 281474976710656) = true := decide_eq_true c8
          clear c8
          obtain ⟨y164, hy164⟩ : ∃ y_ : List Bool, y_ = (List.replicate 8192 false) := ⟨_, rfl⟩
          replace H : (rootcellarref5_Take.l0 kj2 l0 a1 y164 (List.replicate 8192 false) 0) = some (r1, r2, r3) := by first | (rw [hy164]; with_reducible exact H) | (have H2_ := (Option.bind_some _ _).symm.trans H; rw [hy164]; with_reducible exact H2_) | (have H2_ := (Option.bind_some _ _).symm.trans H; with_reducible exact H2_) | with_reducible exact H | (rw [hy164]; exact H) | exact H
          have Ny164 := Aside0.mk hy164
          clear hy164
          obtain ⟨y167, hy167⟩ : ∃ y_ : List Bool, y_ = (List.replicate 8192 false) := ⟨_, rfl⟩
          replace H : (rootcellarref5_Take.l0 kj2 l0 a1 y164 y167 0) = some (r1, r2, r3) := by first | (rw [hy167]; with_reducible exact H) | (have H2_ := (Option.bind_some _ _).symm.trans H; rw [hy167]; with_reducible exact H2_) | (have H2_ := (Option.bind_some _ _).symm.trans H; with_reducible exact H2_) | with_reducible exact H | (rw [hy167]; exact H) | exact H
          have Ny167 := Aside0.mk hy167
          clear hy167
          have H' := Aside0.mk H
          clear H
          go_wp2_with (first | ((with_reducible refine gate_dst (N := 19) rfl ?_); refine Kd.R_make Kd.bool _ 4 rfl (N := 19) rfl 40 _ _ rfl 8192 rfl rfl Try.underlying40 (.bool false) 1 info4 rfl (by decide) (by omega) false (ok := fun _ => True) (okp := fun _ => True) rfl (fun _ hk => hk) trivial (by omega) (by omega) (Below.refl _ _) (Nat.le_refl _) ?_; intro v165 w9 ho10 hb hg_ hnew_; clear hg_ hnew_; (first | rw [← Ny164.out] at ho10 | (simp only [Int.reduceToNat] at ho10; rw [← Ny164.out] at ho10)); have n0_ := Aside0.mk (Kd.R_lower ho10 (below_size (by repeat (first | (with_reducible first | exact HB.out | apply below_alloc | apply pw_below_drewN | apply below_drew1) | exact HB.out)))); have n1_ := Aside0.mk (below_step (by repeat (first | (with_reducible first | exact HB.out | apply below_alloc | apply pw_below_drewN | apply below_drew1) | exact HB.out)) hb); clear HB; have HO166 := n0_; have HB := n1_; clear n0_ n1_; clear hb ho10) | ((with_reducible refine gate_dst (N := 20) rfl ?_); refine Kd.R_make Kd.bool _ 4 rfl (N := 20) rfl 40 _ _ rfl 8192 rfl rfl Try.underlying40 (.bool false) 1 info4 rfl (by decide) (by omega) false (ok := fun _ => True) (okp := fun _ => True) rfl (fun _ hk => hk) trivial (by omega) (by omega) (Below.refl _ _) (Nat.le_refl _) ?_; intro v168 w11 ho12 hb hg_ hnew_; clear hg_ hnew_; (first | rw [← Ny167.out] at ho12 | (simp only [Int.reduceToNat] at ho12; rw [← Ny167.out] at ho12)); have n0_ := Aside0.mk (Kd.R_elder' (by (with_reducible repeat (first | apply Kd.R_alloc | apply Kd.R_drewN | apply Kd.R_drew)); exact HO166.out) (Kd.R_base ho12) hb); have n1_ := Aside0.mk (Kd.R_lower (Kd.R_new' ho12 (Kd.R_lt (by (with_reducible repeat (first | apply Kd.R_alloc | apply Kd.R_drewN | apply Kd.R_drew)); exact HO166.out))) (below_size (by repeat (first | (with_reducible first | exact HB.out | apply below_alloc | apply pw_below_drewN | apply below_drew1) | exact HB.out)))); have n2_ := Aside0.mk (below_step (by repeat (first | (with_reducible first | exact HB.out | apply below_alloc | apply pw_below_drewN | apply below_drew1) | exact HB.out)) hb); clear HO166; clear HB; have HO166 := n0_; have HO169 := n1_; have HB := n2_; clear n0_ n1_ n2_; clear hb ho12))
          repeat (go_quiet (first | ((with_reducible refine gate_dst (N := 19) rfl ?_); refine Kd.R_make Kd.bool _ 4 rfl (N := 19) rfl 40 _ _ rfl 8192 rfl rfl Try.underlying40 (.bool false) 1 info4 rfl (by decide) (by omega) false (ok := fun _ => True) (okp := fun _ => True) rfl (fun _ hk => hk) trivial (by omega) (by omega) (Below.refl _ _) (Nat.le_refl _) ?_; intro v165 w9 ho10 hb hg_ hnew_; clear hg_ hnew_; (first | rw [← Ny164.out] at ho10 | (simp only [Int.reduceToNat] at ho10; rw [← Ny164.out] at ho10)); have n0_ := Aside0.mk (Kd.R_lower ho10 (below_size (by repeat (first | (with_reducible first | exact HB.out | apply below_alloc | apply pw_below_drewN | apply below_drew1) | exact HB.out)))); have n1_ := Aside0.mk (below_step (by repeat (first | (with_reducible first | exact HB.out | apply below_alloc | apply pw_below_drewN | apply below_drew1) | exact HB.out)) hb); clear HB; have HO166 := n0_; have HB := n1_; clear n0_ n1_; clear hb ho10) | ((with_reducible refine gate_dst (N := 20) rfl ?_); refine Kd.R_make Kd.bool _ 4 rfl (N := 20) rfl 40 _ _ rfl 8192 rfl rfl Try.underlying40 (.bool false) 1 info4 rfl (by decide) (by omega) false (ok := fun _ => True) (okp := fun _ => True) rfl (fun _ hk => hk) trivial (by omega) (by omega) (Below.refl _ _) (Nat.le_refl _) ?_; intro v168 w11 ho12 hb hg_ hnew_; clear hg_ hnew_; (first | rw [← Ny167.out] at ho12 | (simp only [Int.reduceToNat] at ho12; rw [← Ny167.out] at ho12)); have n0_ := Aside0.mk (Kd.R_elder' (by (with_reducible repeat (first | apply Kd.R_alloc | apply Kd.R_drewN | apply Kd.R_drew)); exact HO166.out) (Kd.R_base ho12) hb); have n1_ := Aside0.mk (Kd.R_lower (Kd.R_new' ho12 (Kd.R_lt (by (with_reducible repeat (first | apply Kd.R_alloc | apply Kd.R_drewN | apply Kd.R_drew)); exact HO166.out))) (below_size (by repeat (first | (with_reducible first | exact HB.out | apply below_alloc | apply pw_below_drewN | apply below_drew1) | exact HB.out)))); have n2_ := Aside0.mk (below_step (by repeat (first | (with_reducible first | exact HB.out | apply below_alloc | apply pw_below_drewN | apply below_drew1) | exact HB.out)) hb); clear HO166; clear HB; have HO166 := n0_; have HO169 := n1_; have HB := n2_; clear n0_ n1_ n2_; clear hb ho12)); try go_wp2_with (first | ((with_reducible refine gate_dst (N := 19) rfl ?_); refine Kd.R_make Kd.bool _ 4 rfl (N := 19) rfl 40 _ _ rfl 8192 rfl rfl Try.underlying40 (.bool false) 1 info4 rfl (by decide) (by omega) false (ok := fun _ => True) (okp := fun _ => True) rfl (fun _ hk => hk) trivial (by omega) (by omega) (Below.refl _ _) (Nat.le_refl _) ?_; intro v165 w9 ho10 hb hg_ hnew_; clear hg_ hnew_; (first | rw [← Ny164.out] at ho10 | (simp only [Int.reduceToNat] at ho10; rw [← Ny164.out] at ho10)); have n0_ := Aside0.mk (Kd.R_lower ho10 (below_size (by repeat (first | (with_reducible first | exact HB.out | apply below_alloc | apply pw_below_drewN | apply below_drew1) | exact HB.out)))); have n1_ := Aside0.mk (below_step (by repeat (first | (with_reducible first | exact HB.out | apply below_alloc | apply pw_below_drewN | apply below_drew1) | exact HB.out)) hb); clear HB; have HO166 := n0_; have HB := n1_; clear n0_ n1_; clear hb ho10) | ((with_reducible refine gate_dst (N := 20) rfl ?_); refine Kd.R_make Kd.bool _ 4 rfl (N := 20) rfl 40 _ _ rfl 8192 rfl rfl Try.underlying40 (.bool false) 1 info4 rfl (by decide) (by omega) false (ok := fun _ => True) (okp := fun _ => True) rfl (fun _ hk => hk) trivial (by omega) (by omega) (Below.refl _ _) (Nat.le_refl _) ?_; intro v168 w11 ho12 hb hg_ hnew_; clear hg_ hnew_; (first | rw [← Ny167.out] at ho12 | (simp only [Int.reduceToNat] at ho12; rw [← Ny167.out] at ho12)); have n0_ := Aside0.mk (Kd.R_elder' (by (with_reducible repeat (first | apply Kd.R_alloc | apply Kd.R_drewN | apply Kd.R_drew)); exact HO166.out) (Kd.R_base ho12) hb); have n1_ := Aside0.mk (Kd.R_lower (Kd.R_new' ho12 (Kd.R_lt (by (with_reducible repeat (first | apply Kd.R_alloc | apply Kd.R_drewN | apply Kd.R_drew)); exact HO166.out))) (below_size (by repeat (first | (with_reducible first | exact HB.out | apply below_alloc | apply pw_below_drewN | apply below_drew1) | exact HB.out)))); have n2_ := Aside0.mk (below_step (by repeat (first | (with_reducible first | exact HB.out | apply below_alloc | apply pw_below_drewN | apply below_drew1) | exact HB.out)) hb); clear HO166; clear HB; have HO166 := n0_; have HO169 := n1_; have HB := n2_; clear n0_ n1_ n2_; clear hb ho12)))
          go_loopg [1, 9] kj2 (fun kq v1 v9 w' => ∃ (x1_2 : Int) (x7_2 : List Bool) (x8_2 : List Bool) (x9_2 : Int), v1 = .int .i64 x1_2 ∧ v9 = .int .i64 x9_2 ∧ Aside0 (rootcellarref5_Take.l0 kq l0 x1_2 x7_2 x8_2 x9_2 = some (r1, r2, r3)) ∧ Aside0 (kq ≤ kj2) ∧ Aside0 (Kd.R Kd.bool 4 w' w.heap.size (fun k_ => some k_ ≠ (v168 : Value).ownBlock) v165 x7_2) ∧ Aside0 (Kd.R Kd.bool 4 w' w.heap.size (fun k_ => some k_ ≠ (v165 : Value).ownBlock) v168 x8_2) ∧ Aside0 (Below w.heap.size w w'))
          case atStart => exact ⟨(a1), (y164), (y167), (0), (by first | rfl | (simp; done) | (simp [*]; done)), (by first | rfl | (simp; done) | (simp [*]; done)), H', ⟨Nat.le_refl _⟩, ⟨by (with_reducible repeat (first | apply Kd.R_alloc | apply Kd.R_drewN | apply Kd.R_drew)); exact Kd.R_mono HO166.out (fun _ hk => hk.2)⟩, ⟨by (with_reducible repeat (first | apply Kd.R_alloc | apply Kd.R_drewN | apply Kd.R_drew)); exact Kd.R_mono HO169.out (fun _ hk => hk.2)⟩, ⟨by repeat (first | (with_reducible first | exact HB.out | apply below_alloc | apply pw_below_drewN | apply below_drew1) | exact HB.out)⟩⟩
          case round =>
            clear H'
            try clear c1
            try clear p2
            try clear c4
            try clear c4b0
            try clear c7
            try clear c8
            try clear c8b0
            try clear c8b1
            try clear c12
            try clear p2
            obtain ⟨x1_2, x7_2, x8_2, x9_2, rfl, rfl, HA, HK2, HO_7, HO_8, HB⟩ := hrel
            cases gk with
            | zero => exact absurd HA.out (by simp [rootcellarref5_Take.l0])
            | succ k2 =>
              have H := HA.out
              clear HA
              simp only [rootcellarref5_Take.l0] at H
              by_cases c13 : x9_2 < (l0.length : Int)
              · rw [if_pos c13] at H
                have c13b0 : decide (x9_2 < (l0.length : Int)) = true := decide_eq_true c13
                clear c13
                by_cases c14 : 0 ≤ x9_2
                · rw [if_pos c14] at H
                  have c14b0 : decide (0 ≤ x9_2) = true := decide_eq_true c14
                  clear c14
                  have H' := Aside0.mk H
                  clear H
                  have p170 : 0 ≤ (x9_2 : Int) := of_decide_eq_true (by first | (with_reducible assumption) | assumption)
                  have q170 : x9_2 < (l0.length : Int) := of_decide_eq_true (by first | (with_reducible assumption) | assumption)
                  obtain ⟨ad170, e170, hx170_0, hx170_1⟩ := at_T32 HR0.out x9_2 p170 q170
                  cases e170
                  replace hx170_0 := (HB.out.cell (World.block_lt_of_cell? w _ hx170_0)).trans hx170_0
                  replace hx170_1 := (HB.out.cell (World.block_lt_of_cell? w _ hx170_1)).trans hx170_1
                  replace p170 := eq_true p170
                  replace q170 := eq_true q170
                  go_wp2
                  repeat (go_quiet (fail); try go_wp2)
                  go_loopg [1, 10] k2 (fun kq v1 v10 w' => ∃ (x1_3 : Int) (x7_3 : List Bool) (x8_3 : List Bool) (x10_3 : Int), v1 = .int .i64 x1_3 ∧ v10 = .int .i64 x10_3 ∧ Aside0 (rootcellarref5_Take.l1 kq l0 x1_3 x7_3 x8_3 x9_2 x10_3 = some (r1, r2, r3)) ∧ Aside0 (kq ≤ k2) ∧ Aside0 (Kd.R Kd.bool 4 w' w.heap.size (fun k_ => some k_ ≠ (v168 : Value).ownBlock) v165 x7_3) ∧ Aside0 (Kd.R Kd.bool 4 w' w.heap.size (fun k_ => some k_ ≠ (v165 : Value).ownBlock) v168 x8_3) ∧ Aside0 (Below w.heap.size w w'))
                  case atStart => exact ⟨(x1_2), (x7_2), (x8_2), ((rd_T32 l0 x9_2).f0), (by first | rfl | (simp; done) | (simp [*]; done)), (by first | rfl | (simp; done) | (simp [*]; done)), H', ⟨Nat.le_refl _⟩, ⟨by (with_reducible repeat (first | apply Kd.R_alloc | apply Kd.R_drewN | apply Kd.R_drew)); exact HO_7.out⟩, ⟨by (with_reducible repeat (first | apply Kd.R_alloc | apply Kd.R_drewN | apply Kd.R_drew)); exact HO_8.out⟩, ⟨by repeat (first | (with_reducible first | exact HB.out | apply below_alloc | apply pw_below_drewN | apply below_drew1) | exact HB.out)⟩⟩
                  case round =>
                    clear H'
                    try clear c1
                    try clear p1
                    try clear q1
                    try clear hx1
                    try clear p2
                    try clear c4
                    try clear c4b0
                    try clear c7
                    try clear c8
                    try clear c8b0
                    try clear c8b1
                    try clear c12
                    try clear c13
                    try clear c13b0
                    try clear c14
                    try clear c14b0
                    try clear hx170_0
                    try clear hx170_1
                    try clear p170
                    try clear p2
                    try clear q170
                    obtain ⟨x1_3, x7_3, x8_3, x10_3, rfl, rfl, HA, HK3, HO_7, HO_8, HB⟩ := hrel
                    cases gk with
                    | zero => exact absurd HA.out (by simp [rootcellarref5_Take.l1])
                    | succ k3 =>
                      have H := HA.out
                      clear HA
                      simp only [rootcellarref5_Take.l1] at H
                      by_cases c15 : 0 ≤ x9_2
                      · rw [if_pos c15] at H
                        have c15b0 : decide (0 ≤ x9_2) = true := decide_eq_true c15
                        clear c15
                        by_cases c16 : x9_2 < (l0.length : Int)
                        · rw [if_pos c16] at H
                          have c16b0 : decide (x9_2 < (l0.length : Int)) = true := decide_eq_true c16
                          clear c16
                          by_cases c17 : x10_3 < (wrap64 (((rd_T32 l0 x9_2).f0) + ((rd_T32 l0 x9_2).f1)))
                          · rw [if_pos c17] at H
                            have c17b0 : decide (x10_3 < (wrap64 (((rd_T32 l0 x9_2).f0) + ((rd_T32 l0 x9_2).f1)))) = true := decide_eq_true c17
                            clear c17
                            by_cases c18 : x1_3 > 0
                            · rw [if_pos c18] at H
                              have c18b0 : decide (0 < x1_3) = true := decide_eq_true c18
                              clear c18
                              by_cases c19 : 0 ≤ x10_3
                              · rw [if_pos c19] at H
                                have c19b0 : decide (0 ≤ x10_3) = true := decide_eq_true c19
                                clear c19
                                by_cases c20 : x10_3 < (x7_3.length : Int)
                                · rw [if_pos c20] at H
                                  have c20b0 : decide (x10_3 < (x7_3.length : Int)) = true := decide_eq_true c20
                                  clear c20
                                  obtain ⟨y173, hy173⟩ : ∃ y_ : List Bool, y_ = (x7_3.set (x10_3 : Int).toNat true) := ⟨_, rfl⟩
                                  replace H : (rootcellarref5_Take.l1 k3 l0 (wrap64 (x1_3 - 1)) y173 x8_3 x9_2 (wrap64 (x10_3 + 1))) = some (r1, r2, r3) := by first | (rw [hy173]; with_reducible exact H) | (have H2_ := (Option.bind_some _ _).symm.trans H; rw [hy173]; with_reducible exact H2_) | (have H2_ := (Option.bind_some _ _).symm.trans H; with_reducible exact H2_) | with_reducible exact H | (rw [hy173]; exact H) | exact H
                                  have Ny173 := Aside0.mk hy173
                                  clear hy173
                                  have H' := Aside0.mk H
                                  clear H
                                  have p171 : 0 ≤ (x9_2 : Int) := of_decide_eq_true (by first | (with_reducible assumption) | assumption)
                                  have q171 : x9_2 < (l0.length : Int) := of_decide_eq_true (by first | (with_reducible assumption) | assumption)
                                  obtain ⟨ad171, e171, hx171_0, hx171_1⟩ := at_T32 HR0.out x9_2 p171 q171
                                  obtain rfl : ad170 = ad171 := (by injection e171)
                                  replace hx171_0 := (HB.out.cell (World.block_lt_of_cell? w _ hx171_0)).trans hx171_0
                                  replace hx171_1 := (HB.out.cell (World.block_lt_of_cell? w _ hx171_1)).trans hx171_1
                                  replace p171 := eq_true p171
                                  replace q171 := eq_true q171
                                  have p172 : 0 ≤ (x9_2 : Int) := of_decide_eq_true (by first | (with_reducible assumption) | assumption)
                                  have q172 : x9_2 < (l0.length : Int) := of_decide_eq_true (by first | (with_reducible assumption) | assumption)
                                  obtain ⟨ad172, e172, hx172_0, hx172_1⟩ := at_T32 HR0.out x9_2 p172 q172
                                  obtain rfl : ad170 = ad172 := (by injection e172)
                                  replace hx172_0 := (HB.out.cell (World.block_lt_of_cell? w _ hx172_0)).trans hx172_0
                                  replace hx172_1 := (HB.out.cell (World.block_lt_of_cell? w _ hx172_1)).trans hx172_1
                                  replace p172 := eq_true p172
                                  replace q172 := eq_true q172
                                  have p21 : 0 ≤ (x10_3 : Int) := of_decide_eq_true (by first | (with_reducible assumption) | assumption)
                                  have q21 : (x10_3 : Int) < ((x7_3.length : Int) : Int) := of_decide_eq_true (by first | (with_reducible assumption) | assumption)
                                  obtain ⟨go21, co21, eo21, gb21, gl21, cl21, HG21⟩ := Kd.R_form HO_7.out (by omega)
                                  (first | cases eo21 | (injection eo21 with ea_ en_ ec_; (first | subst ea_ | (injection ea_ with ea_; subst ea_)); subst ec_; clear en_))
                                  have GB21 := Aside0.mk gb21
                                  have GG21 := Aside0.mk HG21
                                  clear gb21 gl21 HG21
                                  obtain ⟨hx21_0, hf21_0⟩ := Kd.R_celln false HO_7.out (x10_3 : Int) p21 q21
                                  replace p21 := eq_true p21
                                  replace q21 := eq_true q21
                                  have HP22 := Kd.R_putg HO_7.out (x10_3 : Int) true
                                  go_wp2_with (first | ((with_reducible refine gate_store (t := 4) (p := 51) rfl ?_); (try (rw [drewN_self wr]; generalize hq_ : World.drewN wr _ = wr; have n0_ := Aside0.mk (Kd.R_at hq_ HO_7.out); have n1_ := Aside0.mk (Kd.R_at hq_ HO_8.out); have n2_ := Aside0.mk (below_at hq_ HB.out); clear hq_ HO_7 HO_8 HB; have HO_7 := n0_; have HO_8 := n1_; have HB := n2_; clear n0_ n1_ n2_; (try (have HP22 := Kd.R_putg HO_7.out (x10_3 : Int) true)); (try (obtain ⟨hx21_0, hf21_0⟩ := Kd.R_celln false HO_7.out (x10_3 : Int) (of_eq_true p21) (of_eq_true q21))))); refine store_event (t := 4) (p := 51) (v := ?vo_w23) (w1 := (wr.setCell ⟨go21, (x10_3 : Int).toNat, none⟩ (.bool true))) ?hg ?ho ?hn ?hr ?_; (case ho => rfl); (case hg => rfl); (case hn => rfl); (case hr => first | (go_simp; done) | (go_simp; rfl)); intro w23 hw; have hg : wr.grownBy w23 (some go21) := (by rw [hw]; exact HP22.2); have hp_ : Kd.R Kd.bool 4 w23 w.heap.size (fun k_ => some k_ ≠ (v168 : Value).ownBlock) (.slice (some ⟨go21, 0, none⟩) x7_3.length co21) y173 := (by rw [hw, Ny173.out]; exact HP22.1); clear HP22; have n0_ := Aside0.mk (hp_); have n1_ := Aside0.mk (Kd.R_after (v := (.slice (some ⟨go21, 0, none⟩) x7_3.length co21)) (v1 := (.slice (some ⟨go21, 0, none⟩) x7_3.length co21)) (ok := (fun _ => True)) (by (with_reducible repeat (first | apply Kd.R_alloc | apply Kd.R_drewN | apply Kd.R_drew)); exact Kd.R_mono HO_8.out (fun _ hk => ⟨trivial, hk⟩)) hg (.inl rfl)); have n2_ := Aside0.mk ((by rw [hw]; exact below_set (HB.out) GB21.out : Below w.heap.size w w23)); clear HO_7; clear HO_8; clear HB; have HO_7 := n0_; have HO_8 := n1_; have HB := n2_; clear n0_ n1_ n2_; clear hg hw hp_))
                                  repeat (go_quiet (first | ((with_reducible refine gate_store (t := 4) (p := 51) rfl ?_); (try (rw [drewN_self wr]; generalize hq_ : World.drewN wr _ = wr; have n0_ := Aside0.mk (Kd.R_at hq_ HO_7.out); have n1_ := Aside0.mk (Kd.R_at hq_ HO_8.out); have n2_ := Aside0.mk (below_at hq_ HB.out); clear hq_ HO_7 HO_8 HB; have HO_7 := n0_; have HO_8 := n1_; have HB := n2_; clear n0_ n1_ n2_; (try (have HP22 := Kd.R_putg HO_7.out (x10_3 : Int) true)); (try (obtain ⟨hx21_0, hf21_0⟩ := Kd.R_celln false HO_7.out (x10_3 : Int) (of_eq_true p21) (of_eq_true q21))))); refine store_event (t := 4) (p := 51) (v := ?vo_w23) (w1 := (wr.setCell ⟨go21, (x10_3 : Int).toNat, none⟩ (.bool true))) ?hg ?ho ?hn ?hr ?_; (case ho => rfl); (case hg => rfl); (case hn => rfl); (case hr => first | (go_simp; done) | (go_simp; rfl)); intro w23 hw; have hg : wr.grownBy w23 (some go21) := (by rw [hw]; exact HP22.2); have hp_ : Kd.R Kd.bool 4 w23 w.heap.size (fun k_ => some k_ ≠ (v168 : Value).ownBlock) (.slice (some ⟨go21, 0, none⟩) x7_3.length co21) y173 := (by rw [hw, Ny173.out]; exact HP22.1); clear HP22; have n0_ := Aside0.mk (hp_); have n1_ := Aside0.mk (Kd.R_after (v := (.slice (some ⟨go21, 0, none⟩) x7_3.length co21)) (v1 := (.slice (some ⟨go21, 0, none⟩) x7_3.length co21)) (ok := (fun _ => True)) (by (with_reducible repeat (first | apply Kd.R_alloc | apply Kd.R_drewN | apply Kd.R_drew)); exact Kd.R_mono HO_8.out (fun _ hk => ⟨trivial, hk⟩)) hg (.inl rfl)); have n2_ := Aside0.mk ((by rw [hw]; exact below_set (HB.out) GB21.out : Below w.heap.size w w23)); clear HO_7; clear HO_8; clear HB; have HO_7 := n0_; have HO_8 := n1_; have HB := n2_; clear n0_ n1_ n2_; clear hg hw hp_)); try go_wp2_with (first | ((with_reducible refine gate_store (t := 4) (p := 51) rfl ?_); (try (rw [drewN_self wr]; generalize hq_ : World.drewN wr _ = wr; have n0_ := Aside0.mk (Kd.R_at hq_ HO_7.out); have n1_ := Aside0.mk (Kd.R_at hq_ HO_8.out); have n2_ := Aside0.mk (below_at hq_ HB.out); clear hq_ HO_7 HO_8 HB; have HO_7 := n0_; have HO_8 := n1_; have HB := n2_; clear n0_ n1_ n2_; (try (have HP22 := Kd.R_putg HO_7.out (x10_3 : Int) true)); (try (obtain ⟨hx21_0, hf21_0⟩ := Kd.R_celln false HO_7.out (x10_3 : Int) (of_eq_true p21) (of_eq_true q21))))); refine store_event (t := 4) (p := 51) (v := ?vo_w23) (w1 := (wr.setCell ⟨go21, (x10_3 : Int).toNat, none⟩ (.bool true))) ?hg ?ho ?hn ?hr ?_; (case ho => rfl); (case hg => rfl); (case hn => rfl); (case hr => first | (go_simp; done) | (go_simp; rfl)); intro w23 hw; have hg : wr.grownBy w23 (some go21) := (by rw [hw]; exact HP22.2); have hp_ : Kd.R Kd.bool 4 w23 w.heap.size (fun k_ => some k_ ≠ (v168 : Value).ownBlock) (.slice (some ⟨go21, 0, none⟩) x7_3.length co21) y173 := (by rw [hw, Ny173.out]; exact HP22.1); clear HP22; have n0_ := Aside0.mk (hp_); have n1_ := Aside0.mk (Kd.R_after (v := (.slice (some ⟨go21, 0, none⟩) x7_3.length co21)) (v1 := (.slice (some ⟨go21, 0, none⟩) x7_3.length co21)) (ok := (fun _ => True)) (by (with_reducible repeat (first | apply Kd.R_alloc | apply Kd.R_drewN | apply Kd.R_drew)); exact Kd.R_mono HO_8.out (fun _ hk => ⟨trivial, hk⟩)) hg (.inl rfl)); have n2_ := Aside0.mk ((by rw [hw]; exact below_set (HB.out) GB21.out : Below w.heap.size w w23)); clear HO_7; clear HO_8; clear HB; have HO_7 := n0_; have HO_8 := n1_; have HB := n2_; clear n0_ n1_ n2_; clear hg hw hp_)))
                                  go_roundg k3
                                  case measure => have := HJ2.out; have := HK2.out; have := HK3.out; omega
                                  case rel => exact ⟨(wrap64 (x1_3 - 1)), (y173), (x8_3), (wrap64 (x10_3 + 1)), (by first | rfl | (simp; done) | (simp [*]; done)), (by first | rfl | (simp; done) | (simp [*]; done)), H', ⟨by have := HJ2.out; have := HK2.out; have := HK3.out; omega⟩, ⟨by (with_reducible repeat (first | apply Kd.R_alloc | apply Kd.R_drewN | apply Kd.R_drew)); exact HO_7.out⟩, ⟨by (with_reducible repeat (first | apply Kd.R_alloc | apply Kd.R_drewN | apply Kd.R_drew)); exact Kd.R_mono HO_8.out (fun _ hk => hk.2)⟩, ⟨by repeat (first | (with_reducible first | exact HB.out | apply below_alloc | apply pw_below_drewN | apply below_drew1) | exact HB.out)⟩⟩
                                · rw [if_neg c20] at H
                                  exact absurd H (by simp)
                              · rw [if_neg c19] at H
                                exact absurd H (by simp)
                            · rw [if_neg c18] at H
                              have c18b0 : decide (0 < x1_3) = false := decide_eq_false c18
                              clear c18
                              by_cases c24 : 0 ≤ x10_3
                              · rw [if_pos c24] at H
                                have c24b0 : decide (0 ≤ x10_3) = true := decide_eq_true c24
                                clear c24
                                by_cases c25 : x10_3 < (x8_3.length : Int)
                                · rw [if_pos c25] at H
                                  have c25b0 : decide (x10_3 < (x8_3.length : Int)) = true := decide_eq_true c25
                                  clear c25
                                  obtain ⟨y174, hy174⟩ : ∃ y_ : List Bool, y_ = (x8_3.set (x10_3 : Int).toNat true) := ⟨_, rfl⟩
                                  replace H : (rootcellarref5_Take.l1 k3 l0 x1_3 x7_3 y174 x9_2 (wrap64 (x10_3 + 1))) = some (r1, r2, r3) := by first | (rw [hy174]; with_reducible exact H) | (have H2_ := (Option.bind_some _ _).symm.trans H; rw [hy174]; with_reducible exact H2_) | (have H2_ := (Option.bind_some _ _).symm.trans H; with_reducible exact H2_) | with_reducible exact H | (rw [hy174]; exact H) | exact H
                                  have Ny174 := Aside0.mk hy174
                                  clear hy174
                                  have H' := Aside0.mk H
                                  clear H
                                  have p171 : 0 ≤ (x9_2 : Int) := of_decide_eq_true (by first | (with_reducible assumption) | assumption)
                                  have q171 : x9_2 < (l0.length : Int) := of_decide_eq_true (by first | (with_reducible assumption) | assumption)
                                  obtain ⟨ad171, e171, hx171_0, hx171_1⟩ := at_T32 HR0.out x9_2 p171 q171
                                  obtain rfl : ad170 = ad171 := (by injection e171)
                                  replace hx171_0 := (HB.out.cell (World.block_lt_of_cell? w _ hx171_0)).trans hx171_0
                                  replace hx171_1 := (HB.out.cell (World.block_lt_of_cell? w _ hx171_1)).trans hx171_1
                                  replace p171 := eq_true p171
                                  replace q171 := eq_true q171
                                  have p172 : 0 ≤ (x9_2 : Int) := of_decide_eq_true (by first | (with_reducible assumption) | assumption)
                                  have q172 : x9_2 < (l0.length : Int) := of_decide_eq_true (by first | (with_reducible assumption) | assumption)
                                  obtain ⟨ad172, e172, hx172_0, hx172_1⟩ := at_T32 HR0.out x9_2 p172 q172
                                  obtain rfl : ad170 = ad172 := (by injection e172)
                                  replace hx172_0 := (HB.out.cell (World.block_lt_of_cell? w _ hx172_0)).trans hx172_0
                                  replace hx172_1 := (HB.out.cell (World.block_lt_of_cell? w _ hx172_1)).trans hx172_1
                                  replace p172 := eq_true p172
                                  replace q172 := eq_true q172
                                  have p26 : 0 ≤ (x10_3 : Int) := of_decide_eq_true (by first | (with_reducible assumption) | assumption)
                                  have q26 : (x10_3 : Int) < ((x8_3.length : Int) : Int) := of_decide_eq_true (by first | (with_reducible assumption) | assumption)
                                  obtain ⟨go26, co26, eo26, gb26, gl26, cl26, HG26⟩ := Kd.R_form HO_8.out (by omega)
                                  (first | cases eo26 | (injection eo26 with ea_ en_ ec_; (first | subst ea_ | (injection ea_ with ea_; subst ea_)); subst ec_; clear en_))
                                  have GB26 := Aside0.mk gb26
                                  have GG26 := Aside0.mk HG26
                                  clear gb26 gl26 HG26
                                  obtain ⟨hx26_0, hf26_0⟩ := Kd.R_celln false HO_8.out (x10_3 : Int) p26 q26
                                  replace p26 := eq_true p26
                                  replace q26 := eq_true q26
                                  have HP27 := Kd.R_putg HO_8.out (x10_3 : Int) true
                                  go_wp2_with (first | ((with_reducible refine gate_store (t := 4) (p := 56) rfl ?_); (try (rw [drewN_self wr]; generalize hq_ : World.drewN wr _ = wr; have n0_ := Aside0.mk (Kd.R_at hq_ HO_7.out); have n1_ := Aside0.mk (Kd.R_at hq_ HO_8.out); have n2_ := Aside0.mk (below_at hq_ HB.out); clear hq_ HO_7 HO_8 HB; have HO_7 := n0_; have HO_8 := n1_; have HB := n2_; clear n0_ n1_ n2_; (try (have HP27 := Kd.R_putg HO_8.out (x10_3 : Int) true)); (try (obtain ⟨hx26_0, hf26_0⟩ := Kd.R_celln false HO_8.out (x10_3 : Int) (of_eq_true p26) (of_eq_true q26))))); refine store_event (t := 4) (p := 56) (v := ?vo_w28) (w1 := (wr.setCell ⟨go26, (x10_3 : Int).toNat, none⟩ (.bool true))) ?hg ?ho ?hn ?hr ?_; (case ho => rfl); (case hg => rfl); (case hn => rfl); (case hr => first | (go_simp; done) | (go_simp; rfl)); intro w28 hw; have hg : wr.grownBy w28 (some go26) := (by rw [hw]; exact HP27.2); have hp_ : Kd.R Kd.bool 4 w28 w.heap.size (fun k_ => some k_ ≠ (v165 : Value).ownBlock) (.slice (some ⟨go26, 0, none⟩) x8_3.length co26) y174 := (by rw [hw, Ny174.out]; exact HP27.1); clear HP27; have n0_ := Aside0.mk (Kd.R_after (v := (.slice (some ⟨go26, 0, none⟩) x8_3.length co26)) (v1 := (.slice (some ⟨go26, 0, none⟩) x8_3.length co26)) (ok := (fun _ => True)) (by (with_reducible repeat (first | apply Kd.R_alloc | apply Kd.R_drewN | apply Kd.R_drew)); exact Kd.R_mono HO_7.out (fun _ hk => ⟨trivial, hk⟩)) hg (.inl rfl)); have n1_ := Aside0.mk (hp_); have n2_ := Aside0.mk ((by rw [hw]; exact below_set (HB.out) GB26.out : Below w.heap.size w w28)); clear HO_7; clear HO_8; clear HB; have HO_7 := n0_; have HO_8 := n1_; have HB := n2_; clear n0_ n1_ n2_; clear hg hw hp_))
                                  repeat (go_quiet (first | ((with_reducible refine gate_store (t := 4) (p := 56) rfl ?_); (try (rw [drewN_self wr]; generalize hq_ : World.drewN wr _ = wr; have n0_ := Aside0.mk (Kd.R_at hq_ HO_7.out); have n1_ := Aside0.mk (Kd.R_at hq_ HO_8.out); have n2_ := Aside0.mk (below_at hq_ HB.out); clear hq_ HO_7 HO_8 HB; have HO_7 := n0_; have HO_8 := n1_; have HB := n2_; clear n0_ n1_ n2_; (try (have HP27 := Kd.R_putg HO_8.out (x10_3 : Int) true)); (try (obtain ⟨hx26_0, hf26_0⟩ := Kd.R_celln false HO_8.out (x10_3 : Int) (of_eq_true p26) (of_eq_true q26))))); refine store_event (t := 4) (p := 56) (v := ?vo_w28) (w1 := (wr.setCell ⟨go26, (x10_3 : Int).toNat, none⟩ (.bool true))) ?hg ?ho ?hn ?hr ?_; (case ho => rfl); (case hg => rfl); (case hn => rfl); (case hr => first | (go_simp; done) | (go_simp; rfl)); intro w28 hw; have hg : wr.grownBy w28 (some go26) := (by rw [hw]; exact HP27.2); have hp_ : Kd.R Kd.bool 4 w28 w.heap.size (fun k_ => some k_ ≠ (v165 : Value).ownBlock) (.slice (some ⟨go26, 0, none⟩) x8_3.length co26) y174 := (by rw [hw, Ny174.out]; exact HP27.1); clear HP27; have n0_ := Aside0.mk (Kd.R_after (v := (.slice (some ⟨go26, 0, none⟩) x8_3.length co26)) (v1 := (.slice (some ⟨go26, 0, none⟩) x8_3.length co26)) (ok := (fun _ => True)) (by (with_reducible repeat (first | apply Kd.R_alloc | apply Kd.R_drewN | apply Kd.R_drew)); exact Kd.R_mono HO_7.out (fun _ hk => ⟨trivial, hk⟩)) hg (.inl rfl)); have n1_ := Aside0.mk (hp_); have n2_ := Aside0.mk ((by rw [hw]; exact below_set (HB.out) GB26.out : Below w.heap.size w w28)); clear HO_7; clear HO_8; clear HB; have HO_7 := n0_; have HO_8 := n1_; have HB := n2_; clear n0_ n1_ n2_; clear hg hw hp_)); try go_wp2_with (first | ((with_reducible refine gate_store (t := 4) (p := 56) rfl ?_); (try (rw [drewN_self wr]; generalize hq_ : World.drewN wr _ = wr; have n0_ := Aside0.mk (Kd.R_at hq_ HO_7.out); have n1_ := Aside0.mk (Kd.R_at hq_ HO_8.out); have n2_ := Aside0.mk (below_at hq_ HB.out); clear hq_ HO_7 HO_8 HB; have HO_7 := n0_; have HO_8 := n1_; have HB := n2_; clear n0_ n1_ n2_; (try (have HP27 := Kd.R_putg HO_8.out (x10_3 : Int) true)); (try (obtain ⟨hx26_0, hf26_0⟩ := Kd.R_celln false HO_8.out (x10_3 : Int) (of_eq_true p26) (of_eq_true q26))))); refine store_event (t := 4) (p := 56) (v := ?vo_w28) (w1 := (wr.setCell ⟨go26, (x10_3 : Int).toNat, none⟩ (.bool true))) ?hg ?ho ?hn ?hr ?_; (case ho => rfl); (case hg => rfl); (case hn => rfl); (case hr => first | (go_simp; done) | (go_simp; rfl)); intro w28 hw; have hg : wr.grownBy w28 (some go26) := (by rw [hw]; exact HP27.2); have hp_ : Kd.R Kd.bool 4 w28 w.heap.size (fun k_ => some k_ ≠ (v165 : Value).ownBlock) (.slice (some ⟨go26, 0, none⟩) x8_3.length co26) y174 := (by rw [hw, Ny174.out]; exact HP27.1); clear HP27; have n0_ := Aside0.mk (Kd.R_after (v := (.slice (some ⟨go26, 0, none⟩) x8_3.length co26)) (v1 := (.slice (some ⟨go26, 0, none⟩) x8_3.length co26)) (ok := (fun _ => True)) (by (with_reducible repeat (first | apply Kd.R_alloc | apply Kd.R_drewN | apply Kd.R_drew)); exact Kd.R_mono HO_7.out (fun _ hk => ⟨trivial, hk⟩)) hg (.inl rfl)); have n1_ := Aside0.mk (hp_); have n2_ := Aside0.mk ((by rw [hw]; exact below_set (HB.out) GB26.out : Below w.heap.size w w28)); clear HO_7; clear HO_8; clear HB; have HO_7 := n0_; have HO_8 := n1_; have HB := n2_; clear n0_ n1_ n2_; clear hg hw hp_)))
                                  go_roundg k3
                                  case measure => have := HJ2.out; have := HK2.out; have := HK3.out; omega
                                  case rel => exact ⟨(x1_3), (x7_3), (y174), (wrap64 (x10_3 + 1)), (by first | rfl | (simp; done) | (simp [*]; done)), (by first | rfl | (simp; done) | (simp [*]; done)), H', ⟨by have := HJ2.out; have := HK2.out; have := HK3.out; omega⟩, ⟨by (with_reducible repeat (first | apply Kd.R_alloc | apply Kd.R_drewN | apply Kd.R_drew)); exact Kd.R_mono HO_7.out (fun _ hk => hk.2)⟩, ⟨by (with_reducible repeat (first | apply Kd.R_alloc | apply Kd.R_drewN | apply Kd.R_drew)); exact HO_8.out⟩, ⟨by repeat (first | (with_reducible first | exact HB.out | apply below_alloc | apply pw_below_drewN | apply below_drew1) | exact HB.out)⟩⟩
                                · rw [if_neg c25] at H
                                  exact absurd H (by simp)
                              · rw [if_neg c24] at H
                                exact absurd H (by simp)
                          · rw [if_neg c17] at H
                            have c17b0 : decide (x10_3 < (wrap64 (((rd_T32 l0 x9_2).f0) + ((rd_T32 l0 x9_2).f1)))) = false := decide_eq_false c17
                            clear c17
                            have H' := Aside0.mk H
                            clear H
                            have p171 : 0 ≤ (x9_2 : Int) := of_decide_eq_true (by first | (with_reducible assumption) | assumption)
                            have q171 : x9_2 < (l0.length : Int) := of_decide_eq_true (by first | (with_reducible assumption) | assumption)
                            obtain ⟨ad171, e171, hx171_0, hx171_1⟩ := at_T32 HR0.out x9_2 p171 q171
                            obtain rfl : ad170 = ad171 := (by injection e171)
                            replace hx171_0 := (HB.out.cell (World.block_lt_of_cell? w _ hx171_0)).trans hx171_0
                            replace hx171_1 := (HB.out.cell (World.block_lt_of_cell? w _ hx171_1)).trans hx171_1
                            replace p171 := eq_true p171
                            replace q171 := eq_true q171
                            have p172 : 0 ≤ (x9_2 : Int) := of_decide_eq_true (by first | (with_reducible assumption) | assumption)
                            have q172 : x9_2 < (l0.length : Int) := of_decide_eq_true (by first | (with_reducible assumption) | assumption)
                            obtain ⟨ad172, e172, hx172_0, hx172_1⟩ := at_T32 HR0.out x9_2 p172 q172
                            obtain rfl : ad170 = ad172 := (by injection e172)
                            replace hx172_0 := (HB.out.cell (World.block_lt_of_cell? w _ hx172_0)).trans hx172_0
                            replace hx172_1 := (HB.out.cell (World.block_lt_of_cell? w _ hx172_1)).trans hx172_1
                            replace p172 := eq_true p172
                            replace q172 := eq_true q172
                            go_wp2
                            repeat (go_quiet (fail); try go_wp2)
                            go_roundg k3
                            case measure => have := HJ2.out; have := HK2.out; have := HK3.out; omega
                            case rel => exact ⟨(x1_3), (x7_3), (x8_3), (wrap64 (x9_2 + 1)), (by first | rfl | (simp; done) | (simp [*]; done)), (by first | rfl | (simp; done) | (simp [*]; done)), H', ⟨by have := HJ2.out; have := HK2.out; have := HK3.out; omega⟩, ⟨by (with_reducible repeat (first | apply Kd.R_alloc | apply Kd.R_drewN | apply Kd.R_drew)); exact HO_7.out⟩, ⟨by (with_reducible repeat (first | apply Kd.R_alloc | apply Kd.R_drewN | apply Kd.R_drew)); exact HO_8.out⟩, ⟨by repeat (first | (with_reducible first | exact HB.out | apply below_alloc | apply pw_below_drewN | apply below_drew1) | exact HB.out)⟩⟩
                        · rw [if_neg c16] at H
                          exact absurd H (by simp)
                      · rw [if_neg c15] at H
                        exact absurd H (by simp)
                · rw [if_neg c14] at H
                  exact absurd H (by simp)
              · rw [if_neg c13] at H
                have c13b0 : decide (x9_2 < (l0.length : Int)) = false := decide_eq_false c13
                clear c13
                replace H := Option.bind_eq_some_iff.mp H
                obtain ⟨t175, A290, H⟩ := H
                replace H : ((rootcellarref5_row.f k2 x8_2).bind fun t178 => (some (t175, t178, true))) = some (r1, r2, r3) := H
                have A29 := Aside0.mk A290
                clear A290
                replace H := Option.bind_eq_some_iff.mp H
                obtain ⟨t178, A300, H⟩ := H
                replace H : (some (t175, t178, true)) = some (r1, r2, r3) := H
                have A30 := Aside0.mk A300
                clear A300
                simp only [Option.some.injEq, Prod.mk.injEq] at H
                obtain ⟨rfl, rfl, rfl⟩ := H
                obtain ⟨Ao31, co31, eo31⟩ := Kd.R_slice HO_7.out
                subst eo31
                go_wp2_with (first | (go_at_call 26; (with_reducible refine (rootcellarref5_row.calls k2 _ _ x7_2 t175 _ ?side1 ?side2 A29.out).mono ?_); (case side1 => repeat (first | exact (Kd.R_reads' HO_7.out).2.2 | (with_reducible refine Kd.C_alloc ?_ _) | (with_reducible refine Kd.C_drewN ?_ _) | (with_reducible refine Kd.C_drew ?_))); (case side2 => exact (Kd.R_reads' HO_7.out).2.1); rintro e w32 ⟨v176, rfl, ho0, hb⟩; have n0_ := Aside0.mk (Kd.R_below (by (with_reducible repeat (first | apply Kd.R_alloc | apply Kd.R_drewN | apply Kd.R_drew)); exact HO_7.out) hb); have n1_ := Aside0.mk (Kd.R_below (by (with_reducible repeat (first | apply Kd.R_alloc | apply Kd.R_drewN | apply Kd.R_drew)); exact HO_8.out) hb); have n2_ := Aside0.mk (Kd.R_lower ho0 (below_size (by repeat (first | (with_reducible first | exact HB.out | apply below_alloc | apply pw_below_drewN | apply below_drew1) | exact HB.out)))); have n3_ := Aside0.mk (below_step (by repeat (first | (with_reducible first | exact HB.out | apply below_alloc | apply pw_below_drewN | apply below_drew1) | exact HB.out)) hb); clear HO_7; clear HO_8; clear HB; have HO_7 := n0_; have HO_8 := n1_; have HO177 := n2_; have HB := n3_; clear n0_ n1_ n2_ n3_; (try clear hb); (try clear hb2); (try clear hk); (try clear hi); (try clear ho0); obtain ⟨Ao33, co33, eo33⟩ := Kd.R_slice HO_8.out; subst eo33) | (go_at_call 26; (with_reducible refine (rootcellarref5_row.calls k2 _ _ x8_2 t178 _ ?side1 ?side2 A30.out).mono ?_); (case side1 => repeat (first | exact (Kd.R_reads' HO_8.out).2.2 | (with_reducible refine Kd.C_alloc ?_ _) | (with_reducible refine Kd.C_drewN ?_ _) | (with_reducible refine Kd.C_drew ?_))); (case side2 => exact (Kd.R_reads' HO_8.out).2.1); rintro e w34 ⟨v179, rfl, ho0, hb⟩; have n0_ := Aside0.mk (Kd.R_below (by (with_reducible repeat (first | apply Kd.R_alloc | apply Kd.R_drewN | apply Kd.R_drew)); exact HO_7.out) hb); have n1_ := Aside0.mk (Kd.R_below (by (with_reducible repeat (first | apply Kd.R_alloc | apply Kd.R_drewN | apply Kd.R_drew)); exact HO_8.out) hb); have n2_ := Aside0.mk (Kd.R_elder' (by (with_reducible repeat (first | apply Kd.R_alloc | apply Kd.R_drewN | apply Kd.R_drew)); exact HO177.out) (Kd.R_base ho0) hb); have n3_ := Aside0.mk (Kd.R_lower (Kd.R_new' ho0 (Kd.R_lt (by (with_reducible repeat (first | apply Kd.R_alloc | apply Kd.R_drewN | apply Kd.R_drew)); exact HO177.out))) (below_size (by repeat (first | (with_reducible first | exact HB.out | apply below_alloc | apply pw_below_drewN | apply below_drew1) | exact HB.out)))); have n4_ := Aside0.mk (below_step (by repeat (first | (with_reducible first | exact HB.out | apply below_alloc | apply pw_below_drewN | apply below_drew1) | exact HB.out)) hb); clear HO_7; clear HO_8; clear HO177; clear HB; have HO_7 := n0_; have HO_8 := n1_; have HO177 := n2_; have HO180 := n3_; have HB := n4_; clear n0_ n1_ n2_ n3_ n4_; (try clear hb); (try clear hb2); (try clear hk); (try clear hi); (try clear ho0)))
                repeat (go_quiet (first | (go_at_call 26; (with_reducible refine (rootcellarref5_row.calls k2 _ _ x7_2 t175 _ ?side1 ?side2 A29.out).mono ?_); (case side1 => repeat (first | exact (Kd.R_reads' HO_7.out).2.2 | (with_reducible refine Kd.C_alloc ?_ _) | (with_reducible refine Kd.C_drewN ?_ _) | (with_reducible refine Kd.C_drew ?_))); (case side2 => exact (Kd.R_reads' HO_7.out).2.1); rintro e w32 ⟨v176, rfl, ho0, hb⟩; have n0_ := Aside0.mk (Kd.R_below (by (with_reducible repeat (first | apply Kd.R_alloc | apply Kd.R_drewN | apply Kd.R_drew)); exact HO_7.out) hb); have n1_ := Aside0.mk (Kd.R_below (by (with_reducible repeat (first | apply Kd.R_alloc | apply Kd.R_drewN | apply Kd.R_drew)); exact HO_8.out) hb); have n2_ := Aside0.mk (Kd.R_lower ho0 (below_size (by repeat (first | (with_reducible first | exact HB.out | apply below_alloc | apply pw_below_drewN | apply below_drew1) | exact HB.out)))); have n3_ := Aside0.mk (below_step (by repeat (first | (with_reducible first | exact HB.out | apply below_alloc | apply pw_below_drewN | apply below_drew1) | exact HB.out)) hb); clear HO_7; clear HO_8; clear HB; have HO_7 := n0_; have HO_8 := n1_; have HO177 := n2_; have HB := n3_; clear n0_ n1_ n2_ n3_; (try clear hb); (try clear hb2); (try clear hk); (try clear hi); (try clear ho0); obtain ⟨Ao33, co33, eo33⟩ := Kd.R_slice HO_8.out; subst eo33) | (go_at_call 26; (with_reducible refine (rootcellarref5_row.calls k2 _ _ x8_2 t178 _ ?side1 ?side2 A30.out).mono ?_); (case side1 => repeat (first | exact (Kd.R_reads' HO_8.out).2.2 | (with_reducible refine Kd.C_alloc ?_ _) | (with_reducible refine Kd.C_drewN ?_ _) | (with_reducible refine Kd.C_drew ?_))); (case side2 => exact (Kd.R_reads' HO_8.out).2.1); rintro e w34 ⟨v179, rfl, ho0, hb⟩; have n0_ := Aside0.mk (Kd.R_below (by (with_reducible repeat (first | apply Kd.R_alloc | apply Kd.R_drewN | apply Kd.R_drew)); exact HO_7.out) hb); have n1_ := Aside0.mk (Kd.R_below (by (with_reducible repeat (first | apply Kd.R_alloc | apply Kd.R_drewN | apply Kd.R_drew)); exact HO_8.out) hb); have n2_ := Aside0.mk (Kd.R_elder' (by (with_reducible repeat (first | apply Kd.R_alloc | apply Kd.R_drewN | apply Kd.R_drew)); exact HO177.out) (Kd.R_base ho0) hb); have n3_ := Aside0.mk (Kd.R_lower (Kd.R_new' ho0 (Kd.R_lt (by (with_reducible repeat (first | apply Kd.R_alloc | apply Kd.R_drewN | apply Kd.R_drew)); exact HO177.out))) (below_size (by repeat (first | (with_reducible first | exact HB.out | apply below_alloc | apply pw_below_drewN | apply below_drew1) | exact HB.out)))); have n4_ := Aside0.mk (below_step (by repeat (first | (with_reducible first | exact HB.out | apply below_alloc | apply pw_below_drewN | apply below_drew1) | exact HB.out)) hb); clear HO_7; clear HO_8; clear HO177; clear HB; have HO_7 := n0_; have HO_8 := n1_; have HO177 := n2_; have HO180 := n3_; have HB := n4_; clear n0_ n1_ n2_ n3_ n4_; (try clear hb); (try clear hb2); (try clear hk); (try clear hi); (try clear ho0))); try go_wp2_with (first | (go_at_call 26; (with_reducible refine (rootcellarref5_row.calls k2 _ _ x7_2 t175 _ ?side1 ?side2 A29.out).mono ?_); (case side1 => repeat (first | exact (Kd.R_reads' HO_7.out).2.2 | (with_reducible refine Kd.C_alloc ?_ _) | (with_reducible refine Kd.C_drewN ?_ _) | (with_reducible refine Kd.C_drew ?_))); (case side2 => exact (Kd.R_reads' HO_7.out).2.1); rintro e w32 ⟨v176, rfl, ho0, hb⟩; have n0_ := Aside0.mk (Kd.R_below (by (with_reducible repeat (first | apply Kd.R_alloc | apply Kd.R_drewN | apply Kd.R_drew)); exact HO_7.out) hb); have n1_ := Aside0.mk (Kd.R_below (by (with_reducible repeat (first | apply Kd.R_alloc | apply Kd.R_drewN | apply Kd.R_drew)); exact HO_8.out) hb); have n2_ := Aside0.mk (Kd.R_lower ho0 (below_size (by repeat (first | (with_reducible first | exact HB.out | apply below_alloc | apply pw_below_drewN | apply below_drew1) | exact HB.out)))); have n3_ := Aside0.mk (below_step (by repeat (first | (with_reducible first | exact HB.out | apply below_alloc | apply pw_below_drewN | apply below_drew1) | exact HB.out)) hb); clear HO_7; clear HO_8; clear HB; have HO_7 := n0_; have HO_8 := n1_; have HO177 := n2_; have HB := n3_; clear n0_ n1_ n2_ n3_; (try clear hb); (try clear hb2); (try clear hk); (try clear hi); (try clear ho0); obtain ⟨Ao33, co33, eo33⟩ := Kd.R_slice HO_8.out; subst eo33) | (go_at_call 26; (with_reducible refine (rootcellarref5_row.calls k2 _ _ x8_2 t178 _ ?side1 ?side2 A30.out).mono ?_); (case side1 => repeat (first | exact (Kd.R_reads' HO_8.out).2.2 | (with_reducible refine Kd.C_alloc ?_ _) | (with_reducible refine Kd.C_drewN ?_ _) | (with_reducible refine Kd.C_drew ?_))); (case side2 => exact (Kd.R_reads' HO_8.out).2.1); rintro e w34 ⟨v179, rfl, ho0, hb⟩; have n0_ := Aside0.mk (Kd.R_below (by (with_reducible repeat (first | apply Kd.R_alloc | apply Kd.R_drewN | apply Kd.R_drew)); exact HO_7.out) hb); have n1_ := Aside0.mk (Kd.R_below (by (with_reducible repeat (first | apply Kd.R_alloc | apply Kd.R_drewN | apply Kd.R_drew)); exact HO_8.out) hb); have n2_ := Aside0.mk (Kd.R_elder' (by (with_reducible repeat (first | apply Kd.R_alloc | apply Kd.R_drewN | apply Kd.R_drew)); exact HO177.out) (Kd.R_base ho0) hb); have n3_ := Aside0.mk (Kd.R_lower (Kd.R_new' ho0 (Kd.R_lt (by (with_reducible repeat (first | apply Kd.R_alloc | apply Kd.R_drewN | apply Kd.R_drew)); exact HO177.out))) (below_size (by repeat (first | (with_reducible first | exact HB.out | apply below_alloc | apply pw_below_drewN | apply below_drew1) | exact HB.out)))); have n4_ := Aside0.mk (below_step (by repeat (first | (with_reducible first | exact HB.out | apply below_alloc | apply pw_below_drewN | apply below_drew1) | exact HB.out)) hb); clear HO_7; clear HO_8; clear HO177; clear HB; have HO_7 := n0_; have HO_8 := n1_; have HO177 := n2_; have HO180 := n3_; have HB := n4_; clear n0_ n1_ n2_ n3_ n4_; (try clear hb); (try clear hb2); (try clear hk); (try clear hi); (try clear ho0))))
                go_ret3
                exact ⟨_, _, by first | rfl | (simp [errW_none, errW_some] <;> rfl) | (simp [*, errW_none, errW_some] <;> rfl), by (with_reducible repeat (first | apply Kd.R_alloc | apply Kd.R_drewN | apply Kd.R_drew)); exact Kd.R_mono HO177.out (fun _ hk => hk.2), by (with_reducible repeat (first | apply Kd.R_alloc | apply Kd.R_drewN | apply Kd.R_drew)); exact Kd.R_mono HO180.out (fun _ hk => hk.2), by repeat (first | (with_reducible first | exact HB.out | apply below_alloc | apply pw_below_drewN | apply below_drew1) | exact HB.out)⟩
        · rw [if_neg c8] at H
          exact absurd H (by simp)

/-! ### span_Right: function 15 -/
def span_Right.l0 : Nat → Int → Int → List (S32) → Int → Int → Option (Bool)
  | 0, _, _, _, _, _ => none
  | k + 1, x1, x5, x8, x9, x10 => if x10 < x9 then (if 0 ≤ x10 then (if x10 < (x8.length : Int) then ((span_inside.f ((rd_T32 x8 x10).f0) ((rd_T32 x8 x10).f1) x1).bind fun t184 => (if t184 = true then (if ((rd_T32 x8 x10).f0) ≤ x5 then (some false) else (span_Right.l0 k x1 (wrap64 (((rd_T32 x8 x10).f0) + ((rd_T32 x8 x10).f1))) x8 x9 (wrap64 (x10 + 1)))) else (some false))) else (none)) else (none)) else ((span_sized.f x1).bind fun t181 => (some t181))
def span_Right.f (k : Nat) (l0 : List (S32)) (a1 : Int) : Option (Bool) := span_Right.l0 k a1 (-1) l0 (l0.length : Int) 0
theorem span_Right.mono_l : ∀ k, (∀ y0 y1 y2 y3 y4, LeO (span_Right.l0 k y0 y1 y2 y3 y4) (span_Right.l0 (k + 1) y0 y1 y2 y3 y4))
  | 0 => fun _ _ _ _ _ r h => by simp [span_Right.l0] at h
  | k + 1 => by
    have ih0 := span_Right.mono_l k
    · intro y0 y1 y2 y3 y4
      unfold span_Right.l0
      repeat' first
      | (with_reducible exact ih0 _ _ _ _ _)
      | (with_reducible exact LeO.refl _)
      | (with_reducible exact LeO.none _)
      | (with_reducible refine LeO.ite ?_ ?_)
      | (with_reducible refine LeO.bind ?_ (fun _ => ?_))
      | exact ih0 _ _ _ _ _
      | exact LeO.none _
      | refine LeO.ite ?_ ?_
      | refine LeO.bind ?_ (fun _ => ?_)
theorem span_Right.mono : ∀ a0 a1 k, LeO (span_Right.f k a0 a1) (span_Right.f (k + 1) a0 a1) := by
  intro a0 a1 k
  have ih0 := span_Right.mono_l k
  unfold span_Right.f
  repeat' first
      | (with_reducible exact ih0 _ _ _ _ _)
      | (with_reducible exact LeO.refl _)
      | (with_reducible exact LeO.none _)
      | (with_reducible refine LeO.ite ?_ ?_)
      | (with_reducible refine LeO.bind ?_ (fun _ => ?_))
      | exact ih0 _ _ _ _ _
      | exact LeO.none _
      | refine LeO.ite ?_ ?_
      | refine LeO.bind ?_ (fun _ => ?_)
set_option maxHeartbeats 8000000 in
set_option maxRecDepth 100000 in
theorem span_Right.calls (k : Nat) (A0 : Option Addr) (c0 : Nat) (l0 : List (S32)) (a1 : Int) (r : Bool) (w : World) (hr0 : Kd.C k32 w A0 l0.length l0) (hc0 : l0.length ≤ c0) (h : span_Right.f k l0 a1 = some r) :
    Calls Try.prog 15 #[.slice A0 l0.length c0, .int .i64 a1] w fun e w' => e = .returned (.bool r) ∧ Below w.heap.size w w' := by
  have hu32 := Try.underlying32
  have HR0 := Aside0.mk hr0
  have HC0 := Aside0.mk hc0
  clear hr0 hc0
  have HB := Aside0.mk (Below.refl w.heap.size w)
  have H : (span_Right.l0 k a1 (-1) l0 (l0.length : Int) 0) = some r := h
  clear h
  have H' := Aside0.mk H
  clear H
  go_enter Try.func15, Try.ntmps15
  go_wp2
  go_loopg [5, 10] k (fun kq v5 v10 w' => ∃ (x5_1 : Int) (x10_1 : Int), v5 = .int .i64 x5_1 ∧ v10 = .int .i64 x10_1 ∧ Aside0 (span_Right.l0 kq a1 x5_1 l0 (l0.length : Int) x10_1 = some r) ∧ Aside0 (kq ≤ k) ∧ Aside0 (Below w.heap.size w w'))
  case atStart => exact ⟨((-1)), (0), (by first | rfl | (simp; done) | (simp [*]; done)), (by first | rfl | (simp; done) | (simp [*]; done)), H', ⟨Nat.le_refl _⟩, ⟨by repeat (first | (with_reducible first | exact HB.out | apply below_alloc | apply pw_below_drewN | apply below_drew1) | exact HB.out)⟩⟩
  case round =>
    clear H'
    try clear c1
    try clear p2
    obtain ⟨x5_1, x10_1, rfl, rfl, HA, HK1, HB⟩ := hrel
    cases gk with
    | zero => exact absurd HA.out (by simp [span_Right.l0])
    | succ k1 =>
      have H := HA.out
      clear HA
      simp only [span_Right.l0] at H
      by_cases c3 : x10_1 < (l0.length : Int)
      · rw [if_pos c3] at H
        have c3b0 : decide (x10_1 < (l0.length : Int)) = true := decide_eq_true c3
        clear c3
        by_cases c4 : 0 ≤ x10_1
        · rw [if_pos c4] at H
          have c4b0 : decide (0 ≤ x10_1) = true := decide_eq_true c4
          clear c4
          by_cases c5 : x10_1 < (l0.length : Int)
          · rw [if_pos c5] at H
            have c5b0 : decide (x10_1 < (l0.length : Int)) = true := decide_eq_true c5
            clear c5
            replace H := Option.bind_eq_some_iff.mp H
            obtain ⟨t184, A60, H⟩ := H
            replace H : (if t184 = true then (if ((rd_T32 l0 x10_1).f0) ≤ x5_1 then (some false) else (span_Right.l0 k1 a1 (wrap64 (((rd_T32 l0 x10_1).f0) + ((rd_T32 l0 x10_1).f1))) l0 (l0.length : Int) (wrap64 (x10_1 + 1)))) else (some false)) = some r := H
            have A6 := Aside0.mk A60
            clear A60
            by_cases c7 : t184 = true
            · subst c7
              have H1 : (if ((rd_T32 l0 x10_1).f0) ≤ x5_1 then (some false) else (span_Right.l0 k1 a1 (wrap64 (((rd_T32 l0 x10_1).f0) + ((rd_T32 l0 x10_1).f1))) l0 (l0.length : Int) (wrap64 (x10_1 + 1)))) = some r := by rw [if_pos rfl] at H; exact H
              clear H
              have H := H1
              clear H1
              by_cases c8 : ((rd_T32 l0 x10_1).f0) ≤ x5_1
              · rw [if_pos c8] at H
                have c8b0 : decide (((rd_T32 l0 x10_1).f0) ≤ x5_1) = true := decide_eq_true c8
                clear c8
                obtain rfl := Option.some.inj H
                have p182 : 0 ≤ (x10_1 : Int) := of_decide_eq_true (by first | (with_reducible assumption) | assumption)
                have q182 : x10_1 < (l0.length : Int) := of_decide_eq_true (by first | (with_reducible assumption) | assumption)
                obtain ⟨ad182, e182, hx182_0, hx182_1⟩ := at_T32 HR0.out x10_1 p182 q182
                cases e182
                replace hx182_0 := (HB.out.cell (World.block_lt_of_cell? w _ hx182_0)).trans hx182_0
                replace hx182_1 := (HB.out.cell (World.block_lt_of_cell? w _ hx182_1)).trans hx182_1
                replace p182 := eq_true p182
                replace q182 := eq_true q182
                go_wp2_with (first | ((with_reducible refine gate_dst (N := 7) rfl ?_); refine box_event ?hg (N := 7) ?hd (cs := #[.int .i64 0, .int .i64 0]) (t := 32) ?hr ?_; (case hd => rfl); (case hg => rfl); (case hr => first | (go_simp; done) | (go_simp; rfl)); intro gb183 hg w9 hbox hb; have n0_ := Aside0.mk (below_step (by repeat (first | (with_reducible first | exact HB.out | apply below_alloc | apply pw_below_drewN | apply below_drew1) | exact HB.out)) hb); have n1_ := Aside0.mk (hbox); have n2_ := Aside0.mk ((by rw [hg]; exact (below_size (by repeat (first | (with_reducible first | exact HB.out | apply below_alloc | apply pw_below_drewN | apply below_drew1) | exact HB.out))) : w.heap.size ≤ gb183)); have n3_ := Aside0.mk ((by rw [hg]; exact (below_size (by repeat (first | (with_reducible first | exact HB.out | apply below_alloc | apply pw_below_drewN | apply below_drew1) | exact HB.out))) : w.heap.size ≤ gb183)); clear HB; have HB := n0_; have BK183 := n1_; have GW183 := n2_; have GE183 := n3_; clear n0_ n1_ n2_ n3_; clear hb hbox hg; have hcz10_0 : w9.cell? ⟨gb183, 0, none⟩ = some (.int .i64 0) := (blk_cell BK183.out 0).trans rfl; have hcz10_1 : w9.cell? ⟨gb183, 1, none⟩ = some (.int .i64 0) := (blk_cell BK183.out 1).trans rfl; have hfz10_0 := blk_frozen BK183.out 0; have hfz10_1 := blk_frozen BK183.out 1) | ((with_reducible refine gate_callee (f := 27) rfl ?_); refine goesL_ (some 16) rfl rfl Try.func27 (by kernel_rfl) rfl #[.agg #[.int .i64 ((rd_T32 l0 x10_1).f0), .int .i64 ((rd_T32 l0 x10_1).f1)], .int .i64 a1] rfl (by (try simp only [List.map_toArray, List.map_cons, List.map_nil]); first | done | rfl | (simp only [List.length_drop, List.length_take]; rfl)) ?_; (with_reducible refine (span_inside.calls ((rd_T32 l0 x10_1).f0) ((rd_T32 l0 x10_1).f1) a1 true _ A6.out).mono ?_); rintro e w11 ⟨rfl, hb⟩; refine ⟨_, rfl, ?_⟩; have n0_ := Aside0.mk (blk_below (g := gb183) (o := .cells #[.int .i64 ((rd_T32 l0 x10_1).f0), .int .i64 ((rd_T32 l0 x10_1).f1)] 32 (0, 0)) (by (with_reducible repeat (first | refine blk_drewN ?_ _ | refine blk_drew ?_ | refine blk_alloc ?_ _)); refine blk_put (cs := #[.int .i64 ((rd_T32 l0 x10_1).f0), .int .i64 0]) ?_ 1 _ rfl; (with_reducible repeat (first | refine blk_drewN ?_ _ | refine blk_drew ?_ | refine blk_alloc ?_ _)); refine blk_put (cs := #[.int .i64 0, .int .i64 0]) ?_ 0 _ rfl; (with_reducible repeat (first | refine blk_drewN ?_ _ | refine blk_drew ?_ | refine blk_alloc ?_ _)); exact BK183.out) hb); have n1_ := Aside0.mk (below_step (by repeat (first | (with_reducible first | exact HB.out | apply below_alloc | apply pw_below_drewN | apply below_drew1 | refine below_set ?_ GE183.out) | exact HB.out)) hb); clear BK183; clear HB; have BK183 := n0_; have HB := n1_; clear n0_ n1_; (try clear hb); (try clear hb2); (try clear hk); (try clear hi); have hcz12_0 : w11.cell? ⟨gb183, 0, none⟩ = some (.int .i64 ((rd_T32 l0 x10_1).f0)) := (blk_cell BK183.out 0).trans rfl; have hcz12_1 : w11.cell? ⟨gb183, 1, none⟩ = some (.int .i64 ((rd_T32 l0 x10_1).f1)) := (blk_cell BK183.out 1).trans rfl; have hfz12_0 := blk_frozen BK183.out 0; have hfz12_1 := blk_frozen BK183.out 1))
                go_ret
                exact ⟨by first | rfl | (simp [errW_none, errW_some] <;> rfl) | (simp [*, errW_none, errW_some] <;> rfl), by repeat (first | (with_reducible first | exact HB.out | apply below_alloc | apply pw_below_drewN | apply below_drew1 | refine below_set ?_ GE183.out) | exact HB.out)⟩
              · rw [if_neg c8] at H
                have c8b0 : decide (((rd_T32 l0 x10_1).f0) ≤ x5_1) = false := decide_eq_false c8
                clear c8
                have H' := Aside0.mk H
                clear H
                have p182 : 0 ≤ (x10_1 : Int) := of_decide_eq_true (by first | (with_reducible assumption) | assumption)
                have q182 : x10_1 < (l0.length : Int) := of_decide_eq_true (by first | (with_reducible assumption) | assumption)
                obtain ⟨ad182, e182, hx182_0, hx182_1⟩ := at_T32 HR0.out x10_1 p182 q182
                cases e182
                replace hx182_0 := (HB.out.cell (World.block_lt_of_cell? w _ hx182_0)).trans hx182_0
                replace hx182_1 := (HB.out.cell (World.block_lt_of_cell? w _ hx182_1)).trans hx182_1
                replace p182 := eq_true p182
                replace q182 := eq_true q182
                go_wp2_with (first | ((with_reducible refine gate_dst (N := 7) rfl ?_); refine box_event ?hg (N := 7) ?hd (cs := #[.int .i64 0, .int .i64 0]) (t := 32) ?hr ?_; (case hd => rfl); (case hg => rfl); (case hr => first | (go_simp; done) | (go_simp; rfl)); intro gb183 hg w13 hbox hb; have n0_ := Aside0.mk (below_step (by repeat (first | (with_reducible first | exact HB.out | apply below_alloc | apply pw_below_drewN | apply below_drew1) | exact HB.out)) hb); have n1_ := Aside0.mk (hbox); have n2_ := Aside0.mk ((by rw [hg]; exact (below_size (by repeat (first | (with_reducible first | exact HB.out | apply below_alloc | apply pw_below_drewN | apply below_drew1) | exact HB.out))) : w.heap.size ≤ gb183)); have n3_ := Aside0.mk ((by rw [hg]; exact (below_size (by repeat (first | (with_reducible first | exact HB.out | apply below_alloc | apply pw_below_drewN | apply below_drew1) | exact HB.out))) : w.heap.size ≤ gb183)); clear HB; have HB := n0_; have BK183 := n1_; have GW183 := n2_; have GE183 := n3_; clear n0_ n1_ n2_ n3_; clear hb hbox hg; have hcz14_0 : w13.cell? ⟨gb183, 0, none⟩ = some (.int .i64 0) := (blk_cell BK183.out 0).trans rfl; have hcz14_1 : w13.cell? ⟨gb183, 1, none⟩ = some (.int .i64 0) := (blk_cell BK183.out 1).trans rfl; have hfz14_0 := blk_frozen BK183.out 0; have hfz14_1 := blk_frozen BK183.out 1) | ((with_reducible refine gate_callee (f := 27) rfl ?_); refine goesL_ (some 16) rfl rfl Try.func27 (by kernel_rfl) rfl #[.agg #[.int .i64 ((rd_T32 l0 x10_1).f0), .int .i64 ((rd_T32 l0 x10_1).f1)], .int .i64 a1] rfl (by (try simp only [List.map_toArray, List.map_cons, List.map_nil]); first | done | rfl | (simp only [List.length_drop, List.length_take]; rfl)) ?_; (with_reducible refine (span_inside.calls ((rd_T32 l0 x10_1).f0) ((rd_T32 l0 x10_1).f1) a1 true _ A6.out).mono ?_); rintro e w15 ⟨rfl, hb⟩; refine ⟨_, rfl, ?_⟩; have n0_ := Aside0.mk (blk_below (g := gb183) (o := .cells #[.int .i64 ((rd_T32 l0 x10_1).f0), .int .i64 ((rd_T32 l0 x10_1).f1)] 32 (0, 0)) (by (with_reducible repeat (first | refine blk_drewN ?_ _ | refine blk_drew ?_ | refine blk_alloc ?_ _)); refine blk_put (cs := #[.int .i64 ((rd_T32 l0 x10_1).f0), .int .i64 0]) ?_ 1 _ rfl; (with_reducible repeat (first | refine blk_drewN ?_ _ | refine blk_drew ?_ | refine blk_alloc ?_ _)); refine blk_put (cs := #[.int .i64 0, .int .i64 0]) ?_ 0 _ rfl; (with_reducible repeat (first | refine blk_drewN ?_ _ | refine blk_drew ?_ | refine blk_alloc ?_ _)); exact BK183.out) hb); have n1_ := Aside0.mk (below_step (by repeat (first | (with_reducible first | exact HB.out | apply below_alloc | apply pw_below_drewN | apply below_drew1 | refine below_set ?_ GE183.out) | exact HB.out)) hb); clear BK183; clear HB; have BK183 := n0_; have HB := n1_; clear n0_ n1_; (try clear hb); (try clear hb2); (try clear hk); (try clear hi); have hcz16_0 : w15.cell? ⟨gb183, 0, none⟩ = some (.int .i64 ((rd_T32 l0 x10_1).f0)) := (blk_cell BK183.out 0).trans rfl; have hcz16_1 : w15.cell? ⟨gb183, 1, none⟩ = some (.int .i64 ((rd_T32 l0 x10_1).f1)) := (blk_cell BK183.out 1).trans rfl; have hfz16_0 := blk_frozen BK183.out 0; have hfz16_1 := blk_frozen BK183.out 1))
                go_roundg k1
                case measure => have := HK1.out; omega
                case rel => exact ⟨(wrap64 (((rd_T32 l0 x10_1).f0) + ((rd_T32 l0 x10_1).f1))), (wrap64 (x10_1 + 1)), (by first | rfl | (simp; done) | (simp [*]; done)), (by first | rfl | (simp; done) | (simp [*]; done)), H', ⟨by have := HK1.out; omega⟩, ⟨by repeat (first | (with_reducible first | exact HB.out | apply below_alloc | apply pw_below_drewN | apply below_drew1 | refine below_set ?_ GE183.out) | exact HB.out)⟩⟩
            · replace c7 := Bool.eq_false_iff.mpr c7
              subst c7
              have H1 : (some false) = some r := by rw [if_neg (show ¬ (false = true) by decide)] at H; exact H
              clear H
              have H := H1
              clear H1
              obtain rfl := Option.some.inj H
              have p182 : 0 ≤ (x10_1 : Int) := of_decide_eq_true (by first | (with_reducible assumption) | assumption)
              have q182 : x10_1 < (l0.length : Int) := of_decide_eq_true (by first | (with_reducible assumption) | assumption)
              obtain ⟨ad182, e182, hx182_0, hx182_1⟩ := at_T32 HR0.out x10_1 p182 q182
              cases e182
              replace hx182_0 := (HB.out.cell (World.block_lt_of_cell? w _ hx182_0)).trans hx182_0
              replace hx182_1 := (HB.out.cell (World.block_lt_of_cell? w _ hx182_1)).trans hx182_1
              replace p182 := eq_true p182
              replace q182 := eq_true q182
              go_wp2_with (first | ((with_reducible refine gate_dst (N := 7) rfl ?_); refine box_event ?hg (N := 7) ?hd (cs := #[.int .i64 0, .int .i64 0]) (t := 32) ?hr ?_; (case hd => rfl); (case hg => rfl); (case hr => first | (go_simp; done) | (go_simp; rfl)); intro gb183 hg w17 hbox hb; have n0_ := Aside0.mk (below_step (by repeat (first | (with_reducible first | exact HB.out | apply below_alloc | apply pw_below_drewN | apply below_drew1) | exact HB.out)) hb); have n1_ := Aside0.mk (hbox); have n2_ := Aside0.mk ((by rw [hg]; exact (below_size (by repeat (first | (with_reducible first | exact HB.out | apply below_alloc | apply pw_below_drewN | apply below_drew1) | exact HB.out))) : w.heap.size ≤ gb183)); have n3_ := Aside0.mk ((by rw [hg]; exact (below_size (by repeat (first | (with_reducible first | exact HB.out | apply below_alloc | apply pw_below_drewN | apply below_drew1) | exact HB.out))) : w.heap.size ≤ gb183)); clear HB; have HB := n0_; have BK183 := n1_; have GW183 := n2_; have GE183 := n3_; clear n0_ n1_ n2_ n3_; clear hb hbox hg; have hcz18_0 : w17.cell? ⟨gb183, 0, none⟩ = some (.int .i64 0) := (blk_cell BK183.out 0).trans rfl; have hcz18_1 : w17.cell? ⟨gb183, 1, none⟩ = some (.int .i64 0) := (blk_cell BK183.out 1).trans rfl; have hfz18_0 := blk_frozen BK183.out 0; have hfz18_1 := blk_frozen BK183.out 1) | ((with_reducible refine gate_callee (f := 27) rfl ?_); refine goesL_ (some 16) rfl rfl Try.func27 (by kernel_rfl) rfl #[.agg #[.int .i64 ((rd_T32 l0 x10_1).f0), .int .i64 ((rd_T32 l0 x10_1).f1)], .int .i64 a1] rfl (by (try simp only [List.map_toArray, List.map_cons, List.map_nil]); first | done | rfl | (simp only [List.length_drop, List.length_take]; rfl)) ?_; (with_reducible refine (span_inside.calls ((rd_T32 l0 x10_1).f0) ((rd_T32 l0 x10_1).f1) a1 false _ A6.out).mono ?_); rintro e w19 ⟨rfl, hb⟩; refine ⟨_, rfl, ?_⟩; have n0_ := Aside0.mk (blk_below (g := gb183) (o := .cells #[.int .i64 ((rd_T32 l0 x10_1).f0), .int .i64 ((rd_T32 l0 x10_1).f1)] 32 (0, 0)) (by (with_reducible repeat (first | refine blk_drewN ?_ _ | refine blk_drew ?_ | refine blk_alloc ?_ _)); refine blk_put (cs := #[.int .i64 ((rd_T32 l0 x10_1).f0), .int .i64 0]) ?_ 1 _ rfl; (with_reducible repeat (first | refine blk_drewN ?_ _ | refine blk_drew ?_ | refine blk_alloc ?_ _)); refine blk_put (cs := #[.int .i64 0, .int .i64 0]) ?_ 0 _ rfl; (with_reducible repeat (first | refine blk_drewN ?_ _ | refine blk_drew ?_ | refine blk_alloc ?_ _)); exact BK183.out) hb); have n1_ := Aside0.mk (below_step (by repeat (first | (with_reducible first | exact HB.out | apply below_alloc | apply pw_below_drewN | apply below_drew1 | refine below_set ?_ GE183.out) | exact HB.out)) hb); clear BK183; clear HB; have BK183 := n0_; have HB := n1_; clear n0_ n1_; (try clear hb); (try clear hb2); (try clear hk); (try clear hi)))
              go_ret
              exact ⟨by first | rfl | (simp [errW_none, errW_some] <;> rfl) | (simp [*, errW_none, errW_some] <;> rfl), by repeat (first | (with_reducible first | exact HB.out | apply below_alloc | apply pw_below_drewN | apply below_drew1 | refine below_set ?_ GE183.out) | exact HB.out)⟩
          · rw [if_neg c5] at H
            exact absurd H (by simp)
        · rw [if_neg c4] at H
          exact absurd H (by simp)
      · rw [if_neg c3] at H
        have c3b0 : decide (x10_1 < (l0.length : Int)) = false := decide_eq_false c3
        clear c3
        replace H := Option.bind_eq_some_iff.mp H
        obtain ⟨t181, A200, H⟩ := H
        replace H : (some t181) = some r := H
        have A20 := Aside0.mk A200
        clear A200
        obtain rfl := Option.some.inj H
        go_wp2_with (first | ((with_reducible refine gate_callee (f := 28) rfl ?_); refine goesL_ (some 31) rfl rfl Try.func28 (by kernel_rfl) rfl #[.int .i64 a1] rfl (by (try simp only [List.map_toArray, List.map_cons, List.map_nil]); first | done | rfl | (simp only [List.length_drop, List.length_take]; rfl)) ?_; (with_reducible refine (span_sized.calls a1 t181 _ A20.out).mono ?_); rintro e w' ⟨rfl, ⟨nd, rfl⟩⟩; refine ⟨_, rfl, ?_⟩))
        go_ret
        exact ⟨by first | rfl | (simp [errW_none, errW_some] <;> rfl) | (simp [*, errW_none, errW_some] <;> rfl), by repeat (first | (with_reducible first | exact HB.out | apply below_alloc | apply pw_below_drewN | apply below_drew1) | exact HB.out)⟩

/-! ### rootcellarref5_inside: function 39 -/
def rootcellarref5_inside.f (a0_0 : Int) (a0_1 : Int) (a1 : Int) : Option (Bool) := if a0_1 ≥ 1 then (if a0_0 ≥ 0 then (if a0_0 < a1 then (some (decide (a0_1 ≤ (wrap64 (a1 - a0_0))))) else (some false)) else (some false)) else (some false)
set_option maxHeartbeats 8000000 in
set_option maxRecDepth 100000 in
theorem rootcellarref5_inside.calls (a0_0 : Int) (a0_1 : Int) (a1 : Int) (r : Bool) (w : World) (h : rootcellarref5_inside.f a0_0 a0_1 a1 = some r) :
    Calls Try.prog 39 #[.agg #[.int .i64 a0_0, .int .i64 a0_1], .int .i64 a1] w fun e w' => e = .returned (.bool r) ∧ Below w.heap.size w w' := by
  have hu32 := Try.underlying32
  have HB := Aside0.mk (Below.refl w.heap.size w)
  have H : (if a0_1 ≥ 1 then (if a0_0 ≥ 0 then (if a0_0 < a1 then (some (decide (a0_1 ≤ (wrap64 (a1 - a0_0))))) else (some false)) else (some false)) else (some false)) = some r := h
  clear h
  by_cases c3 : a0_1 ≥ 1
  · rw [if_pos c3] at H
    have c3b0 : decide (1 ≤ a0_1) = true := decide_eq_true c3
    clear c3
    by_cases c4 : a0_0 ≥ 0
    · rw [if_pos c4] at H
      have c4b0 : decide (0 ≤ a0_0) = true := decide_eq_true c4
      clear c4
      by_cases c5 : a0_0 < a1
      · rw [if_pos c5] at H
        have c5b0 : decide (a0_0 < a1) = true := decide_eq_true c5
        clear c5
        obtain rfl := Option.some.inj H
        go_enter Try.func39, Try.ntmps39
        go_wp2_with (first | ((with_reducible refine gate_dst (N := 2) rfl ?_); refine box_event ?hg (N := 2) ?hd (cs := #[.int .i64 a0_0, .int .i64 a0_1]) (t := 32) ?hr ?_; (case hd => rfl); (case hg => rfl); (case hr => first | (go_simp; done) | (go_simp; rfl)); intro gb185 hg w6 hbox hb; have n0_ := Aside0.mk (below_step (by repeat (first | (with_reducible first | exact HB.out | apply below_alloc | apply pw_below_drewN | apply below_drew1) | exact HB.out)) hb); have n1_ := Aside0.mk (hbox); have n2_ := Aside0.mk ((by rw [hg]; exact (below_size (by repeat (first | (with_reducible first | exact HB.out | apply below_alloc | apply pw_below_drewN | apply below_drew1) | exact HB.out))) : w.heap.size ≤ gb185)); have n3_ := Aside0.mk ((by rw [hg]; exact (below_size (by repeat (first | (with_reducible first | exact HB.out | apply below_alloc | apply pw_below_drewN | apply below_drew1) | exact HB.out))) : w.heap.size ≤ gb185)); clear HB; have HB := n0_; have BK185 := n1_; have GW185 := n2_; have GE185 := n3_; clear n0_ n1_ n2_ n3_; clear hb hbox hg; have hcz7_0 : w6.cell? ⟨gb185, 0, none⟩ = some (.int .i64 a0_0) := (blk_cell BK185.out 0).trans rfl; have hcz7_1 : w6.cell? ⟨gb185, 1, none⟩ = some (.int .i64 a0_1) := (blk_cell BK185.out 1).trans rfl; have hfz7_0 := blk_frozen BK185.out 0; have hfz7_1 := blk_frozen BK185.out 1))
        go_ret
        exact ⟨by first | rfl | (simp [errW_none, errW_some] <;> rfl) | (simp [*, errW_none, errW_some] <;> rfl), by repeat (first | (with_reducible first | exact HB.out | apply below_alloc | apply pw_below_drewN | apply below_drew1 | refine below_set ?_ GE185.out) | exact HB.out)⟩
      · rw [if_neg c5] at H
        have c5b0 : decide (a0_0 < a1) = false := decide_eq_false c5
        clear c5
        obtain rfl := Option.some.inj H
        go_enter Try.func39, Try.ntmps39
        go_wp2_with (first | ((with_reducible refine gate_dst (N := 2) rfl ?_); refine box_event ?hg (N := 2) ?hd (cs := #[.int .i64 a0_0, .int .i64 a0_1]) (t := 32) ?hr ?_; (case hd => rfl); (case hg => rfl); (case hr => first | (go_simp; done) | (go_simp; rfl)); intro gb185 hg w8 hbox hb; have n0_ := Aside0.mk (below_step (by repeat (first | (with_reducible first | exact HB.out | apply below_alloc | apply pw_below_drewN | apply below_drew1) | exact HB.out)) hb); have n1_ := Aside0.mk (hbox); have n2_ := Aside0.mk ((by rw [hg]; exact (below_size (by repeat (first | (with_reducible first | exact HB.out | apply below_alloc | apply pw_below_drewN | apply below_drew1) | exact HB.out))) : w.heap.size ≤ gb185)); have n3_ := Aside0.mk ((by rw [hg]; exact (below_size (by repeat (first | (with_reducible first | exact HB.out | apply below_alloc | apply pw_below_drewN | apply below_drew1) | exact HB.out))) : w.heap.size ≤ gb185)); clear HB; have HB := n0_; have BK185 := n1_; have GW185 := n2_; have GE185 := n3_; clear n0_ n1_ n2_ n3_; clear hb hbox hg; have hcz9_0 : w8.cell? ⟨gb185, 0, none⟩ = some (.int .i64 a0_0) := (blk_cell BK185.out 0).trans rfl; have hcz9_1 : w8.cell? ⟨gb185, 1, none⟩ = some (.int .i64 a0_1) := (blk_cell BK185.out 1).trans rfl; have hfz9_0 := blk_frozen BK185.out 0; have hfz9_1 := blk_frozen BK185.out 1))
        go_ret
        exact ⟨by first | rfl | (simp [errW_none, errW_some] <;> rfl) | (simp [*, errW_none, errW_some] <;> rfl), by repeat (first | (with_reducible first | exact HB.out | apply below_alloc | apply pw_below_drewN | apply below_drew1 | refine below_set ?_ GE185.out) | exact HB.out)⟩
    · rw [if_neg c4] at H
      have c4b0 : decide (0 ≤ a0_0) = false := decide_eq_false c4
      clear c4
      obtain rfl := Option.some.inj H
      go_enter Try.func39, Try.ntmps39
      go_wp2_with (first | ((with_reducible refine gate_dst (N := 2) rfl ?_); refine box_event ?hg (N := 2) ?hd (cs := #[.int .i64 a0_0, .int .i64 a0_1]) (t := 32) ?hr ?_; (case hd => rfl); (case hg => rfl); (case hr => first | (go_simp; done) | (go_simp; rfl)); intro gb185 hg w10 hbox hb; have n0_ := Aside0.mk (below_step (by repeat (first | (with_reducible first | exact HB.out | apply below_alloc | apply pw_below_drewN | apply below_drew1) | exact HB.out)) hb); have n1_ := Aside0.mk (hbox); have n2_ := Aside0.mk ((by rw [hg]; exact (below_size (by repeat (first | (with_reducible first | exact HB.out | apply below_alloc | apply pw_below_drewN | apply below_drew1) | exact HB.out))) : w.heap.size ≤ gb185)); have n3_ := Aside0.mk ((by rw [hg]; exact (below_size (by repeat (first | (with_reducible first | exact HB.out | apply below_alloc | apply pw_below_drewN | apply below_drew1) | exact HB.out))) : w.heap.size ≤ gb185)); clear HB; have HB := n0_; have BK185 := n1_; have GW185 := n2_; have GE185 := n3_; clear n0_ n1_ n2_ n3_; clear hb hbox hg; have hcz11_0 : w10.cell? ⟨gb185, 0, none⟩ = some (.int .i64 a0_0) := (blk_cell BK185.out 0).trans rfl; have hcz11_1 : w10.cell? ⟨gb185, 1, none⟩ = some (.int .i64 a0_1) := (blk_cell BK185.out 1).trans rfl; have hfz11_0 := blk_frozen BK185.out 0; have hfz11_1 := blk_frozen BK185.out 1))
      go_ret
      exact ⟨by first | rfl | (simp [errW_none, errW_some] <;> rfl) | (simp [*, errW_none, errW_some] <;> rfl), by repeat (first | (with_reducible first | exact HB.out | apply below_alloc | apply pw_below_drewN | apply below_drew1 | refine below_set ?_ GE185.out) | exact HB.out)⟩
  · rw [if_neg c3] at H
    have c3b0 : decide (1 ≤ a0_1) = false := decide_eq_false c3
    clear c3
    obtain rfl := Option.some.inj H
    go_enter Try.func39, Try.ntmps39
    go_wp2_with (first | ((with_reducible refine gate_dst (N := 2) rfl ?_); refine box_event ?hg (N := 2) ?hd (cs := #[.int .i64 a0_0, .int .i64 a0_1]) (t := 32) ?hr ?_; (case hd => rfl); (case hg => rfl); (case hr => first | (go_simp; done) | (go_simp; rfl)); intro gb185 hg w12 hbox hb; have n0_ := Aside0.mk (below_step (by repeat (first | (with_reducible first | exact HB.out | apply below_alloc | apply pw_below_drewN | apply below_drew1) | exact HB.out)) hb); have n1_ := Aside0.mk (hbox); have n2_ := Aside0.mk ((by rw [hg]; exact (below_size (by repeat (first | (with_reducible first | exact HB.out | apply below_alloc | apply pw_below_drewN | apply below_drew1) | exact HB.out))) : w.heap.size ≤ gb185)); have n3_ := Aside0.mk ((by rw [hg]; exact (below_size (by repeat (first | (with_reducible first | exact HB.out | apply below_alloc | apply pw_below_drewN | apply below_drew1) | exact HB.out))) : w.heap.size ≤ gb185)); clear HB; have HB := n0_; have BK185 := n1_; have GW185 := n2_; have GE185 := n3_; clear n0_ n1_ n2_ n3_; clear hb hbox hg; have hcz13_0 : w12.cell? ⟨gb185, 0, none⟩ = some (.int .i64 a0_0) := (blk_cell BK185.out 0).trans rfl; have hcz13_1 : w12.cell? ⟨gb185, 1, none⟩ = some (.int .i64 a0_1) := (blk_cell BK185.out 1).trans rfl; have hfz13_0 := blk_frozen BK185.out 0; have hfz13_1 := blk_frozen BK185.out 1))
    go_ret
    exact ⟨by first | rfl | (simp [errW_none, errW_some] <;> rfl) | (simp [*, errW_none, errW_some] <;> rfl), by repeat (first | (with_reducible first | exact HB.out | apply below_alloc | apply pw_below_drewN | apply below_drew1 | refine below_set ?_ GE185.out) | exact HB.out)⟩

end Go.Proofs.Ytjmplchknbgmgaa.PSpan
