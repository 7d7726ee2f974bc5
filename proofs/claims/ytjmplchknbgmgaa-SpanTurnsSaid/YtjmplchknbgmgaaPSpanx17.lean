-- laid by gprint.py (this session's own program) out of the translation: Lean checks it
import Derived.Test.YtjmplchknbgmgaaPSpanx0
import Derived.Test.YtjmplchknbgmgaaPSpanx15
import Derived.Test.YtjmplchknbgmgaaPSpanx16
namespace Go.Proofs.Ytjmplchknbgmgaa.PSpan
open Go.RowKit Go.Proofs.YtjmplchknbgmgaaW.PrintWords Go.Proofs.YtjmplchknbgmgaaW.PrintLast Go.Proofs.YtjmplchknbgmgaaW.PrintMore
attribute [local go_sem] max2_int min2_int max_two min_two max_three min_three max_four min_four   -- for this text's walks alone
set_option linter.unusedVariables false
set_option linter.unusedSimpArgs false

/-! ### rootcellarref5_marks: function 29 -/
mutual
def rootcellarref5_marks.j0 : Nat → List (S32) → Int → Bool → Option (List Bool × Int)
  | 0, _, _, _ => none
  | k + 1, x0, x1, x15 => if x15 = true then (some (([] : List Bool), 11)) else (rootcellarref5_marks.l0 k x0 x1 0)
def rootcellarref5_marks.l0 : Nat → List (S32) → Int → Int → Option (List Bool × Int)
  | 0, _, _, _ => none
  | k + 1, x0, x1, x6 => if x6 < (x0.length : Int) then (if 0 ≤ x6 then ((rootcellarref5_inside.f ((rd_T32 x0 x6).f0) ((rd_T32 x0 x6).f1) x1).bind fun t187 => (if t187 = true then (rootcellarref5_marks.l0 k x0 x1 (wrap64 (x6 + 1))) else (some (([] : List Bool), 11)))) else (none)) else (if 0 ≤ x1 then (if (x1 : Int).toNat ≤ 281474976710656 then (rootcellarref5_marks.l1 k x0 (List.replicate (x1 : Int).toNat false) 0) else (none)) else (none))
def rootcellarref5_marks.l1 : Nat → List (S32) → List Bool → Int → Option (List Bool × Int)
  | 0, _, _, _ => none
  | k + 1, x0, x7, x8 => if x8 < (x0.length : Int) then (if 0 ≤ x8 then (rootcellarref5_marks.l2 k x0 x7 x8 ((rd_T32 x0 x8).f0)) else (none)) else (some (x7, 0))
def rootcellarref5_marks.l2 : Nat → List (S32) → List Bool → Int → Int → Option (List Bool × Int)
  | 0, _, _, _, _ => none
  | k + 1, x0, x7, x8, x9 => if 0 ≤ x8 then (if x8 < (x0.length : Int) then (if x9 < (wrap64 (((rd_T32 x0 x8).f0) + ((rd_T32 x0 x8).f1))) then (if 0 ≤ x9 then (if x9 < (x7.length : Int) then (if rdOf false x7 x9 = true then (some (([] : List Bool), 5)) else (rootcellarref5_marks.l2 k x0 (x7.set (x9 : Int).toNat true) x8 (wrap64 (x9 + 1)))) else (none)) else (none)) else (rootcellarref5_marks.l1 k x0 x7 (wrap64 (x8 + 1)))) else (none)) else (none)
end
def rootcellarref5_marks.f (k : Nat) (l0 : List (S32)) (a1 : Int) : Option (List Bool × Int) := if a1 < 1 then (rootcellarref5_marks.j0 k l0 a1 true) else (rootcellarref5_marks.j0 k l0 a1 (decide (a1 > 8192)))
theorem rootcellarref5_marks.mono_l : ∀ k, (∀ y0 y1 y2, LeO (rootcellarref5_marks.j0 k y0 y1 y2) (rootcellarref5_marks.j0 (k + 1) y0 y1 y2)) ∧ (∀ y0 y1 y2, LeO (rootcellarref5_marks.l0 k y0 y1 y2) (rootcellarref5_marks.l0 (k + 1) y0 y1 y2)) ∧ (∀ y0 y1 y2, LeO (rootcellarref5_marks.l1 k y0 y1 y2) (rootcellarref5_marks.l1 (k + 1) y0 y1 y2)) ∧ (∀ y0 y1 y2 y3, LeO (rootcellarref5_marks.l2 k y0 y1 y2 y3) (rootcellarref5_marks.l2 (k + 1) y0 y1 y2 y3))
  | 0 => ⟨fun _ _ _ r h => by simp [rootcellarref5_marks.j0] at h, fun _ _ _ r h => by simp [rootcellarref5_marks.l0] at h, fun _ _ _ r h => by simp [rootcellarref5_marks.l1] at h, fun _ _ _ _ r h => by simp [rootcellarref5_marks.l2] at h⟩
  | k + 1 => by
    obtain ⟨ih0, ih1, ih2, ih3⟩ := rootcellarref5_marks.mono_l k
    refine ⟨?_, ?_, ?_, ?_⟩
    · intro y0 y1 y2
      unfold rootcellarref5_marks.j0
      repeat' first
      | (with_reducible exact ih0 _ _ _)
      | (with_reducible exact ih1 _ _ _)
      | (with_reducible exact ih2 _ _ _)
      | (with_reducible exact ih3 _ _ _ _)
      | (with_reducible exact LeO.refl _)
      | (with_reducible exact LeO.none _)
      | (with_reducible refine LeO.ite ?_ ?_)
      | (with_reducible refine LeO.bind ?_ (fun _ => ?_))
      | exact ih0 _ _ _
      | exact ih1 _ _ _
      | exact ih2 _ _ _
      | exact ih3 _ _ _ _
      | exact LeO.none _
      | refine LeO.ite ?_ ?_
      | refine LeO.bind ?_ (fun _ => ?_)
    · intro y0 y1 y2
      unfold rootcellarref5_marks.l0
      repeat' first
      | (with_reducible exact ih0 _ _ _)
      | (with_reducible exact ih1 _ _ _)
      | (with_reducible exact ih2 _ _ _)
      | (with_reducible exact ih3 _ _ _ _)
      | (with_reducible exact LeO.refl _)
      | (with_reducible exact LeO.none _)
      | (with_reducible refine LeO.ite ?_ ?_)
      | (with_reducible refine LeO.bind ?_ (fun _ => ?_))
      | exact ih0 _ _ _
      | exact ih1 _ _ _
      | exact ih2 _ _ _
      | exact ih3 _ _ _ _
      | exact LeO.none _
      | refine LeO.ite ?_ ?_
      | refine LeO.bind ?_ (fun _ => ?_)
    · intro y0 y1 y2
      unfold rootcellarref5_marks.l1
      repeat' first
      | (with_reducible exact ih0 _ _ _)
      | (with_reducible exact ih1 _ _ _)
      | (with_reducible exact ih2 _ _ _)
      | (with_reducible exact ih3 _ _ _ _)
      | (with_reducible exact LeO.refl _)
      | (with_reducible exact LeO.none _)
      | (with_reducible refine LeO.ite ?_ ?_)
      | (with_reducible refine LeO.bind ?_ (fun _ => ?_))
      | exact ih0 _ _ _
      | exact ih1 _ _ _
      | exact ih2 _ _ _
      | exact ih3 _ _ _ _
      | exact LeO.none _
      | refine LeO.ite ?_ ?_
      | refine LeO.bind ?_ (fun _ => ?_)
    · intro y0 y1 y2 y3
      unfold rootcellarref5_marks.l2
      repeat' first
      | (with_reducible exact ih0 _ _ _)
      | (with_reducible exact ih1 _ _ _)
      | (with_reducible exact ih2 _ _ _)
      | (with_reducible exact ih3 _ _ _ _)
      | (with_reducible exact LeO.refl _)
      | (with_reducible exact LeO.none _)
      | (with_reducible refine LeO.ite ?_ ?_)
      | (with_reducible refine LeO.bind ?_ (fun _ => ?_))
      | exact ih0 _ _ _
      | exact ih1 _ _ _
      | exact ih2 _ _ _
      | exact ih3 _ _ _ _
      | exact LeO.none _
      | refine LeO.ite ?_ ?_
      | refine LeO.bind ?_ (fun _ => ?_)
theorem rootcellarref5_marks.mono : ∀ a0 a1 k, LeO (rootcellarref5_marks.f k a0 a1) (rootcellarref5_marks.f (k + 1) a0 a1) := by
  intro a0 a1 k
  obtain ⟨ih0, ih1, ih2, ih3⟩ := rootcellarref5_marks.mono_l k
  unfold rootcellarref5_marks.f
  repeat' first
      | (with_reducible exact ih0 _ _ _)
      | (with_reducible exact ih1 _ _ _)
      | (with_reducible exact ih2 _ _ _)
      | (with_reducible exact ih3 _ _ _ _)
      | (with_reducible exact LeO.refl _)
      | (with_reducible exact LeO.none _)
      | (with_reducible refine LeO.ite ?_ ?_)
      | (with_reducible refine LeO.bind ?_ (fun _ => ?_))
      | exact ih0 _ _ _
      | exact ih1 _ _ _
      | exact ih2 _ _ _
      | exact ih3 _ _ _ _
      | exact LeO.none _
      | refine LeO.ite ?_ ?_
      | refine LeO.bind ?_ (fun _ => ?_)
set_option maxHeartbeats 8000000 in
set_option maxRecDepth 100000 in
theorem rootcellarref5_marks.calls (k : Nat) (A0 : Option Addr) (c0 : Nat) (l0 : List (S32)) (a1 : Int) (r1 : List Bool) (r2 : Int) (w : World) (hr0 : Kd.C k32 w A0 l0.length l0) (hc0 : l0.length ≤ c0) (h : rootcellarref5_marks.f k l0 a1 = some (r1, r2)) :
    Calls Try.prog 29 #[.slice A0 l0.length c0, .int .i64 a1] w fun e w' => ∃ v0_ : Value, e = .returned (.tuple #[v0_, .int .i64 r2]) ∧ Kd.R Kd.bool 4 w' w.heap.size (fun _ => True) v0_ r1 ∧ Below w.heap.size w w' := by
  have hu32 := Try.underlying32
  have HR0 := Aside0.mk hr0
  have HC0 := Aside0.mk hc0
  clear hr0 hc0
  have HB := Aside0.mk (Below.refl w.heap.size w)
  have H : (if a1 < 1 then (rootcellarref5_marks.j0 k l0 a1 true) else (rootcellarref5_marks.j0 k l0 a1 (decide (a1 > 8192)))) = some (r1, r2) := h
  clear h
  have HC3 := Aside0.mk H
  clear H
  go_enter Try.func29, Try.ntmps29
  go_upto_region 1 with (fail)
  repeat (go_quiet (fail); go_upto_region 1 with (fail))
  go_cut [15] (fun v15 wc => ∃ (kq : Nat) (x15_2 : Bool), v15 = .bool x15_2 ∧ Aside0 (rootcellarref5_marks.j0 kq l0 a1 x15_2 = some (r1, r2)) ∧ Aside0 (kq ≤ k) ∧ Aside0 (Below w.heap.size w wc))
  case first =>
    have H := HC3.out
    clear HC3
    by_cases c4 : a1 < 1
    · rw [if_pos c4] at H
      have c4b0 : decide (a1 < 1) = true := decide_eq_true c4
      clear c4
      (first | rw [c4b0] | (simp only [i64_w, i32_w]; rw [c4b0]) | skip)
      have H' := Aside0.mk H
      clear H
      go_wp2
      repeat (go_quiet (fail); try go_wp2)
      go_meet
      case rel => exact ⟨_, (true), (by first | rfl | (simp; done) | (simp [*]; done)), H', ⟨by first | omega | exact Nat.le_refl _⟩, ⟨by repeat (first | (with_reducible first | exact HB.out | apply below_alloc | apply pw_below_drewN | apply below_drew1) | exact HB.out)⟩⟩
    · rw [if_neg c4] at H
      have c4b0 : decide (a1 < 1) = false := decide_eq_false c4
      clear c4
      (first | rw [c4b0] | (simp only [i64_w, i32_w]; rw [c4b0]) | skip)
      have H' := Aside0.mk H
      clear H
      go_wp2
      repeat (go_quiet (fail); try go_wp2)
      go_meet
      case rel => exact ⟨_, (decide (a1 > 8192)), (by first | rfl | (simp; done) | (simp [*]; done)), H', ⟨by first | omega | exact Nat.le_refl _⟩, ⟨by repeat (first | (with_reducible first | exact HB.out | apply below_alloc | apply pw_below_drewN | apply below_drew1) | exact HB.out)⟩⟩
  case rest =>
    clear HC3
    try clear c2
    try clear p2
    try clear c4
    try clear c4b0
    obtain ⟨kq, x15_2, rfl, HA, HJ2, HB⟩ := hcut
    cases kq with
    | zero => exact absurd HA.out (by simp [rootcellarref5_marks.j0])
    | succ kj2 =>
      have H := HA.out
      clear HA
      simp only [rootcellarref5_marks.j0] at H
      by_cases c5 : x15_2 = true
      · subst c5
        have H1 : (some (([] : List Bool), 11)) = some (r1, r2) := by rw [if_pos rfl] at H; exact H
        clear H
        have H := H1
        clear H1
        simp only [Option.some.injEq, Prod.mk.injEq] at H
        obtain ⟨rfl, rfl⟩ := H
        go_wp2
        repeat (go_quiet (fail); try go_wp2)
        go_ret2
        exact ⟨_, by first | rfl | (simp [errW_none, errW_some] <;> rfl) | (simp [*, errW_none, errW_some] <;> rfl), by first | exact Kd.R_nil _ _ _ _ _ | exact Kd.N_nil _ _ _ _ _ | exact Kd.V_nil _ _ _ _ _ | exact Kd.Q_nil _ _ _ _ _ | exact Kd.S_nil _ _ _ _ _, by repeat (first | (with_reducible first | exact HB.out | apply below_alloc | apply pw_below_drewN | apply below_drew1) | exact HB.out)⟩
      · replace c5 := Bool.eq_false_iff.mpr c5
        subst c5
        have H1 : (rootcellarref5_marks.l0 kj2 l0 a1 0) = some (r1, r2) := by rw [if_neg (show ¬ (false = true) by decide)] at H; exact H
        clear H
        have H := H1
        clear H1
        have H' := Aside0.mk H
        clear H
        go_wp2
        repeat (go_quiet (fail); try go_wp2)
        go_loopg [6] kj2 (fun kq v6 w' => ∃ (x6_2 : Int), v6 = .int .i64 x6_2 ∧ Aside0 (rootcellarref5_marks.l0 kq l0 a1 x6_2 = some (r1, r2)) ∧ Aside0 (kq ≤ kj2) ∧ Aside0 (Below w.heap.size w w'))
        case atStart => exact ⟨(0), (by first | rfl | (simp; done) | (simp [*]; done)), H', ⟨Nat.le_refl _⟩, ⟨by repeat (first | (with_reducible first | exact HB.out | apply below_alloc | apply pw_below_drewN | apply below_drew1) | exact HB.out)⟩⟩
        case round =>
          clear H'
          try clear c2
          try clear p2
          try clear c4
          try clear c4b0
          try clear c5
          try clear p2
          obtain ⟨x6_2, rfl, HA, HK2, HB⟩ := hrel
          cases gk with
          | zero => exact absurd HA.out (by simp [rootcellarref5_marks.l0])
          | succ k2 =>
            have H := HA.out
            clear HA
            simp only [rootcellarref5_marks.l0] at H
            by_cases c6 : x6_2 < (l0.length : Int)
            · rw [if_pos c6] at H
              have c6b0 : decide (x6_2 < (l0.length : Int)) = true := decide_eq_true c6
              clear c6
              by_cases c7 : 0 ≤ x6_2
              · rw [if_pos c7] at H
                have c7b0 : decide (0 ≤ x6_2) = true := decide_eq_true c7
                clear c7
                replace H := Option.bind_eq_some_iff.mp H
                obtain ⟨t187, A80, H⟩ := H
                replace H : (if t187 = true then (rootcellarref5_marks.l0 k2 l0 a1 (wrap64 (x6_2 + 1))) else (some (([] : List Bool), 11))) = some (r1, r2) := H
                have A8 := Aside0.mk A80
                clear A80
                by_cases c9 : t187 = true
                · subst c9
                  have H1 : (rootcellarref5_marks.l0 k2 l0 a1 (wrap64 (x6_2 + 1))) = some (r1, r2) := by rw [if_pos rfl] at H; exact H
                  clear H
                  have H := H1
                  clear H1
                  have H' := Aside0.mk H
                  clear H
                  have p186 : 0 ≤ (x6_2 : Int) := of_decide_eq_true (by first | (with_reducible assumption) | assumption)
                  have q186 : x6_2 < (l0.length : Int) := of_decide_eq_true (by first | (with_reducible assumption) | assumption)
                  obtain ⟨ad186, e186, hx186_0, hx186_1⟩ := at_T32 HR0.out x6_2 p186 q186
                  cases e186
                  replace hx186_0 := (HB.out.cell (World.block_lt_of_cell? w _ hx186_0)).trans hx186_0
                  replace hx186_1 := (HB.out.cell (World.block_lt_of_cell? w _ hx186_1)).trans hx186_1
                  replace p186 := eq_true p186
                  replace q186 := eq_true q186
                  go_wp2_with (first | (go_at_call 39; (with_reducible refine (rootcellarref5_inside.calls ((rd_T32 l0 x6_2).f0) ((rd_T32 l0 x6_2).f1) a1 true _ A8.out).mono ?_); rintro e w10 ⟨rfl, hb⟩; have n0_ := Aside0.mk (below_step (by repeat (first | (with_reducible first | exact HB.out | apply below_alloc | apply pw_below_drewN | apply below_drew1) | exact HB.out)) hb); clear HB; have HB := n0_; clear n0_; (try clear hb); (try clear hb2); (try clear hk); (try clear hi)))
                  repeat (go_quiet (first | (go_at_call 39; (with_reducible refine (rootcellarref5_inside.calls ((rd_T32 l0 x6_2).f0) ((rd_T32 l0 x6_2).f1) a1 true _ A8.out).mono ?_); rintro e w10 ⟨rfl, hb⟩; have n0_ := Aside0.mk (below_step (by repeat (first | (with_reducible first | exact HB.out | apply below_alloc | apply pw_below_drewN | apply below_drew1) | exact HB.out)) hb); clear HB; have HB := n0_; clear n0_; (try clear hb); (try clear hb2); (try clear hk); (try clear hi))); try go_wp2_with (first | (go_at_call 39; (with_reducible refine (rootcellarref5_inside.calls ((rd_T32 l0 x6_2).f0) ((rd_T32 l0 x6_2).f1) a1 true _ A8.out).mono ?_); rintro e w10 ⟨rfl, hb⟩; have n0_ := Aside0.mk (below_step (by repeat (first | (with_reducible first | exact HB.out | apply below_alloc | apply pw_below_drewN | apply below_drew1) | exact HB.out)) hb); clear HB; have HB := n0_; clear n0_; (try clear hb); (try clear hb2); (try clear hk); (try clear hi))))
                  go_roundg k2
                  case measure => have := HJ2.out; have := HK2.out; omega
                  case rel => exact ⟨(wrap64 (x6_2 + 1)), (by first | rfl | (simp; done) | (simp [*]; done)), H', ⟨by have := HJ2.out; have := HK2.out; omega⟩, ⟨by repeat (first | (with_reducible first | exact HB.out | apply below_alloc | apply pw_below_drewN | apply below_drew1) | exact HB.out)⟩⟩
                · replace c9 := Bool.eq_false_iff.mpr c9
                  subst c9
                  have H1 : (some (([] : List Bool), 11)) = some (r1, r2) := by rw [if_neg (show ¬ (false = true) by decide)] at H; exact H
                  clear H
                  have H := H1
                  clear H1
                  simp only [Option.some.injEq, Prod.mk.injEq] at H
                  obtain ⟨rfl, rfl⟩ := H
                  have p186 : 0 ≤ (x6_2 : Int) := of_decide_eq_true (by first | (with_reducible assumption) | assumption)
                  have q186 : x6_2 < (l0.length : Int) := of_decide_eq_true (by first | (with_reducible assumption) | assumption)
                  obtain ⟨ad186, e186, hx186_0, hx186_1⟩ := at_T32 HR0.out x6_2 p186 q186
                  cases e186
                  replace hx186_0 := (HB.out.cell (World.block_lt_of_cell? w _ hx186_0)).trans hx186_0
                  replace hx186_1 := (HB.out.cell (World.block_lt_of_cell? w _ hx186_1)).trans hx186_1
                  replace p186 := eq_true p186
                  replace q186 := eq_true q186
                  go_wp2_with (first | (go_at_call 39; (with_reducible refine (rootcellarref5_inside.calls ((rd_T32 l0 x6_2).f0) ((rd_T32 l0 x6_2).f1) a1 false _ A8.out).mono ?_); rintro e w11 ⟨rfl, hb⟩; have n0_ := Aside0.mk (below_step (by repeat (first | (with_reducible first | exact HB.out | apply below_alloc | apply pw_below_drewN | apply below_drew1) | exact HB.out)) hb); clear HB; have HB := n0_; clear n0_; (try clear hb); (try clear hb2); (try clear hk); (try clear hi)))
                  repeat (go_quiet (first | (go_at_call 39; (with_reducible refine (rootcellarref5_inside.calls ((rd_T32 l0 x6_2).f0) ((rd_T32 l0 x6_2).f1) a1 false _ A8.out).mono ?_); rintro e w11 ⟨rfl, hb⟩; have n0_ := Aside0.mk (below_step (by repeat (first | (with_reducible first | exact HB.out | apply below_alloc | apply pw_below_drewN | apply below_drew1) | exact HB.out)) hb); clear HB; have HB := n0_; clear n0_; (try clear hb); (try clear hb2); (try clear hk); (try clear hi))); try go_wp2_with (first | (go_at_call 39; (with_reducible refine (rootcellarref5_inside.calls ((rd_T32 l0 x6_2).f0) ((rd_T32 l0 x6_2).f1) a1 false _ A8.out).mono ?_); rintro e w11 ⟨rfl, hb⟩; have n0_ := Aside0.mk (below_step (by repeat (first | (with_reducible first | exact HB.out | apply below_alloc | apply pw_below_drewN | apply below_drew1) | exact HB.out)) hb); clear HB; have HB := n0_; clear n0_; (try clear hb); (try clear hb2); (try clear hk); (try clear hi))))
                  go_ret2
                  exact ⟨_, by first | rfl | (simp [errW_none, errW_some] <;> rfl) | (simp [*, errW_none, errW_some] <;> rfl), by first | exact Kd.R_nil _ _ _ _ _ | exact Kd.N_nil _ _ _ _ _ | exact Kd.V_nil _ _ _ _ _ | exact Kd.Q_nil _ _ _ _ _ | exact Kd.S_nil _ _ _ _ _, by repeat (first | (with_reducible first | exact HB.out | apply below_alloc | apply pw_below_drewN | apply below_drew1) | exact HB.out)⟩
              · rw [if_neg c7] at H
                exact absurd H (by simp)
            · rw [if_neg c6] at H
              have c6b0 : decide (x6_2 < (l0.length : Int)) = false := decide_eq_false c6
              clear c6
              by_cases c12 : 0 ≤ a1
              · rw [if_pos c12] at H
                have c12b0 := eq_true c12
                have c12b1 : decide (0 ≤ a1) = true := decide_eq_true c12
                clear c12
                by_cases c13 : (a1 : Int).toNat ≤ 281474976710656
                · rw [if_pos c13] at H
                  have c13b0 := eq_true c13
                  have c13b1 : decide ((a1 : Int).toNat ≤ 281474976710656) = true := decide_eq_true c13
                  clear c13
                  obtain ⟨y188, hy188⟩ : ∃ y_ : List Bool, y_ = (List.replicate (a1 : Int).toNat false) := ⟨_, rfl⟩
                  replace H : (rootcellarref5_marks.l1 k2 l0 y188 0) = some (r1, r2) := by first | (rw [hy188]; with_reducible exact H) | (have H2_ := (Option.bind_some _ _).symm.trans H; rw [hy188]; with_reducible exact H2_) | (have H2_ := (Option.bind_some _ _).symm.trans H; with_reducible exact H2_) | with_reducible exact H | (rw [hy188]; exact H) | exact H
                  have Ny188 := Aside0.mk hy188
                  clear hy188
                  have H' := Aside0.mk H
                  clear H
                  go_wp2_with (first | ((with_reducible refine gate_dst (N := 30) rfl ?_); refine Kd.R_make Kd.bool _ 4 rfl (N := 30) rfl 40 _ _ rfl a1 rfl rfl Try.underlying40 (.bool false) 1 info4 rfl (by decide) (by omega) false (ok := fun _ => True) (okp := fun _ => True) rfl (fun _ hk => hk) trivial (of_decide_eq_true (by first | (with_reducible assumption) | assumption)) (Nat.le_trans (Nat.mul_le_mul_right _ (of_decide_eq_true (by first | (with_reducible assumption) | assumption) : a1.toNat ≤ 281474976710656)) (by omega)) (Below.refl _ _) (Nat.le_refl _) ?_; intro v189 w14 ho15 hb hg_ hnew_; clear hg_ hnew_; (first | rw [← Ny188.out] at ho15 | (simp only [Int.reduceToNat] at ho15; rw [← Ny188.out] at ho15)); have n0_ := Aside0.mk (Kd.R_lower ho15 (below_size (by repeat (first | (with_reducible first | exact HB.out | apply below_alloc | apply pw_below_drewN | apply below_drew1) | exact HB.out)))); have n1_ := Aside0.mk (below_step (by repeat (first | (with_reducible first | exact HB.out | apply below_alloc | apply pw_below_drewN | apply below_drew1) | exact HB.out)) hb); clear HB; have HO190 := n0_; have HB := n1_; clear n0_ n1_; clear hb ho15))
                  repeat (go_quiet (first | ((with_reducible refine gate_dst (N := 30) rfl ?_); refine Kd.R_make Kd.bool _ 4 rfl (N := 30) rfl 40 _ _ rfl a1 rfl rfl Try.underlying40 (.bool false) 1 info4 rfl (by decide) (by omega) false (ok := fun _ => True) (okp := fun _ => True) rfl (fun _ hk => hk) trivial (of_decide_eq_true (by first | (with_reducible assumption) | assumption)) (Nat.le_trans (Nat.mul_le_mul_right _ (of_decide_eq_true (by first | (with_reducible assumption) | assumption) : a1.toNat ≤ 281474976710656)) (by omega)) (Below.refl _ _) (Nat.le_refl _) ?_; intro v189 w14 ho15 hb hg_ hnew_; clear hg_ hnew_; (first | rw [← Ny188.out] at ho15 | (simp only [Int.reduceToNat] at ho15; rw [← Ny188.out] at ho15)); have n0_ := Aside0.mk (Kd.R_lower ho15 (below_size (by repeat (first | (with_reducible first | exact HB.out | apply below_alloc | apply pw_below_drewN | apply below_drew1) | exact HB.out)))); have n1_ := Aside0.mk (below_step (by repeat (first | (with_reducible first | exact HB.out | apply below_alloc | apply pw_below_drewN | apply below_drew1) | exact HB.out)) hb); clear HB; have HO190 := n0_; have HB := n1_; clear n0_ n1_; clear hb ho15)); try go_wp2_with (first | ((with_reducible refine gate_dst (N := 30) rfl ?_); refine Kd.R_make Kd.bool _ 4 rfl (N := 30) rfl 40 _ _ rfl a1 rfl rfl Try.underlying40 (.bool false) 1 info4 rfl (by decide) (by omega) false (ok := fun _ => True) (okp := fun _ => True) rfl (fun _ hk => hk) trivial (of_decide_eq_true (by first | (with_reducible assumption) | assumption)) (Nat.le_trans (Nat.mul_le_mul_right _ (of_decide_eq_true (by first | (with_reducible assumption) | assumption) : a1.toNat ≤ 281474976710656)) (by omega)) (Below.refl _ _) (Nat.le_refl _) ?_; intro v189 w14 ho15 hb hg_ hnew_; clear hg_ hnew_; (first | rw [← Ny188.out] at ho15 | (simp only [Int.reduceToNat] at ho15; rw [← Ny188.out] at ho15)); have n0_ := Aside0.mk (Kd.R_lower ho15 (below_size (by repeat (first | (with_reducible first | exact HB.out | apply below_alloc | apply pw_below_drewN | apply below_drew1) | exact HB.out)))); have n1_ := Aside0.mk (below_step (by repeat (first | (with_reducible first | exact HB.out | apply below_alloc | apply pw_below_drewN | apply below_drew1) | exact HB.out)) hb); clear HB; have HO190 := n0_; have HB := n1_; clear n0_ n1_; clear hb ho15)))
                  go_loopg [8] k2 (fun kq v8 w' => ∃ (x7_3 : List Bool) (x8_3 : Int), v8 = .int .i64 x8_3 ∧ Aside0 (rootcellarref5_marks.l1 kq l0 x7_3 x8_3 = some (r1, r2)) ∧ Aside0 (kq ≤ k2) ∧ Aside0 (Kd.R Kd.bool 4 w' w.heap.size (fun _ => True) v189 x7_3) ∧ Aside0 (Below w.heap.size w w'))
                  case atStart => exact ⟨(y188), (0), (by first | rfl | (simp; done) | (simp [*]; done)), H', ⟨Nat.le_refl _⟩, ⟨by (with_reducible repeat (first | apply Kd.R_alloc | apply Kd.R_drewN | apply Kd.R_drew)); exact HO190.out⟩, ⟨by repeat (first | (with_reducible first | exact HB.out | apply below_alloc | apply pw_below_drewN | apply below_drew1) | exact HB.out)⟩⟩
                  case round =>
                    clear H'
                    try clear c1
                    try clear p1
                    try clear q1
                    try clear hx1
                    try clear c2
                    try clear p2
                    try clear c4
                    try clear c4b0
                    try clear c5
                    try clear c6
                    try clear c6b0
                    try clear p6
                    try clear c7
                    try clear c7b0
                    try clear c9
                    try clear c12
                    try clear c12b0
                    try clear c12b1
                    try clear c13
                    try clear c13b0
                    try clear c13b1
                    try clear hx186_0
                    try clear hx186_1
                    try clear p186
                    try clear p2
                    try clear q186
                    obtain ⟨x7_3, x8_3, rfl, HA, HK3, HO_7, HB⟩ := hrel
                    cases gk with
                    | zero => exact absurd HA.out (by simp [rootcellarref5_marks.l1])
                    | succ k3 =>
                      have H := HA.out
                      clear HA
                      simp only [rootcellarref5_marks.l1] at H
                      by_cases c16 : x8_3 < (l0.length : Int)
                      · rw [if_pos c16] at H
                        have c16b0 : decide (x8_3 < (l0.length : Int)) = true := decide_eq_true c16
                        clear c16
                        by_cases c17 : 0 ≤ x8_3
                        · rw [if_pos c17] at H
                          have c17b0 : decide (0 ≤ x8_3) = true := decide_eq_true c17
                          clear c17
                          have H' := Aside0.mk H
                          clear H
                          have p191 : 0 ≤ (x8_3 : Int) := of_decide_eq_true (by first | (with_reducible assumption) | assumption)
                          have q191 : x8_3 < (l0.length : Int) := of_decide_eq_true (by first | (with_reducible assumption) | assumption)
                          obtain ⟨ad191, e191, hx191_0, hx191_1⟩ := at_T32 HR0.out x8_3 p191 q191
                          cases e191
                          replace hx191_0 := (HB.out.cell (World.block_lt_of_cell? w _ hx191_0)).trans hx191_0
                          replace hx191_1 := (HB.out.cell (World.block_lt_of_cell? w _ hx191_1)).trans hx191_1
                          replace p191 := eq_true p191
                          replace q191 := eq_true q191
                          go_wp2
                          repeat (go_quiet (fail); try go_wp2)
                          go_loopg [9] k3 (fun kq v9 w' => ∃ (x7_4 : List Bool) (x9_4 : Int), v9 = .int .i64 x9_4 ∧ Aside0 (rootcellarref5_marks.l2 kq l0 x7_4 x8_3 x9_4 = some (r1, r2)) ∧ Aside0 (kq ≤ k3) ∧ Aside0 (Kd.R Kd.bool 4 w' w.heap.size (fun _ => True) v189 x7_4) ∧ Aside0 (Below w.heap.size w w'))
                          case atStart => exact ⟨(x7_3), ((rd_T32 l0 x8_3).f0), (by first | rfl | (simp; done) | (simp [*]; done)), H', ⟨Nat.le_refl _⟩, ⟨by (with_reducible repeat (first | apply Kd.R_alloc | apply Kd.R_drewN | apply Kd.R_drew)); exact HO_7.out⟩, ⟨by repeat (first | (with_reducible first | exact HB.out | apply below_alloc | apply pw_below_drewN | apply below_drew1) | exact HB.out)⟩⟩
                          case round =>
                            clear H'
                            try clear c1
                            try clear p1
                            try clear q1
                            try clear hx1
                            try clear c2
                            try clear p2
                            try clear c4
                            try clear c4b0
                            try clear c5
                            try clear c6
                            try clear c6b0
                            try clear p6
                            try clear c7
                            try clear c7b0
                            try clear c9
                            try clear c12
                            try clear c12b0
                            try clear c12b1
                            try clear c13
                            try clear c13b0
                            try clear c13b1
                            try clear c16
                            try clear c16b0
                            try clear c17
                            try clear c17b0
                            try clear hx186_0
                            try clear hx186_1
                            try clear hx191_0
                            try clear hx191_1
                            try clear p1
                            try clear p186
                            try clear p191
                            try clear p2
                            try clear p6
                            try clear q1
                            try clear q186
                            try clear q191
                            obtain ⟨x7_4, x9_4, rfl, HA, HK4, HO_7, HB⟩ := hrel
                            cases gk with
                            | zero => exact absurd HA.out (by simp [rootcellarref5_marks.l2])
                            | succ k4 =>
                              have H := HA.out
                              clear HA
                              simp only [rootcellarref5_marks.l2] at H
                              by_cases c18 : 0 ≤ x8_3
                              · rw [if_pos c18] at H
                                have c18b0 : decide (0 ≤ x8_3) = true := decide_eq_true c18
                                clear c18
                                by_cases c19 : x8_3 < (l0.length : Int)
                                · rw [if_pos c19] at H
                                  have c19b0 : decide (x8_3 < (l0.length : Int)) = true := decide_eq_true c19
                                  clear c19
                                  by_cases c20 : x9_4 < (wrap64 (((rd_T32 l0 x8_3).f0) + ((rd_T32 l0 x8_3).f1)))
                                  · rw [if_pos c20] at H
                                    have c20b0 : decide (x9_4 < (wrap64 (((rd_T32 l0 x8_3).f0) + ((rd_T32 l0 x8_3).f1)))) = true := decide_eq_true c20
                                    clear c20
                                    by_cases c21 : 0 ≤ x9_4
                                    · rw [if_pos c21] at H
                                      have c21b0 : decide (0 ≤ x9_4) = true := decide_eq_true c21
                                      clear c21
                                      by_cases c22 : x9_4 < (x7_4.length : Int)
                                      · rw [if_pos c22] at H
                                        have c22b0 : decide (x9_4 < (x7_4.length : Int)) = true := decide_eq_true c22
                                        clear c22
                                        obtain ⟨bq23, hbq23⟩ : ∃ b_ : Bool, b_ = (rdOf false x7_4 x9_4) := ⟨_, rfl⟩
                                        replace H : (if bq23 = true then (some (([] : List Bool), 5)) else (rootcellarref5_marks.l2 k4 l0 (x7_4.set (x9_4 : Int).toNat true) x8_3 (wrap64 (x9_4 + 1)))) = some (r1, r2) := by rw [← hbq23] at H; exact H
                                        have Nbq23 := Aside0.mk hbq23
                                        clear hbq23
                                        by_cases c24 : bq23 = true
                                        · subst c24
                                          have H1 : (some (([] : List Bool), 5)) = some (r1, r2) := by rw [if_pos rfl] at H; exact H
                                          clear H
                                          have H := H1
                                          clear H1
                                          simp only [Option.some.injEq, Prod.mk.injEq] at H
                                          obtain ⟨rfl, rfl⟩ := H
                                          have p192 : 0 ≤ (x8_3 : Int) := of_decide_eq_true (by first | (with_reducible assumption) | assumption)
                                          have q192 : x8_3 < (l0.length : Int) := of_decide_eq_true (by first | (with_reducible assumption) | assumption)
                                          obtain ⟨ad192, e192, hx192_0, hx192_1⟩ := at_T32 HR0.out x8_3 p192 q192
                                          obtain rfl : ad191 = ad192 := (by injection e192)
                                          replace hx192_0 := (HB.out.cell (World.block_lt_of_cell? w _ hx192_0)).trans hx192_0
                                          replace hx192_1 := (HB.out.cell (World.block_lt_of_cell? w _ hx192_1)).trans hx192_1
                                          replace p192 := eq_true p192
                                          replace q192 := eq_true q192
                                          have p193 : 0 ≤ (x8_3 : Int) := of_decide_eq_true (by first | (with_reducible assumption) | assumption)
                                          have q193 : x8_3 < (l0.length : Int) := of_decide_eq_true (by first | (with_reducible assumption) | assumption)
                                          obtain ⟨ad193, e193, hx193_0, hx193_1⟩ := at_T32 HR0.out x8_3 p193 q193
                                          obtain rfl : ad191 = ad193 := (by injection e193)
                                          replace hx193_0 := (HB.out.cell (World.block_lt_of_cell? w _ hx193_0)).trans hx193_0
                                          replace hx193_1 := (HB.out.cell (World.block_lt_of_cell? w _ hx193_1)).trans hx193_1
                                          replace p193 := eq_true p193
                                          replace q193 := eq_true q193
                                          obtain ⟨Ao25, co25, eo25⟩ := Kd.R_slice HO_7.out
                                          subst eo25
                                          have p194 : 0 ≤ (x9_4 : Int) := of_decide_eq_true (by first | (with_reducible assumption) | assumption)
                                          have q194 : x9_4 < (x7_4.length : Int) := of_decide_eq_true (by first | (with_reducible assumption) | assumption)
                                          obtain ⟨ad194, e194, hx194_0⟩ := Kd.at_bool (Kd.R_reads' HO_7.out).2.2 x9_4 p194 q194
                                          (try rw [← Nbq23.out] at hx194_0)
                                          cases e194
                                          replace p194 := eq_true p194
                                          replace q194 := eq_true q194
                                          go_wp2
                                          repeat (go_quiet (fail); try go_wp2)
                                          go_ret2
                                          exact ⟨_, by first | rfl | (simp [errW_none, errW_some] <;> rfl) | (simp [*, errW_none, errW_some] <;> rfl), by first | exact Kd.R_nil _ _ _ _ _ | exact Kd.N_nil _ _ _ _ _ | exact Kd.V_nil _ _ _ _ _ | exact Kd.Q_nil _ _ _ _ _ | exact Kd.S_nil _ _ _ _ _, by repeat (first | (with_reducible first | exact HB.out | apply below_alloc | apply pw_below_drewN | apply below_drew1) | exact HB.out)⟩
                                        · replace c24 := Bool.eq_false_iff.mpr c24
                                          subst c24
                                          have H1 : (rootcellarref5_marks.l2 k4 l0 (x7_4.set (x9_4 : Int).toNat true) x8_3 (wrap64 (x9_4 + 1))) = some (r1, r2) := by rw [if_neg (show ¬ (false = true) by decide)] at H; exact H
                                          clear H
                                          have H := H1
                                          clear H1
                                          obtain ⟨y195, hy195⟩ : ∃ y_ : List Bool, y_ = (x7_4.set (x9_4 : Int).toNat true) := ⟨_, rfl⟩
                                          replace H : (rootcellarref5_marks.l2 k4 l0 y195 x8_3 (wrap64 (x9_4 + 1))) = some (r1, r2) := by first | (rw [hy195]; with_reducible exact H) | (have H2_ := (Option.bind_some _ _).symm.trans H; rw [hy195]; with_reducible exact H2_) | (have H2_ := (Option.bind_some _ _).symm.trans H; with_reducible exact H2_) | with_reducible exact H | (rw [hy195]; exact H) | exact H
                                          have Ny195 := Aside0.mk hy195
                                          clear hy195
                                          have H' := Aside0.mk H
                                          clear H
                                          have p192 : 0 ≤ (x8_3 : Int) := of_decide_eq_true (by first | (with_reducible assumption) | assumption)
                                          have q192 : x8_3 < (l0.length : Int) := of_decide_eq_true (by first | (with_reducible assumption) | assumption)
                                          obtain ⟨ad192, e192, hx192_0, hx192_1⟩ := at_T32 HR0.out x8_3 p192 q192
                                          obtain rfl : ad191 = ad192 := (by injection e192)
                                          replace hx192_0 := (HB.out.cell (World.block_lt_of_cell? w _ hx192_0)).trans hx192_0
                                          replace hx192_1 := (HB.out.cell (World.block_lt_of_cell? w _ hx192_1)).trans hx192_1
                                          replace p192 := eq_true p192
                                          replace q192 := eq_true q192
                                          have p193 : 0 ≤ (x8_3 : Int) := of_decide_eq_true (by first | (with_reducible assumption) | assumption)
                                          have q193 : x8_3 < (l0.length : Int) := of_decide_eq_true (by first | (with_reducible assumption) | assumption)
                                          obtain ⟨ad193, e193, hx193_0, hx193_1⟩ := at_T32 HR0.out x8_3 p193 q193
                                          obtain rfl : ad191 = ad193 := (by injection e193)
                                          replace hx193_0 := (HB.out.cell (World.block_lt_of_cell? w _ hx193_0)).trans hx193_0
                                          replace hx193_1 := (HB.out.cell (World.block_lt_of_cell? w _ hx193_1)).trans hx193_1
                                          replace p193 := eq_true p193
                                          replace q193 := eq_true q193
                                          obtain ⟨Ao27, co27, eo27⟩ := Kd.R_slice HO_7.out
                                          subst eo27
                                          have p194 : 0 ≤ (x9_4 : Int) := of_decide_eq_true (by first | (with_reducible assumption) | assumption)
                                          have q194 : x9_4 < (x7_4.length : Int) := of_decide_eq_true (by first | (with_reducible assumption) | assumption)
                                          obtain ⟨ad194, e194, hx194_0⟩ := Kd.at_bool (Kd.R_reads' HO_7.out).2.2 x9_4 p194 q194
                                          (try rw [← Nbq23.out] at hx194_0)
                                          cases e194
                                          replace p194 := eq_true p194
                                          replace q194 := eq_true q194
                                          have p26 : 0 ≤ (x9_4 : Int) := of_decide_eq_true (by first | (with_reducible assumption) | assumption)
                                          have q26 : (x9_4 : Int) < ((x7_4.length : Int) : Int) := of_decide_eq_true (by first | (with_reducible assumption) | assumption)
                                          obtain ⟨go26, co26, eo26, gb26, gl26, cl26, HG26⟩ := Kd.R_form HO_7.out (by omega)
                                          (first | cases eo26 | (injection eo26 with ea_ en_ ec_; (first | subst ea_ | (injection ea_ with ea_; subst ea_)); subst ec_; clear en_))
                                          have GB26 := Aside0.mk gb26
                                          have GG26 := Aside0.mk HG26
                                          clear gb26 gl26 HG26
                                          (first | simp only [add_plain] at hx194_0 | skip)
                                          obtain ⟨hx26_0, hf26_0⟩ := Kd.R_celln false HO_7.out (x9_4 : Int) p26 q26
                                          replace p26 := eq_true p26
                                          replace q26 := eq_true q26
                                          have HP28 := Kd.R_putg HO_7.out (x9_4 : Int) true
                                          go_wp2_with (first | ((with_reducible refine gate_store (t := 4) (p := 63) rfl ?_); (try (rw [drewN_self wr]; generalize hq_ : World.drewN wr _ = wr; have n0_ := Aside0.mk (Kd.R_at hq_ HO_7.out); have n1_ := Aside0.mk (below_at hq_ HB.out); clear hq_ HO_7 HB; have HO_7 := n0_; have HB := n1_; clear n0_ n1_; (try (have HP28 := Kd.R_putg HO_7.out (x9_4 : Int) true)); (try (obtain ⟨hx26_0, hf26_0⟩ := Kd.R_celln false HO_7.out (x9_4 : Int) (of_eq_true p26) (of_eq_true q26))))); refine store_event (t := 4) (p := 63) (v := ?vo_w29) (w1 := (wr.setCell ⟨go26, (x9_4 : Int).toNat, none⟩ (.bool true))) ?hg ?ho ?hn ?hr ?_; (case ho => rfl); (case hg => rfl); (case hn => rfl); (case hr => first | (go_simp; done) | (go_simp; rfl)); intro w29 hw; have hg : wr.grownBy w29 (some go26) := (by rw [hw]; exact HP28.2); have hp_ : Kd.R Kd.bool 4 w29 w.heap.size (fun _ => True) (.slice (some ⟨go26, 0, none⟩) x7_4.length co27) y195 := (by rw [hw, Ny195.out]; exact HP28.1); clear HP28; have n0_ := Aside0.mk (hp_); have n1_ := Aside0.mk ((by rw [hw]; exact below_set (HB.out) GB26.out : Below w.heap.size w w29)); clear HO_7; clear HB; have HO_7 := n0_; have HB := n1_; clear n0_ n1_; clear hg hw hp_))
                                          repeat (go_quiet (first | ((with_reducible refine gate_store (t := 4) (p := 63) rfl ?_); (try (rw [drewN_self wr]; generalize hq_ : World.drewN wr _ = wr; have n0_ := Aside0.mk (Kd.R_at hq_ HO_7.out); have n1_ := Aside0.mk (below_at hq_ HB.out); clear hq_ HO_7 HB; have HO_7 := n0_; have HB := n1_; clear n0_ n1_; (try (have HP28 := Kd.R_putg HO_7.out (x9_4 : Int) true)); (try (obtain ⟨hx26_0, hf26_0⟩ := Kd.R_celln false HO_7.out (x9_4 : Int) (of_eq_true p26) (of_eq_true q26))))); refine store_event (t := 4) (p := 63) (v := ?vo_w29) (w1 := (wr.setCell ⟨go26, (x9_4 : Int).toNat, none⟩ (.bool true))) ?hg ?ho ?hn ?hr ?_; (case ho => rfl); (case hg => rfl); (case hn => rfl); (case hr => first | (go_simp; done) | (go_simp; rfl)); intro w29 hw; have hg : wr.grownBy w29 (some go26) := (by rw [hw]; exact HP28.2); have hp_ : Kd.R Kd.bool 4 w29 w.heap.size (fun _ => True) (.slice (some ⟨go26, 0, none⟩) x7_4.length co27) y195 := (by rw [hw, Ny195.out]; exact HP28.1); clear HP28; have n0_ := Aside0.mk (hp_); have n1_ := Aside0.mk ((by rw [hw]; exact below_set (HB.out) GB26.out : Below w.heap.size w w29)); clear HO_7; clear HB; have HO_7 := n0_; have HB := n1_; clear n0_ n1_; clear hg hw hp_)); try go_wp2_with (first | ((with_reducible refine gate_store (t := 4) (p := 63) rfl ?_); (try (rw [drewN_self wr]; generalize hq_ : World.drewN wr _ = wr; have n0_ := Aside0.mk (Kd.R_at hq_ HO_7.out); have n1_ := Aside0.mk (below_at hq_ HB.out); clear hq_ HO_7 HB; have HO_7 := n0_; have HB := n1_; clear n0_ n1_; (try (have HP28 := Kd.R_putg HO_7.out (x9_4 : Int) true)); (try (obtain ⟨hx26_0, hf26_0⟩ := Kd.R_celln false HO_7.out (x9_4 : Int) (of_eq_true p26) (of_eq_true q26))))); refine store_event (t := 4) (p := 63) (v := ?vo_w29) (w1 := (wr.setCell ⟨go26, (x9_4 : Int).toNat, none⟩ (.bool true))) ?hg ?ho ?hn ?hr ?_; (case ho => rfl); (case hg => rfl); (case hn => rfl); (case hr => first | (go_simp; done) | (go_simp; rfl)); intro w29 hw; have hg : wr.grownBy w29 (some go26) := (by rw [hw]; exact HP28.2); have hp_ : Kd.R Kd.bool 4 w29 w.heap.size (fun _ => True) (.slice (some ⟨go26, 0, none⟩) x7_4.length co27) y195 := (by rw [hw, Ny195.out]; exact HP28.1); clear HP28; have n0_ := Aside0.mk (hp_); have n1_ := Aside0.mk ((by rw [hw]; exact below_set (HB.out) GB26.out : Below w.heap.size w w29)); clear HO_7; clear HB; have HO_7 := n0_; have HB := n1_; clear n0_ n1_; clear hg hw hp_)))
                                          go_roundg k4
                                          case measure => have := HJ2.out; have := HK2.out; have := HK3.out; have := HK4.out; omega
                                          case rel => exact ⟨(y195), (wrap64 (x9_4 + 1)), (by first | rfl | (simp; done) | (simp [*]; done)), H', ⟨by have := HJ2.out; have := HK2.out; have := HK3.out; have := HK4.out; omega⟩, ⟨by (with_reducible repeat (first | apply Kd.R_alloc | apply Kd.R_drewN | apply Kd.R_drew)); exact HO_7.out⟩, ⟨by repeat (first | (with_reducible first | exact HB.out | apply below_alloc | apply pw_below_drewN | apply below_drew1) | exact HB.out)⟩⟩
                                      · rw [if_neg c22] at H
                                        exact absurd H (by simp)
                                    · rw [if_neg c21] at H
                                      exact absurd H (by simp)
                                  · rw [if_neg c20] at H
                                    have c20b0 : decide (x9_4 < (wrap64 (((rd_T32 l0 x8_3).f0) + ((rd_T32 l0 x8_3).f1)))) = false := decide_eq_false c20
                                    clear c20
                                    have H' := Aside0.mk H
                                    clear H
                                    have p192 : 0 ≤ (x8_3 : Int) := of_decide_eq_true (by first | (with_reducible assumption) | assumption)
                                    have q192 : x8_3 < (l0.length : Int) := of_decide_eq_true (by first | (with_reducible assumption) | assumption)
                                    obtain ⟨ad192, e192, hx192_0, hx192_1⟩ := at_T32 HR0.out x8_3 p192 q192
                                    obtain rfl : ad191 = ad192 := (by injection e192)
                                    replace hx192_0 := (HB.out.cell (World.block_lt_of_cell? w _ hx192_0)).trans hx192_0
                                    replace hx192_1 := (HB.out.cell (World.block_lt_of_cell? w _ hx192_1)).trans hx192_1
                                    replace p192 := eq_true p192
                                    replace q192 := eq_true q192
                                    have p193 : 0 ≤ (x8_3 : Int) := of_decide_eq_true (by first | (with_reducible assumption) | assumption)
                                    have q193 : x8_3 < (l0.length : Int) := of_decide_eq_true (by first | (with_reducible assumption) | assumption)
                                    obtain ⟨ad193, e193, hx193_0, hx193_1⟩ := at_T32 HR0.out x8_3 p193 q193
                                    obtain rfl : ad191 = ad193 := (by injection e193)
                                    replace hx193_0 := (HB.out.cell (World.block_lt_of_cell? w _ hx193_0)).trans hx193_0
                                    replace hx193_1 := (HB.out.cell (World.block_lt_of_cell? w _ hx193_1)).trans hx193_1
                                    replace p193 := eq_true p193
                                    replace q193 := eq_true q193
                                    go_wp2
                                    repeat (go_quiet (fail); try go_wp2)
                                    go_roundg k4
                                    case measure => have := HJ2.out; have := HK2.out; have := HK3.out; have := HK4.out; omega
                                    case rel => exact ⟨(x7_4), (wrap64 (x8_3 + 1)), (by first | rfl | (simp; done) | (simp [*]; done)), H', ⟨by have := HJ2.out; have := HK2.out; have := HK3.out; have := HK4.out; omega⟩, ⟨by (with_reducible repeat (first | apply Kd.R_alloc | apply Kd.R_drewN | apply Kd.R_drew)); exact HO_7.out⟩, ⟨by repeat (first | (with_reducible first | exact HB.out | apply below_alloc | apply pw_below_drewN | apply below_drew1) | exact HB.out)⟩⟩
                                · rw [if_neg c19] at H
                                  exact absurd H (by simp)
                              · rw [if_neg c18] at H
                                exact absurd H (by simp)
                        · rw [if_neg c17] at H
                          exact absurd H (by simp)
                      · rw [if_neg c16] at H
                        have c16b0 : decide (x8_3 < (l0.length : Int)) = false := decide_eq_false c16
                        clear c16
                        simp only [Option.some.injEq, Prod.mk.injEq] at H
                        obtain ⟨rfl, rfl⟩ := H
                        go_wp2
                        repeat (go_quiet (fail); try go_wp2)
                        go_ret2
                        exact ⟨_, by first | rfl | (simp [errW_none, errW_some] <;> rfl) | (simp [*, errW_none, errW_some] <;> rfl), by (with_reducible repeat (first | apply Kd.R_alloc | apply Kd.R_drewN | apply Kd.R_drew)); exact HO_7.out, by repeat (first | (with_reducible first | exact HB.out | apply below_alloc | apply pw_below_drewN | apply below_drew1) | exact HB.out)⟩
                · rw [if_neg c13] at H
                  exact absurd H (by simp)
              · rw [if_neg c12] at H
                exact absurd H (by simp)

/-! ### rootcellarref5_Norm: function 16 -/
def rootcellarref5_Norm.f (k : Nat) (l0 : List (S32)) (a1 : Int) : Option ((List (S32)) × Int) := (rootcellarref5_marks.f k l0 a1).bind fun bt196 => (if bt196.2 = 0 then ((rootcellarref5_row.f k bt196.1).bind fun t200 => (some (t200, 0))) else (some (([] : List (S32)), bt196.2)))
theorem rootcellarref5_Norm.mono : ∀ a0 a1 k, LeO (rootcellarref5_Norm.f k a0 a1) (rootcellarref5_Norm.f (k + 1) a0 a1) := by
  intro a0 a1 k
  unfold rootcellarref5_Norm.f
  repeat' first
      | (with_reducible exact rootcellarref5_marks.mono _ _ _)
      | (with_reducible exact rootcellarref5_row.mono _ _)
      | (with_reducible exact LeO.refl _)
      | (with_reducible exact LeO.none _)
      | (with_reducible refine LeO.ite ?_ ?_)
      | (with_reducible refine LeO.bind ?_ (fun _ => ?_))
      | exact rootcellarref5_marks.mono _ _ _
      | exact rootcellarref5_row.mono _ _
      | exact LeO.none _
      | refine LeO.ite ?_ ?_
      | refine LeO.bind ?_ (fun _ => ?_)
set_option maxHeartbeats 8000000 in
set_option maxRecDepth 100000 in
theorem rootcellarref5_Norm.calls (k : Nat) (A0 : Option Addr) (c0 : Nat) (l0 : List (S32)) (a1 : Int) (r1 : List (S32)) (r2 : Int) (w : World) (hr0 : Kd.C k32 w A0 l0.length l0) (hc0 : l0.length ≤ c0) (h : rootcellarref5_Norm.f k l0 a1 = some (r1, r2)) :
    Calls Try.prog 16 #[.slice A0 l0.length c0, .int .i64 a1] w fun e w' => ∃ v0_ : Value, e = .returned (.tuple #[v0_, .int .i64 r2]) ∧ Kd.R k32 32 w' w.heap.size (fun _ => True) v0_ r1 ∧ Below w.heap.size w w' := by
  have HR0 := Aside0.mk hr0
  have HC0 := Aside0.mk hc0
  clear hr0 hc0
  have HB := Aside0.mk (Below.refl w.heap.size w)
  have H : ((rootcellarref5_marks.f k l0 a1).bind fun bt196 => (if bt196.2 = 0 then ((rootcellarref5_row.f k bt196.1).bind fun t200 => (some (t200, 0))) else (some (([] : List (S32)), bt196.2)))) = some (r1, r2) := h
  clear h
  replace H := Option.bind_eq_some_iff.mp H
  obtain ⟨⟨t196, t197⟩, A30, H⟩ := H
  replace H : (if t197 = 0 then ((rootcellarref5_row.f k t196).bind fun t200 => (some (t200, 0))) else (some (([] : List (S32)), t197))) = some (r1, r2) := H
  have A3 := Aside0.mk A30
  clear A30
  by_cases c4 : t197 = 0
  · rw [if_pos c4] at H
    have c4b0 : (t197 == 0) = true := beq_iff_eq.mpr c4
    have c4b1 : (t197 != 0) = false := bne_eq_false_iff_eq.mpr c4
    clear c4
    replace H := Option.bind_eq_some_iff.mp H
    obtain ⟨t200, A50, H⟩ := H
    replace H : (some (t200, 0)) = some (r1, r2) := H
    have A5 := Aside0.mk A50
    clear A50
    simp only [Option.some.injEq, Prod.mk.injEq] at H
    obtain ⟨rfl, rfl⟩ := H
    go_enter Try.func16, Try.ntmps16
    go_wp2_with (first | ((with_reducible refine gate_callee (f := 29) rfl ?_); refine goesL_ (some 11) rfl rfl Try.func29 (by kernel_rfl) rfl #[.slice A0 l0.length c0, .int .i64 a1] rfl (by (try simp only [List.map_toArray, List.map_cons, List.map_nil]); first | done | rfl | (simp only [List.length_drop, List.length_take]; rfl)) ?_; (with_reducible refine (rootcellarref5_marks.calls k _ _ l0 a1 t196 t197 _ ?side1 ?side2 A3.out).mono ?_); (case side1 => repeat (first | exact HR0.out | (with_reducible refine Kd.C_alloc ?_ _) | (with_reducible refine Kd.C_drewN ?_ _) | (with_reducible refine Kd.C_drew ?_))); (case side2 => exact HC0.out); rintro e w6 ⟨v198, rfl, ho0, hb⟩; refine ⟨_, rfl, ?_⟩; have n0_ := Aside0.mk (Kd.R_lower ho0 (below_size (by repeat (first | (with_reducible first | exact HB.out | apply below_alloc | apply pw_below_drewN | apply below_drew1) | exact HB.out)))); have n1_ := Aside0.mk (below_step (by repeat (first | (with_reducible first | exact HB.out | apply below_alloc | apply pw_below_drewN | apply below_drew1) | exact HB.out)) hb); clear HB; have HO199 := n0_; have HB := n1_; clear n0_ n1_; (try clear hb); (try clear hb2); (try clear hk); (try clear hi); (try clear ho0); obtain ⟨Ao7, co7, eo7⟩ := Kd.R_slice HO199.out; subst eo7) | ((with_reducible refine gate_callee (f := 26) rfl ?_); refine goesL_ (some 18) rfl rfl Try.func26 (by kernel_rfl) rfl #[.slice Ao7 t196.length co7] rfl (by (try simp only [List.map_toArray, List.map_cons, List.map_nil]); first | done | rfl | (simp only [List.length_drop, List.length_take]; rfl)) ?_; (with_reducible refine (rootcellarref5_row.calls k _ _ t196 t200 _ ?side1 ?side2 A5.out).mono ?_); (case side1 => repeat (first | exact (Kd.R_reads' HO199.out).2.2 | (with_reducible refine Kd.C_alloc ?_ _) | (with_reducible refine Kd.C_drewN ?_ _) | (with_reducible refine Kd.C_drew ?_))); (case side2 => exact (Kd.R_reads' HO199.out).2.1); rintro e w8 ⟨v201, rfl, ho0, hb⟩; refine ⟨_, rfl, ?_⟩; have n0_ := Aside0.mk (Kd.R_below (by (with_reducible repeat (first | apply Kd.R_alloc | apply Kd.R_drewN | apply Kd.R_drew)); exact HO199.out) hb); have n1_ := Aside0.mk (Kd.R_lower ho0 (below_size (by repeat (first | (with_reducible first | exact HB.out | apply below_alloc | apply pw_below_drewN | apply below_drew1) | exact HB.out)))); have n2_ := Aside0.mk (below_step (by repeat (first | (with_reducible first | exact HB.out | apply below_alloc | apply pw_below_drewN | apply below_drew1) | exact HB.out)) hb); clear HO199; clear HB; have HO199 := n0_; have HO202 := n1_; have HB := n2_; clear n0_ n1_ n2_; (try clear hb); (try clear hb2); (try clear hk); (try clear hi); (try clear ho0)))
    go_ret2
    exact ⟨_, by first | rfl | (simp [errW_none, errW_some] <;> rfl) | (simp [*, errW_none, errW_some] <;> rfl), by (with_reducible repeat (first | apply Kd.R_alloc | apply Kd.R_drewN | apply Kd.R_drew)); exact HO202.out, by repeat (first | (with_reducible first | exact HB.out | apply below_alloc | apply pw_below_drewN | apply below_drew1) | exact HB.out)⟩
  · rw [if_neg c4] at H
    have c4b0 : (t197 == 0) = false := beq_eq_false_iff_ne.mpr c4
    have c4b1 : (t197 != 0) = true := bne_iff_ne.mpr c4
    simp only [Option.some.injEq, Prod.mk.injEq] at H
    obtain ⟨rfl, rfl⟩ := H
    go_enter Try.func16, Try.ntmps16
    go_wp2_with (first | ((with_reducible refine gate_callee (f := 29) rfl ?_); refine goesL_ (some 11) rfl rfl Try.func29 (by kernel_rfl) rfl #[.slice A0 l0.length c0, .int .i64 a1] rfl (by (try simp only [List.map_toArray, List.map_cons, List.map_nil]); first | done | rfl | (simp only [List.length_drop, List.length_take]; rfl)) ?_; (with_reducible refine (rootcellarref5_marks.calls k _ _ l0 a1 t196 t197 _ ?side1 ?side2 A3.out).mono ?_); (case side1 => repeat (first | exact HR0.out | (with_reducible refine Kd.C_alloc ?_ _) | (with_reducible refine Kd.C_drewN ?_ _) | (with_reducible refine Kd.C_drew ?_))); (case side2 => exact HC0.out); rintro e w9 ⟨v198, rfl, ho0, hb⟩; refine ⟨_, rfl, ?_⟩; have n0_ := Aside0.mk (Kd.R_lower ho0 (below_size (by repeat (first | (with_reducible first | exact HB.out | apply below_alloc | apply pw_below_drewN | apply below_drew1) | exact HB.out)))); have n1_ := Aside0.mk (below_step (by repeat (first | (with_reducible first | exact HB.out | apply below_alloc | apply pw_below_drewN | apply below_drew1) | exact HB.out)) hb); clear HB; have HO199 := n0_; have HB := n1_; clear n0_ n1_; (try clear hb); (try clear hb2); (try clear hk); (try clear hi); (try clear ho0)))
    go_ret2
    exact ⟨_, by first | rfl | (simp [errW_none, errW_some] <;> rfl) | (simp [*, errW_none, errW_some] <;> rfl), by first | exact Kd.R_nil _ _ _ _ _ | exact Kd.N_nil _ _ _ _ _ | exact Kd.V_nil _ _ _ _ _ | exact Kd.Q_nil _ _ _ _ _ | exact Kd.S_nil _ _ _ _ _, by repeat (first | (with_reducible first | exact HB.out | apply below_alloc | apply pw_below_drewN | apply below_drew1) | exact HB.out)⟩

/-! ### rootcellarref5_Rest: function 18 -/
def rootcellarref5_Rest.l0 : Nat → List Bool → Int → Option ((List (S32)) × Int)
  | 0, _, _ => none
  | k + 1, x6, x8 => if x8 < (x6.length : Int) then (if 0 ≤ x8 then (rootcellarref5_Rest.l0 k (x6.set (x8 : Int).toNat (!(rdOf false x6 x8))) (wrap64 (x8 + 1))) else (none)) else ((rootcellarref5_row.f k x6).bind fun t209 => (some (t209, 0)))
def rootcellarref5_Rest.f (k : Nat) (l0 : List (S32)) (a1 : Int) : Option ((List (S32)) × Int) := (rootcellarref5_marks.f k l0 a1).bind fun bt203 => (if bt203.2 = 0 then (rootcellarref5_Rest.l0 k bt203.1 0) else (some (([] : List (S32)), bt203.2)))
theorem rootcellarref5_Rest.mono_l : ∀ k, (∀ y0 y1, LeO (rootcellarref5_Rest.l0 k y0 y1) (rootcellarref5_Rest.l0 (k + 1) y0 y1))
  | 0 => fun _ _ r h => by simp [rootcellarref5_Rest.l0] at h
  | k + 1 => by
    have ih0 := rootcellarref5_Rest.mono_l k
    · intro y0 y1
      unfold rootcellarref5_Rest.l0
      repeat' first
      | (with_reducible exact ih0 _ _)
      | (with_reducible exact rootcellarref5_marks.mono _ _ _)
      | (with_reducible exact rootcellarref5_row.mono _ _)
      | (with_reducible exact LeO.refl _)
      | (with_reducible exact LeO.none _)
      | (with_reducible refine LeO.ite ?_ ?_)
      | (with_reducible refine LeO.bind ?_ (fun _ => ?_))
      | exact ih0 _ _
      | exact rootcellarref5_marks.mono _ _ _
      | exact rootcellarref5_row.mono _ _
      | exact LeO.none _
      | refine LeO.ite ?_ ?_
      | refine LeO.bind ?_ (fun _ => ?_)
theorem rootcellarref5_Rest.mono : ∀ a0 a1 k, LeO (rootcellarref5_Rest.f k a0 a1) (rootcellarref5_Rest.f (k + 1) a0 a1) := by
  intro a0 a1 k
  have ih0 := rootcellarref5_Rest.mono_l k
  unfold rootcellarref5_Rest.f
  repeat' first
      | (with_reducible exact ih0 _ _)
      | (with_reducible exact rootcellarref5_marks.mono _ _ _)
      | (with_reducible exact rootcellarref5_row.mono _ _)
      | (with_reducible exact LeO.refl _)
      | (with_reducible exact LeO.none _)
      | (with_reducible refine LeO.ite ?_ ?_)
      | (with_reducible refine LeO.bind ?_ (fun _ => ?_))
      | exact ih0 _ _
      | exact rootcellarref5_marks.mono _ _ _
      | exact rootcellarref5_row.mono _ _
      | exact LeO.none _
      | refine LeO.ite ?_ ?_
      | refine LeO.bind ?_ (fun _ => ?_)
set_option maxHeartbeats 8000000 in
set_option maxRecDepth 100000 in
theorem rootcellarref5_Rest.calls (k : Nat) (A0 : Option Addr) (c0 : Nat) (l0 : List (S32)) (a1 : Int) (r1 : List (S32)) (r2 : Int) (w : World) (hr0 : Kd.C k32 w A0 l0.length l0) (hc0 : l0.length ≤ c0) (h : rootcellarref5_Rest.f k l0 a1 = some (r1, r2)) :
    Calls Try.prog 18 #[.slice A0 l0.length c0, .int .i64 a1] w fun e w' => ∃ v0_ : Value, e = .returned (.tuple #[v0_, .int .i64 r2]) ∧ Kd.R k32 32 w' w.heap.size (fun _ => True) v0_ r1 ∧ Below w.heap.size w w' := by
  have HR0 := Aside0.mk hr0
  have HC0 := Aside0.mk hc0
  clear hr0 hc0
  have HB := Aside0.mk (Below.refl w.heap.size w)
  have H : ((rootcellarref5_marks.f k l0 a1).bind fun bt203 => (if bt203.2 = 0 then (rootcellarref5_Rest.l0 k bt203.1 0) else (some (([] : List (S32)), bt203.2)))) = some (r1, r2) := h
  clear h
  replace H := Option.bind_eq_some_iff.mp H
  obtain ⟨⟨t203, t204⟩, A30, H⟩ := H
  replace H : (if t204 = 0 then (rootcellarref5_Rest.l0 k t203 0) else (some (([] : List (S32)), t204))) = some (r1, r2) := H
  have A3 := Aside0.mk A30
  clear A30
  by_cases c4 : t204 = 0
  · rw [if_pos c4] at H
    have c4b0 : (t204 == 0) = true := beq_iff_eq.mpr c4
    have c4b1 : (t204 != 0) = false := bne_eq_false_iff_eq.mpr c4
    clear c4
    have H' := Aside0.mk H
    clear H
    go_enter Try.func18, Try.ntmps18
    go_wp2_with (first | ((with_reducible refine gate_callee (f := 29) rfl ?_); refine goesL_ (some 12) rfl rfl Try.func29 (by kernel_rfl) rfl #[.slice A0 l0.length c0, .int .i64 a1] rfl (by (try simp only [List.map_toArray, List.map_cons, List.map_nil]); first | done | rfl | (simp only [List.length_drop, List.length_take]; rfl)) ?_; (with_reducible refine (rootcellarref5_marks.calls k _ _ l0 a1 t203 t204 _ ?side1 ?side2 A3.out).mono ?_); (case side1 => repeat (first | exact HR0.out | (with_reducible refine Kd.C_alloc ?_ _) | (with_reducible refine Kd.C_drewN ?_ _) | (with_reducible refine Kd.C_drew ?_))); (case side2 => exact HC0.out); rintro e w5 ⟨v205, rfl, ho0, hb⟩; refine ⟨_, rfl, ?_⟩; have n0_ := Aside0.mk (Kd.R_lower ho0 (below_size (by repeat (first | (with_reducible first | exact HB.out | apply below_alloc | apply pw_below_drewN | apply below_drew1) | exact HB.out)))); have n1_ := Aside0.mk (below_step (by repeat (first | (with_reducible first | exact HB.out | apply below_alloc | apply pw_below_drewN | apply below_drew1) | exact HB.out)) hb); clear HB; have HO206 := n0_; have HB := n1_; clear n0_ n1_; (try clear hb); (try clear hb2); (try clear hk); (try clear hi); (try clear ho0)))
    go_loopg [8] k (fun kq v8 w' => ∃ (x6_1 : List Bool) (x8_1 : Int), v8 = .int .i64 x8_1 ∧ Aside0 (rootcellarref5_Rest.l0 kq x6_1 x8_1 = some (r1, r2)) ∧ Aside0 (kq ≤ k) ∧ Aside0 (Kd.R Kd.bool 4 w' w.heap.size (fun _ => True) v205 x6_1) ∧ Aside0 (Below w.heap.size w w'))
    case atStart => exact ⟨(t203), (0), (by first | rfl | (simp; done) | (simp [*]; done)), H', ⟨Nat.le_refl _⟩, ⟨by (with_reducible repeat (first | apply Kd.R_alloc | apply Kd.R_drewN | apply Kd.R_drew)); exact HO206.out⟩, ⟨by repeat (first | (with_reducible first | exact HB.out | apply below_alloc | apply pw_below_drewN | apply below_drew1) | exact HB.out)⟩⟩
    case round =>
      clear H'
      try clear c1
      try clear c2
      try clear p2
      try clear c4
      try clear c4b0
      try clear c4b1
      obtain ⟨x6_1, x8_1, rfl, HA, HK1, HO_6, HB⟩ := hrel
      cases gk with
      | zero => exact absurd HA.out (by simp [rootcellarref5_Rest.l0])
      | succ k1 =>
        have H := HA.out
        clear HA
        simp only [rootcellarref5_Rest.l0] at H
        by_cases c6 : x8_1 < (x6_1.length : Int)
        · rw [if_pos c6] at H
          have c6b0 : decide (x8_1 < (x6_1.length : Int)) = true := decide_eq_true c6
          clear c6
          by_cases c7 : 0 ≤ x8_1
          · rw [if_pos c7] at H
            have c7b0 : decide (0 ≤ x8_1) = true := decide_eq_true c7
            clear c7
            obtain ⟨y208, hy208⟩ : ∃ y_ : List Bool, y_ = (x6_1.set (x8_1 : Int).toNat (!(rdOf false x6_1 x8_1))) := ⟨_, rfl⟩
            replace H : (rootcellarref5_Rest.l0 k1 y208 (wrap64 (x8_1 + 1))) = some (r1, r2) := by first | (rw [hy208]; with_reducible exact H) | (have H2_ := (Option.bind_some _ _).symm.trans H; rw [hy208]; with_reducible exact H2_) | (have H2_ := (Option.bind_some _ _).symm.trans H; with_reducible exact H2_) | with_reducible exact H | (rw [hy208]; exact H) | exact H
            have Ny208 := Aside0.mk hy208
            clear hy208
            have H' := Aside0.mk H
            clear H
            obtain ⟨Ao9, co9, eo9⟩ := Kd.R_slice HO_6.out
            subst eo9
            have p207 : 0 ≤ (x8_1 : Int) := of_decide_eq_true (by first | (with_reducible assumption) | assumption)
            have q207 : x8_1 < (x6_1.length : Int) := of_decide_eq_true (by first | (with_reducible assumption) | assumption)
            obtain ⟨ad207, e207, hx207_0⟩ := Kd.at_bool (Kd.R_reads' HO_6.out).2.2 x8_1 p207 q207
            cases e207
            replace p207 := eq_true p207
            replace q207 := eq_true q207
            have p8 : 0 ≤ (x8_1 : Int) := of_decide_eq_true (by first | (with_reducible assumption) | assumption)
            have q8 : (x8_1 : Int) < ((x6_1.length : Int) : Int) := of_decide_eq_true (by first | (with_reducible assumption) | assumption)
            obtain ⟨go8, co8, eo8, gb8, gl8, cl8, HG8⟩ := Kd.R_form HO_6.out (by omega)
            (first | cases eo8 | (injection eo8 with ea_ en_ ec_; (first | subst ea_ | (injection ea_ with ea_; subst ea_)); subst ec_; clear en_))
            have GB8 := Aside0.mk gb8
            have GG8 := Aside0.mk HG8
            clear gb8 gl8 HG8
            (first | simp only [add_plain] at hx207_0 | skip)
            obtain ⟨hx8_0, hf8_0⟩ := Kd.R_celln false HO_6.out (x8_1 : Int) p8 q8
            replace p8 := eq_true p8
            replace q8 := eq_true q8
            have HP10 := Kd.R_putg HO_6.out (x8_1 : Int) (!(rdOf false x6_1 x8_1))
            go_wp2_with (first | ((with_reducible refine gate_store (t := 4) (p := 31) rfl ?_); refine store_event (t := 4) (p := 31) (v := ?vo_w11) (w1 := (wr.setCell ⟨go8, (x8_1 : Int).toNat, none⟩ (.bool (!(rdOf false x6_1 x8_1))))) ?hg ?ho ?hn ?hr ?_; (case ho => rfl); (case hg => rfl); (case hn => rfl); (case hr => first | (go_simp; done) | (go_simp; rfl)); intro w11 hw; have hg : wr.grownBy w11 (some go8) := (by rw [hw]; exact HP10.2); have hp_ : Kd.R Kd.bool 4 w11 w.heap.size (fun _ => True) (.slice (some ⟨go8, 0, none⟩) x6_1.length co9) y208 := (by rw [hw, Ny208.out]; exact HP10.1); clear HP10; have n0_ := Aside0.mk (hp_); have n1_ := Aside0.mk ((by rw [hw]; exact below_set (HB.out) GB8.out : Below w.heap.size w w11)); clear HO_6; clear HB; have HO_6 := n0_; have HB := n1_; clear n0_ n1_; clear hg hw hp_))
            go_roundg k1
            case measure => have := HK1.out; omega
            case rel => exact ⟨(y208), (wrap64 (x8_1 + 1)), (by first | rfl | (simp; done) | (simp [*]; done)), H', ⟨by have := HK1.out; omega⟩, ⟨by (with_reducible repeat (first | apply Kd.R_alloc | apply Kd.R_drewN | apply Kd.R_drew)); exact HO_6.out⟩, ⟨by repeat (first | (with_reducible first | exact HB.out | apply below_alloc | apply pw_below_drewN | apply below_drew1) | exact HB.out)⟩⟩
          · rw [if_neg c7] at H
            exact absurd H (by simp)
        · rw [if_neg c6] at H
          have c6b0 : decide (x8_1 < (x6_1.length : Int)) = false := decide_eq_false c6
          clear c6
          replace H := Option.bind_eq_some_iff.mp H
          obtain ⟨t209, A120, H⟩ := H
          replace H : (some (t209, 0)) = some (r1, r2) := H
          have A12 := Aside0.mk A120
          clear A120
          simp only [Option.some.injEq, Prod.mk.injEq] at H
          obtain ⟨rfl, rfl⟩ := H
          obtain ⟨Ao13, co13, eo13⟩ := Kd.R_slice HO_6.out
          subst eo13
          go_wp2_with (first | ((with_reducible refine gate_callee (f := 26) rfl ?_); refine goesL_ (some 33) rfl rfl Try.func26 (by kernel_rfl) rfl #[.slice Ao13 x6_1.length co13] rfl (by (try simp only [List.map_toArray, List.map_cons, List.map_nil]); first | done | rfl | (simp only [List.length_drop, List.length_take]; rfl)) ?_; (with_reducible refine (rootcellarref5_row.calls k1 _ _ x6_1 t209 _ ?side1 ?side2 A12.out).mono ?_); (case side1 => repeat (first | exact (Kd.R_reads' HO_6.out).2.2 | (with_reducible refine Kd.C_alloc ?_ _) | (with_reducible refine Kd.C_drewN ?_ _) | (with_reducible refine Kd.C_drew ?_))); (case side2 => exact (Kd.R_reads' HO_6.out).2.1); rintro e w14 ⟨v210, rfl, ho0, hb⟩; refine ⟨_, rfl, ?_⟩; have n0_ := Aside0.mk (Kd.R_below (by (with_reducible repeat (first | apply Kd.R_alloc | apply Kd.R_drewN | apply Kd.R_drew)); exact HO_6.out) hb); have n1_ := Aside0.mk (Kd.R_lower ho0 (below_size (by repeat (first | (with_reducible first | exact HB.out | apply below_alloc | apply pw_below_drewN | apply below_drew1) | exact HB.out)))); have n2_ := Aside0.mk (below_step (by repeat (first | (with_reducible first | exact HB.out | apply below_alloc | apply pw_below_drewN | apply below_drew1) | exact HB.out)) hb); clear HO_6; clear HB; have HO_6 := n0_; have HO211 := n1_; have HB := n2_; clear n0_ n1_ n2_; (try clear hb); (try clear hb2); (try clear hk); (try clear hi); (try clear ho0)))
          go_ret2
          exact ⟨_, by first | rfl | (simp [errW_none, errW_some] <;> rfl) | (simp [*, errW_none, errW_some] <;> rfl), by (with_reducible repeat (first | apply Kd.R_alloc | apply Kd.R_drewN | apply Kd.R_drew)); exact HO211.out, by repeat (first | (with_reducible first | exact HB.out | apply below_alloc | apply pw_below_drewN | apply below_drew1) | exact HB.out)⟩
  · rw [if_neg c4] at H
    have c4b0 : (t204 == 0) = false := beq_eq_false_iff_ne.mpr c4
    have c4b1 : (t204 != 0) = true := bne_iff_ne.mpr c4
    simp only [Option.some.injEq, Prod.mk.injEq] at H
    obtain ⟨rfl, rfl⟩ := H
    go_enter Try.func18, Try.ntmps18
    go_wp2_with (first | ((with_reducible refine gate_callee (f := 29) rfl ?_); refine goesL_ (some 12) rfl rfl Try.func29 (by kernel_rfl) rfl #[.slice A0 l0.length c0, .int .i64 a1] rfl (by (try simp only [List.map_toArray, List.map_cons, List.map_nil]); first | done | rfl | (simp only [List.length_drop, List.length_take]; rfl)) ?_; (with_reducible refine (rootcellarref5_marks.calls k _ _ l0 a1 t203 t204 _ ?side1 ?side2 A3.out).mono ?_); (case side1 => repeat (first | exact HR0.out | (with_reducible refine Kd.C_alloc ?_ _) | (with_reducible refine Kd.C_drewN ?_ _) | (with_reducible refine Kd.C_drew ?_))); (case side2 => exact HC0.out); rintro e w15 ⟨v205, rfl, ho0, hb⟩; refine ⟨_, rfl, ?_⟩; have n0_ := Aside0.mk (Kd.R_lower ho0 (below_size (by repeat (first | (with_reducible first | exact HB.out | apply below_alloc | apply pw_below_drewN | apply below_drew1) | exact HB.out)))); have n1_ := Aside0.mk (below_step (by repeat (first | (with_reducible first | exact HB.out | apply below_alloc | apply pw_below_drewN | apply below_drew1) | exact HB.out)) hb); clear HB; have HO206 := n0_; have HB := n1_; clear n0_ n1_; (try clear hb); (try clear hb2); (try clear hk); (try clear hi); (try clear ho0)))
    go_ret2
    exact ⟨_, by first | rfl | (simp [errW_none, errW_some] <;> rfl) | (simp [*, errW_none, errW_some] <;> rfl), by first | exact Kd.R_nil _ _ _ _ _ | exact Kd.N_nil _ _ _ _ _ | exact Kd.V_nil _ _ _ _ _ | exact Kd.Q_nil _ _ _ _ _ | exact Kd.S_nil _ _ _ _ _, by repeat (first | (with_reducible first | exact HB.out | apply below_alloc | apply pw_below_drewN | apply below_drew1) | exact HB.out)⟩

end Go.Proofs.Ytjmplchknbgmgaa.PSpan
