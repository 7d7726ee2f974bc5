-- laid by gprint.py (this session's own program) out of the translation: Lean checks it
import Derived.Test.YtjmplchknbgmgaaPSpanx0
import Derived.Test.YtjmplchknbgmgaaPSpanx12
import Derived.Test.YtjmplchknbgmgaaPSpanx13
import Derived.Test.YtjmplchknbgmgaaPSpanx14
import Derived.Test.YtjmplchknbgmgaaPSpanx15
import Derived.Test.YtjmplchknbgmgaaPSpanx16
import Derived.Test.YtjmplchknbgmgaaPSpanx17
import Derived.Test.YtjmplchknbgmgaaPSpanx18
import Derived.Test.YtjmplchknbgmgaaPSpanx19
import Derived.Test.YtjmplchknbgmgaaPSpanx20
namespace Go.Proofs.Ytjmplchknbgmgaa.PSpan
open Go.RowKit Go.Proofs.YtjmplchknbgmgaaW.PrintWords Go.Proofs.YtjmplchknbgmgaaW.PrintLast Go.Proofs.YtjmplchknbgmgaaW.PrintMore
attribute [local go_sem] max2_int min2_int max_two min_two max_three min_three max_four min_four   -- for this text's walks alone
set_option linter.unusedVariables false
set_option linter.unusedSimpArgs false

/-! ### rootcellarlaw5_SpanRows: function 7 -/
mutual
def rootcellarlaw5_SpanRows.j0 : Nat → List (S32) → Int → Int → Bool → Bool → Option (Bool)
  | 0, _, _, _, _, _ => none
  | k + 1, x0, x1, x2, x7, x23 => if x23 = true then (some x7) else ((span_Norm.f x0 x1).bind fun bt365 => ((rootcellarref5_Norm.f k x0 x1).bind fun bt369 => ((span_Rest.f x0 x1).bind fun bt373 => ((rootcellarref5_Rest.f k x0 x1).bind fun bt377 => (if bt365.2 = bt369.2 then (if bt373.2 = bt377.2 then ((rootcellarlaw5_same.f k bt365.1 bt369.1).bind fun t381 => (if t381 = true then ((rootcellarlaw5_same.f k bt373.1 bt377.1).bind fun t382 => (if t382 = true then ((span_Right.f k x0 x1).bind fun t383 => ((rootcellarref5_Right.f k x0 x1).bind fun t384 => (rootcellarlaw5_SpanRows.j1 k x0 x2 bt365.2 (t383 != t384)))) else (rootcellarlaw5_SpanRows.j1 k x0 x2 bt365.2 true))) else (rootcellarlaw5_SpanRows.j1 k x0 x2 bt365.2 true))) else (rootcellarlaw5_SpanRows.j1 k x0 x2 bt365.2 true)) else (rootcellarlaw5_SpanRows.j1 k x0 x2 bt365.2 true))))))
def rootcellarlaw5_SpanRows.j1 : Nat → List (S32) → Int → Int → Bool → Option (Bool)
  | 0, _, _, _, _ => none
  | k + 1, x0, x2, x9, x77 => if x77 = true then (some false) else (if x9 = 0 then ((span_Total.f k x0).bind fun t385 => ((rootcellarref5_Total.f k x0).bind fun t386 => (if t385 = t386 then ((span_Has.f x0 x2).bind fun t387 => ((rootcellarref5_Has.f k x0 x2).bind fun t388 => (some (t387 == t388)))) else (some false)))) else (some true))
end
def rootcellarlaw5_SpanRows.f (k : Nat) (l0 : List (S32)) (a1 : Int) (a2 : Int) : Option (Bool) := (rootcellarlaw5_shown.f k).bind fun t364 => (if t364 = true then (rootcellarlaw5_SpanRows.j0 k l0 a1 a2 t364 (decide ((l0.length : Int) > 40))) else (rootcellarlaw5_SpanRows.j0 k l0 a1 a2 t364 true))
theorem rootcellarlaw5_SpanRows.mono_l : ∀ k, (∀ y0 y1 y2 y3 y4, LeO (rootcellarlaw5_SpanRows.j0 k y0 y1 y2 y3 y4) (rootcellarlaw5_SpanRows.j0 (k + 1) y0 y1 y2 y3 y4)) ∧ (∀ y0 y1 y2 y3, LeO (rootcellarlaw5_SpanRows.j1 k y0 y1 y2 y3) (rootcellarlaw5_SpanRows.j1 (k + 1) y0 y1 y2 y3))
  | 0 => ⟨fun _ _ _ _ _ r h => by simp [rootcellarlaw5_SpanRows.j0] at h, fun _ _ _ _ r h => by simp [rootcellarlaw5_SpanRows.j1] at h⟩
  | k + 1 => by
    obtain ⟨ih0, ih1⟩ := rootcellarlaw5_SpanRows.mono_l k
    refine ⟨?_, ?_⟩
    · intro y0 y1 y2 y3 y4
      unfold rootcellarlaw5_SpanRows.j0
      repeat' first
      | (with_reducible exact ih0 _ _ _ _ _)
      | (with_reducible exact ih1 _ _ _ _)
      | (with_reducible exact rootcellarlaw5_same.mono _ _ _)
      | (with_reducible exact rootcellarlaw5_shown.mono _)
      | (with_reducible exact rootcellarref5_Has.mono _ _ _)
      | (with_reducible exact rootcellarref5_Norm.mono _ _ _)
      | (with_reducible exact rootcellarref5_Rest.mono _ _ _)
      | (with_reducible exact rootcellarref5_Right.mono _ _ _)
      | (with_reducible exact rootcellarref5_Total.mono _ _)
      | (with_reducible exact span_Right.mono _ _ _)
      | (with_reducible exact span_Total.mono _ _)
      | (with_reducible exact LeO.refl _)
      | (with_reducible exact LeO.none _)
      | (with_reducible refine LeO.ite ?_ ?_)
      | (with_reducible refine LeO.bind ?_ (fun _ => ?_))
      | exact ih0 _ _ _ _ _
      | exact ih1 _ _ _ _
      | exact rootcellarlaw5_same.mono _ _ _
      | exact rootcellarlaw5_shown.mono _
      | exact rootcellarref5_Has.mono _ _ _
      | exact rootcellarref5_Norm.mono _ _ _
      | exact rootcellarref5_Rest.mono _ _ _
      | exact rootcellarref5_Right.mono _ _ _
      | exact rootcellarref5_Total.mono _ _
      | exact span_Right.mono _ _ _
      | exact span_Total.mono _ _
      | exact LeO.none _
      | refine LeO.ite ?_ ?_
      | refine LeO.bind ?_ (fun _ => ?_)
    · intro y0 y1 y2 y3
      unfold rootcellarlaw5_SpanRows.j1
      repeat' first
      | (with_reducible exact ih0 _ _ _ _ _)
      | (with_reducible exact ih1 _ _ _ _)
      | (with_reducible exact rootcellarlaw5_same.mono _ _ _)
      | (with_reducible exact rootcellarlaw5_shown.mono _)
      | (with_reducible exact rootcellarref5_Has.mono _ _ _)
      | (with_reducible exact rootcellarref5_Norm.mono _ _ _)
      | (with_reducible exact rootcellarref5_Rest.mono _ _ _)
      | (with_reducible exact rootcellarref5_Right.mono _ _ _)
      | (with_reducible exact rootcellarref5_Total.mono _ _)
      | (with_reducible exact span_Right.mono _ _ _)
      | (with_reducible exact span_Total.mono _ _)
      | (with_reducible exact LeO.refl _)
      | (with_reducible exact LeO.none _)
      | (with_reducible refine LeO.ite ?_ ?_)
      | (with_reducible refine LeO.bind ?_ (fun _ => ?_))
      | exact ih0 _ _ _ _ _
      | exact ih1 _ _ _ _
      | exact rootcellarlaw5_same.mono _ _ _
      | exact rootcellarlaw5_shown.mono _
      | exact rootcellarref5_Has.mono _ _ _
      | exact rootcellarref5_Norm.mono _ _ _
      | exact rootcellarref5_Rest.mono _ _ _
      | exact rootcellarref5_Right.mono _ _ _
      | exact rootcellarref5_Total.mono _ _
      | exact span_Right.mono _ _ _
      | exact span_Total.mono _ _
      | exact LeO.none _
      | refine LeO.ite ?_ ?_
      | refine LeO.bind ?_ (fun _ => ?_)
theorem rootcellarlaw5_SpanRows.mono : ∀ a0 a1 a2 k, LeO (rootcellarlaw5_SpanRows.f k a0 a1 a2) (rootcellarlaw5_SpanRows.f (k + 1) a0 a1 a2) := by
  intro a0 a1 a2 k
  obtain ⟨ih0, ih1⟩ := rootcellarlaw5_SpanRows.mono_l k
  unfold rootcellarlaw5_SpanRows.f
  repeat' first
      | (with_reducible exact ih0 _ _ _ _ _)
      | (with_reducible exact ih1 _ _ _ _)
      | (with_reducible exact rootcellarlaw5_same.mono _ _ _)
      | (with_reducible exact rootcellarlaw5_shown.mono _)
      | (with_reducible exact rootcellarref5_Has.mono _ _ _)
      | (with_reducible exact rootcellarref5_Norm.mono _ _ _)
      | (with_reducible exact rootcellarref5_Rest.mono _ _ _)
      | (with_reducible exact rootcellarref5_Right.mono _ _ _)
      | (with_reducible exact rootcellarref5_Total.mono _ _)
      | (with_reducible exact span_Right.mono _ _ _)
      | (with_reducible exact span_Total.mono _ _)
      | (with_reducible exact LeO.refl _)
      | (with_reducible exact LeO.none _)
      | (with_reducible refine LeO.ite ?_ ?_)
      | (with_reducible refine LeO.bind ?_ (fun _ => ?_))
      | exact ih0 _ _ _ _ _
      | exact ih1 _ _ _ _
      | exact rootcellarlaw5_same.mono _ _ _
      | exact rootcellarlaw5_shown.mono _
      | exact rootcellarref5_Has.mono _ _ _
      | exact rootcellarref5_Norm.mono _ _ _
      | exact rootcellarref5_Rest.mono _ _ _
      | exact rootcellarref5_Right.mono _ _ _
      | exact rootcellarref5_Total.mono _ _
      | exact span_Right.mono _ _ _
      | exact span_Total.mono _ _
      | exact LeO.none _
      | refine LeO.ite ?_ ?_
      | refine LeO.bind ?_ (fun _ => ?_)
set_option maxHeartbeats 8000000 in
set_option maxRecDepth 100000 in
theorem rootcellarlaw5_SpanRows.calls (k : Nat) (A0 : Option Addr) (c0 : Nat) (l0 : List (S32)) (a1 : Int) (a2 : Int) (r : Bool) (w : World) (hr0 : Kd.C k32 w A0 l0.length l0) (hc0 : l0.length ≤ c0) (h : rootcellarlaw5_SpanRows.f k l0 a1 a2 = some r) :
    Calls Try.prog 7 #[.slice A0 l0.length c0, .int .i64 a1, .int .i64 a2] w fun e w' => e = .returned (.bool r) ∧ Below w.heap.size w w' := by
  have HR0 := Aside0.mk hr0
  have HC0 := Aside0.mk hc0
  clear hr0 hc0
  have HB := Aside0.mk (Below.refl w.heap.size w)
  have H : ((rootcellarlaw5_shown.f k).bind fun t364 => (if t364 = true then (rootcellarlaw5_SpanRows.j0 k l0 a1 a2 t364 (decide ((l0.length : Int) > 40))) else (rootcellarlaw5_SpanRows.j0 k l0 a1 a2 t364 true))) = some r := h
  clear h
  replace H := Option.bind_eq_some_iff.mp H
  obtain ⟨t364, A40, H⟩ := H
  replace H : (if t364 = true then (rootcellarlaw5_SpanRows.j0 k l0 a1 a2 t364 (decide ((l0.length : Int) > 40))) else (rootcellarlaw5_SpanRows.j0 k l0 a1 a2 t364 true)) = some r := H
  have A4 := Aside0.mk A40
  clear A40
  have HC5 := Aside0.mk H
  clear H
  go_enter Try.func7, Try.ntmps7
  go_upto_region 2 with (first | ((with_reducible refine gate_callee (f := 9) rfl ?_); refine goesL_ (some 16) rfl rfl Try.func9 (by kernel_rfl) rfl #[] rfl (by (try simp only [List.map_toArray, List.map_cons, List.map_nil]); first | done | rfl | (simp only [List.length_drop, List.length_take]; rfl)) ?_; (with_reducible refine (rootcellarlaw5_shown.calls k  t364 _ A4.out).mono ?_); rintro e w6 ⟨rfl, hb⟩; refine ⟨_, rfl, ?_⟩; have n0_ := Aside0.mk (below_step (by repeat (first | (with_reducible first | exact HB.out | apply below_alloc | apply pw_below_drewN | apply below_drew1) | exact HB.out)) hb); clear HB; have HB := n0_; clear n0_; (try clear hb); (try clear hb2); (try clear hk); (try clear hi)))
  (try simp only [Act.put, List.setIfInBounds_toArray, List.set_cons_zero, List.set_cons_succ])
  go_cut [23] (fun v23 wc => ∃ (kq : Nat) (x23_4 : Bool), v23 = .bool x23_4 ∧ Aside0 (rootcellarlaw5_SpanRows.j0 kq l0 a1 a2 t364 x23_4 = some r) ∧ Aside0 (kq ≤ k) ∧ Aside0 (Below w.heap.size w wc))
  case first =>
    have H := HC5.out
    clear HC5
    by_cases c7 : t364 = true
    · subst c7
      have H1 : (rootcellarlaw5_SpanRows.j0 k l0 a1 a2 true (decide ((l0.length : Int) > 40))) = some r := by rw [if_pos rfl] at H; exact H
      clear H
      have H := H1
      clear H1
      have H' := Aside0.mk H
      clear H
      go_wp2
      go_meet
      case rel => exact ⟨_, (decide ((l0.length : Int) > 40)), (by first | rfl | (simp; done) | (simp [*]; done)), H', ⟨by first | omega | exact Nat.le_refl _⟩, ⟨by repeat (first | (with_reducible first | exact HB.out | apply below_alloc | apply pw_below_drewN | apply below_drew1) | exact HB.out)⟩⟩
    · replace c7 := Bool.eq_false_iff.mpr c7
      subst c7
      have H1 : (rootcellarlaw5_SpanRows.j0 k l0 a1 a2 false true) = some r := by rw [if_neg (show ¬ (false = true) by decide)] at H; exact H
      clear H
      have H := H1
      clear H1
      have H' := Aside0.mk H
      clear H
      go_wp2
      go_meet
      case rel => exact ⟨_, (true), (by first | rfl | (simp; done) | (simp [*]; done)), H', ⟨by first | omega | exact Nat.le_refl _⟩, ⟨by repeat (first | (with_reducible first | exact HB.out | apply below_alloc | apply pw_below_drewN | apply below_drew1) | exact HB.out)⟩⟩
  case rest =>
    clear HC5
    try clear p2
    try clear c7
    obtain ⟨kq, x23_4, rfl, HA, HJ4, HB⟩ := hcut
    cases kq with
    | zero => exact absurd HA.out (by simp [rootcellarlaw5_SpanRows.j0])
    | succ kj4 =>
      have H := HA.out
      clear HA
      simp only [rootcellarlaw5_SpanRows.j0] at H
      by_cases c8 : x23_4 = true
      · subst c8
        have H1 : (some t364) = some r := by rw [if_pos rfl] at H; exact H
        clear H
        have H := H1
        clear H1
        obtain rfl := Option.some.inj H
        go_wp2
        go_ret
        exact ⟨by first | rfl | (simp [errW_none, errW_some] <;> rfl) | (simp [*, errW_none, errW_some] <;> rfl), by repeat (first | (with_reducible first | exact HB.out | apply below_alloc | apply pw_below_drewN | apply below_drew1) | exact HB.out)⟩
      · replace c8 := Bool.eq_false_iff.mpr c8
        subst c8
        have H1 : ((span_Norm.f l0 a1).bind fun bt365 => ((rootcellarref5_Norm.f kj4 l0 a1).bind fun bt369 => ((span_Rest.f l0 a1).bind fun bt373 => ((rootcellarref5_Rest.f kj4 l0 a1).bind fun bt377 => (if bt365.2 = bt369.2 then (if bt373.2 = bt377.2 then ((rootcellarlaw5_same.f kj4 bt365.1 bt369.1).bind fun t381 => (if t381 = true then ((rootcellarlaw5_same.f kj4 bt373.1 bt377.1).bind fun t382 => (if t382 = true then ((span_Right.f kj4 l0 a1).bind fun t383 => ((rootcellarref5_Right.f kj4 l0 a1).bind fun t384 => (rootcellarlaw5_SpanRows.j1 kj4 l0 a2 bt365.2 (t383 != t384)))) else (rootcellarlaw5_SpanRows.j1 kj4 l0 a2 bt365.2 true))) else (rootcellarlaw5_SpanRows.j1 kj4 l0 a2 bt365.2 true))) else (rootcellarlaw5_SpanRows.j1 kj4 l0 a2 bt365.2 true)) else (rootcellarlaw5_SpanRows.j1 kj4 l0 a2 bt365.2 true)))))) = some r := by rw [if_neg (show ¬ (false = true) by decide)] at H; exact H
        clear H
        have H := H1
        clear H1
        replace H := Option.bind_eq_some_iff.mp H
        obtain ⟨⟨t365, t366⟩, A90, H⟩ := H
        replace H : ((rootcellarref5_Norm.f kj4 l0 a1).bind fun bt369 => ((span_Rest.f l0 a1).bind fun bt373 => ((rootcellarref5_Rest.f kj4 l0 a1).bind fun bt377 => (if t366 = bt369.2 then (if bt373.2 = bt377.2 then ((rootcellarlaw5_same.f kj4 t365 bt369.1).bind fun t381 => (if t381 = true then ((rootcellarlaw5_same.f kj4 bt373.1 bt377.1).bind fun t382 => (if t382 = true then ((span_Right.f kj4 l0 a1).bind fun t383 => ((rootcellarref5_Right.f kj4 l0 a1).bind fun t384 => (rootcellarlaw5_SpanRows.j1 kj4 l0 a2 t366 (t383 != t384)))) else (rootcellarlaw5_SpanRows.j1 kj4 l0 a2 t366 true))) else (rootcellarlaw5_SpanRows.j1 kj4 l0 a2 t366 true))) else (rootcellarlaw5_SpanRows.j1 kj4 l0 a2 t366 true)) else (rootcellarlaw5_SpanRows.j1 kj4 l0 a2 t366 true))))) = some r := H
        have A9 := Aside0.mk A90
        clear A90
        replace H := Option.bind_eq_some_iff.mp H
        obtain ⟨⟨t369, t370⟩, A100, H⟩ := H
        replace H : ((span_Rest.f l0 a1).bind fun bt373 => ((rootcellarref5_Rest.f kj4 l0 a1).bind fun bt377 => (if t366 = t370 then (if bt373.2 = bt377.2 then ((rootcellarlaw5_same.f kj4 t365 t369).bind fun t381 => (if t381 = true then ((rootcellarlaw5_same.f kj4 bt373.1 bt377.1).bind fun t382 => (if t382 = true then ((span_Right.f kj4 l0 a1).bind fun t383 => ((rootcellarref5_Right.f kj4 l0 a1).bind fun t384 => (rootcellarlaw5_SpanRows.j1 kj4 l0 a2 t366 (t383 != t384)))) else (rootcellarlaw5_SpanRows.j1 kj4 l0 a2 t366 true))) else (rootcellarlaw5_SpanRows.j1 kj4 l0 a2 t366 true))) else (rootcellarlaw5_SpanRows.j1 kj4 l0 a2 t366 true)) else (rootcellarlaw5_SpanRows.j1 kj4 l0 a2 t366 true)))) = some r := H
        have A10 := Aside0.mk A100
        clear A100
        replace H := Option.bind_eq_some_iff.mp H
        obtain ⟨⟨t373, t374⟩, A110, H⟩ := H
        replace H : ((rootcellarref5_Rest.f kj4 l0 a1).bind fun bt377 => (if t366 = t370 then (if t374 = bt377.2 then ((rootcellarlaw5_same.f kj4 t365 t369).bind fun t381 => (if t381 = true then ((rootcellarlaw5_same.f kj4 t373 bt377.1).bind fun t382 => (if t382 = true then ((span_Right.f kj4 l0 a1).bind fun t383 => ((rootcellarref5_Right.f kj4 l0 a1).bind fun t384 => (rootcellarlaw5_SpanRows.j1 kj4 l0 a2 t366 (t383 != t384)))) else (rootcellarlaw5_SpanRows.j1 kj4 l0 a2 t366 true))) else (rootcellarlaw5_SpanRows.j1 kj4 l0 a2 t366 true))) else (rootcellarlaw5_SpanRows.j1 kj4 l0 a2 t366 true)) else (rootcellarlaw5_SpanRows.j1 kj4 l0 a2 t366 true))) = some r := H
        have A11 := Aside0.mk A110
        clear A110
        replace H := Option.bind_eq_some_iff.mp H
        obtain ⟨⟨t377, t378⟩, A120, H⟩ := H
        replace H : (if t366 = t370 then (if t374 = t378 then ((rootcellarlaw5_same.f kj4 t365 t369).bind fun t381 => (if t381 = true then ((rootcellarlaw5_same.f kj4 t373 t377).bind fun t382 => (if t382 = true then ((span_Right.f kj4 l0 a1).bind fun t383 => ((rootcellarref5_Right.f kj4 l0 a1).bind fun t384 => (rootcellarlaw5_SpanRows.j1 kj4 l0 a2 t366 (t383 != t384)))) else (rootcellarlaw5_SpanRows.j1 kj4 l0 a2 t366 true))) else (rootcellarlaw5_SpanRows.j1 kj4 l0 a2 t366 true))) else (rootcellarlaw5_SpanRows.j1 kj4 l0 a2 t366 true)) else (rootcellarlaw5_SpanRows.j1 kj4 l0 a2 t366 true)) = some r := H
        have A12 := Aside0.mk A120
        clear A120
        have HC13 := Aside0.mk H
        clear H
        go_upto_region 8 with (first | ((with_reducible refine gate_callee (f := 10) rfl ?_); refine goesL_ (some 28) rfl rfl Try.func10 (by kernel_rfl) rfl #[.slice A0 l0.length c0, .int .i64 a1] rfl (by (try simp only [List.map_toArray, List.map_cons, List.map_nil]); first | done | rfl | (simp only [List.length_drop, List.length_take]; rfl)) ?_; (with_reducible refine (span_Norm.calls _ _ l0 a1 t365 t366 _ ?side1 ?side2 A9.out).mono ?_); (case side1 => repeat (first | exact (Kd.C_below HR0.out HB.out) | (with_reducible refine Kd.C_alloc ?_ _) | (with_reducible refine Kd.C_drewN ?_ _) | (with_reducible refine Kd.C_drew ?_))); (case side2 => exact HC0.out); rintro e w14 ⟨v367, rfl, ho0, hb⟩; refine ⟨_, rfl, ?_⟩; have n0_ := Aside0.mk (Kd.R_lower ho0 (below_size (by repeat (first | (with_reducible first | exact HB.out | apply below_alloc | apply pw_below_drewN | apply below_drew1) | exact HB.out)))); have n1_ := Aside0.mk (below_step (by repeat (first | (with_reducible first | exact HB.out | apply below_alloc | apply pw_below_drewN | apply below_drew1) | exact HB.out)) hb); clear HB; have HO368 := n0_; have HB := n1_; clear n0_ n1_; (try clear hb); (try clear hb2); (try clear hk); (try clear hi); (try clear ho0)) | ((with_reducible refine gate_callee (f := 16) rfl ?_); refine goesL_ (some 34) rfl rfl Try.func16 (by kernel_rfl) rfl #[.slice A0 l0.length c0, .int .i64 a1] rfl (by (try simp only [List.map_toArray, List.map_cons, List.map_nil]); first | done | rfl | (simp only [List.length_drop, List.length_take]; rfl)) ?_; (with_reducible refine (rootcellarref5_Norm.calls kj4 _ _ l0 a1 t369 t370 _ ?side1 ?side2 A10.out).mono ?_); (case side1 => repeat (first | exact (Kd.C_below HR0.out HB.out) | (with_reducible refine Kd.C_alloc ?_ _) | (with_reducible refine Kd.C_drewN ?_ _) | (with_reducible refine Kd.C_drew ?_))); (case side2 => exact HC0.out); rintro e w15 ⟨v371, rfl, ho0, hb⟩; refine ⟨_, rfl, ?_⟩; have n0_ := Aside0.mk (Kd.R_elder' (by (with_reducible repeat (first | apply Kd.R_alloc | apply Kd.R_drewN | apply Kd.R_drew)); exact HO368.out) (Kd.R_base ho0) hb); have n1_ := Aside0.mk (Kd.R_lower (Kd.R_new' ho0 (Kd.R_lt (by (with_reducible repeat (first | apply Kd.R_alloc | apply Kd.R_drewN | apply Kd.R_drew)); exact HO368.out))) (below_size (by repeat (first | (with_reducible first | exact HB.out | apply below_alloc | apply pw_below_drewN | apply below_drew1) | exact HB.out)))); have n2_ := Aside0.mk (below_step (by repeat (first | (with_reducible first | exact HB.out | apply below_alloc | apply pw_below_drewN | apply below_drew1) | exact HB.out)) hb); clear HO368; clear HB; have HO368 := n0_; have HO372 := n1_; have HB := n2_; clear n0_ n1_ n2_; (try clear hb); (try clear hb2); (try clear hk); (try clear hi); (try clear ho0)) | ((with_reducible refine gate_callee (f := 17) rfl ?_); refine goesL_ (some 40) rfl rfl Try.func17 (by kernel_rfl) rfl #[.slice A0 l0.length c0, .int .i64 a1] rfl (by (try simp only [List.map_toArray, List.map_cons, List.map_nil]); first | done | rfl | (simp only [List.length_drop, List.length_take]; rfl)) ?_; (with_reducible refine (span_Rest.calls _ _ l0 a1 t373 t374 _ ?side1 ?side2 A11.out).mono ?_); (case side1 => repeat (first | exact (Kd.C_below HR0.out HB.out) | (with_reducible refine Kd.C_alloc ?_ _) | (with_reducible refine Kd.C_drewN ?_ _) | (with_reducible refine Kd.C_drew ?_))); (case side2 => exact HC0.out); rintro e w16 ⟨v375, rfl, ho0, hb⟩; refine ⟨_, rfl, ?_⟩; have n0_ := Aside0.mk (Kd.R_elder' (by (with_reducible repeat (first | apply Kd.R_alloc | apply Kd.R_drewN | apply Kd.R_drew)); exact HO368.out) (Kd.R_base ho0) hb); have n1_ := Aside0.mk (Kd.R_elder' (by (with_reducible repeat (first | apply Kd.R_alloc | apply Kd.R_drewN | apply Kd.R_drew)); exact HO372.out) (Kd.R_base ho0) hb); have n2_ := Aside0.mk (Kd.R_lower (Kd.R_new' (Kd.R_new' ho0 (Kd.R_lt (by (with_reducible repeat (first | apply Kd.R_alloc | apply Kd.R_drewN | apply Kd.R_drew)); exact HO368.out))) (Kd.R_lt (by (with_reducible repeat (first | apply Kd.R_alloc | apply Kd.R_drewN | apply Kd.R_drew)); exact HO372.out))) (below_size (by repeat (first | (with_reducible first | exact HB.out | apply below_alloc | apply pw_below_drewN | apply below_drew1) | exact HB.out)))); have n3_ := Aside0.mk (below_step (by repeat (first | (with_reducible first | exact HB.out | apply below_alloc | apply pw_below_drewN | apply below_drew1) | exact HB.out)) hb); clear HO368; clear HO372; clear HB; have HO368 := n0_; have HO372 := n1_; have HO376 := n2_; have HB := n3_; clear n0_ n1_ n2_ n3_; (try clear hb); (try clear hb2); (try clear hk); (try clear hi); (try clear ho0)) | ((with_reducible refine gate_callee (f := 18) rfl ?_); refine goesL_ (some 46) rfl rfl Try.func18 (by kernel_rfl) rfl #[.slice A0 l0.length c0, .int .i64 a1] rfl (by (try simp only [List.map_toArray, List.map_cons, List.map_nil]); first | done | rfl | (simp only [List.length_drop, List.length_take]; rfl)) ?_; (with_reducible refine (rootcellarref5_Rest.calls kj4 _ _ l0 a1 t377 t378 _ ?side1 ?side2 A12.out).mono ?_); (case side1 => repeat (first | exact (Kd.C_below HR0.out HB.out) | (with_reducible refine Kd.C_alloc ?_ _) | (with_reducible refine Kd.C_drewN ?_ _) | (with_reducible refine Kd.C_drew ?_))); (case side2 => exact HC0.out); rintro e w17 ⟨v379, rfl, ho0, hb⟩; refine ⟨_, rfl, ?_⟩; have n0_ := Aside0.mk (Kd.R_elder' (by (with_reducible repeat (first | apply Kd.R_alloc | apply Kd.R_drewN | apply Kd.R_drew)); exact HO368.out) (Kd.R_base ho0) hb); have n1_ := Aside0.mk (Kd.R_elder' (by (with_reducible repeat (first | apply Kd.R_alloc | apply Kd.R_drewN | apply Kd.R_drew)); exact HO372.out) (Kd.R_base ho0) hb); have n2_ := Aside0.mk (Kd.R_elder' (by (with_reducible repeat (first | apply Kd.R_alloc | apply Kd.R_drewN | apply Kd.R_drew)); exact HO376.out) (Kd.R_base ho0) hb); have n3_ := Aside0.mk (Kd.R_lower (Kd.R_new' (Kd.R_new' (Kd.R_new' ho0 (Kd.R_lt (by (with_reducible repeat (first | apply Kd.R_alloc | apply Kd.R_drewN | apply Kd.R_drew)); exact HO368.out))) (Kd.R_lt (by (with_reducible repeat (first | apply Kd.R_alloc | apply Kd.R_drewN | apply Kd.R_drew)); exact HO372.out))) (Kd.R_lt (by (with_reducible repeat (first | apply Kd.R_alloc | apply Kd.R_drewN | apply Kd.R_drew)); exact HO376.out))) (below_size (by repeat (first | (with_reducible first | exact HB.out | apply below_alloc | apply pw_below_drewN | apply below_drew1) | exact HB.out)))); have n4_ := Aside0.mk (below_step (by repeat (first | (with_reducible first | exact HB.out | apply below_alloc | apply pw_below_drewN | apply below_drew1) | exact HB.out)) hb); clear HO368; clear HO372; clear HO376; clear HB; have HO368 := n0_; have HO372 := n1_; have HO376 := n2_; have HO380 := n3_; have HB := n4_; clear n0_ n1_ n2_ n3_ n4_; (try clear hb); (try clear hb2); (try clear hk); (try clear hi); (try clear ho0)))
        (try simp only [Act.put, List.setIfInBounds_toArray, List.set_cons_zero, List.set_cons_succ])
        go_cut [77] (fun v77 wc => ∃ (kq : Nat) (x77_12 : Bool), v77 = .bool x77_12 ∧ Aside0 (rootcellarlaw5_SpanRows.j1 kq l0 a2 t366 x77_12 = some r) ∧ Aside0 (kq ≤ kj4) ∧ Aside0 (Below w.heap.size w wc))
        case first =>
          have H := HC13.out
          clear HC13
          by_cases c18 : t366 = t370
          · rw [if_pos c18] at H
            have c18b0 : (t366 == t370) = true := beq_iff_eq.mpr c18
            have c18b1 : (t366 != t370) = false := bne_eq_false_iff_eq.mpr c18
            clear c18
            (first | rw [c18b0] | (simp only [i64_w, i32_w]; rw [c18b0]) | skip)
            by_cases c19 : t374 = t378
            · rw [if_pos c19] at H
              have c19b0 : (t374 == t378) = true := beq_iff_eq.mpr c19
              have c19b1 : (t374 != t378) = false := bne_eq_false_iff_eq.mpr c19
              clear c19
              replace H := Option.bind_eq_some_iff.mp H
              obtain ⟨t381, A200, H⟩ := H
              replace H : (if t381 = true then ((rootcellarlaw5_same.f kj4 t373 t377).bind fun t382 => (if t382 = true then ((span_Right.f kj4 l0 a1).bind fun t383 => ((rootcellarref5_Right.f kj4 l0 a1).bind fun t384 => (rootcellarlaw5_SpanRows.j1 kj4 l0 a2 t366 (t383 != t384)))) else (rootcellarlaw5_SpanRows.j1 kj4 l0 a2 t366 true))) else (rootcellarlaw5_SpanRows.j1 kj4 l0 a2 t366 true)) = some r := H
              have A20 := Aside0.mk A200
              clear A200
              by_cases c21 : t381 = true
              · subst c21
                have H1 : ((rootcellarlaw5_same.f kj4 t373 t377).bind fun t382 => (if t382 = true then ((span_Right.f kj4 l0 a1).bind fun t383 => ((rootcellarref5_Right.f kj4 l0 a1).bind fun t384 => (rootcellarlaw5_SpanRows.j1 kj4 l0 a2 t366 (t383 != t384)))) else (rootcellarlaw5_SpanRows.j1 kj4 l0 a2 t366 true))) = some r := by rw [if_pos rfl] at H; exact H
                clear H
                have H := H1
                clear H1
                replace H := Option.bind_eq_some_iff.mp H
                obtain ⟨t382, A220, H⟩ := H
                replace H : (if t382 = true then ((span_Right.f kj4 l0 a1).bind fun t383 => ((rootcellarref5_Right.f kj4 l0 a1).bind fun t384 => (rootcellarlaw5_SpanRows.j1 kj4 l0 a2 t366 (t383 != t384)))) else (rootcellarlaw5_SpanRows.j1 kj4 l0 a2 t366 true)) = some r := H
                have A22 := Aside0.mk A220
                clear A220
                by_cases c23 : t382 = true
                · subst c23
                  have H1 : ((span_Right.f kj4 l0 a1).bind fun t383 => ((rootcellarref5_Right.f kj4 l0 a1).bind fun t384 => (rootcellarlaw5_SpanRows.j1 kj4 l0 a2 t366 (t383 != t384)))) = some r := by rw [if_pos rfl] at H; exact H
                  clear H
                  have H := H1
                  clear H1
                  replace H := Option.bind_eq_some_iff.mp H
                  obtain ⟨t383, A240, H⟩ := H
                  replace H : ((rootcellarref5_Right.f kj4 l0 a1).bind fun t384 => (rootcellarlaw5_SpanRows.j1 kj4 l0 a2 t366 (t383 != t384))) = some r := H
                  have A24 := Aside0.mk A240
                  clear A240
                  replace H := Option.bind_eq_some_iff.mp H
                  obtain ⟨t384, A250, H⟩ := H
                  replace H : (rootcellarlaw5_SpanRows.j1 kj4 l0 a2 t366 (t383 != t384)) = some r := H
                  have A25 := Aside0.mk A250
                  clear A250
                  have H' := Aside0.mk H
                  clear H
                  obtain ⟨Ao26, co26, eo26⟩ := Kd.R_slice HO368.out
                  subst eo26
                  obtain ⟨Ao27, co27, eo27⟩ := Kd.R_slice HO372.out
                  subst eo27
                  go_wp2_with (first | (go_at_call 13; (with_reducible refine (rootcellarlaw5_same.calls kj4 _ _ t365 _ _ t369 true _ ?side1 ?side2 ?side3 ?side4 A20.out).mono ?_); (case side1 => repeat (first | exact (Kd.R_reads' HO368.out).2.2 | (with_reducible refine Kd.C_alloc ?_ _) | (with_reducible refine Kd.C_drewN ?_ _) | (with_reducible refine Kd.C_drew ?_))); (case side2 => exact (Kd.R_reads' HO368.out).2.1); (case side3 => repeat (first | exact (Kd.R_reads' HO372.out).2.2 | (with_reducible refine Kd.C_alloc ?_ _) | (with_reducible refine Kd.C_drewN ?_ _) | (with_reducible refine Kd.C_drew ?_))); (case side4 => exact (Kd.R_reads' HO372.out).2.1); rintro e w' ⟨rfl, ⟨nd, rfl⟩⟩; obtain ⟨Ao28, co28, eo28⟩ := Kd.R_slice HO376.out; subst eo28; obtain ⟨Ao29, co29, eo29⟩ := Kd.R_slice HO380.out; subst eo29) | (go_at_call 13; (with_reducible refine (rootcellarlaw5_same.calls kj4 _ _ t373 _ _ t377 true _ ?side1 ?side2 ?side3 ?side4 A22.out).mono ?_); (case side1 => repeat (first | exact (Kd.R_reads' HO376.out).2.2 | (with_reducible refine Kd.C_alloc ?_ _) | (with_reducible refine Kd.C_drewN ?_ _) | (with_reducible refine Kd.C_drew ?_))); (case side2 => exact (Kd.R_reads' HO376.out).2.1); (case side3 => repeat (first | exact (Kd.R_reads' HO380.out).2.2 | (with_reducible refine Kd.C_alloc ?_ _) | (with_reducible refine Kd.C_drewN ?_ _) | (with_reducible refine Kd.C_drew ?_))); (case side4 => exact (Kd.R_reads' HO380.out).2.1); rintro e w' ⟨rfl, ⟨nd, rfl⟩⟩) | (go_at_call 15; (with_reducible refine (span_Right.calls kj4 _ _ l0 a1 t383 _ ?side1 ?side2 A24.out).mono ?_); (case side1 => repeat (first | exact (Kd.C_below HR0.out (by repeat (first | (with_reducible first | exact HB.out | apply below_alloc | apply pw_below_drewN | apply below_drew1) | exact HB.out))) | (with_reducible refine Kd.C_alloc ?_ _) | (with_reducible refine Kd.C_drewN ?_ _) | (with_reducible refine Kd.C_drew ?_))); (case side2 => exact HC0.out); rintro e w30 ⟨rfl, hb⟩; have n0_ := Aside0.mk (Kd.R_below (by (with_reducible repeat (first | apply Kd.R_alloc | apply Kd.R_drewN | apply Kd.R_drew)); exact HO368.out) hb); have n1_ := Aside0.mk (Kd.R_below (by (with_reducible repeat (first | apply Kd.R_alloc | apply Kd.R_drewN | apply Kd.R_drew)); exact HO372.out) hb); have n2_ := Aside0.mk (Kd.R_below (by (with_reducible repeat (first | apply Kd.R_alloc | apply Kd.R_drewN | apply Kd.R_drew)); exact HO376.out) hb); have n3_ := Aside0.mk (Kd.R_below (by (with_reducible repeat (first | apply Kd.R_alloc | apply Kd.R_drewN | apply Kd.R_drew)); exact HO380.out) hb); have n4_ := Aside0.mk (below_step (by repeat (first | (with_reducible first | exact HB.out | apply below_alloc | apply pw_below_drewN | apply below_drew1) | exact HB.out)) hb); clear HO368; clear HO372; clear HO376; clear HO380; clear HB; have HO368 := n0_; have HO372 := n1_; have HO376 := n2_; have HO380 := n3_; have HB := n4_; clear n0_ n1_ n2_ n3_ n4_; (try clear hb); (try clear hb2); (try clear hk); (try clear hi)) | (go_at_call 19; (with_reducible refine (rootcellarref5_Right.calls kj4 _ _ l0 a1 t384 _ ?side1 ?side2 A25.out).mono ?_); (case side1 => repeat (first | exact (Kd.C_below HR0.out HB.out) | (with_reducible refine Kd.C_alloc ?_ _) | (with_reducible refine Kd.C_drewN ?_ _) | (with_reducible refine Kd.C_drew ?_))); (case side2 => exact HC0.out); rintro e w31 ⟨rfl, hb⟩; have n0_ := Aside0.mk (Kd.R_below (by (with_reducible repeat (first | apply Kd.R_alloc | apply Kd.R_drewN | apply Kd.R_drew)); exact HO368.out) hb); have n1_ := Aside0.mk (Kd.R_below (by (with_reducible repeat (first | apply Kd.R_alloc | apply Kd.R_drewN | apply Kd.R_drew)); exact HO372.out) hb); have n2_ := Aside0.mk (Kd.R_below (by (with_reducible repeat (first | apply Kd.R_alloc | apply Kd.R_drewN | apply Kd.R_drew)); exact HO376.out) hb); have n3_ := Aside0.mk (Kd.R_below (by (with_reducible repeat (first | apply Kd.R_alloc | apply Kd.R_drewN | apply Kd.R_drew)); exact HO380.out) hb); have n4_ := Aside0.mk (below_step (by repeat (first | (with_reducible first | exact HB.out | apply below_alloc | apply pw_below_drewN | apply below_drew1) | exact HB.out)) hb); clear HO368; clear HO372; clear HO376; clear HO380; clear HB; have HO368 := n0_; have HO372 := n1_; have HO376 := n2_; have HO380 := n3_; have HB := n4_; clear n0_ n1_ n2_ n3_ n4_; (try clear hb); (try clear hb2); (try clear hk); (try clear hi)))
                  go_meet
                  case rel => exact ⟨_, ((t383 != t384)), (by first | rfl | (simp; done) | (simp [*]; done)), H', ⟨by have := HJ4.out; first | omega | exact Nat.le_refl _⟩, ⟨by repeat (first | (with_reducible first | exact HB.out | apply below_alloc | apply pw_below_drewN | apply below_drew1) | exact HB.out)⟩⟩
                · replace c23 := Bool.eq_false_iff.mpr c23
                  subst c23
                  have H1 : (rootcellarlaw5_SpanRows.j1 kj4 l0 a2 t366 true) = some r := by rw [if_neg (show ¬ (false = true) by decide)] at H; exact H
                  clear H
                  have H := H1
                  clear H1
                  have H' := Aside0.mk H
                  clear H
                  obtain ⟨Ao32, co32, eo32⟩ := Kd.R_slice HO368.out
                  subst eo32
                  obtain ⟨Ao33, co33, eo33⟩ := Kd.R_slice HO372.out
                  subst eo33
                  go_wp2_with (first | (go_at_call 13; (with_reducible refine (rootcellarlaw5_same.calls kj4 _ _ t365 _ _ t369 true _ ?side1 ?side2 ?side3 ?side4 A20.out).mono ?_); (case side1 => repeat (first | exact (Kd.R_reads' HO368.out).2.2 | (with_reducible refine Kd.C_alloc ?_ _) | (with_reducible refine Kd.C_drewN ?_ _) | (with_reducible refine Kd.C_drew ?_))); (case side2 => exact (Kd.R_reads' HO368.out).2.1); (case side3 => repeat (first | exact (Kd.R_reads' HO372.out).2.2 | (with_reducible refine Kd.C_alloc ?_ _) | (with_reducible refine Kd.C_drewN ?_ _) | (with_reducible refine Kd.C_drew ?_))); (case side4 => exact (Kd.R_reads' HO372.out).2.1); rintro e w' ⟨rfl, ⟨nd, rfl⟩⟩; obtain ⟨Ao34, co34, eo34⟩ := Kd.R_slice HO376.out; subst eo34; obtain ⟨Ao35, co35, eo35⟩ := Kd.R_slice HO380.out; subst eo35) | (go_at_call 13; (with_reducible refine (rootcellarlaw5_same.calls kj4 _ _ t373 _ _ t377 false _ ?side1 ?side2 ?side3 ?side4 A22.out).mono ?_); (case side1 => repeat (first | exact (Kd.R_reads' HO376.out).2.2 | (with_reducible refine Kd.C_alloc ?_ _) | (with_reducible refine Kd.C_drewN ?_ _) | (with_reducible refine Kd.C_drew ?_))); (case side2 => exact (Kd.R_reads' HO376.out).2.1); (case side3 => repeat (first | exact (Kd.R_reads' HO380.out).2.2 | (with_reducible refine Kd.C_alloc ?_ _) | (with_reducible refine Kd.C_drewN ?_ _) | (with_reducible refine Kd.C_drew ?_))); (case side4 => exact (Kd.R_reads' HO380.out).2.1); rintro e w' ⟨rfl, ⟨nd, rfl⟩⟩))
                  go_meet
                  case rel => exact ⟨_, (true), (by first | rfl | (simp; done) | (simp [*]; done)), H', ⟨by have := HJ4.out; first | omega | exact Nat.le_refl _⟩, ⟨by repeat (first | (with_reducible first | exact HB.out | apply below_alloc | apply pw_below_drewN | apply below_drew1) | exact HB.out)⟩⟩
              · replace c21 := Bool.eq_false_iff.mpr c21
                subst c21
                have H1 : (rootcellarlaw5_SpanRows.j1 kj4 l0 a2 t366 true) = some r := by rw [if_neg (show ¬ (false = true) by decide)] at H; exact H
                clear H
                have H := H1
                clear H1
                have H' := Aside0.mk H
                clear H
                obtain ⟨Ao36, co36, eo36⟩ := Kd.R_slice HO368.out
                subst eo36
                obtain ⟨Ao37, co37, eo37⟩ := Kd.R_slice HO372.out
                subst eo37
                go_wp2_with (first | (go_at_call 13; (with_reducible refine (rootcellarlaw5_same.calls kj4 _ _ t365 _ _ t369 false _ ?side1 ?side2 ?side3 ?side4 A20.out).mono ?_); (case side1 => repeat (first | exact (Kd.R_reads' HO368.out).2.2 | (with_reducible refine Kd.C_alloc ?_ _) | (with_reducible refine Kd.C_drewN ?_ _) | (with_reducible refine Kd.C_drew ?_))); (case side2 => exact (Kd.R_reads' HO368.out).2.1); (case side3 => repeat (first | exact (Kd.R_reads' HO372.out).2.2 | (with_reducible refine Kd.C_alloc ?_ _) | (with_reducible refine Kd.C_drewN ?_ _) | (with_reducible refine Kd.C_drew ?_))); (case side4 => exact (Kd.R_reads' HO372.out).2.1); rintro e w' ⟨rfl, ⟨nd, rfl⟩⟩))
                go_meet
                case rel => exact ⟨_, (true), (by first | rfl | (simp; done) | (simp [*]; done)), H', ⟨by have := HJ4.out; first | omega | exact Nat.le_refl _⟩, ⟨by repeat (first | (with_reducible first | exact HB.out | apply below_alloc | apply pw_below_drewN | apply below_drew1) | exact HB.out)⟩⟩
            · rw [if_neg c19] at H
              have c19b0 : (t374 == t378) = false := beq_eq_false_iff_ne.mpr c19
              have c19b1 : (t374 != t378) = true := bne_iff_ne.mpr c19
              have H' := Aside0.mk H
              clear H
              go_wp2
              go_meet
              case rel => exact ⟨_, (true), (by first | rfl | (simp; done) | (simp [*]; done)), H', ⟨by have := HJ4.out; first | omega | exact Nat.le_refl _⟩, ⟨by repeat (first | (with_reducible first | exact HB.out | apply below_alloc | apply pw_below_drewN | apply below_drew1) | exact HB.out)⟩⟩
          · rw [if_neg c18] at H
            have c18b0 : (t366 == t370) = false := beq_eq_false_iff_ne.mpr c18
            have c18b1 : (t366 != t370) = true := bne_iff_ne.mpr c18
            (first | rw [c18b0] | (simp only [i64_w, i32_w]; rw [c18b0]) | skip)
            have H' := Aside0.mk H
            clear H
            go_wp2
            go_meet
            case rel => exact ⟨_, (true), (by first | rfl | (simp; done) | (simp [*]; done)), H', ⟨by have := HJ4.out; first | omega | exact Nat.le_refl _⟩, ⟨by repeat (first | (with_reducible first | exact HB.out | apply below_alloc | apply pw_below_drewN | apply below_drew1) | exact HB.out)⟩⟩
        case rest =>
          clear HC13
          try clear c1
          try clear c2
          try clear p2
          try clear c7
          try clear c8
          try clear c9
          try clear c10
          try clear c16
          try clear c17
          try clear c18
          try clear c18b0
          try clear c18b1
          try clear c19
          try clear c19b0
          try clear c19b1
          try clear c21
          try clear c23
          try clear p2
          obtain ⟨kq, x77_12, rfl, HA, HJ12, HB⟩ := hcut
          cases kq with
          | zero => exact absurd HA.out (by simp [rootcellarlaw5_SpanRows.j1])
          | succ kj12 =>
            have H := HA.out
            clear HA
            simp only [rootcellarlaw5_SpanRows.j1] at H
            by_cases c38 : x77_12 = true
            · subst c38
              have H1 : (some false) = some r := by rw [if_pos rfl] at H; exact H
              clear H
              have H := H1
              clear H1
              obtain rfl := Option.some.inj H
              go_wp2
              go_ret
              exact ⟨by first | rfl | (simp [errW_none, errW_some] <;> rfl) | (simp [*, errW_none, errW_some] <;> rfl), by repeat (first | (with_reducible first | exact HB.out | apply below_alloc | apply pw_below_drewN | apply below_drew1) | exact HB.out)⟩
            · replace c38 := Bool.eq_false_iff.mpr c38
              subst c38
              have H1 : (if t366 = 0 then ((span_Total.f kj12 l0).bind fun t385 => ((rootcellarref5_Total.f kj12 l0).bind fun t386 => (if t385 = t386 then ((span_Has.f l0 a2).bind fun t387 => ((rootcellarref5_Has.f kj12 l0 a2).bind fun t388 => (some (t387 == t388)))) else (some false)))) else (some true)) = some r := by rw [if_neg (show ¬ (false = true) by decide)] at H; exact H
              clear H
              have H := H1
              clear H1
              by_cases c39 : t366 = 0
              · rw [if_pos c39] at H
                have c39b0 : (t366 == 0) = true := beq_iff_eq.mpr c39
                have c39b1 : (t366 != 0) = false := bne_eq_false_iff_eq.mpr c39
                clear c39
                replace H := Option.bind_eq_some_iff.mp H
                obtain ⟨t385, A400, H⟩ := H
                replace H : ((rootcellarref5_Total.f kj12 l0).bind fun t386 => (if t385 = t386 then ((span_Has.f l0 a2).bind fun t387 => ((rootcellarref5_Has.f kj12 l0 a2).bind fun t388 => (some (t387 == t388)))) else (some false))) = some r := H
                have A40 := Aside0.mk A400
                clear A400
                replace H := Option.bind_eq_some_iff.mp H
                obtain ⟨t386, A410, H⟩ := H
                replace H : (if t385 = t386 then ((span_Has.f l0 a2).bind fun t387 => ((rootcellarref5_Has.f kj12 l0 a2).bind fun t388 => (some (t387 == t388)))) else (some false)) = some r := H
                have A41 := Aside0.mk A410
                clear A410
                by_cases c42 : t385 = t386
                · rw [if_pos c42] at H
                  have c42b0 : (t385 == t386) = true := beq_iff_eq.mpr c42
                  have c42b1 : (t385 != t386) = false := bne_eq_false_iff_eq.mpr c42
                  clear c42
                  replace H := Option.bind_eq_some_iff.mp H
                  obtain ⟨t387, A430, H⟩ := H
                  replace H : ((rootcellarref5_Has.f kj12 l0 a2).bind fun t388 => (some (t387 == t388))) = some r := H
                  have A43 := Aside0.mk A430
                  clear A430
                  replace H := Option.bind_eq_some_iff.mp H
                  obtain ⟨t388, A440, H⟩ := H
                  replace H : (some (t387 == t388)) = some r := H
                  have A44 := Aside0.mk A440
                  clear A440
                  obtain rfl := Option.some.inj H
                  go_wp2_with (first | (go_at_call 14; (with_reducible refine (span_Total.calls kj12 _ _ l0 t385 _ ?side1 ?side2 A40.out).mono ?_); (case side1 => repeat (first | exact (Kd.C_below HR0.out HB.out) | (with_reducible refine Kd.C_alloc ?_ _) | (with_reducible refine Kd.C_drewN ?_ _) | (with_reducible refine Kd.C_drew ?_))); (case side2 => exact HC0.out); rintro e w45 ⟨rfl, hb⟩; have n0_ := Aside0.mk (below_step (by repeat (first | (with_reducible first | exact HB.out | apply below_alloc | apply pw_below_drewN | apply below_drew1) | exact HB.out)) hb); clear HB; have HB := n0_; clear n0_; (try clear hb); (try clear hb2); (try clear hk); (try clear hi)) | (go_at_call 20; (with_reducible refine (rootcellarref5_Total.calls kj12 _ _ l0 t386 _ ?side1 ?side2 A41.out).mono ?_); (case side1 => repeat (first | exact (Kd.C_below HR0.out HB.out) | (with_reducible refine Kd.C_alloc ?_ _) | (with_reducible refine Kd.C_drewN ?_ _) | (with_reducible refine Kd.C_drew ?_))); (case side2 => exact HC0.out); rintro e w46 ⟨rfl, hb⟩; have n0_ := Aside0.mk (below_step (by repeat (first | (with_reducible first | exact HB.out | apply below_alloc | apply pw_below_drewN | apply below_drew1) | exact HB.out)) hb); clear HB; have HB := n0_; clear n0_; (try clear hb); (try clear hb2); (try clear hk); (try clear hi)) | (go_at_call 21; (with_reducible refine (span_Has.calls _ _ l0 a2 t387 _ ?side1 ?side2 A43.out).mono ?_); (case side1 => repeat (first | exact (Kd.C_below HR0.out HB.out) | (with_reducible refine Kd.C_alloc ?_ _) | (with_reducible refine Kd.C_drewN ?_ _) | (with_reducible refine Kd.C_drew ?_))); (case side2 => exact HC0.out); rintro e w47 ⟨rfl, hb⟩; have n0_ := Aside0.mk (below_step (by repeat (first | (with_reducible first | exact HB.out | apply below_alloc | apply pw_below_drewN | apply below_drew1) | exact HB.out)) hb); clear HB; have HB := n0_; clear n0_; (try clear hb); (try clear hb2); (try clear hk); (try clear hi)) | (go_at_call 22; (with_reducible refine (rootcellarref5_Has.calls kj12 _ _ l0 a2 t388 _ ?side1 ?side2 A44.out).mono ?_); (case side1 => repeat (first | exact (Kd.C_below HR0.out HB.out) | (with_reducible refine Kd.C_alloc ?_ _) | (with_reducible refine Kd.C_drewN ?_ _) | (with_reducible refine Kd.C_drew ?_))); (case side2 => exact HC0.out); rintro e w' ⟨rfl, ⟨nd, rfl⟩⟩))
                  go_ret
                  exact ⟨by first | rfl | (simp [errW_none, errW_some] <;> rfl) | (simp [*, errW_none, errW_some] <;> rfl), by repeat (first | (with_reducible first | exact HB.out | apply below_alloc | apply pw_below_drewN | apply below_drew1) | exact HB.out)⟩
                · rw [if_neg c42] at H
                  have c42b0 : (t385 == t386) = false := beq_eq_false_iff_ne.mpr c42
                  have c42b1 : (t385 != t386) = true := bne_iff_ne.mpr c42
                  obtain rfl := Option.some.inj H
                  go_wp2_with (first | (go_at_call 14; (with_reducible refine (span_Total.calls kj12 _ _ l0 t385 _ ?side1 ?side2 A40.out).mono ?_); (case side1 => repeat (first | exact (Kd.C_below HR0.out HB.out) | (with_reducible refine Kd.C_alloc ?_ _) | (with_reducible refine Kd.C_drewN ?_ _) | (with_reducible refine Kd.C_drew ?_))); (case side2 => exact HC0.out); rintro e w48 ⟨rfl, hb⟩; have n0_ := Aside0.mk (below_step (by repeat (first | (with_reducible first | exact HB.out | apply below_alloc | apply pw_below_drewN | apply below_drew1) | exact HB.out)) hb); clear HB; have HB := n0_; clear n0_; (try clear hb); (try clear hb2); (try clear hk); (try clear hi)) | (go_at_call 20; (with_reducible refine (rootcellarref5_Total.calls kj12 _ _ l0 t386 _ ?side1 ?side2 A41.out).mono ?_); (case side1 => repeat (first | exact (Kd.C_below HR0.out HB.out) | (with_reducible refine Kd.C_alloc ?_ _) | (with_reducible refine Kd.C_drewN ?_ _) | (with_reducible refine Kd.C_drew ?_))); (case side2 => exact HC0.out); rintro e w49 ⟨rfl, hb⟩; have n0_ := Aside0.mk (below_step (by repeat (first | (with_reducible first | exact HB.out | apply below_alloc | apply pw_below_drewN | apply below_drew1) | exact HB.out)) hb); clear HB; have HB := n0_; clear n0_; (try clear hb); (try clear hb2); (try clear hk); (try clear hi)))
                  go_ret
                  exact ⟨by first | rfl | (simp [errW_none, errW_some] <;> rfl) | (simp [*, errW_none, errW_some] <;> rfl), by repeat (first | (with_reducible first | exact HB.out | apply below_alloc | apply pw_below_drewN | apply below_drew1) | exact HB.out)⟩
              · rw [if_neg c39] at H
                have c39b0 : (t366 == 0) = false := beq_eq_false_iff_ne.mpr c39
                have c39b1 : (t366 != 0) = true := bne_iff_ne.mpr c39
                obtain rfl := Option.some.inj H
                go_wp2
                go_ret
                exact ⟨by first | rfl | (simp [errW_none, errW_some] <;> rfl) | (simp [*, errW_none, errW_some] <;> rfl), by repeat (first | (with_reducible first | exact HB.out | apply below_alloc | apply pw_below_drewN | apply below_drew1) | exact HB.out)⟩

end Go.Proofs.Ytjmplchknbgmgaa.PSpan
