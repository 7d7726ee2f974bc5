-- laid by gprint.py (this session's own program) out of the translation: Lean checks it
import Derived.Test.YtjmplchknbgmgaaPSpanx0
import Derived.Test.YtjmplchknbgmgaaPSpanx12
import Derived.Test.YtjmplchknbgmgaaPSpanx13
import Derived.Test.YtjmplchknbgmgaaPSpanx15
namespace Go.Proofs.Ytjmplchknbgmgaa.PSpan
open Go.RowKit Go.Proofs.YtjmplchknbgmgaaW.PrintWords Go.Proofs.YtjmplchknbgmgaaW.PrintLast Go.Proofs.YtjmplchknbgmgaaW.PrintMore
attribute [local go_sem] max2_int min2_int max_two min_two max_three min_three max_four min_four   -- for this text's walks alone
set_option linter.unusedVariables false
set_option linter.unusedSimpArgs false

/-! ### rootcellarlaw5_SpanOrder: function 4 -/
mutual
def rootcellarlaw5_SpanOrder.j0 : Nat → List (S32) → Int → Int → Int → Bool → Bool → Option (Bool)
  | 0, _, _, _, _, _, _ => none
  | k + 1, x0, x1, x2, x3, x9, x32 => if x32 = true then (some x9) else ((span_Norm.f x0 x1).bind fun bt243 => ((some (([] : List (S32)) : List (S32))).bind fun y247 => (if 0 ≤ (mx 0 (mn x2 (x0.length : Int))) then (if (mx 0 (mn x2 (x0.length : Int))) ≤ (x0.length : Int) then ((some (x0.drop ((mx 0 (mn x2 (x0.length : Int))) : Int).toNat : List (S32))).bind fun y250 => (if y247.length + y250.length < 8796093022208 then ((some (y247 ++ y250 : List (S32))).bind fun y254 => ((some (x0.take ((mx 0 (mn x2 (x0.length : Int))) : Int).toNat : List (S32))).bind fun y257 => (if y254.length + y257.length < 8796093022208 then ((span_Norm.f (y254 ++ y257) x1).bind fun bt264 => (if bt243.2 = bt264.2 then ((rootcellarlaw5_same.f k bt243.1 bt264.1).bind fun t268 => (rootcellarlaw5_SpanOrder.j1 k x0 x1 x3 bt243.1 bt243.2 (!t268))) else (rootcellarlaw5_SpanOrder.j1 k x0 x1 x3 bt243.1 bt243.2 true))) else (none)))) else (none))) else (none)) else (none))))
def rootcellarlaw5_SpanOrder.j1 : Nat → List (S32) → Int → Int → List (S32) → Int → Bool → Option (Bool)
  | 0, _, _, _, _, _, _ => none
  | k + 1, x0, x1, x3, x10, x11, x68 => if x68 = true then (some false) else (if 0 ≤ (mx 0 (mn x3 (wrap64 ((x0.length : Int) - 1)))) then (if (mx 0 (mn x3 (wrap64 ((x0.length : Int) - 1)))) < (x0.length : Int) then (if ((rd_T32 x0 (mx 0 (mn x3 (wrap64 ((x0.length : Int) - 1))))).f1) < 2 then (rootcellarlaw5_SpanOrder.j2 k x0 x1 x10 x11 (mx 0 (mn x3 (wrap64 ((x0.length : Int) - 1)))) true) else (rootcellarlaw5_SpanOrder.j2 k x0 x1 x10 x11 (mx 0 (mn x3 (wrap64 ((x0.length : Int) - 1)))) (x11 == 11))) else (none)) else (none))
def rootcellarlaw5_SpanOrder.j2 : Nat → List (S32) → Int → List (S32) → Int → Int → Bool → Option (Bool)
  | 0, _, _, _, _, _, _ => none
  | k + 1, x0, x1, x10, x11, x16, x84 => if x84 = true then (some true) else ((some (([] : List (S32)) : List (S32))).bind fun y270 => (if y270.length + x0.length < 8796093022208 then ((some (y270 ++ x0 : List (S32))).bind fun y273 => (if 0 ≤ x16 then (if x16 < (x0.length : Int) then (if x16 < (y273.length : Int) then ((some (y273.set (x16 : Int).toNat (⟨(rd_T32 y273 x16).f0, wrap64 (((rd_T32 x0 x16).f1) - 1)⟩ : S32) : List (S32))).bind fun y277 => (if y277.length < 8796093022208 then ((span_Norm.f (y277 ++ [(⟨wrap64 ((wrap64 (((rd_T32 x0 x16).f0) + ((rd_T32 x0 x16).f1))) - 1), 1⟩ : S32)]) x1).bind fun bt283 => (if bt283.2 = x11 then ((rootcellarlaw5_same.f k bt283.1 x10).bind fun t287 => (some t287)) else (some false))) else (none))) else (none)) else (none)) else (none))) else (none)))
end
def rootcellarlaw5_SpanOrder.f (k : Nat) (l0 : List (S32)) (a1 : Int) (a2 : Int) (a3 : Int) : Option (Bool) := (rootcellarlaw5_shown.f k).bind fun t242 => (if t242 = true then (if (l0.length : Int) > 40 then (rootcellarlaw5_SpanOrder.j0 k l0 a1 a2 a3 t242 true) else (rootcellarlaw5_SpanOrder.j0 k l0 a1 a2 a3 t242 ((l0.length : Int) == 0))) else (rootcellarlaw5_SpanOrder.j0 k l0 a1 a2 a3 t242 true))
theorem rootcellarlaw5_SpanOrder.mono_l : ∀ k, (∀ y0 y1 y2 y3 y4 y5, LeO (rootcellarlaw5_SpanOrder.j0 k y0 y1 y2 y3 y4 y5) (rootcellarlaw5_SpanOrder.j0 (k + 1) y0 y1 y2 y3 y4 y5)) ∧ (∀ y0 y1 y2 y3 y4 y5, LeO (rootcellarlaw5_SpanOrder.j1 k y0 y1 y2 y3 y4 y5) (rootcellarlaw5_SpanOrder.j1 (k + 1) y0 y1 y2 y3 y4 y5)) ∧ (∀ y0 y1 y2 y3 y4 y5, LeO (rootcellarlaw5_SpanOrder.j2 k y0 y1 y2 y3 y4 y5) (rootcellarlaw5_SpanOrder.j2 (k + 1) y0 y1 y2 y3 y4 y5))
  | 0 => ⟨fun _ _ _ _ _ _ r h => by simp [rootcellarlaw5_SpanOrder.j0] at h, fun _ _ _ _ _ _ r h => by simp [rootcellarlaw5_SpanOrder.j1] at h, fun _ _ _ _ _ _ r h => by simp [rootcellarlaw5_SpanOrder.j2] at h⟩
  | k + 1 => by
    obtain ⟨ih0, ih1, ih2⟩ := rootcellarlaw5_SpanOrder.mono_l k
    refine ⟨?_, ?_, ?_⟩
    · intro y0 y1 y2 y3 y4 y5
      unfold rootcellarlaw5_SpanOrder.j0
      repeat' first
      | (with_reducible exact ih0 _ _ _ _ _ _)
      | (with_reducible exact ih1 _ _ _ _ _ _)
      | (with_reducible exact ih2 _ _ _ _ _ _)
      | (with_reducible exact rootcellarlaw5_same.mono _ _ _)
      | (with_reducible exact rootcellarlaw5_shown.mono _)
      | (with_reducible exact LeO.refl _)
      | (with_reducible exact LeO.none _)
      | (with_reducible refine LeO.ite ?_ ?_)
      | (with_reducible refine LeO.bind ?_ (fun _ => ?_))
      | exact ih0 _ _ _ _ _ _
      | exact ih1 _ _ _ _ _ _
      | exact ih2 _ _ _ _ _ _
      | exact rootcellarlaw5_same.mono _ _ _
      | exact rootcellarlaw5_shown.mono _
      | exact LeO.none _
      | refine LeO.ite ?_ ?_
      | refine LeO.bind ?_ (fun _ => ?_)
    · intro y0 y1 y2 y3 y4 y5
      unfold rootcellarlaw5_SpanOrder.j1
      repeat' first
      | (with_reducible exact ih0 _ _ _ _ _ _)
      | (with_reducible exact ih1 _ _ _ _ _ _)
      | (with_reducible exact ih2 _ _ _ _ _ _)
      | (with_reducible exact rootcellarlaw5_same.mono _ _ _)
      | (with_reducible exact rootcellarlaw5_shown.mono _)
      | (with_reducible exact LeO.refl _)
      | (with_reducible exact LeO.none _)
      | (with_reducible refine LeO.ite ?_ ?_)
      | (with_reducible refine LeO.bind ?_ (fun _ => ?_))
      | exact ih0 _ _ _ _ _ _
      | exact ih1 _ _ _ _ _ _
      | exact ih2 _ _ _ _ _ _
      | exact rootcellarlaw5_same.mono _ _ _
      | exact rootcellarlaw5_shown.mono _
      | exact LeO.none _
      | refine LeO.ite ?_ ?_
      | refine LeO.bind ?_ (fun _ => ?_)
    · intro y0 y1 y2 y3 y4 y5
      unfold rootcellarlaw5_SpanOrder.j2
      repeat' first
      | (with_reducible exact ih0 _ _ _ _ _ _)
      | (with_reducible exact ih1 _ _ _ _ _ _)
      | (with_reducible exact ih2 _ _ _ _ _ _)
      | (with_reducible exact rootcellarlaw5_same.mono _ _ _)
      | (with_reducible exact rootcellarlaw5_shown.mono _)
      | (with_reducible exact LeO.refl _)
      | (with_reducible exact LeO.none _)
      | (with_reducible refine LeO.ite ?_ ?_)
      | (with_reducible refine LeO.bind ?_ (fun _ => ?_))
      | exact ih0 _ _ _ _ _ _
      | exact ih1 _ _ _ _ _ _
      | exact ih2 _ _ _ _ _ _
      | exact rootcellarlaw5_same.mono _ _ _
      | exact rootcellarlaw5_shown.mono _
      | exact LeO.none _
      | refine LeO.ite ?_ ?_
      | refine LeO.bind ?_ (fun _ => ?_)
theorem rootcellarlaw5_SpanOrder.mono : ∀ a0 a1 a2 a3 k, LeO (rootcellarlaw5_SpanOrder.f k a0 a1 a2 a3) (rootcellarlaw5_SpanOrder.f (k + 1) a0 a1 a2 a3) := by
  intro a0 a1 a2 a3 k
  obtain ⟨ih0, ih1, ih2⟩ := rootcellarlaw5_SpanOrder.mono_l k
  unfold rootcellarlaw5_SpanOrder.f
  repeat' first
      | (with_reducible exact ih0 _ _ _ _ _ _)
      | (with_reducible exact ih1 _ _ _ _ _ _)
      | (with_reducible exact ih2 _ _ _ _ _ _)
      | (with_reducible exact rootcellarlaw5_same.mono _ _ _)
      | (with_reducible exact rootcellarlaw5_shown.mono _)
      | (with_reducible exact LeO.refl _)
      | (with_reducible exact LeO.none _)
      | (with_reducible refine LeO.ite ?_ ?_)
      | (with_reducible refine LeO.bind ?_ (fun _ => ?_))
      | exact ih0 _ _ _ _ _ _
      | exact ih1 _ _ _ _ _ _
      | exact ih2 _ _ _ _ _ _
      | exact rootcellarlaw5_same.mono _ _ _
      | exact rootcellarlaw5_shown.mono _
      | exact LeO.none _
      | refine LeO.ite ?_ ?_
      | refine LeO.bind ?_ (fun _ => ?_)
def rootcellarlaw5_SpanOrder.T6 : Bool × List (List Nat × List Nat) := (true, [([], []), ([], []), ([], []), ([1, 2], [1, 2]), ([0, 3], [0, 3]), ([], []), ([], []), ([5, 6], [5, 6]), ([4, 7, 4], [4, 7]), ([8, 8, 0, 1, 2, 3, 4, 5, 6, 7, 8], [8])])
def rootcellarlaw5_SpanOrder.B6 : List Nat := [0, 0, 0, 6, 15, 0, 0, 96, 255, 511]
theorem rootcellarlaw5_SpanOrder.tab6 : rtab .any (opsOf Try.f4 6) = rootcellarlaw5_SpanOrder.T6 := by kernel_rfl
theorem rootcellarlaw5_SpanOrder.bits6 : waitsOk rootcellarlaw5_SpanOrder.T6.2 rootcellarlaw5_SpanOrder.B6 = true := by kernel_rfl
def rootcellarlaw5_SpanOrder.T15 : Bool × List (List Nat × List Nat) := (true, [([], []), ([], []), ([], []), ([1, 2], [1, 2]), ([3], [3]), ([4], [4]), ([], []), ([], []), ([6, 7], [6, 7]), ([8], [8]), ([9], [9]), ([5, 10], [5, 10]), ([11], [11]), ([12], [12]), ([13], [13]), ([0, 14], [0, 14]), ([15, 15, 0, 1, 2, 3, 4, 5, 6, 7, 8, 9, 10, 11, 12, 13, 14, 15], [0, 15])])
def rootcellarlaw5_SpanOrder.B15 : List Nat := [0, 0, 0, 6, 14, 30, 0, 0, 192, 448, 960, 2046, 4094, 8190, 16382, 32767, 65535]
theorem rootcellarlaw5_SpanOrder.tab15 : rtab .any (opsOf Try.f4 15) = rootcellarlaw5_SpanOrder.T15 := by kernel_rfl
theorem rootcellarlaw5_SpanOrder.bits15 : waitsOk rootcellarlaw5_SpanOrder.T15.2 rootcellarlaw5_SpanOrder.B15 = true := by kernel_rfl
set_option maxHeartbeats 8000000 in
set_option maxRecDepth 100000 in
theorem rootcellarlaw5_SpanOrder.calls (k : Nat) (A0 : Option Addr) (c0 : Nat) (l0 : List (S32)) (a1 : Int) (a2 : Int) (a3 : Int) (r : Bool) (w : World) (hr0 : Kd.C k32 w A0 l0.length l0) (hc0 : l0.length ≤ c0) (h : rootcellarlaw5_SpanOrder.f k l0 a1 a2 a3 = some r) :
    Calls Try.prog 4 #[.slice A0 l0.length c0, .int .i64 a1, .int .i64 a2, .int .i64 a3] w fun e w' => e = .returned (.bool r) ∧ Below w.heap.size w w' := by
  have hu32 := Try.underlying32
  have HR0 := Aside0.mk hr0
  have HC0 := Aside0.mk hc0
  clear hr0 hc0
  have HB := Aside0.mk (Below.refl w.heap.size w)
  have H : ((rootcellarlaw5_shown.f k).bind fun t242 => (if t242 = true then (if (l0.length : Int) > 40 then (rootcellarlaw5_SpanOrder.j0 k l0 a1 a2 a3 t242 true) else (rootcellarlaw5_SpanOrder.j0 k l0 a1 a2 a3 t242 ((l0.length : Int) == 0))) else (rootcellarlaw5_SpanOrder.j0 k l0 a1 a2 a3 t242 true))) = some r := h
  clear h
  replace H := Option.bind_eq_some_iff.mp H
  obtain ⟨t242, A50, H⟩ := H
  replace H : (if t242 = true then (if (l0.length : Int) > 40 then (rootcellarlaw5_SpanOrder.j0 k l0 a1 a2 a3 t242 true) else (rootcellarlaw5_SpanOrder.j0 k l0 a1 a2 a3 t242 ((l0.length : Int) == 0))) else (rootcellarlaw5_SpanOrder.j0 k l0 a1 a2 a3 t242 true)) = some r := H
  have A5 := Aside0.mk A50
  clear A50
  have HC6 := Aside0.mk H
  clear H
  go_enter Try.func4, Try.ntmps4
  go_upto_region 2 with (first | ((with_reducible refine gate_callee (f := 9) rfl ?_); refine goesL_ (some 20) rfl rfl Try.func9 (by kernel_rfl) rfl #[] rfl (by (try simp only [List.map_toArray, List.map_cons, List.map_nil]); first | done | rfl | (simp only [List.length_drop, List.length_take]; rfl)) ?_; (with_reducible refine (rootcellarlaw5_shown.calls k  t242 _ A5.out).mono ?_); rintro e w7 ⟨rfl, hb⟩; refine ⟨_, rfl, ?_⟩; have n0_ := Aside0.mk (below_step (by repeat (first | (with_reducible first | exact HB.out | apply below_alloc | apply pw_below_drewN | apply below_drew1) | exact HB.out)) hb); clear HB; have HB := n0_; clear n0_; (try clear hb); (try clear hb2); (try clear hk); (try clear hi)))
  (try simp only [Act.put, List.setIfInBounds_toArray, List.set_cons_zero, List.set_cons_succ])
  go_cut [32] (fun v32 wc => ∃ (kq : Nat) (x32_5 : Bool), v32 = .bool x32_5 ∧ Aside0 (rootcellarlaw5_SpanOrder.j0 kq l0 a1 a2 a3 t242 x32_5 = some r) ∧ Aside0 (kq ≤ k) ∧ Aside0 (Below w.heap.size w wc))
  case first =>
    have H := HC6.out
    clear HC6
    by_cases c8 : t242 = true
    · subst c8
      have H1 : (if (l0.length : Int) > 40 then (rootcellarlaw5_SpanOrder.j0 k l0 a1 a2 a3 true true) else (rootcellarlaw5_SpanOrder.j0 k l0 a1 a2 a3 true ((l0.length : Int) == 0))) = some r := by rw [if_pos rfl] at H; exact H
      clear H
      have H := H1
      clear H1
      by_cases c9 : (l0.length : Int) > 40
      · rw [if_pos c9] at H
        have c9b0 : decide (40 < (l0.length : Int)) = true := decide_eq_true c9
        have c9b1 : decide (40 < l0.length) = true := decide_eq_true (by omega)
        clear c9
        (first | rw [c9b0] | (simp only [i64_w, i32_w]; rw [c9b0]) | skip)
        have H' := Aside0.mk H
        clear H
        go_wp2
        go_meet
        case rel => exact ⟨_, (true), (by first | rfl | (simp; done) | (simp [*]; done)), H', ⟨by first | omega | exact Nat.le_refl _⟩, ⟨by repeat (first | (with_reducible first | exact HB.out | apply below_alloc | apply pw_below_drewN | apply below_drew1) | exact HB.out)⟩⟩
      · rw [if_neg c9] at H
        have c9b0 : decide (40 < (l0.length : Int)) = false := decide_eq_false c9
        have c9b1 : decide (40 < l0.length) = false := decide_eq_false (by omega)
        clear c9
        (first | rw [c9b0] | (simp only [i64_w, i32_w]; rw [c9b0]) | skip)
        have H' := Aside0.mk H
        clear H
        go_wp2
        go_meet
        case rel => exact ⟨_, (((l0.length : Int) == 0)), (by first | rfl | (simp; done) | (simp [*]; done)), H', ⟨by first | omega | exact Nat.le_refl _⟩, ⟨by repeat (first | (with_reducible first | exact HB.out | apply below_alloc | apply pw_below_drewN | apply below_drew1) | exact HB.out)⟩⟩
    · replace c8 := Bool.eq_false_iff.mpr c8
      subst c8
      have H1 : (rootcellarlaw5_SpanOrder.j0 k l0 a1 a2 a3 false true) = some r := by rw [if_neg (show ¬ (false = true) by decide)] at H; exact H
      clear H
      have H := H1
      clear H1
      have H' := Aside0.mk H
      clear H
      go_wp2
      go_meet
      case rel => exact ⟨_, (true), (by first | rfl | (simp; done) | (simp [*]; done)), H', ⟨by first | omega | exact Nat.le_refl _⟩, ⟨by repeat (first | (with_reducible first | exact HB.out | apply below_alloc | apply pw_below_drewN | apply below_drew1) | exact HB.out)⟩⟩
  case rest =>
    clear HC6
    try clear p2
    try clear c4
    try clear c8
    try clear c9
    try clear c9b0
    try clear c9b1
    obtain ⟨kq, x32_5, rfl, HA, HJ5, HB⟩ := hcut
    cases kq with
    | zero => exact absurd HA.out (by simp [rootcellarlaw5_SpanOrder.j0])
    | succ kj5 =>
      have H := HA.out
      clear HA
      simp only [rootcellarlaw5_SpanOrder.j0] at H
      by_cases c10 : x32_5 = true
      · subst c10
        have H1 : (some t242) = some r := by rw [if_pos rfl] at H; exact H
        clear H
        have H := H1
        clear H1
        obtain rfl := Option.some.inj H
        go_wp2
        go_ret
        exact ⟨by first | rfl | (simp [errW_none, errW_some] <;> rfl) | (simp [*, errW_none, errW_some] <;> rfl), by repeat (first | (with_reducible first | exact HB.out | apply below_alloc | apply pw_below_drewN | apply below_drew1) | exact HB.out)⟩
      · replace c10 := Bool.eq_false_iff.mpr c10
        subst c10
        have H1 : ((span_Norm.f l0 a1).bind fun bt243 => ((some (([] : List (S32)) : List (S32))).bind fun y247 => (if 0 ≤ (mx 0 (mn a2 (l0.length : Int))) then (if (mx 0 (mn a2 (l0.length : Int))) ≤ (l0.length : Int) then ((some (l0.drop ((mx 0 (mn a2 (l0.length : Int))) : Int).toNat : List (S32))).bind fun y250 => (if y247.length + y250.length < 8796093022208 then ((some (y247 ++ y250 : List (S32))).bind fun y254 => ((some (l0.take ((mx 0 (mn a2 (l0.length : Int))) : Int).toNat : List (S32))).bind fun y257 => (if y254.length + y257.length < 8796093022208 then ((span_Norm.f (y254 ++ y257) a1).bind fun bt264 => (if bt243.2 = bt264.2 then ((rootcellarlaw5_same.f kj5 bt243.1 bt264.1).bind fun t268 => (rootcellarlaw5_SpanOrder.j1 kj5 l0 a1 a3 bt243.1 bt243.2 (!t268))) else (rootcellarlaw5_SpanOrder.j1 kj5 l0 a1 a3 bt243.1 bt243.2 true))) else (none)))) else (none))) else (none)) else (none)))) = some r := by rw [if_neg (show ¬ (false = true) by decide)] at H; exact H
        clear H
        have H := H1
        clear H1
        replace H := Option.bind_eq_some_iff.mp H
        obtain ⟨⟨t243, t244⟩, A110, H⟩ := H
        replace H : ((some (([] : List (S32)) : List (S32))).bind fun y247 => (if 0 ≤ (mx 0 (mn a2 (l0.length : Int))) then (if (mx 0 (mn a2 (l0.length : Int))) ≤ (l0.length : Int) then ((some (l0.drop ((mx 0 (mn a2 (l0.length : Int))) : Int).toNat : List (S32))).bind fun y250 => (if y247.length + y250.length < 8796093022208 then ((some (y247 ++ y250 : List (S32))).bind fun y254 => ((some (l0.take ((mx 0 (mn a2 (l0.length : Int))) : Int).toNat : List (S32))).bind fun y257 => (if y254.length + y257.length < 8796093022208 then ((span_Norm.f (y254 ++ y257) a1).bind fun bt264 => (if t244 = bt264.2 then ((rootcellarlaw5_same.f kj5 t243 bt264.1).bind fun t268 => (rootcellarlaw5_SpanOrder.j1 kj5 l0 a1 a3 t243 t244 (!t268))) else (rootcellarlaw5_SpanOrder.j1 kj5 l0 a1 a3 t243 t244 true))) else (none)))) else (none))) else (none)) else (none))) = some r := H
        have A11 := Aside0.mk A110
        clear A110
        obtain ⟨ji12, hji12⟩ : ∃ j_ : Int, (mn a2 (l0.length : Int)) = j_ := ⟨_, rfl⟩
        replace H : ((some (([] : List (S32)) : List (S32))).bind fun y247 => (if 0 ≤ (mx 0 (ji12)) then (if (mx 0 (ji12)) ≤ (l0.length : Int) then ((some (l0.drop ((mx 0 (ji12)) : Int).toNat : List (S32))).bind fun y250 => (if y247.length + y250.length < 8796093022208 then ((some (y247 ++ y250 : List (S32))).bind fun y254 => ((some (l0.take ((mx 0 (ji12)) : Int).toNat : List (S32))).bind fun y257 => (if y254.length + y257.length < 8796093022208 then ((span_Norm.f (y254 ++ y257) a1).bind fun bt264 => (if t244 = bt264.2 then ((rootcellarlaw5_same.f kj5 t243 bt264.1).bind fun t268 => (rootcellarlaw5_SpanOrder.j1 kj5 l0 a1 a3 t243 t244 (!t268))) else (rootcellarlaw5_SpanOrder.j1 kj5 l0 a1 a3 t243 t244 true))) else (none)))) else (none))) else (none)) else (none))) = some r := by first | (rw [hji12] at H; exact H) | (simp only [hji12] at H ⊢; exact H)
        (try rw [hji12] at A11)
        have hji12_ : (if (l0.length : Int) < a2 then (l0.length : Int) else a2) = ji12 := hji12
        obtain ⟨ji13, hji13⟩ : ∃ j_ : Int, (mx 0 (ji12)) = j_ := ⟨_, rfl⟩
        replace H : ((some (([] : List (S32)) : List (S32))).bind fun y247 => (if 0 ≤ (ji13) then (if (ji13) ≤ (l0.length : Int) then ((some (l0.drop ((ji13) : Int).toNat : List (S32))).bind fun y250 => (if y247.length + y250.length < 8796093022208 then ((some (y247 ++ y250 : List (S32))).bind fun y254 => ((some (l0.take ((ji13) : Int).toNat : List (S32))).bind fun y257 => (if y254.length + y257.length < 8796093022208 then ((span_Norm.f (y254 ++ y257) a1).bind fun bt264 => (if t244 = bt264.2 then ((rootcellarlaw5_same.f kj5 t243 bt264.1).bind fun t268 => (rootcellarlaw5_SpanOrder.j1 kj5 l0 a1 a3 t243 t244 (!t268))) else (rootcellarlaw5_SpanOrder.j1 kj5 l0 a1 a3 t243 t244 true))) else (none)))) else (none))) else (none)) else (none))) = some r := by first | (rw [hji13] at H; exact H) | (simp only [hji13] at H ⊢; exact H)
        (try rw [hji13] at A11)
        have hji13_ : (if 0 < (ji12) then (ji12) else 0) = ji13 := hji13
        obtain ⟨y247, hy247⟩ : ∃ y_ : List (S32), y_ = (([] : List (S32))) := ⟨_, rfl⟩
        replace H : (if 0 ≤ (ji13) then (if (ji13) ≤ (l0.length : Int) then ((some (l0.drop ((ji13) : Int).toNat : List (S32))).bind fun y250 => (if y247.length + y250.length < 8796093022208 then ((some (y247 ++ y250 : List (S32))).bind fun y254 => ((some (l0.take ((ji13) : Int).toNat : List (S32))).bind fun y257 => (if y254.length + y257.length < 8796093022208 then ((span_Norm.f (y254 ++ y257) a1).bind fun bt264 => (if t244 = bt264.2 then ((rootcellarlaw5_same.f kj5 t243 bt264.1).bind fun t268 => (rootcellarlaw5_SpanOrder.j1 kj5 l0 a1 a3 t243 t244 (!t268))) else (rootcellarlaw5_SpanOrder.j1 kj5 l0 a1 a3 t243 t244 true))) else (none)))) else (none))) else (none)) else (none)) = some r := by first | (rw [hy247]; with_reducible exact H) | (have H2_ := (Option.bind_some _ _).symm.trans H; rw [hy247]; with_reducible exact H2_) | (have H2_ := (Option.bind_some _ _).symm.trans H; with_reducible exact H2_) | with_reducible exact H | (rw [hy247]; exact H) | exact H
        have Ny247 := Aside0.mk hy247
        clear hy247
        by_cases c14 : 0 ≤ (ji13)
        · rw [if_pos c14] at H
          have c14b0 := eq_true c14
          have c14b1 : decide (0 ≤ (ji13)) = true := decide_eq_true c14
          clear c14
          by_cases c15 : (ji13) ≤ (l0.length : Int)
          · rw [if_pos c15] at H
            have c15b0 := eq_true c15
            have c15b1 : decide ((ji13) ≤ (l0.length : Int)) = true := decide_eq_true c15
            clear c15
            obtain ⟨y250, hy250⟩ : ∃ y_ : List (S32), y_ = (l0.drop ((ji13) : Int).toNat) := ⟨_, rfl⟩
            replace H : (if y247.length + y250.length < 8796093022208 then ((some (y247 ++ y250 : List (S32))).bind fun y254 => ((some (l0.take ((ji13) : Int).toNat : List (S32))).bind fun y257 => (if y254.length + y257.length < 8796093022208 then ((span_Norm.f (y254 ++ y257) a1).bind fun bt264 => (if t244 = bt264.2 then ((rootcellarlaw5_same.f kj5 t243 bt264.1).bind fun t268 => (rootcellarlaw5_SpanOrder.j1 kj5 l0 a1 a3 t243 t244 (!t268))) else (rootcellarlaw5_SpanOrder.j1 kj5 l0 a1 a3 t243 t244 true))) else (none)))) else (none)) = some r := by first | (rw [hy250]; with_reducible exact H) | (have H2_ := (Option.bind_some _ _).symm.trans H; rw [hy250]; with_reducible exact H2_) | (have H2_ := (Option.bind_some _ _).symm.trans H; with_reducible exact H2_) | with_reducible exact H | (rw [hy250]; exact H) | exact H
            have Ny250 := Aside0.mk hy250
            clear hy250
            by_cases c16 : y247.length + y250.length < 8796093022208
            · rw [if_pos c16] at H
              have LMc16 := Aside0.mk c16
              clear c16
              obtain ⟨y254, hy254⟩ : ∃ y_ : List (S32), y_ = (y247 ++ y250) := ⟨_, rfl⟩
              replace H : ((some (l0.take ((ji13) : Int).toNat : List (S32))).bind fun y257 => (if y254.length + y257.length < 8796093022208 then ((span_Norm.f (y254 ++ y257) a1).bind fun bt264 => (if t244 = bt264.2 then ((rootcellarlaw5_same.f kj5 t243 bt264.1).bind fun t268 => (rootcellarlaw5_SpanOrder.j1 kj5 l0 a1 a3 t243 t244 (!t268))) else (rootcellarlaw5_SpanOrder.j1 kj5 l0 a1 a3 t243 t244 true))) else (none))) = some r := by first | (rw [hy254]; with_reducible exact H) | (have H2_ := (Option.bind_some _ _).symm.trans H; rw [hy254]; with_reducible exact H2_) | (have H2_ := (Option.bind_some _ _).symm.trans H; with_reducible exact H2_) | with_reducible exact H | (rw [hy254]; exact H) | exact H
              have Ny254 := Aside0.mk hy254
              clear hy254
              have c17b0 := eq_true (of_decide_eq_true (by first | (with_reducible assumption) | assumption) : 0 ≤ (ji13))
              have c18b0 := eq_true (of_decide_eq_true (by first | (with_reducible assumption) | assumption) : (ji13) ≤ (l0.length : Int))
              obtain ⟨y257, hy257⟩ : ∃ y_ : List (S32), y_ = (l0.take ((ji13) : Int).toNat) := ⟨_, rfl⟩
              replace H : (if y254.length + y257.length < 8796093022208 then ((span_Norm.f (y254 ++ y257) a1).bind fun bt264 => (if t244 = bt264.2 then ((rootcellarlaw5_same.f kj5 t243 bt264.1).bind fun t268 => (rootcellarlaw5_SpanOrder.j1 kj5 l0 a1 a3 t243 t244 (!t268))) else (rootcellarlaw5_SpanOrder.j1 kj5 l0 a1 a3 t243 t244 true))) else (none)) = some r := by first | (rw [hy257]; with_reducible exact H) | (have H2_ := (Option.bind_some _ _).symm.trans H; rw [hy257]; with_reducible exact H2_) | (have H2_ := (Option.bind_some _ _).symm.trans H; with_reducible exact H2_) | with_reducible exact H | (rw [hy257]; exact H) | exact H
              have Ny257 := Aside0.mk hy257
              clear hy257
              by_cases c19 : y254.length + y257.length < 8796093022208
              · rw [if_pos c19] at H
                have LMc19 := Aside0.mk c19
                clear c19
                obtain ⟨y261, hy261⟩ : ∃ y_ : List (S32), y_ = (y254 ++ y257) := ⟨_, rfl⟩
                replace H : ((span_Norm.f y261 a1).bind fun bt264 => (if t244 = bt264.2 then ((rootcellarlaw5_same.f kj5 t243 bt264.1).bind fun t268 => (rootcellarlaw5_SpanOrder.j1 kj5 l0 a1 a3 t243 t244 (!t268))) else (rootcellarlaw5_SpanOrder.j1 kj5 l0 a1 a3 t243 t244 true))) = some r := by first | (rw [hy261]; with_reducible exact H) | (have H2_ := (Option.bind_some _ _).symm.trans H; rw [hy261]; with_reducible exact H2_) | (have H2_ := (Option.bind_some _ _).symm.trans H; with_reducible exact H2_) | with_reducible exact H | (rw [hy261]; exact H) | exact H
                have Ny261 := Aside0.mk hy261
                clear hy261
                replace H := Option.bind_eq_some_iff.mp H
                obtain ⟨⟨t264, t265⟩, A200, H⟩ := H
                replace H : (if t244 = t265 then ((rootcellarlaw5_same.f kj5 t243 t264).bind fun t268 => (rootcellarlaw5_SpanOrder.j1 kj5 l0 a1 a3 t243 t244 (!t268))) else (rootcellarlaw5_SpanOrder.j1 kj5 l0 a1 a3 t243 t244 true)) = some r := H
                have A20 := Aside0.mk A200
                clear A200
                have HC21 := Aside0.mk H
                clear H
                try go_wp2_with (first | ((with_reducible refine gate_callee (f := 10) rfl ?_); refine goesL_ (some 37) rfl rfl Try.func10 (by kernel_rfl) rfl #[.slice A0 l0.length c0, .int .i64 a1] rfl (by (try simp only [List.map_toArray, List.map_cons, List.map_nil]); first | done | rfl | (simp only [List.length_drop, List.length_take]; rfl)) ?_; (with_reducible refine (span_Norm.calls _ _ l0 a1 t243 t244 _ ?side1 ?side2 A11.out).mono ?_); (case side1 => repeat (first | exact (Kd.C_below HR0.out HB.out) | (with_reducible refine Kd.C_alloc ?_ _) | (with_reducible refine Kd.C_drewN ?_ _) | (with_reducible refine Kd.C_drew ?_))); (case side2 => exact HC0.out); rintro e w22 ⟨v245, rfl, ho0, hb⟩; refine ⟨_, rfl, ?_⟩; have n0_ := Aside0.mk (Kd.R_lower ho0 (below_size (by repeat (first | (with_reducible first | exact HB.out | apply below_alloc | apply pw_below_drewN | apply below_drew1) | exact HB.out)))); have n1_ := Aside0.mk (below_step (by repeat (first | (with_reducible first | exact HB.out | apply below_alloc | apply pw_below_drewN | apply below_drew1) | exact HB.out)) hb); clear HB; have HO246 := n0_; have HB := n1_; clear n0_ n1_; (try clear hb); (try clear hb2); (try clear hk); (try clear hi); (try clear ho0)))
                have n0_ := Aside0.mk (Kd.R_drew HO246.out)
                have n1_ := Aside0.mk (below_drew1 HB.out)
                clear HO246
                clear HB
                have HO246 := n0_
                have HB := n1_
                clear n0_ n1_
                have q24 : ((ji13) : Int) ≤ ((l0.length : Int) : Int) := of_decide_eq_true (by first | (with_reducible assumption) | assumption)
                obtain ⟨i024, hi024, _, hsz24, _⟩ := info_parts info32
                have hroom24 : l0.length ≤ c0 := HC0.out
                have hC24 : Kd.C k32 _ A0 l0.length l0 := HR0.out
                have q024 : (0 : Int) ≤ ((ji13) : Int) := of_decide_eq_true (by first | (with_reducible assumption) | assumption)
                have hcut24 := cut_from (P := Try.prog) 22 32 .i64 Try.underlying22 hi024 2 hsz24 A0 l0.length c0 (ji13) q024 q24
                have hr24 := Kd.C_drop (m := ((ji13) : Int).toNat) (c := c0) hC24 (by omega) hroom24
                obtain ⟨A24, hA24⟩ : ∃ A1, A1 = (if c0 = ((ji13) : Int).toNat then A0 else (A0 : Option Addr).map (·.add (((ji13) : Int).toNat * 2))) := ⟨_, rfl⟩
                obtain ⟨c24, hc24⟩ : ∃ c1, c1 = c0 - ((ji13) : Int).toNat := ⟨_, rfl⟩
                have hy24 : y250.length = l0.length - ((ji13) : Int).toNat := (by rw [Ny250.out, List.length_drop] <;> omega)
                rw [show (l0).drop ((ji13) : Int).toNat = y250 from Ny250.out.symm] at hr24
                replace hr24 : Kd.C k32 _ A24 y250.length y250 := (by rw [hA24]; exact hr24)
                rw [← hy24, ← hA24, ← hc24] at hcut24
                have HR253 := Aside0.mk hr24
                have HC253 := Aside0.mk (show y250.length ≤ c24 from by rw [hy24, hc24]; exact Nat.sub_le_sub_right hroom24 _)
                clear hr24 hC24 hroom24 hi024 hsz24 hc24
                have KY24 := Aside0.mk hy24
                have KA24 := Aside0.mk hA24
                clear hy24 hA24
                replace q24 := eq_true q24
                have q25 : ((ji13) : Int) ≤ ((l0.length : Int) : Int) := of_decide_eq_true (by first | (with_reducible assumption) | assumption)
                obtain ⟨i025, hi025, _, hsz25, _⟩ := info_parts info32
                have hroom25 : l0.length ≤ c0 := HC0.out
                have hC25 : Kd.C k32 _ A0 l0.length l0 := HR0.out
                have hcut25 := cut_to (P := Try.prog) 22 32 .i64 Try.underlying22 hi025 A0 l0.length c0 (ji13) (of_decide_eq_true (by first | (with_reducible assumption) | assumption)) q25 hroom25
                have hr25 := Kd.C_take (m := ((ji13) : Int).toNat) hC25 (by omega)
                have hy25 : y257.length = ((ji13) : Int).toNat := (by rw [Ny257.out, List.length_take]; omega)
                rw [← Ny257.out] at hr25
                rw [← hy25] at hcut25
                have HR260 := Aside0.mk hr25
                have HC260 := Aside0.mk (show y257.length ≤ c0 from by omega)
                clear hr25 hC25 hroom25 hi025 hsz25
                have KY25 := Aside0.mk hy25
                clear hy25
                replace q25 := eq_true q25
                refine start_ (n := 10) (S := fun w' => True) (ds := []) #[false, false, false, false, false, false, false, false, false, false] (by kernel_rfl) rfl rfl trivial (fun hHeld => ?_); refine with_tabW rootcellarlaw5_SpanOrder.tab6 rootcellarlaw5_SpanOrder.bits6 (fun HT_ HW_ => ?_)
                generalize w22.drew = w23 at HO246 HB HR253 HR260 hHeld ⊢
                refine pure_ (i := 1) (N := some 46) (v := ?_) (a' := ?_) #[false, true, false, false, false, false, false, false, false, false] rfl rfl (any_of HT_.out (by kernel_rfl)) (fun _ _ _ h => h) (Or.inl ⟨by rfl, ?_⟩) ?_ ?_
                rotate_left
                · intro w'
                  go_simp
                  with_reducible rfl
                rotate_left
                · simp only [Act.put, List.setIfInBounds_toArray, List.set_cons_zero, List.set_cons_succ, i64_w, i32_w]
                  rfl
                refine pure_ (i := 2) (N := some 47) (v := ?_) (a' := ?_) #[false, true, true, false, false, false, false, false, false, false] rfl rfl (any_of HT_.out (by kernel_rfl)) (fun _ _ _ h => h) (Or.inl ⟨by rfl, ?_⟩) ?_ ?_
                rotate_left
                · intro w'
                  go_simp
                  with_reducible rfl
                rotate_left
                · simp only [Act.put, List.setIfInBounds_toArray, List.set_cons_zero, List.set_cons_succ, i64_w, i32_w]
                  rfl
                refine pure_ (i := 3) (N := some 48) (v := ?_) (a' := ?_) #[false, true, true, true, false, false, false, false, false, false] rfl rfl (any_of HT_.out (by kernel_rfl)) (fun _ _ _ h => h) (Or.inl ⟨by rfl, ?_⟩) ?_ ?_
                rotate_left
                · intro w'
                  go_simp
                  with_reducible rfl
                rotate_left
                · simp only [Act.put, List.setIfInBounds_toArray, List.set_cons_zero, List.set_cons_succ, i64_w, i32_w]
                  rfl
                refine pure_ (i := 5) (N := some 50) (v := ?_) (a' := ?_) #[false, true, true, true, false, true, false, false, false, false] rfl rfl (any_of HT_.out (by kernel_rfl)) (fun _ _ _ h => h) (Or.inl ⟨by rfl, ?_⟩) ?_ ?_
                rotate_left
                · intro w'
                  go_simp
                  with_reducible rfl
                rotate_left
                · simp only [Act.put, List.setIfInBounds_toArray, List.set_cons_zero, List.set_cons_succ, i64_w, i32_w]
                  rfl
                refine pure_ (i := 6) (N := some 51) (v := ?_) (a' := ?_) #[false, true, true, true, false, true, true, false, false, false] rfl rfl (any_of HT_.out (by kernel_rfl)) (fun _ _ _ h => h) (Or.inl ⟨by rfl, ?_⟩) ?_ ?_
                rotate_left
                · intro w'
                  go_simp
                  with_reducible rfl
                rotate_left
                · simp only [Act.put, List.setIfInBounds_toArray, List.set_cons_zero, List.set_cons_succ, i64_w, i32_w]
                  rfl
                refine pure_ (i := 7) (N := some 52) (v := ?_) (a' := ?_) #[false, true, true, true, false, true, true, true, false, false] rfl rfl (any_of HT_.out (by kernel_rfl)) (fun _ _ _ h => h) (Or.inl ⟨by rfl, ?_⟩) ?_ ?_
                rotate_left
                · intro w'
                  go_simp
                  with_reducible rfl
                rotate_left
                · simp only [Act.put, List.setIfInBounds_toArray, List.set_cons_zero, List.set_cons_succ, i64_w, i32_w]
                  rfl
                refine one_ (i := 0) (N := some 45) #[true, true, true, true, false, true, true, true, false, false] rfl rfl (one_of HT_.out (by kernel_rfl)) (by decide) (fun K hK => ?_)
                refine Kd.R_lit_step k32 _ 32 ?hg (N := 45) ?hd (xs := ([] : List (S32))) (inner := []) (ok := fun _ => True) (okp := fun _ => True) ?hr ?hp (fun _ hk => hk) trivial (Below.refl _ _) (Nat.le_refl _) (by simp) ?_; (case hd => rfl); (case hg => rfl); (case hr => first | (go_simp; done) | (go_simp; rfl)); (case hp => exact (Reps.none _ _))
                intro v248 w26 ho27 hb hg_ hnew_
                clear hg_ hnew_
                (first | rw [← Ny247.out] at ho27 | (simp only [Int.reduceToNat] at ho27; rw [← Ny247.out] at ho27))
                have n0_ := Aside0.mk (Kd.R_elder' (by (with_reducible repeat (first | apply Kd.R_alloc | apply Kd.R_drewN | apply Kd.R_drew)); exact HO246.out) (Kd.R_base ho27) hb)
                have n1_ := Aside0.mk (Kd.R_lower (Kd.R_new' ho27 (Kd.R_lt (by (with_reducible repeat (first | apply Kd.R_alloc | apply Kd.R_drewN | apply Kd.R_drew)); exact HO246.out))) (below_size (by repeat (first | (with_reducible first | exact HB.out | apply below_alloc | apply pw_below_drewN | apply below_drew1) | exact HB.out))))
                have n2_ := Aside0.mk (below_step (by repeat (first | (with_reducible first | exact HB.out | apply below_alloc | apply pw_below_drewN | apply below_drew1) | exact HB.out)) hb)
                clear HO246
                clear HB
                have HO246 := n0_
                have HO249 := n1_
                have HB := n2_
                clear n0_ n1_ n2_
                clear hb ho27
                refine hK.out _ _ trivial (fun hHeld => ?_)
                clear hK K
                refine norm_ (a' := ?_) ?_ ?_
                rotate_left
                · show Act.put _ (some 45) _ = _
                  simp only [Act.put, List.setIfInBounds_toArray, List.set_cons_zero, List.set_cons_succ, i64_w, i32_w]
                  rfl
                refine one_ (i := 4) (N := some 49) #[true, true, true, true, true, true, true, true, false, false] rfl rfl (one_of HT_.out (by kernel_rfl)) (by decide) (fun K hK => ?_)
                refine Kd.R_append_rows_step k32 (w0 := w) w.heap.size (by rfl) (.tmp 45) (.tmp 48) 22 32 (.agg #[(.int .i64 0), (.int .i64 0)]) 16 rfl Try.underlying22 info32 rfl (by decide) (by omega) v248 y247 y250 _ _ _ (fun k_ => some k_ ≠ (v245 : Value).ownBlock) (fun _ => False) rfl rfl ?aO ?aR (fun _ _ h => h) (fun _ h => h.elim) ?aF ?aB ?aS ?aL ?_
                (case aR => repeat (first | exact (Kd.C_below HR253.out HB.out) | (with_reducible refine Kd.C_alloc ?_ _) | (with_reducible refine Kd.C_drewN ?_ _) | (with_reducible refine Kd.C_drew ?_)))
                (case aB => exact (by repeat (first | (with_reducible first | exact HB.out | apply below_alloc | apply pw_below_drewN | apply below_drew1) | exact HB.out)))
                (case aF => exact (fun k_ hk => Kd.fresh' (Kd.R_lt (by (with_reducible repeat (first | apply Kd.R_alloc | apply Kd.R_drewN | apply Kd.R_drew)); exact HO246.out)) k_ hk))
                (case aO => exact (by (with_reducible repeat (first | apply Kd.R_alloc | apply Kd.R_drewN | apply Kd.R_drew)); exact Kd.R_mono HO249.out (fun _ hk => hk.2)))
                (case aS => exact (below_size (by repeat (first | (with_reducible first | exact HB.out | apply below_alloc | apply pw_below_drewN | apply below_drew1) | exact HB.out))))
                (case aL => have := LMc16.out; omega)
                intro v255 w28 ho hb hg hat
                rw [← Ny254.out] at ho
                have n0_ := Aside0.mk (Kd.R_after (ok := (fun _ => True)) (by (with_reducible repeat (first | apply Kd.R_alloc | apply Kd.R_drewN | apply Kd.R_drew)); exact HO246.out) hg hat)
                have n1_ := Aside0.mk (hb)
                have n2_ := Aside0.mk (ho)
                clear HO246
                clear HB
                clear HO249
                have HO246 := n0_
                have HB := n1_
                have HO256 := n2_
                clear n0_ n1_ n2_
                clear ho hb hg hat
                refine hK.out _ _ trivial (fun hHeld => ?_)
                clear hK K
                refine norm_ (a' := ?_) ?_ ?_
                rotate_left
                · show Act.put _ (some 49) _ = _
                  simp only [Act.put, List.setIfInBounds_toArray, List.set_cons_zero, List.set_cons_succ, i64_w, i32_w]
                  rfl
                refine one_ (i := 8) (N := some 53) #[true, true, true, true, true, true, true, true, true, false] rfl rfl (one_of HT_.out (by kernel_rfl)) (by decide) (fun K hK => ?_)
                refine Kd.R_append_rows_step k32 (w0 := w) w.heap.size (by rfl) (.tmp 49) (.tmp 52) 22 32 (.agg #[(.int .i64 0), (.int .i64 0)]) 16 rfl Try.underlying22 info32 rfl (by decide) (by omega) v255 y254 y257 _ _ _ (fun k_ => some k_ ≠ (v245 : Value).ownBlock) (fun _ => False) rfl rfl ?aO ?aR (fun _ _ h => h) (fun _ h => h.elim) ?aF ?aB ?aS ?aL ?_
                (case aR => repeat (first | exact (Kd.C_below HR260.out HB.out) | (with_reducible refine Kd.C_alloc ?_ _) | (with_reducible refine Kd.C_drewN ?_ _) | (with_reducible refine Kd.C_drew ?_)))
                (case aB => exact (by repeat (first | (with_reducible first | exact HB.out | apply below_alloc | apply pw_below_drewN | apply below_drew1) | exact HB.out)))
                (case aF => exact (fun k_ hk => Kd.fresh' (Kd.R_lt (by (with_reducible repeat (first | apply Kd.R_alloc | apply Kd.R_drewN | apply Kd.R_drew)); exact HO246.out)) k_ hk))
                (case aO => exact (by (with_reducible repeat (first | apply Kd.R_alloc | apply Kd.R_drewN | apply Kd.R_drew)); exact HO256.out))
                (case aS => exact (below_size (by repeat (first | (with_reducible first | exact HB.out | apply below_alloc | apply pw_below_drewN | apply below_drew1) | exact HB.out))))
                (case aL => have := LMc19.out; omega)
                intro v262 w29 ho hb hg hat
                rw [← Ny261.out] at ho
                have n0_ := Aside0.mk (Kd.R_after (ok := (fun _ => True)) (by (with_reducible repeat (first | apply Kd.R_alloc | apply Kd.R_drewN | apply Kd.R_drew)); exact HO246.out) hg hat)
                have n1_ := Aside0.mk (hb)
                have n2_ := Aside0.mk (ho)
                clear HO246
                clear HB
                clear HO256
                have HO246 := n0_
                have HB := n1_
                have HO263 := n2_
                clear n0_ n1_ n2_
                clear ho hb hg hat
                refine hK.out _ _ trivial (fun hHeld => ?_)
                clear hK K
                refine norm_ (a' := ?_) ?_ ?_
                rotate_left
                · show Act.put _ (some 53) _ = _
                  simp only [Act.put, List.setIfInBounds_toArray, List.set_cons_zero, List.set_cons_succ, i64_w, i32_w]
                  rfl
                refine pure_ (i := 9) (N := some 13) (v := ?_) (a' := ?_) #[true, true, true, true, true, true, true, true, true, true] rfl rfl (any_of HT_.out (by kernel_rfl)) (fun _ _ _ h => h) (Or.inl ⟨by rfl, ?_⟩) ?_ ?_
                rotate_left
                · intro w'
                  go_simp
                  with_reducible rfl
                rotate_left
                · simp only [Act.put, List.setIfInBounds_toArray, List.set_cons_zero, List.set_cons_succ, i64_w, i32_w]
                  rfl
                refine done_ (done_of HT_.out (by kernel_rfl)) ?_
                obtain ⟨Ao30, co30, eo30⟩ := Kd.R_slice HO263.out
                subst eo30
                go_upto_region 8 with (first | ((with_reducible refine gate_callee (f := 10) rfl ?_); refine goesL_ (some 57) rfl rfl Try.func10 (by kernel_rfl) rfl #[.slice Ao30 y261.length co30, .int .i64 a1] rfl (by (try simp only [List.map_toArray, List.map_cons, List.map_nil]); first | done | rfl | (simp only [List.length_drop, List.length_take]; rfl)) ?_; (with_reducible refine (span_Norm.calls _ _ y261 a1 t264 t265 _ ?side1 ?side2 A20.out).mono ?_); (case side1 => repeat (first | exact (Kd.R_reads' HO263.out).2.2 | (with_reducible refine Kd.C_alloc ?_ _) | (with_reducible refine Kd.C_drewN ?_ _) | (with_reducible refine Kd.C_drew ?_))); (case side2 => exact (Kd.R_reads' HO263.out).2.1); rintro e w31 ⟨v266, rfl, ho0, hb⟩; refine ⟨_, rfl, ?_⟩; have n0_ := Aside0.mk (Kd.R_elder' (by (with_reducible repeat (first | apply Kd.R_alloc | apply Kd.R_drewN | apply Kd.R_drew)); exact HO246.out) (Kd.R_base ho0) hb); have n1_ := Aside0.mk (Kd.R_elder' (by (with_reducible repeat (first | apply Kd.R_alloc | apply Kd.R_drewN | apply Kd.R_drew)); exact HO263.out) (Kd.R_base ho0) hb); have n2_ := Aside0.mk (Kd.R_lower (Kd.R_new' (Kd.R_new' ho0 (Kd.R_lt (by (with_reducible repeat (first | apply Kd.R_alloc | apply Kd.R_drewN | apply Kd.R_drew)); exact HO246.out))) (Kd.R_lt (by (with_reducible repeat (first | apply Kd.R_alloc | apply Kd.R_drewN | apply Kd.R_drew)); exact HO263.out))) (below_size (by repeat (first | (with_reducible first | exact HB.out | apply below_alloc | apply pw_below_drewN | apply below_drew1) | exact HB.out)))); have n3_ := Aside0.mk (below_step (by repeat (first | (with_reducible first | exact HB.out | apply below_alloc | apply pw_below_drewN | apply below_drew1) | exact HB.out)) hb); clear HO246; clear HO263; clear HB; have HO246 := n0_; have HO263 := n1_; have HO267 := n2_; have HB := n3_; clear n0_ n1_ n2_ n3_; (try clear hb); (try clear hb2); (try clear hk); (try clear hi); (try clear ho0)))
                (try simp only [Act.put, List.setIfInBounds_toArray, List.set_cons_zero, List.set_cons_succ])
                go_cut [68] (fun v68 wc => ∃ (kq : Nat) (x68_20 : Bool), v68 = .bool x68_20 ∧ Aside0 (rootcellarlaw5_SpanOrder.j1 kq l0 a1 a3 t243 t244 x68_20 = some r) ∧ Aside0 (kq ≤ kj5) ∧ Aside0 (Kd.R k32 32 wc w.heap.size (fun _ => True) v245 t243) ∧ Aside0 (Below w.heap.size w wc))
                case first =>
                  have H := HC21.out
                  clear HC21
                  by_cases c32 : t244 = t265
                  · rw [if_pos c32] at H
                    have c32b0 : (t244 == t265) = true := beq_iff_eq.mpr c32
                    have c32b1 : (t244 != t265) = false := bne_eq_false_iff_eq.mpr c32
                    clear c32
                    (first | rw [c32b0] | (simp only [i64_w, i32_w]; rw [c32b0]) | skip)
                    replace H := Option.bind_eq_some_iff.mp H
                    obtain ⟨t268, A330, H⟩ := H
                    replace H : (rootcellarlaw5_SpanOrder.j1 kj5 l0 a1 a3 t243 t244 (!t268)) = some r := H
                    have A33 := Aside0.mk A330
                    clear A330
                    have H' := Aside0.mk H
                    clear H
                    obtain ⟨Ao34, co34, eo34⟩ := Kd.R_slice HO246.out
                    subst eo34
                    obtain ⟨Ao35, co35, eo35⟩ := Kd.R_slice HO267.out
                    subst eo35
                    go_wp2_with (first | (go_at_call 13; (with_reducible refine (rootcellarlaw5_same.calls kj5 _ _ t243 _ _ t264 t268 _ ?side1 ?side2 ?side3 ?side4 A33.out).mono ?_); (case side1 => repeat (first | exact (Kd.R_reads' HO246.out).2.2 | (with_reducible refine Kd.C_alloc ?_ _) | (with_reducible refine Kd.C_drewN ?_ _) | (with_reducible refine Kd.C_drew ?_))); (case side2 => exact (Kd.R_reads' HO246.out).2.1); (case side3 => repeat (first | exact (Kd.R_reads' HO267.out).2.2 | (with_reducible refine Kd.C_alloc ?_ _) | (with_reducible refine Kd.C_drewN ?_ _) | (with_reducible refine Kd.C_drew ?_))); (case side4 => exact (Kd.R_reads' HO267.out).2.1); rintro e w' ⟨rfl, ⟨nd, rfl⟩⟩))
                    go_meet
                    case rel => exact ⟨_, (!t268), (by first | rfl | (simp; done) | (simp [*]; done)), H', ⟨by have := HJ5.out; first | omega | exact Nat.le_refl _⟩, ⟨by (with_reducible repeat (first | apply Kd.R_alloc | apply Kd.R_drewN | apply Kd.R_drew)); exact Kd.R_mono HO246.out (fun _ hk => trivial)⟩, ⟨by repeat (first | (with_reducible first | exact HB.out | apply below_alloc | apply pw_below_drewN | apply below_drew1) | exact HB.out)⟩⟩
                  · rw [if_neg c32] at H
                    have c32b0 : (t244 == t265) = false := beq_eq_false_iff_ne.mpr c32
                    have c32b1 : (t244 != t265) = true := bne_iff_ne.mpr c32
                    (first | rw [c32b0] | (simp only [i64_w, i32_w]; rw [c32b0]) | skip)
                    have H' := Aside0.mk H
                    clear H
                    go_wp2
                    go_meet
                    case rel => exact ⟨_, (true), (by first | rfl | (simp; done) | (simp [*]; done)), H', ⟨by have := HJ5.out; first | omega | exact Nat.le_refl _⟩, ⟨by (with_reducible repeat (first | apply Kd.R_alloc | apply Kd.R_drewN | apply Kd.R_drew)); exact Kd.R_mono HO246.out (fun _ hk => trivial)⟩, ⟨by repeat (first | (with_reducible first | exact HB.out | apply below_alloc | apply pw_below_drewN | apply below_drew1) | exact HB.out)⟩⟩
                case rest =>
                  clear HC21
                  try clear c1
                  try clear c2
                  try clear p2
                  try clear q2
                  try clear c3
                  try clear c4
                  try clear c8
                  try clear c9
                  try clear c9b0
                  try clear c9b1
                  try clear c10
                  try clear c14
                  try clear c14b0
                  try clear c14b1
                  try clear c15
                  try clear c15b0
                  try clear c15b1
                  try clear c16
                  try clear c17
                  try clear c17b0
                  try clear c18
                  try clear c18b0
                  try clear c19
                  try clear c24
                  try clear q24
                  try clear q25
                  try clear c32
                  try clear c32b0
                  try clear c32b1
                  try clear p2
                  try clear q024
                  try clear q24
                  try clear q25
                  obtain ⟨kq, x68_20, rfl, HA, HJ20, HO_10, HB⟩ := hcut
                  cases kq with
                  | zero => exact absurd HA.out (by simp [rootcellarlaw5_SpanOrder.j1])
                  | succ kj20 =>
                    have H := HA.out
                    clear HA
                    simp only [rootcellarlaw5_SpanOrder.j1] at H
                    by_cases c36 : x68_20 = true
                    · subst c36
                      have H1 : (some false) = some r := by rw [if_pos rfl] at H; exact H
                      clear H
                      have H := H1
                      clear H1
                      obtain rfl := Option.some.inj H
                      go_wp2
                      go_ret
                      exact ⟨by first | rfl | (simp [errW_none, errW_some] <;> rfl) | (simp only [← hji12, ← hji13]; first | rfl | (simp [errW_none, errW_some] <;> rfl)) | (simp [*, errW_none, errW_some] <;> rfl), by repeat (first | (with_reducible first | exact HB.out | apply below_alloc | apply pw_below_drewN | apply below_drew1) | exact HB.out)⟩
                    · replace c36 := Bool.eq_false_iff.mpr c36
                      subst c36
                      have H1 : (if 0 ≤ (mx 0 (mn a3 (wrap64 ((l0.length : Int) - 1)))) then (if (mx 0 (mn a3 (wrap64 ((l0.length : Int) - 1)))) < (l0.length : Int) then (if ((rd_T32 l0 (mx 0 (mn a3 (wrap64 ((l0.length : Int) - 1))))).f1) < 2 then (rootcellarlaw5_SpanOrder.j2 kj20 l0 a1 t243 t244 (mx 0 (mn a3 (wrap64 ((l0.length : Int) - 1)))) true) else (rootcellarlaw5_SpanOrder.j2 kj20 l0 a1 t243 t244 (mx 0 (mn a3 (wrap64 ((l0.length : Int) - 1)))) (t244 == 11))) else (none)) else (none)) = some r := by rw [if_neg (show ¬ (false = true) by decide)] at H; exact H
                      clear H
                      have H := H1
                      clear H1
                      obtain ⟨ji37, hji37⟩ : ∃ j_ : Int, (mn a3 (wrap64 ((l0.length : Int) - 1))) = j_ := ⟨_, rfl⟩
                      replace H : (if 0 ≤ (mx 0 (ji37)) then (if (mx 0 (ji37)) < (l0.length : Int) then (if ((rd_T32 l0 (mx 0 (ji37))).f1) < 2 then (rootcellarlaw5_SpanOrder.j2 kj20 l0 a1 t243 t244 (mx 0 (ji37)) true) else (rootcellarlaw5_SpanOrder.j2 kj20 l0 a1 t243 t244 (mx 0 (ji37)) (t244 == 11))) else (none)) else (none)) = some r := by first | (rw [hji37] at H; exact H) | (simp only [hji37] at H ⊢; exact H)
                      have hji37_ : (if (wrap64 ((l0.length : Int) - 1)) < a3 then (wrap64 ((l0.length : Int) - 1)) else a3) = ji37 := hji37
                      obtain ⟨ji38, hji38⟩ : ∃ j_ : Int, (mx 0 (ji37)) = j_ := ⟨_, rfl⟩
                      replace H : (if 0 ≤ (ji38) then (if (ji38) < (l0.length : Int) then (if ((rd_T32 l0 (ji38)).f1) < 2 then (rootcellarlaw5_SpanOrder.j2 kj20 l0 a1 t243 t244 ji38 true) else (rootcellarlaw5_SpanOrder.j2 kj20 l0 a1 t243 t244 ji38 (t244 == 11))) else (none)) else (none)) = some r := by first | (rw [hji38] at H; exact H) | (simp only [hji38] at H ⊢; exact H)
                      have hji38_ : (if 0 < (ji37) then (ji37) else 0) = ji38 := hji38
                      have HC39 := Aside0.mk H
                      clear H
                      go_upto_region 11 with (fail)
                      go_cut [84] (fun v84 wc => ∃ (kq : Nat) (x84_38 : Bool), v84 = .bool x84_38 ∧ Aside0 (rootcellarlaw5_SpanOrder.j2 kq l0 a1 t243 t244 ji38 x84_38 = some r) ∧ Aside0 (kq ≤ kj20) ∧ Aside0 (Kd.R k32 32 wc w.heap.size (fun _ => True) v245 t243) ∧ Aside0 (Below w.heap.size w wc))
                      case first =>
                        have H := HC39.out
                        clear HC39
                        by_cases c40 : 0 ≤ (ji38)
                        · rw [if_pos c40] at H
                          have c40b0 : decide (0 ≤ (ji38)) = true := decide_eq_true c40
                          clear c40
                          (first | rw [c40b0] | (simp only [i64_w, i32_w]; rw [c40b0]) | skip)
                          by_cases c41 : (ji38) < (l0.length : Int)
                          · rw [if_pos c41] at H
                            have c41b0 : decide ((ji38) < (l0.length : Int)) = true := decide_eq_true c41
                            clear c41
                            by_cases c42 : ((rd_T32 l0 (ji38)).f1) < 2
                            · rw [if_pos c42] at H
                              have c42b0 : decide (((rd_T32 l0 (ji38)).f1) < 2) = true := decide_eq_true c42
                              clear c42
                              have H' := Aside0.mk H
                              clear H
                              have p269 : 0 ≤ ((ji38) : Int) := of_decide_eq_true (by first | (with_reducible assumption) | assumption)
                              have q269 : (ji38) < (l0.length : Int) := of_decide_eq_true (by first | (with_reducible assumption) | assumption)
                              obtain ⟨ad269, e269, hx269_0, hx269_1⟩ := at_T32 HR0.out (ji38) p269 q269
                              cases e269
                              replace hx269_0 := (HB.out.cell (World.block_lt_of_cell? w _ hx269_0)).trans hx269_0
                              replace hx269_1 := (HB.out.cell (World.block_lt_of_cell? w _ hx269_1)).trans hx269_1
                              replace p269 := eq_true p269
                              replace q269 := eq_true q269
                              go_wp2
                              go_meet
                              case rel => exact ⟨_, (true), (by first | rfl | (simp; done) | (simp [*]; done)), H', ⟨by have := HJ5.out; have := HJ20.out; first | omega | exact Nat.le_refl _⟩, ⟨by (with_reducible repeat (first | apply Kd.R_alloc | apply Kd.R_drewN | apply Kd.R_drew)); exact HO_10.out⟩, ⟨by repeat (first | (with_reducible first | exact HB.out | apply below_alloc | apply pw_below_drewN | apply below_drew1) | exact HB.out)⟩⟩
                            · rw [if_neg c42] at H
                              have c42b0 : decide (((rd_T32 l0 (ji38)).f1) < 2) = false := decide_eq_false c42
                              clear c42
                              have H' := Aside0.mk H
                              clear H
                              have p269 : 0 ≤ ((ji38) : Int) := of_decide_eq_true (by first | (with_reducible assumption) | assumption)
                              have q269 : (ji38) < (l0.length : Int) := of_decide_eq_true (by first | (with_reducible assumption) | assumption)
                              obtain ⟨ad269, e269, hx269_0, hx269_1⟩ := at_T32 HR0.out (ji38) p269 q269
                              cases e269
                              replace hx269_0 := (HB.out.cell (World.block_lt_of_cell? w _ hx269_0)).trans hx269_0
                              replace hx269_1 := (HB.out.cell (World.block_lt_of_cell? w _ hx269_1)).trans hx269_1
                              replace p269 := eq_true p269
                              replace q269 := eq_true q269
                              go_wp2
                              go_meet
                              case rel => exact ⟨_, ((t244 == 11)), (by first | rfl | (simp; done) | (simp [*]; done)), H', ⟨by have := HJ5.out; have := HJ20.out; first | omega | exact Nat.le_refl _⟩, ⟨by (with_reducible repeat (first | apply Kd.R_alloc | apply Kd.R_drewN | apply Kd.R_drew)); exact HO_10.out⟩, ⟨by repeat (first | (with_reducible first | exact HB.out | apply below_alloc | apply pw_below_drewN | apply below_drew1) | exact HB.out)⟩⟩
                          · rw [if_neg c41] at H
                            exact absurd H (by simp)
                        · rw [if_neg c40] at H
                          exact absurd H (by simp)
                      case rest =>
                        clear HC39
                        try clear c1
                        try clear c2
                        try clear p2
                        try clear q2
                        try clear hx2
                        try clear c3
                        try clear c4
                        try clear p6
                        try clear c8
                        try clear c9
                        try clear c9b0
                        try clear c9b1
                        try clear c10
                        try clear c14
                        try clear c14b0
                        try clear c14b1
                        try clear c15
                        try clear c15b0
                        try clear c15b1
                        try clear c16
                        try clear c17
                        try clear c17b0
                        try clear c18
                        try clear c18b0
                        try clear c19
                        try clear c24
                        try clear q24
                        try clear q25
                        try clear p26
                        try clear q26
                        try clear hx26
                        try clear c32
                        try clear c32b0
                        try clear c32b1
                        try clear c36
                        try clear c40
                        try clear c40b0
                        try clear c41
                        try clear c41b0
                        try clear c42
                        try clear c42b0
                        try clear hx269_0
                        try clear hx269_1
                        try clear p2
                        try clear p269
                        try clear q024
                        try clear q2
                        try clear q24
                        try clear q25
                        try clear q269
                        obtain ⟨kq, x84_38, rfl, HA, HJ38, HO_10, HB⟩ := hcut
                        cases kq with
                        | zero => exact absurd HA.out (by simp [rootcellarlaw5_SpanOrder.j2])
                        | succ kj38 =>
                          have H := HA.out
                          clear HA
                          simp only [rootcellarlaw5_SpanOrder.j2] at H
                          by_cases c43 : x84_38 = true
                          · subst c43
                            have H1 : (some true) = some r := by rw [if_pos rfl] at H; exact H
                            clear H
                            have H := H1
                            clear H1
                            obtain rfl := Option.some.inj H
                            go_wp2
                            go_ret
                            exact ⟨by first | rfl | (simp [errW_none, errW_some] <;> rfl) | (simp only [← hji12, ← hji13, ← hji37, ← hji38]; first | rfl | (simp [errW_none, errW_some] <;> rfl)) | (simp [*, errW_none, errW_some] <;> rfl), by repeat (first | (with_reducible first | exact HB.out | apply below_alloc | apply pw_below_drewN | apply below_drew1) | exact HB.out)⟩
                          · replace c43 := Bool.eq_false_iff.mpr c43
                            subst c43
                            have H1 : ((some (([] : List (S32)) : List (S32))).bind fun y270 => (if y270.length + l0.length < 8796093022208 then ((some (y270 ++ l0 : List (S32))).bind fun y273 => (if 0 ≤ ji38 then (if ji38 < (l0.length : Int) then (if ji38 < (y273.length : Int) then ((some (y273.set (ji38 : Int).toNat (⟨(rd_T32 y273 ji38).f0, wrap64 (((rd_T32 l0 ji38).f1) - 1)⟩ : S32) : List (S32))).bind fun y277 => (if y277.length < 8796093022208 then ((span_Norm.f (y277 ++ [(⟨wrap64 ((wrap64 (((rd_T32 l0 ji38).f0) + ((rd_T32 l0 ji38).f1))) - 1), 1⟩ : S32)]) a1).bind fun bt283 => (if bt283.2 = t244 then ((rootcellarlaw5_same.f kj38 bt283.1 t243).bind fun t287 => (some t287)) else (some false))) else (none))) else (none)) else (none)) else (none))) else (none))) = some r := by rw [if_neg (show ¬ (false = true) by decide)] at H; exact H
                            clear H
                            have H := H1
                            clear H1
                            obtain ⟨y270, hy270⟩ : ∃ y_ : List (S32), y_ = (([] : List (S32))) := ⟨_, rfl⟩
                            replace H : (if y270.length + l0.length < 8796093022208 then ((some (y270 ++ l0 : List (S32))).bind fun y273 => (if 0 ≤ ji38 then (if ji38 < (l0.length : Int) then (if ji38 < (y273.length : Int) then ((some (y273.set (ji38 : Int).toNat (⟨(rd_T32 y273 ji38).f0, wrap64 (((rd_T32 l0 ji38).f1) - 1)⟩ : S32) : List (S32))).bind fun y277 => (if y277.length < 8796093022208 then ((span_Norm.f (y277 ++ [(⟨wrap64 ((wrap64 (((rd_T32 l0 ji38).f0) + ((rd_T32 l0 ji38).f1))) - 1), 1⟩ : S32)]) a1).bind fun bt283 => (if bt283.2 = t244 then ((rootcellarlaw5_same.f kj38 bt283.1 t243).bind fun t287 => (some t287)) else (some false))) else (none))) else (none)) else (none)) else (none))) else (none)) = some r := by first | (rw [hy270]; with_reducible exact H) | (have H2_ := (Option.bind_some _ _).symm.trans H; rw [hy270]; with_reducible exact H2_) | (have H2_ := (Option.bind_some _ _).symm.trans H; with_reducible exact H2_) | with_reducible exact H | (rw [hy270]; exact H) | exact H
                            have Ny270 := Aside0.mk hy270
                            clear hy270
                            by_cases c44 : y270.length + l0.length < 8796093022208
                            · rw [if_pos c44] at H
                              have LMc44 := Aside0.mk c44
                              clear c44
                              obtain ⟨y273, hy273⟩ : ∃ y_ : List (S32), y_ = (y270 ++ l0) := ⟨_, rfl⟩
                              replace H : (if 0 ≤ ji38 then (if ji38 < (l0.length : Int) then (if ji38 < (y273.length : Int) then ((some (y273.set (ji38 : Int).toNat (⟨(rd_T32 y273 ji38).f0, wrap64 (((rd_T32 l0 ji38).f1) - 1)⟩ : S32) : List (S32))).bind fun y277 => (if y277.length < 8796093022208 then ((span_Norm.f (y277 ++ [(⟨wrap64 ((wrap64 (((rd_T32 l0 ji38).f0) + ((rd_T32 l0 ji38).f1))) - 1), 1⟩ : S32)]) a1).bind fun bt283 => (if bt283.2 = t244 then ((rootcellarlaw5_same.f kj38 bt283.1 t243).bind fun t287 => (some t287)) else (some false))) else (none))) else (none)) else (none)) else (none)) = some r := by first | (rw [hy273]; with_reducible exact H) | (have H2_ := (Option.bind_some _ _).symm.trans H; rw [hy273]; with_reducible exact H2_) | (have H2_ := (Option.bind_some _ _).symm.trans H; with_reducible exact H2_) | with_reducible exact H | (rw [hy273]; exact H) | exact H
                              have Ny273 := Aside0.mk hy273
                              clear hy273
                              by_cases c45 : 0 ≤ ji38
                              · rw [if_pos c45] at H
                                have c45b0 : decide (0 ≤ ji38) = true := decide_eq_true c45
                                clear c45
                                by_cases c46 : ji38 < (l0.length : Int)
                                · rw [if_pos c46] at H
                                  have c46b0 : decide (ji38 < (l0.length : Int)) = true := decide_eq_true c46
                                  clear c46
                                  by_cases c47 : ji38 < (y273.length : Int)
                                  · rw [if_pos c47] at H
                                    have c47b0 : decide (ji38 < (y273.length : Int)) = true := decide_eq_true c47
                                    clear c47
                                    obtain ⟨y277, hy277⟩ : ∃ y_ : List (S32), y_ = (y273.set (ji38 : Int).toNat (⟨(rd_T32 y273 ji38).f0, wrap64 (((rd_T32 l0 ji38).f1) - 1)⟩ : S32)) := ⟨_, rfl⟩
                                    replace H : (if y277.length < 8796093022208 then ((span_Norm.f (y277 ++ [(⟨wrap64 ((wrap64 (((rd_T32 l0 ji38).f0) + ((rd_T32 l0 ji38).f1))) - 1), 1⟩ : S32)]) a1).bind fun bt283 => (if bt283.2 = t244 then ((rootcellarlaw5_same.f kj38 bt283.1 t243).bind fun t287 => (some t287)) else (some false))) else (none)) = some r := by first | (rw [hy277]; with_reducible exact H) | (have H2_ := (Option.bind_some _ _).symm.trans H; rw [hy277]; with_reducible exact H2_) | (have H2_ := (Option.bind_some _ _).symm.trans H; with_reducible exact H2_) | with_reducible exact H | (rw [hy277]; exact H) | exact H
                                    have Ny277 := Aside0.mk hy277
                                    clear hy277
                                    by_cases c49 : y277.length < 8796093022208
                                    · rw [if_pos c49] at H
                                      have LMc49 := Aside0.mk c49
                                      clear c49
                                      obtain ⟨y280, hy280⟩ : ∃ y_ : List (S32), y_ = (y277 ++ [(⟨wrap64 ((wrap64 (((rd_T32 l0 ji38).f0) + ((rd_T32 l0 ji38).f1))) - 1), 1⟩ : S32)]) := ⟨_, rfl⟩
                                      replace H : ((span_Norm.f y280 a1).bind fun bt283 => (if bt283.2 = t244 then ((rootcellarlaw5_same.f kj38 bt283.1 t243).bind fun t287 => (some t287)) else (some false))) = some r := by first | (rw [hy280]; with_reducible exact H) | (have H2_ := (Option.bind_some _ _).symm.trans H; rw [hy280]; with_reducible exact H2_) | (have H2_ := (Option.bind_some _ _).symm.trans H; with_reducible exact H2_) | with_reducible exact H | (rw [hy280]; exact H) | exact H
                                      have Ny280 := Aside0.mk hy280
                                      clear hy280
                                      replace H := Option.bind_eq_some_iff.mp H
                                      obtain ⟨⟨t283, t284⟩, A500, H⟩ := H
                                      replace H : (if t284 = t244 then ((rootcellarlaw5_same.f kj38 t283 t243).bind fun t287 => (some t287)) else (some false)) = some r := H
                                      have A50 := Aside0.mk A500
                                      clear A500
                                      by_cases c51 : t284 = t244
                                      · rw [if_pos c51] at H
                                        have c51b0 : (t284 == t244) = true := beq_iff_eq.mpr c51
                                        have c51b1 : (t284 != t244) = false := bne_eq_false_iff_eq.mpr c51
                                        clear c51
                                        replace H := Option.bind_eq_some_iff.mp H
                                        obtain ⟨t287, A520, H⟩ := H
                                        replace H : (some t287) = some r := H
                                        have A52 := Aside0.mk A520
                                        clear A520
                                        obtain rfl := Option.some.inj H
                                        try go_wp2_with (first | ((with_reducible refine gate_dst (N := 85) rfl ?_); (try (refine gate_guard (by rfl) ?_; dsimp only)); refine Kd.R_lit k32 _ 32 ?hg (N := 85) ?hd (xs := ([] : List (S32))) (inner := []) (ok := fun _ => True) (okp := fun _ => True) ?hr ?hp (fun _ hk => hk) trivial (Below.refl _ _) (Nat.le_refl _) (by simp) ?_; (case hd => rfl); (case hg => rfl); (case hr => first | (go_simp; done) | (go_simp; rfl)); (case hp => exact (Reps.none _ _)); intro v271 w53 ho54 hb hg_ hnew_; clear hg_ hnew_; (first | rw [← Ny270.out] at ho54 | (simp only [Int.reduceToNat] at ho54; rw [← Ny270.out] at ho54)); have n0_ := Aside0.mk (Kd.R_elder' (by (with_reducible repeat (first | apply Kd.R_alloc | apply Kd.R_drewN | apply Kd.R_drew)); exact HO_10.out) (Kd.R_base ho54) hb); have n1_ := Aside0.mk (Kd.R_lower (Kd.R_new' ho54 (Kd.R_lt (by (with_reducible repeat (first | apply Kd.R_alloc | apply Kd.R_drewN | apply Kd.R_drew)); exact HO_10.out))) (below_size (by repeat (first | (with_reducible first | exact HB.out | apply below_alloc | apply pw_below_drewN | apply below_drew1) | exact HB.out)))); have n2_ := Aside0.mk (below_step (by repeat (first | (with_reducible first | exact HB.out | apply below_alloc | apply pw_below_drewN | apply below_drew1) | exact HB.out)) hb); clear HO_10; clear HB; have HO_10 := n0_; have HO272 := n1_; have HB := n2_; clear n0_ n1_ n2_; clear hb ho54) | ((with_reducible refine gate_builtin (b := .append) (xs := #[.tmp 85, .tmp 86]) rfl ?_); (try (refine gate_guard (by rfl) ?_; dsimp only)); at_builtin; refine Kd.R_append_rows k32 (w0 := w) w.heap.size rfl (.tmp 85) (.tmp 86) 22 32 (.agg #[(.int .i64 0), (.int .i64 0)]) 16 rfl Try.underlying22 info32 rfl (by decide) (by omega) v271 y270 l0 _ _ _ (fun k_ => some k_ ≠ (v245 : Value).ownBlock) (fun _ => False) rfl rfl ?aO ?aR (fun _ _ h => h) (fun _ h => h.elim) ?aF ?aB ?aS ?aL ?_; (case aR => repeat (first | exact (Kd.C_below HR0.out HB.out) | (with_reducible refine Kd.C_alloc ?_ _) | (with_reducible refine Kd.C_drewN ?_ _) | (with_reducible refine Kd.C_drew ?_))); (case aB => exact (by repeat (first | (with_reducible first | exact HB.out | apply below_alloc | apply pw_below_drewN | apply below_drew1) | exact HB.out))); (case aF => exact (fun k_ hk => Kd.fresh' (Kd.R_lt (by (with_reducible repeat (first | apply Kd.R_alloc | apply Kd.R_drewN | apply Kd.R_drew)); exact HO_10.out)) k_ hk)); (case aO => exact (by (with_reducible repeat (first | apply Kd.R_alloc | apply Kd.R_drewN | apply Kd.R_drew)); exact Kd.R_mono HO272.out (fun _ hk => hk.2))); (case aS => exact (below_size (by repeat (first | (with_reducible first | exact HB.out | apply below_alloc | apply pw_below_drewN | apply below_drew1) | exact HB.out)))); (case aL => have := LMc44.out; omega); intro v274 w55 ho hb hg hat; rw [← Ny273.out] at ho; have n0_ := Aside0.mk (Kd.R_after (ok := (fun _ => True)) (by (with_reducible repeat (first | apply Kd.R_alloc | apply Kd.R_drewN | apply Kd.R_drew)); exact HO_10.out) hg hat); have n1_ := Aside0.mk (hb); have n2_ := Aside0.mk (ho); clear HO_10; clear HB; clear HO272; have HO_10 := n0_; have HB := n1_; have HO275 := n2_; clear n0_ n1_ n2_; clear ho hb hg hat; have p276 : 0 ≤ (ji38 : Int) := of_decide_eq_true (by first | (with_reducible assumption) | assumption); have q276 : ji38 < (l0.length : Int) := of_decide_eq_true (by first | (with_reducible assumption) | assumption); obtain ⟨ad276, e276, hx276_0, hx276_1⟩ := at_T32 HR0.out ji38 p276 q276; cases e276; replace hx276_0 := (HB.out.cell (World.block_lt_of_cell? w _ hx276_0)).trans hx276_0; replace hx276_1 := (HB.out.cell (World.block_lt_of_cell? w _ hx276_1)).trans hx276_1; replace p276 := eq_true p276; replace q276 := eq_true q276; have p48 : 0 ≤ (ji38 : Int) := of_decide_eq_true (by first | (with_reducible assumption) | assumption); have q48 : (ji38 : Int) < ((y273.length : Int) : Int) := of_decide_eq_true (by first | (with_reducible assumption) | assumption); obtain ⟨go48, co48, eo48, gb48, gl48, cl48, HG48⟩ := Kd.R_form HO275.out (by omega); (first | cases eo48 | (injection eo48 with ea_ en_ ec_; (first | subst ea_ | (injection ea_ with ea_; subst ea_)); subst ec_; clear en_)); have GB48 := Aside0.mk gb48; have GG48 := Aside0.mk HG48; clear gb48 gl48 HG48; obtain ⟨ce48, hcl48, hM48, hcc48, hfr48⟩ := Kd.R_elem HO275.out z32 (ji38 : Int) p48 q48; obtain rfl := k32_openM hM48; have hx48_0 : w55.cell? ⟨go48, (ji38 : Int).toNat * 2, none⟩ = some (.int .i64 ((rd_T32 y273 ji38).f0)) := hcc48 0 _ rfl; have hx48_1 : w55.cell? ⟨go48, (ji38 : Int).toNat * 2 + 1, none⟩ = some (.int .i64 ((rd_T32 y273 ji38).f1)) := hcc48 1 _ rfl; have hf48_0 : w55.frozen? ⟨go48, (ji38 : Int).toNat * 2, none⟩ = false := hfr48 0; have hf48_1 : w55.frozen? ⟨go48, (ji38 : Int).toNat * 2 + 1, none⟩ = false := hfr48 1; clear hcl48 hcc48 hfr48 hM48; replace p48 := eq_true p48; replace q48 := eq_true q48; have HX56 := Aside0.mk (show Kd.R k32 32 w55 w.heap.size (fun k_ => some k_ ≠ (v245 : Value).ownBlock) (.slice (some ⟨go48, 0, none⟩) y273.length co48) y273 from (by (with_reducible repeat (first | apply Kd.R_alloc | apply Kd.R_drewN | apply Kd.R_drew)); exact HO275.out)); obtain ⟨ce56, hcl56, hM56, hcc56, hfr56⟩ := Kd.R_elem HX56.out z32 (ji38 : Int) (of_decide_eq_true (by first | (with_reducible assumption) | assumption)) (by have h_ : (ji38 : Int) < ((y273.length : Int) : Int) := of_decide_eq_true (by first | (with_reducible assumption) | assumption); first | exact h_ | (have e_ := (Kd.R_reads' HO275.out).1; omega) | simpa using h_); obtain rfl := k32_openM hM56; have HP56 := Kd.R_seg HX56.out (ji38 : Int) (of_decide_eq_true (by first | (with_reducible assumption) | assumption)) (by have h_ : (ji38 : Int) < ((y273.length : Int) : Int) := of_decide_eq_true (by first | (with_reducible assumption) | assumption); first | exact h_ | (have e_ := (Kd.R_reads' HO275.out).1; omega) | simpa using h_) (seg := [.int .i64 (wrap64 (((rd_T32 l0 ji38).f1) - 1))]) (j := 1) hcl56 hcc56 (show 2 ≤ 2 from by decide) (x' := (⟨(rd_T32 y273 ji38).f0, wrap64 (((rd_T32 l0 ji38).f1) - 1)⟩ : S32)) (k32_mkM _ _ _ (⟨(rd_T32 y273 ji38).f0, wrap64 (((rd_T32 l0 ji38).f1) - 1)⟩ : S32) ) (fun _ hk => hk); have hx56_1 := hcc56 1 _ rfl; (try simp only [show (k32).sz = 2 from rfl, Nat.mul_one, Nat.add_zero] at hx56_1); have hf56_1 := hfr56 1; (try simp only [show (k32).sz = 2 from rfl, Nat.mul_one, Nat.add_zero] at hf56_1); clear hcl56 hcc56 hfr56 hM56) | ((with_reducible refine gate_store (t := 3) (p := 97) rfl ?_); refine store_event (t := 3) (p := 97) (v := ?vo_w57) (w1 := (w55.setCell ⟨go48, (ji38 : Int).toNat * 2 + 1, none⟩ (.int .i64 (wrap64 (((rd_T32 l0 ji38).f1) - 1))))) ?hg ?ho ?hn ?hr ?_; (case ho => rfl); (case hg => rfl); (case hn => rfl); (case hr => first | (go_simp; done) | (go_simp; rfl)); intro w57 hw; have hg : w55.grownBy w57 (some go48) := (by rw [hw]; exact HP56.2); have hp_ : Kd.R k32 32 w57 w.heap.size (fun k_ => some k_ ≠ (v245 : Value).ownBlock) (.slice (some ⟨go48, 0, none⟩) y273.length co48) y277 := (by rw [hw, Ny277.out]; exact HP56.1); clear HP56; have n0_ := Aside0.mk (Kd.R_after (v := (.slice (some ⟨go48, 0, none⟩) y273.length co48)) (v1 := (.slice (some ⟨go48, 0, none⟩) y273.length co48)) (ok := (fun _ => True)) (by (with_reducible repeat (first | apply Kd.R_alloc | apply Kd.R_drewN | apply Kd.R_drew)); exact HO_10.out) hg (.inl rfl)); have n1_ := Aside0.mk (hp_); have n2_ := Aside0.mk ((by rw [hw]; exact below_set (HB.out) GB48.out : Below w.heap.size w w57)); clear HO_10; clear HO275; clear HB; have HO_10 := n0_; have HO275 := n1_; have HB := n2_; clear n0_ n1_ n2_; clear hg hw hp_))
                                        have n0_ := Aside0.mk (Kd.R_drew HO_10.out)
                                        have n1_ := Aside0.mk (Kd.R_drew HO275.out)
                                        have n2_ := Aside0.mk (below_drew1 HB.out)
                                        clear HO_10
                                        clear HO275
                                        clear HB
                                        have HO_10 := n0_
                                        have HO275 := n1_
                                        have HB := n2_
                                        clear n0_ n1_ n2_
                                        have p278 : 0 ≤ (ji38 : Int) := of_decide_eq_true (by first | (with_reducible assumption) | assumption)
                                        have q278 : ji38 < (l0.length : Int) := of_decide_eq_true (by first | (with_reducible assumption) | assumption)
                                        obtain ⟨ad278, e278, hx278_0, hx278_1⟩ := at_T32 HR0.out ji38 p278 q278
                                        have hw278_1 := hx278_1
                                        have hw278_0 := hx278_0
                                        obtain rfl : ad276 = ad278 := (by injection e278)
                                        replace hx278_0 := (HB.out.cell (World.block_lt_of_cell? w _ hx278_0)).trans hx278_0
                                        replace hx278_1 := (HB.out.cell (World.block_lt_of_cell? w _ hx278_1)).trans hx278_1
                                        replace p278 := eq_true p278
                                        replace q278 := eq_true q278
                                        have p279 : 0 ≤ (ji38 : Int) := of_decide_eq_true (by first | (with_reducible assumption) | assumption)
                                        have q279 : ji38 < (l0.length : Int) := of_decide_eq_true (by first | (with_reducible assumption) | assumption)
                                        obtain ⟨ad279, e279, hx279_0, hx279_1⟩ := at_T32 HR0.out ji38 p279 q279
                                        have hw279_1 := hx279_1
                                        have hw279_0 := hx279_0
                                        obtain rfl : ad276 = ad279 := (by injection e279)
                                        replace hx279_0 := (HB.out.cell (World.block_lt_of_cell? w _ hx279_0)).trans hx279_0
                                        replace hx279_1 := (HB.out.cell (World.block_lt_of_cell? w _ hx279_1)).trans hx279_1
                                        replace p279 := eq_true p279
                                        replace q279 := eq_true q279
                                        refine start_ (n := 17) (S := fun w' => w'.cell? (ad276.add ((ji38).toNat * 2)) = some (.int .i64 ((rd_T32 l0 ji38).f0)) ∧ w'.cell? ⟨(ad276.add ((ji38).toNat * 2)).block, (ad276.add ((ji38).toNat * 2)).off + 1, none⟩ = some (.int .i64 ((rd_T32 l0 ji38).f1)) ∧ w'.cell? (ad276.add ((ji38).toNat * 2)) = some (.int .i64 ((rd_T32 l0 ji38).f0)) ∧ w'.cell? ⟨(ad276.add ((ji38).toNat * 2)).block, (ad276.add ((ji38).toNat * 2)).off + 1, none⟩ = some (.int .i64 ((rd_T32 l0 ji38).f1))) (ds := []) #[false, false, false, false, false, false, false, false, false, false, false, false, false, false, false, false, false] (by kernel_rfl) rfl rfl ⟨((HB.out.cell (World.block_lt_of_cell? w _ hw278_0)).trans hw278_0), ((HB.out.cell (World.block_lt_of_cell? w _ hw278_1)).trans hw278_1), ((HB.out.cell (World.block_lt_of_cell? w _ hw279_0)).trans hw279_0), ((HB.out.cell (World.block_lt_of_cell? w _ hw279_1)).trans hw279_1)⟩ (fun hHeld => ?_); refine with_tabW rootcellarlaw5_SpanOrder.tab15 rootcellarlaw5_SpanOrder.bits15 (fun HT_ HW_ => ?_)
                                        generalize w57.drew = w58 at HO_10 HO275 HB hx278_0 hx278_1 hx279_0 hx279_1 hHeld ⊢
                                        refine pure_ (i := 0) (N := some 98) (v := ?_) (a' := ?_) #[true, false, false, false, false, false, false, false, false, false, false, false, false, false, false, false, false] rfl rfl (any_of HT_.out (by kernel_rfl)) (fun _ _ _ h => h) (Or.inl ⟨by rfl, ?_⟩) ?_ ?_
                                        rotate_left
                                        · intro w'
                                          go_simp
                                          with_reducible rfl
                                        rotate_left
                                        · simp only [Act.put, List.setIfInBounds_toArray, List.set_cons_zero, List.set_cons_succ, i64_w, i32_w]
                                          rfl
                                        refine pure_ (i := 1) (N := some 99) (v := ?_) (a' := ?_) #[true, true, false, false, false, false, false, false, false, false, false, false, false, false, false, false, false] rfl rfl (any_of HT_.out (by kernel_rfl)) (fun _ _ _ h => h) (Or.inl ⟨by rfl, ?_⟩) ?_ ?_
                                        rotate_left
                                        · intro w'
                                          go_simp
                                          with_reducible rfl
                                        rotate_left
                                        · simp only [Act.put, List.setIfInBounds_toArray, List.set_cons_zero, List.set_cons_succ, i64_w, i32_w]
                                          rfl
                                        refine pure_ (i := 2) (N := some 100) (v := ?_) (a' := ?_) #[true, true, true, false, false, false, false, false, false, false, false, false, false, false, false, false, false] rfl rfl (any_of HT_.out (by kernel_rfl)) (fun _ _ _ h => h) (Or.inl ⟨by rfl, ?_⟩) ?_ ?_
                                        rotate_left
                                        · intro w'
                                          go_simp
                                          with_reducible rfl
                                        rotate_left
                                        · simp only [Act.put, List.setIfInBounds_toArray, List.set_cons_zero, List.set_cons_succ, i64_w, i32_w]
                                          rfl
                                        refine pure_ (i := 3) (N := some 101) (v := ?_) (a' := ?_) #[true, true, true, true, false, false, false, false, false, false, false, false, false, false, false, false, false] rfl rfl (any_of HT_.out (by kernel_rfl)) (fun _ _ _ h => h) (Or.inl ⟨by rfl, ?_⟩) ?_ ?_
                                        rotate_left
                                        · intro w'
                                          go_simp
                                          with_reducible rfl
                                        rotate_left
                                        · simp only [Act.put, List.setIfInBounds_toArray, List.set_cons_zero, List.set_cons_succ, i64_w, i32_w]
                                          rfl
                                        refine pure_ (i := 4) (N := some 102) (v := ?_) (a' := ?_) #[true, true, true, true, true, false, false, false, false, false, false, false, false, false, false, false, false] rfl rfl (any_of HT_.out (by kernel_rfl)) (fun _ _ _ h => h) (Or.inl ⟨by rfl, ?_⟩) ?_ ?_
                                        rotate_left
                                        · intro w'
                                          go_simp
                                          with_reducible rfl
                                        rotate_left
                                        · simp only [Act.put, List.setIfInBounds_toArray, List.set_cons_zero, List.set_cons_succ, i64_w, i32_w]
                                          rfl
                                        refine pure_ (i := 6) (N := some 104) (v := ?_) (a' := ?_) #[true, true, true, true, true, false, true, false, false, false, false, false, false, false, false, false, false] rfl rfl (any_of HT_.out (by kernel_rfl)) (fun _ _ _ h => h) (Or.inl ⟨by rfl, ?_⟩) ?_ ?_
                                        rotate_left
                                        · intro w'
                                          go_simp
                                          with_reducible rfl
                                        rotate_left
                                        · simp only [Act.put, List.setIfInBounds_toArray, List.set_cons_zero, List.set_cons_succ, i64_w, i32_w]
                                          rfl
                                        refine pure_ (i := 7) (N := some 105) (v := ?_) (a' := ?_) #[true, true, true, true, true, false, true, true, false, false, false, false, false, false, false, false, false] rfl rfl (any_of HT_.out (by kernel_rfl)) (fun _ _ _ h => h) (Or.inl ⟨by rfl, ?_⟩) ?_ ?_
                                        rotate_left
                                        · intro w'
                                          go_simp
                                          with_reducible rfl
                                        rotate_left
                                        · simp only [Act.put, List.setIfInBounds_toArray, List.set_cons_zero, List.set_cons_succ, i64_w, i32_w]
                                          rfl
                                        refine pure_ (i := 8) (N := some 106) (v := ?_) (a' := ?_) #[true, true, true, true, true, false, true, true, true, false, false, false, false, false, false, false, false] rfl rfl (any_of HT_.out (by kernel_rfl)) (fun _ _ _ h => h) (Or.inl ⟨by rfl, ?_⟩) ?_ ?_
                                        rotate_left
                                        · intro w'
                                          go_simp
                                          with_reducible rfl
                                        rotate_left
                                        · simp only [Act.put, List.setIfInBounds_toArray, List.set_cons_zero, List.set_cons_succ, i64_w, i32_w]
                                          rfl
                                        refine pure_ (i := 9) (N := some 107) (v := ?_) (a' := ?_) #[true, true, true, true, true, false, true, true, true, true, false, false, false, false, false, false, false] rfl rfl (any_of HT_.out (by kernel_rfl)) (fun _ _ _ h => h) (Or.inl ⟨by rfl, ?_⟩) ?_ ?_
                                        rotate_left
                                        · intro w'
                                          go_simp
                                          with_reducible rfl
                                        rotate_left
                                        · simp only [Act.put, List.setIfInBounds_toArray, List.set_cons_zero, List.set_cons_succ, i64_w, i32_w]
                                          rfl
                                        refine take_ (i := 5) (N := some 103) (v := ?_) (a' := ?_) #[true, true, true, true, true, true, true, true, true, true, false, false, false, false, false, false, false] rfl rfl (take_ofW HT_.out HW_.out (by kernel_rfl)) (fun _ _ _ h => h) (Or.inl ⟨by rfl, ?_⟩) hHeld ?_ ?_
                                        rotate_left
                                        · rintro w' ⟨s0, s1, s2, s3⟩
                                          go_simp
                                          with_reducible rfl
                                        rotate_left
                                        · simp only [Act.put, List.setIfInBounds_toArray, List.set_cons_zero, List.set_cons_succ, i64_w, i32_w]
                                          rfl
                                        refine take_ (i := 10) (N := some 108) (v := ?_) (a' := ?_) #[true, true, true, true, true, true, true, true, true, true, true, false, false, false, false, false, false] rfl rfl (take_ofW HT_.out HW_.out (by kernel_rfl)) (fun _ _ _ h => h) (Or.inl ⟨by rfl, ?_⟩) hHeld ?_ ?_
                                        rotate_left
                                        · rintro w' ⟨s0, s1, s2, s3⟩
                                          go_simp
                                          with_reducible rfl
                                        rotate_left
                                        · simp only [Act.put, List.setIfInBounds_toArray, List.set_cons_zero, List.set_cons_succ, i64_w, i32_w]
                                          rfl
                                        refine pure_ (i := 11) (N := some 109) (v := ?_) (a' := ?_) #[true, true, true, true, true, true, true, true, true, true, true, true, false, false, false, false, false] rfl rfl (any_of HT_.out (by kernel_rfl)) (fun _ _ _ h => h) (Or.inl ⟨by rfl, ?_⟩) ?_ ?_
                                        rotate_left
                                        · intro w'
                                          go_simp
                                          with_reducible rfl
                                        rotate_left
                                        · simp only [Act.put, List.setIfInBounds_toArray, List.set_cons_zero, List.set_cons_succ, i64_w, i32_w]
                                          rfl
                                        refine pure_ (i := 12) (N := some 110) (v := ?_) (a' := ?_) #[true, true, true, true, true, true, true, true, true, true, true, true, true, false, false, false, false] rfl rfl (any_of HT_.out (by kernel_rfl)) (fun _ _ _ h => h) (Or.inl ⟨by rfl, ?_⟩) ?_ ?_
                                        rotate_left
                                        · intro w'
                                          go_simp
                                          with_reducible rfl
                                        rotate_left
                                        · simp only [Act.put, List.setIfInBounds_toArray, List.set_cons_zero, List.set_cons_succ, i64_w, i32_w]
                                          rfl
                                        refine pure_ (i := 13) (N := some 111) (v := ?_) (a' := ?_) #[true, true, true, true, true, true, true, true, true, true, true, true, true, true, false, false, false] rfl rfl (any_of HT_.out (by kernel_rfl)) (fun _ _ _ h => h) (Or.inl ⟨by rfl, ?_⟩) ?_ ?_
                                        rotate_left
                                        · intro w'
                                          go_simp
                                          with_reducible rfl
                                        rotate_left
                                        · simp only [Act.put, List.setIfInBounds_toArray, List.set_cons_zero, List.set_cons_succ, i64_w, i32_w]
                                          rfl
                                        refine one_ (i := 14) (N := some 112) #[true, true, true, true, true, true, true, true, true, true, true, true, true, true, true, false, false] rfl rfl (one_of HT_.out (by kernel_rfl)) (by decide) (fun K hK => ?_)
                                        refine value_ (w1 := ?_) (v := ?_) (by rfl) rfl ?_ ?_
                                        rotate_left 2
                                        · go_simp
                                          constructor
                                          · rfl
                                          · rfl
                                        refine hK.out _ _ ⟨(World.cell?_alloc_lt _ _ _ (World.block_lt_of_cell? _ _ (((HB.out.cell (World.block_lt_of_cell? w _ hw278_0)).trans hw278_0)))).trans (((HB.out.cell (World.block_lt_of_cell? w _ hw278_0)).trans hw278_0)), (World.cell?_alloc_lt _ _ _ (World.block_lt_of_cell? _ _ (((HB.out.cell (World.block_lt_of_cell? w _ hw278_1)).trans hw278_1)))).trans (((HB.out.cell (World.block_lt_of_cell? w _ hw278_1)).trans hw278_1)), (World.cell?_alloc_lt _ _ _ (World.block_lt_of_cell? _ _ (((HB.out.cell (World.block_lt_of_cell? w _ hw279_0)).trans hw279_0)))).trans (((HB.out.cell (World.block_lt_of_cell? w _ hw279_0)).trans hw279_0)), (World.cell?_alloc_lt _ _ _ (World.block_lt_of_cell? _ _ (((HB.out.cell (World.block_lt_of_cell? w _ hw279_1)).trans hw279_1)))).trans (((HB.out.cell (World.block_lt_of_cell? w _ hw279_1)).trans hw279_1))⟩ (fun hHeld => ?_)
                                        clear hK K
                                        refine norm_ (a' := ?_) ?_ ?_
                                        rotate_left
                                        · show Act.put _ (some 112) _ = _
                                          simp only [Act.put, List.setIfInBounds_toArray, List.set_cons_zero, List.set_cons_succ, i64_w, i32_w]
                                          rfl
                                        refine one_ (i := 15) (N := some 113) #[true, true, true, true, true, true, true, true, true, true, true, true, true, true, true, true, false] rfl rfl (one_of HT_.out (by kernel_rfl)) (by decide) (fun K hK => ?_)
                                        refine Kd.R_append_step k32 (w0 := w) w.heap.size (by rfl) (.tmp 98) (.tmp 112) 22 32 (.agg #[(.int .i64 0), (.int .i64 0)]) 16 rfl Try.underlying22 info32 rfl (by decide) (by omega) (.slice (some ⟨go48, 0, none⟩) y273.length co48) y277 (⟨wrap64 ((wrap64 (((rd_T32 l0 ji38).f0) + ((rd_T32 l0 ji38).f1))) - 1), 1⟩ : S32) [.int .i64 (wrap64 ((wrap64 (((rd_T32 l0 ji38).f0) + ((rd_T32 l0 ji38).f1))) - 1)), .int .i64 1] (fun k_ => some k_ ≠ (v245 : Value).ownBlock) (fun _ => False) rfl rfl ?aP (fun _ hk => hk.elim) ?aF ?aO ?aB ?aS ?aL ?_
                                        (case aP => exact k32_mkM _ _ _ (⟨wrap64 ((wrap64 (((rd_T32 l0 ji38).f0) + ((rd_T32 l0 ji38).f1))) - 1), 1⟩ : S32))
                                        (case aB => exact (by repeat (first | (with_reducible first | exact HB.out | apply below_alloc | apply pw_below_drewN | apply below_drew1) | exact HB.out)))
                                        (case aF => exact (fun k_ hk => Kd.fresh' (Kd.R_lt (by (with_reducible repeat (first | apply Kd.R_alloc | apply Kd.R_drewN | apply Kd.R_drew)); exact HO_10.out)) k_ hk))
                                        (case aO => exact (by (with_reducible repeat (first | apply Kd.R_alloc | apply Kd.R_drewN | apply Kd.R_drew)); exact HO275.out))
                                        (case aS => exact (below_size (by repeat (first | (with_reducible first | exact HB.out | apply below_alloc | apply pw_below_drewN | apply below_drew1) | exact HB.out))))
                                        (case aL => have := LMc49.out; omega)
                                        intro v281 w59 ho hb hg hat
                                        rw [← Ny280.out] at ho
                                        have n0_ := Aside0.mk (Kd.R_after (ok := (fun _ => True)) (by (with_reducible repeat (first | apply Kd.R_alloc | apply Kd.R_drewN | apply Kd.R_drew)); exact HO_10.out) hg hat)
                                        have n1_ := Aside0.mk (hb)
                                        have n2_ := Aside0.mk (ho)
                                        clear HO_10
                                        clear HB
                                        clear HO275
                                        have HO_10 := n0_
                                        have HB := n1_
                                        have HO282 := n2_
                                        clear n0_ n1_ n2_
                                        clear ho hb hg hat
                                        refine hK.out _ _ ⟨((HB.out.cell (World.block_lt_of_cell? w _ hw278_0)).trans hw278_0), ((HB.out.cell (World.block_lt_of_cell? w _ hw278_1)).trans hw278_1), ((HB.out.cell (World.block_lt_of_cell? w _ hw279_0)).trans hw279_0), ((HB.out.cell (World.block_lt_of_cell? w _ hw279_1)).trans hw279_1)⟩ (fun hHeld => ?_)
                                        clear hK K
                                        refine norm_ (a' := ?_) ?_ ?_
                                        rotate_left
                                        · show Act.put _ (some 113) _ = _
                                          simp only [Act.put, List.setIfInBounds_toArray, List.set_cons_zero, List.set_cons_succ, i64_w, i32_w]
                                          rfl
                                        refine pure_ (i := 16) (N := some 17) (v := ?_) (a' := ?_) #[true, true, true, true, true, true, true, true, true, true, true, true, true, true, true, true, true] rfl rfl (any_of HT_.out (by kernel_rfl)) (fun _ _ _ h => h) (Or.inl ⟨by rfl, ?_⟩) ?_ ?_
                                        rotate_left
                                        · intro w'
                                          go_simp
                                          with_reducible rfl
                                        rotate_left
                                        · simp only [Act.put, List.setIfInBounds_toArray, List.set_cons_zero, List.set_cons_succ, i64_w, i32_w]
                                          rfl
                                        refine done_ (done_of HT_.out (by kernel_rfl)) ?_
                                        obtain ⟨Ao60, co60, eo60⟩ := Kd.R_slice HO282.out
                                        subst eo60
                                        try go_wp2_with (first | ((with_reducible refine gate_callee (f := 10) rfl ?_); refine goesL_ (some 117) rfl rfl Try.func10 (by kernel_rfl) rfl #[.slice Ao60 y280.length co60, .int .i64 a1] rfl (by (try simp only [List.map_toArray, List.map_cons, List.map_nil]); first | done | rfl | (simp only [List.length_drop, List.length_take]; rfl)) ?_; (with_reducible refine (span_Norm.calls _ _ y280 a1 t283 t284 _ ?side1 ?side2 A50.out).mono ?_); (case side1 => repeat (first | exact (Kd.R_reads' HO282.out).2.2 | (with_reducible refine Kd.C_alloc ?_ _) | (with_reducible refine Kd.C_drewN ?_ _) | (with_reducible refine Kd.C_drew ?_))); (case side2 => exact (Kd.R_reads' HO282.out).2.1); rintro e w61 ⟨v285, rfl, ho0, hb⟩; refine ⟨_, rfl, ?_⟩; have n0_ := Aside0.mk (Kd.R_elder' (by (with_reducible repeat (first | apply Kd.R_alloc | apply Kd.R_drewN | apply Kd.R_drew)); exact HO_10.out) (Kd.R_base ho0) hb); have n1_ := Aside0.mk (Kd.R_elder' (by (with_reducible repeat (first | apply Kd.R_alloc | apply Kd.R_drewN | apply Kd.R_drew)); exact HO282.out) (Kd.R_base ho0) hb); have n2_ := Aside0.mk (Kd.R_lower (Kd.R_new' (Kd.R_new' ho0 (Kd.R_lt (by (with_reducible repeat (first | apply Kd.R_alloc | apply Kd.R_drewN | apply Kd.R_drew)); exact HO_10.out))) (Kd.R_lt (by (with_reducible repeat (first | apply Kd.R_alloc | apply Kd.R_drewN | apply Kd.R_drew)); exact HO282.out))) (below_size (by repeat (first | (with_reducible first | exact HB.out | apply below_alloc | apply pw_below_drewN | apply below_drew1) | exact HB.out)))); have n3_ := Aside0.mk (below_step (by repeat (first | (with_reducible first | exact HB.out | apply below_alloc | apply pw_below_drewN | apply below_drew1) | exact HB.out)) hb); clear HO_10; clear HO282; clear HB; have HO_10 := n0_; have HO282 := n1_; have HO286 := n2_; have HB := n3_; clear n0_ n1_ n2_ n3_; (try clear hb); (try clear hb2); (try clear hk); (try clear hi); (try clear ho0); obtain ⟨Ao62, co62, eo62⟩ := Kd.R_slice HO286.out; subst eo62; obtain ⟨Ao63, co63, eo63⟩ := Kd.R_slice HO_10.out; subst eo63) | (go_at_call 13; (with_reducible refine (rootcellarlaw5_same.calls kj38 _ _ t283 _ _ t243 t287 _ ?side1 ?side2 ?side3 ?side4 A52.out).mono ?_); (case side1 => repeat (first | exact (Kd.R_reads' HO286.out).2.2 | (with_reducible refine Kd.C_alloc ?_ _) | (with_reducible refine Kd.C_drewN ?_ _) | (with_reducible refine Kd.C_drew ?_))); (case side2 => exact (Kd.R_reads' HO286.out).2.1); (case side3 => repeat (first | exact (Kd.R_reads' HO_10.out).2.2 | (with_reducible refine Kd.C_alloc ?_ _) | (with_reducible refine Kd.C_drewN ?_ _) | (with_reducible refine Kd.C_drew ?_))); (case side4 => exact (Kd.R_reads' HO_10.out).2.1); rintro e w' ⟨rfl, ⟨nd, rfl⟩⟩))
                                        go_ret
                                        exact ⟨by first | rfl | (simp [errW_none, errW_some] <;> rfl) | (simp only [← hji12, ← hji13, ← hji37, ← hji38]; first | rfl | (simp [errW_none, errW_some] <;> rfl)) | (simp [*, errW_none, errW_some] <;> rfl), by repeat (first | (with_reducible first | exact HB.out | apply below_alloc | apply pw_below_drewN | apply below_drew1) | exact HB.out)⟩
                                      · rw [if_neg c51] at H
                                        have c51b0 : (t284 == t244) = false := beq_eq_false_iff_ne.mpr c51
                                        have c51b1 : (t284 != t244) = true := bne_iff_ne.mpr c51
                                        obtain rfl := Option.some.inj H
                                        try go_wp2_with (first | ((with_reducible refine gate_dst (N := 85) rfl ?_); (try (refine gate_guard (by rfl) ?_; dsimp only)); refine Kd.R_lit k32 _ 32 ?hg (N := 85) ?hd (xs := ([] : List (S32))) (inner := []) (ok := fun _ => True) (okp := fun _ => True) ?hr ?hp (fun _ hk => hk) trivial (Below.refl _ _) (Nat.le_refl _) (by simp) ?_; (case hd => rfl); (case hg => rfl); (case hr => first | (go_simp; done) | (go_simp; rfl)); (case hp => exact (Reps.none _ _)); intro v271 w64 ho65 hb hg_ hnew_; clear hg_ hnew_; (first | rw [← Ny270.out] at ho65 | (simp only [Int.reduceToNat] at ho65; rw [← Ny270.out] at ho65)); have n0_ := Aside0.mk (Kd.R_elder' (by (with_reducible repeat (first | apply Kd.R_alloc | apply Kd.R_drewN | apply Kd.R_drew)); exact HO_10.out) (Kd.R_base ho65) hb); have n1_ := Aside0.mk (Kd.R_lower (Kd.R_new' ho65 (Kd.R_lt (by (with_reducible repeat (first | apply Kd.R_alloc | apply Kd.R_drewN | apply Kd.R_drew)); exact HO_10.out))) (below_size (by repeat (first | (with_reducible first | exact HB.out | apply below_alloc | apply pw_below_drewN | apply below_drew1) | exact HB.out)))); have n2_ := Aside0.mk (below_step (by repeat (first | (with_reducible first | exact HB.out | apply below_alloc | apply pw_below_drewN | apply below_drew1) | exact HB.out)) hb); clear HO_10; clear HB; have HO_10 := n0_; have HO272 := n1_; have HB := n2_; clear n0_ n1_ n2_; clear hb ho65) | ((with_reducible refine gate_builtin (b := .append) (xs := #[.tmp 85, .tmp 86]) rfl ?_); (try (refine gate_guard (by rfl) ?_; dsimp only)); at_builtin; refine Kd.R_append_rows k32 (w0 := w) w.heap.size rfl (.tmp 85) (.tmp 86) 22 32 (.agg #[(.int .i64 0), (.int .i64 0)]) 16 rfl Try.underlying22 info32 rfl (by decide) (by omega) v271 y270 l0 _ _ _ (fun k_ => some k_ ≠ (v245 : Value).ownBlock) (fun _ => False) rfl rfl ?aO ?aR (fun _ _ h => h) (fun _ h => h.elim) ?aF ?aB ?aS ?aL ?_; (case aR => repeat (first | exact (Kd.C_below HR0.out HB.out) | (with_reducible refine Kd.C_alloc ?_ _) | (with_reducible refine Kd.C_drewN ?_ _) | (with_reducible refine Kd.C_drew ?_))); (case aB => exact (by repeat (first | (with_reducible first | exact HB.out | apply below_alloc | apply pw_below_drewN | apply below_drew1) | exact HB.out))); (case aF => exact (fun k_ hk => Kd.fresh' (Kd.R_lt (by (with_reducible repeat (first | apply Kd.R_alloc | apply Kd.R_drewN | apply Kd.R_drew)); exact HO_10.out)) k_ hk)); (case aO => exact (by (with_reducible repeat (first | apply Kd.R_alloc | apply Kd.R_drewN | apply Kd.R_drew)); exact Kd.R_mono HO272.out (fun _ hk => hk.2))); (case aS => exact (below_size (by repeat (first | (with_reducible first | exact HB.out | apply below_alloc | apply pw_below_drewN | apply below_drew1) | exact HB.out)))); (case aL => have := LMc44.out; omega); intro v274 w66 ho hb hg hat; rw [← Ny273.out] at ho; have n0_ := Aside0.mk (Kd.R_after (ok := (fun _ => True)) (by (with_reducible repeat (first | apply Kd.R_alloc | apply Kd.R_drewN | apply Kd.R_drew)); exact HO_10.out) hg hat); have n1_ := Aside0.mk (hb); have n2_ := Aside0.mk (ho); clear HO_10; clear HB; clear HO272; have HO_10 := n0_; have HB := n1_; have HO275 := n2_; clear n0_ n1_ n2_; clear ho hb hg hat; have p276 : 0 ≤ (ji38 : Int) := of_decide_eq_true (by first | (with_reducible assumption) | assumption); have q276 : ji38 < (l0.length : Int) := of_decide_eq_true (by first | (with_reducible assumption) | assumption); obtain ⟨ad276, e276, hx276_0, hx276_1⟩ := at_T32 HR0.out ji38 p276 q276; cases e276; replace hx276_0 := (HB.out.cell (World.block_lt_of_cell? w _ hx276_0)).trans hx276_0; replace hx276_1 := (HB.out.cell (World.block_lt_of_cell? w _ hx276_1)).trans hx276_1; replace p276 := eq_true p276; replace q276 := eq_true q276; have p48 : 0 ≤ (ji38 : Int) := of_decide_eq_true (by first | (with_reducible assumption) | assumption); have q48 : (ji38 : Int) < ((y273.length : Int) : Int) := of_decide_eq_true (by first | (with_reducible assumption) | assumption); obtain ⟨go48, co48, eo48, gb48, gl48, cl48, HG48⟩ := Kd.R_form HO275.out (by omega); (first | cases eo48 | (injection eo48 with ea_ en_ ec_; (first | subst ea_ | (injection ea_ with ea_; subst ea_)); subst ec_; clear en_)); have GB48 := Aside0.mk gb48; have GG48 := Aside0.mk HG48; clear gb48 gl48 HG48; obtain ⟨ce48, hcl48, hM48, hcc48, hfr48⟩ := Kd.R_elem HO275.out z32 (ji38 : Int) p48 q48; obtain rfl := k32_openM hM48; have hx48_0 : w66.cell? ⟨go48, (ji38 : Int).toNat * 2, none⟩ = some (.int .i64 ((rd_T32 y273 ji38).f0)) := hcc48 0 _ rfl; have hx48_1 : w66.cell? ⟨go48, (ji38 : Int).toNat * 2 + 1, none⟩ = some (.int .i64 ((rd_T32 y273 ji38).f1)) := hcc48 1 _ rfl; have hf48_0 : w66.frozen? ⟨go48, (ji38 : Int).toNat * 2, none⟩ = false := hfr48 0; have hf48_1 : w66.frozen? ⟨go48, (ji38 : Int).toNat * 2 + 1, none⟩ = false := hfr48 1; clear hcl48 hcc48 hfr48 hM48; replace p48 := eq_true p48; replace q48 := eq_true q48; have HX67 := Aside0.mk (show Kd.R k32 32 w66 w.heap.size (fun k_ => some k_ ≠ (v245 : Value).ownBlock) (.slice (some ⟨go48, 0, none⟩) y273.length co48) y273 from (by (with_reducible repeat (first | apply Kd.R_alloc | apply Kd.R_drewN | apply Kd.R_drew)); exact HO275.out)); obtain ⟨ce67, hcl67, hM67, hcc67, hfr67⟩ := Kd.R_elem HX67.out z32 (ji38 : Int) (of_decide_eq_true (by first | (with_reducible assumption) | assumption)) (by have h_ : (ji38 : Int) < ((y273.length : Int) : Int) := of_decide_eq_true (by first | (with_reducible assumption) | assumption); first | exact h_ | (have e_ := (Kd.R_reads' HO275.out).1; omega) | simpa using h_); obtain rfl := k32_openM hM67; have HP67 := Kd.R_seg HX67.out (ji38 : Int) (of_decide_eq_true (by first | (with_reducible assumption) | assumption)) (by have h_ : (ji38 : Int) < ((y273.length : Int) : Int) := of_decide_eq_true (by first | (with_reducible assumption) | assumption); first | exact h_ | (have e_ := (Kd.R_reads' HO275.out).1; omega) | simpa using h_) (seg := [.int .i64 (wrap64 (((rd_T32 l0 ji38).f1) - 1))]) (j := 1) hcl67 hcc67 (show 2 ≤ 2 from by decide) (x' := (⟨(rd_T32 y273 ji38).f0, wrap64 (((rd_T32 l0 ji38).f1) - 1)⟩ : S32)) (k32_mkM _ _ _ (⟨(rd_T32 y273 ji38).f0, wrap64 (((rd_T32 l0 ji38).f1) - 1)⟩ : S32) ) (fun _ hk => hk); have hx67_1 := hcc67 1 _ rfl; (try simp only [show (k32).sz = 2 from rfl, Nat.mul_one, Nat.add_zero] at hx67_1); have hf67_1 := hfr67 1; (try simp only [show (k32).sz = 2 from rfl, Nat.mul_one, Nat.add_zero] at hf67_1); clear hcl67 hcc67 hfr67 hM67) | ((with_reducible refine gate_store (t := 3) (p := 97) rfl ?_); refine store_event (t := 3) (p := 97) (v := ?vo_w68) (w1 := (w66.setCell ⟨go48, (ji38 : Int).toNat * 2 + 1, none⟩ (.int .i64 (wrap64 (((rd_T32 l0 ji38).f1) - 1))))) ?hg ?ho ?hn ?hr ?_; (case ho => rfl); (case hg => rfl); (case hn => rfl); (case hr => first | (go_simp; done) | (go_simp; rfl)); intro w68 hw; have hg : w66.grownBy w68 (some go48) := (by rw [hw]; exact HP67.2); have hp_ : Kd.R k32 32 w68 w.heap.size (fun k_ => some k_ ≠ (v245 : Value).ownBlock) (.slice (some ⟨go48, 0, none⟩) y273.length co48) y277 := (by rw [hw, Ny277.out]; exact HP67.1); clear HP67; have n0_ := Aside0.mk (Kd.R_after (v := (.slice (some ⟨go48, 0, none⟩) y273.length co48)) (v1 := (.slice (some ⟨go48, 0, none⟩) y273.length co48)) (ok := (fun _ => True)) (by (with_reducible repeat (first | apply Kd.R_alloc | apply Kd.R_drewN | apply Kd.R_drew)); exact HO_10.out) hg (.inl rfl)); have n1_ := Aside0.mk (hp_); have n2_ := Aside0.mk ((by rw [hw]; exact below_set (HB.out) GB48.out : Below w.heap.size w w68)); clear HO_10; clear HO275; clear HB; have HO_10 := n0_; have HO275 := n1_; have HB := n2_; clear n0_ n1_ n2_; clear hg hw hp_))
                                        have n0_ := Aside0.mk (Kd.R_drew HO_10.out)
                                        have n1_ := Aside0.mk (Kd.R_drew HO275.out)
                                        have n2_ := Aside0.mk (below_drew1 HB.out)
                                        clear HO_10
                                        clear HO275
                                        clear HB
                                        have HO_10 := n0_
                                        have HO275 := n1_
                                        have HB := n2_
                                        clear n0_ n1_ n2_
                                        have p278 : 0 ≤ (ji38 : Int) := of_decide_eq_true (by first | (with_reducible assumption) | assumption)
                                        have q278 : ji38 < (l0.length : Int) := of_decide_eq_true (by first | (with_reducible assumption) | assumption)
                                        obtain ⟨ad278, e278, hx278_0, hx278_1⟩ := at_T32 HR0.out ji38 p278 q278
                                        have hw278_1 := hx278_1
                                        have hw278_0 := hx278_0
                                        obtain rfl : ad276 = ad278 := (by injection e278)
                                        replace hx278_0 := (HB.out.cell (World.block_lt_of_cell? w _ hx278_0)).trans hx278_0
                                        replace hx278_1 := (HB.out.cell (World.block_lt_of_cell? w _ hx278_1)).trans hx278_1
                                        replace p278 := eq_true p278
                                        replace q278 := eq_true q278
                                        have p279 : 0 ≤ (ji38 : Int) := of_decide_eq_true (by first | (with_reducible assumption) | assumption)
                                        have q279 : ji38 < (l0.length : Int) := of_decide_eq_true (by first | (with_reducible assumption) | assumption)
                                        obtain ⟨ad279, e279, hx279_0, hx279_1⟩ := at_T32 HR0.out ji38 p279 q279
                                        have hw279_1 := hx279_1
                                        have hw279_0 := hx279_0
                                        obtain rfl : ad276 = ad279 := (by injection e279)
                                        replace hx279_0 := (HB.out.cell (World.block_lt_of_cell? w _ hx279_0)).trans hx279_0
                                        replace hx279_1 := (HB.out.cell (World.block_lt_of_cell? w _ hx279_1)).trans hx279_1
                                        replace p279 := eq_true p279
                                        replace q279 := eq_true q279
                                        refine start_ (n := 17) (S := fun w' => w'.cell? (ad276.add ((ji38).toNat * 2)) = some (.int .i64 ((rd_T32 l0 ji38).f0)) ∧ w'.cell? ⟨(ad276.add ((ji38).toNat * 2)).block, (ad276.add ((ji38).toNat * 2)).off + 1, none⟩ = some (.int .i64 ((rd_T32 l0 ji38).f1)) ∧ w'.cell? (ad276.add ((ji38).toNat * 2)) = some (.int .i64 ((rd_T32 l0 ji38).f0)) ∧ w'.cell? ⟨(ad276.add ((ji38).toNat * 2)).block, (ad276.add ((ji38).toNat * 2)).off + 1, none⟩ = some (.int .i64 ((rd_T32 l0 ji38).f1))) (ds := []) #[false, false, false, false, false, false, false, false, false, false, false, false, false, false, false, false, false] (by kernel_rfl) rfl rfl ⟨((HB.out.cell (World.block_lt_of_cell? w _ hw278_0)).trans hw278_0), ((HB.out.cell (World.block_lt_of_cell? w _ hw278_1)).trans hw278_1), ((HB.out.cell (World.block_lt_of_cell? w _ hw279_0)).trans hw279_0), ((HB.out.cell (World.block_lt_of_cell? w _ hw279_1)).trans hw279_1)⟩ (fun hHeld => ?_); refine with_tabW rootcellarlaw5_SpanOrder.tab15 rootcellarlaw5_SpanOrder.bits15 (fun HT_ HW_ => ?_)
                                        generalize w68.drew = w69 at HO_10 HO275 HB hx278_0 hx278_1 hx279_0 hx279_1 hHeld ⊢
                                        refine pure_ (i := 0) (N := some 98) (v := ?_) (a' := ?_) #[true, false, false, false, false, false, false, false, false, false, false, false, false, false, false, false, false] rfl rfl (any_of HT_.out (by kernel_rfl)) (fun _ _ _ h => h) (Or.inl ⟨by rfl, ?_⟩) ?_ ?_
                                        rotate_left
                                        · intro w'
                                          go_simp
                                          with_reducible rfl
                                        rotate_left
                                        · simp only [Act.put, List.setIfInBounds_toArray, List.set_cons_zero, List.set_cons_succ, i64_w, i32_w]
                                          rfl
                                        refine pure_ (i := 1) (N := some 99) (v := ?_) (a' := ?_) #[true, true, false, false, false, false, false, false, false, false, false, false, false, false, false, false, false] rfl rfl (any_of HT_.out (by kernel_rfl)) (fun _ _ _ h => h) (Or.inl ⟨by rfl, ?_⟩) ?_ ?_
                                        rotate_left
                                        · intro w'
                                          go_simp
                                          with_reducible rfl
                                        rotate_left
                                        · simp only [Act.put, List.setIfInBounds_toArray, List.set_cons_zero, List.set_cons_succ, i64_w, i32_w]
                                          rfl
                                        refine pure_ (i := 2) (N := some 100) (v := ?_) (a' := ?_) #[true, true, true, false, false, false, false, false, false, false, false, false, false, false, false, false, false] rfl rfl (any_of HT_.out (by kernel_rfl)) (fun _ _ _ h => h) (Or.inl ⟨by rfl, ?_⟩) ?_ ?_
                                        rotate_left
                                        · intro w'
                                          go_simp
                                          with_reducible rfl
                                        rotate_left
                                        · simp only [Act.put, List.setIfInBounds_toArray, List.set_cons_zero, List.set_cons_succ, i64_w, i32_w]
                                          rfl
                                        refine pure_ (i := 3) (N := some 101) (v := ?_) (a' := ?_) #[true, true, true, true, false, false, false, false, false, false, false, false, false, false, false, false, false] rfl rfl (any_of HT_.out (by kernel_rfl)) (fun _ _ _ h => h) (Or.inl ⟨by rfl, ?_⟩) ?_ ?_
                                        rotate_left
                                        · intro w'
                                          go_simp
                                          with_reducible rfl
                                        rotate_left
                                        · simp only [Act.put, List.setIfInBounds_toArray, List.set_cons_zero, List.set_cons_succ, i64_w, i32_w]
                                          rfl
                                        refine pure_ (i := 4) (N := some 102) (v := ?_) (a' := ?_) #[true, true, true, true, true, false, false, false, false, false, false, false, false, false, false, false, false] rfl rfl (any_of HT_.out (by kernel_rfl)) (fun _ _ _ h => h) (Or.inl ⟨by rfl, ?_⟩) ?_ ?_
                                        rotate_left
                                        · intro w'
                                          go_simp
                                          with_reducible rfl
                                        rotate_left
                                        · simp only [Act.put, List.setIfInBounds_toArray, List.set_cons_zero, List.set_cons_succ, i64_w, i32_w]
                                          rfl
                                        refine pure_ (i := 6) (N := some 104) (v := ?_) (a' := ?_) #[true, true, true, true, true, false, true, false, false, false, false, false, false, false, false, false, false] rfl rfl (any_of HT_.out (by kernel_rfl)) (fun _ _ _ h => h) (Or.inl ⟨by rfl, ?_⟩) ?_ ?_
                                        rotate_left
                                        · intro w'
                                          go_simp
                                          with_reducible rfl
                                        rotate_left
                                        · simp only [Act.put, List.setIfInBounds_toArray, List.set_cons_zero, List.set_cons_succ, i64_w, i32_w]
                                          rfl
                                        refine pure_ (i := 7) (N := some 105) (v := ?_) (a' := ?_) #[true, true, true, true, true, false, true, true, false, false, false, false, false, false, false, false, false] rfl rfl (any_of HT_.out (by kernel_rfl)) (fun _ _ _ h => h) (Or.inl ⟨by rfl, ?_⟩) ?_ ?_
                                        rotate_left
                                        · intro w'
                                          go_simp
                                          with_reducible rfl
                                        rotate_left
                                        · simp only [Act.put, List.setIfInBounds_toArray, List.set_cons_zero, List.set_cons_succ, i64_w, i32_w]
                                          rfl
                                        refine pure_ (i := 8) (N := some 106) (v := ?_) (a' := ?_) #[true, true, true, true, true, false, true, true, true, false, false, false, false, false, false, false, false] rfl rfl (any_of HT_.out (by kernel_rfl)) (fun _ _ _ h => h) (Or.inl ⟨by rfl, ?_⟩) ?_ ?_
                                        rotate_left
                                        · intro w'
                                          go_simp
                                          with_reducible rfl
                                        rotate_left
                                        · simp only [Act.put, List.setIfInBounds_toArray, List.set_cons_zero, List.set_cons_succ, i64_w, i32_w]
                                          rfl
                                        refine pure_ (i := 9) (N := some 107) (v := ?_) (a' := ?_) #[true, true, true, true, true, false, true, true, true, true, false, false, false, false, false, false, false] rfl rfl (any_of HT_.out (by kernel_rfl)) (fun _ _ _ h => h) (Or.inl ⟨by rfl, ?_⟩) ?_ ?_
                                        rotate_left
                                        · intro w'
                                          go_simp
                                          with_reducible rfl
                                        rotate_left
                                        · simp only [Act.put, List.setIfInBounds_toArray, List.set_cons_zero, List.set_cons_succ, i64_w, i32_w]
                                          rfl
                                        refine take_ (i := 5) (N := some 103) (v := ?_) (a' := ?_) #[true, true, true, true, true, true, true, true, true, true, false, false, false, false, false, false, false] rfl rfl (take_ofW HT_.out HW_.out (by kernel_rfl)) (fun _ _ _ h => h) (Or.inl ⟨by rfl, ?_⟩) hHeld ?_ ?_
                                        rotate_left
                                        · rintro w' ⟨s0, s1, s2, s3⟩
                                          go_simp
                                          with_reducible rfl
                                        rotate_left
                                        · simp only [Act.put, List.setIfInBounds_toArray, List.set_cons_zero, List.set_cons_succ, i64_w, i32_w]
                                          rfl
                                        refine take_ (i := 10) (N := some 108) (v := ?_) (a' := ?_) #[true, true, true, true, true, true, true, true, true, true, true, false, false, false, false, false, false] rfl rfl (take_ofW HT_.out HW_.out (by kernel_rfl)) (fun _ _ _ h => h) (Or.inl ⟨by rfl, ?_⟩) hHeld ?_ ?_
                                        rotate_left
                                        · rintro w' ⟨s0, s1, s2, s3⟩
                                          go_simp
                                          with_reducible rfl
                                        rotate_left
                                        · simp only [Act.put, List.setIfInBounds_toArray, List.set_cons_zero, List.set_cons_succ, i64_w, i32_w]
                                          rfl
                                        refine pure_ (i := 11) (N := some 109) (v := ?_) (a' := ?_) #[true, true, true, true, true, true, true, true, true, true, true, true, false, false, false, false, false] rfl rfl (any_of HT_.out (by kernel_rfl)) (fun _ _ _ h => h) (Or.inl ⟨by rfl, ?_⟩) ?_ ?_
                                        rotate_left
                                        · intro w'
                                          go_simp
                                          with_reducible rfl
                                        rotate_left
                                        · simp only [Act.put, List.setIfInBounds_toArray, List.set_cons_zero, List.set_cons_succ, i64_w, i32_w]
                                          rfl
                                        refine pure_ (i := 12) (N := some 110) (v := ?_) (a' := ?_) #[true, true, true, true, true, true, true, true, true, true, true, true, true, false, false, false, false] rfl rfl (any_of HT_.out (by kernel_rfl)) (fun _ _ _ h => h) (Or.inl ⟨by rfl, ?_⟩) ?_ ?_
                                        rotate_left
                                        · intro w'
                                          go_simp
                                          with_reducible rfl
                                        rotate_left
                                        · simp only [Act.put, List.setIfInBounds_toArray, List.set_cons_zero, List.set_cons_succ, i64_w, i32_w]
                                          rfl
                                        refine pure_ (i := 13) (N := some 111) (v := ?_) (a' := ?_) #[true, true, true, true, true, true, true, true, true, true, true, true, true, true, false, false, false] rfl rfl (any_of HT_.out (by kernel_rfl)) (fun _ _ _ h => h) (Or.inl ⟨by rfl, ?_⟩) ?_ ?_
                                        rotate_left
                                        · intro w'
                                          go_simp
                                          with_reducible rfl
                                        rotate_left
                                        · simp only [Act.put, List.setIfInBounds_toArray, List.set_cons_zero, List.set_cons_succ, i64_w, i32_w]
                                          rfl
                                        refine one_ (i := 14) (N := some 112) #[true, true, true, true, true, true, true, true, true, true, true, true, true, true, true, false, false] rfl rfl (one_of HT_.out (by kernel_rfl)) (by decide) (fun K hK => ?_)
                                        refine value_ (w1 := ?_) (v := ?_) (by rfl) rfl ?_ ?_
                                        rotate_left 2
                                        · go_simp
                                          constructor
                                          · rfl
                                          · rfl
                                        refine hK.out _ _ ⟨(World.cell?_alloc_lt _ _ _ (World.block_lt_of_cell? _ _ (((HB.out.cell (World.block_lt_of_cell? w _ hw278_0)).trans hw278_0)))).trans (((HB.out.cell (World.block_lt_of_cell? w _ hw278_0)).trans hw278_0)), (World.cell?_alloc_lt _ _ _ (World.block_lt_of_cell? _ _ (((HB.out.cell (World.block_lt_of_cell? w _ hw278_1)).trans hw278_1)))).trans (((HB.out.cell (World.block_lt_of_cell? w _ hw278_1)).trans hw278_1)), (World.cell?_alloc_lt _ _ _ (World.block_lt_of_cell? _ _ (((HB.out.cell (World.block_lt_of_cell? w _ hw279_0)).trans hw279_0)))).trans (((HB.out.cell (World.block_lt_of_cell? w _ hw279_0)).trans hw279_0)), (World.cell?_alloc_lt _ _ _ (World.block_lt_of_cell? _ _ (((HB.out.cell (World.block_lt_of_cell? w _ hw279_1)).trans hw279_1)))).trans (((HB.out.cell (World.block_lt_of_cell? w _ hw279_1)).trans hw279_1))⟩ (fun hHeld => ?_)
                                        clear hK K
                                        refine norm_ (a' := ?_) ?_ ?_
                                        rotate_left
                                        · show Act.put _ (some 112) _ = _
                                          simp only [Act.put, List.setIfInBounds_toArray, List.set_cons_zero, List.set_cons_succ, i64_w, i32_w]
                                          rfl
                                        refine one_ (i := 15) (N := some 113) #[true, true, true, true, true, true, true, true, true, true, true, true, true, true, true, true, false] rfl rfl (one_of HT_.out (by kernel_rfl)) (by decide) (fun K hK => ?_)
                                        refine Kd.R_append_step k32 (w0 := w) w.heap.size (by rfl) (.tmp 98) (.tmp 112) 22 32 (.agg #[(.int .i64 0), (.int .i64 0)]) 16 rfl Try.underlying22 info32 rfl (by decide) (by omega) (.slice (some ⟨go48, 0, none⟩) y273.length co48) y277 (⟨wrap64 ((wrap64 (((rd_T32 l0 ji38).f0) + ((rd_T32 l0 ji38).f1))) - 1), 1⟩ : S32) [.int .i64 (wrap64 ((wrap64 (((rd_T32 l0 ji38).f0) + ((rd_T32 l0 ji38).f1))) - 1)), .int .i64 1] (fun k_ => some k_ ≠ (v245 : Value).ownBlock) (fun _ => False) rfl rfl ?aP (fun _ hk => hk.elim) ?aF ?aO ?aB ?aS ?aL ?_
                                        (case aP => exact k32_mkM _ _ _ (⟨wrap64 ((wrap64 (((rd_T32 l0 ji38).f0) + ((rd_T32 l0 ji38).f1))) - 1), 1⟩ : S32))
                                        (case aB => exact (by repeat (first | (with_reducible first | exact HB.out | apply below_alloc | apply pw_below_drewN | apply below_drew1) | exact HB.out)))
                                        (case aF => exact (fun k_ hk => Kd.fresh' (Kd.R_lt (by (with_reducible repeat (first | apply Kd.R_alloc | apply Kd.R_drewN | apply Kd.R_drew)); exact HO_10.out)) k_ hk))
                                        (case aO => exact (by (with_reducible repeat (first | apply Kd.R_alloc | apply Kd.R_drewN | apply Kd.R_drew)); exact HO275.out))
                                        (case aS => exact (below_size (by repeat (first | (with_reducible first | exact HB.out | apply below_alloc | apply pw_below_drewN | apply below_drew1) | exact HB.out))))
                                        (case aL => have := LMc49.out; omega)
                                        intro v281 w70 ho hb hg hat
                                        rw [← Ny280.out] at ho
                                        have n0_ := Aside0.mk (Kd.R_after (ok := (fun _ => True)) (by (with_reducible repeat (first | apply Kd.R_alloc | apply Kd.R_drewN | apply Kd.R_drew)); exact HO_10.out) hg hat)
                                        have n1_ := Aside0.mk (hb)
                                        have n2_ := Aside0.mk (ho)
                                        clear HO_10
                                        clear HB
                                        clear HO275
                                        have HO_10 := n0_
                                        have HB := n1_
                                        have HO282 := n2_
                                        clear n0_ n1_ n2_
                                        clear ho hb hg hat
                                        refine hK.out _ _ ⟨((HB.out.cell (World.block_lt_of_cell? w _ hw278_0)).trans hw278_0), ((HB.out.cell (World.block_lt_of_cell? w _ hw278_1)).trans hw278_1), ((HB.out.cell (World.block_lt_of_cell? w _ hw279_0)).trans hw279_0), ((HB.out.cell (World.block_lt_of_cell? w _ hw279_1)).trans hw279_1)⟩ (fun hHeld => ?_)
                                        clear hK K
                                        refine norm_ (a' := ?_) ?_ ?_
                                        rotate_left
                                        · show Act.put _ (some 113) _ = _
                                          simp only [Act.put, List.setIfInBounds_toArray, List.set_cons_zero, List.set_cons_succ, i64_w, i32_w]
                                          rfl
                                        refine pure_ (i := 16) (N := some 17) (v := ?_) (a' := ?_) #[true, true, true, true, true, true, true, true, true, true, true, true, true, true, true, true, true] rfl rfl (any_of HT_.out (by kernel_rfl)) (fun _ _ _ h => h) (Or.inl ⟨by rfl, ?_⟩) ?_ ?_
                                        rotate_left
                                        · intro w'
                                          go_simp
                                          with_reducible rfl
                                        rotate_left
                                        · simp only [Act.put, List.setIfInBounds_toArray, List.set_cons_zero, List.set_cons_succ, i64_w, i32_w]
                                          rfl
                                        refine done_ (done_of HT_.out (by kernel_rfl)) ?_
                                        obtain ⟨Ao71, co71, eo71⟩ := Kd.R_slice HO282.out
                                        subst eo71
                                        try go_wp2_with (first | ((with_reducible refine gate_callee (f := 10) rfl ?_); refine goesL_ (some 117) rfl rfl Try.func10 (by kernel_rfl) rfl #[.slice Ao71 y280.length co71, .int .i64 a1] rfl (by (try simp only [List.map_toArray, List.map_cons, List.map_nil]); first | done | rfl | (simp only [List.length_drop, List.length_take]; rfl)) ?_; (with_reducible refine (span_Norm.calls _ _ y280 a1 t283 t284 _ ?side1 ?side2 A50.out).mono ?_); (case side1 => repeat (first | exact (Kd.R_reads' HO282.out).2.2 | (with_reducible refine Kd.C_alloc ?_ _) | (with_reducible refine Kd.C_drewN ?_ _) | (with_reducible refine Kd.C_drew ?_))); (case side2 => exact (Kd.R_reads' HO282.out).2.1); rintro e w72 ⟨v285, rfl, ho0, hb⟩; refine ⟨_, rfl, ?_⟩; have n0_ := Aside0.mk (Kd.R_elder' (by (with_reducible repeat (first | apply Kd.R_alloc | apply Kd.R_drewN | apply Kd.R_drew)); exact HO_10.out) (Kd.R_base ho0) hb); have n1_ := Aside0.mk (Kd.R_elder' (by (with_reducible repeat (first | apply Kd.R_alloc | apply Kd.R_drewN | apply Kd.R_drew)); exact HO282.out) (Kd.R_base ho0) hb); have n2_ := Aside0.mk (Kd.R_lower (Kd.R_new' (Kd.R_new' ho0 (Kd.R_lt (by (with_reducible repeat (first | apply Kd.R_alloc | apply Kd.R_drewN | apply Kd.R_drew)); exact HO_10.out))) (Kd.R_lt (by (with_reducible repeat (first | apply Kd.R_alloc | apply Kd.R_drewN | apply Kd.R_drew)); exact HO282.out))) (below_size (by repeat (first | (with_reducible first | exact HB.out | apply below_alloc | apply pw_below_drewN | apply below_drew1) | exact HB.out)))); have n3_ := Aside0.mk (below_step (by repeat (first | (with_reducible first | exact HB.out | apply below_alloc | apply pw_below_drewN | apply below_drew1) | exact HB.out)) hb); clear HO_10; clear HO282; clear HB; have HO_10 := n0_; have HO282 := n1_; have HO286 := n2_; have HB := n3_; clear n0_ n1_ n2_ n3_; (try clear hb); (try clear hb2); (try clear hk); (try clear hi); (try clear ho0)))
                                        go_ret
                                        exact ⟨by first | rfl | (simp [errW_none, errW_some] <;> rfl) | (simp only [← hji12, ← hji13, ← hji37, ← hji38]; first | rfl | (simp [errW_none, errW_some] <;> rfl)) | (simp [*, errW_none, errW_some] <;> rfl), by repeat (first | (with_reducible first | exact HB.out | apply below_alloc | apply pw_below_drewN | apply below_drew1) | exact HB.out)⟩
                                    · rw [if_neg c49] at H
                                      exact absurd H (by simp)
                                  · rw [if_neg c47] at H
                                    exact absurd H (by simp)
                                · rw [if_neg c46] at H
                                  exact absurd H (by simp)
                              · rw [if_neg c45] at H
                                exact absurd H (by simp)
                            · rw [if_neg c44] at H
                              exact absurd H (by simp)
              · rw [if_neg c19] at H
                exact absurd H (by simp)
            · rw [if_neg c16] at H
              exact absurd H (by simp)
          · rw [if_neg c15] at H
            exact absurd H (by simp)
        · rw [if_neg c14] at H
          exact absurd H (by simp)

end Go.Proofs.Ytjmplchknbgmgaa.PSpan
