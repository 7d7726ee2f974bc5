-- laid by gprint.py (this session's own program) out of the translation: Lean checks it
import Derived.Test.YtfdlbnfjohpdlaaGreatDoorPPox0
--compressed
namespace Go.Proofs.YtfdlbnfjohpdlaaGreatDoor.PPo
open Go.RowKit Go.Proofs.YtfdlbnfjohpdlaaGreatDoorW.PrintWords Go.Proofs.YtfdlbnfjohpdlaaGreatDoorW.PrintLast Go.Proofs.YtfdlbnfjohpdlaaGreatDoorW.PrintMore
attribute [local go_sem] max2_int min2_int max_two min_two max_three min_three max_four min_four   -- for this text's walks alone
attribute [local go_sem high] hw_str_leq hw_str_gtr
set_option linter.unusedVariables false
set_option linter.unusedSimpArgs false
def rootcellarref15_Leap.f (a0 : Int) : Option (Bool) := if (Int.tmod a0 4) = 0 then (if (Int.tmod a0 100) = 0 then (some ((Int.tmod a0 400) == 0)) else (some true)) else (some ((Int.tmod a0 400) == 0))
set_option maxHeartbeats 8000000 in
set_option maxRecDepth 100000 in
theorem rootcellarref15_Leap.calls (a0 : Int) (r : Bool) (w : World) (h : rootcellarref15_Leap.f a0 = some r) :
  Calls Tryz.prog 108 #[.int .i64 a0] w fun e w' => e = .returned (.bool r) ∧ Drawn0 w w' := by
 have H : (if (Int.tmod a0 4) = 0 then (if (Int.tmod a0 100) = 0 then (some ((Int.tmod a0 400) == 0)) else (some true)) else (some ((Int.tmod a0 400) == 0))) = some r := h
 clear h
 by_cases c2 : (Int.tmod a0 4) = 0
 ·rw [if_pos c2] at H
  have c2b0 : ((Int.tmod a0 4) == 0) = true := beq_iff_eq.mpr c2
  have c2b1 : ((Int.tmod a0 4) != 0) = false := bne_eq_false_iff_eq.mpr c2
  clear c2
  by_cases c3 : (Int.tmod a0 100) = 0
  ·rw [if_pos c3] at H
   have c3b0 : ((Int.tmod a0 100) == 0) = true := beq_iff_eq.mpr c3
   have c3b1 : ((Int.tmod a0 100) != 0) = false := bne_eq_false_iff_eq.mpr c3
   clear c3
   obtain rfl := Option.some.inj H
   go_enter Tryz.func108, Tryz.ntmps108
   go_wp2
   go_ret
   exact ⟨by first | rfl | (simp; done) | (simp [*]; done), by repeat (first | exact Drawn0.refl _ | apply Drawn0.step)⟩
  ·rw [if_neg c3] at H
   have c3b0 : ((Int.tmod a0 100) == 0) = false := beq_eq_false_iff_ne.mpr c3
   have c3b1 : ((Int.tmod a0 100) != 0) = true := bne_iff_ne.mpr c3
   obtain rfl := Option.some.inj H
   go_enter Tryz.func108, Tryz.ntmps108
   go_wp2
   go_ret
   exact ⟨by first | rfl | (simp; done) | (simp [*]; done), by repeat (first | exact Drawn0.refl _ | apply Drawn0.step)⟩
 ·rw [if_neg c2] at H
  have c2b0 : ((Int.tmod a0 4) == 0) = false := beq_eq_false_iff_ne.mpr c2
  have c2b1 : ((Int.tmod a0 4) != 0) = true := bne_iff_ne.mpr c2
  obtain rfl := Option.some.inj H
  go_enter Tryz.func108, Tryz.ntmps108
  go_wp2
  go_ret
  exact ⟨by first | rfl | (simp; done) | (simp [*]; done), by repeat (first | exact Drawn0.refl _ | apply Drawn0.step)⟩
def rootcellarref15_days.f (a0 : Int) : Option (Int) := (rootcellarref15_Leap.f a0).bind fun t312 => (if t312 = true then (some 366) else (some 365))
set_option maxHeartbeats 8000000 in
set_option maxRecDepth 100000 in
theorem rootcellarref15_days.calls (a0 : Int) (r : Int) (w : World) (h : rootcellarref15_days.f a0 = some r) :
  Calls Tryz.prog 73 #[.int .i64 a0] w fun e w' => e = .returned (.int .i64 r) ∧ Drawn0 w w' := by
 have H : ((rootcellarref15_Leap.f a0).bind fun t312 => (if t312 = true then (some 366) else (some 365))) = some r := h
 clear h
 replace H := Option.bind_eq_some_iff.mp H
 obtain ⟨t312, A20, H⟩ := H
 replace H : (if t312 = true then (some 366) else (some 365)) = some r := H
 have A2 := Aside0.mk A20
 clear A20
 by_cases c3 : t312 = true
 ·subst c3
  have H1 : (some 366) = some r := by rw [if_pos rfl] at H; exact H
  clear H
  have H := H1
  clear H1
  obtain rfl := Option.some.inj H
  go_enter Tryz.func73, Tryz.ntmps73
  go_wp2_with (first | ((with_reducible refine gate_callee (f := 108) rfl ?_); refine goesL_ (some 4) rfl rfl Tryz.func108 (by kernel_rfl) rfl #[.int .i64 a0] rfl argA ?_; (with_reducible refine (rootcellarref15_Leap.calls a0 true _ A2.out).mono ?_); rintro e w' ⟨rfl, ⟨nd, rfl⟩⟩; refine ⟨_, rfl, ?_⟩))
  go_ret
  exact ⟨by first | rfl | (simp; done) | (simp [*]; done), by repeat (first | exact Drawn0.refl _ | apply Drawn0.step)⟩
 ·replace c3 := Bool.eq_false_iff.mpr c3
  subst c3
  have H1 : (some 365) = some r := by rw [if_neg (show ¬ (false = true) by decide)] at H; exact H
  clear H
  have H := H1
  clear H1
  obtain rfl := Option.some.inj H
  go_enter Tryz.func73, Tryz.ntmps73
  go_wp2_with (first | ((with_reducible refine gate_callee (f := 108) rfl ?_); refine goesL_ (some 4) rfl rfl Tryz.func108 (by kernel_rfl) rfl #[.int .i64 a0] rfl argA ?_; (with_reducible refine (rootcellarref15_Leap.calls a0 false _ A2.out).mono ?_); rintro e w' ⟨rfl, ⟨nd, rfl⟩⟩; refine ⟨_, rfl, ?_⟩))
  go_ret
  exact ⟨by first | rfl | (simp; done) | (simp [*]; done), by repeat (first | exact Drawn0.refl _ | apply Drawn0.step)⟩
def rootcellarref15_Long.j0 : Nat → Int → Int → Int → Bool → Option (Int)
 | 0, _, _, _, _ => none
 | k + 1, x0, x1, x5, x6 => if x6 = true then (some 30) else (if x5 = 2 then ((rootcellarref15_Leap.f x0).bind fun t313 => (if t313 = true then (some 29) else (some 28))) else (if x1 < 1 then (some 0) else (if x1 > 12 then (some 0) else (some 31))))
def rootcellarref15_Long.f (k : Nat) (a0 : Int) (a1 : Int) : Option (Int) := if a1 = 4 then (rootcellarref15_Long.j0 k a0 a1 a1 (a1 == 4)) else (if a1 = 6 then (rootcellarref15_Long.j0 k a0 a1 a1 (a1 == 6)) else (if a1 = 9 then (rootcellarref15_Long.j0 k a0 a1 a1 (a1 == 9)) else (rootcellarref15_Long.j0 k a0 a1 a1 (a1 == 11))))
set_option maxHeartbeats 8000000 in
set_option maxRecDepth 100000 in
theorem rootcellarref15_Long.calls (k : Nat) (a0 : Int) (a1 : Int) (r : Int) (w : World) (h : rootcellarref15_Long.f k a0 a1 = some r) :
  Calls Tryz.prog 74 #[.int .i64 a0, .int .i64 a1] w fun e w' => e = .returned (.int .i64 r) ∧ Drawn0 w w' := by
 have H : (if a1 = 4 then (rootcellarref15_Long.j0 k a0 a1 a1 (a1 == 4)) else (if a1 = 6 then (rootcellarref15_Long.j0 k a0 a1 a1 (a1 == 6)) else (if a1 = 9 then (rootcellarref15_Long.j0 k a0 a1 a1 (a1 == 9)) else (rootcellarref15_Long.j0 k a0 a1 a1 (a1 == 11))))) = some r := h
 clear h
 have HC3 := Aside0.mk H
 clear H
 go_enter Tryz.func74, Tryz.ntmps74
 go_upto_if 6 with (fail)
 go_cut [6] (fun v6 wc => ∃ (kq : Nat) (x6_2 : Bool), v6 = .bool x6_2 ∧ Aside0 (rootcellarref15_Long.j0 kq a0 a1 a1 x6_2 = some r) ∧ Aside0 (kq ≤ k) ∧ Drawn0 w wc)
 case first =>
  have H := HC3.out
  clear HC3
  by_cases c4 : a1 = 4
  ·rw [if_pos c4] at H
   have c4b0 : (a1 == 4) = true := beq_iff_eq.mpr c4
   have c4b1 : (a1 != 4) = false := bne_eq_false_iff_eq.mpr c4
   clear c4
   (first | rw [c4b0] | (simp only [i64_w, i32_w]; rw [c4b0]) | skip)
   have H' := Aside0.mk H
   clear H
   go_wp2
   go_meet
   case rel => exact ⟨_, ((a1 == 4)), (by first | rfl | (simp; done) | (simp [*]; done)), H', ⟨by first | omega | exact Nat.le_refl _⟩, by repeat (first | exact Drawn0.refl _ | apply Drawn0.step)⟩
  ·rw [if_neg c4] at H
   have c4b0 : (a1 == 4) = false := beq_eq_false_iff_ne.mpr c4
   have c4b1 : (a1 != 4) = true := bne_iff_ne.mpr c4
   (first | rw [c4b0] | (simp only [i64_w, i32_w]; rw [c4b0]) | skip)
   by_cases c5 : a1 = 6
   ·rw [if_pos c5] at H
    have c5b0 : (a1 == 6) = true := beq_iff_eq.mpr c5
    have c5b1 : (a1 != 6) = false := bne_eq_false_iff_eq.mpr c5
    clear c5
    have H' := Aside0.mk H
    clear H
    go_wp2
    go_meet
    case rel => exact ⟨_, ((a1 == 6)), (by first | rfl | (simp; done) | (simp [*]; done)), H', ⟨by first | omega | exact Nat.le_refl _⟩, by repeat (first | exact Drawn0.refl _ | apply Drawn0.step)⟩
   ·rw [if_neg c5] at H
    have c5b0 : (a1 == 6) = false := beq_eq_false_iff_ne.mpr c5
    have c5b1 : (a1 != 6) = true := bne_iff_ne.mpr c5
    by_cases c6 : a1 = 9
    ·rw [if_pos c6] at H
     have c6b0 : (a1 == 9) = true := beq_iff_eq.mpr c6
     have c6b1 : (a1 != 9) = false := bne_eq_false_iff_eq.mpr c6
     clear c6
     have H' := Aside0.mk H
     clear H
     go_wp2
     go_meet
     case rel => exact ⟨_, ((a1 == 9)), (by first | rfl | (simp; done) | (simp [*]; done)), H', ⟨by first | omega | exact Nat.le_refl _⟩, by repeat (first | exact Drawn0.refl _ | apply Drawn0.step)⟩
    ·rw [if_neg c6] at H
     have c6b0 : (a1 == 9) = false := beq_eq_false_iff_ne.mpr c6
     have c6b1 : (a1 != 9) = true := bne_iff_ne.mpr c6
     have H' := Aside0.mk H
     clear H
     go_wp2
     go_meet
     case rel => exact ⟨_, ((a1 == 11)), (by first | rfl | (simp; done) | (simp [*]; done)), H', ⟨by first | omega | exact Nat.le_refl _⟩, by repeat (first | exact Drawn0.refl _ | apply Drawn0.step)⟩
 case rest =>
  clear HC3
  try clear p2
  try clear c4
  try clear c4b0
  try clear c4b1
  try clear c5
  try clear c5b0
  try clear c5b1
  try clear c6
  try clear c6b0
  try clear c6b1
  obtain ⟨kq, x6_2, rfl, HA, HJ2, ⟨mc2, rfl⟩⟩ := hcut
  cases kq with
  | zero => exact absurd HA.out (by simp [rootcellarref15_Long.j0])
  | succ kj2 =>
   have H := HA.out
   clear HA
   simp only [rootcellarref15_Long.j0] at H
   by_cases c7 : x6_2 = true
   ·subst c7
    have H1 : (some 30) = some r := by rw [if_pos rfl] at H; exact H
    clear H
    have H := H1
    clear H1
    obtain rfl := Option.some.inj H
    go_wp2
    go_ret
    exact ⟨by first | rfl | (simp; done) | (simp [*]; done), by repeat (first | exact Drawn0.refl _ | apply Drawn0.step)⟩
   ·replace c7 := Bool.eq_false_iff.mpr c7
    subst c7
    have H1 : (if a1 = 2 then ((rootcellarref15_Leap.f a0).bind fun t313 => (if t313 = true then (some 29) else (some 28))) else (if a1 < 1 then (some 0) else (if a1 > 12 then (some 0) else (some 31)))) = some r := by rw [if_neg (show ¬ (false = true) by decide)] at H; exact H
    clear H
    have H := H1
    clear H1
    by_cases c8 : a1 = 2
    ·rw [if_pos c8] at H
     have c8b0 : (a1 == 2) = true := beq_iff_eq.mpr c8
     have c8b1 : (a1 != 2) = false := bne_eq_false_iff_eq.mpr c8
     clear c8
     replace H := Option.bind_eq_some_iff.mp H
     obtain ⟨t313, A90, H⟩ := H
     replace H : (if t313 = true then (some 29) else (some 28)) = some r := H
     have A9 := Aside0.mk A90
     clear A90
     by_cases c10 : t313 = true
     ·subst c10
      have H1 : (some 29) = some r := by rw [if_pos rfl] at H; exact H
      clear H
      have H := H1
      clear H1
      obtain rfl := Option.some.inj H
      go_wp2_with (first | ((with_reducible refine gate_callee (f := 108) rfl ?_); refine goesL_ (some 14) rfl rfl Tryz.func108 (by kernel_rfl) rfl #[.int .i64 a0] rfl argA ?_; (with_reducible refine (rootcellarref15_Leap.calls a0 true _ A9.out).mono ?_); rintro e w' ⟨rfl, ⟨nd, rfl⟩⟩; refine ⟨_, rfl, ?_⟩))
      go_ret
      exact ⟨by first | rfl | (simp; done) | (simp [*]; done), by repeat (first | exact Drawn0.refl _ | apply Drawn0.step)⟩
     ·replace c10 := Bool.eq_false_iff.mpr c10
      subst c10
      have H1 : (some 28) = some r := by rw [if_neg (show ¬ (false = true) by decide)] at H; exact H
      clear H
      have H := H1
      clear H1
      obtain rfl := Option.some.inj H
      go_wp2_with (first | ((with_reducible refine gate_callee (f := 108) rfl ?_); refine goesL_ (some 14) rfl rfl Tryz.func108 (by kernel_rfl) rfl #[.int .i64 a0] rfl argA ?_; (with_reducible refine (rootcellarref15_Leap.calls a0 false _ A9.out).mono ?_); rintro e w' ⟨rfl, ⟨nd, rfl⟩⟩; refine ⟨_, rfl, ?_⟩))
      go_ret
      exact ⟨by first | rfl | (simp; done) | (simp [*]; done), by repeat (first | exact Drawn0.refl _ | apply Drawn0.step)⟩
    ·rw [if_neg c8] at H
     have c8b0 : (a1 == 2) = false := beq_eq_false_iff_ne.mpr c8
     have c8b1 : (a1 != 2) = true := bne_iff_ne.mpr c8
     by_cases c11 : a1 < 1
     ·rw [if_pos c11] at H
      have c11b0 : decide (a1 < 1) = true := decide_eq_true c11
      clear c11
      obtain rfl := Option.some.inj H
      go_wp2
      go_ret
      exact ⟨by first | rfl | (simp; done) | (simp [*]; done), by repeat (first | exact Drawn0.refl _ | apply Drawn0.step)⟩
     ·rw [if_neg c11] at H
      have c11b0 : decide (a1 < 1) = false := decide_eq_false c11
      clear c11
      by_cases c12 : a1 > 12
      ·rw [if_pos c12] at H
       have c12b0 : decide (12 < a1) = true := decide_eq_true c12
       clear c12
       obtain rfl := Option.some.inj H
       go_wp2
       go_ret
       exact ⟨by first | rfl | (simp; done) | (simp [*]; done), by repeat (first | exact Drawn0.refl _ | apply Drawn0.step)⟩
      ·rw [if_neg c12] at H
       have c12b0 : decide (12 < a1) = false := decide_eq_false c12
       clear c12
       obtain rfl := Option.some.inj H
       go_wp2
       go_ret
       exact ⟨by first | rfl | (simp; done) | (simp [*]; done), by repeat (first | exact Drawn0.refl _ | apply Drawn0.step)⟩
mutual
def rootcellarref15_Civil.j0 : Nat → Int → Bool → Option (Int × Int × Int)
 | 0, _, _ => none
 | k + 1, x0, x12 => if x12 = true then (some (0, 0, 0)) else (rootcellarref15_Civil.l0 k (Int.tmod x0 146097) (wrap64 (1970 + (wrap64 (400 * (wrap64 (Int.tdiv x0 146097)))))))
def rootcellarref15_Civil.l0 : Nat → Int → Int → Option (Int × Int × Int)
 | 0, _, _ => none
 | k + 1, x0, x5 => (rootcellarref15_days.f x5).bind fun t314 => (if x0 ≥ t314 then (rootcellarref15_Civil.l0 k (wrap64 (x0 - t314)) (wrap64 (x5 + 1))) else (rootcellarref15_Civil.l1 k x0 x5 1))
def rootcellarref15_Civil.l1 : Nat → Int → Int → Int → Option (Int × Int × Int)
 | 0, _, _, _ => none
 | k + 1, x0, x5, x6 => (rootcellarref15_Long.f k x5 x6).bind fun t315 => (if x0 ≥ t315 then (rootcellarref15_Civil.l1 k (wrap64 (x0 - t315)) x5 (wrap64 (x6 + 1))) else (some (x5, x6, wrap64 (x0 + 1))))
end
def rootcellarref15_Civil.f (k : Nat) (a0 : Int) : Option (Int × Int × Int) := if a0 < 0 then (rootcellarref15_Civil.j0 k a0 true) else (rootcellarref15_Civil.j0 k a0 (decide (a0 > 281474976710656)))
set_option maxHeartbeats 8000000 in
set_option maxRecDepth 100000 in
theorem rootcellarref15_Civil.calls (k : Nat) (a0 : Int) (r1 : Int) (r2 : Int) (r3 : Int) (w : World) (h : rootcellarref15_Civil.f k a0 = some (r1, r2, r3)) :
  Calls Tryz.prog 47 #[.int .i64 a0] w fun e w' => e = .returned (.tuple #[.int .i64 r1, .int .i64 r2, .int .i64 r3]) ∧ Drawn0 w w' := by
 have H : (if a0 < 0 then (rootcellarref15_Civil.j0 k a0 true) else (rootcellarref15_Civil.j0 k a0 (decide (a0 > 281474976710656)))) = some (r1, r2, r3) := h
 clear h
 have HC2 := Aside0.mk H
 clear H
 go_enter Tryz.func47, Tryz.ntmps47
 go_upto_region 1 with (fail)
 go_cut [12] (fun v12 wc => ∃ (kq : Nat) (x12_1 : Bool), v12 = .bool x12_1 ∧ Aside0 (rootcellarref15_Civil.j0 kq a0 x12_1 = some (r1, r2, r3)) ∧ Aside0 (kq ≤ k) ∧ Drawn0 w wc)
 case first =>
  have H := HC2.out
  clear HC2
  by_cases c3 : a0 < 0
  ·rw [if_pos c3] at H
   have c3b0 : decide (a0 < 0) = true := decide_eq_true c3
   clear c3
   (first | rw [c3b0] | (simp only [i64_w, i32_w]; rw [c3b0]) | skip)
   have H' := Aside0.mk H
   clear H
   go_wp2
   go_meet
   case rel => exact ⟨_, (true), (by first | rfl | (simp; done) | (simp [*]; done)), H', ⟨by first | omega | exact Nat.le_refl _⟩, by repeat (first | exact Drawn0.refl _ | apply Drawn0.step)⟩
  ·rw [if_neg c3] at H
   have c3b0 : decide (a0 < 0) = false := decide_eq_false c3
   clear c3
   (first | rw [c3b0] | (simp only [i64_w, i32_w]; rw [c3b0]) | skip)
   have H' := Aside0.mk H
   clear H
   go_wp2
   go_meet
   case rel => exact ⟨_, (decide (a0 > 281474976710656)), (by first | rfl | (simp; done) | (simp [*]; done)), H', ⟨by first | omega | exact Nat.le_refl _⟩, by repeat (first | exact Drawn0.refl _ | apply Drawn0.step)⟩
 case rest =>
  clear HC2
  try clear p2
  try clear c3
  try clear c3b0
  obtain ⟨kq, x12_1, rfl, HA, HJ1, ⟨mc1, rfl⟩⟩ := hcut
  cases kq with
  | zero => exact absurd HA.out (by simp [rootcellarref15_Civil.j0])
  | succ kj1 =>
   have H := HA.out
   clear HA
   simp only [rootcellarref15_Civil.j0] at H
   by_cases c4 : x12_1 = true
   ·subst c4
    have H1 : (some (0, 0, 0)) = some (r1, r2, r3) := by rw [if_pos rfl] at H; exact H
    clear H
    have H := H1
    clear H1
    simp only [Option.some.injEq, Prod.mk.injEq] at H
    obtain ⟨rfl, rfl, rfl⟩ := H
    go_wp2
    go_ret3
    exact ⟨by first | rfl | (simp; done) | (simp [*]; done), by repeat (first | exact Drawn0.refl _ | apply Drawn0.step)⟩
   ·replace c4 := Bool.eq_false_iff.mpr c4
    subst c4
    have H1 : (rootcellarref15_Civil.l0 kj1 (Int.tmod a0 146097) (wrap64 (1970 + (wrap64 (400 * (wrap64 (Int.tdiv a0 146097))))))) = some (r1, r2, r3) := by rw [if_neg (show ¬ (false = true) by decide)] at H; exact H
    clear H
    have H := H1
    clear H1
    have H' := Aside0.mk H
    clear H
    go_wp2
    go_loopg [0, 5] kj1 (fun kq v0 v5 w' => ∃ (x0_2 : Int) (x5_2 : Int), v0 = .int .i64 x0_2 ∧ v5 = .int .i64 x5_2 ∧ Aside0 (rootcellarref15_Civil.l0 kq x0_2 x5_2 = some (r1, r2, r3)) ∧ Aside0 (kq ≤ kj1) ∧ Drawn0 w w')
    case atStart => exact ⟨(Int.tmod a0 146097), (wrap64 (1970 + (wrap64 (400 * (wrap64 (Int.tdiv a0 146097)))))), (by first | rfl | (simp; done) | (simp [*]; done)), (by first | rfl | (simp; done) | (simp [*]; done)), H', ⟨Nat.le_refl _⟩, by repeat (first | exact Drawn0.refl _ | apply Drawn0.step)⟩
    case round =>
     clear H'
     try clear c1
     try clear p2
     try clear c3
     try clear c3b0
     try clear c4
     try clear p2
     obtain ⟨x0_2, x5_2, rfl, rfl, HA, HK2, ⟨m2, rfl⟩⟩ := hrel
     cases gk with
     | zero => exact absurd HA.out (by simp [rootcellarref15_Civil.l0])
     | succ k2 =>
      have H := HA.out
      clear HA
      simp only [rootcellarref15_Civil.l0] at H
      replace H := Option.bind_eq_some_iff.mp H
      obtain ⟨t314, A50, H⟩ := H
      replace H : (if x0_2 ≥ t314 then (rootcellarref15_Civil.l0 k2 (wrap64 (x0_2 - t314)) (wrap64 (x5_2 + 1))) else (rootcellarref15_Civil.l1 k2 x0_2 x5_2 1)) = some (r1, r2, r3) := H
      have A5 := Aside0.mk A50
      clear A50
      by_cases c6 : x0_2 ≥ t314
      ·rw [if_pos c6] at H
       have c6b0 : decide (t314 ≤ x0_2) = true := decide_eq_true c6
       clear c6
       have H' := Aside0.mk H
       clear H
       go_wp2_with (first | ((with_reducible refine gate_callee (f := 73) rfl ?_); (first | refine goesL_ (some 21) rfl rfl Tryz.func73 (by kernel_rfl) rfl #[.int .i64 x5_2] rfl argA ?_ | refine goesL_ (some 25) rfl rfl Tryz.func73 (by kernel_rfl) rfl #[.int .i64 x5_2] rfl argA ?_); (with_reducible refine (rootcellarref15_days.calls x5_2 t314 _ A5.out).mono ?_); rintro e w' ⟨rfl, ⟨nd, rfl⟩⟩; refine ⟨_, rfl, ?_⟩))
       go_roundg k2
       case measure => have := HJ1.out; have := HK2.out; omega
       case rel => exact ⟨(wrap64 (x0_2 - t314)), (wrap64 (x5_2 + 1)), (by first | rfl | (simp; done) | (simp [*]; done)), (by first | rfl | (simp; done) | (simp [*]; done)), H', ⟨by have := HJ1.out; have := HK2.out; omega⟩, by repeat (first | exact Drawn0.refl _ | apply Drawn0.step)⟩
      ·rw [if_neg c6] at H
       have c6b0 : decide (t314 ≤ x0_2) = false := decide_eq_false c6
       clear c6
       have H' := Aside0.mk H
       clear H
       go_wp2_with (first | ((with_reducible refine gate_callee (f := 73) rfl ?_); (first | refine goesL_ (some 21) rfl rfl Tryz.func73 (by kernel_rfl) rfl #[.int .i64 x5_2] rfl argA ?_ | refine goesL_ (some 25) rfl rfl Tryz.func73 (by kernel_rfl) rfl #[.int .i64 x5_2] rfl argA ?_); (with_reducible refine (rootcellarref15_days.calls x5_2 t314 _ A5.out).mono ?_); rintro e w' ⟨rfl, ⟨nd, rfl⟩⟩; refine ⟨_, rfl, ?_⟩))
       go_loopg [0, 6] k2 (fun kq v0 v6 w' => ∃ (x0_3 : Int) (x6_3 : Int), v0 = .int .i64 x0_3 ∧ v6 = .int .i64 x6_3 ∧ Aside0 (rootcellarref15_Civil.l1 kq x0_3 x5_2 x6_3 = some (r1, r2, r3)) ∧ Aside0 (kq ≤ k2) ∧ Drawn0 w w')
       case atStart => exact ⟨(x0_2), (1), (by first | rfl | (simp; done) | (simp [*]; done)), (by first | rfl | (simp; done) | (simp [*]; done)), H', ⟨Nat.le_refl _⟩, by repeat (first | exact Drawn0.refl _ | apply Drawn0.step)⟩
       case round =>
        clear H'
        try clear c1
        try clear p2
        try clear c3
        try clear c3b0
        try clear c4
        try clear c6
        try clear c6b0
        try clear p6
        try clear p2
        obtain ⟨x0_3, x6_3, rfl, rfl, HA, HK3, ⟨m3, rfl⟩⟩ := hrel
        cases gk with
        | zero => exact absurd HA.out (by simp [rootcellarref15_Civil.l1])
        | succ k3 =>
         have H := HA.out
         clear HA
         simp only [rootcellarref15_Civil.l1] at H
         replace H := Option.bind_eq_some_iff.mp H
         obtain ⟨t315, A70, H⟩ := H
         replace H : (if x0_3 ≥ t315 then (rootcellarref15_Civil.l1 k3 (wrap64 (x0_3 - t315)) x5_2 (wrap64 (x6_3 + 1))) else (some (x5_2, x6_3, wrap64 (x0_3 + 1)))) = some (r1, r2, r3) := H
         have A7 := Aside0.mk A70
         clear A70
         by_cases c8 : x0_3 ≥ t315
         ·rw [if_pos c8] at H
          have c8b0 : decide (t315 ≤ x0_3) = true := decide_eq_true c8
          clear c8
          have H' := Aside0.mk H
          clear H
          go_wp2_with (first | ((with_reducible refine gate_callee (f := 74) rfl ?_); (first | refine goesL_ (some 32) rfl rfl Tryz.func74 (by kernel_rfl) rfl #[.int .i64 x5_2, .int .i64 x6_3] rfl argA ?_ | refine goesL_ (some 37) rfl rfl Tryz.func74 (by kernel_rfl) rfl #[.int .i64 x5_2, .int .i64 x6_3] rfl argA ?_); (with_reducible refine (rootcellarref15_Long.calls k3 x5_2 x6_3 t315 _ A7.out).mono ?_); rintro e w' ⟨rfl, ⟨nd, rfl⟩⟩; refine ⟨_, rfl, ?_⟩))
          go_roundg k3
          case measure => have := HJ1.out; have := HK2.out; have := HK3.out; omega
          case rel => exact ⟨(wrap64 (x0_3 - t315)), (wrap64 (x6_3 + 1)), (by first | rfl | (simp; done) | (simp [*]; done)), (by first | rfl | (simp; done) | (simp [*]; done)), H', ⟨by have := HJ1.out; have := HK2.out; have := HK3.out; omega⟩, by repeat (first | exact Drawn0.refl _ | apply Drawn0.step)⟩
         ·rw [if_neg c8] at H
          have c8b0 : decide (t315 ≤ x0_3) = false := decide_eq_false c8
          clear c8
          simp only [Option.some.injEq, Prod.mk.injEq] at H
          obtain ⟨rfl, rfl, rfl⟩ := H
          go_wp2_with (first | ((with_reducible refine gate_callee (f := 74) rfl ?_); (first | refine goesL_ (some 32) rfl rfl Tryz.func74 (by kernel_rfl) rfl #[.int .i64 x5_2, .int .i64 x6_3] rfl argA ?_ | refine goesL_ (some 37) rfl rfl Tryz.func74 (by kernel_rfl) rfl #[.int .i64 x5_2, .int .i64 x6_3] rfl argA ?_); (with_reducible refine (rootcellarref15_Long.calls k3 x5_2 x6_3 t315 _ A7.out).mono ?_); rintro e w' ⟨rfl, ⟨nd, rfl⟩⟩; refine ⟨_, rfl, ?_⟩))
          go_ret3
          exact ⟨by first | rfl | (simp; done) | (simp [*]; done), by repeat (first | exact Drawn0.refl _ | apply Drawn0.step)⟩
def rootcellarref15_Bucket.f (k : Nat) (a0 : Int) (a1 : Int) : Option (Int) := (rootcellarref15_Civil.f k (wrap64 (IntKind.u64.wrap (Int.tdiv a1 86400)))).bind fun bt316 => (if a0 = 0 then (some (wrap64 (IntKind.u64.wrap (Int.tdiv a1 86400)))) else (if a0 = 1 then (some (wrap64 (Int.tdiv (wrap64 ((wrap64 (IntKind.u64.wrap (Int.tdiv a1 86400))) + 3)) 7))) else (if a0 = 2 then (some (wrap64 ((wrap64 ((wrap64 (12 * bt316.1)) + bt316.2.1)) - 1))) else (if a0 = 3 then (some bt316.1) else (some 0)))))
set_option maxHeartbeats 8000000 in
set_option maxRecDepth 100000 in
theorem rootcellarref15_Bucket.calls (k : Nat) (a0 : Int) (a1 : Int) (r : Int) (w : World) (h : rootcellarref15_Bucket.f k a0 a1 = some r) :
  Calls Tryz.prog 25 #[.int .i64 a0, .int .u64 a1] w fun e w' => e = .returned (.int .i64 r) ∧ Drawn0 w w' := by
 have H : ((rootcellarref15_Civil.f k (wrap64 (IntKind.u64.wrap (Int.tdiv a1 86400)))).bind fun bt316 => (if a0 = 0 then (some (wrap64 (IntKind.u64.wrap (Int.tdiv a1 86400)))) else (if a0 = 1 then (some (wrap64 (Int.tdiv (wrap64 ((wrap64 (IntKind.u64.wrap (Int.tdiv a1 86400))) + 3)) 7))) else (if a0 = 2 then (some (wrap64 ((wrap64 ((wrap64 (12 * bt316.1)) + bt316.2.1)) - 1))) else (if a0 = 3 then (some bt316.1) else (some 0)))))) = some r := h
 clear h
 replace H := Option.bind_eq_some_iff.mp H
 obtain ⟨⟨t316, t317, t318⟩, A30, H⟩ := H
 replace H : (if a0 = 0 then (some (wrap64 (IntKind.u64.wrap (Int.tdiv a1 86400)))) else (if a0 = 1 then (some (wrap64 (Int.tdiv (wrap64 ((wrap64 (IntKind.u64.wrap (Int.tdiv a1 86400))) + 3)) 7))) else (if a0 = 2 then (some (wrap64 ((wrap64 ((wrap64 (12 * t316)) + t317)) - 1))) else (if a0 = 3 then (some t316) else (some 0))))) = some r := H
 have A3 := Aside0.mk A30
 clear A30
 by_cases c4 : a0 = 0
 ·rw [if_pos c4] at H
  have c4b0 : (a0 == 0) = true := beq_iff_eq.mpr c4
  have c4b1 : (a0 != 0) = false := bne_eq_false_iff_eq.mpr c4
  clear c4
  obtain rfl := Option.some.inj H
  go_enter Tryz.func25, Tryz.ntmps25
  go_wp2_with (first | ((with_reducible refine gate_callee (f := 47) rfl ?_); refine goesL_ (some 14) rfl rfl Tryz.func47 (by kernel_rfl) rfl #[.int .i64 (wrap64 (IntKind.u64.wrap (Int.tdiv a1 86400)))] rfl argA ?_; (with_reducible refine (rootcellarref15_Civil.calls k (wrap64 (IntKind.u64.wrap (Int.tdiv a1 86400))) t316 t317 t318 _ A3.out).mono ?_); rintro e w' ⟨rfl, ⟨nd, rfl⟩⟩; refine ⟨_, rfl, ?_⟩))
  go_ret
  exact ⟨by first | rfl | (simp; done) | (simp [*]; done), by repeat (first | exact Drawn0.refl _ | apply Drawn0.step)⟩
 ·rw [if_neg c4] at H
  have c4b0 : (a0 == 0) = false := beq_eq_false_iff_ne.mpr c4
  have c4b1 : (a0 != 0) = true := bne_iff_ne.mpr c4
  by_cases c5 : a0 = 1
  ·rw [if_pos c5] at H
   have c5b0 : (a0 == 1) = true := beq_iff_eq.mpr c5
   have c5b1 : (a0 != 1) = false := bne_eq_false_iff_eq.mpr c5
   clear c5
   obtain rfl := Option.some.inj H
   go_enter Tryz.func25, Tryz.ntmps25
   go_wp2_with (first | ((with_reducible refine gate_callee (f := 47) rfl ?_); refine goesL_ (some 14) rfl rfl Tryz.func47 (by kernel_rfl) rfl #[.int .i64 (wrap64 (IntKind.u64.wrap (Int.tdiv a1 86400)))] rfl argA ?_; (with_reducible refine (rootcellarref15_Civil.calls k (wrap64 (IntKind.u64.wrap (Int.tdiv a1 86400))) t316 t317 t318 _ A3.out).mono ?_); rintro e w' ⟨rfl, ⟨nd, rfl⟩⟩; refine ⟨_, rfl, ?_⟩))
   go_ret
   exact ⟨by first | rfl | (simp; done) | (simp [*]; done), by repeat (first | exact Drawn0.refl _ | apply Drawn0.step)⟩
  ·rw [if_neg c5] at H
   have c5b0 : (a0 == 1) = false := beq_eq_false_iff_ne.mpr c5
   have c5b1 : (a0 != 1) = true := bne_iff_ne.mpr c5
   by_cases c6 : a0 = 2
   ·rw [if_pos c6] at H
    have c6b0 : (a0 == 2) = true := beq_iff_eq.mpr c6
    have c6b1 : (a0 != 2) = false := bne_eq_false_iff_eq.mpr c6
    clear c6
    obtain rfl := Option.some.inj H
    go_enter Tryz.func25, Tryz.ntmps25
    go_wp2_with (first | ((with_reducible refine gate_callee (f := 47) rfl ?_); refine goesL_ (some 14) rfl rfl Tryz.func47 (by kernel_rfl) rfl #[.int .i64 (wrap64 (IntKind.u64.wrap (Int.tdiv a1 86400)))] rfl argA ?_; (with_reducible refine (rootcellarref15_Civil.calls k (wrap64 (IntKind.u64.wrap (Int.tdiv a1 86400))) t316 t317 t318 _ A3.out).mono ?_); rintro e w' ⟨rfl, ⟨nd, rfl⟩⟩; refine ⟨_, rfl, ?_⟩))
    go_ret
    exact ⟨by first | rfl | (simp; done) | (simp [*]; done), by repeat (first | exact Drawn0.refl _ | apply Drawn0.step)⟩
   ·rw [if_neg c6] at H
    have c6b0 : (a0 == 2) = false := beq_eq_false_iff_ne.mpr c6
    have c6b1 : (a0 != 2) = true := bne_iff_ne.mpr c6
    by_cases c7 : a0 = 3
    ·rw [if_pos c7] at H
     have c7b0 : (a0 == 3) = true := beq_iff_eq.mpr c7
     have c7b1 : (a0 != 3) = false := bne_eq_false_iff_eq.mpr c7
     clear c7
     obtain rfl := Option.some.inj H
     go_enter Tryz.func25, Tryz.ntmps25
     go_wp2_with (first | ((with_reducible refine gate_callee (f := 47) rfl ?_); refine goesL_ (some 14) rfl rfl Tryz.func47 (by kernel_rfl) rfl #[.int .i64 (wrap64 (IntKind.u64.wrap (Int.tdiv a1 86400)))] rfl argA ?_; (with_reducible refine (rootcellarref15_Civil.calls k (wrap64 (IntKind.u64.wrap (Int.tdiv a1 86400))) t316 t317 t318 _ A3.out).mono ?_); rintro e w' ⟨rfl, ⟨nd, rfl⟩⟩; refine ⟨_, rfl, ?_⟩))
     go_ret
     exact ⟨by first | rfl | (simp; done) | (simp [*]; done), by repeat (first | exact Drawn0.refl _ | apply Drawn0.step)⟩
    ·rw [if_neg c7] at H
     have c7b0 : (a0 == 3) = false := beq_eq_false_iff_ne.mpr c7
     have c7b1 : (a0 != 3) = true := bne_iff_ne.mpr c7
     obtain rfl := Option.some.inj H
     go_enter Tryz.func25, Tryz.ntmps25
     go_wp2_with (first | ((with_reducible refine gate_callee (f := 47) rfl ?_); refine goesL_ (some 14) rfl rfl Tryz.func47 (by kernel_rfl) rfl #[.int .i64 (wrap64 (IntKind.u64.wrap (Int.tdiv a1 86400)))] rfl argA ?_; (with_reducible refine (rootcellarref15_Civil.calls k (wrap64 (IntKind.u64.wrap (Int.tdiv a1 86400))) t316 t317 t318 _ A3.out).mono ?_); rintro e w' ⟨rfl, ⟨nd, rfl⟩⟩; refine ⟨_, rfl, ?_⟩))
     go_ret
     exact ⟨by first | rfl | (simp; done) | (simp [*]; done), by repeat (first | exact Drawn0.refl _ | apply Drawn0.step)⟩
def rootcellarref16_newer.f (a0_0 : Int) (a0_1 : Int) (a0_2 : ByteArray) (a0_3 : Int) (a0_4 : Bool) (a0_5 : Bool) (a1_0 : Int) (a1_1 : Int) (a1_2 : ByteArray) (a1_3 : Int) (a1_4 : Bool) (a1_5 : Bool) : Option (Bool) := if a0_3 > a1_3 then (some true) else (if a0_3 = a1_3 then (some (decide (a0_0 > a1_0))) else (some false))
set_option maxHeartbeats 8000000 in
set_option maxRecDepth 100000 in
theorem rootcellarref16_newer.calls (a0_0 : Int) (a0_1 : Int) (a0_2 : ByteArray) (a0_3 : Int) (a0_4 : Bool) (a0_5 : Bool) (a1_0 : Int) (a1_1 : Int) (a1_2 : ByteArray) (a1_3 : Int) (a1_4 : Bool) (a1_5 : Bool) (r : Bool) (w : World) (h : rootcellarref16_newer.f a0_0 a0_1 a0_2 a0_3 a0_4 a0_5 a1_0 a1_1 a1_2 a1_3 a1_4 a1_5 = some r) :
  Calls Tryz.prog 128 #[.agg #[.int .i64 a0_0, .int .i64 a0_1, .string a0_2, .int .u64 a0_3, .bool a0_4, .bool a0_5], .agg #[.int .i64 a1_0, .int .i64 a1_1, .string a1_2, .int .u64 a1_3, .bool a1_4, .bool a1_5]] w fun e w' => e = .returned (.bool r) ∧ Below w.heap.size w w' := by
 have hu81 := Tryz.underlying81
 have HB := Aside0.mk (Below.refl w.heap.size w)
 have H : (if a0_3 > a1_3 then (some true) else (if a0_3 = a1_3 then (some (decide (a0_0 > a1_0))) else (some false))) = some r := h
 clear h
 by_cases c3 : a0_3 > a1_3
 ·rw [if_pos c3] at H
  have c3b0 : decide (a1_3 < a0_3) = true := decide_eq_true c3
  clear c3
  obtain rfl := Option.some.inj H
  go_enter Tryz.func128, Tryz.ntmps128
  go_wp2_with (first | ((with_reducible refine gate_dst (N := 2) rfl ?_); refine box_event ?hg (N := 2) ?hd (cs := #[.int .i64 a0_0, .int .i64 a0_1, .string a0_2, .int .u64 a0_3, .bool a0_4, .bool a0_5]) (t := 81) ?hr ?_; (case hd => rfl); (case hg => rfl); (case hr => first | (go_simp; done) | (go_simp; rfl)); intro gb319 hg w4 hbox hb; have n0_ := Aside0.mk (below_step belA hb); have n1_ := Aside0.mk (hbox); have n2_ := Aside0.mk ((by rw [hg]; exact (below_size belA) : w.heap.size ≤ gb319)); have n3_ := Aside0.mk ((by rw [hg]; exact (below_size belA) : w.heap.size ≤ gb319)); clear HB; have HB := n0_; have BK319 := n1_; have GW319 := n2_; have GE319 := n3_; clear n0_ n1_ n2_ n3_; clear hb hbox hg) | ((with_reducible refine gate_dst (N := 3) rfl ?_); refine box_event ?hg (N := 3) ?hd (cs := #[.int .i64 a1_0, .int .i64 a1_1, .string a1_2, .int .u64 a1_3, .bool a1_4, .bool a1_5]) (t := 81) ?hr ?_; (case hd => rfl); (case hg => rfl); (case hr => first | (go_simp; done) | (go_simp; rfl)); intro gb320 hg w5 hbox hb; have n0_ := Aside0.mk (blk_below (g := gb319) (o := .cells #[.int .i64 a0_0, .int .i64 a0_1, .string a0_2, .int .u64 a0_3, .bool a0_4, .bool a0_5] 81 (0, 0)) (blkN BK319.out) hb); have n1_ := Aside0.mk (below_step (by repeat (first | (with_reducible first | exact HB.out | apply below_alloc | apply pw_below_drewN | apply below_drew1 | refine below_set ?_ GE319.out) | exact HB.out)) hb); have n2_ := Aside0.mk (hbox); have n3_ := Aside0.mk ((by rw [hg]; exact (below_size (by repeat (first | (with_reducible first | exact HB.out | apply below_alloc | apply pw_below_drewN | apply below_drew1 | refine below_set ?_ GE319.out) | exact HB.out))) : w.heap.size ≤ gb320)); have n4_ := Aside0.mk ((by rw [hg]; exact (below_size (by repeat (first | (with_reducible first | exact HB.out | apply below_alloc | apply pw_below_drewN | apply below_drew1 | refine below_set ?_ GE319.out) | exact HB.out))) : w.heap.size ≤ gb320)); have n5_ := Aside0.mk ((by rw [hg]; exact Nat.ne_of_lt (blk_lt (g := gb319) (o := .cells #[.int .i64 a0_0, .int .i64 a0_1, .string a0_2, .int .u64 a0_3, .bool a0_4, .bool a0_5] 81 (0, 0)) (blkN BK319.out)) : gb319 ≠ gb320)); have n6_ := Aside0.mk ((by rw [hg]; exact Nat.ne_of_gt (blk_lt (g := gb319) (o := .cells #[.int .i64 a0_0, .int .i64 a0_1, .string a0_2, .int .u64 a0_3, .bool a0_4, .bool a0_5] 81 (0, 0)) (blkN BK319.out)) : gb320 ≠ gb319)); clear BK319; clear HB; have BK319 := n0_; have HB := n1_; have BK320 := n2_; have GW320 := n3_; have GE320 := n4_; have NB319_320 := n5_; have NB320_319 := n6_; clear n0_ n1_ n2_ n3_ n4_ n5_ n6_; clear hb hbox hg; have hnb6 := NB319_320.out; have hnc6 := NB320_319.out; have hcz7_0 : w5.cell? ⟨gb319, 0, none⟩ = some (.int .i64 a0_0) := (blk_cell BK319.out 0).trans rfl; have hcz7_1 : w5.cell? ⟨gb319, 1, none⟩ = some (.int .i64 a0_1) := (blk_cell BK319.out 1).trans rfl; have hcz7_2 : w5.cell? ⟨gb319, 2, none⟩ = some (.string a0_2) := (blk_cell BK319.out 2).trans rfl; have hcz7_3 : w5.cell? ⟨gb319, 3, none⟩ = some (.int .u64 a0_3) := (blk_cell BK319.out 3).trans rfl; have hcz7_4 : w5.cell? ⟨gb319, 4, none⟩ = some (.bool a0_4) := (blk_cell BK319.out 4).trans rfl; have hcz7_5 : w5.cell? ⟨gb319, 5, none⟩ = some (.bool a0_5) := (blk_cell BK319.out 5).trans rfl; have hfz7_0 := blk_frozen BK319.out 0; have hfz7_1 := blk_frozen BK319.out 1; have hfz7_2 := blk_frozen BK319.out 2; have hfz7_3 := blk_frozen BK319.out 3; have hfz7_4 := blk_frozen BK319.out 4; have hfz7_5 := blk_frozen BK319.out 5; have hcz8_0 : w5.cell? ⟨gb320, 0, none⟩ = some (.int .i64 a1_0) := (blk_cell BK320.out 0).trans rfl; have hcz8_1 : w5.cell? ⟨gb320, 1, none⟩ = some (.int .i64 a1_1) := (blk_cell BK320.out 1).trans rfl; have hcz8_2 : w5.cell? ⟨gb320, 2, none⟩ = some (.string a1_2) := (blk_cell BK320.out 2).trans rfl; have hcz8_3 : w5.cell? ⟨gb320, 3, none⟩ = some (.int .u64 a1_3) := (blk_cell BK320.out 3).trans rfl; have hcz8_4 : w5.cell? ⟨gb320, 4, none⟩ = some (.bool a1_4) := (blk_cell BK320.out 4).trans rfl; have hcz8_5 : w5.cell? ⟨gb320, 5, none⟩ = some (.bool a1_5) := (blk_cell BK320.out 5).trans rfl; have hfz8_0 := blk_frozen BK320.out 0; have hfz8_1 := blk_frozen BK320.out 1; have hfz8_2 := blk_frozen BK320.out 2; have hfz8_3 := blk_frozen BK320.out 3; have hfz8_4 := blk_frozen BK320.out 4; have hfz8_5 := blk_frozen BK320.out 5))
  go_ret
  exact ⟨by first | rfl | (simp [errW_none, errW_some] <;> rfl) | (simp [*, errW_none, errW_some] <;> rfl), by repeat (first | (with_reducible first | exact HB.out | apply below_alloc | apply pw_below_drewN | apply below_drew1 | refine below_set ?_ GE319.out | refine below_set ?_ GE320.out) | exact HB.out)⟩
 ·rw [if_neg c3] at H
  have c3b0 : decide (a1_3 < a0_3) = false := decide_eq_false c3
  clear c3
  by_cases c9 : a0_3 = a1_3
  ·rw [if_pos c9] at H
   have c9b0 : (a0_3 == a1_3) = true := beq_iff_eq.mpr c9
   have c9b1 : (a0_3 != a1_3) = false := bne_eq_false_iff_eq.mpr c9
   clear c9
   obtain rfl := Option.some.inj H
   go_enter Tryz.func128, Tryz.ntmps128
   go_wp2_with (first | ((with_reducible refine gate_dst (N := 2) rfl ?_); refine box_event ?hg (N := 2) ?hd (cs := #[.int .i64 a0_0, .int .i64 a0_1, .string a0_2, .int .u64 a0_3, .bool a0_4, .bool a0_5]) (t := 81) ?hr ?_; (case hd => rfl); (case hg => rfl); (case hr => first | (go_simp; done) | (go_simp; rfl)); intro gb319 hg w10 hbox hb; have n0_ := Aside0.mk (below_step belA hb); have n1_ := Aside0.mk (hbox); have n2_ := Aside0.mk ((by rw [hg]; exact (below_size belA) : w.heap.size ≤ gb319)); have n3_ := Aside0.mk ((by rw [hg]; exact (below_size belA) : w.heap.size ≤ gb319)); clear HB; have HB := n0_; have BK319 := n1_; have GW319 := n2_; have GE319 := n3_; clear n0_ n1_ n2_ n3_; clear hb hbox hg) | ((with_reducible refine gate_dst (N := 3) rfl ?_); refine box_event ?hg (N := 3) ?hd (cs := #[.int .i64 a1_0, .int .i64 a1_1, .string a1_2, .int .u64 a1_3, .bool a1_4, .bool a1_5]) (t := 81) ?hr ?_; (case hd => rfl); (case hg => rfl); (case hr => first | (go_simp; done) | (go_simp; rfl)); intro gb320 hg w11 hbox hb; have n0_ := Aside0.mk (blk_below (g := gb319) (o := .cells #[.int .i64 a0_0, .int .i64 a0_1, .string a0_2, .int .u64 a0_3, .bool a0_4, .bool a0_5] 81 (0, 0)) (blkN BK319.out) hb); have n1_ := Aside0.mk (below_step (by repeat (first | (with_reducible first | exact HB.out | apply below_alloc | apply pw_below_drewN | apply below_drew1 | refine below_set ?_ GE319.out) | exact HB.out)) hb); have n2_ := Aside0.mk (hbox); have n3_ := Aside0.mk ((by rw [hg]; exact (below_size (by repeat (first | (with_reducible first | exact HB.out | apply below_alloc | apply pw_below_drewN | apply below_drew1 | refine below_set ?_ GE319.out) | exact HB.out))) : w.heap.size ≤ gb320)); have n4_ := Aside0.mk ((by rw [hg]; exact (below_size (by repeat (first | (with_reducible first | exact HB.out | apply below_alloc | apply pw_below_drewN | apply below_drew1 | refine below_set ?_ GE319.out) | exact HB.out))) : w.heap.size ≤ gb320)); have n5_ := Aside0.mk ((by rw [hg]; exact Nat.ne_of_lt (blk_lt (g := gb319) (o := .cells #[.int .i64 a0_0, .int .i64 a0_1, .string a0_2, .int .u64 a0_3, .bool a0_4, .bool a0_5] 81 (0, 0)) (blkN BK319.out)) : gb319 ≠ gb320)); have n6_ := Aside0.mk ((by rw [hg]; exact Nat.ne_of_gt (blk_lt (g := gb319) (o := .cells #[.int .i64 a0_0, .int .i64 a0_1, .string a0_2, .int .u64 a0_3, .bool a0_4, .bool a0_5] 81 (0, 0)) (blkN BK319.out)) : gb320 ≠ gb319)); clear BK319; clear HB; have BK319 := n0_; have HB := n1_; have BK320 := n2_; have GW320 := n3_; have GE320 := n4_; have NB319_320 := n5_; have NB320_319 := n6_; clear n0_ n1_ n2_ n3_ n4_ n5_ n6_; clear hb hbox hg; have hnb12 := NB319_320.out; have hnc12 := NB320_319.out; have hcz13_0 : w11.cell? ⟨gb319, 0, none⟩ = some (.int .i64 a0_0) := (blk_cell BK319.out 0).trans rfl; have hcz13_1 : w11.cell? ⟨gb319, 1, none⟩ = some (.int .i64 a0_1) := (blk_cell BK319.out 1).trans rfl; have hcz13_2 : w11.cell? ⟨gb319, 2, none⟩ = some (.string a0_2) := (blk_cell BK319.out 2).trans rfl; have hcz13_3 : w11.cell? ⟨gb319, 3, none⟩ = some (.int .u64 a0_3) := (blk_cell BK319.out 3).trans rfl; have hcz13_4 : w11.cell? ⟨gb319, 4, none⟩ = some (.bool a0_4) := (blk_cell BK319.out 4).trans rfl; have hcz13_5 : w11.cell? ⟨gb319, 5, none⟩ = some (.bool a0_5) := (blk_cell BK319.out 5).trans rfl; have hfz13_0 := blk_frozen BK319.out 0; have hfz13_1 := blk_frozen BK319.out 1; have hfz13_2 := blk_frozen BK319.out 2; have hfz13_3 := blk_frozen BK319.out 3; have hfz13_4 := blk_frozen BK319.out 4; have hfz13_5 := blk_frozen BK319.out 5; have hcz14_0 : w11.cell? ⟨gb320, 0, none⟩ = some (.int .i64 a1_0) := (blk_cell BK320.out 0).trans rfl; have hcz14_1 : w11.cell? ⟨gb320, 1, none⟩ = some (.int .i64 a1_1) := (blk_cell BK320.out 1).trans rfl; have hcz14_2 : w11.cell? ⟨gb320, 2, none⟩ = some (.string a1_2) := (blk_cell BK320.out 2).trans rfl; have hcz14_3 : w11.cell? ⟨gb320, 3, none⟩ = some (.int .u64 a1_3) := (blk_cell BK320.out 3).trans rfl; have hcz14_4 : w11.cell? ⟨gb320, 4, none⟩ = some (.bool a1_4) := (blk_cell BK320.out 4).trans rfl; have hcz14_5 : w11.cell? ⟨gb320, 5, none⟩ = some (.bool a1_5) := (blk_cell BK320.out 5).trans rfl; have hfz14_0 := blk_frozen BK320.out 0; have hfz14_1 := blk_frozen BK320.out 1; have hfz14_2 := blk_frozen BK320.out 2; have hfz14_3 := blk_frozen BK320.out 3; have hfz14_4 := blk_frozen BK320.out 4; have hfz14_5 := blk_frozen BK320.out 5))
   go_ret
   exact ⟨by first | rfl | (simp [errW_none, errW_some] <;> rfl) | (simp [*, errW_none, errW_some] <;> rfl), by repeat (first | (with_reducible first | exact HB.out | apply below_alloc | apply pw_below_drewN | apply below_drew1 | refine below_set ?_ GE319.out | refine below_set ?_ GE320.out) | exact HB.out)⟩
  ·rw [if_neg c9] at H
   have c9b0 : (a0_3 == a1_3) = false := beq_eq_false_iff_ne.mpr c9
   have c9b1 : (a0_3 != a1_3) = true := bne_iff_ne.mpr c9
   obtain rfl := Option.some.inj H
   go_enter Tryz.func128, Tryz.ntmps128
   go_wp2_with (first | ((with_reducible refine gate_dst (N := 2) rfl ?_); refine box_event ?hg (N := 2) ?hd (cs := #[.int .i64 a0_0, .int .i64 a0_1, .string a0_2, .int .u64 a0_3, .bool a0_4, .bool a0_5]) (t := 81) ?hr ?_; (case hd => rfl); (case hg => rfl); (case hr => first | (go_simp; done) | (go_simp; rfl)); intro gb319 hg w15 hbox hb; have n0_ := Aside0.mk (below_step belA hb); have n1_ := Aside0.mk (hbox); have n2_ := Aside0.mk ((by rw [hg]; exact (below_size belA) : w.heap.size ≤ gb319)); have n3_ := Aside0.mk ((by rw [hg]; exact (below_size belA) : w.heap.size ≤ gb319)); clear HB; have HB := n0_; have BK319 := n1_; have GW319 := n2_; have GE319 := n3_; clear n0_ n1_ n2_ n3_; clear hb hbox hg) | ((with_reducible refine gate_dst (N := 3) rfl ?_); refine box_event ?hg (N := 3) ?hd (cs := #[.int .i64 a1_0, .int .i64 a1_1, .string a1_2, .int .u64 a1_3, .bool a1_4, .bool a1_5]) (t := 81) ?hr ?_; (case hd => rfl); (case hg => rfl); (case hr => first | (go_simp; done) | (go_simp; rfl)); intro gb320 hg w16 hbox hb; have n0_ := Aside0.mk (blk_below (g := gb319) (o := .cells #[.int .i64 a0_0, .int .i64 a0_1, .string a0_2, .int .u64 a0_3, .bool a0_4, .bool a0_5] 81 (0, 0)) (blkN BK319.out) hb); have n1_ := Aside0.mk (below_step (by repeat (first | (with_reducible first | exact HB.out | apply below_alloc | apply pw_below_drewN | apply below_drew1 | refine below_set ?_ GE319.out) | exact HB.out)) hb); have n2_ := Aside0.mk (hbox); have n3_ := Aside0.mk ((by rw [hg]; exact (below_size (by repeat (first | (with_reducible first | exact HB.out | apply below_alloc | apply pw_below_drewN | apply below_drew1 | refine below_set ?_ GE319.out) | exact HB.out))) : w.heap.size ≤ gb320)); have n4_ := Aside0.mk ((by rw [hg]; exact (below_size (by repeat (first | (with_reducible first | exact HB.out | apply below_alloc | apply pw_below_drewN | apply below_drew1 | refine below_set ?_ GE319.out) | exact HB.out))) : w.heap.size ≤ gb320)); have n5_ := Aside0.mk ((by rw [hg]; exact Nat.ne_of_lt (blk_lt (g := gb319) (o := .cells #[.int .i64 a0_0, .int .i64 a0_1, .string a0_2, .int .u64 a0_3, .bool a0_4, .bool a0_5] 81 (0, 0)) (blkN BK319.out)) : gb319 ≠ gb320)); have n6_ := Aside0.mk ((by rw [hg]; exact Nat.ne_of_gt (blk_lt (g := gb319) (o := .cells #[.int .i64 a0_0, .int .i64 a0_1, .string a0_2, .int .u64 a0_3, .bool a0_4, .bool a0_5] 81 (0, 0)) (blkN BK319.out)) : gb320 ≠ gb319)); clear BK319; clear HB; have BK319 := n0_; have HB := n1_; have BK320 := n2_; have GW320 := n3_; have GE320 := n4_; have NB319_320 := n5_; have NB320_319 := n6_; clear n0_ n1_ n2_ n3_ n4_ n5_ n6_; clear hb hbox hg; have hnb17 := NB319_320.out; have hnc17 := NB320_319.out; have hcz18_0 : w16.cell? ⟨gb319, 0, none⟩ = some (.int .i64 a0_0) := (blk_cell BK319.out 0).trans rfl; have hcz18_1 : w16.cell? ⟨gb319, 1, none⟩ = some (.int .i64 a0_1) := (blk_cell BK319.out 1).trans rfl; have hcz18_2 : w16.cell? ⟨gb319, 2, none⟩ = some (.string a0_2) := (blk_cell BK319.out 2).trans rfl; have hcz18_3 : w16.cell? ⟨gb319, 3, none⟩ = some (.int .u64 a0_3) := (blk_cell BK319.out 3).trans rfl; have hcz18_4 : w16.cell? ⟨gb319, 4, none⟩ = some (.bool a0_4) := (blk_cell BK319.out 4).trans rfl; have hcz18_5 : w16.cell? ⟨gb319, 5, none⟩ = some (.bool a0_5) := (blk_cell BK319.out 5).trans rfl; have hfz18_0 := blk_frozen BK319.out 0; have hfz18_1 := blk_frozen BK319.out 1; have hfz18_2 := blk_frozen BK319.out 2; have hfz18_3 := blk_frozen BK319.out 3; have hfz18_4 := blk_frozen BK319.out 4; have hfz18_5 := blk_frozen BK319.out 5; have hcz19_0 : w16.cell? ⟨gb320, 0, none⟩ = some (.int .i64 a1_0) := (blk_cell BK320.out 0).trans rfl; have hcz19_1 : w16.cell? ⟨gb320, 1, none⟩ = some (.int .i64 a1_1) := (blk_cell BK320.out 1).trans rfl; have hcz19_2 : w16.cell? ⟨gb320, 2, none⟩ = some (.string a1_2) := (blk_cell BK320.out 2).trans rfl; have hcz19_3 : w16.cell? ⟨gb320, 3, none⟩ = some (.int .u64 a1_3) := (blk_cell BK320.out 3).trans rfl; have hcz19_4 : w16.cell? ⟨gb320, 4, none⟩ = some (.bool a1_4) := (blk_cell BK320.out 4).trans rfl; have hcz19_5 : w16.cell? ⟨gb320, 5, none⟩ = some (.bool a1_5) := (blk_cell BK320.out 5).trans rfl; have hfz19_0 := blk_frozen BK320.out 0; have hfz19_1 := blk_frozen BK320.out 1; have hfz19_2 := blk_frozen BK320.out 2; have hfz19_3 := blk_frozen BK320.out 3; have hfz19_4 := blk_frozen BK320.out 4; have hfz19_5 := blk_frozen BK320.out 5))
   go_ret
   exact ⟨by first | rfl | (simp [errW_none, errW_some] <;> rfl) | (simp [*, errW_none, errW_some] <;> rfl), by repeat (first | (with_reducible first | exact HB.out | apply below_alloc | apply pw_below_drewN | apply below_drew1 | refine below_set ?_ GE319.out | refine below_set ?_ GE320.out) | exact HB.out)⟩
end Go.Proofs.YtfdlbnfjohpdlaaGreatDoor.PPo
