-- laid by gprint.py (this session's own program) out of the translation: Lean checks it
import Derived.Test.YtfdlbnfjohpdlaaGreatDoorPPox0
import Derived.Test.YtfdlbnfjohpdlaaGreatDoorPPox16
--compressed
namespace Go.Proofs.YtfdlbnfjohpdlaaGreatDoor.PPo
open Go.RowKit Go.Proofs.YtfdlbnfjohpdlaaGreatDoorW.PrintWords Go.Proofs.YtfdlbnfjohpdlaaGreatDoorW.PrintLast Go.Proofs.YtfdlbnfjohpdlaaGreatDoorW.PrintMore
attribute [local go_sem] max2_int min2_int max_two min_two max_three min_three max_four min_four   -- for this text's walks alone
attribute [local go_sem high] hw_str_leq hw_str_gtr
set_option linter.unusedVariables false
set_option linter.unusedSimpArgs false
mutual
def rootcellarref1_Rune.j0 : Nat → ByteArray → Int → Bool → Option (Int × Int)
 | 0, _, _, _ => none
 | k + 1, x0, x4, x22 => if x22 = true then (if 1 < (x0.size : Int) then (some (wrap64 ((wrap64 ((wrap64 ((wrap64 (x4 - 192)) * 64)) + (wrap64 (bt x0 1)))) - 128), 2)) else (none)) else (if x4 ≥ 224 then (if x4 ≤ 239 then ((rootcellarref1_more.f x0 1).bind fun t265 => (if t265 = true then ((rootcellarref1_more.f x0 2).bind fun t266 => (rootcellarref1_Rune.j1 k x0 x4 t266)) else (rootcellarref1_Rune.j1 k x0 x4 false))) else (rootcellarref1_Rune.j1 k x0 x4 false)) else (rootcellarref1_Rune.j1 k x0 x4 false))
def rootcellarref1_Rune.j1 : Nat → ByteArray → Int → Bool → Option (Int × Int)
 | 0, _, _, _ => none
 | k + 1, x0, x4, x44 => if x44 = true then (if 1 < (x0.size : Int) then (if 2 < (x0.size : Int) then (if (wrap64 ((wrap64 ((wrap64 ((wrap64 ((wrap64 (x4 - 224)) * 4096)) + (wrap64 ((wrap64 ((wrap64 (bt x0 1)) - 128)) * 64)))) + (wrap64 (bt x0 2)))) - 128)) ≥ 2048 then (if (wrap64 ((wrap64 ((wrap64 ((wrap64 ((wrap64 (x4 - 224)) * 4096)) + (wrap64 ((wrap64 ((wrap64 (bt x0 1)) - 128)) * 64)))) + (wrap64 (bt x0 2)))) - 128)) ≥ 55296 then (rootcellarref1_Rune.j2 k x0 x4 (wrap64 ((wrap64 ((wrap64 ((wrap64 ((wrap64 (x4 - 224)) * 4096)) + (wrap64 ((wrap64 ((wrap64 (bt x0 1)) - 128)) * 64)))) + (wrap64 (bt x0 2)))) - 128)) (!(decide ((wrap64 ((wrap64 ((wrap64 ((wrap64 ((wrap64 (x4 - 224)) * 4096)) + (wrap64 ((wrap64 ((wrap64 (bt x0 1)) - 128)) * 64)))) + (wrap64 (bt x0 2)))) - 128)) ≤ 57343)))) else (rootcellarref1_Rune.j2 k x0 x4 (wrap64 ((wrap64 ((wrap64 ((wrap64 ((wrap64 (x4 - 224)) * 4096)) + (wrap64 ((wrap64 ((wrap64 (bt x0 1)) - 128)) * 64)))) + (wrap64 (bt x0 2)))) - 128)) (!false))) else (rootcellarref1_Rune.j2 k x0 x4 (wrap64 ((wrap64 ((wrap64 ((wrap64 ((wrap64 (x4 - 224)) * 4096)) + (wrap64 ((wrap64 ((wrap64 (bt x0 1)) - 128)) * 64)))) + (wrap64 (bt x0 2)))) - 128)) false)) else (none)) else (none)) else (rootcellarref1_Rune.j3 k x0 x4)
def rootcellarref1_Rune.j3 : Nat → ByteArray → Int → Option (Int × Int)
 | 0, _, _ => none
 | k + 1, x0, x4 => if x4 ≥ 240 then (if x4 ≤ 244 then ((rootcellarref1_more.f x0 1).bind fun t267 => (if t267 = true then ((rootcellarref1_more.f x0 2).bind fun t268 => (if t268 = true then ((rootcellarref1_more.f x0 3).bind fun t269 => (rootcellarref1_Rune.j4 k x0 x4 t269)) else (rootcellarref1_Rune.j4 k x0 x4 false))) else (rootcellarref1_Rune.j4 k x0 x4 false))) else (rootcellarref1_Rune.j4 k x0 x4 false)) else (rootcellarref1_Rune.j4 k x0 x4 false)
def rootcellarref1_Rune.j4 : Nat → ByteArray → Int → Bool → Option (Int × Int)
 | 0, _, _, _ => none
 | k + 1, x0, x4, x88 => if x88 = true then (if 1 < (x0.size : Int) then (if 2 < (x0.size : Int) then (if 3 < (x0.size : Int) then (if (wrap64 ((wrap64 ((wrap64 ((wrap64 ((wrap64 ((wrap64 (x4 - 240)) * 262144)) + (wrap64 ((wrap64 ((wrap64 (bt x0 1)) - 128)) * 4096)))) + (wrap64 ((wrap64 ((wrap64 (bt x0 2)) - 128)) * 64)))) + (wrap64 (bt x0 3)))) - 128)) ≥ 65536 then (if (wrap64 ((wrap64 ((wrap64 ((wrap64 ((wrap64 ((wrap64 (x4 - 240)) * 262144)) + (wrap64 ((wrap64 ((wrap64 (bt x0 1)) - 128)) * 4096)))) + (wrap64 ((wrap64 ((wrap64 (bt x0 2)) - 128)) * 64)))) + (wrap64 (bt x0 3)))) - 128)) ≤ 1114111 then (some (wrap64 ((wrap64 ((wrap64 ((wrap64 ((wrap64 ((wrap64 (x4 - 240)) * 262144)) + (wrap64 ((wrap64 ((wrap64 (bt x0 1)) - 128)) * 4096)))) + (wrap64 ((wrap64 ((wrap64 (bt x0 2)) - 128)) * 64)))) + (wrap64 (bt x0 3)))) - 128), 4)) else (some ((-1), 1))) else (some ((-1), 1))) else (none)) else (none)) else (none)) else (some ((-1), 1))
def rootcellarref1_Rune.j2 : Nat → ByteArray → Int → Int → Bool → Option (Int × Int)
 | 0, _, _, _, _ => none
 | k + 1, x0, x4, x5, x69 => if x69 = true then (some (x5, 3)) else (rootcellarref1_Rune.j3 k x0 x4)
end
def rootcellarref1_Rune.f (k : Nat) (a0 : ByteArray) : Option (Int × Int) := if 0 < (a0.size : Int) then (if (wrap64 (bt a0 0)) < 128 then (some (wrap64 (bt a0 0), 1)) else (if (wrap64 (bt a0 0)) ≥ 194 then (if (wrap64 (bt a0 0)) ≤ 223 then ((rootcellarref1_more.f a0 1).bind fun t264 => (rootcellarref1_Rune.j0 k a0 (wrap64 (bt a0 0)) t264)) else (rootcellarref1_Rune.j0 k a0 (wrap64 (bt a0 0)) false)) else (rootcellarref1_Rune.j0 k a0 (wrap64 (bt a0 0)) false))) else (none)
set_option maxHeartbeats 8000000 in
set_option maxRecDepth 100000 in
theorem rootcellarref1_Rune.calls (k : Nat) (a0 : ByteArray) (r1 : Int) (r2 : Int) (w : World) (h : rootcellarref1_Rune.f k a0 = some (r1, r2)) :
  Calls Tryz.prog 151 #[.string a0] w fun e w' => e = .returned (.tuple #[.int .i64 r1, .int .i64 r2]) ∧ Drawn0 w w' := by
 have H : (if 0 < (a0.size : Int) then (if (wrap64 (bt a0 0)) < 128 then (some (wrap64 (bt a0 0), 1)) else (if (wrap64 (bt a0 0)) ≥ 194 then (if (wrap64 (bt a0 0)) ≤ 223 then ((rootcellarref1_more.f a0 1).bind fun t264 => (rootcellarref1_Rune.j0 k a0 (wrap64 (bt a0 0)) t264)) else (rootcellarref1_Rune.j0 k a0 (wrap64 (bt a0 0)) false)) else (rootcellarref1_Rune.j0 k a0 (wrap64 (bt a0 0)) false))) else (none)) = some (r1, r2) := h
 clear h
 by_cases c2 : 0 < (a0.size : Int)
 ·rw [if_pos c2] at H
  have c2b0 : decide (0 < (a0.size : Int)) = true := decide_eq_true c2
  have c2b1 : decide (0 < a0.size) = true := decide_eq_true (by omega)
  clear c2
  by_cases c4 : (wrap64 (bt a0 0)) < 128
  ·rw [if_pos c4] at H
   have c4b0 : decide ((wrap64 (bt a0 0)) < 128) = true := decide_eq_true c4
   clear c4
   simp only [Option.some.injEq, Prod.mk.injEq] at H
   obtain ⟨rfl, rfl⟩ := H
   have p3 : 0 ≤ (0 : Int) := (by omega)
   have q3 : 0 < a0.size := (by have : (0 : Int) < (a0.size : Int) := of_decide_eq_true asA; omega)
   have hx3 : ∀ h : 0 < a0.size, ((a0[0]'h).toNat : Int) = bt a0 0 := bt_at a0 0
   clear p3
   have qi3 : (0 < (a0.size : Int)) = True := eq_true (of_decide_eq_true asA)
   replace q3 := eq_true q3
   go_enter Tryz.func151, Tryz.ntmps151
   go_wp2
   repeat (go_quiet (fail); try go_wp2)
   go_ret2
   exact ⟨by first | rfl | (simp; done) | (simp [*]; done), by repeat (first | exact Drawn0.refl _ | apply Drawn0.step)⟩
  ·rw [if_neg c4] at H
   have c4b0 : decide ((wrap64 (bt a0 0)) < 128) = false := decide_eq_false c4
   clear c4
   have HC5 := Aside0.mk H
   clear H
   have p3 : 0 ≤ (0 : Int) := (by omega)
   have q3 : 0 < a0.size := (by have : (0 : Int) < (a0.size : Int) := of_decide_eq_true asA; omega)
   have hx3 : ∀ h : 0 < a0.size, ((a0[0]'h).toNat : Int) = bt a0 0 := bt_at a0 0
   clear p3
   have qi3 : (0 < (a0.size : Int)) = True := eq_true (of_decide_eq_true asA)
   replace q3 := eq_true q3
   go_enter Tryz.func151, Tryz.ntmps151
   go_upto_region 4 with (fail)
   repeat (go_quiet (fail); go_upto_region 4 with (fail))
   go_cut [22] (fun v22 wc => ∃ (kq : Nat) (x22_4 : Bool), v22 = .bool x22_4 ∧ Aside0 (rootcellarref1_Rune.j0 kq a0 (wrap64 (bt a0 0)) x22_4 = some (r1, r2)) ∧ Aside0 (kq ≤ k) ∧ Drawn0 w wc)
   case first =>
    have H := HC5.out
    clear HC5
    by_cases c6 : (wrap64 (bt a0 0)) ≥ 194
    ·rw [if_pos c6] at H
     have c6b0 : decide (194 ≤ (wrap64 (bt a0 0))) = true := decide_eq_true c6
     clear c6
     (first | rw [c6b0] | (simp only [i64_w, i32_w]; rw [c6b0]) | skip)
     by_cases c7 : (wrap64 (bt a0 0)) ≤ 223
     ·rw [if_pos c7] at H
      have c7b0 : decide ((wrap64 (bt a0 0)) ≤ 223) = true := decide_eq_true c7
      clear c7
      replace H := Option.bind_eq_some_iff.mp H
      obtain ⟨t264, A80, H⟩ := H
      replace H : (rootcellarref1_Rune.j0 k a0 (wrap64 (bt a0 0)) t264) = some (r1, r2) := H
      have A8 := Aside0.mk A80
      clear A80
      have H' := Aside0.mk H
      clear H
      go_wp2_with (first | (go_at_call 154; (with_reducible refine (rootcellarref1_more.calls a0 1 t264 _ A8.out).mono ?_); rintro e w' ⟨rfl, ⟨nd, rfl⟩⟩; (try first | exact ⟨rfl, _, World.drewN_drewN _ _ _⟩ | exact ⟨rfl, _, Eq.trans (World.drewN_drewN _ _ _) (congrArg (World.drewN _) (Nat.add_assoc _ _ _))⟩)))
      repeat (go_quiet (first | (go_at_call 154; (with_reducible refine (rootcellarref1_more.calls a0 1 t264 _ A8.out).mono ?_); rintro e w' ⟨rfl, ⟨nd, rfl⟩⟩; (try first | exact ⟨rfl, _, World.drewN_drewN _ _ _⟩ | exact ⟨rfl, _, Eq.trans (World.drewN_drewN _ _ _) (congrArg (World.drewN _) (Nat.add_assoc _ _ _))⟩))); try go_wp2_with (first | (go_at_call 154; (with_reducible refine (rootcellarref1_more.calls a0 1 t264 _ A8.out).mono ?_); rintro e w' ⟨rfl, ⟨nd, rfl⟩⟩; (try first | exact ⟨rfl, _, World.drewN_drewN _ _ _⟩ | exact ⟨rfl, _, Eq.trans (World.drewN_drewN _ _ _) (congrArg (World.drewN _) (Nat.add_assoc _ _ _))⟩))))
      go_meet
      case rel => exact ⟨_, (t264), (by first | rfl | (simp; done) | (simp [*]; done)), H', ⟨by first | omega | exact Nat.le_refl _⟩, by repeat (first | exact Drawn0.refl _ | apply Drawn0.step)⟩
     ·rw [if_neg c7] at H
      have c7b0 : decide ((wrap64 (bt a0 0)) ≤ 223) = false := decide_eq_false c7
      clear c7
      have H' := Aside0.mk H
      clear H
      go_wp2
      repeat (go_quiet (fail); try go_wp2)
      go_meet
      case rel => exact ⟨_, (false), (by first | rfl | (simp; done) | (simp [*]; done)), H', ⟨by first | omega | exact Nat.le_refl _⟩, by repeat (first | exact Drawn0.refl _ | apply Drawn0.step)⟩
    ·rw [if_neg c6] at H
     have c6b0 : decide (194 ≤ (wrap64 (bt a0 0))) = false := decide_eq_false c6
     clear c6
     (first | rw [c6b0] | (simp only [i64_w, i32_w]; rw [c6b0]) | skip)
     have H' := Aside0.mk H
     clear H
     go_wp2
     repeat (go_quiet (fail); try go_wp2)
     go_meet
     case rel => exact ⟨_, (false), (by first | rfl | (simp; done) | (simp [*]; done)), H', ⟨by first | omega | exact Nat.le_refl _⟩, by repeat (first | exact Drawn0.refl _ | apply Drawn0.step)⟩
   case rest =>
    clear HC5
    try clear c1
    try clear c2
    try clear c2b0
    try clear c2b1
    try clear p2
    try clear p3
    try clear q3
    try clear hx3
    try clear qi3
    try clear c4
    try clear c4b0
    try clear c6
    try clear c6b0
    try clear p6
    try clear c7
    try clear c7b0
    try clear p3
    try clear q3
    obtain ⟨kq, x22_4, rfl, HA, HJ4, ⟨mc4, rfl⟩⟩ := hcut
    cases kq with
    | zero => exact absurd HA.out (by simp [rootcellarref1_Rune.j0])
    | succ kj4 =>
     have H := HA.out
     clear HA
     simp only [rootcellarref1_Rune.j0] at H
     by_cases c9 : x22_4 = true
     ·subst c9
      have H1 : (if 1 < (a0.size : Int) then (some (wrap64 ((wrap64 ((wrap64 ((wrap64 ((wrap64 (bt a0 0)) - 192)) * 64)) + (wrap64 (bt a0 1)))) - 128), 2)) else (none)) = some (r1, r2) := by rw [if_pos rfl] at H; exact H
      clear H
      have H := H1
      clear H1
      by_cases c10 : 1 < (a0.size : Int)
      ·rw [if_pos c10] at H
       have c10b0 : decide (1 < (a0.size : Int)) = true := decide_eq_true c10
       have c10b1 : decide (1 < a0.size) = true := decide_eq_true (by omega)
       clear c10
       simp only [Option.some.injEq, Prod.mk.injEq] at H
       obtain ⟨rfl, rfl⟩ := H
       have p11 : 0 ≤ (1 : Int) := (by omega)
       have q11 : 1 < a0.size := (by have : (1 : Int) < (a0.size : Int) := of_decide_eq_true asA; omega)
       have hx11 : ∀ h : 1 < a0.size, ((a0[1]'h).toNat : Int) = bt a0 1 := bt_at a0 1
       clear p11
       have qi11 : (1 < (a0.size : Int)) = True := eq_true (of_decide_eq_true asA)
       replace q11 := eq_true q11
       go_wp2
       repeat (go_quiet (fail); try go_wp2)
       go_ret2
       exact ⟨by first | rfl | (simp; done) | (simp [*]; done), by repeat (first | exact Drawn0.refl _ | apply Drawn0.step)⟩
      ·rw [if_neg c10] at H
       exact absurd H (by simp)
     ·replace c9 := Bool.eq_false_iff.mpr c9
      subst c9
      have H1 : (if (wrap64 (bt a0 0)) ≥ 224 then (if (wrap64 (bt a0 0)) ≤ 239 then ((rootcellarref1_more.f a0 1).bind fun t265 => (if t265 = true then ((rootcellarref1_more.f a0 2).bind fun t266 => (rootcellarref1_Rune.j1 kj4 a0 (wrap64 (bt a0 0)) t266)) else (rootcellarref1_Rune.j1 kj4 a0 (wrap64 (bt a0 0)) false))) else (rootcellarref1_Rune.j1 kj4 a0 (wrap64 (bt a0 0)) false)) else (rootcellarref1_Rune.j1 kj4 a0 (wrap64 (bt a0 0)) false)) = some (r1, r2) := by rw [if_neg (show ¬ (false = true) by decide)] at H; exact H
      clear H
      have H := H1
      clear H1
      have HC12 := Aside0.mk H
      clear H
      go_upto_region 6 with (fail)
      repeat (go_quiet (fail); go_upto_region 6 with (fail))
      go_cut [44] (fun v44 wc => ∃ (kq : Nat) (x44_11 : Bool), v44 = .bool x44_11 ∧ Aside0 (rootcellarref1_Rune.j1 kq a0 (wrap64 (bt a0 0)) x44_11 = some (r1, r2)) ∧ Aside0 (kq ≤ kj4) ∧ Drawn0 w wc)
      case first =>
       have H := HC12.out
       clear HC12
       by_cases c13 : (wrap64 (bt a0 0)) ≥ 224
       ·rw [if_pos c13] at H
        have c13b0 : decide (224 ≤ (wrap64 (bt a0 0))) = true := decide_eq_true c13
        clear c13
        (first | rw [c13b0] | (simp only [i64_w, i32_w]; rw [c13b0]) | skip)
        by_cases c14 : (wrap64 (bt a0 0)) ≤ 239
        ·rw [if_pos c14] at H
         have c14b0 : decide ((wrap64 (bt a0 0)) ≤ 239) = true := decide_eq_true c14
         clear c14
         replace H := Option.bind_eq_some_iff.mp H
         obtain ⟨t265, A150, H⟩ := H
         replace H : (if t265 = true then ((rootcellarref1_more.f a0 2).bind fun t266 => (rootcellarref1_Rune.j1 kj4 a0 (wrap64 (bt a0 0)) t266)) else (rootcellarref1_Rune.j1 kj4 a0 (wrap64 (bt a0 0)) false)) = some (r1, r2) := H
         have A15 := Aside0.mk A150
         clear A150
         by_cases c16 : t265 = true
         ·subst c16
          have H1 : ((rootcellarref1_more.f a0 2).bind fun t266 => (rootcellarref1_Rune.j1 kj4 a0 (wrap64 (bt a0 0)) t266)) = some (r1, r2) := by rw [if_pos rfl] at H; exact H
          clear H
          have H := H1
          clear H1
          replace H := Option.bind_eq_some_iff.mp H
          obtain ⟨t266, A170, H⟩ := H
          replace H : (rootcellarref1_Rune.j1 kj4 a0 (wrap64 (bt a0 0)) t266) = some (r1, r2) := H
          have A17 := Aside0.mk A170
          clear A170
          have H' := Aside0.mk H
          clear H
          go_wp2_with (first | (go_at_call 154; (with_reducible refine (rootcellarref1_more.calls a0 1 true _ A15.out).mono ?_); rintro e w' ⟨rfl, ⟨nd, rfl⟩⟩; (try first | exact ⟨rfl, _, World.drewN_drewN _ _ _⟩ | exact ⟨rfl, _, Eq.trans (World.drewN_drewN _ _ _) (congrArg (World.drewN _) (Nat.add_assoc _ _ _))⟩)) | (go_at_call 154; (with_reducible refine (rootcellarref1_more.calls a0 2 t266 _ A17.out).mono ?_); rintro e w' ⟨rfl, ⟨nd, rfl⟩⟩; (try first | exact ⟨rfl, _, World.drewN_drewN _ _ _⟩ | exact ⟨rfl, _, Eq.trans (World.drewN_drewN _ _ _) (congrArg (World.drewN _) (Nat.add_assoc _ _ _))⟩)))
          repeat (go_quiet (first | (go_at_call 154; (with_reducible refine (rootcellarref1_more.calls a0 1 true _ A15.out).mono ?_); rintro e w' ⟨rfl, ⟨nd, rfl⟩⟩; (try first | exact ⟨rfl, _, World.drewN_drewN _ _ _⟩ | exact ⟨rfl, _, Eq.trans (World.drewN_drewN _ _ _) (congrArg (World.drewN _) (Nat.add_assoc _ _ _))⟩)) | (go_at_call 154; (with_reducible refine (rootcellarref1_more.calls a0 2 t266 _ A17.out).mono ?_); rintro e w' ⟨rfl, ⟨nd, rfl⟩⟩; (try first | exact ⟨rfl, _, World.drewN_drewN _ _ _⟩ | exact ⟨rfl, _, Eq.trans (World.drewN_drewN _ _ _) (congrArg (World.drewN _) (Nat.add_assoc _ _ _))⟩))); try go_wp2_with (first | (go_at_call 154; (with_reducible refine (rootcellarref1_more.calls a0 1 true _ A15.out).mono ?_); rintro e w' ⟨rfl, ⟨nd, rfl⟩⟩; (try first | exact ⟨rfl, _, World.drewN_drewN _ _ _⟩ | exact ⟨rfl, _, Eq.trans (World.drewN_drewN _ _ _) (congrArg (World.drewN _) (Nat.add_assoc _ _ _))⟩)) | (go_at_call 154; (with_reducible refine (rootcellarref1_more.calls a0 2 t266 _ A17.out).mono ?_); rintro e w' ⟨rfl, ⟨nd, rfl⟩⟩; (try first | exact ⟨rfl, _, World.drewN_drewN _ _ _⟩ | exact ⟨rfl, _, Eq.trans (World.drewN_drewN _ _ _) (congrArg (World.drewN _) (Nat.add_assoc _ _ _))⟩))))
          go_meet
          case rel => exact ⟨_, (t266), (by first | rfl | (simp; done) | (simp [*]; done)), H', ⟨by have := HJ4.out; first | omega | exact Nat.le_refl _⟩, by repeat (first | exact Drawn0.refl _ | apply Drawn0.step)⟩
         ·replace c16 := Bool.eq_false_iff.mpr c16
          subst c16
          have H1 : (rootcellarref1_Rune.j1 kj4 a0 (wrap64 (bt a0 0)) false) = some (r1, r2) := by rw [if_neg (show ¬ (false = true) by decide)] at H; exact H
          clear H
          have H := H1
          clear H1
          have H' := Aside0.mk H
          clear H
          go_wp2_with (first | (go_at_call 154; (with_reducible refine (rootcellarref1_more.calls a0 1 false _ A15.out).mono ?_); rintro e w' ⟨rfl, ⟨nd, rfl⟩⟩; (try first | exact ⟨rfl, _, World.drewN_drewN _ _ _⟩ | exact ⟨rfl, _, Eq.trans (World.drewN_drewN _ _ _) (congrArg (World.drewN _) (Nat.add_assoc _ _ _))⟩)))
          repeat (go_quiet (first | (go_at_call 154; (with_reducible refine (rootcellarref1_more.calls a0 1 false _ A15.out).mono ?_); rintro e w' ⟨rfl, ⟨nd, rfl⟩⟩; (try first | exact ⟨rfl, _, World.drewN_drewN _ _ _⟩ | exact ⟨rfl, _, Eq.trans (World.drewN_drewN _ _ _) (congrArg (World.drewN _) (Nat.add_assoc _ _ _))⟩))); try go_wp2_with (first | (go_at_call 154; (with_reducible refine (rootcellarref1_more.calls a0 1 false _ A15.out).mono ?_); rintro e w' ⟨rfl, ⟨nd, rfl⟩⟩; (try first | exact ⟨rfl, _, World.drewN_drewN _ _ _⟩ | exact ⟨rfl, _, Eq.trans (World.drewN_drewN _ _ _) (congrArg (World.drewN _) (Nat.add_assoc _ _ _))⟩))))
          go_meet
          case rel => exact ⟨_, (false), (by first | rfl | (simp; done) | (simp [*]; done)), H', ⟨by have := HJ4.out; first | omega | exact Nat.le_refl _⟩, by repeat (first | exact Drawn0.refl _ | apply Drawn0.step)⟩
        ·rw [if_neg c14] at H
         have c14b0 : decide ((wrap64 (bt a0 0)) ≤ 239) = false := decide_eq_false c14
         clear c14
         have H' := Aside0.mk H
         clear H
         go_wp2
         repeat (go_quiet (fail); try go_wp2)
         go_meet
         case rel => exact ⟨_, (false), (by first | rfl | (simp; done) | (simp [*]; done)), H', ⟨by have := HJ4.out; first | omega | exact Nat.le_refl _⟩, by repeat (first | exact Drawn0.refl _ | apply Drawn0.step)⟩
       ·rw [if_neg c13] at H
        have c13b0 : decide (224 ≤ (wrap64 (bt a0 0))) = false := decide_eq_false c13
        clear c13
        (first | rw [c13b0] | (simp only [i64_w, i32_w]; rw [c13b0]) | skip)
        have H' := Aside0.mk H
        clear H
        go_wp2
        repeat (go_quiet (fail); try go_wp2)
        go_meet
        case rel => exact ⟨_, (false), (by first | rfl | (simp; done) | (simp [*]; done)), H', ⟨by have := HJ4.out; first | omega | exact Nat.le_refl _⟩, by repeat (first | exact Drawn0.refl _ | apply Drawn0.step)⟩
      case rest =>
       clear HC12
       try clear c1
       try clear p1
       try clear q1
       try clear hx1
       try clear qi1
       try clear c2
       try clear c2b0
       try clear c2b1
       try clear p2
       try clear p3
       try clear q3
       try clear hx3
       try clear qi3
       try clear c4
       try clear c4b0
       try clear c6
       try clear c6b0
       try clear p6
       try clear c7
       try clear c7b0
       try clear c9
       try clear c10
       try clear c10b0
       try clear c10b1
       try clear p11
       try clear q11
       try clear hx11
       try clear qi11
       try clear c13
       try clear c13b0
       try clear c14
       try clear c14b0
       try clear c15
       try clear c16
       try clear p11
       try clear p2
       try clear p3
       try clear p6
       try clear q11
       try clear q3
       obtain ⟨kq, x44_11, rfl, HA, HJ11, ⟨mc11, rfl⟩⟩ := hcut
       cases kq with
       | zero => exact absurd HA.out (by simp [rootcellarref1_Rune.j1])
       | succ kj11 =>
        have H := HA.out
        clear HA
        simp only [rootcellarref1_Rune.j1] at H
        have HC18 := Aside0.mk H
        clear H
        go_upto_if 44 with (fail)
        repeat (go_quiet (fail); go_upto_if 44 with (fail))
        go_cut [] (fun wc => ∃ (kq : Nat), Aside0 (rootcellarref1_Rune.j3 kq a0 (wrap64 (bt a0 0)) = some (r1, r2)) ∧ Aside0 (kq ≤ kj11) ∧ Drawn0 w wc)
        case first =>
         have H := HC18.out
         clear HC18
         by_cases c19 : x44_11 = true
         ·subst c19
          have H1 : (if 1 < (a0.size : Int) then (if 2 < (a0.size : Int) then (if (wrap64 ((wrap64 ((wrap64 ((wrap64 ((wrap64 ((wrap64 (bt a0 0)) - 224)) * 4096)) + (wrap64 ((wrap64 ((wrap64 (bt a0 1)) - 128)) * 64)))) + (wrap64 (bt a0 2)))) - 128)) ≥ 2048 then (if (wrap64 ((wrap64 ((wrap64 ((wrap64 ((wrap64 ((wrap64 (bt a0 0)) - 224)) * 4096)) + (wrap64 ((wrap64 ((wrap64 (bt a0 1)) - 128)) * 64)))) + (wrap64 (bt a0 2)))) - 128)) ≥ 55296 then (rootcellarref1_Rune.j2 kj11 a0 (wrap64 (bt a0 0)) (wrap64 ((wrap64 ((wrap64 ((wrap64 ((wrap64 ((wrap64 (bt a0 0)) - 224)) * 4096)) + (wrap64 ((wrap64 ((wrap64 (bt a0 1)) - 128)) * 64)))) + (wrap64 (bt a0 2)))) - 128)) (!(decide ((wrap64 ((wrap64 ((wrap64 ((wrap64 ((wrap64 ((wrap64 (bt a0 0)) - 224)) * 4096)) + (wrap64 ((wrap64 ((wrap64 (bt a0 1)) - 128)) * 64)))) + (wrap64 (bt a0 2)))) - 128)) ≤ 57343)))) else (rootcellarref1_Rune.j2 kj11 a0 (wrap64 (bt a0 0)) (wrap64 ((wrap64 ((wrap64 ((wrap64 ((wrap64 ((wrap64 (bt a0 0)) - 224)) * 4096)) + (wrap64 ((wrap64 ((wrap64 (bt a0 1)) - 128)) * 64)))) + (wrap64 (bt a0 2)))) - 128)) (!false))) else (rootcellarref1_Rune.j2 kj11 a0 (wrap64 (bt a0 0)) (wrap64 ((wrap64 ((wrap64 ((wrap64 ((wrap64 ((wrap64 (bt a0 0)) - 224)) * 4096)) + (wrap64 ((wrap64 ((wrap64 (bt a0 1)) - 128)) * 64)))) + (wrap64 (bt a0 2)))) - 128)) false)) else (none)) else (none)) = some (r1, r2) := by rw [if_pos rfl] at H; exact H
          clear H
          have H := H1
          clear H1
          by_cases c20 : 1 < (a0.size : Int)
          ·rw [if_pos c20] at H
           have c20b0 : decide (1 < (a0.size : Int)) = true := decide_eq_true c20
           have c20b1 : decide (1 < a0.size) = true := decide_eq_true (by omega)
           clear c20
           (first | rw [c20b0] | (simp only [i64_w, i32_w]; rw [c20b0]) | skip)
           by_cases c22 : 2 < (a0.size : Int)
           ·rw [if_pos c22] at H
            have c22b0 : decide (2 < (a0.size : Int)) = true := decide_eq_true c22
            have c22b1 : decide (2 < a0.size) = true := decide_eq_true (by omega)
            clear c22
            have HC24 := Aside0.mk H
            clear H
            have p21 : 0 ≤ (1 : Int) := (by omega)
            have q21 : 1 < a0.size := (by have : (1 : Int) < (a0.size : Int) := of_decide_eq_true asA; omega)
            have hx21 : ∀ h : 1 < a0.size, ((a0[1]'h).toNat : Int) = bt a0 1 := bt_at a0 1
            clear p21
            have qi21 : (1 < (a0.size : Int)) = True := eq_true (of_decide_eq_true asA)
            replace q21 := eq_true q21
            have p23 : 0 ≤ (2 : Int) := (by omega)
            have q23 : 2 < a0.size := (by have : (2 : Int) < (a0.size : Int) := of_decide_eq_true asA; omega)
            have hx23 : ∀ h : 2 < a0.size, ((a0[2]'h).toNat : Int) = bt a0 2 := bt_at a0 2
            clear p23
            have qi23 : (2 < (a0.size : Int)) = True := eq_true (of_decide_eq_true asA)
            replace q23 := eq_true q23
            go_upto_region 8 with (fail)
            repeat (go_quiet (fail); go_upto_region 8 with (fail))
            go_cut [69] (fun v69 wc => ∃ (kq : Nat) (x69_23 : Bool), v69 = .bool x69_23 ∧ Aside0 (rootcellarref1_Rune.j2 kq a0 (wrap64 (bt a0 0)) (wrap64 ((wrap64 ((wrap64 ((wrap64 ((wrap64 ((wrap64 (bt a0 0)) - 224)) * 4096)) + (wrap64 ((wrap64 ((wrap64 (bt a0 1)) - 128)) * 64)))) + (wrap64 (bt a0 2)))) - 128)) x69_23 = some (r1, r2)) ∧ Aside0 (kq ≤ kj11) ∧ Drawn0 w wc)
            case first =>
             have H := HC24.out
             clear HC24
             by_cases c25 : (wrap64 ((wrap64 ((wrap64 ((wrap64 ((wrap64 ((wrap64 (bt a0 0)) - 224)) * 4096)) + (wrap64 ((wrap64 ((wrap64 (bt a0 1)) - 128)) * 64)))) + (wrap64 (bt a0 2)))) - 128)) ≥ 2048
             ·rw [if_pos c25] at H
              have c25b0 : decide (2048 ≤ (wrap64 ((wrap64 ((wrap64 ((wrap64 ((wrap64 ((wrap64 (bt a0 0)) - 224)) * 4096)) + (wrap64 ((wrap64 ((wrap64 (bt a0 1)) - 128)) * 64)))) + (wrap64 (bt a0 2)))) - 128))) = true := decide_eq_true c25
              clear c25
              (first | rw [c25b0] | (simp only [i64_w, i32_w]; rw [c25b0]) | skip)
              by_cases c26 : (wrap64 ((wrap64 ((wrap64 ((wrap64 ((wrap64 ((wrap64 (bt a0 0)) - 224)) * 4096)) + (wrap64 ((wrap64 ((wrap64 (bt a0 1)) - 128)) * 64)))) + (wrap64 (bt a0 2)))) - 128)) ≥ 55296
              ·rw [if_pos c26] at H
               have c26b0 : decide (55296 ≤ (wrap64 ((wrap64 ((wrap64 ((wrap64 ((wrap64 ((wrap64 (bt a0 0)) - 224)) * 4096)) + (wrap64 ((wrap64 ((wrap64 (bt a0 1)) - 128)) * 64)))) + (wrap64 (bt a0 2)))) - 128))) = true := decide_eq_true c26
               clear c26
               have H' := Aside0.mk H
               clear H
               go_wp2
               repeat (go_quiet (fail); try go_wp2)
               go_meet
               case rel => exact ⟨_, (!(decide ((wrap64 ((wrap64 ((wrap64 ((wrap64 ((wrap64 ((wrap64 (bt a0 0)) - 224)) * 4096)) + (wrap64 ((wrap64 ((wrap64 (bt a0 1)) - 128)) * 64)))) + (wrap64 (bt a0 2)))) - 128)) ≤ 57343))), (by first | rfl | (simp; done) | (simp [*]; done)), H', ⟨by have := HJ4.out; have := HJ11.out; first | omega | exact Nat.le_refl _⟩, by repeat (first | exact Drawn0.refl _ | apply Drawn0.step)⟩
              ·rw [if_neg c26] at H
               have c26b0 : decide (55296 ≤ (wrap64 ((wrap64 ((wrap64 ((wrap64 ((wrap64 ((wrap64 (bt a0 0)) - 224)) * 4096)) + (wrap64 ((wrap64 ((wrap64 (bt a0 1)) - 128)) * 64)))) + (wrap64 (bt a0 2)))) - 128))) = false := decide_eq_false c26
               clear c26
               have H' := Aside0.mk H
               clear H
               go_wp2
               repeat (go_quiet (fail); try go_wp2)
               go_meet
               case rel => exact ⟨_, (!false), (by first | rfl | (simp; done) | (simp [*]; done)), H', ⟨by have := HJ4.out; have := HJ11.out; first | omega | exact Nat.le_refl _⟩, by repeat (first | exact Drawn0.refl _ | apply Drawn0.step)⟩
             ·rw [if_neg c25] at H
              have c25b0 : decide (2048 ≤ (wrap64 ((wrap64 ((wrap64 ((wrap64 ((wrap64 ((wrap64 (bt a0 0)) - 224)) * 4096)) + (wrap64 ((wrap64 ((wrap64 (bt a0 1)) - 128)) * 64)))) + (wrap64 (bt a0 2)))) - 128))) = false := decide_eq_false c25
              clear c25
              (first | rw [c25b0] | (simp only [i64_w, i32_w]; rw [c25b0]) | skip)
              have H' := Aside0.mk H
              clear H
              go_wp2
              repeat (go_quiet (fail); try go_wp2)
              go_meet
              case rel => exact ⟨_, (false), (by first | rfl | (simp; done) | (simp [*]; done)), H', ⟨by have := HJ4.out; have := HJ11.out; first | omega | exact Nat.le_refl _⟩, by repeat (first | exact Drawn0.refl _ | apply Drawn0.step)⟩
            case rest =>
             clear HC24
             try clear c1
             try clear p1
             try clear q1
             try clear hx1
             try clear qi1
             try clear c2
             try clear c2b0
             try clear c2b1
             try clear p2
             try clear q2
             try clear hx2
             try clear qi2
             try clear p3
             try clear q3
             try clear hx3
             try clear qi3
             try clear c4
             try clear c4b0
             try clear c6
             try clear c6b0
             try clear p6
             try clear c7
             try clear c7b0
             try clear c9
             try clear c10
             try clear c10b0
             try clear c10b1
             try clear c11
             try clear p11
             try clear q11
             try clear hx11
             try clear qi11
             try clear c13
             try clear c13b0
             try clear c14
             try clear c14b0
             try clear c15
             try clear c16
             try clear c19
             try clear c20
             try clear c20b0
             try clear c20b1
             try clear p21
             try clear q21
             try clear hx21
             try clear qi21
             try clear c22
             try clear c22b0
             try clear c22b1
             try clear p23
             try clear q23
             try clear hx23
             try clear qi23
             try clear c25
             try clear c25b0
             try clear c26
             try clear c26b0
             try clear p1
             try clear p11
             try clear p2
             try clear p21
             try clear p23
             try clear p3
             try clear p6
             try clear q1
             try clear q11
             try clear q21
             try clear q23
             try clear q3
             obtain ⟨kq, x69_23, rfl, HA, HJ23, ⟨mc23, rfl⟩⟩ := hcut
             cases kq with
             | zero => exact absurd HA.out (by simp [rootcellarref1_Rune.j2])
             | succ kj23 =>
              have H := HA.out
              clear HA
              simp only [rootcellarref1_Rune.j2] at H
              by_cases c27 : x69_23 = true
              ·subst c27
               have H1 : (some ((wrap64 ((wrap64 ((wrap64 ((wrap64 ((wrap64 ((wrap64 (bt a0 0)) - 224)) * 4096)) + (wrap64 ((wrap64 ((wrap64 (bt a0 1)) - 128)) * 64)))) + (wrap64 (bt a0 2)))) - 128)), 3)) = some (r1, r2) := by rw [if_pos rfl] at H; exact H
               clear H
               have H := H1
               clear H1
               simp only [Option.some.injEq, Prod.mk.injEq] at H
               obtain ⟨rfl, rfl⟩ := H
               go_wp2
               repeat (go_quiet (fail); try go_wp2)
               go_ret2
               exact ⟨by first | rfl | (simp; done) | (simp [*]; done), by repeat (first | exact Drawn0.refl _ | apply Drawn0.step)⟩
              ·replace c27 := Bool.eq_false_iff.mpr c27
               subst c27
               have H1 : (rootcellarref1_Rune.j3 kj23 a0 (wrap64 (bt a0 0))) = some (r1, r2) := by rw [if_neg (show ¬ (false = true) by decide)] at H; exact H
               clear H
               have H := H1
               clear H1
               have H' := Aside0.mk H
               clear H
               go_wp2
               repeat (go_quiet (fail); try go_wp2)
               go_meet
               case rel => exact ⟨_, H', ⟨by have := HJ4.out; have := HJ11.out; have := HJ23.out; first | omega | exact Nat.le_refl _⟩, by repeat (first | exact Drawn0.refl _ | apply Drawn0.step)⟩
           ·rw [if_neg c22] at H
            exact absurd H (by simp)
          ·rw [if_neg c20] at H
           exact absurd H (by simp)
         ·replace c19 := Bool.eq_false_iff.mpr c19
          subst c19
          have H1 : (rootcellarref1_Rune.j3 kj11 a0 (wrap64 (bt a0 0))) = some (r1, r2) := by rw [if_neg (show ¬ (false = true) by decide)] at H; exact H
          clear H
          have H := H1
          clear H1
          have H' := Aside0.mk H
          clear H
          go_wp2
          repeat (go_quiet (fail); try go_wp2)
          go_meet
          case rel => exact ⟨_, H', ⟨by have := HJ4.out; have := HJ11.out; first | omega | exact Nat.le_refl _⟩, by repeat (first | exact Drawn0.refl _ | apply Drawn0.step)⟩
        case rest =>
         clear HC18
         try clear c1
         try clear p1
         try clear q1
         try clear hx1
         try clear qi1
         try clear c2
         try clear c2b0
         try clear c2b1
         try clear p2
         try clear q2
         try clear hx2
         try clear qi2
         try clear p3
         try clear q3
         try clear hx3
         try clear qi3
         try clear c4
         try clear c4b0
         try clear c6
         try clear c6b0
         try clear p6
         try clear c7
         try clear c7b0
         try clear c9
         try clear c10
         try clear c10b0
         try clear c10b1
         try clear c11
         try clear p11
         try clear q11
         try clear hx11
         try clear qi11
         try clear c13
         try clear c13b0
         try clear c14
         try clear c14b0
         try clear c15
         try clear c16
         try clear c19
         try clear c20
         try clear c20b0
         try clear c20b1
         try clear p21
         try clear q21
         try clear hx21
         try clear qi21
         try clear c22
         try clear c22b0
         try clear c22b1
         try clear c23
         try clear p23
         try clear q23
         try clear hx23
         try clear qi23
         try clear c25
         try clear c25b0
         try clear c26
         try clear c26b0
         try clear c27
         try clear p1
         try clear p11
         try clear p2
         try clear p21
         try clear p23
         try clear p3
         try clear p6
         try clear q1
         try clear q11
         try clear q2
         try clear q21
         try clear q23
         try clear q3
         obtain ⟨kq, HA, HJ17, ⟨mc17, rfl⟩⟩ := hcut
         cases kq with
         | zero => exact absurd HA.out (by simp [rootcellarref1_Rune.j3])
         | succ kj17 =>
          have H := HA.out
          clear HA
          simp only [rootcellarref1_Rune.j3] at H
          have HC28 := Aside0.mk H
          clear H
          go_upto_region 10 with (fail)
          repeat (go_quiet (fail); go_upto_region 10 with (fail))
          go_cut [88] (fun v88 wc => ∃ (kq : Nat) (x88_27 : Bool), v88 = .bool x88_27 ∧ Aside0 (rootcellarref1_Rune.j4 kq a0 (wrap64 (bt a0 0)) x88_27 = some (r1, r2)) ∧ Aside0 (kq ≤ kj17) ∧ Drawn0 w wc)
          case first =>
           have H := HC28.out
           clear HC28
           by_cases c29 : (wrap64 (bt a0 0)) ≥ 240
           ·rw [if_pos c29] at H
            have c29b0 : decide (240 ≤ (wrap64 (bt a0 0))) = true := decide_eq_true c29
            clear c29
            (first | rw [c29b0] | (simp only [i64_w, i32_w]; rw [c29b0]) | skip)
            by_cases c30 : (wrap64 (bt a0 0)) ≤ 244
            ·rw [if_pos c30] at H
             have c30b0 : decide ((wrap64 (bt a0 0)) ≤ 244) = true := decide_eq_true c30
             clear c30
             replace H := Option.bind_eq_some_iff.mp H
             obtain ⟨t267, A310, H⟩ := H
             replace H : (if t267 = true then ((rootcellarref1_more.f a0 2).bind fun t268 => (if t268 = true then ((rootcellarref1_more.f a0 3).bind fun t269 => (rootcellarref1_Rune.j4 kj17 a0 (wrap64 (bt a0 0)) t269)) else (rootcellarref1_Rune.j4 kj17 a0 (wrap64 (bt a0 0)) false))) else (rootcellarref1_Rune.j4 kj17 a0 (wrap64 (bt a0 0)) false)) = some (r1, r2) := H
             have A31 := Aside0.mk A310
             clear A310
             by_cases c32 : t267 = true
             ·subst c32
              have H1 : ((rootcellarref1_more.f a0 2).bind fun t268 => (if t268 = true then ((rootcellarref1_more.f a0 3).bind fun t269 => (rootcellarref1_Rune.j4 kj17 a0 (wrap64 (bt a0 0)) t269)) else (rootcellarref1_Rune.j4 kj17 a0 (wrap64 (bt a0 0)) false))) = some (r1, r2) := by rw [if_pos rfl] at H; exact H
              clear H
              have H := H1
              clear H1
              replace H := Option.bind_eq_some_iff.mp H
              obtain ⟨t268, A330, H⟩ := H
              replace H : (if t268 = true then ((rootcellarref1_more.f a0 3).bind fun t269 => (rootcellarref1_Rune.j4 kj17 a0 (wrap64 (bt a0 0)) t269)) else (rootcellarref1_Rune.j4 kj17 a0 (wrap64 (bt a0 0)) false)) = some (r1, r2) := H
              have A33 := Aside0.mk A330
              clear A330
              by_cases c34 : t268 = true
              ·subst c34
               have H1 : ((rootcellarref1_more.f a0 3).bind fun t269 => (rootcellarref1_Rune.j4 kj17 a0 (wrap64 (bt a0 0)) t269)) = some (r1, r2) := by rw [if_pos rfl] at H; exact H
               clear H
               have H := H1
               clear H1
               replace H := Option.bind_eq_some_iff.mp H
               obtain ⟨t269, A350, H⟩ := H
               replace H : (rootcellarref1_Rune.j4 kj17 a0 (wrap64 (bt a0 0)) t269) = some (r1, r2) := H
               have A35 := Aside0.mk A350
               clear A350
               have H' := Aside0.mk H
               clear H
               go_wp2_with (first | (go_at_call 154; (with_reducible refine (rootcellarref1_more.calls a0 1 true _ A31.out).mono ?_); rintro e w' ⟨rfl, ⟨nd, rfl⟩⟩; (try first | exact ⟨rfl, _, World.drewN_drewN _ _ _⟩ | exact ⟨rfl, _, Eq.trans (World.drewN_drewN _ _ _) (congrArg (World.drewN _) (Nat.add_assoc _ _ _))⟩)) | (go_at_call 154; (with_reducible refine (rootcellarref1_more.calls a0 2 true _ A33.out).mono ?_); rintro e w' ⟨rfl, ⟨nd, rfl⟩⟩; (try first | exact ⟨rfl, _, World.drewN_drewN _ _ _⟩ | exact ⟨rfl, _, Eq.trans (World.drewN_drewN _ _ _) (congrArg (World.drewN _) (Nat.add_assoc _ _ _))⟩)) | (go_at_call 154; (with_reducible refine (rootcellarref1_more.calls a0 3 t269 _ A35.out).mono ?_); rintro e w' ⟨rfl, ⟨nd, rfl⟩⟩; (try first | exact ⟨rfl, _, World.drewN_drewN _ _ _⟩ | exact ⟨rfl, _, Eq.trans (World.drewN_drewN _ _ _) (congrArg (World.drewN _) (Nat.add_assoc _ _ _))⟩)))
               repeat (go_quiet (first | (go_at_call 154; (with_reducible refine (rootcellarref1_more.calls a0 1 true _ A31.out).mono ?_); rintro e w' ⟨rfl, ⟨nd, rfl⟩⟩; (try first | exact ⟨rfl, _, World.drewN_drewN _ _ _⟩ | exact ⟨rfl, _, Eq.trans (World.drewN_drewN _ _ _) (congrArg (World.drewN _) (Nat.add_assoc _ _ _))⟩)) | (go_at_call 154; (with_reducible refine (rootcellarref1_more.calls a0 2 true _ A33.out).mono ?_); rintro e w' ⟨rfl, ⟨nd, rfl⟩⟩; (try first | exact ⟨rfl, _, World.drewN_drewN _ _ _⟩ | exact ⟨rfl, _, Eq.trans (World.drewN_drewN _ _ _) (congrArg (World.drewN _) (Nat.add_assoc _ _ _))⟩)) | (go_at_call 154; (with_reducible refine (rootcellarref1_more.calls a0 3 t269 _ A35.out).mono ?_); rintro e w' ⟨rfl, ⟨nd, rfl⟩⟩; (try first | exact ⟨rfl, _, World.drewN_drewN _ _ _⟩ | exact ⟨rfl, _, Eq.trans (World.drewN_drewN _ _ _) (congrArg (World.drewN _) (Nat.add_assoc _ _ _))⟩))); try go_wp2_with (first | (go_at_call 154; (with_reducible refine (rootcellarref1_more.calls a0 1 true _ A31.out).mono ?_); rintro e w' ⟨rfl, ⟨nd, rfl⟩⟩; (try first | exact ⟨rfl, _, World.drewN_drewN _ _ _⟩ | exact ⟨rfl, _, Eq.trans (World.drewN_drewN _ _ _) (congrArg (World.drewN _) (Nat.add_assoc _ _ _))⟩)) | (go_at_call 154; (with_reducible refine (rootcellarref1_more.calls a0 2 true _ A33.out).mono ?_); rintro e w' ⟨rfl, ⟨nd, rfl⟩⟩; (try first | exact ⟨rfl, _, World.drewN_drewN _ _ _⟩ | exact ⟨rfl, _, Eq.trans (World.drewN_drewN _ _ _) (congrArg (World.drewN _) (Nat.add_assoc _ _ _))⟩)) | (go_at_call 154; (with_reducible refine (rootcellarref1_more.calls a0 3 t269 _ A35.out).mono ?_); rintro e w' ⟨rfl, ⟨nd, rfl⟩⟩; (try first | exact ⟨rfl, _, World.drewN_drewN _ _ _⟩ | exact ⟨rfl, _, Eq.trans (World.drewN_drewN _ _ _) (congrArg (World.drewN _) (Nat.add_assoc _ _ _))⟩))))
               go_meet
               case rel => exact ⟨_, (t269), (by first | rfl | (simp; done) | (simp [*]; done)), H', ⟨by have := HJ4.out; have := HJ11.out; have := HJ17.out; first | omega | exact Nat.le_refl _⟩, by repeat (first | exact Drawn0.refl _ | apply Drawn0.step)⟩
              ·replace c34 := Bool.eq_false_iff.mpr c34
               subst c34
               have H1 : (rootcellarref1_Rune.j4 kj17 a0 (wrap64 (bt a0 0)) false) = some (r1, r2) := by rw [if_neg (show ¬ (false = true) by decide)] at H; exact H
               clear H
               have H := H1
               clear H1
               have H' := Aside0.mk H
               clear H
               go_wp2_with (first | (go_at_call 154; (with_reducible refine (rootcellarref1_more.calls a0 1 true _ A31.out).mono ?_); rintro e w' ⟨rfl, ⟨nd, rfl⟩⟩; (try first | exact ⟨rfl, _, World.drewN_drewN _ _ _⟩ | exact ⟨rfl, _, Eq.trans (World.drewN_drewN _ _ _) (congrArg (World.drewN _) (Nat.add_assoc _ _ _))⟩)) | (go_at_call 154; (with_reducible refine (rootcellarref1_more.calls a0 2 false _ A33.out).mono ?_); rintro e w' ⟨rfl, ⟨nd, rfl⟩⟩; (try first | exact ⟨rfl, _, World.drewN_drewN _ _ _⟩ | exact ⟨rfl, _, Eq.trans (World.drewN_drewN _ _ _) (congrArg (World.drewN _) (Nat.add_assoc _ _ _))⟩)))
               repeat (go_quiet (first | (go_at_call 154; (with_reducible refine (rootcellarref1_more.calls a0 1 true _ A31.out).mono ?_); rintro e w' ⟨rfl, ⟨nd, rfl⟩⟩; (try first | exact ⟨rfl, _, World.drewN_drewN _ _ _⟩ | exact ⟨rfl, _, Eq.trans (World.drewN_drewN _ _ _) (congrArg (World.drewN _) (Nat.add_assoc _ _ _))⟩)) | (go_at_call 154; (with_reducible refine (rootcellarref1_more.calls a0 2 false _ A33.out).mono ?_); rintro e w' ⟨rfl, ⟨nd, rfl⟩⟩; (try first | exact ⟨rfl, _, World.drewN_drewN _ _ _⟩ | exact ⟨rfl, _, Eq.trans (World.drewN_drewN _ _ _) (congrArg (World.drewN _) (Nat.add_assoc _ _ _))⟩))); try go_wp2_with (first | (go_at_call 154; (with_reducible refine (rootcellarref1_more.calls a0 1 true _ A31.out).mono ?_); rintro e w' ⟨rfl, ⟨nd, rfl⟩⟩; (try first | exact ⟨rfl, _, World.drewN_drewN _ _ _⟩ | exact ⟨rfl, _, Eq.trans (World.drewN_drewN _ _ _) (congrArg (World.drewN _) (Nat.add_assoc _ _ _))⟩)) | (go_at_call 154; (with_reducible refine (rootcellarref1_more.calls a0 2 false _ A33.out).mono ?_); rintro e w' ⟨rfl, ⟨nd, rfl⟩⟩; (try first | exact ⟨rfl, _, World.drewN_drewN _ _ _⟩ | exact ⟨rfl, _, Eq.trans (World.drewN_drewN _ _ _) (congrArg (World.drewN _) (Nat.add_assoc _ _ _))⟩))))
               go_meet
               case rel => exact ⟨_, (false), (by first | rfl | (simp; done) | (simp [*]; done)), H', ⟨by have := HJ4.out; have := HJ11.out; have := HJ17.out; first | omega | exact Nat.le_refl _⟩, by repeat (first | exact Drawn0.refl _ | apply Drawn0.step)⟩
             ·replace c32 := Bool.eq_false_iff.mpr c32
              subst c32
              have H1 : (rootcellarref1_Rune.j4 kj17 a0 (wrap64 (bt a0 0)) false) = some (r1, r2) := by rw [if_neg (show ¬ (false = true) by decide)] at H; exact H
              clear H
              have H := H1
              clear H1
              have H' := Aside0.mk H
              clear H
              go_wp2_with (first | (go_at_call 154; (with_reducible refine (rootcellarref1_more.calls a0 1 false _ A31.out).mono ?_); rintro e w' ⟨rfl, ⟨nd, rfl⟩⟩; (try first | exact ⟨rfl, _, World.drewN_drewN _ _ _⟩ | exact ⟨rfl, _, Eq.trans (World.drewN_drewN _ _ _) (congrArg (World.drewN _) (Nat.add_assoc _ _ _))⟩)))
              repeat (go_quiet (first | (go_at_call 154; (with_reducible refine (rootcellarref1_more.calls a0 1 false _ A31.out).mono ?_); rintro e w' ⟨rfl, ⟨nd, rfl⟩⟩; (try first | exact ⟨rfl, _, World.drewN_drewN _ _ _⟩ | exact ⟨rfl, _, Eq.trans (World.drewN_drewN _ _ _) (congrArg (World.drewN _) (Nat.add_assoc _ _ _))⟩))); try go_wp2_with (first | (go_at_call 154; (with_reducible refine (rootcellarref1_more.calls a0 1 false _ A31.out).mono ?_); rintro e w' ⟨rfl, ⟨nd, rfl⟩⟩; (try first | exact ⟨rfl, _, World.drewN_drewN _ _ _⟩ | exact ⟨rfl, _, Eq.trans (World.drewN_drewN _ _ _) (congrArg (World.drewN _) (Nat.add_assoc _ _ _))⟩))))
              go_meet
              case rel => exact ⟨_, (false), (by first | rfl | (simp; done) | (simp [*]; done)), H', ⟨by have := HJ4.out; have := HJ11.out; have := HJ17.out; first | omega | exact Nat.le_refl _⟩, by repeat (first | exact Drawn0.refl _ | apply Drawn0.step)⟩
            ·rw [if_neg c30] at H
             have c30b0 : decide ((wrap64 (bt a0 0)) ≤ 244) = false := decide_eq_false c30
             clear c30
             have H' := Aside0.mk H
             clear H
             go_wp2
             repeat (go_quiet (fail); try go_wp2)
             go_meet
             case rel => exact ⟨_, (false), (by first | rfl | (simp; done) | (simp [*]; done)), H', ⟨by have := HJ4.out; have := HJ11.out; have := HJ17.out; first | omega | exact Nat.le_refl _⟩, by repeat (first | exact Drawn0.refl _ | apply Drawn0.step)⟩
           ·rw [if_neg c29] at H
            have c29b0 : decide (240 ≤ (wrap64 (bt a0 0))) = false := decide_eq_false c29
            clear c29
            (first | rw [c29b0] | (simp only [i64_w, i32_w]; rw [c29b0]) | skip)
            have H' := Aside0.mk H
            clear H
            go_wp2
            repeat (go_quiet (fail); try go_wp2)
            go_meet
            case rel => exact ⟨_, (false), (by first | rfl | (simp; done) | (simp [*]; done)), H', ⟨by have := HJ4.out; have := HJ11.out; have := HJ17.out; first | omega | exact Nat.le_refl _⟩, by repeat (first | exact Drawn0.refl _ | apply Drawn0.step)⟩
          case rest =>
           clear HC28
           try clear c1
           try clear p1
           try clear q1
           try clear hx1
           try clear qi1
           try clear c2
           try clear c2b0
           try clear c2b1
           try clear p2
           try clear q2
           try clear hx2
           try clear qi2
           try clear c3
           try clear p3
           try clear q3
           try clear hx3
           try clear qi3
           try clear c4
           try clear c4b0
           try clear c6
           try clear c6b0
           try clear p6
           try clear c7
           try clear c7b0
           try clear c9
           try clear c10
           try clear c10b0
           try clear c10b1
           try clear c11
           try clear p11
           try clear q11
           try clear hx11
           try clear qi11
           try clear c13
           try clear c13b0
           try clear c14
           try clear c14b0
           try clear c15
           try clear c16
           try clear c17
           try clear c19
           try clear c20
           try clear c20b0
           try clear c20b1
           try clear p21
           try clear q21
           try clear hx21
           try clear qi21
           try clear c22
           try clear c22b0
           try clear c22b1
           try clear c23
           try clear p23
           try clear q23
           try clear hx23
           try clear qi23
           try clear c25
           try clear c25b0
           try clear c26
           try clear c26b0
           try clear c27
           try clear c29
           try clear c29b0
           try clear c30
           try clear c30b0
           try clear c32
           try clear c34
           try clear p1
           try clear p11
           try clear p2
           try clear p21
           try clear p23
           try clear p3
           try clear p6
           try clear q1
           try clear q11
           try clear q2
           try clear q21
           try clear q23
           try clear q3
           obtain ⟨kq, x88_27, rfl, HA, HJ27, ⟨mc27, rfl⟩⟩ := hcut
           cases kq with
           | zero => exact absurd HA.out (by simp [rootcellarref1_Rune.j4])
           | succ kj27 =>
            have H := HA.out
            clear HA
            simp only [rootcellarref1_Rune.j4] at H
            by_cases c36 : x88_27 = true
            ·subst c36
             have H1 : (if 1 < (a0.size : Int) then (if 2 < (a0.size : Int) then (if 3 < (a0.size : Int) then (if (wrap64 ((wrap64 ((wrap64 ((wrap64 ((wrap64 ((wrap64 ((wrap64 (bt a0 0)) - 240)) * 262144)) + (wrap64 ((wrap64 ((wrap64 (bt a0 1)) - 128)) * 4096)))) + (wrap64 ((wrap64 ((wrap64 (bt a0 2)) - 128)) * 64)))) + (wrap64 (bt a0 3)))) - 128)) ≥ 65536 then (if (wrap64 ((wrap64 ((wrap64 ((wrap64 ((wrap64 ((wrap64 ((wrap64 (bt a0 0)) - 240)) * 262144)) + (wrap64 ((wrap64 ((wrap64 (bt a0 1)) - 128)) * 4096)))) + (wrap64 ((wrap64 ((wrap64 (bt a0 2)) - 128)) * 64)))) + (wrap64 (bt a0 3)))) - 128)) ≤ 1114111 then (some (wrap64 ((wrap64 ((wrap64 ((wrap64 ((wrap64 ((wrap64 ((wrap64 (bt a0 0)) - 240)) * 262144)) + (wrap64 ((wrap64 ((wrap64 (bt a0 1)) - 128)) * 4096)))) + (wrap64 ((wrap64 ((wrap64 (bt a0 2)) - 128)) * 64)))) + (wrap64 (bt a0 3)))) - 128), 4)) else (some ((-1), 1))) else (some ((-1), 1))) else (none)) else (none)) else (none)) = some (r1, r2) := by rw [if_pos rfl] at H; exact H
             clear H
             have H := H1
             clear H1
             by_cases c37 : 1 < (a0.size : Int)
             ·rw [if_pos c37] at H
              have c37b0 : decide (1 < (a0.size : Int)) = true := decide_eq_true c37
              have c37b1 : decide (1 < a0.size) = true := decide_eq_true (by omega)
              clear c37
              by_cases c39 : 2 < (a0.size : Int)
              ·rw [if_pos c39] at H
               have c39b0 : decide (2 < (a0.size : Int)) = true := decide_eq_true c39
               have c39b1 : decide (2 < a0.size) = true := decide_eq_true (by omega)
               clear c39
               by_cases c41 : 3 < (a0.size : Int)
               ·rw [if_pos c41] at H
                have c41b0 : decide (3 < (a0.size : Int)) = true := decide_eq_true c41
                have c41b1 : decide (3 < a0.size) = true := decide_eq_true (by omega)
                clear c41
                by_cases c43 : (wrap64 ((wrap64 ((wrap64 ((wrap64 ((wrap64 ((wrap64 ((wrap64 (bt a0 0)) - 240)) * 262144)) + (wrap64 ((wrap64 ((wrap64 (bt a0 1)) - 128)) * 4096)))) + (wrap64 ((wrap64 ((wrap64 (bt a0 2)) - 128)) * 64)))) + (wrap64 (bt a0 3)))) - 128)) ≥ 65536
                ·rw [if_pos c43] at H
                 have c43b0 : decide (65536 ≤ (wrap64 ((wrap64 ((wrap64 ((wrap64 ((wrap64 ((wrap64 ((wrap64 (bt a0 0)) - 240)) * 262144)) + (wrap64 ((wrap64 ((wrap64 (bt a0 1)) - 128)) * 4096)))) + (wrap64 ((wrap64 ((wrap64 (bt a0 2)) - 128)) * 64)))) + (wrap64 (bt a0 3)))) - 128))) = true := decide_eq_true c43
                 clear c43
                 by_cases c44 : (wrap64 ((wrap64 ((wrap64 ((wrap64 ((wrap64 ((wrap64 ((wrap64 (bt a0 0)) - 240)) * 262144)) + (wrap64 ((wrap64 ((wrap64 (bt a0 1)) - 128)) * 4096)))) + (wrap64 ((wrap64 ((wrap64 (bt a0 2)) - 128)) * 64)))) + (wrap64 (bt a0 3)))) - 128)) ≤ 1114111
                 ·rw [if_pos c44] at H
                  have c44b0 : decide ((wrap64 ((wrap64 ((wrap64 ((wrap64 ((wrap64 ((wrap64 ((wrap64 (bt a0 0)) - 240)) * 262144)) + (wrap64 ((wrap64 ((wrap64 (bt a0 1)) - 128)) * 4096)))) + (wrap64 ((wrap64 ((wrap64 (bt a0 2)) - 128)) * 64)))) + (wrap64 (bt a0 3)))) - 128)) ≤ 1114111) = true := decide_eq_true c44
                  clear c44
                  simp only [Option.some.injEq, Prod.mk.injEq] at H
                  obtain ⟨rfl, rfl⟩ := H
                  have p38 : 0 ≤ (1 : Int) := (by omega)
                  have q38 : 1 < a0.size := (by have : (1 : Int) < (a0.size : Int) := of_decide_eq_true asA; omega)
                  have hx38 : ∀ h : 1 < a0.size, ((a0[1]'h).toNat : Int) = bt a0 1 := bt_at a0 1
                  clear p38
                  have qi38 : (1 < (a0.size : Int)) = True := eq_true (of_decide_eq_true asA)
                  replace q38 := eq_true q38
                  have p40 : 0 ≤ (2 : Int) := (by omega)
                  have q40 : 2 < a0.size := (by have : (2 : Int) < (a0.size : Int) := of_decide_eq_true asA; omega)
                  have hx40 : ∀ h : 2 < a0.size, ((a0[2]'h).toNat : Int) = bt a0 2 := bt_at a0 2
                  clear p40
                  have qi40 : (2 < (a0.size : Int)) = True := eq_true (of_decide_eq_true asA)
                  replace q40 := eq_true q40
                  have p42 : 0 ≤ (3 : Int) := (by omega)
                  have q42 : 3 < a0.size := (by have : (3 : Int) < (a0.size : Int) := of_decide_eq_true asA; omega)
                  have hx42 : ∀ h : 3 < a0.size, ((a0[3]'h).toNat : Int) = bt a0 3 := bt_at a0 3
                  clear p42
                  have qi42 : (3 < (a0.size : Int)) = True := eq_true (of_decide_eq_true asA)
                  replace q42 := eq_true q42
                  go_wp2
                  repeat (go_quiet (fail); try go_wp2)
                  go_ret2
                  exact ⟨by first | rfl | (simp; done) | (simp [*]; done), by repeat (first | exact Drawn0.refl _ | apply Drawn0.step)⟩
                 ·rw [if_neg c44] at H
                  have c44b0 : decide ((wrap64 ((wrap64 ((wrap64 ((wrap64 ((wrap64 ((wrap64 ((wrap64 (bt a0 0)) - 240)) * 262144)) + (wrap64 ((wrap64 ((wrap64 (bt a0 1)) - 128)) * 4096)))) + (wrap64 ((wrap64 ((wrap64 (bt a0 2)) - 128)) * 64)))) + (wrap64 (bt a0 3)))) - 128)) ≤ 1114111) = false := decide_eq_false c44
                  clear c44
                  simp only [Option.some.injEq, Prod.mk.injEq] at H
                  obtain ⟨rfl, rfl⟩ := H
                  have p38 : 0 ≤ (1 : Int) := (by omega)
                  have q38 : 1 < a0.size := (by have : (1 : Int) < (a0.size : Int) := of_decide_eq_true asA; omega)
                  have hx38 : ∀ h : 1 < a0.size, ((a0[1]'h).toNat : Int) = bt a0 1 := bt_at a0 1
                  clear p38
                  have qi38 : (1 < (a0.size : Int)) = True := eq_true (of_decide_eq_true asA)
                  replace q38 := eq_true q38
                  have p40 : 0 ≤ (2 : Int) := (by omega)
                  have q40 : 2 < a0.size := (by have : (2 : Int) < (a0.size : Int) := of_decide_eq_true asA; omega)
                  have hx40 : ∀ h : 2 < a0.size, ((a0[2]'h).toNat : Int) = bt a0 2 := bt_at a0 2
                  clear p40
                  have qi40 : (2 < (a0.size : Int)) = True := eq_true (of_decide_eq_true asA)
                  replace q40 := eq_true q40
                  have p42 : 0 ≤ (3 : Int) := (by omega)
                  have q42 : 3 < a0.size := (by have : (3 : Int) < (a0.size : Int) := of_decide_eq_true asA; omega)
                  have hx42 : ∀ h : 3 < a0.size, ((a0[3]'h).toNat : Int) = bt a0 3 := bt_at a0 3
                  clear p42
                  have qi42 : (3 < (a0.size : Int)) = True := eq_true (of_decide_eq_true asA)
                  replace q42 := eq_true q42
                  go_wp2
                  repeat (go_quiet (fail); try go_wp2)
                  go_ret2
                  exact ⟨by first | rfl | (simp; done) | (simp [*]; done), by repeat (first | exact Drawn0.refl _ | apply Drawn0.step)⟩
                ·rw [if_neg c43] at H
                 have c43b0 : decide (65536 ≤ (wrap64 ((wrap64 ((wrap64 ((wrap64 ((wrap64 ((wrap64 ((wrap64 (bt a0 0)) - 240)) * 262144)) + (wrap64 ((wrap64 ((wrap64 (bt a0 1)) - 128)) * 4096)))) + (wrap64 ((wrap64 ((wrap64 (bt a0 2)) - 128)) * 64)))) + (wrap64 (bt a0 3)))) - 128))) = false := decide_eq_false c43
                 clear c43
                 simp only [Option.some.injEq, Prod.mk.injEq] at H
                 obtain ⟨rfl, rfl⟩ := H
                 have p38 : 0 ≤ (1 : Int) := (by omega)
                 have q38 : 1 < a0.size := (by have : (1 : Int) < (a0.size : Int) := of_decide_eq_true asA; omega)
                 have hx38 : ∀ h : 1 < a0.size, ((a0[1]'h).toNat : Int) = bt a0 1 := bt_at a0 1
                 clear p38
                 have qi38 : (1 < (a0.size : Int)) = True := eq_true (of_decide_eq_true asA)
                 replace q38 := eq_true q38
                 have p40 : 0 ≤ (2 : Int) := (by omega)
                 have q40 : 2 < a0.size := (by have : (2 : Int) < (a0.size : Int) := of_decide_eq_true asA; omega)
                 have hx40 : ∀ h : 2 < a0.size, ((a0[2]'h).toNat : Int) = bt a0 2 := bt_at a0 2
                 clear p40
                 have qi40 : (2 < (a0.size : Int)) = True := eq_true (of_decide_eq_true asA)
                 replace q40 := eq_true q40
                 have p42 : 0 ≤ (3 : Int) := (by omega)
                 have q42 : 3 < a0.size := (by have : (3 : Int) < (a0.size : Int) := of_decide_eq_true asA; omega)
                 have hx42 : ∀ h : 3 < a0.size, ((a0[3]'h).toNat : Int) = bt a0 3 := bt_at a0 3
                 clear p42
                 have qi42 : (3 < (a0.size : Int)) = True := eq_true (of_decide_eq_true asA)
                 replace q42 := eq_true q42
                 go_wp2
                 repeat (go_quiet (fail); try go_wp2)
                 go_ret2
                 exact ⟨by first | rfl | (simp; done) | (simp [*]; done), by repeat (first | exact Drawn0.refl _ | apply Drawn0.step)⟩
               ·rw [if_neg c41] at H
                exact absurd H (by simp)
              ·rw [if_neg c39] at H
               exact absurd H (by simp)
             ·rw [if_neg c37] at H
              exact absurd H (by simp)
            ·replace c36 := Bool.eq_false_iff.mpr c36
             subst c36
             have H1 : (some ((-1), 1)) = some (r1, r2) := by rw [if_neg (show ¬ (false = true) by decide)] at H; exact H
             clear H
             have H := H1
             clear H1
             simp only [Option.some.injEq, Prod.mk.injEq] at H
             obtain ⟨rfl, rfl⟩ := H
             go_wp2
             repeat (go_quiet (fail); try go_wp2)
             go_ret2
             exact ⟨by first | rfl | (simp; done) | (simp [*]; done), by repeat (first | exact Drawn0.refl _ | apply Drawn0.step)⟩
 ·rw [if_neg c2] at H
  exact absurd H (by simp)
end Go.Proofs.YtfdlbnfjohpdlaaGreatDoor.PPo
