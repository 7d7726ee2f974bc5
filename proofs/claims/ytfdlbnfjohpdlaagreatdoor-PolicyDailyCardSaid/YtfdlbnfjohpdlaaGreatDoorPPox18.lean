-- laid by gprint.py (this session's own program) out of the translation: Lean checks it
import Derived.Test.YtfdlbnfjohpdlaaGreatDoorPPox0
import Derived.Test.YtfdlbnfjohpdlaaGreatDoorPPox17
--compressed
namespace Go.Proofs.YtfdlbnfjohpdlaaGreatDoor.PPo
open Go.RowKit Go.Proofs.YtfdlbnfjohpdlaaGreatDoorW.PrintWords Go.Proofs.YtfdlbnfjohpdlaaGreatDoorW.PrintLast Go.Proofs.YtfdlbnfjohpdlaaGreatDoorW.PrintMore
attribute [local go_sem] max2_int min2_int max_two min_two max_three min_three max_four min_four   -- for this text's walks alone
attribute [local go_sem high] hw_str_leq hw_str_gtr
set_option linter.unusedVariables false
set_option linter.unusedSimpArgs false
def rootcellarref1_Valid.l0 : Nat → ByteArray → Option (Bool)
 | 0, _ => none
 | k + 1, x0 => if x0.toList = ([] : List UInt8) then (some true) else ((rootcellarref1_Rune.f k x0).bind fun bt270 => (if bt270.1 < 0 then (some false) else (if 0 ≤ bt270.2 then (if bt270.2 ≤ (x0.size : Int) then (rootcellarref1_Valid.l0 k (x0.extract (bt270.2 : Int).toNat x0.size)) else (none)) else (none))))
def rootcellarref1_Valid.f (k : Nat) (a0 : ByteArray) : Option (Bool) := rootcellarref1_Valid.l0 k a0
set_option maxHeartbeats 8000000 in
set_option maxRecDepth 100000 in
theorem rootcellarref1_Valid.calls (k : Nat) (a0 : ByteArray) (r : Bool) (w : World) (h : rootcellarref1_Valid.f k a0 = some r) :
  Calls Tryz.prog 143 #[.string a0] w fun e w' => e = .returned (.bool r) ∧ Drawn0 w w' := by
 have H : (rootcellarref1_Valid.l0 k a0) = some r := h
 clear h
 have H' := Aside0.mk H
 clear H
 go_enter Tryz.func143, Tryz.ntmps143
 go_wp2
 go_loopg [0] k (fun kq v0 w' => ∃ (x0_1 : ByteArray), v0 = .string x0_1 ∧ Aside0 (rootcellarref1_Valid.l0 kq x0_1 = some r) ∧ Aside0 (kq ≤ k) ∧ Drawn0 w w')
 case atStart => exact ⟨(a0), (by first | rfl | (simp; done) | (simp [*]; done)), H', ⟨Nat.le_refl _⟩, by repeat (first | exact Drawn0.refl _ | apply Drawn0.step)⟩
 case round =>
  clear H'
  try clear c1
  obtain ⟨x0_1, rfl, HA, HK1, ⟨m1, rfl⟩⟩ := hrel
  cases gk with
  | zero => exact absurd HA.out (by simp [rootcellarref1_Valid.l0])
  | succ k1 =>
   have H := HA.out
   clear HA
   simp only [rootcellarref1_Valid.l0] at H
   by_cases c2 : x0_1.toList = ([] : List UInt8)
   ·rw [if_pos c2] at H
    have c2b0 : (x0_1.toList == ([] : List UInt8)) = true := beq_iff_eq.mpr c2
    have c2b1 : (x0_1.toList != ([] : List UInt8)) = false := bne_eq_false_iff_eq.mpr c2
    clear c2
    obtain rfl := Option.some.inj H
    go_wp2
    go_ret
    exact ⟨by first | rfl | (simp; done) | (simp [*]; done), by repeat (first | exact Drawn0.refl _ | apply Drawn0.step)⟩
   ·rw [if_neg c2] at H
    have c2b0 : (x0_1.toList == ([] : List UInt8)) = false := beq_eq_false_iff_ne.mpr c2
    have c2b1 : (x0_1.toList != ([] : List UInt8)) = true := bne_iff_ne.mpr c2
    replace H := Option.bind_eq_some_iff.mp H
    obtain ⟨⟨t270, t271⟩, A30, H⟩ := H
    replace H : (if t270 < 0 then (some false) else (if 0 ≤ t271 then (if t271 ≤ (x0_1.size : Int) then (rootcellarref1_Valid.l0 k1 (x0_1.extract (t271 : Int).toNat x0_1.size)) else (none)) else (none))) = some r := H
    have A3 := Aside0.mk A30
    clear A30
    by_cases c4 : t270 < 0
    ·rw [if_pos c4] at H
     have c4b0 : decide (t270 < 0) = true := decide_eq_true c4
     clear c4
     obtain rfl := Option.some.inj H
     go_wp2_with (first | ((with_reducible refine gate_callee (f := 151) rfl ?_); refine goesL_ (some 9) rfl rfl Tryz.func151 (by kernel_rfl) rfl #[.string x0_1] rfl argA ?_; (with_reducible refine (rootcellarref1_Rune.calls k1 x0_1 t270 t271 _ A3.out).mono ?_); rintro e w' ⟨rfl, ⟨nd, rfl⟩⟩; refine ⟨_, rfl, ?_⟩))
     go_ret
     exact ⟨by first | rfl | (simp; done) | (simp [*]; done), by repeat (first | exact Drawn0.refl _ | apply Drawn0.step)⟩
    ·rw [if_neg c4] at H
     have c4b0 : decide (t270 < 0) = false := decide_eq_false c4
     clear c4
     by_cases c5 : 0 ≤ t271
     ·rw [if_pos c5] at H
      have c5b0 := eq_true c5
      have c5b1 : decide (0 ≤ t271) = true := decide_eq_true c5
      clear c5
      by_cases c6 : t271 ≤ (x0_1.size : Int)
      ·rw [if_pos c6] at H
       have c6b0 := eq_true c6
       have c6b1 : decide (t271 ≤ (x0_1.size : Int)) = true := decide_eq_true c6
       clear c6
       have H' := Aside0.mk H
       clear H
       go_wp2_with (first | ((with_reducible refine gate_callee (f := 151) rfl ?_); refine goesL_ (some 9) rfl rfl Tryz.func151 (by kernel_rfl) rfl #[.string x0_1] rfl argA ?_; (with_reducible refine (rootcellarref1_Rune.calls k1 x0_1 t270 t271 _ A3.out).mono ?_); rintro e w' ⟨rfl, ⟨nd, rfl⟩⟩; refine ⟨_, rfl, ?_⟩))
       go_roundg k1
       case measure => have := HK1.out; omega
       case rel => exact ⟨(x0_1.extract (t271 : Int).toNat x0_1.size), (by first | rfl | (simp; done) | (simp [*]; done)), H', ⟨by have := HK1.out; omega⟩, by repeat (first | exact Drawn0.refl _ | apply Drawn0.step)⟩
      ·rw [if_neg c6] at H
       exact absurd H (by simp)
     ·rw [if_neg c5] at H
      exact absurd H (by simp)
def rootcellarref1_Count.l0 : Nat → ByteArray → Int → Option (Int)
 | 0, _, _ => none
 | k + 1, x0, x3 => if x0.toList = ([] : List UInt8) then (some x3) else ((rootcellarref1_Rune.f k x0).bind fun bt272 => (if 0 ≤ bt272.2 then (if bt272.2 ≤ (x0.size : Int) then (rootcellarref1_Count.l0 k (x0.extract (bt272.2 : Int).toNat x0.size) (wrap64 (x3 + 1))) else (none)) else (none)))
def rootcellarref1_Count.f (k : Nat) (a0 : ByteArray) : Option (Int) := rootcellarref1_Count.l0 k a0 0
set_option maxHeartbeats 8000000 in
set_option maxRecDepth 100000 in
theorem rootcellarref1_Count.calls (k : Nat) (a0 : ByteArray) (r : Int) (w : World) (h : rootcellarref1_Count.f k a0 = some r) :
  Calls Tryz.prog 144 #[.string a0] w fun e w' => e = .returned (.int .i64 r) ∧ Drawn0 w w' := by
 have H : (rootcellarref1_Count.l0 k a0 0) = some r := h
 clear h
 have H' := Aside0.mk H
 clear H
 go_enter Tryz.func144, Tryz.ntmps144
 go_wp2
 go_loopg [0, 3] k (fun kq v0 v3 w' => ∃ (x0_1 : ByteArray) (x3_1 : Int), v0 = .string x0_1 ∧ v3 = .int .i64 x3_1 ∧ Aside0 (rootcellarref1_Count.l0 kq x0_1 x3_1 = some r) ∧ Aside0 (kq ≤ k) ∧ Drawn0 w w')
 case atStart => exact ⟨(a0), (0), (by first | rfl | (simp; done) | (simp [*]; done)), (by first | rfl | (simp; done) | (simp [*]; done)), H', ⟨Nat.le_refl _⟩, by repeat (first | exact Drawn0.refl _ | apply Drawn0.step)⟩
 case round =>
  clear H'
  try clear c1
  obtain ⟨x0_1, x3_1, rfl, rfl, HA, HK1, ⟨m1, rfl⟩⟩ := hrel
  cases gk with
  | zero => exact absurd HA.out (by simp [rootcellarref1_Count.l0])
  | succ k1 =>
   have H := HA.out
   clear HA
   simp only [rootcellarref1_Count.l0] at H
   by_cases c2 : x0_1.toList = ([] : List UInt8)
   ·rw [if_pos c2] at H
    have c2b0 : (x0_1.toList == ([] : List UInt8)) = true := beq_iff_eq.mpr c2
    have c2b1 : (x0_1.toList != ([] : List UInt8)) = false := bne_eq_false_iff_eq.mpr c2
    clear c2
    obtain rfl := Option.some.inj H
    go_wp2
    go_ret
    exact ⟨by first | rfl | (simp; done) | (simp [*]; done), by repeat (first | exact Drawn0.refl _ | apply Drawn0.step)⟩
   ·rw [if_neg c2] at H
    have c2b0 : (x0_1.toList == ([] : List UInt8)) = false := beq_eq_false_iff_ne.mpr c2
    have c2b1 : (x0_1.toList != ([] : List UInt8)) = true := bne_iff_ne.mpr c2
    replace H := Option.bind_eq_some_iff.mp H
    obtain ⟨⟨t272, t273⟩, A30, H⟩ := H
    replace H : (if 0 ≤ t273 then (if t273 ≤ (x0_1.size : Int) then (rootcellarref1_Count.l0 k1 (x0_1.extract (t273 : Int).toNat x0_1.size) (wrap64 (x3_1 + 1))) else (none)) else (none)) = some r := H
    have A3 := Aside0.mk A30
    clear A30
    by_cases c4 : 0 ≤ t273
    ·rw [if_pos c4] at H
     have c4b0 := eq_true c4
     have c4b1 : decide (0 ≤ t273) = true := decide_eq_true c4
     clear c4
     by_cases c5 : t273 ≤ (x0_1.size : Int)
     ·rw [if_pos c5] at H
      have c5b0 := eq_true c5
      have c5b1 : decide (t273 ≤ (x0_1.size : Int)) = true := decide_eq_true c5
      clear c5
      have H' := Aside0.mk H
      clear H
      go_wp2_with (first | ((with_reducible refine gate_callee (f := 151) rfl ?_); refine goesL_ (some 10) rfl rfl Tryz.func151 (by kernel_rfl) rfl #[.string x0_1] rfl argA ?_; (with_reducible refine (rootcellarref1_Rune.calls k1 x0_1 t272 t273 _ A3.out).mono ?_); rintro e w' ⟨rfl, ⟨nd, rfl⟩⟩; refine ⟨_, rfl, ?_⟩))
      go_roundg k1
      case measure => have := HK1.out; omega
      case rel => exact ⟨(x0_1.extract (t273 : Int).toNat x0_1.size), (wrap64 (x3_1 + 1)), (by first | rfl | (simp; done) | (simp [*]; done)), (by first | rfl | (simp; done) | (simp [*]; done)), H', ⟨by have := HK1.out; omega⟩, by repeat (first | exact Drawn0.refl _ | apply Drawn0.step)⟩
     ·rw [if_neg c5] at H
      exact absurd H (by simp)
    ·rw [if_neg c4] at H
     exact absurd H (by simp)
mutual
def rootcellarref1_Right.j0 : Nat → ByteArray → Bool → Option (Bool)
 | 0, _, _ => none
 | k + 1, x0, x30 => if x30 = true then (some false) else (rootcellarref1_Right.l0 k x0 0)
def rootcellarref1_Right.l0 : Nat → ByteArray → Int → Option (Bool)
 | 0, _, _ => none
 | k + 1, x0, x4 => if x4 < (x0.size : Int) then (if 0 ≤ x4 then (if (bt x0 x4) < 32 then (some false) else (if (bt x0 x4) = 127 then (some false) else (rootcellarref1_Right.l0 k x0 (wrap64 (x4 + 1))))) else (none)) else (some true)
end
def rootcellarref1_Right.f (k : Nat) (a0 : ByteArray) : Option (Bool) := (rootcellarref1_Valid.f k a0).bind fun t274 => (if t274 = true then (if a0.toList = ([] : List UInt8) then (rootcellarref1_Right.j0 k a0 true) else ((rootcellarref1_Count.f k a0).bind fun t275 => (if t275 > 24 then (rootcellarref1_Right.j0 k a0 true) else (if 0 < (a0.size : Int) then (if (bt a0 0) = 32 then (rootcellarref1_Right.j0 k a0 true) else (if 0 ≤ (wrap64 ((a0.size : Int) - 1)) then (if (wrap64 ((a0.size : Int) - 1)) < (a0.size : Int) then (rootcellarref1_Right.j0 k a0 ((bt a0 (wrap64 ((a0.size : Int) - 1))) == 32)) else (none)) else (none))) else (none))))) else (rootcellarref1_Right.j0 k a0 true))
set_option maxHeartbeats 8000000 in
set_option maxRecDepth 100000 in
theorem rootcellarref1_Right.calls (k : Nat) (a0 : ByteArray) (r : Bool) (w : World) (h : rootcellarref1_Right.f k a0 = some r) :
  Calls Tryz.prog 127 #[.string a0] w fun e w' => e = .returned (.bool r) ∧ Drawn0 w w' := by
 have H : ((rootcellarref1_Valid.f k a0).bind fun t274 => (if t274 = true then (if a0.toList = ([] : List UInt8) then (rootcellarref1_Right.j0 k a0 true) else ((rootcellarref1_Count.f k a0).bind fun t275 => (if t275 > 24 then (rootcellarref1_Right.j0 k a0 true) else (if 0 < (a0.size : Int) then (if (bt a0 0) = 32 then (rootcellarref1_Right.j0 k a0 true) else (if 0 ≤ (wrap64 ((a0.size : Int) - 1)) then (if (wrap64 ((a0.size : Int) - 1)) < (a0.size : Int) then (rootcellarref1_Right.j0 k a0 ((bt a0 (wrap64 ((a0.size : Int) - 1))) == 32)) else (none)) else (none))) else (none))))) else (rootcellarref1_Right.j0 k a0 true))) = some r := h
 clear h
 replace H := Option.bind_eq_some_iff.mp H
 obtain ⟨t274, A20, H⟩ := H
 replace H : (if t274 = true then (if a0.toList = ([] : List UInt8) then (rootcellarref1_Right.j0 k a0 true) else ((rootcellarref1_Count.f k a0).bind fun t275 => (if t275 > 24 then (rootcellarref1_Right.j0 k a0 true) else (if 0 < (a0.size : Int) then (if (bt a0 0) = 32 then (rootcellarref1_Right.j0 k a0 true) else (if 0 ≤ (wrap64 ((a0.size : Int) - 1)) then (if (wrap64 ((a0.size : Int) - 1)) < (a0.size : Int) then (rootcellarref1_Right.j0 k a0 ((bt a0 (wrap64 ((a0.size : Int) - 1))) == 32)) else (none)) else (none))) else (none))))) else (rootcellarref1_Right.j0 k a0 true)) = some r := H
 have A2 := Aside0.mk A20
 clear A20
 have HC3 := Aside0.mk H
 clear H
 go_enter Tryz.func127, Tryz.ntmps127
 go_upto_region 2 with (first | ((with_reducible refine gate_callee (f := 143) rfl ?_); refine goesL_ (some 6) rfl rfl Tryz.func143 (by kernel_rfl) rfl #[.string a0] rfl argA ?_; (with_reducible refine (rootcellarref1_Valid.calls k a0 t274 _ A2.out).mono ?_); rintro e w' ⟨rfl, ⟨nd, rfl⟩⟩; refine ⟨_, rfl, ?_⟩))
 (try simp only [Act.put, List.setIfInBounds_toArray, List.set_cons_zero, List.set_cons_succ])
 go_cut [30] (fun v30 wc => ∃ (kq : Nat) (x30_2 : Bool), v30 = .bool x30_2 ∧ Aside0 (rootcellarref1_Right.j0 kq a0 x30_2 = some r) ∧ Aside0 (kq ≤ k) ∧ Drawn0 w wc)
 case first =>
  have H := HC3.out
  clear HC3
  by_cases c4 : t274 = true
  ·subst c4
   have H1 : (if a0.toList = ([] : List UInt8) then (rootcellarref1_Right.j0 k a0 true) else ((rootcellarref1_Count.f k a0).bind fun t275 => (if t275 > 24 then (rootcellarref1_Right.j0 k a0 true) else (if 0 < (a0.size : Int) then (if (bt a0 0) = 32 then (rootcellarref1_Right.j0 k a0 true) else (if 0 ≤ (wrap64 ((a0.size : Int) - 1)) then (if (wrap64 ((a0.size : Int) - 1)) < (a0.size : Int) then (rootcellarref1_Right.j0 k a0 ((bt a0 (wrap64 ((a0.size : Int) - 1))) == 32)) else (none)) else (none))) else (none))))) = some r := by rw [if_pos rfl] at H; exact H
   clear H
   have H := H1
   clear H1
   by_cases c5 : a0.toList = ([] : List UInt8)
   ·rw [if_pos c5] at H
    have c5b0 : (a0.toList == ([] : List UInt8)) = true := beq_iff_eq.mpr c5
    have c5b1 : (a0.toList != ([] : List UInt8)) = false := bne_eq_false_iff_eq.mpr c5
    clear c5
    (first | rw [c5b0] | (simp only [i64_w, i32_w]; rw [c5b0]) | skip)
    have H' := Aside0.mk H
    clear H
    go_wp2
    go_meet
    case rel => exact ⟨_, (true), (by first | rfl | (simp; done) | (simp [*]; done)), H', ⟨by first | omega | exact Nat.le_refl _⟩, by repeat (first | exact Drawn0.refl _ | apply Drawn0.step)⟩
   ·rw [if_neg c5] at H
    have c5b0 : (a0.toList == ([] : List UInt8)) = false := beq_eq_false_iff_ne.mpr c5
    have c5b1 : (a0.toList != ([] : List UInt8)) = true := bne_iff_ne.mpr c5
    (first | rw [c5b0] | (simp only [i64_w, i32_w]; rw [c5b0]) | skip)
    replace H := Option.bind_eq_some_iff.mp H
    obtain ⟨t275, A60, H⟩ := H
    replace H : (if t275 > 24 then (rootcellarref1_Right.j0 k a0 true) else (if 0 < (a0.size : Int) then (if (bt a0 0) = 32 then (rootcellarref1_Right.j0 k a0 true) else (if 0 ≤ (wrap64 ((a0.size : Int) - 1)) then (if (wrap64 ((a0.size : Int) - 1)) < (a0.size : Int) then (rootcellarref1_Right.j0 k a0 ((bt a0 (wrap64 ((a0.size : Int) - 1))) == 32)) else (none)) else (none))) else (none))) = some r := H
    have A6 := Aside0.mk A60
    clear A60
    by_cases c7 : t275 > 24
    ·rw [if_pos c7] at H
     have c7b0 : decide (24 < t275) = true := decide_eq_true c7
     clear c7
     have H' := Aside0.mk H
     clear H
     go_wp2_with (first | (go_at_call 144; (with_reducible refine (rootcellarref1_Count.calls k a0 t275 _ A6.out).mono ?_); rintro e w' ⟨rfl, ⟨nd, rfl⟩⟩))
     go_meet
     case rel => exact ⟨_, (true), (by first | rfl | (simp; done) | (simp [*]; done)), H', ⟨by first | omega | exact Nat.le_refl _⟩, by repeat (first | exact Drawn0.refl _ | apply Drawn0.step)⟩
    ·rw [if_neg c7] at H
     have c7b0 : decide (24 < t275) = false := decide_eq_false c7
     clear c7
     by_cases c8 : 0 < (a0.size : Int)
     ·rw [if_pos c8] at H
      have c8b0 : decide (0 < (a0.size : Int)) = true := decide_eq_true c8
      have c8b1 : decide (0 < a0.size) = true := decide_eq_true (by omega)
      clear c8
      by_cases c10 : (bt a0 0) = 32
      ·rw [if_pos c10] at H
       have c10b0 : ((bt a0 0) == 32) = true := beq_iff_eq.mpr c10
       have c10b1 : ((bt a0 0) != 32) = false := bne_eq_false_iff_eq.mpr c10
       clear c10
       have H' := Aside0.mk H
       clear H
       go_wp2_with (first | (go_at_call 144; (with_reducible refine (rootcellarref1_Count.calls k a0 t275 _ A6.out).mono ?_); rintro e w' ⟨rfl, ⟨nd, rfl⟩⟩; have p9 : 0 ≤ (0 : Int) := (by omega); have q9 : 0 < a0.size := (by have : (0 : Int) < (a0.size : Int) := of_decide_eq_true asA; omega); have hx9 : ∀ h : 0 < a0.size, ((a0[0]'h).toNat : Int) = bt a0 0 := bt_at a0 0; clear p9; have qi9 : (0 < (a0.size : Int)) = True := eq_true (of_decide_eq_true asA); replace q9 := eq_true q9))
       go_meet
       case rel => exact ⟨_, (true), (by first | rfl | (simp; done) | (simp [*]; done)), H', ⟨by first | omega | exact Nat.le_refl _⟩, by repeat (first | exact Drawn0.refl _ | apply Drawn0.step)⟩
      ·rw [if_neg c10] at H
       have c10b0 : ((bt a0 0) == 32) = false := beq_eq_false_iff_ne.mpr c10
       have c10b1 : ((bt a0 0) != 32) = true := bne_iff_ne.mpr c10
       obtain ⟨ji11, hji11⟩ : ∃ j_ : Int, (wrap64 ((a0.size : Int) - 1)) = j_ := ⟨_, rfl⟩
       replace H : (if 0 ≤ (ji11) then (if (ji11) < (a0.size : Int) then (rootcellarref1_Right.j0 k a0 ((bt a0 (ji11)) == 32)) else (none)) else (none)) = some r := by first | (rw [hji11] at H; exact H) | (simp only [hji11] at H ⊢; exact H)
       (try rw [hji11] at A6)
       have hji11w : (IntKind.i64.wrap ((a0.size : Int) - 1)) = ji11 := (i64_w _).trans hji11
       by_cases c12 : 0 ≤ (ji11)
       ·rw [if_pos c12] at H
        have c12b0 : decide (0 ≤ (ji11)) = true := decide_eq_true c12
        clear c12
        by_cases c13 : (ji11) < (a0.size : Int)
        ·rw [if_pos c13] at H
         have c13b0 : decide ((ji11) < (a0.size : Int)) = true := decide_eq_true c13
         clear c13
         have H' := Aside0.mk H
         clear H
         go_wp2_with (first | (go_at_call 144; (with_reducible refine (rootcellarref1_Count.calls k a0 t275 _ A6.out).mono ?_); rintro e w' ⟨rfl, ⟨nd, rfl⟩⟩; have p9 : 0 ≤ (0 : Int) := (by omega); have q9 : 0 < a0.size := (by have : (0 : Int) < (a0.size : Int) := of_decide_eq_true asA; omega); have hx9 : ∀ h : 0 < a0.size, ((a0[0]'h).toNat : Int) = bt a0 0 := bt_at a0 0; clear p9; have qi9 : (0 < (a0.size : Int)) = True := eq_true (of_decide_eq_true asA); replace q9 := eq_true q9; have p14 : 0 ≤ ((ji11) : Int) := of_decide_eq_true asA; have q14 : (ji11) < (a0.size : Int) := of_decide_eq_true asA; have hx14 := bt_at a0 (ji11); replace p14 := eq_true p14; replace q14 := eq_true q14))
         go_meet
         case rel => exact ⟨_, (((bt a0 (ji11)) == 32)), (by first | rfl | (simp; done) | (simp only [← hji11] <;> (first | rfl | simp)) | (simp [*]; done)), H', ⟨by first | omega | exact Nat.le_refl _⟩, by repeat (first | exact Drawn0.refl _ | apply Drawn0.step)⟩
        ·rw [if_neg c13] at H
         exact absurd H (by simp)
       ·rw [if_neg c12] at H
        exact absurd H (by simp)
     ·rw [if_neg c8] at H
      exact absurd H (by simp)
  ·replace c4 := Bool.eq_false_iff.mpr c4
   subst c4
   have H1 : (rootcellarref1_Right.j0 k a0 true) = some r := by rw [if_neg (show ¬ (false = true) by decide)] at H; exact H
   clear H
   have H := H1
   clear H1
   have H' := Aside0.mk H
   clear H
   go_wp2
   go_meet
   case rel => exact ⟨_, (true), (by first | rfl | (simp; done) | (simp [*]; done)), H', ⟨by first | omega | exact Nat.le_refl _⟩, by repeat (first | exact Drawn0.refl _ | apply Drawn0.step)⟩
 case rest =>
  clear HC3
  try clear c1
  try clear p1
  try clear q1
  try clear hx1
  try clear p2
  try clear c4
  try clear c5
  try clear c5b0
  try clear c5b1
  try clear p6
  try clear c7
  try clear c7b0
  try clear c8
  try clear c8b0
  try clear c8b1
  try clear p9
  try clear q9
  try clear hx9
  try clear qi9
  try clear c10
  try clear c10b0
  try clear c10b1
  try clear c12
  try clear c12b0
  try clear c13
  try clear c13b0
  try clear c14
  try clear p14
  try clear q14
  try clear hx14
  try clear p14
  try clear p9
  try clear q14
  try clear q9
  obtain ⟨kq, x30_2, rfl, HA, HJ2, ⟨mc2, rfl⟩⟩ := hcut
  cases kq with
  | zero => exact absurd HA.out (by simp [rootcellarref1_Right.j0])
  | succ kj2 =>
   have H := HA.out
   clear HA
   simp only [rootcellarref1_Right.j0] at H
   by_cases c15 : x30_2 = true
   ·subst c15
    have H1 : (some false) = some r := by rw [if_pos rfl] at H; exact H
    clear H
    have H := H1
    clear H1
    obtain rfl := Option.some.inj H
    go_wp2
    go_ret
    exact ⟨by first | rfl | (simp; done) | (simp [*]; done), by repeat (first | exact Drawn0.refl _ | apply Drawn0.step)⟩
   ·replace c15 := Bool.eq_false_iff.mpr c15
    subst c15
    have H1 : (rootcellarref1_Right.l0 kj2 a0 0) = some r := by rw [if_neg (show ¬ (false = true) by decide)] at H; exact H
    clear H
    have H := H1
    clear H1
    have H' := Aside0.mk H
    clear H
    go_wp2
    go_loopg [4] kj2 (fun kq v4 w' => ∃ (x4_2 : Int), v4 = .int .i64 x4_2 ∧ Aside0 (rootcellarref1_Right.l0 kq a0 x4_2 = some r) ∧ Aside0 (kq ≤ kj2) ∧ Drawn0 w w')
    case atStart => exact ⟨(0), (by first | rfl | (simp; done) | (simp [*]; done)), H', ⟨Nat.le_refl _⟩, by repeat (first | exact Drawn0.refl _ | apply Drawn0.step)⟩
    case round =>
     clear H'
     try clear c1
     try clear p1
     try clear q1
     try clear hx1
     try clear c2
     try clear p2
     try clear c4
     try clear c5
     try clear c5b0
     try clear c5b1
     try clear p6
     try clear c7
     try clear c7b0
     try clear c8
     try clear c8b0
     try clear c8b1
     try clear p9
     try clear q9
     try clear hx9
     try clear qi9
     try clear c10
     try clear c10b0
     try clear c10b1
     try clear c12
     try clear c12b0
     try clear c13
     try clear c13b0
     try clear c14
     try clear p14
     try clear q14
     try clear hx14
     try clear c15
     try clear p1
     try clear p14
     try clear p2
     try clear p6
     try clear p9
     try clear q1
     try clear q14
     try clear q9
     obtain ⟨x4_2, rfl, HA, HK2, ⟨m2, rfl⟩⟩ := hrel
     cases gk with
     | zero => exact absurd HA.out (by simp [rootcellarref1_Right.l0])
     | succ k2 =>
      have H := HA.out
      clear HA
      simp only [rootcellarref1_Right.l0] at H
      by_cases c16 : x4_2 < (a0.size : Int)
      ·rw [if_pos c16] at H
       have c16b0 : decide (x4_2 < (a0.size : Int)) = true := decide_eq_true c16
       clear c16
       by_cases c17 : 0 ≤ x4_2
       ·rw [if_pos c17] at H
        have c17b0 : decide (0 ≤ x4_2) = true := decide_eq_true c17
        clear c17
        by_cases c19 : (bt a0 x4_2) < 32
        ·rw [if_pos c19] at H
         have c19b0 : decide ((bt a0 x4_2) < 32) = true := decide_eq_true c19
         clear c19
         obtain rfl := Option.some.inj H
         have p18 : 0 ≤ (x4_2 : Int) := of_decide_eq_true asA
         have q18 : x4_2 < (a0.size : Int) := of_decide_eq_true asA
         have hx18 := bt_at a0 x4_2
         replace p18 := eq_true p18
         replace q18 := eq_true q18
         go_wp2
         go_ret
         exact ⟨by first | rfl | (simp; done) | (simp [*]; done), by repeat (first | exact Drawn0.refl _ | apply Drawn0.step)⟩
        ·rw [if_neg c19] at H
         have c19b0 : decide ((bt a0 x4_2) < 32) = false := decide_eq_false c19
         clear c19
         by_cases c21 : (bt a0 x4_2) = 127
         ·rw [if_pos c21] at H
          have c21b0 : ((bt a0 x4_2) == 127) = true := beq_iff_eq.mpr c21
          have c21b1 : ((bt a0 x4_2) != 127) = false := bne_eq_false_iff_eq.mpr c21
          clear c21
          obtain rfl := Option.some.inj H
          have p18 : 0 ≤ (x4_2 : Int) := of_decide_eq_true asA
          have q18 : x4_2 < (a0.size : Int) := of_decide_eq_true asA
          have hx18 := bt_at a0 x4_2
          replace p18 := eq_true p18
          replace q18 := eq_true q18
          have p20 : 0 ≤ (x4_2 : Int) := of_decide_eq_true asA
          have q20 : x4_2 < (a0.size : Int) := of_decide_eq_true asA
          have hx20 := bt_at a0 x4_2
          replace p20 := eq_true p20
          replace q20 := eq_true q20
          go_wp2
          go_ret
          exact ⟨by first | rfl | (simp; done) | (simp [*]; done), by repeat (first | exact Drawn0.refl _ | apply Drawn0.step)⟩
         ·rw [if_neg c21] at H
          have c21b0 : ((bt a0 x4_2) == 127) = false := beq_eq_false_iff_ne.mpr c21
          have c21b1 : ((bt a0 x4_2) != 127) = true := bne_iff_ne.mpr c21
          have H' := Aside0.mk H
          clear H
          have p18 : 0 ≤ (x4_2 : Int) := of_decide_eq_true asA
          have q18 : x4_2 < (a0.size : Int) := of_decide_eq_true asA
          have hx18 := bt_at a0 x4_2
          replace p18 := eq_true p18
          replace q18 := eq_true q18
          have p20 : 0 ≤ (x4_2 : Int) := of_decide_eq_true asA
          have q20 : x4_2 < (a0.size : Int) := of_decide_eq_true asA
          have hx20 := bt_at a0 x4_2
          replace p20 := eq_true p20
          replace q20 := eq_true q20
          go_wp2
          go_roundg k2
          case measure => have := HJ2.out; have := HK2.out; omega
          case rel => exact ⟨(wrap64 (x4_2 + 1)), (by first | rfl | (simp; done) | (simp [*]; done)), H', ⟨by have := HJ2.out; have := HK2.out; omega⟩, by repeat (first | exact Drawn0.refl _ | apply Drawn0.step)⟩
       ·rw [if_neg c17] at H
        exact absurd H (by simp)
      ·rw [if_neg c16] at H
       have c16b0 : decide (x4_2 < (a0.size : Int)) = false := decide_eq_false c16
       clear c16
       obtain rfl := Option.some.inj H
       go_wp2
       go_ret
       exact ⟨by first | rfl | (simp; done) | (simp [*]; done), by repeat (first | exact Drawn0.refl _ | apply Drawn0.step)⟩
def rootcellarref14_well.f (k : Nat) (a0_0 : Int) (a0_1 : Int) (a0_2 : ByteArray) (a0_3 : Int) (a0_4 : Bool) (a0_5 : Bool) : Option (Bool) := if a0_4 = true then (if a0_2.toList = ([] : List UInt8) then (if a0_3 = 0 then (some (!a0_5)) else (some false)) else (some false)) else ((rootcellarref1_Right.f k a0_2).bind fun t277 => (some t277))
set_option maxHeartbeats 8000000 in
set_option maxRecDepth 100000 in
theorem rootcellarref14_well.calls (k : Nat) (a0_0 : Int) (a0_1 : Int) (a0_2 : ByteArray) (a0_3 : Int) (a0_4 : Bool) (a0_5 : Bool) (r : Bool) (w : World) (h : rootcellarref14_well.f k a0_0 a0_1 a0_2 a0_3 a0_4 a0_5 = some r) :
  Calls Tryz.prog 102 #[.agg #[.int .i64 a0_0, .int .i64 a0_1, .string a0_2, .int .u64 a0_3, .bool a0_4, .bool a0_5]] w fun e w' => e = .returned (.bool r) ∧ Below w.heap.size w w' := by
 have hu81 := Tryz.underlying81
 have HB := Aside0.mk (Below.refl w.heap.size w)
 have H : (if a0_4 = true then (if a0_2.toList = ([] : List UInt8) then (if a0_3 = 0 then (some (!a0_5)) else (some false)) else (some false)) else ((rootcellarref1_Right.f k a0_2).bind fun t277 => (some t277))) = some r := h
 clear h
 by_cases c2 : a0_4 = true
 ·subst c2
  have H1 : (if a0_2.toList = ([] : List UInt8) then (if a0_3 = 0 then (some (!a0_5)) else (some false)) else (some false)) = some r := by rw [if_pos rfl] at H; exact H
  clear H
  have H := H1
  clear H1
  by_cases c3 : a0_2.toList = ([] : List UInt8)
  ·rw [if_pos c3] at H
   have c3b0 : (a0_2.toList == ([] : List UInt8)) = true := beq_iff_eq.mpr c3
   have c3b1 : (a0_2.toList != ([] : List UInt8)) = false := bne_eq_false_iff_eq.mpr c3
   clear c3
   by_cases c4 : a0_3 = 0
   ·rw [if_pos c4] at H
    have c4b0 : (a0_3 == 0) = true := beq_iff_eq.mpr c4
    have c4b1 : (a0_3 != 0) = false := bne_eq_false_iff_eq.mpr c4
    clear c4
    obtain rfl := Option.some.inj H
    go_enter Tryz.func102, Tryz.ntmps102
    go_wp2_with (first | ((with_reducible refine gate_dst (N := 1) rfl ?_); refine box_event ?hg (N := 1) ?hd (cs := #[.int .i64 a0_0, .int .i64 a0_1, .string a0_2, .int .u64 a0_3, .bool true, .bool a0_5]) (t := 81) ?hr ?_; (case hd => rfl); (case hg => rfl); (case hr => first | (go_simp; done) | (go_simp; rfl)); intro gb276 hg w5 hbox hb; have n0_ := Aside0.mk (below_step belA hb); have n1_ := Aside0.mk (hbox); have n2_ := Aside0.mk ((by rw [hg]; exact (below_size belA) : w.heap.size ≤ gb276)); have n3_ := Aside0.mk ((by rw [hg]; exact (below_size belA) : w.heap.size ≤ gb276)); clear HB; have HB := n0_; have BK276 := n1_; have GW276 := n2_; have GE276 := n3_; clear n0_ n1_ n2_ n3_; clear hb hbox hg; have hcz6_0 : w5.cell? ⟨gb276, 0, none⟩ = some (.int .i64 a0_0) := (blk_cell BK276.out 0).trans rfl; have hcz6_1 : w5.cell? ⟨gb276, 1, none⟩ = some (.int .i64 a0_1) := (blk_cell BK276.out 1).trans rfl; have hcz6_2 : w5.cell? ⟨gb276, 2, none⟩ = some (.string a0_2) := (blk_cell BK276.out 2).trans rfl; have hcz6_3 : w5.cell? ⟨gb276, 3, none⟩ = some (.int .u64 a0_3) := (blk_cell BK276.out 3).trans rfl; have hcz6_4 : w5.cell? ⟨gb276, 4, none⟩ = some (.bool true) := (blk_cell BK276.out 4).trans rfl; have hcz6_5 : w5.cell? ⟨gb276, 5, none⟩ = some (.bool a0_5) := (blk_cell BK276.out 5).trans rfl; have hfz6_0 := blk_frozen BK276.out 0; have hfz6_1 := blk_frozen BK276.out 1; have hfz6_2 := blk_frozen BK276.out 2; have hfz6_3 := blk_frozen BK276.out 3; have hfz6_4 := blk_frozen BK276.out 4; have hfz6_5 := blk_frozen BK276.out 5))
    go_ret
    exact ⟨by first | rfl | (simp [errW_none, errW_some] <;> rfl) | (simp [*, errW_none, errW_some] <;> rfl), by repeat (first | (with_reducible first | exact HB.out | apply below_alloc | apply pw_below_drewN | apply below_drew1 | refine below_set ?_ GE276.out) | exact HB.out)⟩
   ·rw [if_neg c4] at H
    have c4b0 : (a0_3 == 0) = false := beq_eq_false_iff_ne.mpr c4
    have c4b1 : (a0_3 != 0) = true := bne_iff_ne.mpr c4
    obtain rfl := Option.some.inj H
    go_enter Tryz.func102, Tryz.ntmps102
    go_wp2_with (first | ((with_reducible refine gate_dst (N := 1) rfl ?_); refine box_event ?hg (N := 1) ?hd (cs := #[.int .i64 a0_0, .int .i64 a0_1, .string a0_2, .int .u64 a0_3, .bool true, .bool a0_5]) (t := 81) ?hr ?_; (case hd => rfl); (case hg => rfl); (case hr => first | (go_simp; done) | (go_simp; rfl)); intro gb276 hg w7 hbox hb; have n0_ := Aside0.mk (below_step belA hb); have n1_ := Aside0.mk (hbox); have n2_ := Aside0.mk ((by rw [hg]; exact (below_size belA) : w.heap.size ≤ gb276)); have n3_ := Aside0.mk ((by rw [hg]; exact (below_size belA) : w.heap.size ≤ gb276)); clear HB; have HB := n0_; have BK276 := n1_; have GW276 := n2_; have GE276 := n3_; clear n0_ n1_ n2_ n3_; clear hb hbox hg; have hcz8_0 : w7.cell? ⟨gb276, 0, none⟩ = some (.int .i64 a0_0) := (blk_cell BK276.out 0).trans rfl; have hcz8_1 : w7.cell? ⟨gb276, 1, none⟩ = some (.int .i64 a0_1) := (blk_cell BK276.out 1).trans rfl; have hcz8_2 : w7.cell? ⟨gb276, 2, none⟩ = some (.string a0_2) := (blk_cell BK276.out 2).trans rfl; have hcz8_3 : w7.cell? ⟨gb276, 3, none⟩ = some (.int .u64 a0_3) := (blk_cell BK276.out 3).trans rfl; have hcz8_4 : w7.cell? ⟨gb276, 4, none⟩ = some (.bool true) := (blk_cell BK276.out 4).trans rfl; have hcz8_5 : w7.cell? ⟨gb276, 5, none⟩ = some (.bool a0_5) := (blk_cell BK276.out 5).trans rfl; have hfz8_0 := blk_frozen BK276.out 0; have hfz8_1 := blk_frozen BK276.out 1; have hfz8_2 := blk_frozen BK276.out 2; have hfz8_3 := blk_frozen BK276.out 3; have hfz8_4 := blk_frozen BK276.out 4; have hfz8_5 := blk_frozen BK276.out 5))
    go_ret
    exact ⟨by first | rfl | (simp [errW_none, errW_some] <;> rfl) | (simp [*, errW_none, errW_some] <;> rfl), by repeat (first | (with_reducible first | exact HB.out | apply below_alloc | apply pw_below_drewN | apply below_drew1 | refine below_set ?_ GE276.out) | exact HB.out)⟩
  ·rw [if_neg c3] at H
   have c3b0 : (a0_2.toList == ([] : List UInt8)) = false := beq_eq_false_iff_ne.mpr c3
   have c3b1 : (a0_2.toList != ([] : List UInt8)) = true := bne_iff_ne.mpr c3
   obtain rfl := Option.some.inj H
   go_enter Tryz.func102, Tryz.ntmps102
   go_wp2_with (first | ((with_reducible refine gate_dst (N := 1) rfl ?_); refine box_event ?hg (N := 1) ?hd (cs := #[.int .i64 a0_0, .int .i64 a0_1, .string a0_2, .int .u64 a0_3, .bool true, .bool a0_5]) (t := 81) ?hr ?_; (case hd => rfl); (case hg => rfl); (case hr => first | (go_simp; done) | (go_simp; rfl)); intro gb276 hg w9 hbox hb; have n0_ := Aside0.mk (below_step belA hb); have n1_ := Aside0.mk (hbox); have n2_ := Aside0.mk ((by rw [hg]; exact (below_size belA) : w.heap.size ≤ gb276)); have n3_ := Aside0.mk ((by rw [hg]; exact (below_size belA) : w.heap.size ≤ gb276)); clear HB; have HB := n0_; have BK276 := n1_; have GW276 := n2_; have GE276 := n3_; clear n0_ n1_ n2_ n3_; clear hb hbox hg; have hcz10_0 : w9.cell? ⟨gb276, 0, none⟩ = some (.int .i64 a0_0) := (blk_cell BK276.out 0).trans rfl; have hcz10_1 : w9.cell? ⟨gb276, 1, none⟩ = some (.int .i64 a0_1) := (blk_cell BK276.out 1).trans rfl; have hcz10_2 : w9.cell? ⟨gb276, 2, none⟩ = some (.string a0_2) := (blk_cell BK276.out 2).trans rfl; have hcz10_3 : w9.cell? ⟨gb276, 3, none⟩ = some (.int .u64 a0_3) := (blk_cell BK276.out 3).trans rfl; have hcz10_4 : w9.cell? ⟨gb276, 4, none⟩ = some (.bool true) := (blk_cell BK276.out 4).trans rfl; have hcz10_5 : w9.cell? ⟨gb276, 5, none⟩ = some (.bool a0_5) := (blk_cell BK276.out 5).trans rfl; have hfz10_0 := blk_frozen BK276.out 0; have hfz10_1 := blk_frozen BK276.out 1; have hfz10_2 := blk_frozen BK276.out 2; have hfz10_3 := blk_frozen BK276.out 3; have hfz10_4 := blk_frozen BK276.out 4; have hfz10_5 := blk_frozen BK276.out 5))
   go_ret
   exact ⟨by first | rfl | (simp [errW_none, errW_some] <;> rfl) | (simp [*, errW_none, errW_some] <;> rfl), by repeat (first | (with_reducible first | exact HB.out | apply below_alloc | apply pw_below_drewN | apply below_drew1 | refine below_set ?_ GE276.out) | exact HB.out)⟩
 ·replace c2 := Bool.eq_false_iff.mpr c2
  subst c2
  have H1 : ((rootcellarref1_Right.f k a0_2).bind fun t277 => (some t277)) = some r := by rw [if_neg (show ¬ (false = true) by decide)] at H; exact H
  clear H
  have H := H1
  clear H1
  replace H := Option.bind_eq_some_iff.mp H
  obtain ⟨t277, A110, H⟩ := H
  replace H : (some t277) = some r := H
  have A11 := Aside0.mk A110
  clear A110
  obtain rfl := Option.some.inj H
  go_enter Tryz.func102, Tryz.ntmps102
  go_wp2_with (first | ((with_reducible refine gate_dst (N := 1) rfl ?_); refine box_event ?hg (N := 1) ?hd (cs := #[.int .i64 a0_0, .int .i64 a0_1, .string a0_2, .int .u64 a0_3, .bool false, .bool a0_5]) (t := 81) ?hr ?_; (case hd => rfl); (case hg => rfl); (case hr => first | (go_simp; done) | (go_simp; rfl)); intro gb276 hg w12 hbox hb; have n0_ := Aside0.mk (below_step belA hb); have n1_ := Aside0.mk (hbox); have n2_ := Aside0.mk ((by rw [hg]; exact (below_size belA) : w.heap.size ≤ gb276)); have n3_ := Aside0.mk ((by rw [hg]; exact (below_size belA) : w.heap.size ≤ gb276)); clear HB; have HB := n0_; have BK276 := n1_; have GW276 := n2_; have GE276 := n3_; clear n0_ n1_ n2_ n3_; clear hb hbox hg; have hcz13_0 : w12.cell? ⟨gb276, 0, none⟩ = some (.int .i64 a0_0) := (blk_cell BK276.out 0).trans rfl; have hcz13_1 : w12.cell? ⟨gb276, 1, none⟩ = some (.int .i64 a0_1) := (blk_cell BK276.out 1).trans rfl; have hcz13_2 : w12.cell? ⟨gb276, 2, none⟩ = some (.string a0_2) := (blk_cell BK276.out 2).trans rfl; have hcz13_3 : w12.cell? ⟨gb276, 3, none⟩ = some (.int .u64 a0_3) := (blk_cell BK276.out 3).trans rfl; have hcz13_4 : w12.cell? ⟨gb276, 4, none⟩ = some (.bool false) := (blk_cell BK276.out 4).trans rfl; have hcz13_5 : w12.cell? ⟨gb276, 5, none⟩ = some (.bool a0_5) := (blk_cell BK276.out 5).trans rfl; have hfz13_0 := blk_frozen BK276.out 0; have hfz13_1 := blk_frozen BK276.out 1; have hfz13_2 := blk_frozen BK276.out 2; have hfz13_3 := blk_frozen BK276.out 3; have hfz13_4 := blk_frozen BK276.out 4; have hfz13_5 := blk_frozen BK276.out 5) | ((with_reducible refine gate_callee (f := 127) rfl ?_); refine goesL_ (some 20) rfl rfl Tryz.func127 (by kernel_rfl) rfl #[.string a0_2] rfl argA ?_; (with_reducible refine (rootcellarref1_Right.calls k a0_2 t277 _ A11.out).mono ?_); rintro e w' ⟨rfl, ⟨nd, rfl⟩⟩; refine ⟨_, rfl, ?_⟩))
  go_ret
  exact ⟨by first | rfl | (simp [errW_none, errW_some] <;> rfl) | (simp [*, errW_none, errW_some] <;> rfl), by repeat (first | (with_reducible first | exact HB.out | apply below_alloc | apply pw_below_drewN | apply below_drew1 | refine below_set ?_ GE276.out) | exact HB.out)⟩
def rootcellarref14_Find.l0 : Nat → Int → Int → List (S81) → Int → Int → Int → Option (Int × Int × ByteArray × Int × Bool × Bool × Bool)
 | 0, _, _, _, _, _, _ => none
 | k + 1, x1, x6, x279000, x279001, x279002, x279003 => if x6 < (x279000.length : Int) then (if 0 ≤ x6 then (if ((rd_T81 x279000 x6).f0) = x1 then (some ((rd_T81 x279000 x6).f0, (rd_T81 x279000 x6).f1, (rd_T81 x279000 x6).f2, (rd_T81 x279000 x6).f3, (rd_T81 x279000 x6).f4, (rd_T81 x279000 x6).f5, true)) else (rootcellarref14_Find.l0 k x1 (wrap64 (x6 + 1)) x279000 x279001 x279002 x279003)) else (none)) else (some (0, 0, (⟨#[]⟩ : ByteArray), 0, false, false, false))
def rootcellarref14_Find.f (k : Nat) (l0_0 : List (S81)) (a0_1 : Int) (a0_2 : Int) (a0_3 : Int) (a1 : Int) : Option (Int × Int × ByteArray × Int × Bool × Bool × Bool) := rootcellarref14_Find.l0 k a1 0 l0_0 a0_1 a0_2 a0_3
set_option maxHeartbeats 8000000 in
set_option maxRecDepth 100000 in
theorem rootcellarref14_Find.calls (k : Nat) (A0_0 : Option Addr) (c0_0 : Nat) (l0_0 : List (S81)) (a0_1 : Int) (a0_2 : Int) (a0_3 : Int) (a1 : Int) (r1 : Int) (r2 : Int) (r3 : ByteArray) (r4 : Int) (r5 : Bool) (r6 : Bool) (r7 : Bool) (w : World) (hr0_0 : Kd.C k81 w A0_0 l0_0.length l0_0) (hc0_0 : l0_0.length ≤ c0_0) (h : rootcellarref14_Find.f k l0_0 a0_1 a0_2 a0_3 a1 = some (r1, r2, r3, r4, r5, r6, r7)) :
  Calls Tryz.prog 103 #[.agg #[.slice A0_0 l0_0.length c0_0, .int .i64 a0_1, .int .i64 a0_2, .int .u64 a0_3], .int .i64 a1] w fun e w' => e = .returned (.tuple #[.agg #[.int .i64 r1, .int .i64 r2, .string r3, .int .u64 r4, .bool r5, .bool r6], .bool r7]) ∧ Below w.heap.size w w' := by
 have hu41 := Tryz.underlying41
 have hu81 := Tryz.underlying81
 have HR0_0 := Aside0.mk hr0_0
 have HC0_0 := Aside0.mk hc0_0
 clear hr0_0 hc0_0
 have HB := Aside0.mk (Below.refl w.heap.size w)
 have H : (rootcellarref14_Find.l0 k a1 0 l0_0 a0_1 a0_2 a0_3) = some (r1, r2, r3, r4, r5, r6, r7) := h
 clear h
 have H' := Aside0.mk H
 clear H
 go_enter Tryz.func103, Tryz.ntmps103
 go_wp2_with (first | ((with_reducible refine gate_dst (N := 2) rfl ?_); refine box_event ?hg (N := 2) ?hd (cs := #[.slice A0_0 l0_0.length c0_0, .int .i64 a0_1, .int .i64 a0_2, .int .u64 a0_3]) (t := 41) ?hr ?_; (case hd => rfl); (case hg => rfl); (case hr => first | (go_simp; done) | (go_simp; rfl)); intro gb278 hg w3 hbox hb; have n0_ := Aside0.mk (below_step belA hb); have n1_ := Aside0.mk (hbox); have n2_ := Aside0.mk ((by rw [hg]; exact (below_size belA) : w.heap.size ≤ gb278)); have n3_ := Aside0.mk ((by rw [hg]; exact (below_size belA) : w.heap.size ≤ gb278)); clear HB; have HB := n0_; have BK278 := n1_; have GW278 := n2_; have GE278 := n3_; clear n0_ n1_ n2_ n3_; clear hb hbox hg) | ((with_reducible refine gate_dst (N := 4) rfl ?_); refine box_event ?hg (N := 4) ?hd (cs := #[.int .i64 0, .int .i64 0, .string (⟨#[]⟩ : ByteArray), .int .u64 0, .bool false, .bool false]) (t := 81) ?hr ?_; (case hd => rfl); (case hg => rfl); (case hr => first | (go_simp; done) | (go_simp; rfl)); intro gb279 hg w4 hbox hb; have n0_ := Aside0.mk (blk_below (g := gb278) (o := .cells #[.slice A0_0 l0_0.length c0_0, .int .i64 a0_1, .int .i64 a0_2, .int .u64 a0_3] 41 (0, 0)) (blkN BK278.out) hb); have n1_ := Aside0.mk (below_step (by repeat (first | (with_reducible first | exact HB.out | apply below_alloc | apply pw_below_drewN | apply below_drew1 | refine below_set ?_ GE278.out) | exact HB.out)) hb); have n2_ := Aside0.mk (hbox); have n3_ := Aside0.mk ((by rw [hg]; exact (below_size (by repeat (first | (with_reducible first | exact HB.out | apply below_alloc | apply pw_below_drewN | apply below_drew1 | refine below_set ?_ GE278.out) | exact HB.out))) : w.heap.size ≤ gb279)); have n4_ := Aside0.mk ((by rw [hg]; exact (below_size (by repeat (first | (with_reducible first | exact HB.out | apply below_alloc | apply pw_below_drewN | apply below_drew1 | refine below_set ?_ GE278.out) | exact HB.out))) : w.heap.size ≤ gb279)); have n5_ := Aside0.mk ((by rw [hg]; exact Nat.ne_of_lt (blk_lt (g := gb278) (o := .cells #[.slice A0_0 l0_0.length c0_0, .int .i64 a0_1, .int .i64 a0_2, .int .u64 a0_3] 41 (0, 0)) (blkN BK278.out)) : gb278 ≠ gb279)); have n6_ := Aside0.mk ((by rw [hg]; exact Nat.ne_of_gt (blk_lt (g := gb278) (o := .cells #[.slice A0_0 l0_0.length c0_0, .int .i64 a0_1, .int .i64 a0_2, .int .u64 a0_3] 41 (0, 0)) (blkN BK278.out)) : gb279 ≠ gb278)); clear BK278; clear HB; have BK278 := n0_; have HB := n1_; have BK279 := n2_; have GW279 := n3_; have GE279 := n4_; have NB278_279 := n5_; have NB279_278 := n6_; clear n0_ n1_ n2_ n3_ n4_ n5_ n6_; clear hb hbox hg))
 go_loopg [6] k (fun kq v6 w' => ∃ (x6_1 : Int) (x280000_1 : Int) (x280001_1 : Int) (x280002_1 : ByteArray) (x280003_1 : Int) (x280004_1 : Bool) (x280005_1 : Bool), v6 = .int .i64 x6_1 ∧ Aside0 (rootcellarref14_Find.l0 kq a1 x6_1 l0_0 a0_1 a0_2 a0_3 = some (r1, r2, r3, r4, r5, r6, r7)) ∧ Aside0 (kq ≤ k) ∧ Aside0 (w'.heap[gb278]? = some (.cells #[(.slice A0_0 l0_0.length c0_0), .int .i64 a0_1, .int .i64 a0_2, .int .u64 a0_3] 41 (0, 0))) ∧ Aside0 (w'.heap[gb279]? = some (.cells #[.int .i64 x280000_1, .int .i64 x280001_1, .string x280002_1, .int .u64 x280003_1, .bool x280004_1, .bool x280005_1] 81 (0, 0))) ∧ Aside0 (Below w.heap.size w w'))
 case atStart => exact ⟨(0), (0), (0), ((⟨#[]⟩ : ByteArray)), (0), (false), (false), (by first | rfl | (simp; done) | (simp [*]; done)), H', ⟨Nat.le_refl _⟩, ⟨by (with_reducible repeat (first | refine blk_drewN ?_ _ | refine blk_drew ?_ | refine blk_alloc ?_ _)); exact BK278.out⟩, ⟨by (with_reducible repeat (first | refine blk_drewN ?_ _ | refine blk_drew ?_ | refine blk_alloc ?_ _)); exact BK279.out⟩, ⟨by repeat (first | (with_reducible first | exact HB.out | apply below_alloc | apply pw_below_drewN | apply below_drew1 | refine below_set ?_ GE278.out | refine below_set ?_ GE279.out) | exact HB.out)⟩⟩
 case round =>
  clear H'
  try clear c1
  try clear p2
  obtain ⟨x6_1, x280000_1, x280001_1, x280002_1, x280003_1, x280004_1, x280005_1, rfl, HA, HK1, BK278, BK279, HB⟩ := hrel
  cases gk with
  | zero => exact absurd HA.out (by simp [rootcellarref14_Find.l0])
  | succ k1 =>
   have H := HA.out
   clear HA
   simp only [rootcellarref14_Find.l0] at H
   by_cases c5 : x6_1 < (l0_0.length : Int)
   ·rw [if_pos c5] at H
    have c5b0 : decide (x6_1 < (l0_0.length : Int)) = true := decide_eq_true c5
    clear c5
    by_cases c6 : 0 ≤ x6_1
    ·rw [if_pos c6] at H
     have c6b0 : decide (0 ≤ x6_1) = true := decide_eq_true c6
     clear c6
     by_cases c7 : ((rd_T81 l0_0 x6_1).f0) = a1
     ·rw [if_pos c7] at H
      have c7b0 : (((rd_T81 l0_0 x6_1).f0) == a1) = true := beq_iff_eq.mpr c7
      have c7b1 : (((rd_T81 l0_0 x6_1).f0) != a1) = false := bne_eq_false_iff_eq.mpr c7
      clear c7
      simp only [Option.some.injEq, Prod.mk.injEq] at H
      obtain ⟨rfl, rfl, rfl, rfl, rfl, rfl, rfl⟩ := H
      have hnb8 := NB278_279.out
      have hnc8 := NB279_278.out
      have hcz9_0 : wr.cell? ⟨gb278, 0, none⟩ = some (.slice A0_0 l0_0.length c0_0) := (blk_cell BK278.out 0).trans rfl
      have hcz9_1 : wr.cell? ⟨gb278, 1, none⟩ = some (.int .i64 a0_1) := (blk_cell BK278.out 1).trans rfl
      have hcz9_2 : wr.cell? ⟨gb278, 2, none⟩ = some (.int .i64 a0_2) := (blk_cell BK278.out 2).trans rfl
      have hcz9_3 : wr.cell? ⟨gb278, 3, none⟩ = some (.int .u64 a0_3) := (blk_cell BK278.out 3).trans rfl
      have hfz9_0 := blk_frozen BK278.out 0
      have hfz9_1 := blk_frozen BK278.out 1
      have hfz9_2 := blk_frozen BK278.out 2
      have hfz9_3 := blk_frozen BK278.out 3
      have p280 : 0 ≤ (x6_1 : Int) := of_decide_eq_true asA
      have q280 : x6_1 < (l0_0.length : Int) := of_decide_eq_true asA
      obtain ⟨ad280, e280, hx280_0, hx280_1, hx280_2, hx280_3, hx280_4, hx280_5⟩ := at_T81 HR0_0.out x6_1 p280 q280
      cases e280
      replace hx280_0 := (HB.out.cell (World.block_lt_of_cell? w _ hx280_0)).trans hx280_0
      replace hx280_1 := (HB.out.cell (World.block_lt_of_cell? w _ hx280_1)).trans hx280_1
      replace hx280_2 := (HB.out.cell (World.block_lt_of_cell? w _ hx280_2)).trans hx280_2
      replace hx280_3 := (HB.out.cell (World.block_lt_of_cell? w _ hx280_3)).trans hx280_3
      replace hx280_4 := (HB.out.cell (World.block_lt_of_cell? w _ hx280_4)).trans hx280_4
      replace hx280_5 := (HB.out.cell (World.block_lt_of_cell? w _ hx280_5)).trans hx280_5
      replace p280 := eq_true p280
      replace q280 := eq_true q280
      have p281 : 0 ≤ (x6_1 : Int) := of_decide_eq_true asA
      have q281 : x6_1 < (l0_0.length : Int) := of_decide_eq_true asA
      obtain ⟨ad281, e281, hx281_0, hx281_1, hx281_2, hx281_3, hx281_4, hx281_5⟩ := at_T81 HR0_0.out x6_1 p281 q281
      obtain rfl : ad280 = ad281 := (by injection e281)
      replace hx281_0 := (HB.out.cell (World.block_lt_of_cell? w _ hx281_0)).trans hx281_0
      replace hx281_1 := (HB.out.cell (World.block_lt_of_cell? w _ hx281_1)).trans hx281_1
      replace hx281_2 := (HB.out.cell (World.block_lt_of_cell? w _ hx281_2)).trans hx281_2
      replace hx281_3 := (HB.out.cell (World.block_lt_of_cell? w _ hx281_3)).trans hx281_3
      replace hx281_4 := (HB.out.cell (World.block_lt_of_cell? w _ hx281_4)).trans hx281_4
      replace hx281_5 := (HB.out.cell (World.block_lt_of_cell? w _ hx281_5)).trans hx281_5
      replace p281 := eq_true p281
      replace q281 := eq_true q281
      have hcz10_0 : wr.cell? ⟨gb279, 0, none⟩ = some (.int .i64 x280000_1) := (blk_cell BK279.out 0).trans rfl
      have hcz10_1 : wr.cell? ⟨gb279, 1, none⟩ = some (.int .i64 x280001_1) := (blk_cell BK279.out 1).trans rfl
      have hcz10_2 : wr.cell? ⟨gb279, 2, none⟩ = some (.string x280002_1) := (blk_cell BK279.out 2).trans rfl
      have hcz10_3 : wr.cell? ⟨gb279, 3, none⟩ = some (.int .u64 x280003_1) := (blk_cell BK279.out 3).trans rfl
      have hcz10_4 : wr.cell? ⟨gb279, 4, none⟩ = some (.bool x280004_1) := (blk_cell BK279.out 4).trans rfl
      have hcz10_5 : wr.cell? ⟨gb279, 5, none⟩ = some (.bool x280005_1) := (blk_cell BK279.out 5).trans rfl
      have hfz10_0 := blk_frozen BK279.out 0
      have hfz10_1 := blk_frozen BK279.out 1
      have hfz10_2 := blk_frozen BK279.out 2
      have hfz10_3 := blk_frozen BK279.out 3
      have hfz10_4 := blk_frozen BK279.out 4
      have hfz10_5 := blk_frozen BK279.out 5
      go_wp2
      refine bodyPost_ret (results_ct rfl _ _ gb279 81 #[.int .i64 ((rd_T81 l0_0 x6_1).f0), .int .i64 ((rd_T81 l0_0 x6_1).f1), .string ((rd_T81 l0_0 x6_1).f2), .int .u64 ((rd_T81 l0_0 x6_1).f3), .bool ((rd_T81 l0_0 x6_1).f4), .bool ((rd_T81 l0_0 x6_1).f5)] (0, 0) _ rfl (by (with_reducible repeat (first | refine blk_drewN ?_ _ | refine blk_drew ?_ | refine blk_alloc ?_ _)); refine blk_put (cs := #[.int .i64 ((rd_T81 l0_0 x6_1).f0), .int .i64 ((rd_T81 l0_0 x6_1).f1), .string ((rd_T81 l0_0 x6_1).f2), .int .u64 ((rd_T81 l0_0 x6_1).f3), .bool ((rd_T81 l0_0 x6_1).f4), .bool x280005_1]) ?_ 5 _ rfl; (with_reducible repeat (first | refine blk_drewN ?_ _ | refine blk_drew ?_ | refine blk_alloc ?_ _)); refine blk_put (cs := #[.int .i64 ((rd_T81 l0_0 x6_1).f0), .int .i64 ((rd_T81 l0_0 x6_1).f1), .string ((rd_T81 l0_0 x6_1).f2), .int .u64 ((rd_T81 l0_0 x6_1).f3), .bool x280004_1, .bool x280005_1]) ?_ 4 _ rfl; (with_reducible repeat (first | refine blk_drewN ?_ _ | refine blk_drew ?_ | refine blk_alloc ?_ _)); refine blk_put (cs := #[.int .i64 ((rd_T81 l0_0 x6_1).f0), .int .i64 ((rd_T81 l0_0 x6_1).f1), .string ((rd_T81 l0_0 x6_1).f2), .int .u64 x280003_1, .bool x280004_1, .bool x280005_1]) ?_ 3 _ rfl; (with_reducible repeat (first | refine blk_drewN ?_ _ | refine blk_drew ?_ | refine blk_alloc ?_ _)); refine blk_put (cs := #[.int .i64 ((rd_T81 l0_0 x6_1).f0), .int .i64 ((rd_T81 l0_0 x6_1).f1), .string x280002_1, .int .u64 x280003_1, .bool x280004_1, .bool x280005_1]) ?_ 2 _ rfl; (with_reducible repeat (first | refine blk_drewN ?_ _ | refine blk_drew ?_ | refine blk_alloc ?_ _)); refine blk_put (cs := #[.int .i64 ((rd_T81 l0_0 x6_1).f0), .int .i64 x280001_1, .string x280002_1, .int .u64 x280003_1, .bool x280004_1, .bool x280005_1]) ?_ 1 _ rfl; (with_reducible repeat (first | refine blk_drewN ?_ _ | refine blk_drew ?_ | refine blk_alloc ?_ _)); refine blk_put (cs := #[.int .i64 x280000_1, .int .i64 x280001_1, .string x280002_1, .int .u64 x280003_1, .bool x280004_1, .bool x280005_1]) ?_ 0 _ rfl; (with_reducible repeat (first | refine blk_drewN ?_ _ | refine blk_drew ?_ | refine blk_alloc ?_ _)); exact BK279.out) Tryz.underlying81 rfl (by kernel_rfl)) rfl ?_
      exact ⟨by first | rfl | (simp [errW_none, errW_some] <;> rfl) | (simp [*, errW_none, errW_some] <;> rfl), by repeat (first | (with_reducible first | exact HB.out | apply below_alloc | apply pw_below_drewN | apply below_drew1 | refine below_set ?_ GE278.out | refine below_set ?_ GE279.out) | exact HB.out)⟩
     ·rw [if_neg c7] at H
      have c7b0 : (((rd_T81 l0_0 x6_1).f0) == a1) = false := beq_eq_false_iff_ne.mpr c7
      have c7b1 : (((rd_T81 l0_0 x6_1).f0) != a1) = true := bne_iff_ne.mpr c7
      have H' := Aside0.mk H
      clear H
      have hnb11 := NB278_279.out
      have hnc11 := NB279_278.out
      have hcz12_0 : wr.cell? ⟨gb278, 0, none⟩ = some (.slice A0_0 l0_0.length c0_0) := (blk_cell BK278.out 0).trans rfl
      have hcz12_1 : wr.cell? ⟨gb278, 1, none⟩ = some (.int .i64 a0_1) := (blk_cell BK278.out 1).trans rfl
      have hcz12_2 : wr.cell? ⟨gb278, 2, none⟩ = some (.int .i64 a0_2) := (blk_cell BK278.out 2).trans rfl
      have hcz12_3 : wr.cell? ⟨gb278, 3, none⟩ = some (.int .u64 a0_3) := (blk_cell BK278.out 3).trans rfl
      have hfz12_0 := blk_frozen BK278.out 0
      have hfz12_1 := blk_frozen BK278.out 1
      have hfz12_2 := blk_frozen BK278.out 2
      have hfz12_3 := blk_frozen BK278.out 3
      have p280 : 0 ≤ (x6_1 : Int) := of_decide_eq_true asA
      have q280 : x6_1 < (l0_0.length : Int) := of_decide_eq_true asA
      obtain ⟨ad280, e280, hx280_0, hx280_1, hx280_2, hx280_3, hx280_4, hx280_5⟩ := at_T81 HR0_0.out x6_1 p280 q280
      cases e280
      replace hx280_0 := (HB.out.cell (World.block_lt_of_cell? w _ hx280_0)).trans hx280_0
      replace hx280_1 := (HB.out.cell (World.block_lt_of_cell? w _ hx280_1)).trans hx280_1
      replace hx280_2 := (HB.out.cell (World.block_lt_of_cell? w _ hx280_2)).trans hx280_2
      replace hx280_3 := (HB.out.cell (World.block_lt_of_cell? w _ hx280_3)).trans hx280_3
      replace hx280_4 := (HB.out.cell (World.block_lt_of_cell? w _ hx280_4)).trans hx280_4
      replace hx280_5 := (HB.out.cell (World.block_lt_of_cell? w _ hx280_5)).trans hx280_5
      replace p280 := eq_true p280
      replace q280 := eq_true q280
      go_wp2
      go_roundg k1
      case measure => have := HK1.out; omega
      case rel => exact ⟨(wrap64 (x6_1 + 1)), (x280000_1), (x280001_1), (x280002_1), (x280003_1), (x280004_1), (x280005_1), (by first | rfl | (simp; done) | (simp [*]; done)), H', ⟨by have := HK1.out; omega⟩, ⟨by (with_reducible repeat (first | refine blk_drewN ?_ _ | refine blk_drew ?_ | refine blk_alloc ?_ _)); exact BK278.out⟩, ⟨by (with_reducible repeat (first | refine blk_drewN ?_ _ | refine blk_drew ?_ | refine blk_alloc ?_ _)); exact BK279.out⟩, ⟨by repeat (first | (with_reducible first | exact HB.out | apply below_alloc | apply pw_below_drewN | apply below_drew1 | refine below_set ?_ GE278.out | refine below_set ?_ GE279.out) | exact HB.out)⟩⟩
    ·rw [if_neg c6] at H
     exact absurd H (by simp)
   ·rw [if_neg c5] at H
    have c5b0 : decide (x6_1 < (l0_0.length : Int)) = false := decide_eq_false c5
    clear c5
    simp only [Option.some.injEq, Prod.mk.injEq] at H
    obtain ⟨rfl, rfl, rfl, rfl, rfl, rfl, rfl⟩ := H
    have hnb13 := NB278_279.out
    have hnc13 := NB279_278.out
    have hcz14_0 : wr.cell? ⟨gb278, 0, none⟩ = some (.slice A0_0 l0_0.length c0_0) := (blk_cell BK278.out 0).trans rfl
    have hcz14_1 : wr.cell? ⟨gb278, 1, none⟩ = some (.int .i64 a0_1) := (blk_cell BK278.out 1).trans rfl
    have hcz14_2 : wr.cell? ⟨gb278, 2, none⟩ = some (.int .i64 a0_2) := (blk_cell BK278.out 2).trans rfl
    have hcz14_3 : wr.cell? ⟨gb278, 3, none⟩ = some (.int .u64 a0_3) := (blk_cell BK278.out 3).trans rfl
    have hfz14_0 := blk_frozen BK278.out 0
    have hfz14_1 := blk_frozen BK278.out 1
    have hfz14_2 := blk_frozen BK278.out 2
    have hfz14_3 := blk_frozen BK278.out 3
    have hcz15_0 : wr.cell? ⟨gb279, 0, none⟩ = some (.int .i64 x280000_1) := (blk_cell BK279.out 0).trans rfl
    have hcz15_1 : wr.cell? ⟨gb279, 1, none⟩ = some (.int .i64 x280001_1) := (blk_cell BK279.out 1).trans rfl
    have hcz15_2 : wr.cell? ⟨gb279, 2, none⟩ = some (.string x280002_1) := (blk_cell BK279.out 2).trans rfl
    have hcz15_3 : wr.cell? ⟨gb279, 3, none⟩ = some (.int .u64 x280003_1) := (blk_cell BK279.out 3).trans rfl
    have hcz15_4 : wr.cell? ⟨gb279, 4, none⟩ = some (.bool x280004_1) := (blk_cell BK279.out 4).trans rfl
    have hcz15_5 : wr.cell? ⟨gb279, 5, none⟩ = some (.bool x280005_1) := (blk_cell BK279.out 5).trans rfl
    have hfz15_0 := blk_frozen BK279.out 0
    have hfz15_1 := blk_frozen BK279.out 1
    have hfz15_2 := blk_frozen BK279.out 2
    have hfz15_3 := blk_frozen BK279.out 3
    have hfz15_4 := blk_frozen BK279.out 4
    have hfz15_5 := blk_frozen BK279.out 5
    go_wp2
    refine bodyPost_ret (results_ct rfl _ _ gb279 81 #[.int .i64 0, .int .i64 0, .string (⟨#[]⟩ : ByteArray), .int .u64 0, .bool false, .bool false] (0, 0) _ rfl (by (with_reducible repeat (first | refine blk_drewN ?_ _ | refine blk_drew ?_ | refine blk_alloc ?_ _)); refine blk_put (cs := #[.int .i64 0, .int .i64 0, .string (⟨#[]⟩ : ByteArray), .int .u64 0, .bool false, .bool x280005_1]) ?_ 5 _ rfl; (with_reducible repeat (first | refine blk_drewN ?_ _ | refine blk_drew ?_ | refine blk_alloc ?_ _)); refine blk_put (cs := #[.int .i64 0, .int .i64 0, .string (⟨#[]⟩ : ByteArray), .int .u64 0, .bool x280004_1, .bool x280005_1]) ?_ 4 _ rfl; (with_reducible repeat (first | refine blk_drewN ?_ _ | refine blk_drew ?_ | refine blk_alloc ?_ _)); refine blk_put (cs := #[.int .i64 0, .int .i64 0, .string (⟨#[]⟩ : ByteArray), .int .u64 x280003_1, .bool x280004_1, .bool x280005_1]) ?_ 3 _ rfl; (with_reducible repeat (first | refine blk_drewN ?_ _ | refine blk_drew ?_ | refine blk_alloc ?_ _)); refine blk_put (cs := #[.int .i64 0, .int .i64 0, .string x280002_1, .int .u64 x280003_1, .bool x280004_1, .bool x280005_1]) ?_ 2 _ rfl; (with_reducible repeat (first | refine blk_drewN ?_ _ | refine blk_drew ?_ | refine blk_alloc ?_ _)); refine blk_put (cs := #[.int .i64 0, .int .i64 x280001_1, .string x280002_1, .int .u64 x280003_1, .bool x280004_1, .bool x280005_1]) ?_ 1 _ rfl; (with_reducible repeat (first | refine blk_drewN ?_ _ | refine blk_drew ?_ | refine blk_alloc ?_ _)); refine blk_put (cs := #[.int .i64 x280000_1, .int .i64 x280001_1, .string x280002_1, .int .u64 x280003_1, .bool x280004_1, .bool x280005_1]) ?_ 0 _ rfl; (with_reducible repeat (first | refine blk_drewN ?_ _ | refine blk_drew ?_ | refine blk_alloc ?_ _)); exact BK279.out) Tryz.underlying81 rfl (by kernel_rfl)) rfl ?_
    exact ⟨by first | rfl | (simp [errW_none, errW_some] <;> rfl) | (simp [*, errW_none, errW_some] <;> rfl), by repeat (first | (with_reducible first | exact HB.out | apply below_alloc | apply pw_below_drewN | apply below_drew1 | refine below_set ?_ GE278.out | refine below_set ?_ GE279.out) | exact HB.out)⟩
-- NOT PRINTED: function 67 (rootcellarref14_Right)
def rootcellarref16_Of.f (a0_0 : Int) (a0_1 : Int) (a0_2 : Int) (a0_3 : Int) (a1 : Int) : Option (Int) := if a1 = 0 then (some a0_0) else (if a1 = 1 then (some a0_1) else (if a1 = 2 then (some a0_2) else (some a0_3)))
set_option maxHeartbeats 8000000 in
set_option maxRecDepth 100000 in
theorem rootcellarref16_Of.calls (a0_0 : Int) (a0_1 : Int) (a0_2 : Int) (a0_3 : Int) (a1 : Int) (r : Int) (w : World) (h : rootcellarref16_Of.f a0_0 a0_1 a0_2 a0_3 a1 = some r) :
  Calls Tryz.prog 26 #[.agg #[.int .i64 a0_0, .int .i64 a0_1, .int .i64 a0_2, .int .i64 a0_3], .int .i64 a1] w fun e w' => e = .returned (.int .i64 r) ∧ Below w.heap.size w w' := by
 have hu37 := Tryz.underlying37
 have HB := Aside0.mk (Below.refl w.heap.size w)
 have H : (if a1 = 0 then (some a0_0) else (if a1 = 1 then (some a0_1) else (if a1 = 2 then (some a0_2) else (some a0_3)))) = some r := h
 clear h
 by_cases c3 : a1 = 0
 ·rw [if_pos c3] at H
  have c3b0 : (a1 == 0) = true := beq_iff_eq.mpr c3
  have c3b1 : (a1 != 0) = false := bne_eq_false_iff_eq.mpr c3
  clear c3
  obtain rfl := Option.some.inj H
  go_enter Tryz.func26, Tryz.ntmps26
  go_wp2_with (first | ((with_reducible refine gate_dst (N := 2) rfl ?_); refine box_event ?hg (N := 2) ?hd (cs := #[.int .i64 a0_0, .int .i64 a0_1, .int .i64 a0_2, .int .i64 a0_3]) (t := 37) ?hr ?_; (case hd => rfl); (case hg => rfl); (case hr => first | (go_simp; done) | (go_simp; rfl)); intro gb311 hg w4 hbox hb; have n0_ := Aside0.mk (below_step belA hb); have n1_ := Aside0.mk (hbox); have n2_ := Aside0.mk ((by rw [hg]; exact (below_size belA) : w.heap.size ≤ gb311)); have n3_ := Aside0.mk ((by rw [hg]; exact (below_size belA) : w.heap.size ≤ gb311)); clear HB; have HB := n0_; have BK311 := n1_; have GW311 := n2_; have GE311 := n3_; clear n0_ n1_ n2_ n3_; clear hb hbox hg; have hcz5_0 : w4.cell? ⟨gb311, 0, none⟩ = some (.int .i64 a0_0) := (blk_cell BK311.out 0).trans rfl; have hcz5_1 : w4.cell? ⟨gb311, 1, none⟩ = some (.int .i64 a0_1) := (blk_cell BK311.out 1).trans rfl; have hcz5_2 : w4.cell? ⟨gb311, 2, none⟩ = some (.int .i64 a0_2) := (blk_cell BK311.out 2).trans rfl; have hcz5_3 : w4.cell? ⟨gb311, 3, none⟩ = some (.int .i64 a0_3) := (blk_cell BK311.out 3).trans rfl; have hfz5_0 := blk_frozen BK311.out 0; have hfz5_1 := blk_frozen BK311.out 1; have hfz5_2 := blk_frozen BK311.out 2; have hfz5_3 := blk_frozen BK311.out 3))
  go_ret
  exact ⟨by first | rfl | (simp [errW_none, errW_some] <;> rfl) | (simp [*, errW_none, errW_some] <;> rfl), by repeat (first | (with_reducible first | exact HB.out | apply below_alloc | apply pw_below_drewN | apply below_drew1 | refine below_set ?_ GE311.out) | exact HB.out)⟩
 ·rw [if_neg c3] at H
  have c3b0 : (a1 == 0) = false := beq_eq_false_iff_ne.mpr c3
  have c3b1 : (a1 != 0) = true := bne_iff_ne.mpr c3
  by_cases c6 : a1 = 1
  ·rw [if_pos c6] at H
   have c6b0 : (a1 == 1) = true := beq_iff_eq.mpr c6
   have c6b1 : (a1 != 1) = false := bne_eq_false_iff_eq.mpr c6
   clear c6
   obtain rfl := Option.some.inj H
   go_enter Tryz.func26, Tryz.ntmps26
   go_wp2_with (first | ((with_reducible refine gate_dst (N := 2) rfl ?_); refine box_event ?hg (N := 2) ?hd (cs := #[.int .i64 a0_0, .int .i64 a0_1, .int .i64 a0_2, .int .i64 a0_3]) (t := 37) ?hr ?_; (case hd => rfl); (case hg => rfl); (case hr => first | (go_simp; done) | (go_simp; rfl)); intro gb311 hg w7 hbox hb; have n0_ := Aside0.mk (below_step belA hb); have n1_ := Aside0.mk (hbox); have n2_ := Aside0.mk ((by rw [hg]; exact (below_size belA) : w.heap.size ≤ gb311)); have n3_ := Aside0.mk ((by rw [hg]; exact (below_size belA) : w.heap.size ≤ gb311)); clear HB; have HB := n0_; have BK311 := n1_; have GW311 := n2_; have GE311 := n3_; clear n0_ n1_ n2_ n3_; clear hb hbox hg; have hcz8_0 : w7.cell? ⟨gb311, 0, none⟩ = some (.int .i64 a0_0) := (blk_cell BK311.out 0).trans rfl; have hcz8_1 : w7.cell? ⟨gb311, 1, none⟩ = some (.int .i64 a0_1) := (blk_cell BK311.out 1).trans rfl; have hcz8_2 : w7.cell? ⟨gb311, 2, none⟩ = some (.int .i64 a0_2) := (blk_cell BK311.out 2).trans rfl; have hcz8_3 : w7.cell? ⟨gb311, 3, none⟩ = some (.int .i64 a0_3) := (blk_cell BK311.out 3).trans rfl; have hfz8_0 := blk_frozen BK311.out 0; have hfz8_1 := blk_frozen BK311.out 1; have hfz8_2 := blk_frozen BK311.out 2; have hfz8_3 := blk_frozen BK311.out 3))
   go_ret
   exact ⟨by first | rfl | (simp [errW_none, errW_some] <;> rfl) | (simp [*, errW_none, errW_some] <;> rfl), by repeat (first | (with_reducible first | exact HB.out | apply below_alloc | apply pw_below_drewN | apply below_drew1 | refine below_set ?_ GE311.out) | exact HB.out)⟩
  ·rw [if_neg c6] at H
   have c6b0 : (a1 == 1) = false := beq_eq_false_iff_ne.mpr c6
   have c6b1 : (a1 != 1) = true := bne_iff_ne.mpr c6
   by_cases c9 : a1 = 2
   ·rw [if_pos c9] at H
    have c9b0 : (a1 == 2) = true := beq_iff_eq.mpr c9
    have c9b1 : (a1 != 2) = false := bne_eq_false_iff_eq.mpr c9
    clear c9
    obtain rfl := Option.some.inj H
    go_enter Tryz.func26, Tryz.ntmps26
    go_wp2_with (first | ((with_reducible refine gate_dst (N := 2) rfl ?_); refine box_event ?hg (N := 2) ?hd (cs := #[.int .i64 a0_0, .int .i64 a0_1, .int .i64 a0_2, .int .i64 a0_3]) (t := 37) ?hr ?_; (case hd => rfl); (case hg => rfl); (case hr => first | (go_simp; done) | (go_simp; rfl)); intro gb311 hg w10 hbox hb; have n0_ := Aside0.mk (below_step belA hb); have n1_ := Aside0.mk (hbox); have n2_ := Aside0.mk ((by rw [hg]; exact (below_size belA) : w.heap.size ≤ gb311)); have n3_ := Aside0.mk ((by rw [hg]; exact (below_size belA) : w.heap.size ≤ gb311)); clear HB; have HB := n0_; have BK311 := n1_; have GW311 := n2_; have GE311 := n3_; clear n0_ n1_ n2_ n3_; clear hb hbox hg; have hcz11_0 : w10.cell? ⟨gb311, 0, none⟩ = some (.int .i64 a0_0) := (blk_cell BK311.out 0).trans rfl; have hcz11_1 : w10.cell? ⟨gb311, 1, none⟩ = some (.int .i64 a0_1) := (blk_cell BK311.out 1).trans rfl; have hcz11_2 : w10.cell? ⟨gb311, 2, none⟩ = some (.int .i64 a0_2) := (blk_cell BK311.out 2).trans rfl; have hcz11_3 : w10.cell? ⟨gb311, 3, none⟩ = some (.int .i64 a0_3) := (blk_cell BK311.out 3).trans rfl; have hfz11_0 := blk_frozen BK311.out 0; have hfz11_1 := blk_frozen BK311.out 1; have hfz11_2 := blk_frozen BK311.out 2; have hfz11_3 := blk_frozen BK311.out 3))
    go_ret
    exact ⟨by first | rfl | (simp [errW_none, errW_some] <;> rfl) | (simp [*, errW_none, errW_some] <;> rfl), by repeat (first | (with_reducible first | exact HB.out | apply below_alloc | apply pw_below_drewN | apply below_drew1 | refine below_set ?_ GE311.out) | exact HB.out)⟩
   ·rw [if_neg c9] at H
    have c9b0 : (a1 == 2) = false := beq_eq_false_iff_ne.mpr c9
    have c9b1 : (a1 != 2) = true := bne_iff_ne.mpr c9
    obtain rfl := Option.some.inj H
    go_enter Tryz.func26, Tryz.ntmps26
    go_wp2_with (first | ((with_reducible refine gate_dst (N := 2) rfl ?_); refine box_event ?hg (N := 2) ?hd (cs := #[.int .i64 a0_0, .int .i64 a0_1, .int .i64 a0_2, .int .i64 a0_3]) (t := 37) ?hr ?_; (case hd => rfl); (case hg => rfl); (case hr => first | (go_simp; done) | (go_simp; rfl)); intro gb311 hg w12 hbox hb; have n0_ := Aside0.mk (below_step belA hb); have n1_ := Aside0.mk (hbox); have n2_ := Aside0.mk ((by rw [hg]; exact (below_size belA) : w.heap.size ≤ gb311)); have n3_ := Aside0.mk ((by rw [hg]; exact (below_size belA) : w.heap.size ≤ gb311)); clear HB; have HB := n0_; have BK311 := n1_; have GW311 := n2_; have GE311 := n3_; clear n0_ n1_ n2_ n3_; clear hb hbox hg; have hcz13_0 : w12.cell? ⟨gb311, 0, none⟩ = some (.int .i64 a0_0) := (blk_cell BK311.out 0).trans rfl; have hcz13_1 : w12.cell? ⟨gb311, 1, none⟩ = some (.int .i64 a0_1) := (blk_cell BK311.out 1).trans rfl; have hcz13_2 : w12.cell? ⟨gb311, 2, none⟩ = some (.int .i64 a0_2) := (blk_cell BK311.out 2).trans rfl; have hcz13_3 : w12.cell? ⟨gb311, 3, none⟩ = some (.int .i64 a0_3) := (blk_cell BK311.out 3).trans rfl; have hfz13_0 := blk_frozen BK311.out 0; have hfz13_1 := blk_frozen BK311.out 1; have hfz13_2 := blk_frozen BK311.out 2; have hfz13_3 := blk_frozen BK311.out 3))
    go_ret
    exact ⟨by first | rfl | (simp [errW_none, errW_some] <;> rfl) | (simp [*, errW_none, errW_some] <;> rfl), by repeat (first | (with_reducible first | exact HB.out | apply below_alloc | apply pw_below_drewN | apply below_drew1 | refine below_set ?_ GE311.out) | exact HB.out)⟩
end Go.Proofs.YtfdlbnfjohpdlaaGreatDoor.PPo
