import Derived.Test.YtppbcankhkgpfaaDoorPDqx0
import Derived.Test.YtppbcankhkgpfaaDoorPDqx27
import Derived.Test.YtppbcankhkgpfaaDoorPDqx28
import Derived.Test.YtppbcankhkgpfaaDoorPDqx4
--compressed
namespace Go.Proofs.YtppbcankhkgpfaaDoor.PDq
open Go.RowKit Go.Proofs.YtppbcankhkgpfaaDoorW.PrintWords Go.Proofs.YtppbcankhkgpfaaDoorW.PrintLast Go.Proofs.YtppbcankhkgpfaaDoorW.PrintMore
attribute [local go_sem] max2_int min2_int max_two min_two max_three min_three max_four min_four   -- for this text's walks alone
attribute [local go_sem high] hw_str_leq hw_str_gtr
set_option linter.unusedVariables false
set_option linter.unusedSimpArgs false
mutual
def rootcellarref7_Take.l0 : Nat → ByteArray → Int → List (S45) → Int → ByteArray → Bool → Option ((List (S45)) × Int)
 | 0, _, _, _, _, _, _ => none
 | k + 1, x0, x7, x8, x9, x265000, x265001 => if x9 < x7 then (rootcellarref7_Take.j1 k x0 x7 x8 x9 (!x265001) x265000 x265001) else (rootcellarref7_Take.j1 k x0 x7 x8 x9 false x265000 x265001)
def rootcellarref7_Take.j1 : Nat → ByteArray → Int → List (S45) → Int → Bool → ByteArray → Bool → Option ((List (S45)) × Int)
 | 0, _, _, _, _, _, _, _ => none
 | k + 1, x0, x7, x8, x9, x40, x265000, x265001 => if x40 = true then ((rootcellarref2_Reader_Number.f k x265000 x265001 1).bind fun bt268 => ((rootcellarref2_Reader_Text.f k bt268.2.1 bt268.2.2 (wrap64 (bt268.1))).bind fun bt271 => ((rootcellarref2_Reader_Number.f k bt271.2.1 bt271.2.2 4).bind fun bt275 => ((rootcellarref2_Reader_Number.f k bt275.2.1 bt275.2.2 1).bind fun bt278 => (rootcellarref7_Take.l1 k x0 x7 x8 x9 (wrap64 (bt278.1)) 0 bt278.2.1 bt278.2.2 bt271.1 (wrap64 (bt275.1)) ([] : List (S64))))))) else ((rootcellarref7_Put.f k x8).bind fun bt293 => (if x265001 = true then (rootcellarref7_Take.j4 k x8 true) else (if bt293.2 = 0 then (rootcellarref7_Take.j4 k x8 (bt293.1.toList != x0.toList)) else (rootcellarref7_Take.j4 k x8 true))))
def rootcellarref7_Take.l1 : Nat → ByteArray → Int → List (S45) → Int → Int → Int → ByteArray → Bool → ByteArray → Int → List (S64) → Option ((List (S45)) × Int)
 | 0, _, _, _, _, _, _, _, _, _, _, _ => none
 | k + 1, x0, x7, x8, x9, x12, x13, x265000, x265001, x275000, x275001, x275002 => if x13 < x12 then (rootcellarref7_Take.j3 k x0 x7 x8 x9 x12 x13 (!x265001) x265000 x265001 x275000 x275001 x275002) else (rootcellarref7_Take.j3 k x0 x7 x8 x9 x12 x13 false x265000 x265001 x275000 x275001 x275002)
def rootcellarref7_Take.j3 : Nat → ByteArray → Int → List (S45) → Int → Int → Int → Bool → ByteArray → Bool → ByteArray → Int → List (S64) → Option ((List (S45)) × Int)
 | 0, _, _, _, _, _, _, _, _, _, _, _, _ => none
 | k + 1, x0, x7, x8, x9, x12, x13, x66, x265000, x265001, x275000, x275001, x275002 => if x66 = true then ((rootcellarref2_Reader_Number.f k x265000 x265001 2).bind fun bt284 => ((rootcellarref2_Reader_Number.f k bt284.2.1 bt284.2.2 2).bind fun bt287 => (if x275002.length < 8796093022208 then (rootcellarref7_Take.l1 k x0 x7 x8 x9 x12 (wrap64 (x13 + 1)) bt287.2.1 bt287.2.2 x275000 x275001 (x275002 ++ [(⟨wrap64 (bt284.1), wrap64 (bt287.1)⟩ : S64)])) else (none)))) else (if x8.length < 2932031007402 then (rootcellarref7_Take.l0 k x0 x7 (x8 ++ [(⟨x275000, x275001, x275002⟩ : S45)]) (wrap64 (x9 + 1)) x265000 x265001) else (none))
def rootcellarref7_Take.j4 : Nat → List (S45) → Bool → Option ((List (S45)) × Int)
 | 0, _, _ => none
 | k + 1, x8, x103 => if x103 = true then (some (([] : List (S45)), 2)) else (some (x8, 0))
end
def rootcellarref7_Take.f (k : Nat) (a0 : ByteArray) : Option ((List (S45)) × Int) := (rootcellarref3_Take.f k a0).bind fun bt262 => (if bt262.2 = 0 then ((rootcellarref2_Reader_Number.f k bt262.1 false 1).bind fun bt265 => (rootcellarref7_Take.l0 k a0 (wrap64 (bt265.1)) ([] : List (S45)) 0 bt265.2.1 bt265.2.2)) else (some (([] : List (S45)), bt262.2)))
end Go.Proofs.YtppbcankhkgpfaaDoor.PDq
namespace Go.Proofs.YtppbcankhkgpfaaDoor.PDq
open Go.RowKit Go.Proofs.YtppbcankhkgpfaaDoorW.PrintWords Go.Proofs.YtppbcankhkgpfaaDoorW.PrintLast Go.Proofs.YtppbcankhkgpfaaDoorW.PrintMore
attribute [local go_sem] max2_int min2_int max_two min_two max_three min_three max_four min_four   -- for this text's walks alone
attribute [local go_sem high] hw_str_leq hw_str_gtr
set_option linter.unusedVariables false
set_option linter.unusedSimpArgs false
attribute [local go_sem high] eqA64
def rootcellarlaw7_sameSpans.l0 : Nat → List (S64) → List (S64) → Int → Option (Bool)
 | 0, _, _, _ => none
 | k + 1, x0, x1, x5 => if x5 < (x0.length : Int) then (if 0 ≤ x5 then (if x5 < (x1.length : Int) then (if (!(((rd_T64 x0 x5).f0) == ((rd_T64 x1 x5).f0)) || (!(((rd_T64 x0 x5).f1) == ((rd_T64 x1 x5).f1)))) = true then (some false) else (rootcellarlaw7_sameSpans.l0 k x0 x1 (wrap64 (x5 + 1)))) else (none)) else (none)) else (some true)
def rootcellarlaw7_sameSpans.f (k : Nat) (l0 : List (S64)) (l1 : List (S64)) : Option (Bool) := if (l0.length : Int) = (l1.length : Int) then (rootcellarlaw7_sameSpans.l0 k l0 l1 0) else (some false)
set_option maxHeartbeats 8000000 in
set_option maxRecDepth 100000 in
theorem rootcellarlaw7_sameSpans.calls (k : Nat) (A0 : Option Addr) (c0 : Nat) (l0 : List (S64)) (A1 : Option Addr) (c1 : Nat) (l1 : List (S64)) (r : Bool) (w : World) (hr0 : Kd.C k64 w A0 l0.length l0) (hc0 : l0.length ≤ c0) (hr1 : Kd.C k64 w A1 l1.length l1) (hc1 : l1.length ≤ c1) (h : rootcellarlaw7_sameSpans.f k l0 l1 = some r) :
  Calls Tryd.prog 30 #[.slice A0 l0.length c0, .slice A1 l1.length c1] w fun e w' => e = .returned (.bool r) ∧ Drawn0 w w' := by
 have hu64 := Tryd.underlying64
 have HR0 := Aside0.mk hr0
 have HC0 := Aside0.mk hc0
 clear hr0 hc0
 have HR1 := Aside0.mk hr1
 have HC1 := Aside0.mk hc1
 clear hr1 hc1
 have H : (if (l0.length : Int) = (l1.length : Int) then (rootcellarlaw7_sameSpans.l0 k l0 l1 0) else (some false)) = some r := h
 clear h
 by_cases c3 : (l0.length : Int) = (l1.length : Int)
 ·rw [if_pos c3] at H
  have c3b0 : ((l0.length : Int) == (l1.length : Int)) = true := beq_iff_eq.mpr c3
  have c3b1 : ((l0.length : Int) != (l1.length : Int)) = false := bne_eq_false_iff_eq.mpr c3
  have c3b2 : (l0.length == l1.length) = true := by first | simpa using c3 | (simp at c3 ⊢; omega)
  clear c3
  have H' := Aside0.mk H
  clear H
  go_enter Tryd.func30, Tryd.ntmps30
  go_wp2
  repeat (go_quiet (fail); try go_wp2)
  go_loopg [5] k (fun kq v5 w' => ∃ (x5_1 : Int), v5 = .int .i64 x5_1 ∧ Aside0 (rootcellarlaw7_sameSpans.l0 kq l0 l1 x5_1 = some r) ∧ Aside0 (kq ≤ k) ∧ Drawn0 w w')
  case atStart => exact ⟨(0), (by first | rfl | (simp; done) | (simp [*]; done)), H', ⟨Nat.le_refl _⟩, by repeat (first | exact Drawn0.refl _ | apply Drawn0.step)⟩
  case round =>
   clear H'
   try clear c1
   try clear p2
   try clear c3
   try clear c3b0
   try clear c3b1
   try clear c3b2
   obtain ⟨x5_1, rfl, HA, HK1, ⟨m1, rfl⟩⟩ := hrel
   cases gk with
   | zero => exact absurd HA.out (by simp [rootcellarlaw7_sameSpans.l0])
   | succ k1 =>
    have H := HA.out
    clear HA
    simp only [rootcellarlaw7_sameSpans.l0] at H
    by_cases c4 : x5_1 < (l0.length : Int)
    ·rw [if_pos c4] at H
     have c4b0 : decide (x5_1 < (l0.length : Int)) = true := decide_eq_true c4
     clear c4
     by_cases c5 : 0 ≤ x5_1
     ·rw [if_pos c5] at H
      have c5b0 : decide (0 ≤ x5_1) = true := decide_eq_true c5
      clear c5
      by_cases c6 : x5_1 < (l1.length : Int)
      ·rw [if_pos c6] at H
       have c6b0 : decide (x5_1 < (l1.length : Int)) = true := decide_eq_true c6
       clear c6
       by_cases c7 : (!(((rd_T64 l0 x5_1).f0) == ((rd_T64 l1 x5_1).f0)) || (!(((rd_T64 l0 x5_1).f1) == ((rd_T64 l1 x5_1).f1)))) = true
       ·rw [if_pos c7] at H
        have c7b0 : (!(((rd_T64 l0 x5_1).f0) == ((rd_T64 l1 x5_1).f0)) || (!(((rd_T64 l0 x5_1).f1) == ((rd_T64 l1 x5_1).f1)))) = true := c7
        clear c7
        obtain rfl := Option.some.inj H
        have p295 : 0 ≤ (x5_1 : Int) := of_decide_eq_true asA
        have q295 : x5_1 < (l0.length : Int) := of_decide_eq_true asA
        obtain ⟨ad295, e295, hx295_0, hx295_1⟩ := at_T64 HR0.out x5_1 p295 q295
        cases e295
        replace p295 := eq_true p295
        replace q295 := eq_true q295
        have p296 : 0 ≤ (x5_1 : Int) := of_decide_eq_true asA
        have q296 : x5_1 < (l1.length : Int) := of_decide_eq_true asA
        obtain ⟨ad296, e296, hx296_0, hx296_1⟩ := at_T64 HR1.out x5_1 p296 q296
        cases e296
        replace p296 := eq_true p296
        replace q296 := eq_true q296
        go_wp2
        repeat (go_quiet (fail); try go_wp2)
        go_ret
        exact ⟨by first | rfl | (simp; done) | (simp [*]; done), by repeat (first | exact Drawn0.refl _ | apply Drawn0.step)⟩
       ·rw [if_neg c7] at H
        have c7b0 : (!(((rd_T64 l0 x5_1).f0) == ((rd_T64 l1 x5_1).f0)) || (!(((rd_T64 l0 x5_1).f1) == ((rd_T64 l1 x5_1).f1)))) = false := by simpa using c7
        clear c7
        have H' := Aside0.mk H
        clear H
        have p295 : 0 ≤ (x5_1 : Int) := of_decide_eq_true asA
        have q295 : x5_1 < (l0.length : Int) := of_decide_eq_true asA
        obtain ⟨ad295, e295, hx295_0, hx295_1⟩ := at_T64 HR0.out x5_1 p295 q295
        cases e295
        replace p295 := eq_true p295
        replace q295 := eq_true q295
        have p296 : 0 ≤ (x5_1 : Int) := of_decide_eq_true asA
        have q296 : x5_1 < (l1.length : Int) := of_decide_eq_true asA
        obtain ⟨ad296, e296, hx296_0, hx296_1⟩ := at_T64 HR1.out x5_1 p296 q296
        cases e296
        replace p296 := eq_true p296
        replace q296 := eq_true q296
        go_wp2
        repeat (go_quiet (fail); try go_wp2)
        go_roundg k1
        case measure => have := HK1.out; omega
        case rel => exact ⟨(wrap64 (x5_1 + 1)), (by first | rfl | (simp; done) | (simp [*]; done)), H', ⟨by have := HK1.out; omega⟩, by repeat (first | exact Drawn0.refl _ | apply Drawn0.step)⟩
      ·rw [if_neg c6] at H
       exact absurd H (by simp)
     ·rw [if_neg c5] at H
      exact absurd H (by simp)
    ·rw [if_neg c4] at H
     have c4b0 : decide (x5_1 < (l0.length : Int)) = false := decide_eq_false c4
     clear c4
     obtain rfl := Option.some.inj H
     go_wp2
     repeat (go_quiet (fail); try go_wp2)
     go_ret
     exact ⟨by first | rfl | (simp; done) | (simp [*]; done), by repeat (first | exact Drawn0.refl _ | apply Drawn0.step)⟩
 ·rw [if_neg c3] at H
  have c3b0 : ((l0.length : Int) == (l1.length : Int)) = false := beq_eq_false_iff_ne.mpr c3
  have c3b1 : ((l0.length : Int) != (l1.length : Int)) = true := bne_iff_ne.mpr c3
  have c3b2 : (l0.length == l1.length) = false := by first | simpa using c3 | (simp at c3 ⊢; omega)
  obtain rfl := Option.some.inj H
  go_enter Tryd.func30, Tryd.ntmps30
  go_wp2
  repeat (go_quiet (fail); try go_wp2)
  go_ret
  exact ⟨by first | rfl | (simp; done) | (simp [*]; done), by repeat (first | exact Drawn0.refl _ | apply Drawn0.step)⟩
end Go.Proofs.YtppbcankhkgpfaaDoor.PDq
