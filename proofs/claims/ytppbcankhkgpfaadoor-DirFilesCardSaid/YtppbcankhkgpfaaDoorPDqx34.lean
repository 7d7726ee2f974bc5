import Derived.Test.YtppbcankhkgpfaaDoorPDqx0
import Derived.Test.YtppbcankhkgpfaaDoorPDqx12
import Derived.Test.YtppbcankhkgpfaaDoorPDqx17
import Derived.Test.YtppbcankhkgpfaaDoorPDqx20
import Derived.Test.YtppbcankhkgpfaaDoorPDqx30
import Derived.Test.YtppbcankhkgpfaaDoorPDqx31
--compressed
namespace Go.Proofs.YtppbcankhkgpfaaDoor.PDq
open Go.RowKit Go.Proofs.YtppbcankhkgpfaaDoorW.PrintWords Go.Proofs.YtppbcankhkgpfaaDoorW.PrintLast Go.Proofs.YtppbcankhkgpfaaDoorW.PrintMore
attribute [local go_sem] max2_int min2_int max_two min_two max_three min_three max_four min_four   -- for this text's walks alone
attribute [local go_sem high] hw_str_leq hw_str_gtr
set_option linter.unusedVariables false
set_option linter.unusedSimpArgs false
mutual
def rootcellarlaw7_small.l0 : Nat → List (S43) → Int → Option (Bool)
 | 0, _, _ => none
 | k + 1, x0, x3 => if x3 < (x0.length : Int) then (if 0 ≤ x3 then (if (((rd_T43 x0 x3).f0).size : Int) > 150 then (rootcellarlaw7_small.j1 k x0 x3 true) else (if (((rd_T43 x0 x3).f2).length : Int) > 210 then (rootcellarlaw7_small.j1 k x0 x3 true) else (if (x0.length : Int) > 20 then (rootcellarlaw7_small.j1 k x0 x3 (decide ((((rd_T43 x0 x3).f2).length : Int) > 10))) else (rootcellarlaw7_small.j1 k x0 x3 false)))) else (none)) else (some true)
def rootcellarlaw7_small.j1 : Nat → List (S43) → Int → Bool → Option (Bool)
 | 0, _, _, _ => none
 | k + 1, x0, x3, x42 => if x42 = true then (some false) else (rootcellarlaw7_small.l0 k x0 (wrap64 (x3 + 1)))
end
def rootcellarlaw7_small.f (k : Nat) (l0 : List (S43)) : Option (Bool) := if (l0.length : Int) > 130 then (some false) else (rootcellarlaw7_small.l0 k l0 0)
set_option maxHeartbeats 8000000 in
set_option maxRecDepth 100000 in
theorem rootcellarlaw7_small.calls (k : Nat) (A0 : Option Addr) (c0 : Nat) (l0 : List (S43)) (r : Bool) (w : World) (hr0 : Kd.C k43 w A0 l0.length l0) (hc0 : l0.length ≤ c0) (h : rootcellarlaw7_small.f k l0 = some r) :
  Calls Tryd.prog 15 #[.slice A0 l0.length c0] w fun e w' => e = .returned (.bool r) ∧ Drawn0 w w' := by
 have HR0 := Aside0.mk hr0
 have HC0 := Aside0.mk hc0
 clear hr0 hc0
 have H : (if (l0.length : Int) > 130 then (some false) else (rootcellarlaw7_small.l0 k l0 0)) = some r := h
 clear h
 by_cases c2 : (l0.length : Int) > 130
 ·rw [if_pos c2] at H
  have c2b0 : decide (130 < (l0.length : Int)) = true := decide_eq_true c2
  have c2b1 : decide (130 < l0.length) = true := decide_eq_true (by omega)
  clear c2
  obtain rfl := Option.some.inj H
  go_enter Tryd.func15, Tryd.ntmps15
  go_wp2
  go_ret
  exact ⟨by first | rfl | (simp; done) | (simp [*]; done), by repeat (first | exact Drawn0.refl _ | apply Drawn0.step)⟩
 ·rw [if_neg c2] at H
  have c2b0 : decide (130 < (l0.length : Int)) = false := decide_eq_false c2
  have c2b1 : decide (130 < l0.length) = false := decide_eq_false (by omega)
  clear c2
  have H' := Aside0.mk H
  clear H
  go_enter Tryd.func15, Tryd.ntmps15
  go_wp2
  go_loopg [3] k (fun kq v3 w' => ∃ (x3_1 : Int), v3 = .int .i64 x3_1 ∧ Aside0 (rootcellarlaw7_small.l0 kq l0 x3_1 = some r) ∧ Aside0 (kq ≤ k) ∧ Drawn0 w w')
  case atStart => exact ⟨(0), (by first | rfl | (simp; done) | (simp [*]; done)), H', ⟨Nat.le_refl _⟩, by repeat (first | exact Drawn0.refl _ | apply Drawn0.step)⟩
  case round =>
   clear H'
   try clear c1
   try clear c2
   try clear c2b0
   try clear c2b1
   try clear p2
   obtain ⟨x3_1, rfl, HA, HK1, ⟨m1, rfl⟩⟩ := hrel
   cases gk with
   | zero => exact absurd HA.out (by simp [rootcellarlaw7_small.l0])
   | succ k1 =>
    have H := HA.out
    clear HA
    simp only [rootcellarlaw7_small.l0] at H
    by_cases c3 : x3_1 < (l0.length : Int)
    ·rw [if_pos c3] at H
     have c3b0 : decide (x3_1 < (l0.length : Int)) = true := decide_eq_true c3
     clear c3
     have HC4 := Aside0.mk H
     clear H
     go_upto_region 6 with (fail)
     go_cut [42] (fun v42 wc => ∃ (kq : Nat) (x42_3 : Bool), v42 = .bool x42_3 ∧ Aside0 (rootcellarlaw7_small.j1 kq l0 x3_1 x42_3 = some r) ∧ Aside0 (kq ≤ k1) ∧ Drawn0 w wc)
     case first =>
      have H := HC4.out
      clear HC4
      by_cases c5 : 0 ≤ x3_1
      ·rw [if_pos c5] at H
       have c5b0 : decide (0 ≤ x3_1) = true := decide_eq_true c5
       clear c5
       (first | rw [c5b0] | (simp only [i64_w, i32_w]; rw [c5b0]) | skip)
       by_cases c6 : (((rd_T43 l0 x3_1).f0).size : Int) > 150
       ·rw [if_pos c6] at H
        have c6b0 : decide (150 < (((rd_T43 l0 x3_1).f0).size : Int)) = true := decide_eq_true c6
        have c6b1 : decide (150 < ((rd_T43 l0 x3_1).f0).size) = true := decide_eq_true (by omega)
        clear c6
        have H' := Aside0.mk H
        clear H
        have p304 : 0 ≤ (x3_1 : Int) := of_decide_eq_true asA
        have q304 : x3_1 < (l0.length : Int) := of_decide_eq_true asA
        obtain ⟨ad304, A304_2, c304_2, e304, hx304_0, hx304_1, hx304_2, hl304_2, hi304_2⟩ := at_T43 HR0.out x3_1 p304 q304
        cases e304
        have HR304_2 := Aside0.mk hi304_2
        have HC304_2 := Aside0.mk hl304_2
        clear hi304_2 hl304_2
        replace p304 := eq_true p304
        replace q304 := eq_true q304
        go_wp2
        go_meet
        case rel => exact ⟨_, (true), (by first | rfl | (simp; done) | (simp [*]; done)), H', ⟨by have := HK1.out; first | omega | exact Nat.le_refl _⟩, by repeat (first | exact Drawn0.refl _ | apply Drawn0.step)⟩
       ·rw [if_neg c6] at H
        have c6b0 : decide (150 < (((rd_T43 l0 x3_1).f0).size : Int)) = false := decide_eq_false c6
        have c6b1 : decide (150 < ((rd_T43 l0 x3_1).f0).size) = false := decide_eq_false (by omega)
        clear c6
        by_cases c7 : (((rd_T43 l0 x3_1).f2).length : Int) > 210
        ·rw [if_pos c7] at H
         have c7b0 : decide (210 < (((rd_T43 l0 x3_1).f2).length : Int)) = true := decide_eq_true c7
         have c7b1 : decide (210 < ((rd_T43 l0 x3_1).f2).length) = true := decide_eq_true (by omega)
         clear c7
         have H' := Aside0.mk H
         clear H
         have p304 : 0 ≤ (x3_1 : Int) := of_decide_eq_true asA
         have q304 : x3_1 < (l0.length : Int) := of_decide_eq_true asA
         obtain ⟨ad304, A304_2, c304_2, e304, hx304_0, hx304_1, hx304_2, hl304_2, hi304_2⟩ := at_T43 HR0.out x3_1 p304 q304
         cases e304
         have HR304_2 := Aside0.mk hi304_2
         have HC304_2 := Aside0.mk hl304_2
         clear hi304_2 hl304_2
         replace p304 := eq_true p304
         replace q304 := eq_true q304
         have p305 : 0 ≤ (x3_1 : Int) := of_decide_eq_true asA
         have q305 : x3_1 < (l0.length : Int) := of_decide_eq_true asA
         obtain ⟨ad305, A305_2, c305_2, e305, hx305_0, hx305_1, hx305_2, hl305_2, hi305_2⟩ := at_T43 HR0.out x3_1 p305 q305
         obtain rfl : ad304 = ad305 := (by injection e305)
         have HR305_2 := Aside0.mk hi305_2
         have HC305_2 := Aside0.mk hl305_2
         clear hi305_2 hl305_2
         replace p305 := eq_true p305
         replace q305 := eq_true q305
         have ea_ := Option.some.inj (hx304_2.symm.trans hx305_2)
         injection ea_ with ea_ en_ ec_
         subst ea_
         subst ec_
         clear en_
         go_wp2
         go_meet
         case rel => exact ⟨_, (true), (by first | rfl | (simp; done) | (simp [*]; done)), H', ⟨by have := HK1.out; first | omega | exact Nat.le_refl _⟩, by repeat (first | exact Drawn0.refl _ | apply Drawn0.step)⟩
        ·rw [if_neg c7] at H
         have c7b0 : decide (210 < (((rd_T43 l0 x3_1).f2).length : Int)) = false := decide_eq_false c7
         have c7b1 : decide (210 < ((rd_T43 l0 x3_1).f2).length) = false := decide_eq_false (by omega)
         clear c7
         by_cases c8 : (l0.length : Int) > 20
         ·rw [if_pos c8] at H
          have c8b0 : decide (20 < (l0.length : Int)) = true := decide_eq_true c8
          have c8b1 : decide (20 < l0.length) = true := decide_eq_true (by omega)
          clear c8
          have H' := Aside0.mk H
          clear H
          have p304 : 0 ≤ (x3_1 : Int) := of_decide_eq_true asA
          have q304 : x3_1 < (l0.length : Int) := of_decide_eq_true asA
          obtain ⟨ad304, A304_2, c304_2, e304, hx304_0, hx304_1, hx304_2, hl304_2, hi304_2⟩ := at_T43 HR0.out x3_1 p304 q304
          cases e304
          have HR304_2 := Aside0.mk hi304_2
          have HC304_2 := Aside0.mk hl304_2
          clear hi304_2 hl304_2
          replace p304 := eq_true p304
          replace q304 := eq_true q304
          have p305 : 0 ≤ (x3_1 : Int) := of_decide_eq_true asA
          have q305 : x3_1 < (l0.length : Int) := of_decide_eq_true asA
          obtain ⟨ad305, A305_2, c305_2, e305, hx305_0, hx305_1, hx305_2, hl305_2, hi305_2⟩ := at_T43 HR0.out x3_1 p305 q305
          obtain rfl : ad304 = ad305 := (by injection e305)
          have HR305_2 := Aside0.mk hi305_2
          have HC305_2 := Aside0.mk hl305_2
          clear hi305_2 hl305_2
          replace p305 := eq_true p305
          replace q305 := eq_true q305
          have ea_ := Option.some.inj (hx304_2.symm.trans hx305_2)
          injection ea_ with ea_ en_ ec_
          subst ea_
          subst ec_
          clear en_
          have p306 : 0 ≤ (x3_1 : Int) := of_decide_eq_true asA
          have q306 : x3_1 < (l0.length : Int) := of_decide_eq_true asA
          obtain ⟨ad306, A306_2, c306_2, e306, hx306_0, hx306_1, hx306_2, hl306_2, hi306_2⟩ := at_T43 HR0.out x3_1 p306 q306
          obtain rfl : ad304 = ad306 := (by injection e306)
          have HR306_2 := Aside0.mk hi306_2
          have HC306_2 := Aside0.mk hl306_2
          clear hi306_2 hl306_2
          replace p306 := eq_true p306
          replace q306 := eq_true q306
          have ea_ := Option.some.inj (hx304_2.symm.trans hx306_2)
          injection ea_ with ea_ en_ ec_
          subst ea_
          subst ec_
          clear en_
          go_wp2
          go_meet
          case rel => exact ⟨_, (decide ((((rd_T43 l0 x3_1).f2).length : Int) > 10)), (by first | rfl | (simp; done) | (simp [*]; done)), H', ⟨by have := HK1.out; first | omega | exact Nat.le_refl _⟩, by repeat (first | exact Drawn0.refl _ | apply Drawn0.step)⟩
         ·rw [if_neg c8] at H
          have c8b0 : decide (20 < (l0.length : Int)) = false := decide_eq_false c8
          have c8b1 : decide (20 < l0.length) = false := decide_eq_false (by omega)
          clear c8
          have H' := Aside0.mk H
          clear H
          have p304 : 0 ≤ (x3_1 : Int) := of_decide_eq_true asA
          have q304 : x3_1 < (l0.length : Int) := of_decide_eq_true asA
          obtain ⟨ad304, A304_2, c304_2, e304, hx304_0, hx304_1, hx304_2, hl304_2, hi304_2⟩ := at_T43 HR0.out x3_1 p304 q304
          cases e304
          have HR304_2 := Aside0.mk hi304_2
          have HC304_2 := Aside0.mk hl304_2
          clear hi304_2 hl304_2
          replace p304 := eq_true p304
          replace q304 := eq_true q304
          have p305 : 0 ≤ (x3_1 : Int) := of_decide_eq_true asA
          have q305 : x3_1 < (l0.length : Int) := of_decide_eq_true asA
          obtain ⟨ad305, A305_2, c305_2, e305, hx305_0, hx305_1, hx305_2, hl305_2, hi305_2⟩ := at_T43 HR0.out x3_1 p305 q305
          obtain rfl : ad304 = ad305 := (by injection e305)
          have HR305_2 := Aside0.mk hi305_2
          have HC305_2 := Aside0.mk hl305_2
          clear hi305_2 hl305_2
          replace p305 := eq_true p305
          replace q305 := eq_true q305
          have ea_ := Option.some.inj (hx304_2.symm.trans hx305_2)
          injection ea_ with ea_ en_ ec_
          subst ea_
          subst ec_
          clear en_
          go_wp2
          go_meet
          case rel => exact ⟨_, (false), (by first | rfl | (simp; done) | (simp [*]; done)), H', ⟨by have := HK1.out; first | omega | exact Nat.le_refl _⟩, by repeat (first | exact Drawn0.refl _ | apply Drawn0.step)⟩
      ·rw [if_neg c5] at H
       exact absurd H (by simp)
     case rest =>
      clear HC4
      try clear c1
      try clear c2
      try clear c2b0
      try clear c2b1
      try clear p2
      try clear c3
      try clear c3b0
      try clear p3
      try clear q3
      try clear hx3
      try clear c5
      try clear c5b0
      try clear c6
      try clear c6b0
      try clear c6b1
      try clear c7
      try clear c7b0
      try clear c7b1
      try clear c8
      try clear c8b0
      try clear c8b1
      try clear hx304_0
      try clear hx304_1
      try clear hx304_2
      try clear hx305_0
      try clear hx305_1
      try clear hx305_2
      try clear hx306_0
      try clear hx306_1
      try clear hx306_2
      try clear p2
      try clear p304
      try clear p305
      try clear p306
      try clear q304
      try clear q305
      try clear q306
      obtain ⟨kq, x42_3, rfl, HA, HJ3, ⟨mc3, rfl⟩⟩ := hcut
      cases kq with
      | zero => exact absurd HA.out (by simp [rootcellarlaw7_small.j1])
      | succ kj3 =>
       have H := HA.out
       clear HA
       simp only [rootcellarlaw7_small.j1] at H
       by_cases c9 : x42_3 = true
       ·subst c9
        have H1 : (some false) = some r := by rw [if_pos rfl] at H; exact H
        clear H
        have H := H1
        clear H1
        obtain rfl := Option.some.inj H
        go_wp2
        go_ret
        exact ⟨by first | rfl | (simp; done) | (simp [*]; done), by repeat (first | exact Drawn0.refl _ | apply Drawn0.step)⟩
       ·replace c9 := Bool.eq_false_iff.mpr c9
        subst c9
        have H1 : (rootcellarlaw7_small.l0 kj3 l0 (wrap64 (x3_1 + 1))) = some r := by rw [if_neg (show ¬ (false = true) by decide)] at H; exact H
        clear H
        have H := H1
        clear H1
        have H' := Aside0.mk H
        clear H
        go_wp2
        go_roundg kj3
        case measure => have := HK1.out; have := HJ3.out; omega
        case rel => exact ⟨(wrap64 (x3_1 + 1)), (by first | rfl | (simp; done) | (simp [*]; done)), H', ⟨by have := HK1.out; have := HJ3.out; omega⟩, by repeat (first | exact Drawn0.refl _ | apply Drawn0.step)⟩
    ·rw [if_neg c3] at H
     have c3b0 : decide (x3_1 < (l0.length : Int)) = false := decide_eq_false c3
     clear c3
     obtain rfl := Option.some.inj H
     go_wp2
     go_ret
     exact ⟨by first | rfl | (simp; done) | (simp [*]; done), by repeat (first | exact Drawn0.refl _ | apply Drawn0.step)⟩
def rootcellarlaw7_as.l0 : Nat → List (S43) → List (S45) → Int → Option ((List (S45)))
 | 0, _, _, _ => none
 | k + 1, x0, x3, x4 => if x4 < (x0.length : Int) then (if 0 ≤ x4 then (if x3.length < 2932031007402 then (rootcellarlaw7_as.l0 k x0 (x3 ++ [(⟨(rd_T43 x0 x4).f0, (rd_T43 x0 x4).f1, (rd_T43 x0 x4).f2⟩ : S45)]) (wrap64 (x4 + 1))) else (none)) else (none)) else (some x3)
def rootcellarlaw7_as.f (k : Nat) (l0 : List (S43)) : Option ((List (S45))) := rootcellarlaw7_as.l0 k l0 ([] : List (S45)) 0
def rootcellarlaw7_as.T5 : Bool × List (List Nat × List Nat) := (true, [([], []), ([], []), ([], []), ([1, 2], [1, 2]), ([3], [3]), ([4], [4]), ([], []), ([], []), ([6, 7], [6, 7]), ([8], [8]), ([9], [9]), ([], []), ([], []), ([11, 12], [11, 12]), ([13], [13]), ([14], [14]), ([5, 10, 15], [5, 10, 15]), ([16], [16]), ([0, 17], [0, 17]), ([18, 18, 0, 1, 2, 3, 4, 5, 6, 7, 8, 9, 10, 11, 12, 13, 14, 15, 16, 17, 18], [0, 18])])
def rootcellarlaw7_as.B5 : List Nat := [0, 0, 0, 6, 14, 30, 0, 0, 192, 448, 960, 0, 0, 6144, 14336, 30720, 65534, 131070, 262143, 524287]
theorem rootcellarlaw7_as.tab5 : rtab .any (opsOf Tryd.f17 5) = rootcellarlaw7_as.T5 := by kernel_rfl
theorem rootcellarlaw7_as.bits5 : waitsOk rootcellarlaw7_as.T5.2 rootcellarlaw7_as.B5 = true := by kernel_rfl
set_option maxHeartbeats 8000000 in
set_option maxRecDepth 100000 in
theorem rootcellarlaw7_as.calls (k : Nat) (P0_ : Nat → Prop) (A0 : Option Addr) (c0 : Nat) (l0 : List (S43)) (r : List (S45)) (w : World) (hs0 : Kd.V k43 43 w w.heap.size (fun k_ => P0_ k_) (.slice A0 l0.length c0) l0) (h : rootcellarlaw7_as.f k l0 = some r) :
  Calls Tryd.prog 17 #[.slice A0 l0.length c0] w fun e w' => ∃ v0_ : Value, e = .returned (v0_) ∧ Kd.N k45 45 w' w.heap.size (fun k_ => (P0_ k_ ∨ w.heap.size ≤ k_)) v0_ r ∧ Below w.heap.size w w' := by
 have hu45 := Tryd.underlying45
 have HO0 := Aside0.mk (show Kd.V k43 43 w w.heap.size (fun k_ => (P0_ k_ ∨ w.heap.size ≤ k_)) (.slice A0 l0.length c0) l0 from Kd.V_mono hs0 (fun k_ hk => .inl hk))
 have HB := Aside0.mk (Below.refl w.heap.size w)
 have H : (rootcellarlaw7_as.l0 k l0 ([] : List (S45)) 0) = some r := h
 clear h
 have H' := Aside0.mk H
 clear H
 go_enter Tryd.func17, Tryd.ntmps17
 go_wp2
 go_loopg [3, 4] k (fun kq v3 v4 w' => ∃ (x3_1 : List (S45)) (x4_1 : Int), v4 = .int .i64 x4_1 ∧ Aside0 (rootcellarlaw7_as.l0 kq l0 x3_1 x4_1 = some r) ∧ Aside0 (kq ≤ k) ∧ Aside0 (Kd.V k43 43 w' w.heap.size (fun k_ => (P0_ k_ ∨ w.heap.size ≤ k_) ∧ some k_ ≠ (v3 : Value).ownBlock) (.slice A0 l0.length c0) l0) ∧ Aside0 (Kd.N k45 45 w' w.heap.size (fun k_ => (P0_ k_ ∨ w.heap.size ≤ k_)) v3 x3_1) ∧ Aside0 (Below w.heap.size w w'))
 case atStart => exact ⟨(([] : List (S45))), (0), (by first | rfl | (simp; done) | (simp [*]; done)), H', ⟨Nat.le_refl _⟩, ⟨by (with_reducible repeat (first | apply Kd.V_alloc | apply Kd.V_drewN | apply Kd.V_drew)); exact Kd.V_mono HO0.out (fun _ hk => ⟨hk, (by simp [Value.ownBlock])⟩)⟩, ⟨by first | exact Kd.S_nil _ _ _ _ _ | exact Kd.N_nil _ _ _ _ _ | exact Kd.V_nil _ _ _ _ _ | exact Kd.Q_nil _ _ _ _ _ | exact Kd.R_nil _ _ _ _ _⟩, ⟨by repeat (first | (with_reducible first | exact HB.out | apply below_alloc | apply pw_below_drewN | apply below_drew1) | exact HB.out)⟩⟩
 case round =>
  clear H'
  try clear c1
  obtain ⟨x3_1, x4_1, rfl, HA, HK1, HO_0, HO_3, HB⟩ := hrel
  cases gk with
  | zero => exact absurd HA.out (by simp [rootcellarlaw7_as.l0])
  | succ k1 =>
   have H := HA.out
   clear HA
   simp only [rootcellarlaw7_as.l0] at H
   by_cases c2 : x4_1 < (l0.length : Int)
   ·rw [if_pos c2] at H
    have c2b0 : decide (x4_1 < (l0.length : Int)) = true := decide_eq_true c2
    clear c2
    by_cases c3 : 0 ≤ x4_1
    ·rw [if_pos c3] at H
     have c3b0 : decide (0 ≤ x4_1) = true := decide_eq_true c3
     clear c3
     by_cases c4 : x3_1.length < 2932031007402
     ·rw [if_pos c4] at H
      have LMc4 := Aside0.mk c4
      clear c4
      obtain ⟨y310, hy310⟩ : ∃ y_ : List (S45), y_ = (x3_1 ++ [(⟨(rd_T43 l0 x4_1).f0, (rd_T43 l0 x4_1).f1, (rd_T43 l0 x4_1).f2⟩ : S45)]) := ⟨_, rfl⟩
      replace H : (rootcellarlaw7_as.l0 k1 l0 y310 (wrap64 (x4_1 + 1))) = some r := by first | (rw [hy310]; with_reducible exact H) | (have H2_ := (Option.bind_some _ _).symm.trans H; rw [hy310]; with_reducible exact H2_) | (have H2_ := (Option.bind_some _ _).symm.trans H; with_reducible exact H2_) | with_reducible exact H | (rw [hy310]; exact H) | exact H
      have Ny310 := Aside0.mk hy310
      clear hy310
      have H' := Aside0.mk H
      clear H
      try go_wp2
      have n0_ := Aside0.mk (Kd.V_drew HO_0.out)
      have n1_ := Aside0.mk (Kd.N_drew HO_3.out)
      have n2_ := Aside0.mk (below_drew1 HB.out)
      clear HO_0
      clear HO_3
      clear HB
      have HO_0 := n0_
      have HO_3 := n1_
      have HB := n2_
      clear n0_ n1_ n2_
      have p307 : 0 ≤ (x4_1 : Int) := of_decide_eq_true asA
      have q307 : x4_1 < (l0.length : Int) := of_decide_eq_true asA
      obtain ⟨ad307, A307_2, c307_2, e307, hx307_0, hx307_1, hx307_2, hl307_2, hi307_2⟩ := at_T43 (Kd.V_reads' HO_0.out).2.2 x4_1 p307 q307
      cases e307
      obtain ⟨ce307, hce307, hMe307, hcc307⟩ := Kd.V_get HO_0.out z43 x4_1 p307 (by first | exact q307 | exact of_decide_eq_true asA | (have e_ := (Kd.V_reads' HO_0.out).1; omega))
      obtain ⟨ua307_2, uc307_2, rfl, ul307_2, ge307_2⟩ := k43_openF hMe307
      have hv307_2 := hcc307 2 _ rfl
      rw [add_field _ _ 2 (by omega)] at hv307_2
      replace hv307_2 := Option.some.inj (hv307_2.symm.trans hx307_2)
      injection hv307_2 with hva_ hvn_ hvc_
      rw [hva_] at ge307_2
      rw [hvc_] at ul307_2
      have HL307_2 := Aside0.mk (show Kd.V k64 64 _ w.heap.size _ _ ((rd_T43 l0 x4_1).f2) from Kd.V_mk ul307_2 ge307_2)
      clear hva_ hvn_ hvc_ ge307_2 ul307_2
      clear hcc307 hce307
      have HR307_2 := Aside0.mk hi307_2
      have HC307_2 := Aside0.mk hl307_2
      clear hi307_2 hl307_2
      replace p307 := eq_true p307
      replace q307 := eq_true q307
      have p308 : 0 ≤ (x4_1 : Int) := of_decide_eq_true asA
      have q308 : x4_1 < (l0.length : Int) := of_decide_eq_true asA
      obtain ⟨ad308, A308_2, c308_2, e308, hx308_0, hx308_1, hx308_2, hl308_2, hi308_2⟩ := at_T43 (Kd.V_reads' HO_0.out).2.2 x4_1 p308 q308
      obtain rfl : ad307 = ad308 := (by injection e308)
      obtain ⟨ce308, hce308, hMe308, hcc308⟩ := Kd.V_get HO_0.out z43 x4_1 p308 (by first | exact q308 | exact of_decide_eq_true asA | (have e_ := (Kd.V_reads' HO_0.out).1; omega))
      obtain ⟨ua308_2, uc308_2, rfl, ul308_2, ge308_2⟩ := k43_openF hMe308
      have hv308_2 := hcc308 2 _ rfl
      rw [add_field _ _ 2 (by omega)] at hv308_2
      replace hv308_2 := Option.some.inj (hv308_2.symm.trans hx308_2)
      injection hv308_2 with hva_ hvn_ hvc_
      rw [hva_] at ge308_2
      rw [hvc_] at ul308_2
      have HL308_2 := Aside0.mk (show Kd.V k64 64 _ w.heap.size _ _ ((rd_T43 l0 x4_1).f2) from Kd.V_mk ul308_2 ge308_2)
      clear hva_ hvn_ hvc_ ge308_2 ul308_2
      clear hcc308 hce308
      have HR308_2 := Aside0.mk hi308_2
      have HC308_2 := Aside0.mk hl308_2
      clear hi308_2 hl308_2
      replace p308 := eq_true p308
      replace q308 := eq_true q308
      have ea_ := Option.some.inj (hx307_2.symm.trans hx308_2)
      injection ea_ with ea_ en_ ec_
      subst ea_
      subst ec_
      clear en_
      have p309 : 0 ≤ (x4_1 : Int) := of_decide_eq_true asA
      have q309 : x4_1 < (l0.length : Int) := of_decide_eq_true asA
      obtain ⟨ad309, A309_2, c309_2, e309, hx309_0, hx309_1, hx309_2, hl309_2, hi309_2⟩ := at_T43 (Kd.V_reads' HO_0.out).2.2 x4_1 p309 q309
      obtain rfl : ad307 = ad309 := (by injection e309)
      obtain ⟨ce309, hce309, hMe309, hcc309⟩ := Kd.V_get HO_0.out z43 x4_1 p309 (by first | exact q309 | exact of_decide_eq_true asA | (have e_ := (Kd.V_reads' HO_0.out).1; omega))
      obtain ⟨ua309_2, uc309_2, rfl, ul309_2, ge309_2⟩ := k43_openF hMe309
      have hv309_2 := hcc309 2 _ rfl
      rw [add_field _ _ 2 (by omega)] at hv309_2
      replace hv309_2 := Option.some.inj (hv309_2.symm.trans hx309_2)
      injection hv309_2 with hva_ hvn_ hvc_
      rw [hva_] at ge309_2
      rw [hvc_] at ul309_2
      have HL309_2 := Aside0.mk (show Kd.V k64 64 _ w.heap.size _ _ ((rd_T43 l0 x4_1).f2) from Kd.V_mk ul309_2 ge309_2)
      clear hva_ hvn_ hvc_ ge309_2 ul309_2
      clear hcc309 hce309
      have HR309_2 := Aside0.mk hi309_2
      have HC309_2 := Aside0.mk hl309_2
      clear hi309_2 hl309_2
      replace p309 := eq_true p309
      replace q309 := eq_true q309
      have ea_ := Option.some.inj (hx307_2.symm.trans hx309_2)
      injection ea_ with ea_ en_ ec_
      subst ea_
      subst ec_
      clear en_
      refine start_ (n := 20) (S := fun w' => w'.cell? (ad307.add ((x4_1).toNat * 3)) = some (.string ((rd_T43 l0 x4_1).f0)) ∧ w'.cell? ⟨(ad307.add ((x4_1).toNat * 3)).block, (ad307.add ((x4_1).toNat * 3)).off + 1, none⟩ = some (.int .i64 ((rd_T43 l0 x4_1).f1)) ∧ w'.cell? ⟨(ad307.add ((x4_1).toNat * 3)).block, (ad307.add ((x4_1).toNat * 3)).off + 2, none⟩ = some (.slice A307_2 ((rd_T43 l0 x4_1).f2).length c307_2) ∧ w'.cell? (ad307.add ((x4_1).toNat * 3)) = some (.string ((rd_T43 l0 x4_1).f0)) ∧ w'.cell? ⟨(ad307.add ((x4_1).toNat * 3)).block, (ad307.add ((x4_1).toNat * 3)).off + 1, none⟩ = some (.int .i64 ((rd_T43 l0 x4_1).f1)) ∧ w'.cell? ⟨(ad307.add ((x4_1).toNat * 3)).block, (ad307.add ((x4_1).toNat * 3)).off + 2, none⟩ = some (.slice A307_2 ((rd_T43 l0 x4_1).f2).length c307_2) ∧ w'.cell? (ad307.add ((x4_1).toNat * 3)) = some (.string ((rd_T43 l0 x4_1).f0)) ∧ w'.cell? ⟨(ad307.add ((x4_1).toNat * 3)).block, (ad307.add ((x4_1).toNat * 3)).off + 1, none⟩ = some (.int .i64 ((rd_T43 l0 x4_1).f1)) ∧ w'.cell? ⟨(ad307.add ((x4_1).toNat * 3)).block, (ad307.add ((x4_1).toNat * 3)).off + 2, none⟩ = some (.slice A307_2 ((rd_T43 l0 x4_1).f2).length c307_2)) (ds := [17, 18]) #[Z,Z,Z,Z,Z,Z,Z,Z,Z,Z,Z,Z,Z,Z,Z,Z,Z,Z,Z,Z] (by kernel_rfl) rfl rfl ⟨hx307_0, hx307_1, hx307_2, hx308_0, hx308_1, hx308_2, hx309_0, hx309_1, hx309_2⟩ (fun hHeld => ?_); refine with_tabW rootcellarlaw7_as.tab5 rootcellarlaw7_as.bits5 (fun HT_ HW_ => ?_)
      generalize wr.drew = w5 at HO_0 HO_3 HB HL307_2 HL308_2 HL309_2 HR307_2 HR308_2 HR309_2 hx307_0 hx307_1 hx307_2 hx308_0 hx308_1 hx308_2 hx309_0 hx309_1 hx309_2 hHeld ⊢
      refine pure_ (i := 0) (N := some 11) (v := ?_) (a' := ?_) #[Y,Z,Z,Z,Z,Z,Z,Z,Z,Z,Z,Z,Z,Z,Z,Z,Z,Z,Z,Z] rfl rfl (any_of HT_.out (by kernel_rfl)) (fun _ _ _ h => h) (Or.inl ⟨by rfl, ?_⟩) ?_ ?_
      rotate_left
      ·intro w'
       go_simp
       with_reducible rfl
      rotate_left
      ·simp only [Act.put, List.setIfInBounds_toArray, List.set_cons_zero, List.set_cons_succ, i64_w, i32_w]
       rfl
      refine pure_ (i := 1) (N := some 12) (v := ?_) (a' := ?_) #[Y,Y,Z,Z,Z,Z,Z,Z,Z,Z,Z,Z,Z,Z,Z,Z,Z,Z,Z,Z] rfl rfl (any_of HT_.out (by kernel_rfl)) (fun _ _ _ h => h) (Or.inl ⟨by rfl, ?_⟩) ?_ ?_
      rotate_left
      ·intro w'
       go_simp
       with_reducible rfl
      rotate_left
      ·simp only [Act.put, List.setIfInBounds_toArray, List.set_cons_zero, List.set_cons_succ, i64_w, i32_w]
       rfl
      refine pure_ (i := 2) (N := some 13) (v := ?_) (a' := ?_) #[Y,Y,Y,Z,Z,Z,Z,Z,Z,Z,Z,Z,Z,Z,Z,Z,Z,Z,Z,Z] rfl rfl (any_of HT_.out (by kernel_rfl)) (fun _ _ _ h => h) (Or.inl ⟨by rfl, ?_⟩) ?_ ?_
      rotate_left
      ·intro w'
       go_simp
       with_reducible rfl
      rotate_left
      ·simp only [Act.put, List.setIfInBounds_toArray, List.set_cons_zero, List.set_cons_succ, i64_w, i32_w]
       rfl
      refine pure_ (i := 3) (N := some 14) (v := ?_) (a' := ?_) #[Y,Y,Y,Y,Z,Z,Z,Z,Z,Z,Z,Z,Z,Z,Z,Z,Z,Z,Z,Z] rfl rfl (any_of HT_.out (by kernel_rfl)) (fun _ _ _ h => h) (Or.inl ⟨by rfl, ?_⟩) ?_ ?_
      rotate_left
      ·intro w'
       go_simp
       with_reducible rfl
      rotate_left
      ·simp only [Act.put, List.setIfInBounds_toArray, List.set_cons_zero, List.set_cons_succ, i64_w, i32_w]
       rfl
      refine pure_ (i := 4) (N := some 15) (v := ?_) (a' := ?_) #[Y,Y,Y,Y,Y,Z,Z,Z,Z,Z,Z,Z,Z,Z,Z,Z,Z,Z,Z,Z] rfl rfl (any_of HT_.out (by kernel_rfl)) (fun _ _ _ h => h) (Or.inl ⟨by rfl, ?_⟩) ?_ ?_
      rotate_left
      ·intro w'
       go_simp
       with_reducible rfl
      rotate_left
      ·simp only [Act.put, List.setIfInBounds_toArray, List.set_cons_zero, List.set_cons_succ, i64_w, i32_w]
       rfl
      refine pure_ (i := 6) (N := some 17) (v := ?_) (a' := ?_) #[Y,Y,Y,Y,Y,Z,Y,Z,Z,Z,Z,Z,Z,Z,Z,Z,Z,Z,Z,Z] rfl rfl (any_of HT_.out (by kernel_rfl)) (fun _ _ _ h => h) (Or.inl ⟨by rfl, ?_⟩) ?_ ?_
      rotate_left
      ·intro w'
       go_simp
       with_reducible rfl
      rotate_left
      ·simp only [Act.put, List.setIfInBounds_toArray, List.set_cons_zero, List.set_cons_succ, i64_w, i32_w]
       rfl
      refine pure_ (i := 7) (N := some 18) (v := ?_) (a' := ?_) #[Y,Y,Y,Y,Y,Z,Y,Y,Z,Z,Z,Z,Z,Z,Z,Z,Z,Z,Z,Z] rfl rfl (any_of HT_.out (by kernel_rfl)) (fun _ _ _ h => h) (Or.inl ⟨by rfl, ?_⟩) ?_ ?_
      rotate_left
      ·intro w'
       go_simp
       with_reducible rfl
      rotate_left
      ·simp only [Act.put, List.setIfInBounds_toArray, List.set_cons_zero, List.set_cons_succ, i64_w, i32_w]
       rfl
      refine pure_ (i := 8) (N := some 19) (v := ?_) (a' := ?_) #[Y,Y,Y,Y,Y,Z,Y,Y,Y,Z,Z,Z,Z,Z,Z,Z,Z,Z,Z,Z] rfl rfl (any_of HT_.out (by kernel_rfl)) (fun _ _ _ h => h) (Or.inl ⟨by rfl, ?_⟩) ?_ ?_
      rotate_left
      ·intro w'
       go_simp
       with_reducible rfl
      rotate_left
      ·simp only [Act.put, List.setIfInBounds_toArray, List.set_cons_zero, List.set_cons_succ, i64_w, i32_w]
       rfl
      refine pure_ (i := 9) (N := some 20) (v := ?_) (a' := ?_) #[Y,Y,Y,Y,Y,Z,Y,Y,Y,Y,Z,Z,Z,Z,Z,Z,Z,Z,Z,Z] rfl rfl (any_of HT_.out (by kernel_rfl)) (fun _ _ _ h => h) (Or.inl ⟨by rfl, ?_⟩) ?_ ?_
      rotate_left
      ·intro w'
       go_simp
       with_reducible rfl
      rotate_left
      ·simp only [Act.put, List.setIfInBounds_toArray, List.set_cons_zero, List.set_cons_succ, i64_w, i32_w]
       rfl
      refine pure_ (i := 11) (N := some 22) (v := ?_) (a' := ?_) #[Y,Y,Y,Y,Y,Z,Y,Y,Y,Y,Z,Y,Z,Z,Z,Z,Z,Z,Z,Z] rfl rfl (any_of HT_.out (by kernel_rfl)) (fun _ _ _ h => h) (Or.inl ⟨by rfl, ?_⟩) ?_ ?_
      rotate_left
      ·intro w'
       go_simp
       with_reducible rfl
      rotate_left
      ·simp only [Act.put, List.setIfInBounds_toArray, List.set_cons_zero, List.set_cons_succ, i64_w, i32_w]
       rfl
      refine pure_ (i := 12) (N := some 23) (v := ?_) (a' := ?_) #[Y,Y,Y,Y,Y,Z,Y,Y,Y,Y,Z,Y,Y,Z,Z,Z,Z,Z,Z,Z] rfl rfl (any_of HT_.out (by kernel_rfl)) (fun _ _ _ h => h) (Or.inl ⟨by rfl, ?_⟩) ?_ ?_
      rotate_left
      ·intro w'
       go_simp
       with_reducible rfl
      rotate_left
      ·simp only [Act.put, List.setIfInBounds_toArray, List.set_cons_zero, List.set_cons_succ, i64_w, i32_w]
       rfl
      refine pure_ (i := 13) (N := some 24) (v := ?_) (a' := ?_) #[Y,Y,Y,Y,Y,Z,Y,Y,Y,Y,Z,Y,Y,Y,Z,Z,Z,Z,Z,Z] rfl rfl (any_of HT_.out (by kernel_rfl)) (fun _ _ _ h => h) (Or.inl ⟨by rfl, ?_⟩) ?_ ?_
      rotate_left
      ·intro w'
       go_simp
       with_reducible rfl
      rotate_left
      ·simp only [Act.put, List.setIfInBounds_toArray, List.set_cons_zero, List.set_cons_succ, i64_w, i32_w]
       rfl
      refine pure_ (i := 14) (N := some 25) (v := ?_) (a' := ?_) #[Y,Y,Y,Y,Y,Z,Y,Y,Y,Y,Z,Y,Y,Y,Y,Z,Z,Z,Z,Z] rfl rfl (any_of HT_.out (by kernel_rfl)) (fun _ _ _ h => h) (Or.inl ⟨by rfl, ?_⟩) ?_ ?_
      rotate_left
      ·intro w'
       go_simp
       with_reducible rfl
      rotate_left
      ·simp only [Act.put, List.setIfInBounds_toArray, List.set_cons_zero, List.set_cons_succ, i64_w, i32_w]
       rfl
      refine take_ (i := 5) (N := some 16) (v := ?_) (a' := ?_) #[Y,Y,Y,Y,Y,Y,Y,Y,Y,Y,Z,Y,Y,Y,Y,Z,Z,Z,Z,Z] rfl rfl (take_ofW HT_.out HW_.out (by kernel_rfl)) (fun _ _ _ h => h) (Or.inl ⟨by rfl, ?_⟩) hHeld ?_ ?_
      rotate_left
      ·rintro w' ⟨s0, s1, s2, s3, s4, s5, s6, s7, s8⟩
       go_simp
       with_reducible rfl
      rotate_left
      ·simp only [Act.put, List.setIfInBounds_toArray, List.set_cons_zero, List.set_cons_succ, i64_w, i32_w]
       rfl
      refine take_ (i := 10) (N := some 21) (v := ?_) (a' := ?_) #[Y,Y,Y,Y,Y,Y,Y,Y,Y,Y,Y,Y,Y,Y,Y,Z,Z,Z,Z,Z] rfl rfl (take_ofW HT_.out HW_.out (by kernel_rfl)) (fun _ _ _ h => h) (Or.inl ⟨by rfl, ?_⟩) hHeld ?_ ?_
      rotate_left
      ·rintro w' ⟨s0, s1, s2, s3, s4, s5, s6, s7, s8⟩
       go_simp
       with_reducible rfl
      rotate_left
      ·simp only [Act.put, List.setIfInBounds_toArray, List.set_cons_zero, List.set_cons_succ, i64_w, i32_w]
       rfl
      refine take_ (i := 15) (N := some 26) (v := ?_) (a' := ?_) #[Y,Y,Y,Y,Y,Y,Y,Y,Y,Y,Y,Y,Y,Y,Y,Y,Z,Z,Z,Z] rfl rfl (take_ofW HT_.out HW_.out (by kernel_rfl)) (fun _ _ _ h => h) (Or.inl ⟨by rfl, ?_⟩) hHeld ?_ ?_
      rotate_left
      ·rintro w' ⟨s0, s1, s2, s3, s4, s5, s6, s7, s8⟩
       go_simp
       with_reducible rfl
      rotate_left
      ·simp only [Act.put, List.setIfInBounds_toArray, List.set_cons_zero, List.set_cons_succ, i64_w, i32_w]
       rfl
      refine pure_ (i := 16) (N := some 27) (v := ?_) (a' := ?_) #[Y,Y,Y,Y,Y,Y,Y,Y,Y,Y,Y,Y,Y,Y,Y,Y,Y,Z,Z,Z] rfl rfl (any_of HT_.out (by kernel_rfl)) (fun _ _ _ h => h) (Or.inl ⟨by rfl, ?_⟩) ?_ ?_
      rotate_left
      ·intro w'
       go_simp
       with_reducible rfl
      rotate_left
      ·simp only [Act.put, List.setIfInBounds_toArray, List.set_cons_zero, List.set_cons_succ, i64_w, i32_w]
       rfl
      refine last_ (i := 17) (N := some 28) #[Y,Y,Y,Y,Y,Y,Y,Y,Y,Y,Y,Y,Y,Y,Y,Y,Y,Y,Z,Z] rfl rfl (one_of HT_.out (by kernel_rfl)) (by decide) (fun K hK => ?_)
      refine value_ (w1 := ?_) (v := ?_) (by rfl) rfl ?_ ?_
      rotate_left 2
      ·go_simp
       constructor
       ·rfl
       ·rfl
      refine hK.out _ _ ?_
      clear hK K
      refine norm_ (a' := ?_) ?_ ?_
      rotate_left
      ·show Act.put _ (some 28) _ = _
       simp only [Act.put, List.setIfInBounds_toArray, List.set_cons_zero, List.set_cons_succ, i64_w, i32_w]
       rfl
      refine last_ (i := 18) (N := some 29) #[Y,Y,Y,Y,Y,Y,Y,Y,Y,Y,Y,Y,Y,Y,Y,Y,Y,Y,Y,Z] rfl rfl (one_of HT_.out (by kernel_rfl)) (by decide) (fun K hK => ?_)
      refine Kd.N_append_step k45 (w0 := w) w.heap.size (by rfl) (.tmp 11) (.tmp 28) 28 45 (.agg #[(.string ⟨#[]⟩), (.int .i64 0), (.slice none 0 0)]) 48 rfl Tryd.underlying28 info45 rfl (by decide) (by omega) u3 x3_1 (⟨(rd_T43 l0 x4_1).f0, (rd_T43 l0 x4_1).f1, (rd_T43 l0 x4_1).f2⟩ : S45) [.string ((rd_T43 l0 x4_1).f0), .int .i64 ((rd_T43 l0 x4_1).f1), .slice A307_2 ((rd_T43 l0 x4_1).f2).length c307_2] (fun k_ => (P0_ k_ ∨ w.heap.size ≤ k_)) (fun k_ => ((fun k_ => (P0_ k_ ∨ w.heap.size ≤ k_))) k_ ∧ some k_ ≠ (u3 : Value).ownBlock) rfl rfl ?aP (fun _ hk => hk) ?aF ?aO ?aB ?aS ?aL ?_
      (case aP => exact (k45_mkF _ _ (⟨(rd_T43 l0 x4_1).f0, (rd_T43 l0 x4_1).f1, (rd_T43 l0 x4_1).f2⟩ : S45) (Kd.V_reads' (Kd.V_mono (ok' := (fun k_ => ((fun k_ => (P0_ k_ ∨ w.heap.size ≤ k_))) k_ ∧ some k_ ≠ (u3 : Value).ownBlock)) (HL309_2.out) (fun k_ hk => ⟨hk.1, hk.2⟩))).2.1 (Kd.V_F (Kd.V_mono (ok' := (fun k_ => ((fun k_ => (P0_ k_ ∨ w.heap.size ≤ k_))) k_ ∧ some k_ ≠ (u3 : Value).ownBlock)) (HL309_2.out) (fun k_ hk => ⟨hk.1, hk.2⟩)))))
      (case aB => exact belA)
      (case aF => exact (fun k_ hk => (.inr (Nat.le_trans (below_size belA) hk))))
      (case aO => exact (kdN_ HO_3.out))
      (case aS => exact (below_size belA))
      (case aL => have := LMc4.out; omega)
      intro v311 w6 ho hb hg hat
      rw [← Ny310.out] at ho
      have n0_ := Aside0.mk (Kd.V_afterv (ok := (fun k_ => (P0_ k_ ∨ w.heap.size ≤ k_))) (by (with_reducible repeat (first | apply Kd.V_alloc | apply Kd.V_drewN | apply Kd.V_drew)); exact HO_0.out) hg hat)
      have n1_ := Aside0.mk (Kd.V_afterv (ok := (fun k_ => (P0_ k_ ∨ w.heap.size ≤ k_))) (by (with_reducible repeat (first | apply Kd.V_alloc | apply Kd.V_drewN | apply Kd.V_drew)); exact HL307_2.out) hg hat)
      have n2_ := Aside0.mk (Kd.V_afterv (ok := (fun k_ => (P0_ k_ ∨ w.heap.size ≤ k_))) (by (with_reducible repeat (first | apply Kd.V_alloc | apply Kd.V_drewN | apply Kd.V_drew)); exact HL308_2.out) hg hat)
      have n3_ := Aside0.mk (Kd.V_afterv (ok := (fun k_ => (P0_ k_ ∨ w.heap.size ≤ k_))) (by (with_reducible repeat (first | apply Kd.V_alloc | apply Kd.V_drewN | apply Kd.V_drew)); exact HL309_2.out) hg hat)
      have n4_ := Aside0.mk (hb)
      have n5_ := Aside0.mk (ho)
      clear HO_0
      clear HL307_2
      clear HL308_2
      clear HL309_2
      clear HB
      clear HO_3
      have HO_0 := n0_
      have HL307_2 := n1_
      have HL308_2 := n2_
      have HL309_2 := n3_
      have HB := n4_
      have HO312 := n5_
      clear n0_ n1_ n2_ n3_ n4_ n5_
      clear ho hb hg hat
      refine hK.out _ _ ?_
      clear hK K
      refine norm_ (a' := ?_) ?_ ?_
      rotate_left
      ·show Act.put _ (some 29) _ = _
       simp only [Act.put, List.setIfInBounds_toArray, List.set_cons_zero, List.set_cons_succ, i64_w, i32_w]
       rfl
      refine pure_ (i := 19) (N := some 3) (v := ?_) (a' := ?_) #[Y,Y,Y,Y,Y,Y,Y,Y,Y,Y,Y,Y,Y,Y,Y,Y,Y,Y,Y,Y] rfl rfl (any_of HT_.out (by kernel_rfl)) (fun _ _ _ h => h) (Or.inl ⟨by rfl, ?_⟩) ?_ ?_
      rotate_left
      ·intro w'
       go_simp
       with_reducible rfl
      rotate_left
      ·simp only [Act.put, List.setIfInBounds_toArray, List.set_cons_zero, List.set_cons_succ, i64_w, i32_w]
       rfl
      refine done_ (done_of HT_.out (by kernel_rfl)) ?_
      try go_wp2
      go_roundg k1
      case measure => have := HK1.out; omega
      case rel => exact ⟨(y310), (wrap64 (x4_1 + 1)), (by first | rfl | (simp; done) | (simp [*]; done)), H', ⟨by have := HK1.out; omega⟩, ⟨by (with_reducible repeat (first | apply Kd.V_alloc | apply Kd.V_drewN | apply Kd.V_drew)); exact HO_0.out⟩, ⟨by (with_reducible repeat (first | apply Kd.N_alloc | apply Kd.N_drewN | apply Kd.N_drew)); exact HO312.out⟩, ⟨by repeat (first | (with_reducible first | exact HB.out | apply below_alloc | apply pw_below_drewN | apply below_drew1) | exact HB.out)⟩⟩
     ·rw [if_neg c4] at H
      exact absurd H (by simp)
    ·rw [if_neg c3] at H
     exact absurd H (by simp)
   ·rw [if_neg c2] at H
    have c2b0 : decide (x4_1 < (l0.length : Int)) = false := decide_eq_false c2
    clear c2
    obtain rfl := Option.some.inj H
    go_wp2
    go_ret
    exact ⟨_, by first | rfl | (simp [errW_none, errW_some] <;> rfl) | (simp [*, errW_none, errW_some] <;> rfl), by (with_reducible repeat (first | apply Kd.N_alloc | apply Kd.N_drewN | apply Kd.N_drew)); exact HO_3.out, by repeat (first | (with_reducible first | exact HB.out | apply below_alloc | apply pw_below_drewN | apply below_drew1) | exact HB.out)⟩
-- NOT PRINTED: function 48 (dir_File_48)
-- NOT PRINTED: function 19 (dir_Find)
def rootcellarref7_Find.l0 : Nat → List (S45) → ByteArray → Int → Option (ByteArray × Int × (List (S64)) × Bool)
 | 0, _, _, _ => none
 | k + 1, x0, x1, x6 => if x6 < (x0.length : Int) then (if 0 ≤ x6 then (if ((rd_T45 x0 x6).f0).toList = x1.toList then (some ((rd_T45 x0 x6).f0, (rd_T45 x0 x6).f1, (rd_T45 x0 x6).f2, true)) else (rootcellarref7_Find.l0 k x0 x1 (wrap64 (x6 + 1)))) else (none)) else (some ((⟨#[]⟩ : ByteArray), 0, ([] : List (S64)), false))
def rootcellarref7_Find.f (k : Nat) (l0 : List (S45)) (a1 : ByteArray) : Option (ByteArray × Int × (List (S64)) × Bool) := rootcellarref7_Find.l0 k l0 a1 0
set_option maxHeartbeats 8000000 in
set_option maxRecDepth 100000 in
theorem rootcellarref7_Find.calls (k : Nat) (P0_ : Nat → Prop) (A0 : Option Addr) (c0 : Nat) (l0 : List (S45)) (a1 : ByteArray) (r1 : ByteArray) (r2 : Int) (r3 : List (S64)) (r4 : Bool) (w : World) (hs0 : Kd.V k45 45 w w.heap.size (fun k_ => P0_ k_) (.slice A0 l0.length c0) l0) (h : rootcellarref7_Find.f k l0 a1 = some (r1, r2, r3, r4)) :
  Calls Tryd.prog 20 #[.slice A0 l0.length c0, .string a1] w fun e w' => ∃ v2_ : Value, e = .returned (.tuple #[.agg #[.string r1, .int .i64 r2, v2_], .bool r4]) ∧ Kd.V k64 64 w' w.heap.size (fun k_ => (P0_ k_ ∨ w.heap.size ≤ k_)) v2_ r3 ∧ Below w.heap.size w w' := by
 have hu45 := Tryd.underlying45
 have HO0 := Aside0.mk (show Kd.V k45 45 w w.heap.size (fun k_ => (P0_ k_ ∨ w.heap.size ≤ k_)) (.slice A0 l0.length c0) l0 from Kd.V_mono hs0 (fun k_ hk => .inl hk))
 have HB := Aside0.mk (Below.refl w.heap.size w)
 have H : (rootcellarref7_Find.l0 k l0 a1 0) = some (r1, r2, r3, r4) := h
 clear h
 have H' := Aside0.mk H
 clear H
 go_enter Tryd.func20, Tryd.ntmps20
 go_wp2_with (first | ((with_reducible refine gate_dst (N := 4) rfl ?_); refine box_event ?hg (N := 4) ?hd (cs := #[.string (⟨#[]⟩ : ByteArray), .int .i64 0, .slice none 0 0]) (t := 45) ?hr ?_; (case hd => rfl); (case hg => rfl); (case hr => first | (go_simp; done) | (go_simp; rfl)); intro gb313 hg w3 hbox hb; have n0_ := Aside0.mk (Kd.V_below (Kd.V_elderB (by (with_reducible repeat (first | apply Kd.V_alloc | apply Kd.V_drewN | apply Kd.V_drew)); exact HO0.out) gb313 (Nat.le_of_eq hg.symm)) hb); have n1_ := Aside0.mk (below_step belA hb); have n2_ := Aside0.mk (hbox); have n3_ := Aside0.mk ((by rw [hg]; exact (below_size belA) : w.heap.size ≤ gb313)); have n4_ := Aside0.mk ((by rw [hg]; exact (below_size belA) : w.heap.size ≤ gb313)); clear HO0; clear HB; have HO0 := n0_; have HB := n1_; have BK313 := n2_; have GW313 := n3_; have GE313 := n4_; clear n0_ n1_ n2_ n3_ n4_; clear hb hbox hg))
 go_loopg [6] k (fun kq v6 w' => ∃ (x6_1 : Int) (x314000_1 : ByteArray) (x314001_1 : Int), v6 = .int .i64 x6_1 ∧ Aside0 (rootcellarref7_Find.l0 kq l0 a1 x6_1 = some (r1, r2, r3, r4)) ∧ Aside0 (kq ≤ k) ∧ Aside0 (Kd.V k45 45 w' w.heap.size (fun k_ => (P0_ k_ ∨ w.heap.size ≤ k_) ∧ k_ ≠ gb313) (.slice A0 l0.length c0) l0) ∧ Aside0 (w'.heap[gb313]? = some (.cells #[.string x314000_1, .int .i64 x314001_1, (.slice none 0 0)] 45 (0, 0))) ∧ Aside0 (Below w.heap.size w w'))
 case atStart => exact ⟨(0), ((⟨#[]⟩ : ByteArray)), (0), (by first | rfl | (simp; done) | (simp [*]; done)), H', ⟨Nat.le_refl _⟩, ⟨by (with_reducible repeat (first | apply Kd.V_alloc | apply Kd.V_drewN | apply Kd.V_drew)); exact HO0.out⟩, ⟨by (with_reducible repeat (first | refine blk_drewN ?_ _ | refine blk_drew ?_ | refine blk_alloc ?_ _)); exact BK313.out⟩, ⟨by repeat (first | (with_reducible first | exact HB.out | apply below_alloc | apply pw_below_drewN | apply below_drew1 | refine below_set ?_ GE313.out) | exact HB.out)⟩⟩
 case round =>
  clear H'
  try clear c2
  try clear p2
  obtain ⟨x6_1, x314000_1, x314001_1, rfl, HA, HK1, HO_0, BK313, HB⟩ := hrel
  cases gk with
  | zero => exact absurd HA.out (by simp [rootcellarref7_Find.l0])
  | succ k1 =>
   have H := HA.out
   clear HA
   simp only [rootcellarref7_Find.l0] at H
   by_cases c4 : x6_1 < (l0.length : Int)
   ·rw [if_pos c4] at H
    have c4b0 : decide (x6_1 < (l0.length : Int)) = true := decide_eq_true c4
    clear c4
    by_cases c5 : 0 ≤ x6_1
    ·rw [if_pos c5] at H
     have c5b0 : decide (0 ≤ x6_1) = true := decide_eq_true c5
     clear c5
     by_cases c6 : ((rd_T45 l0 x6_1).f0).toList = a1.toList
     ·rw [if_pos c6] at H
      have c6b0 : (((rd_T45 l0 x6_1).f0).toList == a1.toList) = true := beq_iff_eq.mpr c6
      have c6b1 : (((rd_T45 l0 x6_1).f0).toList != a1.toList) = false := bne_eq_false_iff_eq.mpr c6
      clear c6
      simp only [Option.some.injEq, Prod.mk.injEq] at H
      obtain ⟨rfl, rfl, rfl, rfl⟩ := H
      have p314 : 0 ≤ (x6_1 : Int) := of_decide_eq_true asA
      have q314 : x6_1 < (l0.length : Int) := of_decide_eq_true asA
      obtain ⟨ad314, A314_2, c314_2, e314, hx314_0, hx314_1, hx314_2, hl314_2, hi314_2⟩ := at_T45 (Kd.V_reads' HO_0.out).2.2 x6_1 p314 q314
      cases e314
      obtain ⟨ce314, hce314, hMe314, hcc314⟩ := Kd.V_get HO_0.out z45 x6_1 p314 (by first | exact q314 | exact of_decide_eq_true asA | (have e_ := (Kd.V_reads' HO_0.out).1; omega))
      obtain ⟨ua314_2, uc314_2, rfl, ul314_2, ge314_2⟩ := k45_openF hMe314
      have hv314_2 := hcc314 2 _ rfl
      rw [add_field _ _ 2 (by omega)] at hv314_2
      replace hv314_2 := Option.some.inj (hv314_2.symm.trans hx314_2)
      injection hv314_2 with hva_ hvn_ hvc_
      rw [hva_] at ge314_2
      rw [hvc_] at ul314_2
      have HL314_2 := Aside0.mk (show Kd.V k64 64 _ w.heap.size _ _ ((rd_T45 l0 x6_1).f2) from Kd.V_mk ul314_2 ge314_2)
      clear hva_ hvn_ hvc_ ge314_2 ul314_2
      clear hcc314 hce314
      have HR314_2 := Aside0.mk hi314_2
      have HC314_2 := Aside0.mk hl314_2
      clear hi314_2 hl314_2
      replace p314 := eq_true p314
      replace q314 := eq_true q314
      have p315 : 0 ≤ (x6_1 : Int) := of_decide_eq_true asA
      have q315 : x6_1 < (l0.length : Int) := of_decide_eq_true asA
      obtain ⟨ad315, A315_2, c315_2, e315, hx315_0, hx315_1, hx315_2, hl315_2, hi315_2⟩ := at_T45 (Kd.V_reads' HO_0.out).2.2 x6_1 p315 q315
      obtain rfl : ad314 = ad315 := (by injection e315)
      obtain ⟨ce315, hce315, hMe315, hcc315⟩ := Kd.V_get HO_0.out z45 x6_1 p315 (by first | exact q315 | exact of_decide_eq_true asA | (have e_ := (Kd.V_reads' HO_0.out).1; omega))
      obtain ⟨ua315_2, uc315_2, rfl, ul315_2, ge315_2⟩ := k45_openF hMe315
      have hv315_2 := hcc315 2 _ rfl
      rw [add_field _ _ 2 (by omega)] at hv315_2
      replace hv315_2 := Option.some.inj (hv315_2.symm.trans hx315_2)
      injection hv315_2 with hva_ hvn_ hvc_
      rw [hva_] at ge315_2
      rw [hvc_] at ul315_2
      have HL315_2 := Aside0.mk (show Kd.V k64 64 _ w.heap.size _ _ ((rd_T45 l0 x6_1).f2) from Kd.V_mk ul315_2 ge315_2)
      clear hva_ hvn_ hvc_ ge315_2 ul315_2
      clear hcc315 hce315
      have HR315_2 := Aside0.mk hi315_2
      have HC315_2 := Aside0.mk hl315_2
      clear hi315_2 hl315_2
      replace p315 := eq_true p315
      replace q315 := eq_true q315
      have ea_ := Option.some.inj (hx314_2.symm.trans hx315_2)
      injection ea_ with ea_ en_ ec_
      subst ea_
      subst ec_
      clear en_
      have hcz7_0 : wr.cell? ⟨gb313, 0, none⟩ = some (.string x314000_1) := (blk_cell BK313.out 0).trans rfl
      have hcz7_1 : wr.cell? ⟨gb313, 1, none⟩ = some (.int .i64 x314001_1) := (blk_cell BK313.out 1).trans rfl
      have hcz7_2 : wr.cell? ⟨gb313, 2, none⟩ = some (.slice none 0 0) := (blk_cell BK313.out 2).trans rfl
      have hfz7_0 := blk_frozen BK313.out 0
      have hfz7_1 := blk_frozen BK313.out 1
      have hfz7_2 := blk_frozen BK313.out 2
      go_wp2
      refine bodyPost_ret (results_ct rfl _ _ gb313 45 #[.string ((rd_T45 l0 x6_1).f0), .int .i64 ((rd_T45 l0 x6_1).f1), .slice A314_2 ((rd_T45 l0 x6_1).f2).length c314_2] (0, 0) _ rfl (by (with_reducible repeat (first | refine blk_drewN ?_ _ | refine blk_drew ?_ | refine blk_alloc ?_ _)); refine blk_put (cs := #[.string ((rd_T45 l0 x6_1).f0), .int .i64 ((rd_T45 l0 x6_1).f1), .slice none 0 0]) ?_ 2 _ rfl; (with_reducible repeat (first | refine blk_drewN ?_ _ | refine blk_drew ?_ | refine blk_alloc ?_ _)); refine blk_put (cs := #[.string ((rd_T45 l0 x6_1).f0), .int .i64 x314001_1, .slice none 0 0]) ?_ 1 _ rfl; (with_reducible repeat (first | refine blk_drewN ?_ _ | refine blk_drew ?_ | refine blk_alloc ?_ _)); refine blk_put (cs := #[.string x314000_1, .int .i64 x314001_1, .slice none 0 0]) ?_ 0 _ rfl; (with_reducible repeat (first | refine blk_drewN ?_ _ | refine blk_drew ?_ | refine blk_alloc ?_ _)); exact BK313.out) Tryd.underlying45 rfl (by kernel_rfl)) rfl ?_
      exact ⟨_, by first | rfl | (simp [errW_none, errW_some] <;> rfl) | (simp [*, errW_none, errW_some] <;> rfl), by (with_reducible repeat (first | apply Kd.V_alloc | apply Kd.V_drewN | apply Kd.V_drew)); exact Kd.V_mono (Kd.V_far (p := ⟨gb313, 2, none⟩) (Kd.V_far (p := ⟨gb313, 1, none⟩) (Kd.V_far (p := ⟨gb313, 0, none⟩) (Kd.V_mono HL315_2.out (fun k_ hk => (⟨hk, hk.2⟩ : _ ∧ k_ ≠ gb313))) (fun _ hk => hk.2) (.string ((rd_T45 l0 x6_1).f0))) (fun _ hk => hk.2) (.int .i64 ((rd_T45 l0 x6_1).f1))) (fun _ hk => hk.2) (.slice A314_2 ((rd_T45 l0 x6_1).f2).length c314_2)) (fun _ hk => hk.1.1), by repeat (first | (with_reducible first | exact HB.out | apply below_alloc | apply pw_below_drewN | apply below_drew1 | refine below_set ?_ GE313.out) | exact HB.out)⟩
     ·rw [if_neg c6] at H
      have c6b0 : (((rd_T45 l0 x6_1).f0).toList == a1.toList) = false := beq_eq_false_iff_ne.mpr c6
      have c6b1 : (((rd_T45 l0 x6_1).f0).toList != a1.toList) = true := bne_iff_ne.mpr c6
      have H' := Aside0.mk H
      clear H
      have p314 : 0 ≤ (x6_1 : Int) := of_decide_eq_true asA
      have q314 : x6_1 < (l0.length : Int) := of_decide_eq_true asA
      obtain ⟨ad314, A314_2, c314_2, e314, hx314_0, hx314_1, hx314_2, hl314_2, hi314_2⟩ := at_T45 (Kd.V_reads' HO_0.out).2.2 x6_1 p314 q314
      cases e314
      obtain ⟨ce314, hce314, hMe314, hcc314⟩ := Kd.V_get HO_0.out z45 x6_1 p314 (by first | exact q314 | exact of_decide_eq_true asA | (have e_ := (Kd.V_reads' HO_0.out).1; omega))
      obtain ⟨ua314_2, uc314_2, rfl, ul314_2, ge314_2⟩ := k45_openF hMe314
      have hv314_2 := hcc314 2 _ rfl
      rw [add_field _ _ 2 (by omega)] at hv314_2
      replace hv314_2 := Option.some.inj (hv314_2.symm.trans hx314_2)
      injection hv314_2 with hva_ hvn_ hvc_
      rw [hva_] at ge314_2
      rw [hvc_] at ul314_2
      have HL314_2 := Aside0.mk (show Kd.V k64 64 _ w.heap.size _ _ ((rd_T45 l0 x6_1).f2) from Kd.V_mk ul314_2 ge314_2)
      clear hva_ hvn_ hvc_ ge314_2 ul314_2
      clear hcc314 hce314
      have HR314_2 := Aside0.mk hi314_2
      have HC314_2 := Aside0.mk hl314_2
      clear hi314_2 hl314_2
      replace p314 := eq_true p314
      replace q314 := eq_true q314
      go_wp2
      go_roundg k1
      case measure => have := HK1.out; omega
      case rel => exact ⟨(wrap64 (x6_1 + 1)), (x314000_1), (x314001_1), (by first | rfl | (simp; done) | (simp [*]; done)), H', ⟨by have := HK1.out; omega⟩, ⟨by (with_reducible repeat (first | apply Kd.V_alloc | apply Kd.V_drewN | apply Kd.V_drew)); exact HO_0.out⟩, ⟨by (with_reducible repeat (first | refine blk_drewN ?_ _ | refine blk_drew ?_ | refine blk_alloc ?_ _)); exact BK313.out⟩, ⟨by repeat (first | (with_reducible first | exact HB.out | apply below_alloc | apply pw_below_drewN | apply below_drew1 | refine below_set ?_ GE313.out) | exact HB.out)⟩⟩
    ·rw [if_neg c5] at H
     exact absurd H (by simp)
   ·rw [if_neg c4] at H
    have c4b0 : decide (x6_1 < (l0.length : Int)) = false := decide_eq_false c4
    clear c4
    simp only [Option.some.injEq, Prod.mk.injEq] at H
    obtain ⟨rfl, rfl, rfl, rfl⟩ := H
    have hcz8_0 : wr.cell? ⟨gb313, 0, none⟩ = some (.string x314000_1) := (blk_cell BK313.out 0).trans rfl
    have hcz8_1 : wr.cell? ⟨gb313, 1, none⟩ = some (.int .i64 x314001_1) := (blk_cell BK313.out 1).trans rfl
    have hcz8_2 : wr.cell? ⟨gb313, 2, none⟩ = some (.slice none 0 0) := (blk_cell BK313.out 2).trans rfl
    have hfz8_0 := blk_frozen BK313.out 0
    have hfz8_1 := blk_frozen BK313.out 1
    have hfz8_2 := blk_frozen BK313.out 2
    go_wp2
    refine bodyPost_ret (results_ct rfl _ _ gb313 45 #[.string (⟨#[]⟩ : ByteArray), .int .i64 0, .slice none 0 0] (0, 0) _ rfl (by (with_reducible repeat (first | refine blk_drewN ?_ _ | refine blk_drew ?_ | refine blk_alloc ?_ _)); refine blk_put (cs := #[.string (⟨#[]⟩ : ByteArray), .int .i64 0, .slice none 0 0]) ?_ 2 _ rfl; (with_reducible repeat (first | refine blk_drewN ?_ _ | refine blk_drew ?_ | refine blk_alloc ?_ _)); refine blk_put (cs := #[.string (⟨#[]⟩ : ByteArray), .int .i64 x314001_1, .slice none 0 0]) ?_ 1 _ rfl; (with_reducible repeat (first | refine blk_drewN ?_ _ | refine blk_drew ?_ | refine blk_alloc ?_ _)); refine blk_put (cs := #[.string x314000_1, .int .i64 x314001_1, .slice none 0 0]) ?_ 0 _ rfl; (with_reducible repeat (first | refine blk_drewN ?_ _ | refine blk_drew ?_ | refine blk_alloc ?_ _)); exact BK313.out) Tryd.underlying45 rfl (by kernel_rfl)) rfl ?_
    exact ⟨_, by first | rfl | (simp [errW_none, errW_some] <;> rfl) | (simp [*, errW_none, errW_some] <;> rfl), Kd.V_nil _ _ _ _ _, by repeat (first | (with_reducible first | exact HB.out | apply below_alloc | apply pw_below_drewN | apply below_drew1 | refine below_set ?_ GE313.out) | exact HB.out)⟩
-- NOT PRINTED: function 68 (dir_File_string)
-- NOT PRINTED: function 50 (dir_place)
-- NOT PRINTED: function 51 (dir_File_51)
-- NOT PRINTED: function 70 (dir_File_70)
-- NOT PRINTED: function 101 (dir_File_101)
-- NOT PRINTED: function 86 (dir_File_86)
-- NOT PRINTED: function 71 (dir_File_71)
-- NOT PRINTED: function 52 (dir_File_52)
-- NOT PRINTED: function 21 (dir_With)
end Go.Proofs.YtppbcankhkgpfaaDoor.PDq
namespace Go.Proofs.YtppbcankhkgpfaaDoor.PDq
open Go.RowKit Go.Proofs.YtppbcankhkgpfaaDoorW.PrintWords Go.Proofs.YtppbcankhkgpfaaDoorW.PrintLast Go.Proofs.YtppbcankhkgpfaaDoorW.PrintMore
attribute [local go_sem] max2_int min2_int max_two min_two max_three min_three max_four min_four   -- for this text's walks alone
attribute [local go_sem high] hw_str_leq hw_str_gtr
set_option linter.unusedVariables false
set_option linter.unusedSimpArgs false
def rootcellarref7_Without.l0 : Nat → List (S45) → ByteArray → List (S45) → Int → Option ((List (S45)))
 | 0, _, _, _, _ => none
 | k + 1, x0, x1, x5, x6 => if x6 < (x0.length : Int) then (if 0 ≤ x6 then (if ((rd_T45 x0 x6).f0).toList = x1.toList then (rootcellarref7_Without.l0 k x0 x1 x5 (wrap64 (x6 + 1))) else (if x5.length < 2932031007402 then (rootcellarref7_Without.l0 k x0 x1 (x5 ++ [(⟨(rd_T45 x0 x6).f0, (rd_T45 x0 x6).f1, (rd_T45 x0 x6).f2⟩ : S45)]) (wrap64 (x6 + 1))) else (none))) else (none)) else (some x5)
def rootcellarref7_Without.f (k : Nat) (l0 : List (S45)) (a1 : ByteArray) : Option ((List (S45))) := rootcellarref7_Without.l0 k l0 a1 ([] : List (S45)) 0
set_option maxHeartbeats 8000000 in
set_option maxRecDepth 100000 in
theorem rootcellarref7_Without.calls (k : Nat) (P0_ : Nat → Prop) (A0 : Option Addr) (c0 : Nat) (l0 : List (S45)) (a1 : ByteArray) (r : List (S45)) (w : World) (hs0 : Kd.V k45 45 w w.heap.size (fun k_ => P0_ k_) (.slice A0 l0.length c0) l0) (h : rootcellarref7_Without.f k l0 a1 = some r) :
  Calls Tryd.prog 24 #[.slice A0 l0.length c0, .string a1] w fun e w' => ∃ v0_ : Value, e = .returned (v0_) ∧ Kd.N k45 45 w' w.heap.size (fun k_ => (P0_ k_ ∨ w.heap.size ≤ k_)) v0_ r ∧ Below w.heap.size w w' := by
 have hu45 := Tryd.underlying45
 have HO0 := Aside0.mk (show Kd.V k45 45 w w.heap.size (fun k_ => (P0_ k_ ∨ w.heap.size ≤ k_)) (.slice A0 l0.length c0) l0 from Kd.V_mono hs0 (fun k_ hk => .inl hk))
 have HB := Aside0.mk (Below.refl w.heap.size w)
 have H : (rootcellarref7_Without.l0 k l0 a1 ([] : List (S45)) 0) = some r := h
 clear h
 have H' := Aside0.mk H
 clear H
 go_enter Tryd.func24, Tryd.ntmps24
 go_wp2
 go_loopg [5, 6] k (fun kq v5 v6 w' => ∃ (x5_1 : List (S45)) (x6_1 : Int), v6 = .int .i64 x6_1 ∧ Aside0 (rootcellarref7_Without.l0 kq l0 a1 x5_1 x6_1 = some r) ∧ Aside0 (kq ≤ k) ∧ Aside0 (Kd.V k45 45 w' w.heap.size (fun k_ => (P0_ k_ ∨ w.heap.size ≤ k_) ∧ some k_ ≠ (v5 : Value).ownBlock) (.slice A0 l0.length c0) l0) ∧ Aside0 (Kd.N k45 45 w' w.heap.size (fun k_ => (P0_ k_ ∨ w.heap.size ≤ k_)) v5 x5_1) ∧ Aside0 (Below w.heap.size w w'))
 case atStart => exact ⟨(([] : List (S45))), (0), (by first | rfl | (simp; done) | (simp [*]; done)), H', ⟨Nat.le_refl _⟩, ⟨by (with_reducible repeat (first | apply Kd.V_alloc | apply Kd.V_drewN | apply Kd.V_drew)); exact Kd.V_mono HO0.out (fun _ hk => ⟨hk, (by simp [Value.ownBlock])⟩)⟩, ⟨by first | exact Kd.S_nil _ _ _ _ _ | exact Kd.N_nil _ _ _ _ _ | exact Kd.V_nil _ _ _ _ _ | exact Kd.Q_nil _ _ _ _ _ | exact Kd.R_nil _ _ _ _ _⟩, ⟨by repeat (first | (with_reducible first | exact HB.out | apply below_alloc | apply pw_below_drewN | apply below_drew1) | exact HB.out)⟩⟩
 case round =>
  clear H'
  try clear c2
  try clear p2
  obtain ⟨x5_1, x6_1, rfl, HA, HK1, HO_0, HO_5, HB⟩ := hrel
  cases gk with
  | zero => exact absurd HA.out (by simp [rootcellarref7_Without.l0])
  | succ k1 =>
   have H := HA.out
   clear HA
   simp only [rootcellarref7_Without.l0] at H
   by_cases c3 : x6_1 < (l0.length : Int)
   ·rw [if_pos c3] at H
    have c3b0 : decide (x6_1 < (l0.length : Int)) = true := decide_eq_true c3
    clear c3
    by_cases c4 : 0 ≤ x6_1
    ·rw [if_pos c4] at H
     have c4b0 : decide (0 ≤ x6_1) = true := decide_eq_true c4
     clear c4
     by_cases c5 : ((rd_T45 l0 x6_1).f0).toList = a1.toList
     ·rw [if_pos c5] at H
      have c5b0 : (((rd_T45 l0 x6_1).f0).toList == a1.toList) = true := beq_iff_eq.mpr c5
      have c5b1 : (((rd_T45 l0 x6_1).f0).toList != a1.toList) = false := bne_eq_false_iff_eq.mpr c5
      clear c5
      have H' := Aside0.mk H
      clear H
      have p327 : 0 ≤ (x6_1 : Int) := of_decide_eq_true asA
      have q327 : x6_1 < (l0.length : Int) := of_decide_eq_true asA
      obtain ⟨ad327, A327_2, c327_2, e327, hx327_0, hx327_1, hx327_2, hl327_2, hi327_2⟩ := at_T45 (Kd.V_reads' HO_0.out).2.2 x6_1 p327 q327
      cases e327
      obtain ⟨ce327, hce327, hMe327, hcc327⟩ := Kd.V_get HO_0.out z45 x6_1 p327 (by first | exact q327 | exact of_decide_eq_true asA | (have e_ := (Kd.V_reads' HO_0.out).1; omega))
      obtain ⟨ua327_2, uc327_2, rfl, ul327_2, ge327_2⟩ := k45_openF hMe327
      have hv327_2 := hcc327 2 _ rfl
      rw [add_field _ _ 2 (by omega)] at hv327_2
      replace hv327_2 := Option.some.inj (hv327_2.symm.trans hx327_2)
      injection hv327_2 with hva_ hvn_ hvc_
      rw [hva_] at ge327_2
      rw [hvc_] at ul327_2
      have HL327_2 := Aside0.mk (show Kd.V k64 64 _ w.heap.size _ _ ((rd_T45 l0 x6_1).f2) from Kd.V_mk ul327_2 ge327_2)
      clear hva_ hvn_ hvc_ ge327_2 ul327_2
      clear hcc327 hce327
      have HR327_2 := Aside0.mk hi327_2
      have HC327_2 := Aside0.mk hl327_2
      clear hi327_2 hl327_2
      replace p327 := eq_true p327
      replace q327 := eq_true q327
      go_wp2
      go_roundg k1
      case measure => have := HK1.out; omega
      case rel => exact ⟨(x5_1), (wrap64 (x6_1 + 1)), (by first | rfl | (simp; done) | (simp [*]; done)), H', ⟨by have := HK1.out; omega⟩, ⟨by (with_reducible repeat (first | apply Kd.V_alloc | apply Kd.V_drewN | apply Kd.V_drew)); exact HO_0.out⟩, ⟨by (with_reducible repeat (first | apply Kd.N_alloc | apply Kd.N_drewN | apply Kd.N_drew)); exact HO_5.out⟩, ⟨by repeat (first | (with_reducible first | exact HB.out | apply below_alloc | apply pw_below_drewN | apply below_drew1) | exact HB.out)⟩⟩
     ·rw [if_neg c5] at H
      have c5b0 : (((rd_T45 l0 x6_1).f0).toList == a1.toList) = false := beq_eq_false_iff_ne.mpr c5
      have c5b1 : (((rd_T45 l0 x6_1).f0).toList != a1.toList) = true := bne_iff_ne.mpr c5
      by_cases c6 : x5_1.length < 2932031007402
      ·rw [if_pos c6] at H
       have LMc6 := Aside0.mk c6
       clear c6
       obtain ⟨y329, hy329⟩ : ∃ y_ : List (S45), y_ = (x5_1 ++ [(⟨(rd_T45 l0 x6_1).f0, (rd_T45 l0 x6_1).f1, (rd_T45 l0 x6_1).f2⟩ : S45)]) := ⟨_, rfl⟩
       replace H : (rootcellarref7_Without.l0 k1 l0 a1 y329 (wrap64 (x6_1 + 1))) = some r := by first | (rw [hy329]; with_reducible exact H) | (have H2_ := (Option.bind_some _ _).symm.trans H; rw [hy329]; with_reducible exact H2_) | (have H2_ := (Option.bind_some _ _).symm.trans H; with_reducible exact H2_) | with_reducible exact H | (rw [hy329]; exact H) | exact H
       have Ny329 := Aside0.mk hy329
       clear hy329
       have H' := Aside0.mk H
       clear H
       have p327 : 0 ≤ (x6_1 : Int) := of_decide_eq_true asA
       have q327 : x6_1 < (l0.length : Int) := of_decide_eq_true asA
       obtain ⟨ad327, A327_2, c327_2, e327, hx327_0, hx327_1, hx327_2, hl327_2, hi327_2⟩ := at_T45 (Kd.V_reads' HO_0.out).2.2 x6_1 p327 q327
       cases e327
       obtain ⟨ce327, hce327, hMe327, hcc327⟩ := Kd.V_get HO_0.out z45 x6_1 p327 (by first | exact q327 | exact of_decide_eq_true asA | (have e_ := (Kd.V_reads' HO_0.out).1; omega))
       obtain ⟨ua327_2, uc327_2, rfl, ul327_2, ge327_2⟩ := k45_openF hMe327
       have hv327_2 := hcc327 2 _ rfl
       rw [add_field _ _ 2 (by omega)] at hv327_2
       replace hv327_2 := Option.some.inj (hv327_2.symm.trans hx327_2)
       injection hv327_2 with hva_ hvn_ hvc_
       rw [hva_] at ge327_2
       rw [hvc_] at ul327_2
       have HL327_2 := Aside0.mk (show Kd.V k64 64 _ w.heap.size _ _ ((rd_T45 l0 x6_1).f2) from Kd.V_mk ul327_2 ge327_2)
       clear hva_ hvn_ hvc_ ge327_2 ul327_2
       clear hcc327 hce327
       have HR327_2 := Aside0.mk hi327_2
       have HC327_2 := Aside0.mk hl327_2
       clear hi327_2 hl327_2
       replace p327 := eq_true p327
       replace q327 := eq_true q327
       have p328 : 0 ≤ (x6_1 : Int) := of_decide_eq_true asA
       have q328 : x6_1 < (l0.length : Int) := of_decide_eq_true asA
       obtain ⟨ad328, A328_2, c328_2, e328, hx328_0, hx328_1, hx328_2, hl328_2, hi328_2⟩ := at_T45 (Kd.V_reads' HO_0.out).2.2 x6_1 p328 q328
       obtain rfl : ad327 = ad328 := (by injection e328)
       obtain ⟨ce328, hce328, hMe328, hcc328⟩ := Kd.V_get HO_0.out z45 x6_1 p328 (by first | exact q328 | exact of_decide_eq_true asA | (have e_ := (Kd.V_reads' HO_0.out).1; omega))
       obtain ⟨ua328_2, uc328_2, rfl, ul328_2, ge328_2⟩ := k45_openF hMe328
       have hv328_2 := hcc328 2 _ rfl
       rw [add_field _ _ 2 (by omega)] at hv328_2
       replace hv328_2 := Option.some.inj (hv328_2.symm.trans hx328_2)
       injection hv328_2 with hva_ hvn_ hvc_
       rw [hva_] at ge328_2
       rw [hvc_] at ul328_2
       have HL328_2 := Aside0.mk (show Kd.V k64 64 _ w.heap.size _ _ ((rd_T45 l0 x6_1).f2) from Kd.V_mk ul328_2 ge328_2)
       clear hva_ hvn_ hvc_ ge328_2 ul328_2
       clear hcc328 hce328
       have HR328_2 := Aside0.mk hi328_2
       have HC328_2 := Aside0.mk hl328_2
       clear hi328_2 hl328_2
       replace p328 := eq_true p328
       replace q328 := eq_true q328
       have ea_ := Option.some.inj (hx327_2.symm.trans hx328_2)
       injection ea_ with ea_ en_ ec_
       subst ea_
       subst ec_
       clear en_
       go_wp2_with (first | ((with_reducible refine gate_builtin (b := .append) (xs := #[.tmp 20, .tmp 25]) rfl ?_); at_builtin; refine Kd.N_append k45 (w0 := w) w.heap.size rfl (.tmp 20) (.tmp 25) 28 45 (.agg #[(.string ⟨#[]⟩), (.int .i64 0), (.slice none 0 0)]) 48 rfl Tryd.underlying28 info45 rfl (by decide) (by omega) u5 x5_1 (⟨(rd_T45 l0 x6_1).f0, (rd_T45 l0 x6_1).f1, (rd_T45 l0 x6_1).f2⟩ : S45) [.string ((rd_T45 l0 x6_1).f0), .int .i64 ((rd_T45 l0 x6_1).f1), .slice A327_2 ((rd_T45 l0 x6_1).f2).length c327_2] (fun k_ => (P0_ k_ ∨ w.heap.size ≤ k_)) (fun k_ => ((fun k_ => (P0_ k_ ∨ w.heap.size ≤ k_))) k_ ∧ some k_ ≠ (u5 : Value).ownBlock) rfl rfl ?aP (fun _ hk => hk) ?aF ?aO ?aB ?aS ?aL ?_; (case aP => exact (k45_mkF _ _ (⟨(rd_T45 l0 x6_1).f0, (rd_T45 l0 x6_1).f1, (rd_T45 l0 x6_1).f2⟩ : S45) (Kd.V_reads' (Kd.V_mono (ok' := (fun k_ => ((fun k_ => (P0_ k_ ∨ w.heap.size ≤ k_))) k_ ∧ some k_ ≠ (u5 : Value).ownBlock)) (HL328_2.out) (fun k_ hk => ⟨hk.1, hk.2⟩))).2.1 (Kd.V_F (Kd.V_mono (ok' := (fun k_ => ((fun k_ => (P0_ k_ ∨ w.heap.size ≤ k_))) k_ ∧ some k_ ≠ (u5 : Value).ownBlock)) (HL328_2.out) (fun k_ hk => ⟨hk.1, hk.2⟩))))); (case aB => exact belA); (case aF => exact (fun k_ hk => (.inr (Nat.le_trans (below_size belA) hk)))); (case aO => exact (kdN_ HO_5.out)); (case aS => exact (below_size belA)); (case aL => have := LMc6.out; omega); intro v330 w7 ho hb hg hat; rw [← Ny329.out] at ho; have n0_ := Aside0.mk (Kd.V_afterv (ok := (fun k_ => (P0_ k_ ∨ w.heap.size ≤ k_))) (by (with_reducible repeat (first | apply Kd.V_alloc | apply Kd.V_drewN | apply Kd.V_drew)); exact HO_0.out) hg hat); have n1_ := Aside0.mk (Kd.V_afterv (ok := (fun k_ => (P0_ k_ ∨ w.heap.size ≤ k_))) (by (with_reducible repeat (first | apply Kd.V_alloc | apply Kd.V_drewN | apply Kd.V_drew)); exact HL327_2.out) hg hat); have n2_ := Aside0.mk (Kd.V_afterv (ok := (fun k_ => (P0_ k_ ∨ w.heap.size ≤ k_))) (by (with_reducible repeat (first | apply Kd.V_alloc | apply Kd.V_drewN | apply Kd.V_drew)); exact HL328_2.out) hg hat); have n3_ := Aside0.mk (hb); have n4_ := Aside0.mk (ho); clear HO_0; clear HL327_2; clear HL328_2; clear HB; clear HO_5; have HO_0 := n0_; have HL327_2 := n1_; have HL328_2 := n2_; have HB := n3_; have HO331 := n4_; clear n0_ n1_ n2_ n3_ n4_; clear ho hb hg hat))
       go_roundg k1
       case measure => have := HK1.out; omega
       case rel => exact ⟨(y329), (wrap64 (x6_1 + 1)), (by first | rfl | (simp; done) | (simp [*]; done)), H', ⟨by have := HK1.out; omega⟩, ⟨by (with_reducible repeat (first | apply Kd.V_alloc | apply Kd.V_drewN | apply Kd.V_drew)); exact HO_0.out⟩, ⟨by (with_reducible repeat (first | apply Kd.N_alloc | apply Kd.N_drewN | apply Kd.N_drew)); exact HO331.out⟩, ⟨by repeat (first | (with_reducible first | exact HB.out | apply below_alloc | apply pw_below_drewN | apply below_drew1) | exact HB.out)⟩⟩
      ·rw [if_neg c6] at H
       exact absurd H (by simp)
    ·rw [if_neg c4] at H
     exact absurd H (by simp)
   ·rw [if_neg c3] at H
    have c3b0 : decide (x6_1 < (l0.length : Int)) = false := decide_eq_false c3
    clear c3
    obtain rfl := Option.some.inj H
    go_wp2
    go_ret
    exact ⟨_, by first | rfl | (simp [errW_none, errW_some] <;> rfl) | (simp [*, errW_none, errW_some] <;> rfl), by (with_reducible repeat (first | apply Kd.N_alloc | apply Kd.N_drewN | apply Kd.N_drew)); exact HO_5.out, by repeat (first | (with_reducible first | exact HB.out | apply below_alloc | apply pw_below_drewN | apply below_drew1) | exact HB.out)⟩
end Go.Proofs.YtppbcankhkgpfaaDoor.PDq
namespace Go.Proofs.YtppbcankhkgpfaaDoor.PDq
open Go.RowKit Go.Proofs.YtppbcankhkgpfaaDoorW.PrintWords Go.Proofs.YtppbcankhkgpfaaDoorW.PrintLast Go.Proofs.YtppbcankhkgpfaaDoorW.PrintMore
attribute [local go_sem] max2_int min2_int max_two min_two max_three min_three max_four min_four   -- for this text's walks alone
attribute [local go_sem high] hw_str_leq hw_str_gtr
set_option linter.unusedVariables false
set_option linter.unusedSimpArgs false
-- NOT PRINTED: function 6 (rootcellarlaw7_DirFiles)
end Go.Proofs.YtppbcankhkgpfaaDoor.PDq
