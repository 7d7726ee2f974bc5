-- laid by gprint.py (this session's own program) out of the translation: Lean checks it
import Derived.Test.YtcclaidbikjhiaaGreatDoorPVox0
import Derived.Test.YtcclaidbikjhiaaGreatDoorPVox9
import Derived.Test.YtcclaidbikjhiaaGreatDoorPVox20
--compressed
namespace Go.Proofs.YtcclaidbikjhiaaGreatDoor.PVo
open Go.RowKit Go.Proofs.YtcclaidbikjhiaaGreatDoorW.PrintWords Go.Proofs.YtcclaidbikjhiaaGreatDoorW.PrintLast Go.Proofs.YtcclaidbikjhiaaGreatDoorW.PrintMore
attribute [local go_sem] max2_int min2_int max_two min_two max_three min_three max_four min_four   -- for this text's walks alone
attribute [local go_sem high] hw_str_leq hw_str_gtr
set_option linter.unusedVariables false
set_option linter.unusedSimpArgs false
attribute [local go_sem high] eqA87
mutual
def rootcellarref5_Right.j0 : Nat → List (S87) → List (S87) → Bool → Option (Bool)
 | 0, _, _, _ => none
 | k + 1, x0, x5, x22 => if x22 = true then (some false) else (rootcellarref5_Right.l0 k x0 x5 0)
def rootcellarref5_Right.l0 : Nat → List (S87) → List (S87) → Int → Option (Bool)
 | 0, _, _, _ => none
 | k + 1, x0, x5, x7 => if x7 < (x0.length : Int) then (if 0 ≤ x7 then (if x7 < (x5.length : Int) then (if (!(((rd_T87 x0 x7).f0) == ((rd_T87 x5 x7).f0)) || (!(((rd_T87 x0 x7).f1) == ((rd_T87 x5 x7).f1)))) = true then (some false) else (rootcellarref5_Right.l0 k x0 x5 (wrap64 (x7 + 1)))) else (none)) else (none)) else (some true)
end
def rootcellarref5_Right.f (k : Nat) (l0 : List (S87)) (a1 : Int) : Option (Bool) := (rootcellarref5_Norm.f k l0 a1).bind fun bt195 => (if bt195.2 = 0 then (rootcellarref5_Right.j0 k l0 bt195.1 ((bt195.1.length : Int) != (l0.length : Int))) else (rootcellarref5_Right.j0 k l0 bt195.1 true))
set_option maxHeartbeats 8000000 in
set_option maxRecDepth 100000 in
theorem rootcellarref5_Right.calls (k : Nat) (A0 : Option Addr) (c0 : Nat) (l0 : List (S87)) (a1 : Int) (r : Bool) (w : World) (hr0 : Kd.C k87 w A0 l0.length l0) (hc0 : l0.length ≤ c0) (h : rootcellarref5_Right.f k l0 a1 = some r) :
  Calls Tryz.prog 187 #[.slice A0 l0.length c0, .int .i64 a1] w fun e w' => e = .returned (.bool r) ∧ Below w.heap.size w w' := by
 have hu87 := Tryz.underlying87
 have HR0 := zA hr0
 have HC0 := zA hc0
 clear hr0 hc0
 have HB := zA (Below.refl w.heap.size w)
 have H : ((rootcellarref5_Norm.f k l0 a1).bind fun bt195 => (if bt195.2 = 0 then (rootcellarref5_Right.j0 k l0 bt195.1 ((bt195.1.length : Int) != (l0.length : Int))) else (rootcellarref5_Right.j0 k l0 bt195.1 true))) = some r := h
 clear h
 replace H := Option.bind_eq_some_iff.mp H
 obtain ⟨⟨t195, t196⟩, A30, H⟩ := H
 replace H : (if t196 = 0 then (rootcellarref5_Right.j0 k l0 t195 ((t195.length : Int) != (l0.length : Int))) else (rootcellarref5_Right.j0 k l0 t195 true)) = some r := H
 have A3 := zA A30
 clear A30
 have HC4 := zA H
 clear H
 go_enter Tryz.func187, Tryz.ntmps187
 go_upto_region 2 with (first | (go_at_call 132; (with_reducible refine (rootcellarref5_Norm.calls k _ _ l0 a1 t195 t196 _ ?side1 ?side2 A3.out).mono ?_); (case side1 => repeat (first | exact HR0.out | (with_reducible refine Kd.C_alloc ?_ _) | (with_reducible refine Kd.C_drewN ?_ _) | (with_reducible refine Kd.C_drew ?_))); (case side2 => exact HC0.out); rintro e w5 ⟨v197, rfl, ho0, hb⟩; have n0_ := zA (Kd.R_lower ho0 (below_size belA)); have n1_ := zA (zL belA hb); clear HB; have HO198 := n0_; have HB := n1_; clear n0_ n1_; (try clear hb); (try clear hb2); (try clear hk); (try clear hi); (try clear ho0)))
 repeat (go_quiet (first | (go_at_call 132; (with_reducible refine (rootcellarref5_Norm.calls k _ _ l0 a1 t195 t196 _ ?side1 ?side2 A3.out).mono ?_); (case side1 => repeat (first | exact HR0.out | (with_reducible refine Kd.C_alloc ?_ _) | (with_reducible refine Kd.C_drewN ?_ _) | (with_reducible refine Kd.C_drew ?_))); (case side2 => exact HC0.out); rintro e w5 ⟨v197, rfl, ho0, hb⟩; have n0_ := zA (Kd.R_lower ho0 (below_size belA)); have n1_ := zA (zL belA hb); clear HB; have HO198 := n0_; have HB := n1_; clear n0_ n1_; (try clear hb); (try clear hb2); (try clear hk); (try clear hi); (try clear ho0))); go_upto_region 2 with (first | (go_at_call 132; (with_reducible refine (rootcellarref5_Norm.calls k _ _ l0 a1 t195 t196 _ ?side1 ?side2 A3.out).mono ?_); (case side1 => repeat (first | exact HR0.out | (with_reducible refine Kd.C_alloc ?_ _) | (with_reducible refine Kd.C_drewN ?_ _) | (with_reducible refine Kd.C_drew ?_))); (case side2 => exact HC0.out); rintro e w5 ⟨v197, rfl, ho0, hb⟩; have n0_ := zA (Kd.R_lower ho0 (below_size belA)); have n1_ := zA (zL belA hb); clear HB; have HO198 := n0_; have HB := n1_; clear n0_ n1_; (try clear hb); (try clear hb2); (try clear hk); (try clear hi); (try clear ho0))))
 (try simp only [Act.put, zC, zD, zE])
 go_cut [22] (fun v22 wc => ∃ (kq : Nat) (x22_3 : Bool), v22 = .bool x22_3 ∧ Aside0 (rootcellarref5_Right.j0 kq l0 t195 x22_3 = some r) ∧ Aside0 (kq ≤ k) ∧ Aside0 (Kd.R k87 87 wc w.heap.size (fun _ => True) v197 t195) ∧ Aside0 (Below w.heap.size w wc))
 case first =>
  have H := HC4.out
  clear HC4
  by_cases c6 : t196 = 0
  ·rw [if_pos c6] at H
   have c6b0 : (t196 == 0) = true := beq_iff_eq.mpr c6
   have c6b1 : (t196 != 0) = false := bne_eq_false_iff_eq.mpr c6
   clear c6
   (first | rw [c6b0] | (simp only [i64_w, i32_w]; rw [c6b0]) | skip)
   have H' := zA H
   clear H
   obtain ⟨Ao7, co7, eo7⟩ := Kd.R_slice HO198.out
   subst eo7
   go_wp2
   repeat (go_quiet (fail); try go_wp2)
   go_meet
   case rel => exact ⟨_, (((t195.length : Int) != (l0.length : Int))), (rfB), H', ⟨by first | omega | exact Nat.le_refl _⟩, ⟨by (with_reducible repeat (first | apply Kd.R_alloc | apply Kd.R_drewN | apply Kd.R_drew)); exact HO198.out⟩, ⟨rW0⟩⟩
  ·rw [if_neg c6] at H
   have c6b0 : (t196 == 0) = false := beq_eq_false_iff_ne.mpr c6
   have c6b1 : (t196 != 0) = true := bne_iff_ne.mpr c6
   (first | rw [c6b0] | (simp only [i64_w, i32_w]; rw [c6b0]) | skip)
   have H' := zA H
   clear H
   go_wp2
   repeat (go_quiet (fail); try go_wp2)
   go_meet
   case rel => exact ⟨_, (true), (rfB), H', ⟨by first | omega | exact Nat.le_refl _⟩, ⟨by (with_reducible repeat (first | apply Kd.R_alloc | apply Kd.R_drewN | apply Kd.R_drew)); exact HO198.out⟩, ⟨rW0⟩⟩
 case rest =>
  clear HC4
  try clear c1
  try clear p2
  try clear c6
  try clear c6b0
  try clear c6b1
  obtain ⟨kq, x22_3, rfl, HA, HJ3, HO_5, HB⟩ := hcut
  cases kq with
  | zero => exact absurd HA.out (by simp [rootcellarref5_Right.j0])
  | succ kj3 =>
   have H := HA.out
   clear HA
   simp only [rootcellarref5_Right.j0] at H
   by_cases c8 : x22_3 = true
   ·subst c8
    have H1 : (some false) = some r := by rw [if_pos rfl] at H; exact H
    clear H
    have H := H1
    clear H1
    obtain rfl := Option.some.inj H
    go_wp2
    repeat (go_quiet (fail); try go_wp2)
    go_ret
    exact ⟨rfA, rW0⟩
   ·replace c8 := Bool.eq_false_iff.mpr c8
    subst c8
    have H1 : (rootcellarref5_Right.l0 kj3 l0 t195 0) = some r := by rw [if_neg (show ¬ (false = true) by decide)] at H; exact H
    clear H
    have H := H1
    clear H1
    have H' := zA H
    clear H
    go_wp2
    repeat (go_quiet (fail); try go_wp2)
    go_loopg [7] kj3 (fun kq v7 w' => ∃ (x7_2 : Int), v7 = .int .i64 x7_2 ∧ Aside0 (rootcellarref5_Right.l0 kq l0 t195 x7_2 = some r) ∧ Aside0 (kq ≤ kj3) ∧ Aside0 (Kd.R k87 87 w' w.heap.size (fun _ => True) v197 t195) ∧ Aside0 (Below w.heap.size w w'))
    case atStart => exact ⟨(0), (rfB), H', ⟨Nat.le_refl _⟩, ⟨by (with_reducible repeat (first | apply Kd.R_alloc | apply Kd.R_drewN | apply Kd.R_drew)); exact HO_5.out⟩, ⟨rW0⟩⟩
    case round =>
     clear H'
     try clear c1
     try clear p2
     try clear c6
     try clear c6b0
     try clear c6b1
     try clear c8
     try clear p2
     obtain ⟨x7_2, rfl, HA, HK2, HO_5, HB⟩ := hrel
     cases gk with
     | zero => exact absurd HA.out (by simp [rootcellarref5_Right.l0])
     | succ k2 =>
      have H := HA.out
      clear HA
      simp only [rootcellarref5_Right.l0] at H
      by_cases c9 : x7_2 < (l0.length : Int)
      ·rw [if_pos c9] at H
       have c9b0 : decide (x7_2 < (l0.length : Int)) = true := zH c9
       clear c9
       by_cases c10 : 0 ≤ x7_2
       ·rw [if_pos c10] at H
        have c10b0 : decide (0 ≤ x7_2) = true := zH c10
        clear c10
        by_cases c11 : x7_2 < (t195.length : Int)
        ·rw [if_pos c11] at H
         have c11b0 : decide (x7_2 < (t195.length : Int)) = true := zH c11
         clear c11
         by_cases c12 : (!(((rd_T87 l0 x7_2).f0) == ((rd_T87 t195 x7_2).f0)) || (!(((rd_T87 l0 x7_2).f1) == ((rd_T87 t195 x7_2).f1)))) = true
         ·rw [if_pos c12] at H
          have c12b0 : (!(((rd_T87 l0 x7_2).f0) == ((rd_T87 t195 x7_2).f0)) || (!(((rd_T87 l0 x7_2).f1) == ((rd_T87 t195 x7_2).f1)))) = true := c12
          clear c12
          obtain rfl := Option.some.inj H
          have p199 : 0 ≤ (x7_2 : Int) := zG asA
          have q199 : x7_2 < (l0.length : Int) := zG asA
          obtain ⟨ad199, e199, hx199_0, hx199_1⟩ := at_T87 HR0.out x7_2 p199 q199
          cases e199
          replace hx199_0 := (HB.out.cell (zB w _ hx199_0)).trans hx199_0
          replace hx199_1 := (HB.out.cell (zB w _ hx199_1)).trans hx199_1
          replace p199 := eq_true p199
          replace q199 := eq_true q199
          obtain ⟨Ao13, co13, eo13⟩ := Kd.R_slice HO_5.out
          subst eo13
          have p200 : 0 ≤ (x7_2 : Int) := zG asA
          have q200 : x7_2 < (t195.length : Int) := zG asA
          obtain ⟨ad200, e200, hx200_0, hx200_1⟩ := at_T87 (Kd.R_reads' HO_5.out).2.2 x7_2 p200 q200
          cases e200
          replace p200 := eq_true p200
          replace q200 := eq_true q200
          go_wp2
          repeat (go_quiet (fail); try go_wp2)
          go_ret
          exact ⟨rfA, rW0⟩
         ·rw [if_neg c12] at H
          have c12b0 : (!(((rd_T87 l0 x7_2).f0) == ((rd_T87 t195 x7_2).f0)) || (!(((rd_T87 l0 x7_2).f1) == ((rd_T87 t195 x7_2).f1)))) = false := by simpa using c12
          clear c12
          have H' := zA H
          clear H
          have p199 : 0 ≤ (x7_2 : Int) := zG asA
          have q199 : x7_2 < (l0.length : Int) := zG asA
          obtain ⟨ad199, e199, hx199_0, hx199_1⟩ := at_T87 HR0.out x7_2 p199 q199
          cases e199
          replace hx199_0 := (HB.out.cell (zB w _ hx199_0)).trans hx199_0
          replace hx199_1 := (HB.out.cell (zB w _ hx199_1)).trans hx199_1
          replace p199 := eq_true p199
          replace q199 := eq_true q199
          obtain ⟨Ao14, co14, eo14⟩ := Kd.R_slice HO_5.out
          subst eo14
          have p200 : 0 ≤ (x7_2 : Int) := zG asA
          have q200 : x7_2 < (t195.length : Int) := zG asA
          obtain ⟨ad200, e200, hx200_0, hx200_1⟩ := at_T87 (Kd.R_reads' HO_5.out).2.2 x7_2 p200 q200
          cases e200
          replace p200 := eq_true p200
          replace q200 := eq_true q200
          go_wp2
          repeat (go_quiet (fail); try go_wp2)
          go_roundg k2
          case measure => have := HJ3.out; have := HK2.out; omega
          case rel => exact ⟨(wrap64 (x7_2 + 1)), (rfB), H', ⟨by have := HJ3.out; have := HK2.out; omega⟩, ⟨by (with_reducible repeat (first | apply Kd.R_alloc | apply Kd.R_drewN | apply Kd.R_drew)); exact HO_5.out⟩, ⟨rW0⟩⟩
        ·rw [if_neg c11] at H
         exact absurd H (by simp)
       ·rw [if_neg c10] at H
        exact absurd H (by simp)
      ·rw [if_neg c9] at H
       have c9b0 : decide (x7_2 < (l0.length : Int)) = false := zI c9
       clear c9
       obtain rfl := Option.some.inj H
       go_wp2
       repeat (go_quiet (fail); try go_wp2)
       go_ret
       exact ⟨rfA, rW0⟩
def rootcellarref6_Need.f (a0 : Int) : Option (Int) := if (Int.tmod a0 64) > 0 then (some (wrap64 ((wrap64 (Int.tdiv a0 64)) + 1))) else (some (wrap64 (Int.tdiv a0 64)))
set_option maxHeartbeats 8000000 in
set_option maxRecDepth 100000 in
theorem rootcellarref6_Need.calls (a0 : Int) (r : Int) (w : World) (h : rootcellarref6_Need.f a0 = some r) :
  Calls Tryz.prog 189 #[.int .i64 a0] w fun e w' => e = .returned (.int .i64 r) ∧ Drawn0 w w' := by
 have H : (if (Int.tmod a0 64) > 0 then (some (wrap64 ((wrap64 (Int.tdiv a0 64)) + 1))) else (some (wrap64 (Int.tdiv a0 64)))) = some r := h
 clear h
 by_cases c2 : (Int.tmod a0 64) > 0
 ·rw [if_pos c2] at H
  have c2b0 : decide (0 < (Int.tmod a0 64)) = true := zH c2
  clear c2
  obtain rfl := Option.some.inj H
  go_enter Tryz.func189, Tryz.ntmps189
  go_wp2
  go_ret
  exact ⟨rfB, by repeat (first | exact Drawn0.refl _ | apply Drawn0.step)⟩
 ·rw [if_neg c2] at H
  have c2b0 : decide (0 < (Int.tmod a0 64)) = false := zI c2
  clear c2
  obtain rfl := Option.some.inj H
  go_enter Tryz.func189, Tryz.ntmps189
  go_wp2
  go_ret
  exact ⟨rfB, by repeat (first | exact Drawn0.refl _ | apply Drawn0.step)⟩
end Go.Proofs.YtcclaidbikjhiaaGreatDoor.PVo
