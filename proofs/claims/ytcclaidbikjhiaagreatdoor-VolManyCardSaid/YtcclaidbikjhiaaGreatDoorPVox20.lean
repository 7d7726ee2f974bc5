import Derived.Test.YtcclaidbikjhiaaGreatDoorPVox0
import Derived.Test.YtcclaidbikjhiaaGreatDoorPVox18
--compressed
namespace Go.Proofs.YtcclaidbikjhiaaGreatDoor.PVo
open Go.RowKit Go.Proofs.YtcclaidbikjhiaaGreatDoorW.PrintWords Go.Proofs.YtcclaidbikjhiaaGreatDoorW.PrintLast Go.Proofs.YtcclaidbikjhiaaGreatDoorW.PrintMore
attribute [local go_sem] max2_int min2_int max_two min_two max_three min_three max_four min_four   -- for this text's walks alone
attribute [local go_sem high] hw_str_leq hw_str_gtr
set_option linter.unusedVariables false
set_option linter.unusedSimpArgs false
def rootcellarref5_inside.f (a0_0 : Int) (a0_1 : Int) (a1 : Int) : Option (Bool) := if a0_1 ≥ 1 then (if a0_0 ≥ 0 then (if a0_0 < a1 then (some (decide (a0_1 ≤ (wrap64 (a1 - a0_0))))) else (some false)) else (some false)) else (some false)
set_option maxHeartbeats 8000000 in
set_option maxRecDepth 100000 in
theorem rootcellarref5_inside.calls (a0_0 : Int) (a0_1 : Int) (a1 : Int) (r : Bool) (w : World) (h : rootcellarref5_inside.f a0_0 a0_1 a1 = some r) :
  Calls Tryz.prog 205 #[.agg #[.int .i64 a0_0, .int .i64 a0_1], .int .i64 a1] w fun e w' => e = .returned (.bool r) ∧ Below w.heap.size w w' := by
 have hu87 := Tryz.underlying87
 have HB := zA (Below.refl w.heap.size w)
 have H : (if a0_1 ≥ 1 then (if a0_0 ≥ 0 then (if a0_0 < a1 then (some (decide (a0_1 ≤ (wrap64 (a1 - a0_0))))) else (some false)) else (some false)) else (some false)) = some r := h
 clear h
 by_cases c3 : a0_1 ≥ 1
 ·rw [if_pos c3] at H
  have c3b0 : decide (1 ≤ a0_1) = true := zH c3
  clear c3
  by_cases c4 : a0_0 ≥ 0
  ·rw [if_pos c4] at H
   have c4b0 : decide (0 ≤ a0_0) = true := zH c4
   clear c4
   by_cases c5 : a0_0 < a1
   ·rw [if_pos c5] at H
    have c5b0 : decide (a0_0 < a1) = true := zH c5
    clear c5
    obtain rfl := Option.some.inj H
    go_enter Tryz.func205, Tryz.ntmps205
    go_wp2_with (first | ((with_reducible refine gate_dst (N := 2) rfl ?_); refine box_event ?hg (N := 2) ?hd (cs := #[.int .i64 a0_0, .int .i64 a0_1]) (t := 87) ?hr ?_; (case hd => rfl); (case hg => rfl); (case hr => first | (go_simp; done) | (go_simp; rfl)); intro gb167 hg w6 hbox hb; have n0_ := zA (zL belA hb); have n1_ := zA (hbox); have n2_ := zA ((by rw [hg]; exact (below_size belA) : w.heap.size ≤ gb167)); have n3_ := zA ((by rw [hg]; exact (below_size belA) : w.heap.size ≤ gb167)); clear HB; have HB := n0_; have BK167 := n1_; have GW167 := n2_; have GE167 := n3_; clear n0_ n1_ n2_ n3_; clear hb hbox hg; have hcz7_0 : w6.cell? ⟨gb167, 0, none⟩ = some (.int .i64 a0_0) := (zN BK167.out 0).trans rfl; have hcz7_1 : w6.cell? ⟨gb167, 1, none⟩ = some (.int .i64 a0_1) := (zN BK167.out 1).trans rfl; have hfz7_0 := zM BK167.out 0; have hfz7_1 := zM BK167.out 1))
    go_ret
    exact ⟨rfA, rW1⟩
   ·rw [if_neg c5] at H
    have c5b0 : decide (a0_0 < a1) = false := zI c5
    clear c5
    obtain rfl := Option.some.inj H
    go_enter Tryz.func205, Tryz.ntmps205
    go_wp2_with (first | ((with_reducible refine gate_dst (N := 2) rfl ?_); refine box_event ?hg (N := 2) ?hd (cs := #[.int .i64 a0_0, .int .i64 a0_1]) (t := 87) ?hr ?_; (case hd => rfl); (case hg => rfl); (case hr => first | (go_simp; done) | (go_simp; rfl)); intro gb167 hg w8 hbox hb; have n0_ := zA (zL belA hb); have n1_ := zA (hbox); have n2_ := zA ((by rw [hg]; exact (below_size belA) : w.heap.size ≤ gb167)); have n3_ := zA ((by rw [hg]; exact (below_size belA) : w.heap.size ≤ gb167)); clear HB; have HB := n0_; have BK167 := n1_; have GW167 := n2_; have GE167 := n3_; clear n0_ n1_ n2_ n3_; clear hb hbox hg; have hcz9_0 : w8.cell? ⟨gb167, 0, none⟩ = some (.int .i64 a0_0) := (zN BK167.out 0).trans rfl; have hcz9_1 : w8.cell? ⟨gb167, 1, none⟩ = some (.int .i64 a0_1) := (zN BK167.out 1).trans rfl; have hfz9_0 := zM BK167.out 0; have hfz9_1 := zM BK167.out 1))
    go_ret
    exact ⟨rfA, rW1⟩
  ·rw [if_neg c4] at H
   have c4b0 : decide (0 ≤ a0_0) = false := zI c4
   clear c4
   obtain rfl := Option.some.inj H
   go_enter Tryz.func205, Tryz.ntmps205
   go_wp2_with (first | ((with_reducible refine gate_dst (N := 2) rfl ?_); refine box_event ?hg (N := 2) ?hd (cs := #[.int .i64 a0_0, .int .i64 a0_1]) (t := 87) ?hr ?_; (case hd => rfl); (case hg => rfl); (case hr => first | (go_simp; done) | (go_simp; rfl)); intro gb167 hg w10 hbox hb; have n0_ := zA (zL belA hb); have n1_ := zA (hbox); have n2_ := zA ((by rw [hg]; exact (below_size belA) : w.heap.size ≤ gb167)); have n3_ := zA ((by rw [hg]; exact (below_size belA) : w.heap.size ≤ gb167)); clear HB; have HB := n0_; have BK167 := n1_; have GW167 := n2_; have GE167 := n3_; clear n0_ n1_ n2_ n3_; clear hb hbox hg; have hcz11_0 : w10.cell? ⟨gb167, 0, none⟩ = some (.int .i64 a0_0) := (zN BK167.out 0).trans rfl; have hcz11_1 : w10.cell? ⟨gb167, 1, none⟩ = some (.int .i64 a0_1) := (zN BK167.out 1).trans rfl; have hfz11_0 := zM BK167.out 0; have hfz11_1 := zM BK167.out 1))
   go_ret
   exact ⟨rfA, rW1⟩
 ·rw [if_neg c3] at H
  have c3b0 : decide (1 ≤ a0_1) = false := zI c3
  clear c3
  obtain rfl := Option.some.inj H
  go_enter Tryz.func205, Tryz.ntmps205
  go_wp2_with (first | ((with_reducible refine gate_dst (N := 2) rfl ?_); refine box_event ?hg (N := 2) ?hd (cs := #[.int .i64 a0_0, .int .i64 a0_1]) (t := 87) ?hr ?_; (case hd => rfl); (case hg => rfl); (case hr => first | (go_simp; done) | (go_simp; rfl)); intro gb167 hg w12 hbox hb; have n0_ := zA (zL belA hb); have n1_ := zA (hbox); have n2_ := zA ((by rw [hg]; exact (below_size belA) : w.heap.size ≤ gb167)); have n3_ := zA ((by rw [hg]; exact (below_size belA) : w.heap.size ≤ gb167)); clear HB; have HB := n0_; have BK167 := n1_; have GW167 := n2_; have GE167 := n3_; clear n0_ n1_ n2_ n3_; clear hb hbox hg; have hcz13_0 : w12.cell? ⟨gb167, 0, none⟩ = some (.int .i64 a0_0) := (zN BK167.out 0).trans rfl; have hcz13_1 : w12.cell? ⟨gb167, 1, none⟩ = some (.int .i64 a0_1) := (zN BK167.out 1).trans rfl; have hfz13_0 := zM BK167.out 0; have hfz13_1 := zM BK167.out 1))
  go_ret
  exact ⟨rfA, rW1⟩
mutual
def rootcellarref5_marks.j0 : Nat → List (S87) → Int → Bool → Option (List Bool × Int)
 | 0, _, _, _ => none
 | k + 1, x0, x1, x15 => if x15 = true then (some (([] : List Bool), 11)) else (rootcellarref5_marks.l0 k x0 x1 0)
def rootcellarref5_marks.l0 : Nat → List (S87) → Int → Int → Option (List Bool × Int)
 | 0, _, _, _ => none
 | k + 1, x0, x1, x6 => if x6 < (x0.length : Int) then (if 0 ≤ x6 then ((rootcellarref5_inside.f ((rd_T87 x0 x6).f0) ((rd_T87 x0 x6).f1) x1).bind fun t169 => (if t169 = true then (rootcellarref5_marks.l0 k x0 x1 (wrap64 (x6 + 1))) else (some (([] : List Bool), 11)))) else (none)) else (if 0 ≤ x1 then (if (x1 : Int).toNat ≤ 281474976710656 then (rootcellarref5_marks.l1 k x0 (List.replicate (x1 : Int).toNat false) 0) else (none)) else (none))
def rootcellarref5_marks.l1 : Nat → List (S87) → List Bool → Int → Option (List Bool × Int)
 | 0, _, _, _ => none
 | k + 1, x0, x7, x8 => if x8 < (x0.length : Int) then (if 0 ≤ x8 then (rootcellarref5_marks.l2 k x0 x7 x8 ((rd_T87 x0 x8).f0)) else (none)) else (some (x7, 0))
def rootcellarref5_marks.l2 : Nat → List (S87) → List Bool → Int → Int → Option (List Bool × Int)
 | 0, _, _, _, _ => none
 | k + 1, x0, x7, x8, x9 => if 0 ≤ x8 then (if x8 < (x0.length : Int) then (if x9 < (wrap64 (((rd_T87 x0 x8).f0) + ((rd_T87 x0 x8).f1))) then (if 0 ≤ x9 then (if x9 < (x7.length : Int) then (if rdOf false x7 x9 = true then (some (([] : List Bool), 5)) else (rootcellarref5_marks.l2 k x0 (x7.set (x9 : Int).toNat true) x8 (wrap64 (x9 + 1)))) else (none)) else (none)) else (rootcellarref5_marks.l1 k x0 x7 (wrap64 (x8 + 1)))) else (none)) else (none)
end
def rootcellarref5_marks.f (k : Nat) (l0 : List (S87)) (a1 : Int) : Option (List Bool × Int) := if a1 < 1 then (rootcellarref5_marks.j0 k l0 a1 true) else (rootcellarref5_marks.j0 k l0 a1 (decide (a1 > 8192)))
set_option maxHeartbeats 8000000 in
set_option maxRecDepth 100000 in
theorem rootcellarref5_marks.calls (k : Nat) (A0 : Option Addr) (c0 : Nat) (l0 : List (S87)) (a1 : Int) (r1 : List Bool) (r2 : Int) (w : World) (hr0 : Kd.C k87 w A0 l0.length l0) (hc0 : l0.length ≤ c0) (h : rootcellarref5_marks.f k l0 a1 = some (r1, r2)) :
  Calls Tryz.prog 171 #[.slice A0 l0.length c0, .int .i64 a1] w fun e w' => ∃ v0_ : Value, e = .returned (.tuple #[v0_, .int .i64 r2]) ∧ Kd.R Kd.bool 4 w' w.heap.size (fun _ => True) v0_ r1 ∧ Below w.heap.size w w' := by
 have hu87 := Tryz.underlying87
 have HR0 := zA hr0
 have HC0 := zA hc0
 clear hr0 hc0
 have HB := zA (Below.refl w.heap.size w)
 have H : (if a1 < 1 then (rootcellarref5_marks.j0 k l0 a1 true) else (rootcellarref5_marks.j0 k l0 a1 (decide (a1 > 8192)))) = some (r1, r2) := h
 clear h
 have HC3 := zA H
 clear H
 go_enter Tryz.func171, Tryz.ntmps171
 go_upto_region 1 with (fail)
 repeat (go_quiet (fail); go_upto_region 1 with (fail))
 go_cut [15] (fun v15 wc => ∃ (kq : Nat) (x15_2 : Bool), v15 = .bool x15_2 ∧ Aside0 (rootcellarref5_marks.j0 kq l0 a1 x15_2 = some (r1, r2)) ∧ Aside0 (kq ≤ k) ∧ Aside0 (Below w.heap.size w wc))
 case first =>
  have H := HC3.out
  clear HC3
  by_cases c4 : a1 < 1
  ·rw [if_pos c4] at H
   have c4b0 : decide (a1 < 1) = true := zH c4
   clear c4
   (first | rw [c4b0] | (simp only [i64_w, i32_w]; rw [c4b0]) | skip)
   have H' := zA H
   clear H
   go_wp2
   repeat (go_quiet (fail); try go_wp2)
   go_meet
   case rel => exact ⟨_, (true), (rfB), H', ⟨by first | omega | exact Nat.le_refl _⟩, ⟨rW0⟩⟩
  ·rw [if_neg c4] at H
   have c4b0 : decide (a1 < 1) = false := zI c4
   clear c4
   (first | rw [c4b0] | (simp only [i64_w, i32_w]; rw [c4b0]) | skip)
   have H' := zA H
   clear H
   go_wp2
   repeat (go_quiet (fail); try go_wp2)
   go_meet
   case rel => exact ⟨_, (decide (a1 > 8192)), (rfB), H', ⟨by first | omega | exact Nat.le_refl _⟩, ⟨rW0⟩⟩
 case rest =>
  clear HC3
  try clear c1
  try clear p2
  try clear c4
  try clear c4b0
  obtain ⟨kq, x15_2, rfl, HA, HJ2, HB⟩ := hcut
  cases kq with
  | zero => exact absurd HA.out (by simp [rootcellarref5_marks.j0])
  | succ kj2 =>
   have H := HA.out
   clear HA
   simp only [rootcellarref5_marks.j0] at H
   by_cases c5 : x15_2 = true
   ·subst c5
    have H1 : (some (([] : List Bool), 11)) = some (r1, r2) := by rw [if_pos rfl] at H; exact H
    clear H
    have H := H1
    clear H1
    simp only [Option.some.injEq, Prod.mk.injEq] at H
    obtain ⟨rfl, rfl⟩ := H
    go_wp2
    repeat (go_quiet (fail); try go_wp2)
    go_ret2
    exact ⟨_, rfA, by first | exact Kd.R_nil _ _ _ _ _ | exact Kd.N_nil _ _ _ _ _ | exact Kd.V_nil _ _ _ _ _ | exact Kd.Q_nil _ _ _ _ _ | exact Kd.S_nil _ _ _ _ _, rW0⟩
   ·replace c5 := Bool.eq_false_iff.mpr c5
    subst c5
    have H1 : (rootcellarref5_marks.l0 kj2 l0 a1 0) = some (r1, r2) := by rw [if_neg (show ¬ (false = true) by decide)] at H; exact H
    clear H
    have H := H1
    clear H1
    have H' := zA H
    clear H
    go_wp2
    repeat (go_quiet (fail); try go_wp2)
    go_loopg [6] kj2 (fun kq v6 w' => ∃ (x6_2 : Int), v6 = .int .i64 x6_2 ∧ Aside0 (rootcellarref5_marks.l0 kq l0 a1 x6_2 = some (r1, r2)) ∧ Aside0 (kq ≤ kj2) ∧ Aside0 (Below w.heap.size w w'))
    case atStart => exact ⟨(0), (rfB), H', ⟨Nat.le_refl _⟩, ⟨rW0⟩⟩
    case round =>
     clear H'
     try clear c1
     try clear p2
     try clear c4
     try clear c4b0
     try clear c5
     try clear p2
     obtain ⟨x6_2, rfl, HA, HK2, HB⟩ := hrel
     cases gk with
     | zero => exact absurd HA.out (by simp [rootcellarref5_marks.l0])
     | succ k2 =>
      have H := HA.out
      clear HA
      simp only [rootcellarref5_marks.l0] at H
      by_cases c6 : x6_2 < (l0.length : Int)
      ·rw [if_pos c6] at H
       have c6b0 : decide (x6_2 < (l0.length : Int)) = true := zH c6
       clear c6
       by_cases c7 : 0 ≤ x6_2
       ·rw [if_pos c7] at H
        have c7b0 : decide (0 ≤ x6_2) = true := zH c7
        clear c7
        replace H := Option.bind_eq_some_iff.mp H
        obtain ⟨t169, A80, H⟩ := H
        replace H : (if t169 = true then (rootcellarref5_marks.l0 k2 l0 a1 (wrap64 (x6_2 + 1))) else (some (([] : List Bool), 11))) = some (r1, r2) := H
        have A8 := zA A80
        clear A80
        by_cases c9 : t169 = true
        ·subst c9
         have H1 : (rootcellarref5_marks.l0 k2 l0 a1 (wrap64 (x6_2 + 1))) = some (r1, r2) := by rw [if_pos rfl] at H; exact H
         clear H
         have H := H1
         clear H1
         have H' := zA H
         clear H
         have p168 : 0 ≤ (x6_2 : Int) := zG asA
         have q168 : x6_2 < (l0.length : Int) := zG asA
         obtain ⟨ad168, e168, hx168_0, hx168_1⟩ := at_T87 HR0.out x6_2 p168 q168
         cases e168
         replace hx168_0 := (HB.out.cell (zB w _ hx168_0)).trans hx168_0
         replace hx168_1 := (HB.out.cell (zB w _ hx168_1)).trans hx168_1
         replace p168 := eq_true p168
         replace q168 := eq_true q168
         go_wp2_with (first | (go_at_call 205; (with_reducible refine (rootcellarref5_inside.calls ((rd_T87 l0 x6_2).f0) ((rd_T87 l0 x6_2).f1) a1 true _ A8.out).mono ?_); rintro e w10 ⟨rfl, hb⟩; have n0_ := zA (zL belA hb); clear HB; have HB := n0_; clear n0_; (try clear hb); (try clear hb2); (try clear hk); (try clear hi)))
         repeat (go_quiet (first | (go_at_call 205; (with_reducible refine (rootcellarref5_inside.calls ((rd_T87 l0 x6_2).f0) ((rd_T87 l0 x6_2).f1) a1 true _ A8.out).mono ?_); rintro e w10 ⟨rfl, hb⟩; have n0_ := zA (zL belA hb); clear HB; have HB := n0_; clear n0_; (try clear hb); (try clear hb2); (try clear hk); (try clear hi))); try go_wp2_with (first | (go_at_call 205; (with_reducible refine (rootcellarref5_inside.calls ((rd_T87 l0 x6_2).f0) ((rd_T87 l0 x6_2).f1) a1 true _ A8.out).mono ?_); rintro e w10 ⟨rfl, hb⟩; have n0_ := zA (zL belA hb); clear HB; have HB := n0_; clear n0_; (try clear hb); (try clear hb2); (try clear hk); (try clear hi))))
         go_roundg k2
         case measure => have := HJ2.out; have := HK2.out; omega
         case rel => exact ⟨(wrap64 (x6_2 + 1)), (rfB), H', ⟨by have := HJ2.out; have := HK2.out; omega⟩, ⟨rW0⟩⟩
        ·replace c9 := Bool.eq_false_iff.mpr c9
         subst c9
         have H1 : (some (([] : List Bool), 11)) = some (r1, r2) := by rw [if_neg (show ¬ (false = true) by decide)] at H; exact H
         clear H
         have H := H1
         clear H1
         simp only [Option.some.injEq, Prod.mk.injEq] at H
         obtain ⟨rfl, rfl⟩ := H
         have p168 : 0 ≤ (x6_2 : Int) := zG asA
         have q168 : x6_2 < (l0.length : Int) := zG asA
         obtain ⟨ad168, e168, hx168_0, hx168_1⟩ := at_T87 HR0.out x6_2 p168 q168
         cases e168
         replace hx168_0 := (HB.out.cell (zB w _ hx168_0)).trans hx168_0
         replace hx168_1 := (HB.out.cell (zB w _ hx168_1)).trans hx168_1
         replace p168 := eq_true p168
         replace q168 := eq_true q168
         go_wp2_with (first | (go_at_call 205; (with_reducible refine (rootcellarref5_inside.calls ((rd_T87 l0 x6_2).f0) ((rd_T87 l0 x6_2).f1) a1 false _ A8.out).mono ?_); rintro e w11 ⟨rfl, hb⟩; have n0_ := zA (zL belA hb); clear HB; have HB := n0_; clear n0_; (try clear hb); (try clear hb2); (try clear hk); (try clear hi)))
         repeat (go_quiet (first | (go_at_call 205; (with_reducible refine (rootcellarref5_inside.calls ((rd_T87 l0 x6_2).f0) ((rd_T87 l0 x6_2).f1) a1 false _ A8.out).mono ?_); rintro e w11 ⟨rfl, hb⟩; have n0_ := zA (zL belA hb); clear HB; have HB := n0_; clear n0_; (try clear hb); (try clear hb2); (try clear hk); (try clear hi))); try go_wp2_with (first | (go_at_call 205; (with_reducible refine (rootcellarref5_inside.calls ((rd_T87 l0 x6_2).f0) ((rd_T87 l0 x6_2).f1) a1 false _ A8.out).mono ?_); rintro e w11 ⟨rfl, hb⟩; have n0_ := zA (zL belA hb); clear HB; have HB := n0_; clear n0_; (try clear hb); (try clear hb2); (try clear hk); (try clear hi))))
         go_ret2
         exact ⟨_, rfA, by first | exact Kd.R_nil _ _ _ _ _ | exact Kd.N_nil _ _ _ _ _ | exact Kd.V_nil _ _ _ _ _ | exact Kd.Q_nil _ _ _ _ _ | exact Kd.S_nil _ _ _ _ _, rW0⟩
       ·rw [if_neg c7] at H
        exact absurd H (by simp)
      ·rw [if_neg c6] at H
       have c6b0 : decide (x6_2 < (l0.length : Int)) = false := zI c6
       clear c6
       by_cases c12 : 0 ≤ a1
       ·rw [if_pos c12] at H
        have c12b0 := eq_true c12
        have c12b1 : decide (0 ≤ a1) = true := zH c12
        clear c12
        by_cases c13 : (a1 : Int).toNat ≤ 281474976710656
        ·rw [if_pos c13] at H
         have c13b0 := eq_true c13
         have c13b1 : decide ((a1 : Int).toNat ≤ 281474976710656) = true := zH c13
         clear c13
         obtain ⟨y170, hy170⟩ : ∃ y_ : List Bool, y_ = (List.replicate (a1 : Int).toNat false) := ⟨_, rfl⟩
         replace H : (rootcellarref5_marks.l1 k2 l0 y170 0) = some (r1, r2) := by first | (rw [hy170]; with_reducible exact H) | (have H2_ := (Option.bind_some _ _).symm.trans H; rw [hy170]; with_reducible exact H2_) | (have H2_ := (Option.bind_some _ _).symm.trans H; with_reducible exact H2_) | with_reducible exact H | (rw [hy170]; exact H) | exact H
         have Ny170 := zA hy170
         clear hy170
         have H' := zA H
         clear H
         go_wp2_with (first | ((with_reducible refine gate_dst (N := 30) rfl ?_); refine Kd.R_make Kd.bool _ 4 rfl (N := 30) rfl 221 _ _ rfl a1 rfl rfl Tryz.underlying221 (.bool false) 1 info4 rfl (by decide) (by omega) false (ok := fun _ => True) (okp := fun _ => True) rfl (fun _ hk => hk) trivial (zG asA) (Nat.le_trans (Nat.mul_le_mul_right _ (zG asA : a1.toNat ≤ 281474976710656)) (by omega)) (Below.refl _ _) (Nat.le_refl _) ?_; intro v171 w14 ho15 hb hg_ hnew_; clear hg_ hnew_; (first | rw [← Ny170.out] at ho15 | (simp only [Int.reduceToNat] at ho15; rw [← Ny170.out] at ho15)); have n0_ := zA (Kd.R_lower ho15 (below_size belA)); have n1_ := zA (zL belA hb); clear HB; have HO172 := n0_; have HB := n1_; clear n0_ n1_; clear hb ho15))
         repeat (go_quiet (first | ((with_reducible refine gate_dst (N := 30) rfl ?_); refine Kd.R_make Kd.bool _ 4 rfl (N := 30) rfl 221 _ _ rfl a1 rfl rfl Tryz.underlying221 (.bool false) 1 info4 rfl (by decide) (by omega) false (ok := fun _ => True) (okp := fun _ => True) rfl (fun _ hk => hk) trivial (zG asA) (Nat.le_trans (Nat.mul_le_mul_right _ (zG asA : a1.toNat ≤ 281474976710656)) (by omega)) (Below.refl _ _) (Nat.le_refl _) ?_; intro v171 w14 ho15 hb hg_ hnew_; clear hg_ hnew_; (first | rw [← Ny170.out] at ho15 | (simp only [Int.reduceToNat] at ho15; rw [← Ny170.out] at ho15)); have n0_ := zA (Kd.R_lower ho15 (below_size belA)); have n1_ := zA (zL belA hb); clear HB; have HO172 := n0_; have HB := n1_; clear n0_ n1_; clear hb ho15)); try go_wp2_with (first | ((with_reducible refine gate_dst (N := 30) rfl ?_); refine Kd.R_make Kd.bool _ 4 rfl (N := 30) rfl 221 _ _ rfl a1 rfl rfl Tryz.underlying221 (.bool false) 1 info4 rfl (by decide) (by omega) false (ok := fun _ => True) (okp := fun _ => True) rfl (fun _ hk => hk) trivial (zG asA) (Nat.le_trans (Nat.mul_le_mul_right _ (zG asA : a1.toNat ≤ 281474976710656)) (by omega)) (Below.refl _ _) (Nat.le_refl _) ?_; intro v171 w14 ho15 hb hg_ hnew_; clear hg_ hnew_; (first | rw [← Ny170.out] at ho15 | (simp only [Int.reduceToNat] at ho15; rw [← Ny170.out] at ho15)); have n0_ := zA (Kd.R_lower ho15 (below_size belA)); have n1_ := zA (zL belA hb); clear HB; have HO172 := n0_; have HB := n1_; clear n0_ n1_; clear hb ho15)))
         go_loopg [8] k2 (fun kq v8 w' => ∃ (x7_3 : List Bool) (x8_3 : Int), v8 = .int .i64 x8_3 ∧ Aside0 (rootcellarref5_marks.l1 kq l0 x7_3 x8_3 = some (r1, r2)) ∧ Aside0 (kq ≤ k2) ∧ Aside0 (Kd.R Kd.bool 4 w' w.heap.size (fun _ => True) v171 x7_3) ∧ Aside0 (Below w.heap.size w w'))
         case atStart => exact ⟨(y170), (0), (rfB), H', ⟨Nat.le_refl _⟩, ⟨by (with_reducible repeat (first | apply Kd.R_alloc | apply Kd.R_drewN | apply Kd.R_drew)); exact HO172.out⟩, ⟨rW0⟩⟩
         case round =>
          clear H'
          try clear c1
          try clear p1
          try clear q1
          try clear hx1
          try clear p2
          try clear c4
          try clear c4b0
          try clear c5
          try clear c6
          try clear c6b0
          try clear p6
          try clear c7
          try clear c7b0
          try clear c9
          try clear c12
          try clear c12b0
          try clear c12b1
          try clear c13
          try clear c13b0
          try clear c13b1
          try clear hx168_0
          try clear hx168_1
          try clear p168
          try clear p2
          try clear q168
          obtain ⟨x7_3, x8_3, rfl, HA, HK3, HO_7, HB⟩ := hrel
          cases gk with
          | zero => exact absurd HA.out (by simp [rootcellarref5_marks.l1])
          | succ k3 =>
           have H := HA.out
           clear HA
           simp only [rootcellarref5_marks.l1] at H
           by_cases c16 : x8_3 < (l0.length : Int)
           ·rw [if_pos c16] at H
            have c16b0 : decide (x8_3 < (l0.length : Int)) = true := zH c16
            clear c16
            by_cases c17 : 0 ≤ x8_3
            ·rw [if_pos c17] at H
             have c17b0 : decide (0 ≤ x8_3) = true := zH c17
             clear c17
             have H' := zA H
             clear H
             have p173 : 0 ≤ (x8_3 : Int) := zG asA
             have q173 : x8_3 < (l0.length : Int) := zG asA
             obtain ⟨ad173, e173, hx173_0, hx173_1⟩ := at_T87 HR0.out x8_3 p173 q173
             cases e173
             replace hx173_0 := (HB.out.cell (zB w _ hx173_0)).trans hx173_0
             replace hx173_1 := (HB.out.cell (zB w _ hx173_1)).trans hx173_1
             replace p173 := eq_true p173
             replace q173 := eq_true q173
             go_wp2
             repeat (go_quiet (fail); try go_wp2)
             go_loopg [9] k3 (fun kq v9 w' => ∃ (x7_4 : List Bool) (x9_4 : Int), v9 = .int .i64 x9_4 ∧ Aside0 (rootcellarref5_marks.l2 kq l0 x7_4 x8_3 x9_4 = some (r1, r2)) ∧ Aside0 (kq ≤ k3) ∧ Aside0 (Kd.R Kd.bool 4 w' w.heap.size (fun _ => True) v171 x7_4) ∧ Aside0 (Below w.heap.size w w'))
             case atStart => exact ⟨(x7_3), ((rd_T87 l0 x8_3).f0), (rfB), H', ⟨Nat.le_refl _⟩, ⟨by (with_reducible repeat (first | apply Kd.R_alloc | apply Kd.R_drewN | apply Kd.R_drew)); exact HO_7.out⟩, ⟨rW0⟩⟩
             case round =>
              clear H'
              try clear c1
              try clear p1
              try clear q1
              try clear hx1
              try clear p2
              try clear c4
              try clear c4b0
              try clear c5
              try clear c6
              try clear c6b0
              try clear p6
              try clear c7
              try clear c7b0
              try clear c9
              try clear c12
              try clear c12b0
              try clear c12b1
              try clear c13
              try clear c13b0
              try clear c13b1
              try clear c16
              try clear c16b0
              try clear p16
              try clear q16
              try clear hx16
              try clear c17
              try clear c17b0
              try clear p17
              try clear q17
              try clear hx17
              try clear hx168_0
              try clear hx168_1
              try clear hx173_0
              try clear hx173_1
              try clear p1
              try clear p168
              try clear p173
              try clear p2
              try clear p6
              try clear q1
              try clear q168
              try clear q173
              obtain ⟨x7_4, x9_4, rfl, HA, HK4, HO_7, HB⟩ := hrel
              cases gk with
              | zero => exact absurd HA.out (by simp [rootcellarref5_marks.l2])
              | succ k4 =>
               have H := HA.out
               clear HA
               simp only [rootcellarref5_marks.l2] at H
               by_cases c18 : 0 ≤ x8_3
               ·rw [if_pos c18] at H
                have c18b0 : decide (0 ≤ x8_3) = true := zH c18
                clear c18
                by_cases c19 : x8_3 < (l0.length : Int)
                ·rw [if_pos c19] at H
                 have c19b0 : decide (x8_3 < (l0.length : Int)) = true := zH c19
                 clear c19
                 by_cases c20 : x9_4 < (wrap64 (((rd_T87 l0 x8_3).f0) + ((rd_T87 l0 x8_3).f1)))
                 ·rw [if_pos c20] at H
                  have c20b0 : decide (x9_4 < (wrap64 (((rd_T87 l0 x8_3).f0) + ((rd_T87 l0 x8_3).f1)))) = true := zH c20
                  clear c20
                  by_cases c21 : 0 ≤ x9_4
                  ·rw [if_pos c21] at H
                   have c21b0 : decide (0 ≤ x9_4) = true := zH c21
                   clear c21
                   by_cases c22 : x9_4 < (x7_4.length : Int)
                   ·rw [if_pos c22] at H
                    have c22b0 : decide (x9_4 < (x7_4.length : Int)) = true := zH c22
                    clear c22
                    obtain ⟨bq23, hbq23⟩ : ∃ b_ : Bool, b_ = (rdOf false x7_4 x9_4) := ⟨_, rfl⟩
                    replace H : (if bq23 = true then (some (([] : List Bool), 5)) else (rootcellarref5_marks.l2 k4 l0 (x7_4.set (x9_4 : Int).toNat true) x8_3 (wrap64 (x9_4 + 1)))) = some (r1, r2) := by rw [← hbq23] at H; exact H
                    have Nbq23 := zA hbq23
                    clear hbq23
                    by_cases c24 : bq23 = true
                    ·subst c24
                     have H1 : (some (([] : List Bool), 5)) = some (r1, r2) := by rw [if_pos rfl] at H; exact H
                     clear H
                     have H := H1
                     clear H1
                     simp only [Option.some.injEq, Prod.mk.injEq] at H
                     obtain ⟨rfl, rfl⟩ := H
                     have p174 : 0 ≤ (x8_3 : Int) := zG asA
                     have q174 : x8_3 < (l0.length : Int) := zG asA
                     obtain ⟨ad174, e174, hx174_0, hx174_1⟩ := at_T87 HR0.out x8_3 p174 q174
                     obtain rfl : ad173 = ad174 := (by injection e174)
                     replace hx174_0 := (HB.out.cell (zB w _ hx174_0)).trans hx174_0
                     replace hx174_1 := (HB.out.cell (zB w _ hx174_1)).trans hx174_1
                     replace p174 := eq_true p174
                     replace q174 := eq_true q174
                     have p175 : 0 ≤ (x8_3 : Int) := zG asA
                     have q175 : x8_3 < (l0.length : Int) := zG asA
                     obtain ⟨ad175, e175, hx175_0, hx175_1⟩ := at_T87 HR0.out x8_3 p175 q175
                     obtain rfl : ad173 = ad175 := (by injection e175)
                     replace hx175_0 := (HB.out.cell (zB w _ hx175_0)).trans hx175_0
                     replace hx175_1 := (HB.out.cell (zB w _ hx175_1)).trans hx175_1
                     replace p175 := eq_true p175
                     replace q175 := eq_true q175
                     obtain ⟨Ao25, co25, eo25⟩ := Kd.R_slice HO_7.out
                     subst eo25
                     have p176 : 0 ≤ (x9_4 : Int) := zG asA
                     have q176 : x9_4 < (x7_4.length : Int) := zG asA
                     obtain ⟨ad176, e176, hx176_0⟩ := Kd.at_bool (Kd.R_reads' HO_7.out).2.2 x9_4 p176 q176
                     (try rw [← Nbq23.out] at hx176_0)
                     cases e176
                     replace p176 := eq_true p176
                     replace q176 := eq_true q176
                     go_wp2
                     repeat (go_quiet (fail); try go_wp2)
                     go_ret2
                     exact ⟨_, rfA, by first | exact Kd.R_nil _ _ _ _ _ | exact Kd.N_nil _ _ _ _ _ | exact Kd.V_nil _ _ _ _ _ | exact Kd.Q_nil _ _ _ _ _ | exact Kd.S_nil _ _ _ _ _, rW0⟩
                    ·replace c24 := Bool.eq_false_iff.mpr c24
                     subst c24
                     have H1 : (rootcellarref5_marks.l2 k4 l0 (x7_4.set (x9_4 : Int).toNat true) x8_3 (wrap64 (x9_4 + 1))) = some (r1, r2) := by rw [if_neg (show ¬ (false = true) by decide)] at H; exact H
                     clear H
                     have H := H1
                     clear H1
                     obtain ⟨y177, hy177⟩ : ∃ y_ : List Bool, y_ = (x7_4.set (x9_4 : Int).toNat true) := ⟨_, rfl⟩
                     replace H : (rootcellarref5_marks.l2 k4 l0 y177 x8_3 (wrap64 (x9_4 + 1))) = some (r1, r2) := by first | (rw [hy177]; with_reducible exact H) | (have H2_ := (Option.bind_some _ _).symm.trans H; rw [hy177]; with_reducible exact H2_) | (have H2_ := (Option.bind_some _ _).symm.trans H; with_reducible exact H2_) | with_reducible exact H | (rw [hy177]; exact H) | exact H
                     have Ny177 := zA hy177
                     clear hy177
                     have H' := zA H
                     clear H
                     have p174 : 0 ≤ (x8_3 : Int) := zG asA
                     have q174 : x8_3 < (l0.length : Int) := zG asA
                     obtain ⟨ad174, e174, hx174_0, hx174_1⟩ := at_T87 HR0.out x8_3 p174 q174
                     obtain rfl : ad173 = ad174 := (by injection e174)
                     replace hx174_0 := (HB.out.cell (zB w _ hx174_0)).trans hx174_0
                     replace hx174_1 := (HB.out.cell (zB w _ hx174_1)).trans hx174_1
                     replace p174 := eq_true p174
                     replace q174 := eq_true q174
                     have p175 : 0 ≤ (x8_3 : Int) := zG asA
                     have q175 : x8_3 < (l0.length : Int) := zG asA
                     obtain ⟨ad175, e175, hx175_0, hx175_1⟩ := at_T87 HR0.out x8_3 p175 q175
                     obtain rfl : ad173 = ad175 := (by injection e175)
                     replace hx175_0 := (HB.out.cell (zB w _ hx175_0)).trans hx175_0
                     replace hx175_1 := (HB.out.cell (zB w _ hx175_1)).trans hx175_1
                     replace p175 := eq_true p175
                     replace q175 := eq_true q175
                     obtain ⟨Ao27, co27, eo27⟩ := Kd.R_slice HO_7.out
                     subst eo27
                     have p176 : 0 ≤ (x9_4 : Int) := zG asA
                     have q176 : x9_4 < (x7_4.length : Int) := zG asA
                     obtain ⟨ad176, e176, hx176_0⟩ := Kd.at_bool (Kd.R_reads' HO_7.out).2.2 x9_4 p176 q176
                     (try rw [← Nbq23.out] at hx176_0)
                     cases e176
                     replace p176 := eq_true p176
                     replace q176 := eq_true q176
                     have p26 : 0 ≤ (x9_4 : Int) := zG asA
                     have q26 : (x9_4 : Int) < ((x7_4.length : Int) : Int) := zG asA
                     obtain ⟨go26, co26, eo26, gb26, gl26, cl26, HG26⟩ := Kd.R_form HO_7.out (by omega)
                     (first | cases eo26 | (injection eo26 with ea_ en_ ec_; (first | subst ea_ | (injection ea_ with ea_; subst ea_)); subst ec_; clear en_))
                     have GB26 := zA gb26
                     have GG26 := zA HG26
                     clear gb26 gl26 HG26
                     (first | simp only [add_plain] at hx176_0 | skip)
                     obtain ⟨hx26_0, hf26_0⟩ := Kd.R_celln false HO_7.out (x9_4 : Int) p26 q26
                     replace p26 := eq_true p26
                     replace q26 := eq_true q26
                     have HP28 := Kd.R_putg HO_7.out (x9_4 : Int) true
                     go_wp2_with (first | ((with_reducible refine gate_store (t := 4) (p := 63) rfl ?_); (try (rw [drewN_self wr]; generalize hq_ : World.drewN wr _ = wr; have n0_ := zA (Kd.R_at hq_ HO_7.out); have n1_ := zA (below_at hq_ HB.out); clear hq_ HO_7 HB; have HO_7 := n0_; have HB := n1_; clear n0_ n1_; (try (have HP28 := Kd.R_putg HO_7.out (x9_4 : Int) true)); (try (obtain ⟨hx26_0, hf26_0⟩ := Kd.R_celln false HO_7.out (x9_4 : Int) (of_eq_true p26) (of_eq_true q26))))); refine store_event (t := 4) (p := 63) (v := ?vo_w29) (w1 := (wr.setCell ⟨go26, (x9_4 : Int).toNat, none⟩ (.bool true))) ?hg ?ho ?hn ?hr ?_; (case ho => rfl); (case hg => rfl); (case hn => rfl); (case hr => first | (go_simp; done) | (go_simp; rfl)); intro w29 hw; have hg : wr.grownBy w29 (some go26) := (by rw [hw]; exact HP28.2); have hp_ : Kd.R Kd.bool 4 w29 w.heap.size (fun _ => True) (.slice (some ⟨go26, 0, none⟩) x7_4.length co27) y177 := (by rw [hw, Ny177.out]; exact HP28.1); clear HP28; have n0_ := zA (hp_); have n1_ := zA ((by rw [hw]; exact below_set (HB.out) GB26.out : Below w.heap.size w w29)); clear HO_7; clear HB; have HO_7 := n0_; have HB := n1_; clear n0_ n1_; clear hg hw hp_))
                     repeat (go_quiet (first | ((with_reducible refine gate_store (t := 4) (p := 63) rfl ?_); (try (rw [drewN_self wr]; generalize hq_ : World.drewN wr _ = wr; have n0_ := zA (Kd.R_at hq_ HO_7.out); have n1_ := zA (below_at hq_ HB.out); clear hq_ HO_7 HB; have HO_7 := n0_; have HB := n1_; clear n0_ n1_; (try (have HP28 := Kd.R_putg HO_7.out (x9_4 : Int) true)); (try (obtain ⟨hx26_0, hf26_0⟩ := Kd.R_celln false HO_7.out (x9_4 : Int) (of_eq_true p26) (of_eq_true q26))))); refine store_event (t := 4) (p := 63) (v := ?vo_w29) (w1 := (wr.setCell ⟨go26, (x9_4 : Int).toNat, none⟩ (.bool true))) ?hg ?ho ?hn ?hr ?_; (case ho => rfl); (case hg => rfl); (case hn => rfl); (case hr => first | (go_simp; done) | (go_simp; rfl)); intro w29 hw; have hg : wr.grownBy w29 (some go26) := (by rw [hw]; exact HP28.2); have hp_ : Kd.R Kd.bool 4 w29 w.heap.size (fun _ => True) (.slice (some ⟨go26, 0, none⟩) x7_4.length co27) y177 := (by rw [hw, Ny177.out]; exact HP28.1); clear HP28; have n0_ := zA (hp_); have n1_ := zA ((by rw [hw]; exact below_set (HB.out) GB26.out : Below w.heap.size w w29)); clear HO_7; clear HB; have HO_7 := n0_; have HB := n1_; clear n0_ n1_; clear hg hw hp_)); try go_wp2_with (first | ((with_reducible refine gate_store (t := 4) (p := 63) rfl ?_); (try (rw [drewN_self wr]; generalize hq_ : World.drewN wr _ = wr; have n0_ := zA (Kd.R_at hq_ HO_7.out); have n1_ := zA (below_at hq_ HB.out); clear hq_ HO_7 HB; have HO_7 := n0_; have HB := n1_; clear n0_ n1_; (try (have HP28 := Kd.R_putg HO_7.out (x9_4 : Int) true)); (try (obtain ⟨hx26_0, hf26_0⟩ := Kd.R_celln false HO_7.out (x9_4 : Int) (of_eq_true p26) (of_eq_true q26))))); refine store_event (t := 4) (p := 63) (v := ?vo_w29) (w1 := (wr.setCell ⟨go26, (x9_4 : Int).toNat, none⟩ (.bool true))) ?hg ?ho ?hn ?hr ?_; (case ho => rfl); (case hg => rfl); (case hn => rfl); (case hr => first | (go_simp; done) | (go_simp; rfl)); intro w29 hw; have hg : wr.grownBy w29 (some go26) := (by rw [hw]; exact HP28.2); have hp_ : Kd.R Kd.bool 4 w29 w.heap.size (fun _ => True) (.slice (some ⟨go26, 0, none⟩) x7_4.length co27) y177 := (by rw [hw, Ny177.out]; exact HP28.1); clear HP28; have n0_ := zA (hp_); have n1_ := zA ((by rw [hw]; exact below_set (HB.out) GB26.out : Below w.heap.size w w29)); clear HO_7; clear HB; have HO_7 := n0_; have HB := n1_; clear n0_ n1_; clear hg hw hp_)))
                     go_roundg k4
                     case measure => have := HJ2.out; have := HK2.out; have := HK3.out; have := HK4.out; omega
                     case rel => exact ⟨(y177), (wrap64 (x9_4 + 1)), (rfB), H', ⟨by have := HJ2.out; have := HK2.out; have := HK3.out; have := HK4.out; omega⟩, ⟨by (with_reducible repeat (first | apply Kd.R_alloc | apply Kd.R_drewN | apply Kd.R_drew)); exact HO_7.out⟩, ⟨rW0⟩⟩
                   ·rw [if_neg c22] at H
                    exact absurd H (by simp)
                  ·rw [if_neg c21] at H
                   exact absurd H (by simp)
                 ·rw [if_neg c20] at H
                  have c20b0 : decide (x9_4 < (wrap64 (((rd_T87 l0 x8_3).f0) + ((rd_T87 l0 x8_3).f1)))) = false := zI c20
                  clear c20
                  have H' := zA H
                  clear H
                  have p174 : 0 ≤ (x8_3 : Int) := zG asA
                  have q174 : x8_3 < (l0.length : Int) := zG asA
                  obtain ⟨ad174, e174, hx174_0, hx174_1⟩ := at_T87 HR0.out x8_3 p174 q174
                  obtain rfl : ad173 = ad174 := (by injection e174)
                  replace hx174_0 := (HB.out.cell (zB w _ hx174_0)).trans hx174_0
                  replace hx174_1 := (HB.out.cell (zB w _ hx174_1)).trans hx174_1
                  replace p174 := eq_true p174
                  replace q174 := eq_true q174
                  have p175 : 0 ≤ (x8_3 : Int) := zG asA
                  have q175 : x8_3 < (l0.length : Int) := zG asA
                  obtain ⟨ad175, e175, hx175_0, hx175_1⟩ := at_T87 HR0.out x8_3 p175 q175
                  obtain rfl : ad173 = ad175 := (by injection e175)
                  replace hx175_0 := (HB.out.cell (zB w _ hx175_0)).trans hx175_0
                  replace hx175_1 := (HB.out.cell (zB w _ hx175_1)).trans hx175_1
                  replace p175 := eq_true p175
                  replace q175 := eq_true q175
                  go_wp2
                  repeat (go_quiet (fail); try go_wp2)
                  go_roundg k4
                  case measure => have := HJ2.out; have := HK2.out; have := HK3.out; have := HK4.out; omega
                  case rel => exact ⟨(x7_4), (wrap64 (x8_3 + 1)), (rfB), H', ⟨by have := HJ2.out; have := HK2.out; have := HK3.out; have := HK4.out; omega⟩, ⟨by (with_reducible repeat (first | apply Kd.R_alloc | apply Kd.R_drewN | apply Kd.R_drew)); exact HO_7.out⟩, ⟨rW0⟩⟩
                ·rw [if_neg c19] at H
                 exact absurd H (by simp)
               ·rw [if_neg c18] at H
                exact absurd H (by simp)
            ·rw [if_neg c17] at H
             exact absurd H (by simp)
           ·rw [if_neg c16] at H
            have c16b0 : decide (x8_3 < (l0.length : Int)) = false := zI c16
            clear c16
            simp only [Option.some.injEq, Prod.mk.injEq] at H
            obtain ⟨rfl, rfl⟩ := H
            go_wp2
            repeat (go_quiet (fail); try go_wp2)
            go_ret2
            exact ⟨_, rfA, by (with_reducible repeat (first | apply Kd.R_alloc | apply Kd.R_drewN | apply Kd.R_drew)); exact HO_7.out, rW0⟩
        ·rw [if_neg c13] at H
         exact absurd H (by simp)
       ·rw [if_neg c12] at H
        exact absurd H (by simp)
def rootcellarref5_row.l0 : Nat → List Bool → List (S87) → Int → Option ((List (S87)))
 | 0, _, _, _ => none
 | k + 1, x0, x3, x4 => if x4 < (x0.length : Int) then (if 0 ≤ x4 then (if rdOf false x0 x4 = true then (if x4 > 0 then (if 0 ≤ (wrap64 (x4 - 1)) then (if (wrap64 (x4 - 1)) < (x0.length : Int) then (if rdOf false x0 (wrap64 (x4 - 1)) = true then (if 0 ≤ (wrap64 ((x3.length : Int) - 1)) then (if (wrap64 ((x3.length : Int) - 1)) < (x3.length : Int) then (rootcellarref5_row.l0 k x0 (x3.set ((wrap64 ((x3.length : Int) - 1)) : Int).toNat (⟨(rd_T87 x3 (wrap64 ((x3.length : Int) - 1))).f0, wrap64 (((rd_T87 x3 (wrap64 ((x3.length : Int) - 1))).f1) + 1)⟩ : S87)) (wrap64 (x4 + 1))) else (none)) else (none)) else (if x3.length < 8796093022208 then (rootcellarref5_row.l0 k x0 (x3 ++ [(⟨x4, 1⟩ : S87)]) (wrap64 (x4 + 1))) else (none))) else (none)) else (none)) else (if x3.length < 8796093022208 then (rootcellarref5_row.l0 k x0 (x3 ++ [(⟨x4, 1⟩ : S87)]) (wrap64 (x4 + 1))) else (none))) else (rootcellarref5_row.l0 k x0 x3 (wrap64 (x4 + 1)))) else (none)) else (some x3)
def rootcellarref5_row.f (k : Nat) (l0 : List Bool) : Option ((List (S87))) := rootcellarref5_row.l0 k l0 ([] : List (S87)) 0
set_option maxHeartbeats 8000000 in
set_option maxRecDepth 100000 in
theorem rootcellarref5_row.calls (k : Nat) (A0 : Option Addr) (c0 : Nat) (l0 : List Bool) (r : List (S87)) (w : World) (hr0 : Kd.C Kd.bool w A0 l0.length l0) (hc0 : l0.length ≤ c0) (h : rootcellarref5_row.f k l0 = some r) :
  Calls Tryz.prog 172 #[.slice A0 l0.length c0] w fun e w' => ∃ v0_ : Value, e = .returned (v0_) ∧ Kd.R k87 87 w' w.heap.size (fun _ => True) v0_ r ∧ Below w.heap.size w w' := by
 have hu87 := Tryz.underlying87
 have HR0 := zA hr0
 have HC0 := zA hc0
 clear hr0 hc0
 have HB := zA (Below.refl w.heap.size w)
 have H : (rootcellarref5_row.l0 k l0 ([] : List (S87)) 0) = some r := h
 clear h
 have H' := zA H
 clear H
 go_enter Tryz.func172, Tryz.ntmps172
 go_wp2
 go_loopg [3, 4] k (fun kq v3 v4 w' => ∃ (x3_1 : List (S87)) (x4_1 : Int), v4 = .int .i64 x4_1 ∧ Aside0 (rootcellarref5_row.l0 kq l0 x3_1 x4_1 = some r) ∧ Aside0 (kq ≤ k) ∧ Aside0 (Kd.R k87 87 w' w.heap.size (fun _ => True) v3 x3_1) ∧ Aside0 (Below w.heap.size w w'))
 case atStart => exact ⟨(([] : List (S87))), (0), (rfB), H', ⟨Nat.le_refl _⟩, ⟨by first | exact Kd.R_nil _ _ _ _ _ | exact Kd.N_nil _ _ _ _ _ | exact Kd.V_nil _ _ _ _ _ | exact Kd.Q_nil _ _ _ _ _ | exact Kd.S_nil _ _ _ _ _⟩, ⟨rW0⟩⟩
 case round =>
  clear H'
  try clear c1
  obtain ⟨x3_1, x4_1, rfl, HA, HK1, HO_3, HB⟩ := hrel
  cases gk with
  | zero => exact absurd HA.out (by simp [rootcellarref5_row.l0])
  | succ k1 =>
   have H := HA.out
   clear HA
   simp only [rootcellarref5_row.l0] at H
   by_cases c2 : x4_1 < (l0.length : Int)
   ·rw [if_pos c2] at H
    have c2b0 : decide (x4_1 < (l0.length : Int)) = true := zH c2
    clear c2
    by_cases c3 : 0 ≤ x4_1
    ·rw [if_pos c3] at H
     have c3b0 : decide (0 ≤ x4_1) = true := zH c3
     clear c3
     obtain ⟨bq4, hbq4⟩ : ∃ b_ : Bool, b_ = (rdOf false l0 x4_1) := ⟨_, rfl⟩
     replace H : (if bq4 = true then (if x4_1 > 0 then (if 0 ≤ (wrap64 (x4_1 - 1)) then (if (wrap64 (x4_1 - 1)) < (l0.length : Int) then (if rdOf false l0 (wrap64 (x4_1 - 1)) = true then (if 0 ≤ (wrap64 ((x3_1.length : Int) - 1)) then (if (wrap64 ((x3_1.length : Int) - 1)) < (x3_1.length : Int) then (rootcellarref5_row.l0 k1 l0 (x3_1.set ((wrap64 ((x3_1.length : Int) - 1)) : Int).toNat (⟨(rd_T87 x3_1 (wrap64 ((x3_1.length : Int) - 1))).f0, wrap64 (((rd_T87 x3_1 (wrap64 ((x3_1.length : Int) - 1))).f1) + 1)⟩ : S87)) (wrap64 (x4_1 + 1))) else (none)) else (none)) else (if x3_1.length < 8796093022208 then (rootcellarref5_row.l0 k1 l0 (x3_1 ++ [(⟨x4_1, 1⟩ : S87)]) (wrap64 (x4_1 + 1))) else (none))) else (none)) else (none)) else (if x3_1.length < 8796093022208 then (rootcellarref5_row.l0 k1 l0 (x3_1 ++ [(⟨x4_1, 1⟩ : S87)]) (wrap64 (x4_1 + 1))) else (none))) else (rootcellarref5_row.l0 k1 l0 x3_1 (wrap64 (x4_1 + 1)))) = some r := by rw [← hbq4] at H; exact H
     have Nbq4 := zA hbq4
     clear hbq4
     by_cases c5 : bq4 = true
     ·subst c5
      have H1 : (if x4_1 > 0 then (if 0 ≤ (wrap64 (x4_1 - 1)) then (if (wrap64 (x4_1 - 1)) < (l0.length : Int) then (if rdOf false l0 (wrap64 (x4_1 - 1)) = true then (if 0 ≤ (wrap64 ((x3_1.length : Int) - 1)) then (if (wrap64 ((x3_1.length : Int) - 1)) < (x3_1.length : Int) then (rootcellarref5_row.l0 k1 l0 (x3_1.set ((wrap64 ((x3_1.length : Int) - 1)) : Int).toNat (⟨(rd_T87 x3_1 (wrap64 ((x3_1.length : Int) - 1))).f0, wrap64 (((rd_T87 x3_1 (wrap64 ((x3_1.length : Int) - 1))).f1) + 1)⟩ : S87)) (wrap64 (x4_1 + 1))) else (none)) else (none)) else (if x3_1.length < 8796093022208 then (rootcellarref5_row.l0 k1 l0 (x3_1 ++ [(⟨x4_1, 1⟩ : S87)]) (wrap64 (x4_1 + 1))) else (none))) else (none)) else (none)) else (if x3_1.length < 8796093022208 then (rootcellarref5_row.l0 k1 l0 (x3_1 ++ [(⟨x4_1, 1⟩ : S87)]) (wrap64 (x4_1 + 1))) else (none))) = some r := by rw [if_pos rfl] at H; exact H
      clear H
      have H := H1
      clear H1
      by_cases c6 : x4_1 > 0
      ·rw [if_pos c6] at H
       have c6b0 : decide (0 < x4_1) = true := zH c6
       clear c6
       obtain ⟨ji7, hji7⟩ : ∃ j_ : Int, (wrap64 (x4_1 - 1)) = j_ := ⟨_, rfl⟩
       replace H : (if 0 ≤ (ji7) then (if (ji7) < (l0.length : Int) then (if rdOf false l0 (ji7) = true then (if 0 ≤ (wrap64 ((x3_1.length : Int) - 1)) then (if (wrap64 ((x3_1.length : Int) - 1)) < (x3_1.length : Int) then (rootcellarref5_row.l0 k1 l0 (x3_1.set ((wrap64 ((x3_1.length : Int) - 1)) : Int).toNat (⟨(rd_T87 x3_1 (wrap64 ((x3_1.length : Int) - 1))).f0, wrap64 (((rd_T87 x3_1 (wrap64 ((x3_1.length : Int) - 1))).f1) + 1)⟩ : S87)) (wrap64 (x4_1 + 1))) else (none)) else (none)) else (if x3_1.length < 8796093022208 then (rootcellarref5_row.l0 k1 l0 (x3_1 ++ [(⟨x4_1, 1⟩ : S87)]) (wrap64 (x4_1 + 1))) else (none))) else (none)) else (none)) = some r := by first | (rw [hji7] at H; exact H) | (simp only [hji7] at H ⊢; exact H)
       have hji7w : (IntKind.i64.wrap (x4_1 - 1)) = ji7 := (i64_w _).trans hji7
       by_cases c8 : 0 ≤ (ji7)
       ·rw [if_pos c8] at H
        have c8b0 : decide (0 ≤ (ji7)) = true := zH c8
        clear c8
        by_cases c9 : (ji7) < (l0.length : Int)
        ·rw [if_pos c9] at H
         have c9b0 : decide ((ji7) < (l0.length : Int)) = true := zH c9
         clear c9
         obtain ⟨bq10, hbq10⟩ : ∃ b_ : Bool, b_ = (rdOf false l0 (ji7)) := ⟨_, rfl⟩
         replace H : (if bq10 = true then (if 0 ≤ (wrap64 ((x3_1.length : Int) - 1)) then (if (wrap64 ((x3_1.length : Int) - 1)) < (x3_1.length : Int) then (rootcellarref5_row.l0 k1 l0 (x3_1.set ((wrap64 ((x3_1.length : Int) - 1)) : Int).toNat (⟨(rd_T87 x3_1 (wrap64 ((x3_1.length : Int) - 1))).f0, wrap64 (((rd_T87 x3_1 (wrap64 ((x3_1.length : Int) - 1))).f1) + 1)⟩ : S87)) (wrap64 (x4_1 + 1))) else (none)) else (none)) else (if x3_1.length < 8796093022208 then (rootcellarref5_row.l0 k1 l0 (x3_1 ++ [(⟨x4_1, 1⟩ : S87)]) (wrap64 (x4_1 + 1))) else (none))) = some r := by rw [← hbq10] at H; exact H
         have Nbq10 := zA hbq10
         clear hbq10
         by_cases c11 : bq10 = true
         ·subst c11
          have H1 : (if 0 ≤ (wrap64 ((x3_1.length : Int) - 1)) then (if (wrap64 ((x3_1.length : Int) - 1)) < (x3_1.length : Int) then (rootcellarref5_row.l0 k1 l0 (x3_1.set ((wrap64 ((x3_1.length : Int) - 1)) : Int).toNat (⟨(rd_T87 x3_1 (wrap64 ((x3_1.length : Int) - 1))).f0, wrap64 (((rd_T87 x3_1 (wrap64 ((x3_1.length : Int) - 1))).f1) + 1)⟩ : S87)) (wrap64 (x4_1 + 1))) else (none)) else (none)) = some r := by rw [if_pos rfl] at H; exact H
          clear H
          have H := H1
          clear H1
          obtain ⟨ji12, hji12⟩ : ∃ j_ : Int, (wrap64 ((x3_1.length : Int) - 1)) = j_ := ⟨_, rfl⟩
          replace H : (if 0 ≤ (ji12) then (if (ji12) < (x3_1.length : Int) then (rootcellarref5_row.l0 k1 l0 (x3_1.set ((ji12) : Int).toNat (⟨(rd_T87 x3_1 (ji12)).f0, wrap64 (((rd_T87 x3_1 (ji12)).f1) + 1)⟩ : S87)) (wrap64 (x4_1 + 1))) else (none)) else (none)) = some r := by first | (rw [hji12] at H; exact H) | (simp only [hji12] at H ⊢; exact H)
          have hji12w : (IntKind.i64.wrap ((x3_1.length : Int) - 1)) = ji12 := (i64_w _).trans hji12
          by_cases c13 : 0 ≤ (ji12)
          ·rw [if_pos c13] at H
           have c13b0 : decide (0 ≤ (ji12)) = true := zH c13
           clear c13
           by_cases c14 : (ji12) < (x3_1.length : Int)
           ·rw [if_pos c14] at H
            have c14b0 : decide ((ji12) < (x3_1.length : Int)) = true := zH c14
            clear c14
            obtain ⟨y181, hy181⟩ : ∃ y_ : List (S87), y_ = (x3_1.set ((ji12) : Int).toNat (⟨(rd_T87 x3_1 (ji12)).f0, wrap64 (((rd_T87 x3_1 (ji12)).f1) + 1)⟩ : S87)) := ⟨_, rfl⟩
            replace H : (rootcellarref5_row.l0 k1 l0 y181 (wrap64 (x4_1 + 1))) = some r := by first | (rw [hy181]; with_reducible exact H) | (have H2_ := (Option.bind_some _ _).symm.trans H; rw [hy181]; with_reducible exact H2_) | (have H2_ := (Option.bind_some _ _).symm.trans H; with_reducible exact H2_) | with_reducible exact H | (rw [hy181]; exact H) | exact H
            have Ny181 := zA hy181
            clear hy181
            have H' := zA H
            clear H
            have p178 : 0 ≤ (x4_1 : Int) := zG asA
            have q178 : x4_1 < (l0.length : Int) := zG asA
            obtain ⟨ad178, e178, hx178_0⟩ := Kd.at_bool HR0.out x4_1 p178 q178
            (try rw [← Nbq4.out] at hx178_0)
            (try rw [← Nbq10.out] at hx178_0)
            cases e178
            replace hx178_0 := (HB.out.cell (zB w _ hx178_0)).trans hx178_0
            replace p178 := eq_true p178
            replace q178 := eq_true q178
            have p179 : 0 ≤ ((ji7) : Int) := zG asA
            have q179 : (ji7) < (l0.length : Int) := zG asA
            obtain ⟨ad179, e179, hx179_0⟩ := Kd.at_bool HR0.out (ji7) p179 q179
            (try rw [← Nbq4.out] at hx179_0)
            (try rw [← Nbq10.out] at hx179_0)
            obtain rfl : ad178 = ad179 := (by injection e179)
            replace hx179_0 := (HB.out.cell (zB w _ hx179_0)).trans hx179_0
            replace p179 := eq_true p179
            replace q179 := eq_true q179
            obtain ⟨Ao16, co16, eo16⟩ := Kd.R_slice HO_3.out
            subst eo16
            have p180 : 0 ≤ ((ji12) : Int) := zG asA
            have q180 : (ji12) < (x3_1.length : Int) := zG asA
            obtain ⟨ad180, e180, hx180_0, hx180_1⟩ := at_T87 (Kd.R_reads' HO_3.out).2.2 (ji12) p180 q180
            cases e180
            replace p180 := eq_true p180
            replace q180 := eq_true q180
            have p15 : 0 ≤ ((ji12) : Int) := zG asA
            have q15 : ((ji12) : Int) < ((x3_1.length : Int) : Int) := zG asA
            obtain ⟨go15, co15, eo15, gb15, gl15, cl15, HG15⟩ := Kd.R_form HO_3.out (by omega)
            (first | cases eo15 | (injection eo15 with ea_ en_ ec_; (first | subst ea_ | (injection ea_ with ea_; subst ea_)); subst ec_; clear en_))
            have GB15 := zA gb15
            have GG15 := zA HG15
            clear gb15 gl15 HG15
            (first | simp only [add_plain] at hx180_0 | skip)
            (first | simp only [add_plain] at hx180_1 | skip)
            obtain ⟨ce15, hcl15, hM15, hcc15, hfr15⟩ := Kd.R_elem HO_3.out z87 ((ji12) : Int) p15 q15
            obtain rfl := k87_openM hM15
            have hx15_0 : wr.cell? ⟨go15, ((ji12) : Int).toNat * 2, none⟩ = some (.int .i64 ((rd_T87 x3_1 (ji12)).f0)) := hcc15 0 _ rfl
            have hx15_1 : wr.cell? ⟨go15, ((ji12) : Int).toNat * 2 + 1, none⟩ = some (.int .i64 ((rd_T87 x3_1 (ji12)).f1)) := hcc15 1 _ rfl
            have hf15_0 : wr.frozen? ⟨go15, ((ji12) : Int).toNat * 2, none⟩ = false := hfr15 0
            have hf15_1 : wr.frozen? ⟨go15, ((ji12) : Int).toNat * 2 + 1, none⟩ = false := hfr15 1
            clear hcl15 hcc15 hfr15 hM15
            replace p15 := eq_true p15
            replace q15 := eq_true q15
            have HX17 := zA (show Kd.R k87 87 wr w.heap.size (fun _ => True) (.slice (some ⟨go15, 0, none⟩) x3_1.length co16) x3_1 from (kdR_ HO_3.out))
            obtain ⟨ce17, hcl17, hM17, hcc17, hfr17⟩ := Kd.R_elem HX17.out z87 ((ji12) : Int) (zG asA) (by have h_ : ((ji12) : Int) < ((x3_1.length : Int) : Int) := zG asA; first | exact h_ | (have e_ := (Kd.R_reads' HO_3.out).1; omega) | simpa using h_)
            obtain rfl := k87_openM hM17
            have HP17 := Kd.R_seg HX17.out ((ji12) : Int) (zG asA) (by have h_ : ((ji12) : Int) < ((x3_1.length : Int) : Int) := zG asA; first | exact h_ | (have e_ := (Kd.R_reads' HO_3.out).1; omega) | simpa using h_) (seg := [.int .i64 (wrap64 (((rd_T87 x3_1 (ji12)).f1) + 1))]) (j := 1) hcl17 hcc17 (show 2 ≤ 2 from by decide) (x' := (⟨(rd_T87 x3_1 (ji12)).f0, wrap64 (((rd_T87 x3_1 (ji12)).f1) + 1)⟩ : S87)) (k87_mkM _ _ _ (⟨(rd_T87 x3_1 (ji12)).f0, wrap64 (((rd_T87 x3_1 (ji12)).f1) + 1)⟩ : S87) ) (fun _ hk => hk)
            have hx17_1 := hcc17 1 _ rfl
            (try simp only [show (k87).sz = 2 from rfl, Nat.mul_one, Nat.add_zero] at hx17_1)
            have hf17_1 := hfr17 1
            (try simp only [show (k87).sz = 2 from rfl, Nat.mul_one, Nat.add_zero] at hf17_1)
            clear hcl17 hcc17 hfr17 hM17
            go_wp2_with (first | ((with_reducible refine gate_store (t := 3) (p := 38) rfl ?_); refine store_event (t := 3) (p := 38) (v := ?vo_w18) (w1 := (wr.setCell ⟨go15, ((ji12) : Int).toNat * 2 + 1, none⟩ (.int .i64 (wrap64 (((rd_T87 x3_1 (ji12)).f1) + 1))))) ?hg ?ho ?hn ?hr ?_; (case ho => rfl); (case hg => rfl); (case hn => rfl); (case hr => first | (go_simp; done) | (go_simp; rfl)); intro w18 hw; have hg : wr.grownBy w18 (some go15) := (by rw [hw]; exact HP17.2); have hp_ : Kd.R k87 87 w18 w.heap.size (fun _ => True) (.slice (some ⟨go15, 0, none⟩) x3_1.length co16) y181 := (by rw [hw, Ny181.out]; exact HP17.1); clear HP17; have n0_ := zA (hp_); have n1_ := zA ((by rw [hw]; exact below_set (HB.out) GB15.out : Below w.heap.size w w18)); clear HO_3; clear HB; have HO_3 := n0_; have HB := n1_; clear n0_ n1_; clear hg hw hp_))
            go_roundg k1
            case measure => have := HK1.out; omega
            case rel => exact ⟨(y181), (wrap64 (x4_1 + 1)), (rfB), H', ⟨by have := HK1.out; omega⟩, ⟨by (with_reducible repeat (first | apply Kd.R_alloc | apply Kd.R_drewN | apply Kd.R_drew)); exact HO_3.out⟩, ⟨rW0⟩⟩
           ·rw [if_neg c14] at H
            exact absurd H (by simp)
          ·rw [if_neg c13] at H
           exact absurd H (by simp)
         ·replace c11 := Bool.eq_false_iff.mpr c11
          subst c11
          have H1 : (if x3_1.length < 8796093022208 then (rootcellarref5_row.l0 k1 l0 (x3_1 ++ [(⟨x4_1, 1⟩ : S87)]) (wrap64 (x4_1 + 1))) else (none)) = some r := by rw [if_neg (show ¬ (false = true) by decide)] at H; exact H
          clear H
          have H := H1
          clear H1
          by_cases c19 : x3_1.length < 8796093022208
          ·rw [if_pos c19] at H
           have LMc19 := zA c19
           clear c19
           obtain ⟨y182, hy182⟩ : ∃ y_ : List (S87), y_ = (x3_1 ++ [(⟨x4_1, 1⟩ : S87)]) := ⟨_, rfl⟩
           replace H : (rootcellarref5_row.l0 k1 l0 y182 (wrap64 (x4_1 + 1))) = some r := by first | (rw [hy182]; with_reducible exact H) | (have H2_ := (Option.bind_some _ _).symm.trans H; rw [hy182]; with_reducible exact H2_) | (have H2_ := (Option.bind_some _ _).symm.trans H; with_reducible exact H2_) | with_reducible exact H | (rw [hy182]; exact H) | exact H
           have Ny182 := zA hy182
           clear hy182
           have H' := zA H
           clear H
           have p178 : 0 ≤ (x4_1 : Int) := zG asA
           have q178 : x4_1 < (l0.length : Int) := zG asA
           obtain ⟨ad178, e178, hx178_0⟩ := Kd.at_bool HR0.out x4_1 p178 q178
           (try rw [← Nbq4.out] at hx178_0)
           (try rw [← Nbq10.out] at hx178_0)
           cases e178
           replace hx178_0 := (HB.out.cell (zB w _ hx178_0)).trans hx178_0
           replace p178 := eq_true p178
           replace q178 := eq_true q178
           have p179 : 0 ≤ ((ji7) : Int) := zG asA
           have q179 : (ji7) < (l0.length : Int) := zG asA
           obtain ⟨ad179, e179, hx179_0⟩ := Kd.at_bool HR0.out (ji7) p179 q179
           (try rw [← Nbq4.out] at hx179_0)
           (try rw [← Nbq10.out] at hx179_0)
           obtain rfl : ad178 = ad179 := (by injection e179)
           replace hx179_0 := (HB.out.cell (zB w _ hx179_0)).trans hx179_0
           replace p179 := eq_true p179
           replace q179 := eq_true q179
           go_wp2_with (first | ((with_reducible refine gate_builtin (b := .append) (xs := #[.tmp 39, .tmp 42]) rfl ?_); at_builtin; refine Kd.R_append k87 (w0 := w) w.heap.size rfl (.tmp 39) (.tmp 42) 44 87 (.agg #[(.int .i64 0), (.int .i64 0)]) 16 rfl Tryz.underlying44 info87 rfl (by decide) (by omega) u3 x3_1 (⟨x4_1, 1⟩ : S87) [.int .i64 x4_1, .int .i64 1] (fun _ => True) (fun _ => False) rfl rfl ?aP (fun _ hk => hk.elim) ?aF ?aO ?aB ?aS ?aL ?_; (case aP => exact k87_mkM _ _ _ (⟨x4_1, 1⟩ : S87)); (case aB => exact belA); (case aF => exact (fun _ _ => trivial)); (case aO => exact (kdR_ HO_3.out)); (case aS => exact (below_size belA)); (case aL => have := LMc19.out; omega); intro v183 w20 ho hb hg hat; rw [← Ny182.out] at ho; have n0_ := zA (hb); have n1_ := zA (ho); clear HB; clear HO_3; have HB := n0_; have HO184 := n1_; clear n0_ n1_; clear ho hb hg hat))
           go_roundg k1
           case measure => have := HK1.out; omega
           case rel => exact ⟨(y182), (wrap64 (x4_1 + 1)), (rfB), H', ⟨by have := HK1.out; omega⟩, ⟨by (with_reducible repeat (first | apply Kd.R_alloc | apply Kd.R_drewN | apply Kd.R_drew)); exact HO184.out⟩, ⟨rW0⟩⟩
          ·rw [if_neg c19] at H
           exact absurd H (by simp)
        ·rw [if_neg c9] at H
         exact absurd H (by simp)
       ·rw [if_neg c8] at H
        exact absurd H (by simp)
      ·rw [if_neg c6] at H
       have c6b0 : decide (0 < x4_1) = false := zI c6
       clear c6
       by_cases c21 : x3_1.length < 8796093022208
       ·rw [if_pos c21] at H
        have LMc21 := zA c21
        clear c21
        obtain ⟨y185, hy185⟩ : ∃ y_ : List (S87), y_ = (x3_1 ++ [(⟨x4_1, 1⟩ : S87)]) := ⟨_, rfl⟩
        replace H : (rootcellarref5_row.l0 k1 l0 y185 (wrap64 (x4_1 + 1))) = some r := by first | (rw [hy185]; with_reducible exact H) | (have H2_ := (Option.bind_some _ _).symm.trans H; rw [hy185]; with_reducible exact H2_) | (have H2_ := (Option.bind_some _ _).symm.trans H; with_reducible exact H2_) | with_reducible exact H | (rw [hy185]; exact H) | exact H
        have Ny185 := zA hy185
        clear hy185
        have H' := zA H
        clear H
        have p178 : 0 ≤ (x4_1 : Int) := zG asA
        have q178 : x4_1 < (l0.length : Int) := zG asA
        obtain ⟨ad178, e178, hx178_0⟩ := Kd.at_bool HR0.out x4_1 p178 q178
        (try rw [← Nbq4.out] at hx178_0)
        cases e178
        replace hx178_0 := (HB.out.cell (zB w _ hx178_0)).trans hx178_0
        replace p178 := eq_true p178
        replace q178 := eq_true q178
        go_wp2_with (first | ((with_reducible refine gate_builtin (b := .append) (xs := #[.tmp 39, .tmp 42]) rfl ?_); at_builtin; refine Kd.R_append k87 (w0 := w) w.heap.size rfl (.tmp 39) (.tmp 42) 44 87 (.agg #[(.int .i64 0), (.int .i64 0)]) 16 rfl Tryz.underlying44 info87 rfl (by decide) (by omega) u3 x3_1 (⟨x4_1, 1⟩ : S87) [.int .i64 x4_1, .int .i64 1] (fun _ => True) (fun _ => False) rfl rfl ?aP (fun _ hk => hk.elim) ?aF ?aO ?aB ?aS ?aL ?_; (case aP => exact k87_mkM _ _ _ (⟨x4_1, 1⟩ : S87)); (case aB => exact belA); (case aF => exact (fun _ _ => trivial)); (case aO => exact (kdR_ HO_3.out)); (case aS => exact (below_size belA)); (case aL => have := LMc21.out; omega); intro v186 w22 ho hb hg hat; rw [← Ny185.out] at ho; have n0_ := zA (hb); have n1_ := zA (ho); clear HB; clear HO_3; have HB := n0_; have HO187 := n1_; clear n0_ n1_; clear ho hb hg hat))
        go_roundg k1
        case measure => have := HK1.out; omega
        case rel => exact ⟨(y185), (wrap64 (x4_1 + 1)), (rfB), H', ⟨by have := HK1.out; omega⟩, ⟨by (with_reducible repeat (first | apply Kd.R_alloc | apply Kd.R_drewN | apply Kd.R_drew)); exact HO187.out⟩, ⟨rW0⟩⟩
       ·rw [if_neg c21] at H
        exact absurd H (by simp)
     ·replace c5 := Bool.eq_false_iff.mpr c5
      subst c5
      have H1 : (rootcellarref5_row.l0 k1 l0 x3_1 (wrap64 (x4_1 + 1))) = some r := by rw [if_neg (show ¬ (false = true) by decide)] at H; exact H
      clear H
      have H := H1
      clear H1
      have H' := zA H
      clear H
      have p178 : 0 ≤ (x4_1 : Int) := zG asA
      have q178 : x4_1 < (l0.length : Int) := zG asA
      obtain ⟨ad178, e178, hx178_0⟩ := Kd.at_bool HR0.out x4_1 p178 q178
      (try rw [← Nbq4.out] at hx178_0)
      cases e178
      replace hx178_0 := (HB.out.cell (zB w _ hx178_0)).trans hx178_0
      replace p178 := eq_true p178
      replace q178 := eq_true q178
      go_wp2
      go_roundg k1
      case measure => have := HK1.out; omega
      case rel => exact ⟨(x3_1), (wrap64 (x4_1 + 1)), (rfB), H', ⟨by have := HK1.out; omega⟩, ⟨by (with_reducible repeat (first | apply Kd.R_alloc | apply Kd.R_drewN | apply Kd.R_drew)); exact HO_3.out⟩, ⟨rW0⟩⟩
    ·rw [if_neg c3] at H
     exact absurd H (by simp)
   ·rw [if_neg c2] at H
    have c2b0 : decide (x4_1 < (l0.length : Int)) = false := zI c2
    clear c2
    obtain rfl := Option.some.inj H
    go_wp2
    go_ret
    exact ⟨_, rfA, by (with_reducible repeat (first | apply Kd.R_alloc | apply Kd.R_drewN | apply Kd.R_drew)); exact HO_3.out, rW0⟩
def rootcellarref5_Norm.f (k : Nat) (l0 : List (S87)) (a1 : Int) : Option ((List (S87)) × Int) := (rootcellarref5_marks.f k l0 a1).bind fun bt188 => (if bt188.2 = 0 then ((rootcellarref5_row.f k bt188.1).bind fun t192 => (some (t192, 0))) else (some (([] : List (S87)), bt188.2)))
set_option maxHeartbeats 8000000 in
set_option maxRecDepth 100000 in
theorem rootcellarref5_Norm.calls (k : Nat) (A0 : Option Addr) (c0 : Nat) (l0 : List (S87)) (a1 : Int) (r1 : List (S87)) (r2 : Int) (w : World) (hr0 : Kd.C k87 w A0 l0.length l0) (hc0 : l0.length ≤ c0) (h : rootcellarref5_Norm.f k l0 a1 = some (r1, r2)) :
  Calls Tryz.prog 132 #[.slice A0 l0.length c0, .int .i64 a1] w fun e w' => ∃ v0_ : Value, e = .returned (.tuple #[v0_, .int .i64 r2]) ∧ Kd.R k87 87 w' w.heap.size (fun _ => True) v0_ r1 ∧ Below w.heap.size w w' := by
 have HR0 := zA hr0
 have HC0 := zA hc0
 clear hr0 hc0
 have HB := zA (Below.refl w.heap.size w)
 have H : ((rootcellarref5_marks.f k l0 a1).bind fun bt188 => (if bt188.2 = 0 then ((rootcellarref5_row.f k bt188.1).bind fun t192 => (some (t192, 0))) else (some (([] : List (S87)), bt188.2)))) = some (r1, r2) := h
 clear h
 replace H := Option.bind_eq_some_iff.mp H
 obtain ⟨⟨t188, t189⟩, A30, H⟩ := H
 replace H : (if t189 = 0 then ((rootcellarref5_row.f k t188).bind fun t192 => (some (t192, 0))) else (some (([] : List (S87)), t189))) = some (r1, r2) := H
 have A3 := zA A30
 clear A30
 by_cases c4 : t189 = 0
 ·rw [if_pos c4] at H
  have c4b0 : (t189 == 0) = true := beq_iff_eq.mpr c4
  have c4b1 : (t189 != 0) = false := bne_eq_false_iff_eq.mpr c4
  clear c4
  replace H := Option.bind_eq_some_iff.mp H
  obtain ⟨t192, A50, H⟩ := H
  replace H : (some (t192, 0)) = some (r1, r2) := H
  have A5 := zA A50
  clear A50
  simp only [Option.some.injEq, Prod.mk.injEq] at H
  obtain ⟨rfl, rfl⟩ := H
  go_enter Tryz.func132, Tryz.ntmps132
  go_wp2_with (first | ((with_reducible refine gate_callee (f := 171) rfl ?_); refine goesL_ (some 11) rfl rfl Tryz.func171 (by kernel_rfl) rfl #[.slice A0 l0.length c0, .int .i64 a1] rfl argA ?_; (with_reducible refine (rootcellarref5_marks.calls k _ _ l0 a1 t188 t189 _ ?side1 ?side2 A3.out).mono ?_); (case side1 => repeat (first | exact HR0.out | (with_reducible refine Kd.C_alloc ?_ _) | (with_reducible refine Kd.C_drewN ?_ _) | (with_reducible refine Kd.C_drew ?_))); (case side2 => exact HC0.out); rintro e w6 ⟨v190, rfl, ho0, hb⟩; refine ⟨_, rfl, ?_⟩; have n0_ := zA (Kd.R_lower ho0 (below_size belA)); have n1_ := zA (zL belA hb); clear HB; have HO191 := n0_; have HB := n1_; clear n0_ n1_; (try clear hb); (try clear hb2); (try clear hk); (try clear hi); (try clear ho0); obtain ⟨Ao7, co7, eo7⟩ := Kd.R_slice HO191.out; subst eo7) | ((with_reducible refine gate_callee (f := 172) rfl ?_); refine goesL_ (some 18) rfl rfl Tryz.func172 (by kernel_rfl) rfl #[.slice Ao7 t188.length co7] rfl argA ?_; (with_reducible refine (rootcellarref5_row.calls k _ _ t188 t192 _ ?side1 ?side2 A5.out).mono ?_); (case side1 => repeat (first | exact (Kd.R_reads' HO191.out).2.2 | (with_reducible refine Kd.C_alloc ?_ _) | (with_reducible refine Kd.C_drewN ?_ _) | (with_reducible refine Kd.C_drew ?_))); (case side2 => exact (Kd.R_reads' HO191.out).2.1); rintro e w8 ⟨v193, rfl, ho0, hb⟩; refine ⟨_, rfl, ?_⟩; have n0_ := zA (Kd.R_below (kdR_ HO191.out) hb); have n1_ := zA (Kd.R_lower ho0 (below_size belA)); have n2_ := zA (zL belA hb); clear HO191; clear HB; have HO191 := n0_; have HO194 := n1_; have HB := n2_; clear n0_ n1_ n2_; (try clear hb); (try clear hb2); (try clear hk); (try clear hi); (try clear ho0)))
  go_ret2
  exact ⟨_, rfA, by (with_reducible repeat (first | apply Kd.R_alloc | apply Kd.R_drewN | apply Kd.R_drew)); exact HO194.out, rW0⟩
 ·rw [if_neg c4] at H
  have c4b0 : (t189 == 0) = false := beq_eq_false_iff_ne.mpr c4
  have c4b1 : (t189 != 0) = true := bne_iff_ne.mpr c4
  simp only [Option.some.injEq, Prod.mk.injEq] at H
  obtain ⟨rfl, rfl⟩ := H
  go_enter Tryz.func132, Tryz.ntmps132
  go_wp2_with (first | ((with_reducible refine gate_callee (f := 171) rfl ?_); refine goesL_ (some 11) rfl rfl Tryz.func171 (by kernel_rfl) rfl #[.slice A0 l0.length c0, .int .i64 a1] rfl argA ?_; (with_reducible refine (rootcellarref5_marks.calls k _ _ l0 a1 t188 t189 _ ?side1 ?side2 A3.out).mono ?_); (case side1 => repeat (first | exact HR0.out | (with_reducible refine Kd.C_alloc ?_ _) | (with_reducible refine Kd.C_drewN ?_ _) | (with_reducible refine Kd.C_drew ?_))); (case side2 => exact HC0.out); rintro e w9 ⟨v190, rfl, ho0, hb⟩; refine ⟨_, rfl, ?_⟩; have n0_ := zA (Kd.R_lower ho0 (below_size belA)); have n1_ := zA (zL belA hb); clear HB; have HO191 := n0_; have HB := n1_; clear n0_ n1_; (try clear hb); (try clear hb2); (try clear hk); (try clear hi); (try clear ho0)))
  go_ret2
  exact ⟨_, rfA, by first | exact Kd.R_nil _ _ _ _ _ | exact Kd.N_nil _ _ _ _ _ | exact Kd.V_nil _ _ _ _ _ | exact Kd.Q_nil _ _ _ _ _ | exact Kd.S_nil _ _ _ _ _, rW0⟩
end Go.Proofs.YtcclaidbikjhiaaGreatDoor.PVo
