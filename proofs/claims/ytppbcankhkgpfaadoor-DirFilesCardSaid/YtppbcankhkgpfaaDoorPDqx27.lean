import Derived.Test.YtppbcankhkgpfaaDoorPDqx0
import Derived.Test.YtppbcankhkgpfaaDoorPDqx25
import Derived.Test.YtppbcankhkgpfaaDoorPDqx20
--compressed
namespace Go.Proofs.YtppbcankhkgpfaaDoor.PDq
open Go.RowKit Go.Proofs.YtppbcankhkgpfaaDoorW.PrintWords Go.Proofs.YtppbcankhkgpfaaDoorW.PrintLast Go.Proofs.YtppbcankhkgpfaaDoorW.PrintMore
attribute [local go_sem] max2_int min2_int max_two min_two max_three min_three max_four min_four   -- for this text's walks alone
attribute [local go_sem high] hw_str_leq hw_str_gtr
set_option linter.unusedVariables false
set_option linter.unusedSimpArgs false
mutual
def rootcellarref7_Is.l0 : Nat → List (S45) → Int → Option (Bool)
 | 0, _, _ => none
 | k + 1, x0, x3 => if x3 < (x0.length : Int) then (if 0 ≤ x3 then ((rootcellarref7_well.f k ((rd_T45 x0 x3).f0) ((rd_T45 x0 x3).f1) ((rd_T45 x0 x3).f2)).bind fun t242 => (if t242 = true then (if x3 > 0 then (if 0 ≤ (wrap64 (x3 - 1)) then (if (wrap64 (x3 - 1)) < (x0.length : Int) then (rootcellarref7_Is.j1 k x0 x3 (!(Op.bytesLess (((rd_T45 x0 (wrap64 (x3 - 1))).f0).toList) (((rd_T45 x0 x3).f0).toList)))) else (none)) else (none)) else (rootcellarref7_Is.j1 k x0 x3 false)) else (rootcellarref7_Is.j1 k x0 x3 true))) else (none)) else (some (decide ((x0.length : Int) ≤ 120)))
def rootcellarref7_Is.j1 : Nat → List (S45) → Int → Bool → Option (Bool)
 | 0, _, _, _ => none
 | k + 1, x0, x3, x35 => if x35 = true then (some false) else (rootcellarref7_Is.l0 k x0 (wrap64 (x3 + 1)))
end
def rootcellarref7_Is.f (k : Nat) (l0 : List (S45)) : Option (Bool) := rootcellarref7_Is.l0 k l0 0
set_option maxHeartbeats 8000000 in
set_option maxRecDepth 100000 in
theorem rootcellarref7_Is.calls (k : Nat) (A0 : Option Addr) (c0 : Nat) (l0 : List (S45)) (r : Bool) (w : World) (hr0 : Kd.C k45 w A0 l0.length l0) (hc0 : l0.length ≤ c0) (h : rootcellarref7_Is.f k l0 = some r) :
  Calls Tryd.prog 18 #[.slice A0 l0.length c0] w fun e w' => e = .returned (.bool r) ∧ Below w.heap.size w w' := by
 have hu45 := Tryd.underlying45
 have HR0 := Aside0.mk hr0
 have HC0 := Aside0.mk hc0
 clear hr0 hc0
 have HB := Aside0.mk (Below.refl w.heap.size w)
 have H : (rootcellarref7_Is.l0 k l0 0) = some r := h
 clear h
 have H' := Aside0.mk H
 clear H
 go_enter Tryd.func18, Tryd.ntmps18
 go_wp2
 repeat (go_quiet (fail); try go_wp2)
 go_loopg [3] k (fun kq v3 w' => ∃ (x3_1 : Int), v3 = .int .i64 x3_1 ∧ Aside0 (rootcellarref7_Is.l0 kq l0 x3_1 = some r) ∧ Aside0 (kq ≤ k) ∧ Aside0 (Below w.heap.size w w'))
 case atStart => exact ⟨(0), (by first | rfl | (simp; done) | (simp [*]; done)), H', ⟨Nat.le_refl _⟩, ⟨by repeat (first | (with_reducible first | exact HB.out | apply below_alloc | apply pw_below_drewN | apply below_drew1) | exact HB.out)⟩⟩
 case round =>
  clear H'
  try clear c1
  obtain ⟨x3_1, rfl, HA, HK1, HB⟩ := hrel
  cases gk with
  | zero => exact absurd HA.out (by simp [rootcellarref7_Is.l0])
  | succ k1 =>
   have H := HA.out
   clear HA
   simp only [rootcellarref7_Is.l0] at H
   by_cases c2 : x3_1 < (l0.length : Int)
   ·rw [if_pos c2] at H
    have c2b0 : decide (x3_1 < (l0.length : Int)) = true := decide_eq_true c2
    clear c2
    by_cases c3 : 0 ≤ x3_1
    ·rw [if_pos c3] at H
     have c3b0 : decide (0 ≤ x3_1) = true := decide_eq_true c3
     clear c3
     replace H := Option.bind_eq_some_iff.mp H
     obtain ⟨t242, A40, H⟩ := H
     replace H : (if t242 = true then (if x3_1 > 0 then (if 0 ≤ (wrap64 (x3_1 - 1)) then (if (wrap64 (x3_1 - 1)) < (l0.length : Int) then (rootcellarref7_Is.j1 k1 l0 x3_1 (!(Op.bytesLess (((rd_T45 l0 (wrap64 (x3_1 - 1))).f0).toList) (((rd_T45 l0 x3_1).f0).toList)))) else (none)) else (none)) else (rootcellarref7_Is.j1 k1 l0 x3_1 false)) else (rootcellarref7_Is.j1 k1 l0 x3_1 true)) = some r := H
     have A4 := Aside0.mk A40
     clear A40
     have HC5 := Aside0.mk H
     clear H
     have p241 : 0 ≤ (x3_1 : Int) := of_decide_eq_true asA
     have q241 : x3_1 < (l0.length : Int) := of_decide_eq_true asA
     obtain ⟨ad241, A241_2, c241_2, e241, hx241_0, hx241_1, hx241_2, hl241_2, hi241_2⟩ := at_T45 HR0.out x3_1 p241 q241
     cases e241
     replace hx241_0 := (HB.out.cell (World.block_lt_of_cell? w _ hx241_0)).trans hx241_0
     replace hx241_1 := (HB.out.cell (World.block_lt_of_cell? w _ hx241_1)).trans hx241_1
     replace hx241_2 := (HB.out.cell (World.block_lt_of_cell? w _ hx241_2)).trans hx241_2
     have HR241_2 := Aside0.mk hi241_2
     have HC241_2 := Aside0.mk hl241_2
     clear hi241_2 hl241_2
     replace p241 := eq_true p241
     replace q241 := eq_true q241
     go_upto_region 5 with (first | (go_at_call 47; (with_reducible refine (rootcellarref7_well.calls k1 ((rd_T45 l0 x3_1).f0) ((rd_T45 l0 x3_1).f1) _ _ ((rd_T45 l0 x3_1).f2) t242 _ ?side1 ?side2 A4.out).mono ?_); (case side1 => repeat (first | exact (Kd.C_below HR241_2.out HB.out) | (with_reducible refine Kd.C_alloc ?_ _) | (with_reducible refine Kd.C_drewN ?_ _) | (with_reducible refine Kd.C_drew ?_))); (case side2 => exact HC241_2.out); rintro e w6 ⟨rfl, hb⟩; have n0_ := Aside0.mk (below_step belA hb); clear HB; have HB := n0_; clear n0_; (try clear hb); (try clear hb2); (try clear hk); (try clear hi)))
     repeat (go_quiet (first | (go_at_call 47; (with_reducible refine (rootcellarref7_well.calls k1 ((rd_T45 l0 x3_1).f0) ((rd_T45 l0 x3_1).f1) _ _ ((rd_T45 l0 x3_1).f2) t242 _ ?side1 ?side2 A4.out).mono ?_); (case side1 => repeat (first | exact (Kd.C_below HR241_2.out HB.out) | (with_reducible refine Kd.C_alloc ?_ _) | (with_reducible refine Kd.C_drewN ?_ _) | (with_reducible refine Kd.C_drew ?_))); (case side2 => exact HC241_2.out); rintro e w6 ⟨rfl, hb⟩; have n0_ := Aside0.mk (below_step belA hb); clear HB; have HB := n0_; clear n0_; (try clear hb); (try clear hb2); (try clear hk); (try clear hi))); go_upto_region 5 with (first | (go_at_call 47; (with_reducible refine (rootcellarref7_well.calls k1 ((rd_T45 l0 x3_1).f0) ((rd_T45 l0 x3_1).f1) _ _ ((rd_T45 l0 x3_1).f2) t242 _ ?side1 ?side2 A4.out).mono ?_); (case side1 => repeat (first | exact (Kd.C_below HR241_2.out HB.out) | (with_reducible refine Kd.C_alloc ?_ _) | (with_reducible refine Kd.C_drewN ?_ _) | (with_reducible refine Kd.C_drew ?_))); (case side2 => exact HC241_2.out); rintro e w6 ⟨rfl, hb⟩; have n0_ := Aside0.mk (below_step belA hb); clear HB; have HB := n0_; clear n0_; (try clear hb); (try clear hb2); (try clear hk); (try clear hi))))
     (try simp only [Act.put, List.setIfInBounds_toArray, List.set_cons_zero, List.set_cons_succ])
     go_cut [35] (fun v35 wc => ∃ (kq : Nat) (x35_4 : Bool), v35 = .bool x35_4 ∧ Aside0 (rootcellarref7_Is.j1 kq l0 x3_1 x35_4 = some r) ∧ Aside0 (kq ≤ k1) ∧ Aside0 (Below w.heap.size w wc))
     case first =>
      have H := HC5.out
      clear HC5
      by_cases c7 : t242 = true
      ·subst c7
       have H1 : (if x3_1 > 0 then (if 0 ≤ (wrap64 (x3_1 - 1)) then (if (wrap64 (x3_1 - 1)) < (l0.length : Int) then (rootcellarref7_Is.j1 k1 l0 x3_1 (!(Op.bytesLess (((rd_T45 l0 (wrap64 (x3_1 - 1))).f0).toList) (((rd_T45 l0 x3_1).f0).toList)))) else (none)) else (none)) else (rootcellarref7_Is.j1 k1 l0 x3_1 false)) = some r := by rw [if_pos rfl] at H; exact H
       clear H
       have H := H1
       clear H1
       by_cases c8 : x3_1 > 0
       ·rw [if_pos c8] at H
        have c8b0 : decide (0 < x3_1) = true := decide_eq_true c8
        clear c8
        (first | rw [c8b0] | (simp only [i64_w, i32_w]; rw [c8b0]) | skip)
        obtain ⟨ji9, hji9⟩ : ∃ j_ : Int, (wrap64 (x3_1 - 1)) = j_ := ⟨_, rfl⟩
        replace H : (if 0 ≤ (ji9) then (if (ji9) < (l0.length : Int) then (rootcellarref7_Is.j1 k1 l0 x3_1 (!(Op.bytesLess (((rd_T45 l0 (ji9)).f0).toList) (((rd_T45 l0 x3_1).f0).toList)))) else (none)) else (none)) = some r := by first | (rw [hji9] at H; exact H) | (simp only [hji9] at H ⊢; exact H)
        have hji9w : (IntKind.i64.wrap (x3_1 - 1)) = ji9 := (i64_w _).trans hji9
        by_cases c10 : 0 ≤ (ji9)
        ·rw [if_pos c10] at H
         have c10b0 : decide (0 ≤ (ji9)) = true := decide_eq_true c10
         clear c10
         by_cases c11 : (ji9) < (l0.length : Int)
         ·rw [if_pos c11] at H
          have c11b0 : decide ((ji9) < (l0.length : Int)) = true := decide_eq_true c11
          clear c11
          have H' := Aside0.mk H
          clear H
          have p243 : 0 ≤ (x3_1 : Int) := of_decide_eq_true asA
          have q243 : x3_1 < (l0.length : Int) := of_decide_eq_true asA
          obtain ⟨ad243, A243_2, c243_2, e243, hx243_0, hx243_1, hx243_2, hl243_2, hi243_2⟩ := at_T45 HR0.out x3_1 p243 q243
          obtain rfl : ad241 = ad243 := (by injection e243)
          replace hx243_0 := (HB.out.cell (World.block_lt_of_cell? w _ hx243_0)).trans hx243_0
          replace hx243_1 := (HB.out.cell (World.block_lt_of_cell? w _ hx243_1)).trans hx243_1
          replace hx243_2 := (HB.out.cell (World.block_lt_of_cell? w _ hx243_2)).trans hx243_2
          have HR243_2 := Aside0.mk hi243_2
          have HC243_2 := Aside0.mk hl243_2
          clear hi243_2 hl243_2
          replace p243 := eq_true p243
          replace q243 := eq_true q243
          have p244 : 0 ≤ ((ji9) : Int) := of_decide_eq_true asA
          have q244 : (ji9) < (l0.length : Int) := of_decide_eq_true asA
          obtain ⟨ad244, A244_2, c244_2, e244, hx244_0, hx244_1, hx244_2, hl244_2, hi244_2⟩ := at_T45 HR0.out (ji9) p244 q244
          obtain rfl : ad241 = ad244 := (by injection e244)
          replace hx244_0 := (HB.out.cell (World.block_lt_of_cell? w _ hx244_0)).trans hx244_0
          replace hx244_1 := (HB.out.cell (World.block_lt_of_cell? w _ hx244_1)).trans hx244_1
          replace hx244_2 := (HB.out.cell (World.block_lt_of_cell? w _ hx244_2)).trans hx244_2
          have HR244_2 := Aside0.mk hi244_2
          have HC244_2 := Aside0.mk hl244_2
          clear hi244_2 hl244_2
          replace p244 := eq_true p244
          replace q244 := eq_true q244
          go_wp2
          repeat (go_quiet (fail); try go_wp2)
          go_meet
          case rel => exact ⟨_, (!(Op.bytesLess (((rd_T45 l0 (ji9)).f0).toList) (((rd_T45 l0 x3_1).f0).toList))), (by first | rfl | (simp; done) | (simp only [← hji9] <;> (first | rfl | simp)) | (simp [*]; done)), H', ⟨by have := HK1.out; first | omega | exact Nat.le_refl _⟩, ⟨by repeat (first | (with_reducible first | exact HB.out | apply below_alloc | apply pw_below_drewN | apply below_drew1) | exact HB.out)⟩⟩
         ·rw [if_neg c11] at H
          exact absurd H (by simp)
        ·rw [if_neg c10] at H
         exact absurd H (by simp)
       ·rw [if_neg c8] at H
        have c8b0 : decide (0 < x3_1) = false := decide_eq_false c8
        clear c8
        (first | rw [c8b0] | (simp only [i64_w, i32_w]; rw [c8b0]) | skip)
        have H' := Aside0.mk H
        clear H
        go_wp2
        repeat (go_quiet (fail); try go_wp2)
        go_meet
        case rel => exact ⟨_, (false), (by first | rfl | (simp; done) | (simp [*]; done)), H', ⟨by have := HK1.out; first | omega | exact Nat.le_refl _⟩, ⟨by repeat (first | (with_reducible first | exact HB.out | apply below_alloc | apply pw_below_drewN | apply below_drew1) | exact HB.out)⟩⟩
      ·replace c7 := Bool.eq_false_iff.mpr c7
       subst c7
       have H1 : (rootcellarref7_Is.j1 k1 l0 x3_1 true) = some r := by rw [if_neg (show ¬ (false = true) by decide)] at H; exact H
       clear H
       have H := H1
       clear H1
       have H' := Aside0.mk H
       clear H
       go_wp2
       repeat (go_quiet (fail); try go_wp2)
       go_meet
       case rel => exact ⟨_, (true), (by first | rfl | (simp; done) | (simp [*]; done)), H', ⟨by have := HK1.out; first | omega | exact Nat.le_refl _⟩, ⟨by repeat (first | (with_reducible first | exact HB.out | apply below_alloc | apply pw_below_drewN | apply below_drew1) | exact HB.out)⟩⟩
     case rest =>
      clear HC5
      try clear c1
      try clear c2
      try clear c2b0
      try clear p2
      try clear q2
      try clear hx2
      try clear c3
      try clear c3b0
      try clear p6
      try clear c7
      try clear c8
      try clear c8b0
      try clear c10
      try clear c10b0
      try clear c11
      try clear c11b0
      try clear hx241_0
      try clear hx241_1
      try clear hx241_2
      try clear hx243_0
      try clear hx243_1
      try clear hx243_2
      try clear hx244_0
      try clear hx244_1
      try clear hx244_2
      try clear p241
      try clear p243
      try clear p244
      try clear q241
      try clear q243
      try clear q244
      obtain ⟨kq, x35_4, rfl, HA, HJ4, HB⟩ := hcut
      cases kq with
      | zero => exact absurd HA.out (by simp [rootcellarref7_Is.j1])
      | succ kj4 =>
       have H := HA.out
       clear HA
       simp only [rootcellarref7_Is.j1] at H
       by_cases c12 : x35_4 = true
       ·subst c12
        have H1 : (some false) = some r := by rw [if_pos rfl] at H; exact H
        clear H
        have H := H1
        clear H1
        obtain rfl := Option.some.inj H
        go_wp2
        repeat (go_quiet (fail); try go_wp2)
        go_ret
        exact ⟨by first | rfl | (simp [errW_none, errW_some] <;> rfl) | (simp [*, errW_none, errW_some] <;> rfl), by repeat (first | (with_reducible first | exact HB.out | apply below_alloc | apply pw_below_drewN | apply below_drew1) | exact HB.out)⟩
       ·replace c12 := Bool.eq_false_iff.mpr c12
        subst c12
        have H1 : (rootcellarref7_Is.l0 kj4 l0 (wrap64 (x3_1 + 1))) = some r := by rw [if_neg (show ¬ (false = true) by decide)] at H; exact H
        clear H
        have H := H1
        clear H1
        have H' := Aside0.mk H
        clear H
        go_wp2
        repeat (go_quiet (fail); try go_wp2)
        go_roundg kj4
        case measure => have := HK1.out; have := HJ4.out; omega
        case rel => exact ⟨(wrap64 (x3_1 + 1)), (by first | rfl | (simp; done) | (simp [*]; done)), H', ⟨by have := HK1.out; have := HJ4.out; omega⟩, ⟨by repeat (first | (with_reducible first | exact HB.out | apply below_alloc | apply pw_below_drewN | apply below_drew1) | exact HB.out)⟩⟩
    ·rw [if_neg c3] at H
     exact absurd H (by simp)
   ·rw [if_neg c2] at H
    have c2b0 : decide (x3_1 < (l0.length : Int)) = false := decide_eq_false c2
    clear c2
    obtain rfl := Option.some.inj H
    go_wp2
    repeat (go_quiet (fail); try go_wp2)
    go_ret
    exact ⟨by first | rfl | (simp [errW_none, errW_some] <;> rfl) | (simp [*, errW_none, errW_some] <;> rfl), by repeat (first | (with_reducible first | exact HB.out | apply below_alloc | apply pw_below_drewN | apply below_drew1) | exact HB.out)⟩
end Go.Proofs.YtppbcankhkgpfaaDoor.PDq
namespace Go.Proofs.YtppbcankhkgpfaaDoor.PDq
open Go.RowKit Go.Proofs.YtppbcankhkgpfaaDoorW.PrintWords Go.Proofs.YtppbcankhkgpfaaDoorW.PrintLast Go.Proofs.YtppbcankhkgpfaaDoorW.PrintMore
attribute [local go_sem] max2_int min2_int max_two min_two max_three min_three max_four min_four   -- for this text's walks alone
attribute [local go_sem high] hw_str_leq hw_str_gtr
set_option linter.unusedVariables false
set_option linter.unusedSimpArgs false
mutual
def rootcellarref7_Put.l0 : Nat → List (S45) → ByteArray → Int → Option (ByteArray × Int)
 | 0, _, _, _ => none
 | k + 1, x0, x5, x6 => if x6 < (x0.length : Int) then (if 0 ≤ x6 then ((rootcellarref2_Put.f k (IntKind.u64.wrap ((((rd_T45 x0 x6).f0).size : Int))) 1).bind fun t250 => (if x5.size + t250.size ≤ 9223372036854775807 then (if (x5 ++ t250).size + ((rd_T45 x0 x6).f0).size ≤ 9223372036854775807 then ((rootcellarref2_Put.f k (IntKind.u64.wrap ((rd_T45 x0 x6).f1)) 4).bind fun t251 => (if ((x5 ++ t250) ++ ((rd_T45 x0 x6).f0)).size + t251.size ≤ 9223372036854775807 then ((rootcellarref2_Put.f k (IntKind.u64.wrap ((((rd_T45 x0 x6).f2).length : Int))) 1).bind fun t252 => (if (((x5 ++ t250) ++ ((rd_T45 x0 x6).f0)) ++ t251).size + t252.size ≤ 9223372036854775807 then (rootcellarref7_Put.l1 k x0 ((((x5 ++ t250) ++ ((rd_T45 x0 x6).f0)) ++ t251) ++ t252) x6 0 ((rd_T45 x0 x6).f0) ((rd_T45 x0 x6).f1) ((rd_T45 x0 x6).f2)) else (none))) else (none))) else (none)) else (none))) else (none)) else ((rootcellarref3_Put.f k x5).bind fun t247 => (some (t247, 0)))
def rootcellarref7_Put.l1 : Nat → List (S45) → ByteArray → Int → Int → ByteArray → Int → List (S64) → Option (ByteArray × Int)
 | 0, _, _, _, _, _, _, _ => none
 | k + 1, x0, x5, x6, x8, x250000, x250001, x250002 => if x8 < (x250002.length : Int) then (if 0 ≤ x8 then ((rootcellarref2_Put.f k (IntKind.u64.wrap ((rd_T64 x250002 x8).f0)) 2).bind fun t254 => (if x5.size + t254.size ≤ 9223372036854775807 then ((rootcellarref2_Put.f k (IntKind.u64.wrap ((rd_T64 x250002 x8).f1)) 2).bind fun t256 => (if (x5 ++ t254).size + t256.size ≤ 9223372036854775807 then (rootcellarref7_Put.l1 k x0 ((x5 ++ t254) ++ t256) x6 (wrap64 (x8 + 1)) x250000 x250001 x250002) else (none))) else (none))) else (none)) else (rootcellarref7_Put.l0 k x0 x5 (wrap64 (x6 + 1)))
end
def rootcellarref7_Put.f (k : Nat) (l0 : List (S45)) : Option (ByteArray × Int) := (rootcellarref7_Is.f k l0).bind fun t245 => (if t245 = true then ((rootcellarref2_Put.f k (IntKind.u64.wrap ((l0.length : Int))) 1).bind fun t246 => (rootcellarref7_Put.l0 k l0 t246 0)) else (some ((⟨#[]⟩ : ByteArray), 1)))
def rootcellarref3_Take.f (k : Nat) (a0 : ByteArray) : Option (ByteArray × Int) := if (a0.size : Int) < 4 then (some ((⟨#[]⟩ : ByteArray), 10)) else (if 0 ≤ (wrap64 ((a0.size : Int) - 4)) then (if (wrap64 ((a0.size : Int) - 4)) ≤ (a0.size : Int) then ((rootcellarref3_Put.f k (a0.extract 0 ((wrap64 ((a0.size : Int) - 4)) : Int).toNat)).bind fun t257 => (if t257.toList = a0.toList then (some (a0.extract 0 ((wrap64 ((a0.size : Int) - 4)) : Int).toNat, 0)) else (some ((⟨#[]⟩ : ByteArray), 9)))) else (none)) else (none))
end Go.Proofs.YtppbcankhkgpfaaDoor.PDq
