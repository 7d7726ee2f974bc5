import Derived.Test.YtppbcankhkgpfaaDoorPDpx0
import Derived.Test.YtppbcankhkgpfaaDoorPDpx11
import Derived.Test.YtppbcankhkgpfaaDoorPDpx19
import Derived.Test.YtppbcankhkgpfaaDoorPDpx20
import Derived.Test.YtppbcankhkgpfaaDoorPDpx21
import Derived.Test.YtppbcankhkgpfaaDoorPDpx28
import Derived.Test.YtppbcankhkgpfaaDoorPDpx41
import Derived.Test.YtppbcankhkgpfaaDoorPDpx43
import Derived.Test.YtppbcankhkgpfaaDoorPDpx44
--compressed
namespace Go.Proofs.YtppbcankhkgpfaaDoor.PDp
open Go.RowKit Go.Proofs.YtppbcankhkgpfaaDoorW.PrintWords Go.Proofs.YtppbcankhkgpfaaDoorW.PrintLast Go.Proofs.YtppbcankhkgpfaaDoorW.PrintMore
attribute [local go_sem] max2_int min2_int max_two min_two max_three min_three max_four min_four   -- for this text's walks alone
attribute [local go_sem high] hw_str_leq hw_str_gtr
set_option linter.unusedVariables false
set_option linter.unusedSimpArgs false
def rootcellarlaw7_DirPuts.j0 : Nat → List (S43) → Int → List (S64) → Bool → Bool → Option (Bool)
 | 0, _, _, _, _, _ => none
 | k + 1, x0, x1, x2, x7, x27 => if x27 = true then (some x7) else ((rootcellarlaw7_as.f k x0).bind fun t355 => ((dir_Put.f k x0).bind fun bt358 => ((rootcellarref7_Put.f k t355).bind fun bt360 => (if bt358.1.toList = bt360.1.toList then (if bt358.2 = bt360.2 then ((dir_Right.f k x0 x1 x2).bind fun t362 => ((rootcellarref7_Right.f k t355 x1 x2).bind fun t363 => (if (t362 == t363) = true then ((dir_Used.f k x0).bind fun t364 => ((rootcellarref7_Used.f k t355).bind fun t367 => ((rootcellarlaw7_sameSpans.f k t364 t367).bind fun t370 => (some t370)))) else (some false)))) else (some false)) else (some false)))))
def rootcellarlaw7_DirPuts.f (k : Nat) (l0 : List (S43)) (a1 : Int) (l2 : List (S64)) : Option (Bool) := (rootcellarlaw7_shown.f k).bind fun t353 => ((rootcellarlaw7_small.f k l0).bind fun t354 => (if t353 = true then (if t354 = true then (rootcellarlaw7_DirPuts.j0 k l0 a1 l2 t353 (decide ((l2.length : Int) > 20))) else (rootcellarlaw7_DirPuts.j0 k l0 a1 l2 t353 true)) else (rootcellarlaw7_DirPuts.j0 k l0 a1 l2 t353 true)))
set_option maxHeartbeats 8000000 in
set_option maxRecDepth 100000 in
theorem rootcellarlaw7_DirPuts.calls (k : Nat) (A0 : Option Addr) (c0 : Nat) (l0 : List (S43)) (a1 : Int) (A2 : Option Addr) (c2 : Nat) (l2 : List (S64)) (r : Bool) (w : World) (hr0 : Kd.C k43 w A0 l0.length l0) (hc0 : l0.length ≤ c0) (hr2 : Kd.C k64 w A2 l2.length l2) (hc2 : l2.length ≤ c2) (ht : TabsW w) (h : rootcellarlaw7_DirPuts.f k l0 a1 l2 = some r) :
  Calls Tryd.prog 9 #[.slice A0 l0.length c0, .int .i64 a1, .slice A2 l2.length c2] w fun e w' => e = .returned (.bool r) ∧ Below w.heap.size w w' := by
 have HR0 := Aside0.mk hr0
 have HC0 := Aside0.mk hc0
 clear hr0 hc0
 have HR2 := Aside0.mk hr2
 have HC2 := Aside0.mk hc2
 clear hr2 hc2
 have HT0 := Aside0.mk ht
 clear ht
 have HB := Aside0.mk (Below.refl w.heap.size w)
 have H : ((rootcellarlaw7_shown.f k).bind fun t353 => ((rootcellarlaw7_small.f k l0).bind fun t354 => (if t353 = true then (if t354 = true then (rootcellarlaw7_DirPuts.j0 k l0 a1 l2 t353 (decide ((l2.length : Int) > 20))) else (rootcellarlaw7_DirPuts.j0 k l0 a1 l2 t353 true)) else (rootcellarlaw7_DirPuts.j0 k l0 a1 l2 t353 true)))) = some r := h
 clear h
 replace H := Option.bind_eq_some_iff.mp H
 obtain ⟨t353, A40, H⟩ := H
 replace H : ((rootcellarlaw7_small.f k l0).bind fun t354 => (if t353 = true then (if t354 = true then (rootcellarlaw7_DirPuts.j0 k l0 a1 l2 t353 (decide ((l2.length : Int) > 20))) else (rootcellarlaw7_DirPuts.j0 k l0 a1 l2 t353 true)) else (rootcellarlaw7_DirPuts.j0 k l0 a1 l2 t353 true))) = some r := H
 have A4 := Aside0.mk A40
 clear A40
 replace H := Option.bind_eq_some_iff.mp H
 obtain ⟨t354, A50, H⟩ := H
 replace H : (if t353 = true then (if t354 = true then (rootcellarlaw7_DirPuts.j0 k l0 a1 l2 t353 (decide ((l2.length : Int) > 20))) else (rootcellarlaw7_DirPuts.j0 k l0 a1 l2 t353 true)) else (rootcellarlaw7_DirPuts.j0 k l0 a1 l2 t353 true)) = some r := H
 have A5 := Aside0.mk A50
 clear A50
 have HC6 := Aside0.mk H
 clear H
 go_enter Tryd.func9, Tryd.ntmps9
 go_upto_region 3 with (first | ((with_reducible refine gate_callee (f := 10) rfl ?_); refine goesL_ (some 14) rfl rfl Tryd.func10 (by kernel_rfl) rfl #[] rfl argA ?_; (with_reducible refine (rootcellarlaw7_shown.calls k  t353 _ ?side1 A4.out).mono ?_); (case side1 => exact TabsW.below HT0.out belA); rintro e w7 ⟨rfl, hb⟩; refine ⟨_, rfl, ?_⟩; have n0_ := Aside0.mk (below_step belA hb); clear HB; have HB := n0_; clear n0_; (try clear hb); (try clear hb2); (try clear hk); (try clear hi)) | ((with_reducible refine gate_callee (f := 15) rfl ?_); refine goesL_ (some 16) rfl rfl Tryd.func15 (by kernel_rfl) rfl #[.slice A0 l0.length c0] rfl argA ?_; (with_reducible refine (rootcellarlaw7_small.calls k _ _ l0 t354 _ ?side1 ?side2 A5.out).mono ?_); (case side1 => repeat (first | exact (Kd.C_below HR0.out HB.out) | (with_reducible refine Kd.C_alloc ?_ _) | (with_reducible refine Kd.C_drewN ?_ _) | (with_reducible refine Kd.C_drew ?_))); (case side2 => exact HC0.out); rintro e w' ⟨rfl, ⟨nd, rfl⟩⟩; refine ⟨_, rfl, ?_⟩))
 (try simp only [Act.put, List.setIfInBounds_toArray, List.set_cons_zero, List.set_cons_succ])
 go_cut [27] (fun v27 wc => ∃ (kq : Nat) (x27_5 : Bool), v27 = .bool x27_5 ∧ Aside0 (rootcellarlaw7_DirPuts.j0 kq l0 a1 l2 t353 x27_5 = some r) ∧ Aside0 (kq ≤ k) ∧ Aside0 (Below w.heap.size w wc))
 case first =>
  have H := HC6.out
  clear HC6
  by_cases c8 : t353 = true
  ·subst c8
   have H1 : (if t354 = true then (rootcellarlaw7_DirPuts.j0 k l0 a1 l2 true (decide ((l2.length : Int) > 20))) else (rootcellarlaw7_DirPuts.j0 k l0 a1 l2 true true)) = some r := by rw [if_pos rfl] at H; exact H
   clear H
   have H := H1
   clear H1
   by_cases c9 : t354 = true
   ·subst c9
    have H1 : (rootcellarlaw7_DirPuts.j0 k l0 a1 l2 true (decide ((l2.length : Int) > 20))) = some r := by rw [if_pos rfl] at H; exact H
    clear H
    have H := H1
    clear H1
    have H' := Aside0.mk H
    clear H
    go_wp2
    go_meet
    case rel => exact ⟨_, (decide ((l2.length : Int) > 20)), (by first | rfl | (simp; done) | (simp [*]; done)), H', ⟨by first | omega | exact Nat.le_refl _⟩, ⟨by repeat (first | (with_reducible first | exact HB.out | apply below_alloc | apply pw_below_drewN | apply below_drew1) | exact HB.out)⟩⟩
   ·replace c9 := Bool.eq_false_iff.mpr c9
    subst c9
    have H1 : (rootcellarlaw7_DirPuts.j0 k l0 a1 l2 true true) = some r := by rw [if_neg (show ¬ (false = true) by decide)] at H; exact H
    clear H
    have H := H1
    clear H1
    have H' := Aside0.mk H
    clear H
    go_wp2
    go_meet
    case rel => exact ⟨_, (true), (by first | rfl | (simp; done) | (simp [*]; done)), H', ⟨by first | omega | exact Nat.le_refl _⟩, ⟨by repeat (first | (with_reducible first | exact HB.out | apply below_alloc | apply pw_below_drewN | apply below_drew1) | exact HB.out)⟩⟩
  ·replace c8 := Bool.eq_false_iff.mpr c8
   subst c8
   have H1 : (rootcellarlaw7_DirPuts.j0 k l0 a1 l2 false true) = some r := by rw [if_neg (show ¬ (false = true) by decide)] at H; exact H
   clear H
   have H := H1
   clear H1
   have H' := Aside0.mk H
   clear H
   go_wp2
   go_meet
   case rel => exact ⟨_, (true), (by first | rfl | (simp; done) | (simp [*]; done)), H', ⟨by first | omega | exact Nat.le_refl _⟩, ⟨by repeat (first | (with_reducible first | exact HB.out | apply below_alloc | apply pw_below_drewN | apply below_drew1) | exact HB.out)⟩⟩
 case rest =>
  clear HC6
  try clear c1
  try clear c2
  try clear p2
  try clear c8
  try clear c9
  obtain ⟨kq, x27_5, rfl, HA, HJ5, HB⟩ := hcut
  cases kq with
  | zero => exact absurd HA.out (by simp [rootcellarlaw7_DirPuts.j0])
  | succ kj5 =>
   have H := HA.out
   clear HA
   simp only [rootcellarlaw7_DirPuts.j0] at H
   by_cases c10 : x27_5 = true
   ·subst c10
    have H1 : (some t353) = some r := by rw [if_pos rfl] at H; exact H
    clear H
    have H := H1
    clear H1
    obtain rfl := Option.some.inj H
    go_wp2
    go_ret
    exact ⟨by first | rfl | (simp [errW_none, errW_some] <;> rfl) | (simp [*, errW_none, errW_some] <;> rfl), by repeat (first | (with_reducible first | exact HB.out | apply below_alloc | apply pw_below_drewN | apply below_drew1) | exact HB.out)⟩
   ·replace c10 := Bool.eq_false_iff.mpr c10
    subst c10
    have H1 : ((rootcellarlaw7_as.f kj5 l0).bind fun t355 => ((dir_Put.f kj5 l0).bind fun bt358 => ((rootcellarref7_Put.f kj5 t355).bind fun bt360 => (if bt358.1.toList = bt360.1.toList then (if bt358.2 = bt360.2 then ((dir_Right.f kj5 l0 a1 l2).bind fun t362 => ((rootcellarref7_Right.f kj5 t355 a1 l2).bind fun t363 => (if (t362 == t363) = true then ((dir_Used.f kj5 l0).bind fun t364 => ((rootcellarref7_Used.f kj5 t355).bind fun t367 => ((rootcellarlaw7_sameSpans.f kj5 t364 t367).bind fun t370 => (some t370)))) else (some false)))) else (some false)) else (some false))))) = some r := by rw [if_neg (show ¬ (false = true) by decide)] at H; exact H
    clear H
    have H := H1
    clear H1
    replace H := Option.bind_eq_some_iff.mp H
    obtain ⟨t355, A110, H⟩ := H
    replace H : ((dir_Put.f kj5 l0).bind fun bt358 => ((rootcellarref7_Put.f kj5 t355).bind fun bt360 => (if bt358.1.toList = bt360.1.toList then (if bt358.2 = bt360.2 then ((dir_Right.f kj5 l0 a1 l2).bind fun t362 => ((rootcellarref7_Right.f kj5 t355 a1 l2).bind fun t363 => (if (t362 == t363) = true then ((dir_Used.f kj5 l0).bind fun t364 => ((rootcellarref7_Used.f kj5 t355).bind fun t367 => ((rootcellarlaw7_sameSpans.f kj5 t364 t367).bind fun t370 => (some t370)))) else (some false)))) else (some false)) else (some false)))) = some r := H
    have A11 := Aside0.mk A110
    clear A110
    replace H := Option.bind_eq_some_iff.mp H
    obtain ⟨⟨t358, t359⟩, A120, H⟩ := H
    replace H : ((rootcellarref7_Put.f kj5 t355).bind fun bt360 => (if t358.toList = bt360.1.toList then (if t359 = bt360.2 then ((dir_Right.f kj5 l0 a1 l2).bind fun t362 => ((rootcellarref7_Right.f kj5 t355 a1 l2).bind fun t363 => (if (t362 == t363) = true then ((dir_Used.f kj5 l0).bind fun t364 => ((rootcellarref7_Used.f kj5 t355).bind fun t367 => ((rootcellarlaw7_sameSpans.f kj5 t364 t367).bind fun t370 => (some t370)))) else (some false)))) else (some false)) else (some false))) = some r := H
    have A12 := Aside0.mk A120
    clear A120
    replace H := Option.bind_eq_some_iff.mp H
    obtain ⟨⟨t360, t361⟩, A130, H⟩ := H
    replace H : (if t358.toList = t360.toList then (if t359 = t361 then ((dir_Right.f kj5 l0 a1 l2).bind fun t362 => ((rootcellarref7_Right.f kj5 t355 a1 l2).bind fun t363 => (if (t362 == t363) = true then ((dir_Used.f kj5 l0).bind fun t364 => ((rootcellarref7_Used.f kj5 t355).bind fun t367 => ((rootcellarlaw7_sameSpans.f kj5 t364 t367).bind fun t370 => (some t370)))) else (some false)))) else (some false)) else (some false)) = some r := H
    have A13 := Aside0.mk A130
    clear A130
    by_cases c14 : t358.toList = t360.toList
    ·rw [if_pos c14] at H
     have c14b0 : (t358.toList == t360.toList) = true := beq_iff_eq.mpr c14
     have c14b1 : (t358.toList != t360.toList) = false := bne_eq_false_iff_eq.mpr c14
     clear c14
     by_cases c15 : t359 = t361
     ·rw [if_pos c15] at H
      have c15b0 : (t359 == t361) = true := beq_iff_eq.mpr c15
      have c15b1 : (t359 != t361) = false := bne_eq_false_iff_eq.mpr c15
      clear c15
      replace H := Option.bind_eq_some_iff.mp H
      obtain ⟨t362, A160, H⟩ := H
      replace H : ((rootcellarref7_Right.f kj5 t355 a1 l2).bind fun t363 => (if (t362 == t363) = true then ((dir_Used.f kj5 l0).bind fun t364 => ((rootcellarref7_Used.f kj5 t355).bind fun t367 => ((rootcellarlaw7_sameSpans.f kj5 t364 t367).bind fun t370 => (some t370)))) else (some false))) = some r := H
      have A16 := Aside0.mk A160
      clear A160
      replace H := Option.bind_eq_some_iff.mp H
      obtain ⟨t363, A170, H⟩ := H
      replace H : (if (t362 == t363) = true then ((dir_Used.f kj5 l0).bind fun t364 => ((rootcellarref7_Used.f kj5 t355).bind fun t367 => ((rootcellarlaw7_sameSpans.f kj5 t364 t367).bind fun t370 => (some t370)))) else (some false)) = some r := H
      have A17 := Aside0.mk A170
      clear A170
      by_cases c18 : (t362 == t363) = true
      ·rw [if_pos c18] at H
       have c18b0 : (t362 == t363) = true := c18
       (try (have c18b1 : decide (t362 = t363) = true := by simpa using c18))
       (try (have c18b2 : (t362 == t363) = true := by simpa using c18))
       clear c18
       replace H := Option.bind_eq_some_iff.mp H
       obtain ⟨t364, A190, H⟩ := H
       replace H : ((rootcellarref7_Used.f kj5 t355).bind fun t367 => ((rootcellarlaw7_sameSpans.f kj5 t364 t367).bind fun t370 => (some t370))) = some r := H
       have A19 := Aside0.mk A190
       clear A190
       replace H := Option.bind_eq_some_iff.mp H
       obtain ⟨t367, A200, H⟩ := H
       replace H : ((rootcellarlaw7_sameSpans.f kj5 t364 t367).bind fun t370 => (some t370)) = some r := H
       have A20 := Aside0.mk A200
       clear A200
       replace H := Option.bind_eq_some_iff.mp H
       obtain ⟨t370, A210, H⟩ := H
       replace H : (some t370) = some r := H
       have A21 := Aside0.mk A210
       clear A210
       obtain rfl := Option.some.inj H
       go_wp2_with (first | ((with_reducible refine gate_callee (f := 17) rfl ?_); refine goesL_ (some 30) rfl rfl Tryd.func17 (by kernel_rfl) rfl #[.slice A0 l0.length c0] rfl argA ?_; (with_reducible refine (rootcellarlaw7_as.calls kj5 (fun k_ => k_ < w.heap.size) _ _ l0 t355 _ ?side1 A11.out).mono ?_); (case side1 => exact Kd.V_mk HC0.out (Kd.F_below (Kd.C_F k43_heap HR0.out) belA)); rintro e w22 ⟨v356, rfl, ho0, hb⟩; refine ⟨_, rfl, ?_⟩; have n0_ := Aside0.mk (Kd.N_lower (Kd.N_mono (ok' := fun k_ => True) ho0 (fun k_ hk_ => trivial)) (below_size belA)); have n1_ := Aside0.mk (below_step belA hb); clear HB; have HO357 := n0_; have HB := n1_; clear n0_ n1_; (try clear hb); (try clear hb2); (try clear hk); (try clear hi); (try clear ho0)) | ((with_reducible refine gate_callee (f := 16) rfl ?_); refine goesL_ (some 33) rfl rfl Tryd.func16 (by kernel_rfl) rfl #[.slice A0 l0.length c0] rfl argA ?_; (with_reducible refine (dir_Put.calls kj5 _ _ l0 t358 t359 _ ?side1 ?side2 ?side3 A12.out).mono ?_); (case side1 => repeat (first | exact (Kd.C_below HR0.out HB.out) | (with_reducible refine Kd.C_alloc ?_ _) | (with_reducible refine Kd.C_drewN ?_ _) | (with_reducible refine Kd.C_drew ?_))); (case side2 => exact HC0.out); (case side3 => exact TabsW.below HT0.out belA); rintro e w23 ⟨rfl, hb⟩; refine ⟨_, rfl, ?_⟩; have n0_ := Aside0.mk (Kd.N_below (kdN_ HO357.out) hb); have n1_ := Aside0.mk (below_step belA hb); clear HO357; clear HB; have HO357 := n0_; have HB := n1_; clear n0_ n1_; (try clear hb); (try clear hb2); (try clear hk); (try clear hi); obtain ⟨Ao24, co24, eo24⟩ := Kd.N_slice HO357.out; subst eo24) | ((with_reducible refine gate_callee (f := 27) rfl ?_); refine goesL_ (some 38) rfl rfl Tryd.func27 (by kernel_rfl) rfl #[.slice Ao24 t355.length co24] rfl argA ?_; (with_reducible refine (rootcellarref7_Put.calls kj5 _ _ t355 t360 t361 _ ?side1 ?side2 A13.out).mono ?_); (case side1 => repeat (first | exact (Kd.N_reads' HO357.out).2.2 | (with_reducible refine Kd.C_alloc ?_ _) | (with_reducible refine Kd.C_drewN ?_ _) | (with_reducible refine Kd.C_drew ?_))); (case side2 => exact (Kd.N_reads' HO357.out).2.1); rintro e w25 ⟨rfl, hb⟩; refine ⟨_, rfl, ?_⟩; have n0_ := Aside0.mk (Kd.N_below (kdN_ HO357.out) hb); have n1_ := Aside0.mk (below_step belA hb); clear HO357; clear HB; have HO357 := n0_; have HB := n1_; clear n0_ n1_; (try clear hb); (try clear hb2); (try clear hk); (try clear hi)) | (go_at_call 28; (with_reducible refine (dir_Right.calls kj5 _ _ l0 a1 (fun k_ => k_ < w.heap.size) _ _ l2 t362 _ ?side1 ?side2 ?side3 ?side4 A16.out).mono ?_); (case side1 => repeat (first | exact (Kd.C_below HR0.out HB.out) | (with_reducible refine Kd.C_alloc ?_ _) | (with_reducible refine Kd.C_drewN ?_ _) | (with_reducible refine Kd.C_drew ?_))); (case side2 => exact HC0.out); (case side3 => exact Kd.V_mk HC2.out (Kd.F_below (Kd.C_F k64_heap HR2.out) belA)); (case side4 => exact TabsW.below HT0.out belA); rintro e w26 ⟨rfl, hb⟩; have n0_ := Aside0.mk (Kd.N_below (kdN_ HO357.out) hb); have n1_ := Aside0.mk (below_step belA hb); clear HO357; clear HB; have HO357 := n0_; have HB := n1_; clear n0_ n1_; (try clear hb); (try clear hb2); (try clear hk); (try clear hi)) | (go_at_call 29; (with_reducible refine (rootcellarref7_Right.calls kj5 _ _ t355 a1 _ _ l2 t363 _ ?side1 ?side2 ?side3 ?side4 A17.out).mono ?_); (case side1 => repeat (first | exact (Kd.N_reads' HO357.out).2.2 | (with_reducible refine Kd.C_alloc ?_ _) | (with_reducible refine Kd.C_drewN ?_ _) | (with_reducible refine Kd.C_drew ?_))); (case side2 => exact (Kd.N_reads' HO357.out).2.1); (case side3 => repeat (first | exact (Kd.C_below HR2.out HB.out) | (with_reducible refine Kd.C_alloc ?_ _) | (with_reducible refine Kd.C_drewN ?_ _) | (with_reducible refine Kd.C_drew ?_))); (case side4 => exact HC2.out); rintro e w27 ⟨rfl, hb⟩; have n0_ := Aside0.mk (Kd.N_below (kdN_ HO357.out) hb); have n1_ := Aside0.mk (below_step belA hb); clear HO357; clear HB; have HO357 := n0_; have HB := n1_; clear n0_ n1_; (try clear hb); (try clear hb2); (try clear hk); (try clear hi)) | (go_at_call 26; (with_reducible refine (dir_Used.calls kj5 _ _ l0 t364 _ ?side1 ?side2 A19.out).mono ?_); (case side1 => repeat (first | exact (Kd.C_below HR0.out HB.out) | (with_reducible refine Kd.C_alloc ?_ _) | (with_reducible refine Kd.C_drewN ?_ _) | (with_reducible refine Kd.C_drew ?_))); (case side2 => exact HC0.out); rintro e w28 ⟨v365, rfl, ho0, hb⟩; have n0_ := Aside0.mk (Kd.N_elder' (kdN_ HO357.out) (by first | exact Kd.R_base ho0 | exact Kd.N_base (Kd.S_N (Kd.S_bound ho0))) hb); have n1_ := Aside0.mk (Kd.R_lower ho0 (below_size belA)); have n2_ := Aside0.mk (below_step belA hb); clear HO357; clear HB; have HO357 := n0_; have HO366 := n1_; have HB := n2_; clear n0_ n1_ n2_; (try clear hb); (try clear hb2); (try clear hk); (try clear hi); (try clear ho0)) | (go_at_call 31; (with_reducible refine (rootcellarref7_Used.calls kj5 _ _ t355 t367 _ ?side1 ?side2 A20.out).mono ?_); (case side1 => repeat (first | exact (Kd.N_reads' HO357.out).2.2 | (with_reducible refine Kd.C_alloc ?_ _) | (with_reducible refine Kd.C_drewN ?_ _) | (with_reducible refine Kd.C_drew ?_))); (case side2 => exact (Kd.N_reads' HO357.out).2.1); rintro e w29 ⟨v368, rfl, ho0, hb⟩; have n0_ := Aside0.mk (Kd.N_elder' (kdN_ HO357.out) (by first | exact Kd.R_base ho0 | exact Kd.N_base (Kd.S_N (Kd.S_bound ho0))) hb); have n1_ := Aside0.mk (Kd.R_elder' (kdR_ HO366.out) (by first | exact Kd.R_base ho0 | exact Kd.N_base (Kd.S_N (Kd.S_bound ho0))) hb); have n2_ := Aside0.mk (Kd.R_lower (Kd.R_new' ho0 (Kd.R_lt (kdR_ HO366.out))) (below_size belA)); have n3_ := Aside0.mk (below_step belA hb); clear HO357; clear HO366; clear HB; have HO357 := n0_; have HO366 := n1_; have HO369 := n2_; have HB := n3_; clear n0_ n1_ n2_ n3_; (try clear hb); (try clear hb2); (try clear hk); (try clear hi); (try clear ho0); obtain ⟨Ao30, co30, eo30⟩ := Kd.R_slice HO366.out; subst eo30; obtain ⟨Ao31, co31, eo31⟩ := Kd.R_slice HO369.out; subst eo31) | (go_at_call 30; (with_reducible refine (rootcellarlaw7_sameSpans.calls kj5 _ _ t364 _ _ t367 t370 _ ?side1 ?side2 ?side3 ?side4 A21.out).mono ?_); (case side1 => repeat (first | exact (Kd.R_reads' HO366.out).2.2 | (with_reducible refine Kd.C_alloc ?_ _) | (with_reducible refine Kd.C_drewN ?_ _) | (with_reducible refine Kd.C_drew ?_))); (case side2 => exact (Kd.R_reads' HO366.out).2.1); (case side3 => repeat (first | exact (Kd.R_reads' HO369.out).2.2 | (with_reducible refine Kd.C_alloc ?_ _) | (with_reducible refine Kd.C_drewN ?_ _) | (with_reducible refine Kd.C_drew ?_))); (case side4 => exact (Kd.R_reads' HO369.out).2.1); rintro e w' ⟨rfl, ⟨nd, rfl⟩⟩))
       go_ret
       exact ⟨by first | rfl | (simp [errW_none, errW_some] <;> rfl) | (simp [*, errW_none, errW_some] <;> rfl), by repeat (first | (with_reducible first | exact HB.out | apply below_alloc | apply pw_below_drewN | apply below_drew1) | exact HB.out)⟩
      ·rw [if_neg c18] at H
       have c18b0 : (t362 == t363) = false := by simpa using c18
       (try (have c18b1 : decide (t362 = t363) = false := by simpa using c18))
       (try (have c18b2 : (t362 == t363) = false := by simpa using c18))
       (try (have c18b3 : ¬ (t362 = t363) := by simpa using c18))
       clear c18
       obtain rfl := Option.some.inj H
       go_wp2_with (first | ((with_reducible refine gate_callee (f := 17) rfl ?_); refine goesL_ (some 30) rfl rfl Tryd.func17 (by kernel_rfl) rfl #[.slice A0 l0.length c0] rfl argA ?_; (with_reducible refine (rootcellarlaw7_as.calls kj5 (fun k_ => k_ < w.heap.size) _ _ l0 t355 _ ?side1 A11.out).mono ?_); (case side1 => exact Kd.V_mk HC0.out (Kd.F_below (Kd.C_F k43_heap HR0.out) belA)); rintro e w32 ⟨v356, rfl, ho0, hb⟩; refine ⟨_, rfl, ?_⟩; have n0_ := Aside0.mk (Kd.N_lower (Kd.N_mono (ok' := fun k_ => True) ho0 (fun k_ hk_ => trivial)) (below_size belA)); have n1_ := Aside0.mk (below_step belA hb); clear HB; have HO357 := n0_; have HB := n1_; clear n0_ n1_; (try clear hb); (try clear hb2); (try clear hk); (try clear hi); (try clear ho0)) | ((with_reducible refine gate_callee (f := 16) rfl ?_); refine goesL_ (some 33) rfl rfl Tryd.func16 (by kernel_rfl) rfl #[.slice A0 l0.length c0] rfl argA ?_; (with_reducible refine (dir_Put.calls kj5 _ _ l0 t358 t359 _ ?side1 ?side2 ?side3 A12.out).mono ?_); (case side1 => repeat (first | exact (Kd.C_below HR0.out HB.out) | (with_reducible refine Kd.C_alloc ?_ _) | (with_reducible refine Kd.C_drewN ?_ _) | (with_reducible refine Kd.C_drew ?_))); (case side2 => exact HC0.out); (case side3 => exact TabsW.below HT0.out belA); rintro e w33 ⟨rfl, hb⟩; refine ⟨_, rfl, ?_⟩; have n0_ := Aside0.mk (Kd.N_below (kdN_ HO357.out) hb); have n1_ := Aside0.mk (below_step belA hb); clear HO357; clear HB; have HO357 := n0_; have HB := n1_; clear n0_ n1_; (try clear hb); (try clear hb2); (try clear hk); (try clear hi); obtain ⟨Ao34, co34, eo34⟩ := Kd.N_slice HO357.out; subst eo34) | ((with_reducible refine gate_callee (f := 27) rfl ?_); refine goesL_ (some 38) rfl rfl Tryd.func27 (by kernel_rfl) rfl #[.slice Ao34 t355.length co34] rfl argA ?_; (with_reducible refine (rootcellarref7_Put.calls kj5 _ _ t355 t360 t361 _ ?side1 ?side2 A13.out).mono ?_); (case side1 => repeat (first | exact (Kd.N_reads' HO357.out).2.2 | (with_reducible refine Kd.C_alloc ?_ _) | (with_reducible refine Kd.C_drewN ?_ _) | (with_reducible refine Kd.C_drew ?_))); (case side2 => exact (Kd.N_reads' HO357.out).2.1); rintro e w35 ⟨rfl, hb⟩; refine ⟨_, rfl, ?_⟩; have n0_ := Aside0.mk (Kd.N_below (kdN_ HO357.out) hb); have n1_ := Aside0.mk (below_step belA hb); clear HO357; clear HB; have HO357 := n0_; have HB := n1_; clear n0_ n1_; (try clear hb); (try clear hb2); (try clear hk); (try clear hi)) | (go_at_call 28; (with_reducible refine (dir_Right.calls kj5 _ _ l0 a1 (fun k_ => k_ < w.heap.size) _ _ l2 t362 _ ?side1 ?side2 ?side3 ?side4 A16.out).mono ?_); (case side1 => repeat (first | exact (Kd.C_below HR0.out HB.out) | (with_reducible refine Kd.C_alloc ?_ _) | (with_reducible refine Kd.C_drewN ?_ _) | (with_reducible refine Kd.C_drew ?_))); (case side2 => exact HC0.out); (case side3 => exact Kd.V_mk HC2.out (Kd.F_below (Kd.C_F k64_heap HR2.out) belA)); (case side4 => exact TabsW.below HT0.out belA); rintro e w36 ⟨rfl, hb⟩; have n0_ := Aside0.mk (Kd.N_below (kdN_ HO357.out) hb); have n1_ := Aside0.mk (below_step belA hb); clear HO357; clear HB; have HO357 := n0_; have HB := n1_; clear n0_ n1_; (try clear hb); (try clear hb2); (try clear hk); (try clear hi)) | (go_at_call 29; (with_reducible refine (rootcellarref7_Right.calls kj5 _ _ t355 a1 _ _ l2 t363 _ ?side1 ?side2 ?side3 ?side4 A17.out).mono ?_); (case side1 => repeat (first | exact (Kd.N_reads' HO357.out).2.2 | (with_reducible refine Kd.C_alloc ?_ _) | (with_reducible refine Kd.C_drewN ?_ _) | (with_reducible refine Kd.C_drew ?_))); (case side2 => exact (Kd.N_reads' HO357.out).2.1); (case side3 => repeat (first | exact (Kd.C_below HR2.out HB.out) | (with_reducible refine Kd.C_alloc ?_ _) | (with_reducible refine Kd.C_drewN ?_ _) | (with_reducible refine Kd.C_drew ?_))); (case side4 => exact HC2.out); rintro e w37 ⟨rfl, hb⟩; have n0_ := Aside0.mk (Kd.N_below (kdN_ HO357.out) hb); have n1_ := Aside0.mk (below_step belA hb); clear HO357; clear HB; have HO357 := n0_; have HB := n1_; clear n0_ n1_; (try clear hb); (try clear hb2); (try clear hk); (try clear hi)))
       go_ret
       exact ⟨by first | rfl | (simp [errW_none, errW_some] <;> rfl) | (simp [*, errW_none, errW_some] <;> rfl), by repeat (first | (with_reducible first | exact HB.out | apply below_alloc | apply pw_below_drewN | apply below_drew1) | exact HB.out)⟩
     ·rw [if_neg c15] at H
      have c15b0 : (t359 == t361) = false := beq_eq_false_iff_ne.mpr c15
      have c15b1 : (t359 != t361) = true := bne_iff_ne.mpr c15
      obtain rfl := Option.some.inj H
      go_wp2_with (first | ((with_reducible refine gate_callee (f := 17) rfl ?_); refine goesL_ (some 30) rfl rfl Tryd.func17 (by kernel_rfl) rfl #[.slice A0 l0.length c0] rfl argA ?_; (with_reducible refine (rootcellarlaw7_as.calls kj5 (fun k_ => k_ < w.heap.size) _ _ l0 t355 _ ?side1 A11.out).mono ?_); (case side1 => exact Kd.V_mk HC0.out (Kd.F_below (Kd.C_F k43_heap HR0.out) belA)); rintro e w38 ⟨v356, rfl, ho0, hb⟩; refine ⟨_, rfl, ?_⟩; have n0_ := Aside0.mk (Kd.N_lower (Kd.N_mono (ok' := fun k_ => True) ho0 (fun k_ hk_ => trivial)) (below_size belA)); have n1_ := Aside0.mk (below_step belA hb); clear HB; have HO357 := n0_; have HB := n1_; clear n0_ n1_; (try clear hb); (try clear hb2); (try clear hk); (try clear hi); (try clear ho0)) | ((with_reducible refine gate_callee (f := 16) rfl ?_); refine goesL_ (some 33) rfl rfl Tryd.func16 (by kernel_rfl) rfl #[.slice A0 l0.length c0] rfl argA ?_; (with_reducible refine (dir_Put.calls kj5 _ _ l0 t358 t359 _ ?side1 ?side2 ?side3 A12.out).mono ?_); (case side1 => repeat (first | exact (Kd.C_below HR0.out HB.out) | (with_reducible refine Kd.C_alloc ?_ _) | (with_reducible refine Kd.C_drewN ?_ _) | (with_reducible refine Kd.C_drew ?_))); (case side2 => exact HC0.out); (case side3 => exact TabsW.below HT0.out belA); rintro e w39 ⟨rfl, hb⟩; refine ⟨_, rfl, ?_⟩; have n0_ := Aside0.mk (Kd.N_below (kdN_ HO357.out) hb); have n1_ := Aside0.mk (below_step belA hb); clear HO357; clear HB; have HO357 := n0_; have HB := n1_; clear n0_ n1_; (try clear hb); (try clear hb2); (try clear hk); (try clear hi); obtain ⟨Ao40, co40, eo40⟩ := Kd.N_slice HO357.out; subst eo40) | ((with_reducible refine gate_callee (f := 27) rfl ?_); refine goesL_ (some 38) rfl rfl Tryd.func27 (by kernel_rfl) rfl #[.slice Ao40 t355.length co40] rfl argA ?_; (with_reducible refine (rootcellarref7_Put.calls kj5 _ _ t355 t360 t361 _ ?side1 ?side2 A13.out).mono ?_); (case side1 => repeat (first | exact (Kd.N_reads' HO357.out).2.2 | (with_reducible refine Kd.C_alloc ?_ _) | (with_reducible refine Kd.C_drewN ?_ _) | (with_reducible refine Kd.C_drew ?_))); (case side2 => exact (Kd.N_reads' HO357.out).2.1); rintro e w41 ⟨rfl, hb⟩; refine ⟨_, rfl, ?_⟩; have n0_ := Aside0.mk (Kd.N_below (kdN_ HO357.out) hb); have n1_ := Aside0.mk (below_step belA hb); clear HO357; clear HB; have HO357 := n0_; have HB := n1_; clear n0_ n1_; (try clear hb); (try clear hb2); (try clear hk); (try clear hi)))
      go_ret
      exact ⟨by first | rfl | (simp [errW_none, errW_some] <;> rfl) | (simp [*, errW_none, errW_some] <;> rfl), by repeat (first | (with_reducible first | exact HB.out | apply below_alloc | apply pw_below_drewN | apply below_drew1) | exact HB.out)⟩
    ·rw [if_neg c14] at H
     have c14b0 : (t358.toList == t360.toList) = false := beq_eq_false_iff_ne.mpr c14
     have c14b1 : (t358.toList != t360.toList) = true := bne_iff_ne.mpr c14
     obtain rfl := Option.some.inj H
     go_wp2_with (first | ((with_reducible refine gate_callee (f := 17) rfl ?_); refine goesL_ (some 30) rfl rfl Tryd.func17 (by kernel_rfl) rfl #[.slice A0 l0.length c0] rfl argA ?_; (with_reducible refine (rootcellarlaw7_as.calls kj5 (fun k_ => k_ < w.heap.size) _ _ l0 t355 _ ?side1 A11.out).mono ?_); (case side1 => exact Kd.V_mk HC0.out (Kd.F_below (Kd.C_F k43_heap HR0.out) belA)); rintro e w42 ⟨v356, rfl, ho0, hb⟩; refine ⟨_, rfl, ?_⟩; have n0_ := Aside0.mk (Kd.N_lower (Kd.N_mono (ok' := fun k_ => True) ho0 (fun k_ hk_ => trivial)) (below_size belA)); have n1_ := Aside0.mk (below_step belA hb); clear HB; have HO357 := n0_; have HB := n1_; clear n0_ n1_; (try clear hb); (try clear hb2); (try clear hk); (try clear hi); (try clear ho0)) | ((with_reducible refine gate_callee (f := 16) rfl ?_); refine goesL_ (some 33) rfl rfl Tryd.func16 (by kernel_rfl) rfl #[.slice A0 l0.length c0] rfl argA ?_; (with_reducible refine (dir_Put.calls kj5 _ _ l0 t358 t359 _ ?side1 ?side2 ?side3 A12.out).mono ?_); (case side1 => repeat (first | exact (Kd.C_below HR0.out HB.out) | (with_reducible refine Kd.C_alloc ?_ _) | (with_reducible refine Kd.C_drewN ?_ _) | (with_reducible refine Kd.C_drew ?_))); (case side2 => exact HC0.out); (case side3 => exact TabsW.below HT0.out belA); rintro e w43 ⟨rfl, hb⟩; refine ⟨_, rfl, ?_⟩; have n0_ := Aside0.mk (Kd.N_below (kdN_ HO357.out) hb); have n1_ := Aside0.mk (below_step belA hb); clear HO357; clear HB; have HO357 := n0_; have HB := n1_; clear n0_ n1_; (try clear hb); (try clear hb2); (try clear hk); (try clear hi); obtain ⟨Ao44, co44, eo44⟩ := Kd.N_slice HO357.out; subst eo44) | ((with_reducible refine gate_callee (f := 27) rfl ?_); refine goesL_ (some 38) rfl rfl Tryd.func27 (by kernel_rfl) rfl #[.slice Ao44 t355.length co44] rfl argA ?_; (with_reducible refine (rootcellarref7_Put.calls kj5 _ _ t355 t360 t361 _ ?side1 ?side2 A13.out).mono ?_); (case side1 => repeat (first | exact (Kd.N_reads' HO357.out).2.2 | (with_reducible refine Kd.C_alloc ?_ _) | (with_reducible refine Kd.C_drewN ?_ _) | (with_reducible refine Kd.C_drew ?_))); (case side2 => exact (Kd.N_reads' HO357.out).2.1); rintro e w45 ⟨rfl, hb⟩; refine ⟨_, rfl, ?_⟩; have n0_ := Aside0.mk (Kd.N_below (kdN_ HO357.out) hb); have n1_ := Aside0.mk (below_step belA hb); clear HO357; clear HB; have HO357 := n0_; have HB := n1_; clear n0_ n1_; (try clear hb); (try clear hb2); (try clear hk); (try clear hi)))
     go_ret
     exact ⟨by first | rfl | (simp [errW_none, errW_some] <;> rfl) | (simp [*, errW_none, errW_some] <;> rfl), by repeat (first | (with_reducible first | exact HB.out | apply below_alloc | apply pw_below_drewN | apply below_drew1) | exact HB.out)⟩
end Go.Proofs.YtppbcankhkgpfaaDoor.PDp
namespace Go.Proofs.YtppbcankhkgpfaaDoor.PDp
open Go.RowKit Go.Proofs.YtppbcankhkgpfaaDoorW.PrintWords Go.Proofs.YtppbcankhkgpfaaDoorW.PrintLast Go.Proofs.YtppbcankhkgpfaaDoorW.PrintMore
attribute [local go_sem] max2_int min2_int max_two min_two max_three min_three max_four min_four   -- for this text's walks alone
attribute [local go_sem high] hw_str_leq hw_str_gtr
set_option linter.unusedVariables false
set_option linter.unusedSimpArgs false
end Go.Proofs.YtppbcankhkgpfaaDoor.PDp
