-- laid by gprint.py (this session's own program) out of the translation: Lean checks it
import Derived.Test.YtppbcankhkgpfaaDoorPDirx0
import Derived.Test.YtppbcankhkgpfaaDoorPDirx11
import Derived.Test.YtppbcankhkgpfaaDoorPDirx14
import Derived.Test.YtppbcankhkgpfaaDoorPDirx20
import Derived.Test.YtppbcankhkgpfaaDoorPDirx29
import Derived.Test.YtppbcankhkgpfaaDoorPDirx31
--compressed
namespace Go.Proofs.YtppbcankhkgpfaaDoor.PDir
open Go.RowKit Go.Proofs.YtppbcankhkgpfaaDoorW.PrintWords Go.Proofs.YtppbcankhkgpfaaDoorW.PrintLast Go.Proofs.YtppbcankhkgpfaaDoorW.PrintMore
attribute [local go_sem] max2_int min2_int max_two min_two max_three min_three max_four min_four   -- for this text's walks alone
attribute [local go_sem high] hw_str_leq hw_str_gtr
set_option linter.unusedVariables false
set_option linter.unusedSimpArgs false
mutual
def rootcellarlaw7_DirTakes.j0 : Nat → ByteArray → Bool → Bool → Bool → Option (Bool)
 | 0, _, _, _, _ => none
 | k + 1, x0, x1, x5, x17 => if x17 = true then (some x5) else (if x1 = true then ((rootcellarref3_Put.f k x0).bind fun t314 => (rootcellarlaw7_DirTakes.j1 k t314)) else (rootcellarlaw7_DirTakes.j1 k x0))
def rootcellarlaw7_DirTakes.j1 : Nat → ByteArray → Option (Bool)
 | 0, _ => none
 | k + 1, x0 => (dir_Take.f k x0).bind fun bt315 => ((rootcellarref7_Take.f k x0).bind fun bt319 => ((rootcellarlaw7_same.f k bt315.1 bt319.1).bind fun t323 => (if t323 = true then (some (bt315.2 == bt319.2)) else (some false))))
end
def rootcellarlaw7_DirTakes.f (k : Nat) (a0 : ByteArray) (a1 : Bool) : Option (Bool) := (rootcellarlaw7_shown.f k).bind fun t313 => (if t313 = true then (rootcellarlaw7_DirTakes.j0 k a0 a1 t313 (decide ((a0.size : Int) > 2000))) else (rootcellarlaw7_DirTakes.j0 k a0 a1 t313 true))
theorem rootcellarlaw7_DirTakes.mono_l : ∀ k, (∀ y0 y1 y2 y3, LeO (rootcellarlaw7_DirTakes.j0 k y0 y1 y2 y3) (rootcellarlaw7_DirTakes.j0 (k + 1) y0 y1 y2 y3)) ∧ (∀ y0, LeO (rootcellarlaw7_DirTakes.j1 k y0) (rootcellarlaw7_DirTakes.j1 (k + 1) y0))
 | 0 => ⟨fun _ _ _ _ r h => by simp [rootcellarlaw7_DirTakes.j0] at h, fun _ r h => by simp [rootcellarlaw7_DirTakes.j1] at h⟩
 | k + 1 => by
  obtain ⟨ih0, ih1⟩ := rootcellarlaw7_DirTakes.mono_l k
  refine ⟨?_, ?_⟩
  ·intro y0 y1 y2 y3
   unfold rootcellarlaw7_DirTakes.j0
   repeat' first
   | (with_reducible exact ih0 _ _ _ _)
   | (with_reducible exact ih1 _)
   | (with_reducible exact dir_Take.mono _ _)
   | (with_reducible exact rootcellarlaw7_same.mono _ _ _)
   | (with_reducible exact rootcellarlaw7_shown.mono _)
   | (with_reducible exact rootcellarref3_Put.mono _ _)
   | (with_reducible exact rootcellarref7_Take.mono _ _)
   | (with_reducible exact LeO.refl _)
   | (with_reducible exact LeO.none _)
   | (with_reducible refine LeO.ite ?_ ?_)
   | (with_reducible refine LeO.bind ?_ (fun _ => ?_))
   | exact ih0 _ _ _ _
   | exact ih1 _
   | exact dir_Take.mono _ _
   | exact rootcellarlaw7_same.mono _ _ _
   | exact rootcellarlaw7_shown.mono _
   | exact rootcellarref3_Put.mono _ _
   | exact rootcellarref7_Take.mono _ _
   | exact LeO.none _
   | refine LeO.ite ?_ ?_
   | refine LeO.bind ?_ (fun _ => ?_)
  ·intro y0
   unfold rootcellarlaw7_DirTakes.j1
   repeat' first
   | (with_reducible exact ih0 _ _ _ _)
   | (with_reducible exact ih1 _)
   | (with_reducible exact dir_Take.mono _ _)
   | (with_reducible exact rootcellarlaw7_same.mono _ _ _)
   | (with_reducible exact rootcellarlaw7_shown.mono _)
   | (with_reducible exact rootcellarref3_Put.mono _ _)
   | (with_reducible exact rootcellarref7_Take.mono _ _)
   | (with_reducible exact LeO.refl _)
   | (with_reducible exact LeO.none _)
   | (with_reducible refine LeO.ite ?_ ?_)
   | (with_reducible refine LeO.bind ?_ (fun _ => ?_))
   | exact ih0 _ _ _ _
   | exact ih1 _
   | exact dir_Take.mono _ _
   | exact rootcellarlaw7_same.mono _ _ _
   | exact rootcellarlaw7_shown.mono _
   | exact rootcellarref3_Put.mono _ _
   | exact rootcellarref7_Take.mono _ _
   | exact LeO.none _
   | refine LeO.ite ?_ ?_
   | refine LeO.bind ?_ (fun _ => ?_)
theorem rootcellarlaw7_DirTakes.mono : ∀ a0 a1 k, LeO (rootcellarlaw7_DirTakes.f k a0 a1) (rootcellarlaw7_DirTakes.f (k + 1) a0 a1) := by
 intro a0 a1 k
 obtain ⟨ih0, ih1⟩ := rootcellarlaw7_DirTakes.mono_l k
 unfold rootcellarlaw7_DirTakes.f
 repeat' first
   | (with_reducible exact ih0 _ _ _ _)
   | (with_reducible exact ih1 _)
   | (with_reducible exact dir_Take.mono _ _)
   | (with_reducible exact rootcellarlaw7_same.mono _ _ _)
   | (with_reducible exact rootcellarlaw7_shown.mono _)
   | (with_reducible exact rootcellarref3_Put.mono _ _)
   | (with_reducible exact rootcellarref7_Take.mono _ _)
   | (with_reducible exact LeO.refl _)
   | (with_reducible exact LeO.none _)
   | (with_reducible refine LeO.ite ?_ ?_)
   | (with_reducible refine LeO.bind ?_ (fun _ => ?_))
   | exact ih0 _ _ _ _
   | exact ih1 _
   | exact dir_Take.mono _ _
   | exact rootcellarlaw7_same.mono _ _ _
   | exact rootcellarlaw7_shown.mono _
   | exact rootcellarref3_Put.mono _ _
   | exact rootcellarref7_Take.mono _ _
   | exact LeO.none _
   | refine LeO.ite ?_ ?_
   | refine LeO.bind ?_ (fun _ => ?_)
set_option maxHeartbeats 8000000 in
set_option maxRecDepth 100000 in
theorem rootcellarlaw7_DirTakes.calls (k : Nat) (a0 : ByteArray) (a1 : Bool) (r : Bool) (w : World) (ht : TabsW w) (h : rootcellarlaw7_DirTakes.f k a0 a1 = some r) :
  Calls Tryd.prog 3 #[.string a0, .bool a1] w fun e w' => e = .returned (.bool r) ∧ Below w.heap.size w w' := by
 have HT0 := Aside0.mk ht
 clear ht
 have HB := Aside0.mk (Below.refl w.heap.size w)
 have H : ((rootcellarlaw7_shown.f k).bind fun t313 => (if t313 = true then (rootcellarlaw7_DirTakes.j0 k a0 a1 t313 (decide ((a0.size : Int) > 2000))) else (rootcellarlaw7_DirTakes.j0 k a0 a1 t313 true))) = some r := h
 clear h
 replace H := Option.bind_eq_some_iff.mp H
 obtain ⟨t313, A30, H⟩ := H
 replace H : (if t313 = true then (rootcellarlaw7_DirTakes.j0 k a0 a1 t313 (decide ((a0.size : Int) > 2000))) else (rootcellarlaw7_DirTakes.j0 k a0 a1 t313 true)) = some r := H
 have A3 := Aside0.mk A30
 clear A30
 have HC4 := Aside0.mk H
 clear H
 go_enter Tryd.func3, Tryd.ntmps3
 go_upto_region 2 with (first | ((with_reducible refine gate_callee (f := 10) rfl ?_); refine goesL_ (some 10) rfl rfl Tryd.func10 (by kernel_rfl) rfl #[] rfl argA ?_; (with_reducible refine (rootcellarlaw7_shown.calls k  t313 _ ?side1 A3.out).mono ?_); (case side1 => exact TabsW.below HT0.out belA); rintro e w5 ⟨rfl, hb⟩; refine ⟨_, rfl, ?_⟩; have n0_ := Aside0.mk (below_step belA hb); clear HB; have HB := n0_; clear n0_; (try clear hb); (try clear hb2); (try clear hk); (try clear hi)))
 (try simp only [Act.put, List.setIfInBounds_toArray, List.set_cons_zero, List.set_cons_succ])
 go_cut [17] (fun v17 wc => ∃ (kq : Nat) (x17_3 : Bool), v17 = .bool x17_3 ∧ Aside0 (rootcellarlaw7_DirTakes.j0 kq a0 a1 t313 x17_3 = some r) ∧ Aside0 (kq ≤ k) ∧ Aside0 (Below w.heap.size w wc))
 case first =>
  have H := HC4.out
  clear HC4
  by_cases c6 : t313 = true
  ·subst c6
   have H1 : (rootcellarlaw7_DirTakes.j0 k a0 a1 true (decide ((a0.size : Int) > 2000))) = some r := by rw [if_pos rfl] at H; exact H
   clear H
   have H := H1
   clear H1
   have H' := Aside0.mk H
   clear H
   go_wp2
   go_meet
   case rel => exact ⟨_, (decide ((a0.size : Int) > 2000)), (by first | rfl | (simp; done) | (simp [*]; done)), H', ⟨by first | omega | exact Nat.le_refl _⟩, ⟨by repeat (first | (with_reducible first | exact HB.out | apply below_alloc | apply pw_below_drewN | apply below_drew1) | exact HB.out)⟩⟩
  ·replace c6 := Bool.eq_false_iff.mpr c6
   subst c6
   have H1 : (rootcellarlaw7_DirTakes.j0 k a0 a1 false true) = some r := by rw [if_neg (show ¬ (false = true) by decide)] at H; exact H
   clear H
   have H := H1
   clear H1
   have H' := Aside0.mk H
   clear H
   go_wp2
   go_meet
   case rel => exact ⟨_, (true), (by first | rfl | (simp; done) | (simp [*]; done)), H', ⟨by first | omega | exact Nat.le_refl _⟩, ⟨by repeat (first | (with_reducible first | exact HB.out | apply below_alloc | apply pw_below_drewN | apply below_drew1) | exact HB.out)⟩⟩
 case rest =>
  clear HC4
  try clear c1
  try clear p2
  try clear c3
  try clear c6
  obtain ⟨kq, x17_3, rfl, HA, HJ3, HB⟩ := hcut
  cases kq with
  | zero => exact absurd HA.out (by simp [rootcellarlaw7_DirTakes.j0])
  | succ kj3 =>
   have H := HA.out
   clear HA
   simp only [rootcellarlaw7_DirTakes.j0] at H
   by_cases c7 : x17_3 = true
   ·subst c7
    have H1 : (some t313) = some r := by rw [if_pos rfl] at H; exact H
    clear H
    have H := H1
    clear H1
    obtain rfl := Option.some.inj H
    go_wp2
    go_ret
    exact ⟨by first | rfl | (simp [errW_none, errW_some] <;> rfl) | (simp [*, errW_none, errW_some] <;> rfl), by repeat (first | (with_reducible first | exact HB.out | apply below_alloc | apply pw_below_drewN | apply below_drew1) | exact HB.out)⟩
   ·replace c7 := Bool.eq_false_iff.mpr c7
    subst c7
    have H1 : (if a1 = true then ((rootcellarref3_Put.f kj3 a0).bind fun t314 => (rootcellarlaw7_DirTakes.j1 kj3 t314)) else (rootcellarlaw7_DirTakes.j1 kj3 a0)) = some r := by rw [if_neg (show ¬ (false = true) by decide)] at H; exact H
    clear H
    have H := H1
    clear H1
    have HC8 := Aside0.mk H
    clear H
    go_upto_if 19 with (fail)
    go_cut [0] (fun v0 wc => ∃ (kq : Nat) (x0_7 : ByteArray), v0 = .string x0_7 ∧ Aside0 (rootcellarlaw7_DirTakes.j1 kq x0_7 = some r) ∧ Aside0 (kq ≤ kj3) ∧ Aside0 (Below w.heap.size w wc))
    case first =>
     have H := HC8.out
     clear HC8
     by_cases c9 : a1 = true
     ·subst c9
      have H1 : ((rootcellarref3_Put.f kj3 a0).bind fun t314 => (rootcellarlaw7_DirTakes.j1 kj3 t314)) = some r := by rw [if_pos rfl] at H; exact H
      clear H
      have H := H1
      clear H1
      replace H := Option.bind_eq_some_iff.mp H
      obtain ⟨t314, A100, H⟩ := H
      replace H : (rootcellarlaw7_DirTakes.j1 kj3 t314) = some r := H
      have A10 := Aside0.mk A100
      clear A100
      have H' := Aside0.mk H
      clear H
      go_wp2_with (first | ((with_reducible refine gate_callee (f := 11) rfl ?_); refine goesL_ (some 21) rfl rfl Tryd.func11 (by kernel_rfl) rfl #[.string a0] rfl argA ?_; (with_reducible refine (rootcellarref3_Put.calls kj3 a0 t314 _ A10.out).mono ?_); rintro e w11 ⟨rfl, hb⟩; refine ⟨_, rfl, ?_⟩; have n0_ := Aside0.mk (below_step belA hb); clear HB; have HB := n0_; clear n0_; (try clear hb); (try clear hb2); (try clear hk); (try clear hi)))
      go_meet
      case rel => exact ⟨_, (t314), (by first | rfl | (simp; done) | (simp [*]; done)), H', ⟨by have := HJ3.out; first | omega | exact Nat.le_refl _⟩, ⟨by repeat (first | (with_reducible first | exact HB.out | apply below_alloc | apply pw_below_drewN | apply below_drew1) | exact HB.out)⟩⟩
     ·replace c9 := Bool.eq_false_iff.mpr c9
      subst c9
      have H1 : (rootcellarlaw7_DirTakes.j1 kj3 a0) = some r := by rw [if_neg (show ¬ (false = true) by decide)] at H; exact H
      clear H
      have H := H1
      clear H1
      have H' := Aside0.mk H
      clear H
      go_wp2
      go_meet
      case rel => exact ⟨_, (a0), (by first | rfl | (simp; done) | (simp [*]; done)), H', ⟨by have := HJ3.out; first | omega | exact Nat.le_refl _⟩, ⟨by repeat (first | (with_reducible first | exact HB.out | apply below_alloc | apply pw_below_drewN | apply below_drew1) | exact HB.out)⟩⟩
    case rest =>
     clear HC8
     try clear c1
     try clear p2
     try clear c3
     try clear c6
     try clear c7
     try clear c9
     try clear c10
     try clear c11
     try clear p2
     obtain ⟨kq, x0_7, rfl, HA, HJ7, HB⟩ := hcut
     cases kq with
     | zero => exact absurd HA.out (by simp [rootcellarlaw7_DirTakes.j1])
     | succ kj7 =>
      have H := HA.out
      clear HA
      simp only [rootcellarlaw7_DirTakes.j1] at H
      replace H := Option.bind_eq_some_iff.mp H
      obtain ⟨⟨t315, t316⟩, A120, H⟩ := H
      replace H : ((rootcellarref7_Take.f kj7 x0_7).bind fun bt319 => ((rootcellarlaw7_same.f kj7 t315 bt319.1).bind fun t323 => (if t323 = true then (some (t316 == bt319.2)) else (some false)))) = some r := H
      have A12 := Aside0.mk A120
      clear A120
      replace H := Option.bind_eq_some_iff.mp H
      obtain ⟨⟨t319, t320⟩, A130, H⟩ := H
      replace H : ((rootcellarlaw7_same.f kj7 t315 t319).bind fun t323 => (if t323 = true then (some (t316 == t320)) else (some false))) = some r := H
      have A13 := Aside0.mk A130
      clear A130
      replace H := Option.bind_eq_some_iff.mp H
      obtain ⟨t323, A140, H⟩ := H
      replace H : (if t323 = true then (some (t316 == t320)) else (some false)) = some r := H
      have A14 := Aside0.mk A140
      clear A140
      by_cases c15 : t323 = true
      ·subst c15
       have H1 : (some (t316 == t320)) = some r := by rw [if_pos rfl] at H; exact H
       clear H
       have H := H1
       clear H1
       obtain rfl := Option.some.inj H
       go_wp2_with (first | ((with_reducible refine gate_callee (f := 12) rfl ?_); refine goesL_ (some 24) rfl rfl Tryd.func12 (by kernel_rfl) rfl #[.string x0_7] rfl argA ?_; (with_reducible refine (dir_Take.calls kj7 x0_7 t315 t316 _ ?side1 A12.out).mono ?_); (case side1 => exact TabsW.below HT0.out belA); rintro e w16 ⟨v317, rfl, ho0, hb⟩; refine ⟨_, rfl, ?_⟩; have n0_ := Aside0.mk (Kd.S_lower ho0 (below_size belA)); have n1_ := Aside0.mk (below_step belA hb); clear HB; have HO318 := n0_; have HB := n1_; clear n0_ n1_; (try clear hb); (try clear hb2); (try clear hk); (try clear hi); (try clear ho0)) | ((with_reducible refine gate_callee (f := 13) rfl ?_); refine goesL_ (some 29) rfl rfl Tryd.func13 (by kernel_rfl) rfl #[.string x0_7] rfl argA ?_; (with_reducible refine (rootcellarref7_Take.calls kj7 x0_7 t319 t320 _ A13.out).mono ?_); rintro e w17 ⟨v321, rfl, ho0, hb⟩; refine ⟨_, rfl, ?_⟩; have n0_ := Aside0.mk (Kd.S_below (kdS_ HO318.out) hb); have n1_ := Aside0.mk (Kd.S_lower ho0 (below_size belA)); have n2_ := Aside0.mk (below_step belA hb); clear HO318; clear HB; have HO318 := n0_; have HO322 := n1_; have HB := n2_; clear n0_ n1_ n2_; (try clear hb); (try clear hb2); (try clear hk); (try clear hi); (try clear ho0); obtain ⟨Ao18, co18, eo18⟩ := Kd.S_slice HO318.out; subst eo18; obtain ⟨Ao19, co19, eo19⟩ := Kd.S_slice HO322.out; subst eo19) | ((with_reducible refine gate_callee (f := 14) rfl ?_); refine goesL_ (some 34) rfl rfl Tryd.func14 (by kernel_rfl) rfl #[.slice Ao18 t315.length co18, .slice Ao19 t319.length co19] rfl argA ?_; (with_reducible refine (rootcellarlaw7_same.calls kj7 _ _ t315 _ _ t319 true _ ?side1 ?side2 ?side3 ?side4 A14.out).mono ?_); (case side1 => repeat (first | exact (Kd.S_reads' HO318.out).2.2 | (with_reducible refine Kd.C_alloc ?_ _) | (with_reducible refine Kd.C_drewN ?_ _) | (with_reducible refine Kd.C_drew ?_))); (case side2 => exact (Kd.S_reads' HO318.out).2.1); (case side3 => repeat (first | exact (Kd.S_reads' HO322.out).2.2 | (with_reducible refine Kd.C_alloc ?_ _) | (with_reducible refine Kd.C_drewN ?_ _) | (with_reducible refine Kd.C_drew ?_))); (case side4 => exact (Kd.S_reads' HO322.out).2.1); rintro e w20 ⟨rfl, hb⟩; refine ⟨_, rfl, ?_⟩; have n0_ := Aside0.mk (Kd.S_below (kdS_ HO318.out) hb); have n1_ := Aside0.mk (Kd.S_below (kdS_ HO322.out) hb); have n2_ := Aside0.mk (below_step belA hb); clear HO318; clear HO322; clear HB; have HO318 := n0_; have HO322 := n1_; have HB := n2_; clear n0_ n1_ n2_; (try clear hb); (try clear hb2); (try clear hk); (try clear hi)))
       go_ret
       exact ⟨by first | rfl | (simp [errW_none, errW_some] <;> rfl) | (simp [*, errW_none, errW_some] <;> rfl), by repeat (first | (with_reducible first | exact HB.out | apply below_alloc | apply pw_below_drewN | apply below_drew1) | exact HB.out)⟩
      ·replace c15 := Bool.eq_false_iff.mpr c15
       subst c15
       have H1 : (some false) = some r := by rw [if_neg (show ¬ (false = true) by decide)] at H; exact H
       clear H
       have H := H1
       clear H1
       obtain rfl := Option.some.inj H
       go_wp2_with (first | ((with_reducible refine gate_callee (f := 12) rfl ?_); refine goesL_ (some 24) rfl rfl Tryd.func12 (by kernel_rfl) rfl #[.string x0_7] rfl argA ?_; (with_reducible refine (dir_Take.calls kj7 x0_7 t315 t316 _ ?side1 A12.out).mono ?_); (case side1 => exact TabsW.below HT0.out belA); rintro e w21 ⟨v317, rfl, ho0, hb⟩; refine ⟨_, rfl, ?_⟩; have n0_ := Aside0.mk (Kd.S_lower ho0 (below_size belA)); have n1_ := Aside0.mk (below_step belA hb); clear HB; have HO318 := n0_; have HB := n1_; clear n0_ n1_; (try clear hb); (try clear hb2); (try clear hk); (try clear hi); (try clear ho0)) | ((with_reducible refine gate_callee (f := 13) rfl ?_); refine goesL_ (some 29) rfl rfl Tryd.func13 (by kernel_rfl) rfl #[.string x0_7] rfl argA ?_; (with_reducible refine (rootcellarref7_Take.calls kj7 x0_7 t319 t320 _ A13.out).mono ?_); rintro e w22 ⟨v321, rfl, ho0, hb⟩; refine ⟨_, rfl, ?_⟩; have n0_ := Aside0.mk (Kd.S_below (kdS_ HO318.out) hb); have n1_ := Aside0.mk (Kd.S_lower ho0 (below_size belA)); have n2_ := Aside0.mk (below_step belA hb); clear HO318; clear HB; have HO318 := n0_; have HO322 := n1_; have HB := n2_; clear n0_ n1_ n2_; (try clear hb); (try clear hb2); (try clear hk); (try clear hi); (try clear ho0); obtain ⟨Ao23, co23, eo23⟩ := Kd.S_slice HO318.out; subst eo23; obtain ⟨Ao24, co24, eo24⟩ := Kd.S_slice HO322.out; subst eo24) | ((with_reducible refine gate_callee (f := 14) rfl ?_); refine goesL_ (some 34) rfl rfl Tryd.func14 (by kernel_rfl) rfl #[.slice Ao23 t315.length co23, .slice Ao24 t319.length co24] rfl argA ?_; (with_reducible refine (rootcellarlaw7_same.calls kj7 _ _ t315 _ _ t319 false _ ?side1 ?side2 ?side3 ?side4 A14.out).mono ?_); (case side1 => repeat (first | exact (Kd.S_reads' HO318.out).2.2 | (with_reducible refine Kd.C_alloc ?_ _) | (with_reducible refine Kd.C_drewN ?_ _) | (with_reducible refine Kd.C_drew ?_))); (case side2 => exact (Kd.S_reads' HO318.out).2.1); (case side3 => repeat (first | exact (Kd.S_reads' HO322.out).2.2 | (with_reducible refine Kd.C_alloc ?_ _) | (with_reducible refine Kd.C_drewN ?_ _) | (with_reducible refine Kd.C_drew ?_))); (case side4 => exact (Kd.S_reads' HO322.out).2.1); rintro e w25 ⟨rfl, hb⟩; refine ⟨_, rfl, ?_⟩; have n0_ := Aside0.mk (Kd.S_below (kdS_ HO318.out) hb); have n1_ := Aside0.mk (Kd.S_below (kdS_ HO322.out) hb); have n2_ := Aside0.mk (below_step belA hb); clear HO318; clear HO322; clear HB; have HO318 := n0_; have HO322 := n1_; have HB := n2_; clear n0_ n1_ n2_; (try clear hb); (try clear hb2); (try clear hk); (try clear hi)))
       go_ret
       exact ⟨by first | rfl | (simp [errW_none, errW_some] <;> rfl) | (simp [*, errW_none, errW_some] <;> rfl), by repeat (first | (with_reducible first | exact HB.out | apply below_alloc | apply pw_below_drewN | apply below_drew1) | exact HB.out)⟩
end Go.Proofs.YtppbcankhkgpfaaDoor.PDir
