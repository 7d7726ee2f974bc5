-- laid by gprint.py (this session's own program) out of the translation: Lean checks it
import Derived.Test.YtppbcankhkgpfaaDoorPDirx0
import Derived.Test.YtppbcankhkgpfaaDoorPDirx11
import Derived.Test.YtppbcankhkgpfaaDoorPDirx14
import Derived.Test.YtppbcankhkgpfaaDoorPDirx19
import Derived.Test.YtppbcankhkgpfaaDoorPDirx20
import Derived.Test.YtppbcankhkgpfaaDoorPDirx31
import Derived.Test.YtppbcankhkgpfaaDoorPDirx32
--compressed
namespace Go.Proofs.YtppbcankhkgpfaaDoor.PDir
open Go.RowKit Go.Proofs.YtppbcankhkgpfaaDoorW.PrintWords Go.Proofs.YtppbcankhkgpfaaDoorW.PrintLast Go.Proofs.YtppbcankhkgpfaaDoorW.PrintMore
attribute [local go_sem] max2_int min2_int max_two min_two max_three min_three max_four min_four   -- for this text's walks alone
attribute [local go_sem high] hw_str_leq hw_str_gtr
set_option linter.unusedVariables false
set_option linter.unusedSimpArgs false
mutual
def rootcellarlaw7_DirBack.j0 : Nat → List (S43) → ByteArray → Bool → Bool → Option (Bool)
 | 0, _, _, _, _ => none
 | k + 1, x0, x1, x5, x28 => if x28 = true then (some x5) else ((dir_Put.f k x0).bind fun bt326 => (if bt326.2 = 0 then ((dir_Take.f k bt326.1).bind fun bt328 => (if bt328.2 = 0 then ((rootcellarlaw7_as.f k x0).bind fun t332 => ((rootcellarlaw7_same.f k bt328.1 t332).bind fun t335 => (if t335 = true then (rootcellarlaw7_DirBack.j1 k x1) else (some false)))) else (some false))) else (rootcellarlaw7_DirBack.j1 k x1)))
def rootcellarlaw7_DirBack.j1 : Nat → ByteArray → Option (Bool)
 | 0, _ => none
 | k + 1, x1 => (dir_Take.f k x1).bind fun bt336 => (if bt336.2 = 0 then ((dir_Put.f k bt336.1).bind fun bt340 => (if bt340.2 = 0 then (some (bt340.1.toList == x1.toList)) else (some false))) else (some ((bt336.1.length : Int) == 0)))
end
def rootcellarlaw7_DirBack.f (k : Nat) (l0 : List (S43)) (a1 : ByteArray) : Option (Bool) := (rootcellarlaw7_shown.f k).bind fun t324 => ((rootcellarlaw7_small.f k l0).bind fun t325 => (if t324 = true then (if t325 = true then (rootcellarlaw7_DirBack.j0 k l0 a1 t324 (decide ((a1.size : Int) > 2000))) else (rootcellarlaw7_DirBack.j0 k l0 a1 t324 true)) else (rootcellarlaw7_DirBack.j0 k l0 a1 t324 true)))
theorem rootcellarlaw7_DirBack.mono_l : ∀ k, (∀ y0 y1 y2 y3, LeO (rootcellarlaw7_DirBack.j0 k y0 y1 y2 y3) (rootcellarlaw7_DirBack.j0 (k + 1) y0 y1 y2 y3)) ∧ (∀ y0, LeO (rootcellarlaw7_DirBack.j1 k y0) (rootcellarlaw7_DirBack.j1 (k + 1) y0))
 | 0 => ⟨fun _ _ _ _ r h => by simp [rootcellarlaw7_DirBack.j0] at h, fun _ r h => by simp [rootcellarlaw7_DirBack.j1] at h⟩
 | k + 1 => by
  obtain ⟨ih0, ih1⟩ := rootcellarlaw7_DirBack.mono_l k
  refine ⟨?_, ?_⟩
  ·intro y0 y1 y2 y3
   unfold rootcellarlaw7_DirBack.j0
   repeat' first
   | (with_reducible exact ih0 _ _ _ _)
   | (with_reducible exact ih1 _)
   | (with_reducible exact dir_Put.mono _ _)
   | (with_reducible exact dir_Take.mono _ _)
   | (with_reducible exact rootcellarlaw7_as.mono _ _)
   | (with_reducible exact rootcellarlaw7_same.mono _ _ _)
   | (with_reducible exact rootcellarlaw7_shown.mono _)
   | (with_reducible exact rootcellarlaw7_small.mono _ _)
   | (with_reducible exact LeO.refl _)
   | (with_reducible exact LeO.none _)
   | (with_reducible refine LeO.ite ?_ ?_)
   | (with_reducible refine LeO.bind ?_ (fun _ => ?_))
   | exact ih0 _ _ _ _
   | exact ih1 _
   | exact dir_Put.mono _ _
   | exact dir_Take.mono _ _
   | exact rootcellarlaw7_as.mono _ _
   | exact rootcellarlaw7_same.mono _ _ _
   | exact rootcellarlaw7_shown.mono _
   | exact rootcellarlaw7_small.mono _ _
   | exact LeO.none _
   | refine LeO.ite ?_ ?_
   | refine LeO.bind ?_ (fun _ => ?_)
  ·intro y0
   unfold rootcellarlaw7_DirBack.j1
   repeat' first
   | (with_reducible exact ih0 _ _ _ _)
   | (with_reducible exact ih1 _)
   | (with_reducible exact dir_Put.mono _ _)
   | (with_reducible exact dir_Take.mono _ _)
   | (with_reducible exact rootcellarlaw7_as.mono _ _)
   | (with_reducible exact rootcellarlaw7_same.mono _ _ _)
   | (with_reducible exact rootcellarlaw7_shown.mono _)
   | (with_reducible exact rootcellarlaw7_small.mono _ _)
   | (with_reducible exact LeO.refl _)
   | (with_reducible exact LeO.none _)
   | (with_reducible refine LeO.ite ?_ ?_)
   | (with_reducible refine LeO.bind ?_ (fun _ => ?_))
   | exact ih0 _ _ _ _
   | exact ih1 _
   | exact dir_Put.mono _ _
   | exact dir_Take.mono _ _
   | exact rootcellarlaw7_as.mono _ _
   | exact rootcellarlaw7_same.mono _ _ _
   | exact rootcellarlaw7_shown.mono _
   | exact rootcellarlaw7_small.mono _ _
   | exact LeO.none _
   | refine LeO.ite ?_ ?_
   | refine LeO.bind ?_ (fun _ => ?_)
theorem rootcellarlaw7_DirBack.mono : ∀ a0 a1 k, LeO (rootcellarlaw7_DirBack.f k a0 a1) (rootcellarlaw7_DirBack.f (k + 1) a0 a1) := by
 intro a0 a1 k
 obtain ⟨ih0, ih1⟩ := rootcellarlaw7_DirBack.mono_l k
 unfold rootcellarlaw7_DirBack.f
 repeat' first
   | (with_reducible exact ih0 _ _ _ _)
   | (with_reducible exact ih1 _)
   | (with_reducible exact dir_Put.mono _ _)
   | (with_reducible exact dir_Take.mono _ _)
   | (with_reducible exact rootcellarlaw7_as.mono _ _)
   | (with_reducible exact rootcellarlaw7_same.mono _ _ _)
   | (with_reducible exact rootcellarlaw7_shown.mono _)
   | (with_reducible exact rootcellarlaw7_small.mono _ _)
   | (with_reducible exact LeO.refl _)
   | (with_reducible exact LeO.none _)
   | (with_reducible refine LeO.ite ?_ ?_)
   | (with_reducible refine LeO.bind ?_ (fun _ => ?_))
   | exact ih0 _ _ _ _
   | exact ih1 _
   | exact dir_Put.mono _ _
   | exact dir_Take.mono _ _
   | exact rootcellarlaw7_as.mono _ _
   | exact rootcellarlaw7_same.mono _ _ _
   | exact rootcellarlaw7_shown.mono _
   | exact rootcellarlaw7_small.mono _ _
   | exact LeO.none _
   | refine LeO.ite ?_ ?_
   | refine LeO.bind ?_ (fun _ => ?_)
set_option maxHeartbeats 8000000 in
set_option maxRecDepth 100000 in
theorem rootcellarlaw7_DirBack.calls (k : Nat) (A0 : Option Addr) (c0 : Nat) (l0 : List (S43)) (a1 : ByteArray) (r : Bool) (w : World) (hr0 : Kd.C k43 w A0 l0.length l0) (hc0 : l0.length ≤ c0) (ht : TabsW w) (h : rootcellarlaw7_DirBack.f k l0 a1 = some r) :
  Calls Tryd.prog 4 #[.slice A0 l0.length c0, .string a1] w fun e w' => e = .returned (.bool r) ∧ Below w.heap.size w w' := by
 have HR0 := Aside0.mk hr0
 have HC0 := Aside0.mk hc0
 clear hr0 hc0
 have HT0 := Aside0.mk ht
 clear ht
 have HB := Aside0.mk (Below.refl w.heap.size w)
 have H : ((rootcellarlaw7_shown.f k).bind fun t324 => ((rootcellarlaw7_small.f k l0).bind fun t325 => (if t324 = true then (if t325 = true then (rootcellarlaw7_DirBack.j0 k l0 a1 t324 (decide ((a1.size : Int) > 2000))) else (rootcellarlaw7_DirBack.j0 k l0 a1 t324 true)) else (rootcellarlaw7_DirBack.j0 k l0 a1 t324 true)))) = some r := h
 clear h
 replace H := Option.bind_eq_some_iff.mp H
 obtain ⟨t324, A30, H⟩ := H
 replace H : ((rootcellarlaw7_small.f k l0).bind fun t325 => (if t324 = true then (if t325 = true then (rootcellarlaw7_DirBack.j0 k l0 a1 t324 (decide ((a1.size : Int) > 2000))) else (rootcellarlaw7_DirBack.j0 k l0 a1 t324 true)) else (rootcellarlaw7_DirBack.j0 k l0 a1 t324 true))) = some r := H
 have A3 := Aside0.mk A30
 clear A30
 replace H := Option.bind_eq_some_iff.mp H
 obtain ⟨t325, A40, H⟩ := H
 replace H : (if t324 = true then (if t325 = true then (rootcellarlaw7_DirBack.j0 k l0 a1 t324 (decide ((a1.size : Int) > 2000))) else (rootcellarlaw7_DirBack.j0 k l0 a1 t324 true)) else (rootcellarlaw7_DirBack.j0 k l0 a1 t324 true)) = some r := H
 have A4 := Aside0.mk A40
 clear A40
 have HC5 := Aside0.mk H
 clear H
 go_enter Tryd.func4, Tryd.ntmps4
 go_upto_region 3 with (first | ((with_reducible refine gate_callee (f := 10) rfl ?_); refine goesL_ (some 15) rfl rfl Tryd.func10 (by kernel_rfl) rfl #[] rfl argA ?_; (with_reducible refine (rootcellarlaw7_shown.calls k  t324 _ ?side1 A3.out).mono ?_); (case side1 => exact TabsW.below HT0.out belA); rintro e w6 ⟨rfl, hb⟩; refine ⟨_, rfl, ?_⟩; have n0_ := Aside0.mk (below_step belA hb); clear HB; have HB := n0_; clear n0_; (try clear hb); (try clear hb2); (try clear hk); (try clear hi)) | ((with_reducible refine gate_callee (f := 15) rfl ?_); refine goesL_ (some 17) rfl rfl Tryd.func15 (by kernel_rfl) rfl #[.slice A0 l0.length c0] rfl argA ?_; (with_reducible refine (rootcellarlaw7_small.calls k _ _ l0 t325 _ ?side1 ?side2 A4.out).mono ?_); (case side1 => repeat (first | exact (Kd.C_below HR0.out HB.out) | (with_reducible refine Kd.C_alloc ?_ _) | (with_reducible refine Kd.C_drewN ?_ _) | (with_reducible refine Kd.C_drew ?_))); (case side2 => exact HC0.out); rintro e w' ⟨rfl, ⟨nd, rfl⟩⟩; refine ⟨_, rfl, ?_⟩))
 (try simp only [Act.put, List.setIfInBounds_toArray, List.set_cons_zero, List.set_cons_succ])
 go_cut [28] (fun v28 wc => ∃ (kq : Nat) (x28_4 : Bool), v28 = .bool x28_4 ∧ Aside0 (rootcellarlaw7_DirBack.j0 kq l0 a1 t324 x28_4 = some r) ∧ Aside0 (kq ≤ k) ∧ Aside0 (Below w.heap.size w wc))
 case first =>
  have H := HC5.out
  clear HC5
  by_cases c7 : t324 = true
  ·subst c7
   have H1 : (if t325 = true then (rootcellarlaw7_DirBack.j0 k l0 a1 true (decide ((a1.size : Int) > 2000))) else (rootcellarlaw7_DirBack.j0 k l0 a1 true true)) = some r := by rw [if_pos rfl] at H; exact H
   clear H
   have H := H1
   clear H1
   by_cases c8 : t325 = true
   ·subst c8
    have H1 : (rootcellarlaw7_DirBack.j0 k l0 a1 true (decide ((a1.size : Int) > 2000))) = some r := by rw [if_pos rfl] at H; exact H
    clear H
    have H := H1
    clear H1
    have H' := Aside0.mk H
    clear H
    go_wp2
    go_meet
    case rel => exact ⟨_, (decide ((a1.size : Int) > 2000)), (by first | rfl | (simp; done) | (simp [*]; done)), H', ⟨by first | omega | exact Nat.le_refl _⟩, ⟨by repeat (first | (with_reducible first | exact HB.out | apply below_alloc | apply pw_below_drewN | apply below_drew1) | exact HB.out)⟩⟩
   ·replace c8 := Bool.eq_false_iff.mpr c8
    subst c8
    have H1 : (rootcellarlaw7_DirBack.j0 k l0 a1 true true) = some r := by rw [if_neg (show ¬ (false = true) by decide)] at H; exact H
    clear H
    have H := H1
    clear H1
    have H' := Aside0.mk H
    clear H
    go_wp2
    go_meet
    case rel => exact ⟨_, (true), (by first | rfl | (simp; done) | (simp [*]; done)), H', ⟨by first | omega | exact Nat.le_refl _⟩, ⟨by repeat (first | (with_reducible first | exact HB.out | apply below_alloc | apply pw_below_drewN | apply below_drew1) | exact HB.out)⟩⟩
  ·replace c7 := Bool.eq_false_iff.mpr c7
   subst c7
   have H1 : (rootcellarlaw7_DirBack.j0 k l0 a1 false true) = some r := by rw [if_neg (show ¬ (false = true) by decide)] at H; exact H
   clear H
   have H := H1
   clear H1
   have H' := Aside0.mk H
   clear H
   go_wp2
   go_meet
   case rel => exact ⟨_, (true), (by first | rfl | (simp; done) | (simp [*]; done)), H', ⟨by first | omega | exact Nat.le_refl _⟩, ⟨by repeat (first | (with_reducible first | exact HB.out | apply below_alloc | apply pw_below_drewN | apply below_drew1) | exact HB.out)⟩⟩
 case rest =>
  clear HC5
  try clear c1
  try clear p2
  try clear c4
  try clear c7
  try clear c8
  obtain ⟨kq, x28_4, rfl, HA, HJ4, HB⟩ := hcut
  cases kq with
  | zero => exact absurd HA.out (by simp [rootcellarlaw7_DirBack.j0])
  | succ kj4 =>
   have H := HA.out
   clear HA
   simp only [rootcellarlaw7_DirBack.j0] at H
   by_cases c9 : x28_4 = true
   ·subst c9
    have H1 : (some t324) = some r := by rw [if_pos rfl] at H; exact H
    clear H
    have H := H1
    clear H1
    obtain rfl := Option.some.inj H
    go_wp2
    go_ret
    exact ⟨by first | rfl | (simp [errW_none, errW_some] <;> rfl) | (simp [*, errW_none, errW_some] <;> rfl), by repeat (first | (with_reducible first | exact HB.out | apply below_alloc | apply pw_below_drewN | apply below_drew1) | exact HB.out)⟩
   ·replace c9 := Bool.eq_false_iff.mpr c9
    subst c9
    have H1 : ((dir_Put.f kj4 l0).bind fun bt326 => (if bt326.2 = 0 then ((dir_Take.f kj4 bt326.1).bind fun bt328 => (if bt328.2 = 0 then ((rootcellarlaw7_as.f kj4 l0).bind fun t332 => ((rootcellarlaw7_same.f kj4 bt328.1 t332).bind fun t335 => (if t335 = true then (rootcellarlaw7_DirBack.j1 kj4 a1) else (some false)))) else (some false))) else (rootcellarlaw7_DirBack.j1 kj4 a1))) = some r := by rw [if_neg (show ¬ (false = true) by decide)] at H; exact H
    clear H
    have H := H1
    clear H1
    replace H := Option.bind_eq_some_iff.mp H
    obtain ⟨⟨t326, t327⟩, A100, H⟩ := H
    replace H : (if t327 = 0 then ((dir_Take.f kj4 t326).bind fun bt328 => (if bt328.2 = 0 then ((rootcellarlaw7_as.f kj4 l0).bind fun t332 => ((rootcellarlaw7_same.f kj4 bt328.1 t332).bind fun t335 => (if t335 = true then (rootcellarlaw7_DirBack.j1 kj4 a1) else (some false)))) else (some false))) else (rootcellarlaw7_DirBack.j1 kj4 a1)) = some r := H
    have A10 := Aside0.mk A100
    clear A100
    have HC11 := Aside0.mk H
    clear H
    go_upto_if 36 with (first | ((with_reducible refine gate_callee (f := 16) rfl ?_); refine goesL_ (some 32) rfl rfl Tryd.func16 (by kernel_rfl) rfl #[.slice A0 l0.length c0] rfl argA ?_; (with_reducible refine (dir_Put.calls kj4 _ _ l0 t326 t327 _ ?side1 ?side2 ?side3 A10.out).mono ?_); (case side1 => repeat (first | exact (Kd.C_below HR0.out HB.out) | (with_reducible refine Kd.C_alloc ?_ _) | (with_reducible refine Kd.C_drewN ?_ _) | (with_reducible refine Kd.C_drew ?_))); (case side2 => exact HC0.out); (case side3 => exact TabsW.below HT0.out belA); rintro e w12 ⟨rfl, hb⟩; refine ⟨_, rfl, ?_⟩; have n0_ := Aside0.mk (below_step belA hb); clear HB; have HB := n0_; clear n0_; (try clear hb); (try clear hb2); (try clear hk); (try clear hi)))
    (try simp only [Act.put, List.setIfInBounds_toArray, List.set_cons_zero, List.set_cons_succ])
    go_cut [] (fun wc => ∃ (kq : Nat), Aside0 (rootcellarlaw7_DirBack.j1 kq a1 = some r) ∧ Aside0 (kq ≤ kj4) ∧ Aside0 (Below w.heap.size w wc))
    case first =>
     have H := HC11.out
     clear HC11
     by_cases c13 : t327 = 0
     ·rw [if_pos c13] at H
      have c13b0 : (t327 == 0) = true := beq_iff_eq.mpr c13
      have c13b1 : (t327 != 0) = false := bne_eq_false_iff_eq.mpr c13
      clear c13
      (first | rw [c13b0] | (simp only [i64_w, i32_w]; rw [c13b0]) | skip)
      replace H := Option.bind_eq_some_iff.mp H
      obtain ⟨⟨t328, t329⟩, A140, H⟩ := H
      replace H : (if t329 = 0 then ((rootcellarlaw7_as.f kj4 l0).bind fun t332 => ((rootcellarlaw7_same.f kj4 t328 t332).bind fun t335 => (if t335 = true then (rootcellarlaw7_DirBack.j1 kj4 a1) else (some false)))) else (some false)) = some r := H
      have A14 := Aside0.mk A140
      clear A140
      by_cases c15 : t329 = 0
      ·rw [if_pos c15] at H
       have c15b0 : (t329 == 0) = true := beq_iff_eq.mpr c15
       have c15b1 : (t329 != 0) = false := bne_eq_false_iff_eq.mpr c15
       clear c15
       replace H := Option.bind_eq_some_iff.mp H
       obtain ⟨t332, A160, H⟩ := H
       replace H : ((rootcellarlaw7_same.f kj4 t328 t332).bind fun t335 => (if t335 = true then (rootcellarlaw7_DirBack.j1 kj4 a1) else (some false))) = some r := H
       have A16 := Aside0.mk A160
       clear A160
       replace H := Option.bind_eq_some_iff.mp H
       obtain ⟨t335, A170, H⟩ := H
       replace H : (if t335 = true then (rootcellarlaw7_DirBack.j1 kj4 a1) else (some false)) = some r := H
       have A17 := Aside0.mk A170
       clear A170
       by_cases c18 : t335 = true
       ·subst c18
        have H1 : (rootcellarlaw7_DirBack.j1 kj4 a1) = some r := by rw [if_pos rfl] at H; exact H
        clear H
        have H := H1
        clear H1
        have H' := Aside0.mk H
        clear H
        go_wp2_with (first | ((with_reducible refine gate_callee (f := 12) rfl ?_); refine goesL_ (some 39) rfl rfl Tryd.func12 (by kernel_rfl) rfl #[.string t326] rfl argA ?_; (with_reducible refine (dir_Take.calls kj4 t326 t328 t329 _ ?side1 A14.out).mono ?_); (case side1 => exact TabsW.below HT0.out belA); rintro e w19 ⟨v330, rfl, ho0, hb⟩; refine ⟨_, rfl, ?_⟩; have n0_ := Aside0.mk (Kd.N_lower (Kd.N_mono (ok' := fun k_ => True) (Kd.S_N (Kd.S_bound ho0)) (fun k_ hk_ => trivial)) (below_size belA)); have n1_ := Aside0.mk (below_step belA hb); clear HB; have HO331 := n0_; have HB := n1_; clear n0_ n1_; (try clear hb); (try clear hb2); (try clear hk); (try clear hi); (try clear ho0)) | (go_at_call 17; (with_reducible refine (rootcellarlaw7_as.calls kj4 (fun k_ => k_ < w.heap.size) _ _ l0 t332 _ ?side1 A16.out).mono ?_); (case side1 => exact Kd.V_mk HC0.out (Kd.F_below (Kd.C_F k43_heap HR0.out) belA)); rintro e w20 ⟨v333, rfl, ho0, hb⟩; have n0_ := Aside0.mk (Kd.N_elder' (kdN_ HO331.out) (by first | exact Kd.N_base ho0 | exact Kd.N_base (Kd.S_N (Kd.S_bound ho0))) hb); have n1_ := Aside0.mk (Kd.N_lower (Kd.N_mono (ok' := fun k_ => some k_ ≠ (v330 : Value).ownBlock) ho0 (fun k_ hk_ => Or.elim hk_ (fun hs_ => fun e_ => Nat.not_le.2 hs_ (Kd.N_base HO331.out k_ e_.symm)) (fun hn_ => (Kd.fresh' (Kd.N_lt (kdN_ HO331.out)) k_ hn_)))) (below_size belA)); have n2_ := Aside0.mk (below_step belA hb); clear HO331; clear HB; have HO331 := n0_; have HO334 := n1_; have HB := n2_; clear n0_ n1_ n2_; (try clear hb); (try clear hb2); (try clear hk); (try clear hi); (try clear ho0); obtain ⟨Ao21, co21, eo21⟩ := Kd.N_slice HO331.out; subst eo21; obtain ⟨Ao22, co22, eo22⟩ := Kd.N_slice HO334.out; subst eo22) | (go_at_call 14; (with_reducible refine (rootcellarlaw7_same.calls kj4 _ _ t328 _ _ t332 true _ ?side1 ?side2 ?side3 ?side4 A17.out).mono ?_); (case side1 => repeat (first | exact (Kd.N_reads' HO331.out).2.2 | (with_reducible refine Kd.C_alloc ?_ _) | (with_reducible refine Kd.C_drewN ?_ _) | (with_reducible refine Kd.C_drew ?_))); (case side2 => exact (Kd.N_reads' HO331.out).2.1); (case side3 => repeat (first | exact (Kd.N_reads' HO334.out).2.2 | (with_reducible refine Kd.C_alloc ?_ _) | (with_reducible refine Kd.C_drewN ?_ _) | (with_reducible refine Kd.C_drew ?_))); (case side4 => exact (Kd.N_reads' HO334.out).2.1); rintro e w23 ⟨rfl, hb⟩; have n0_ := Aside0.mk (Kd.N_below (kdN_ HO331.out) hb); have n1_ := Aside0.mk (Kd.N_below (kdN_ HO334.out) hb); have n2_ := Aside0.mk (below_step belA hb); clear HO331; clear HO334; clear HB; have HO331 := n0_; have HO334 := n1_; have HB := n2_; clear n0_ n1_ n2_; (try clear hb); (try clear hb2); (try clear hk); (try clear hi)))
        go_meet
        case rel => exact ⟨_, H', ⟨by have := HJ4.out; first | omega | exact Nat.le_refl _⟩, ⟨by repeat (first | (with_reducible first | exact HB.out | apply below_alloc | apply pw_below_drewN | apply below_drew1) | exact HB.out)⟩⟩
       ·replace c18 := Bool.eq_false_iff.mpr c18
        subst c18
        have H1 : (some false) = some r := by rw [if_neg (show ¬ (false = true) by decide)] at H; exact H
        clear H
        have H := H1
        clear H1
        obtain rfl := Option.some.inj H
        go_wp2_with (first | ((with_reducible refine gate_callee (f := 12) rfl ?_); refine goesL_ (some 39) rfl rfl Tryd.func12 (by kernel_rfl) rfl #[.string t326] rfl argA ?_; (with_reducible refine (dir_Take.calls kj4 t326 t328 t329 _ ?side1 A14.out).mono ?_); (case side1 => exact TabsW.below HT0.out belA); rintro e w24 ⟨v330, rfl, ho0, hb⟩; refine ⟨_, rfl, ?_⟩; have n0_ := Aside0.mk (Kd.N_lower (Kd.N_mono (ok' := fun k_ => True) (Kd.S_N (Kd.S_bound ho0)) (fun k_ hk_ => trivial)) (below_size belA)); have n1_ := Aside0.mk (below_step belA hb); clear HB; have HO331 := n0_; have HB := n1_; clear n0_ n1_; (try clear hb); (try clear hb2); (try clear hk); (try clear hi); (try clear ho0)) | (go_at_call 17; (with_reducible refine (rootcellarlaw7_as.calls kj4 (fun k_ => k_ < w.heap.size) _ _ l0 t332 _ ?side1 A16.out).mono ?_); (case side1 => exact Kd.V_mk HC0.out (Kd.F_below (Kd.C_F k43_heap HR0.out) belA)); rintro e w25 ⟨v333, rfl, ho0, hb⟩; have n0_ := Aside0.mk (Kd.N_elder' (kdN_ HO331.out) (by first | exact Kd.N_base ho0 | exact Kd.N_base (Kd.S_N (Kd.S_bound ho0))) hb); have n1_ := Aside0.mk (Kd.N_lower (Kd.N_mono (ok' := fun k_ => some k_ ≠ (v330 : Value).ownBlock) ho0 (fun k_ hk_ => Or.elim hk_ (fun hs_ => fun e_ => Nat.not_le.2 hs_ (Kd.N_base HO331.out k_ e_.symm)) (fun hn_ => (Kd.fresh' (Kd.N_lt (kdN_ HO331.out)) k_ hn_)))) (below_size belA)); have n2_ := Aside0.mk (below_step belA hb); clear HO331; clear HB; have HO331 := n0_; have HO334 := n1_; have HB := n2_; clear n0_ n1_ n2_; (try clear hb); (try clear hb2); (try clear hk); (try clear hi); (try clear ho0); obtain ⟨Ao26, co26, eo26⟩ := Kd.N_slice HO331.out; subst eo26; obtain ⟨Ao27, co27, eo27⟩ := Kd.N_slice HO334.out; subst eo27) | (go_at_call 14; (with_reducible refine (rootcellarlaw7_same.calls kj4 _ _ t328 _ _ t332 false _ ?side1 ?side2 ?side3 ?side4 A17.out).mono ?_); (case side1 => repeat (first | exact (Kd.N_reads' HO331.out).2.2 | (with_reducible refine Kd.C_alloc ?_ _) | (with_reducible refine Kd.C_drewN ?_ _) | (with_reducible refine Kd.C_drew ?_))); (case side2 => exact (Kd.N_reads' HO331.out).2.1); (case side3 => repeat (first | exact (Kd.N_reads' HO334.out).2.2 | (with_reducible refine Kd.C_alloc ?_ _) | (with_reducible refine Kd.C_drewN ?_ _) | (with_reducible refine Kd.C_drew ?_))); (case side4 => exact (Kd.N_reads' HO334.out).2.1); rintro e w28 ⟨rfl, hb⟩; have n0_ := Aside0.mk (Kd.N_below (kdN_ HO331.out) hb); have n1_ := Aside0.mk (Kd.N_below (kdN_ HO334.out) hb); have n2_ := Aside0.mk (below_step belA hb); clear HO331; clear HO334; clear HB; have HO331 := n0_; have HO334 := n1_; have HB := n2_; clear n0_ n1_ n2_; (try clear hb); (try clear hb2); (try clear hk); (try clear hi)))
        go_ret
        exact ⟨by first | rfl | (simp [errW_none, errW_some] <;> rfl) | (simp [*, errW_none, errW_some] <;> rfl), by repeat (first | (with_reducible first | exact HB.out | apply below_alloc | apply pw_below_drewN | apply below_drew1) | exact HB.out)⟩
      ·rw [if_neg c15] at H
       have c15b0 : (t329 == 0) = false := beq_eq_false_iff_ne.mpr c15
       have c15b1 : (t329 != 0) = true := bne_iff_ne.mpr c15
       obtain rfl := Option.some.inj H
       go_wp2_with (first | ((with_reducible refine gate_callee (f := 12) rfl ?_); refine goesL_ (some 39) rfl rfl Tryd.func12 (by kernel_rfl) rfl #[.string t326] rfl argA ?_; (with_reducible refine (dir_Take.calls kj4 t326 t328 t329 _ ?side1 A14.out).mono ?_); (case side1 => exact TabsW.below HT0.out belA); rintro e w29 ⟨v330, rfl, ho0, hb⟩; refine ⟨_, rfl, ?_⟩; have n0_ := Aside0.mk (Kd.N_lower (Kd.N_mono (ok' := fun k_ => True) (Kd.S_N (Kd.S_bound ho0)) (fun k_ hk_ => trivial)) (below_size belA)); have n1_ := Aside0.mk (below_step belA hb); clear HB; have HO331 := n0_; have HB := n1_; clear n0_ n1_; (try clear hb); (try clear hb2); (try clear hk); (try clear hi); (try clear ho0)))
       go_ret
       exact ⟨by first | rfl | (simp [errW_none, errW_some] <;> rfl) | (simp [*, errW_none, errW_some] <;> rfl), by repeat (first | (with_reducible first | exact HB.out | apply below_alloc | apply pw_below_drewN | apply below_drew1) | exact HB.out)⟩
     ·rw [if_neg c13] at H
      have c13b0 : (t327 == 0) = false := beq_eq_false_iff_ne.mpr c13
      have c13b1 : (t327 != 0) = true := bne_iff_ne.mpr c13
      (first | rw [c13b0] | (simp only [i64_w, i32_w]; rw [c13b0]) | skip)
      have H' := Aside0.mk H
      clear H
      go_wp2
      go_meet
      case rel => exact ⟨_, H', ⟨by have := HJ4.out; first | omega | exact Nat.le_refl _⟩, ⟨by repeat (first | (with_reducible first | exact HB.out | apply below_alloc | apply pw_below_drewN | apply below_drew1) | exact HB.out)⟩⟩
    case rest =>
     clear HC11
     try clear c1
     try clear p2
     try clear c4
     try clear c7
     try clear c8
     try clear c9
     try clear c10
     try clear c12
     try clear c13
     try clear c13b0
     try clear c13b1
     try clear c15
     try clear c15b0
     try clear c15b1
     try clear c16
     try clear c18
     try clear p2
     obtain ⟨kq, HA, HJ10, HB⟩ := hcut
     cases kq with
     | zero => exact absurd HA.out (by simp [rootcellarlaw7_DirBack.j1])
     | succ kj10 =>
      have H := HA.out
      clear HA
      simp only [rootcellarlaw7_DirBack.j1] at H
      replace H := Option.bind_eq_some_iff.mp H
      obtain ⟨⟨t336, t337⟩, A300, H⟩ := H
      replace H : (if t337 = 0 then ((dir_Put.f kj10 t336).bind fun bt340 => (if bt340.2 = 0 then (some (bt340.1.toList == a1.toList)) else (some false))) else (some ((t336.length : Int) == 0))) = some r := H
      have A30 := Aside0.mk A300
      clear A300
      by_cases c31 : t337 = 0
      ·rw [if_pos c31] at H
       have c31b0 : (t337 == 0) = true := beq_iff_eq.mpr c31
       have c31b1 : (t337 != 0) = false := bne_eq_false_iff_eq.mpr c31
       clear c31
       replace H := Option.bind_eq_some_iff.mp H
       obtain ⟨⟨t340, t341⟩, A320, H⟩ := H
       replace H : (if t341 = 0 then (some (t340.toList == a1.toList)) else (some false)) = some r := H
       have A32 := Aside0.mk A320
       clear A320
       by_cases c33 : t341 = 0
       ·rw [if_pos c33] at H
        have c33b0 : (t341 == 0) = true := beq_iff_eq.mpr c33
        have c33b1 : (t341 != 0) = false := bne_eq_false_iff_eq.mpr c33
        clear c33
        obtain rfl := Option.some.inj H
        go_wp2_with (first | ((with_reducible refine gate_callee (f := 12) rfl ?_); refine goesL_ (some 53) rfl rfl Tryd.func12 (by kernel_rfl) rfl #[.string a1] rfl argA ?_; (with_reducible refine (dir_Take.calls kj10 a1 t336 t337 _ ?side1 A30.out).mono ?_); (case side1 => exact TabsW.below HT0.out belA); rintro e w34 ⟨v338, rfl, ho0, hb⟩; refine ⟨_, rfl, ?_⟩; have n0_ := Aside0.mk (Kd.N_lower (Kd.N_mono (ok' := fun k_ => True) (Kd.S_N (Kd.S_bound ho0)) (fun k_ hk_ => trivial)) (below_size belA)); have n1_ := Aside0.mk (below_step belA hb); clear HB; have HO339 := n0_; have HB := n1_; clear n0_ n1_; (try clear hb); (try clear hb2); (try clear hk); (try clear hi); (try clear ho0); obtain ⟨Ao35, co35, eo35⟩ := Kd.N_slice HO339.out; subst eo35) | ((with_reducible refine gate_callee (f := 16) rfl ?_); refine goesL_ (some 63) rfl rfl Tryd.func16 (by kernel_rfl) rfl #[.slice Ao35 t336.length co35] rfl argA ?_; (with_reducible refine (dir_Put.calls kj10 _ _ t336 t340 t341 _ ?side1 ?side2 ?side3 A32.out).mono ?_); (case side1 => repeat (first | exact (Kd.N_reads' HO339.out).2.2 | (with_reducible refine Kd.C_alloc ?_ _) | (with_reducible refine Kd.C_drewN ?_ _) | (with_reducible refine Kd.C_drew ?_))); (case side2 => exact (Kd.N_reads' HO339.out).2.1); (case side3 => exact TabsW.below HT0.out belA); rintro e w36 ⟨rfl, hb⟩; refine ⟨_, rfl, ?_⟩; have n0_ := Aside0.mk (Kd.N_below (kdN_ HO339.out) hb); have n1_ := Aside0.mk (below_step belA hb); clear HO339; clear HB; have HO339 := n0_; have HB := n1_; clear n0_ n1_; (try clear hb); (try clear hb2); (try clear hk); (try clear hi)))
        go_ret
        exact ⟨by first | rfl | (simp [errW_none, errW_some] <;> rfl) | (simp [*, errW_none, errW_some] <;> rfl), by repeat (first | (with_reducible first | exact HB.out | apply below_alloc | apply pw_below_drewN | apply below_drew1) | exact HB.out)⟩
       ·rw [if_neg c33] at H
        have c33b0 : (t341 == 0) = false := beq_eq_false_iff_ne.mpr c33
        have c33b1 : (t341 != 0) = true := bne_iff_ne.mpr c33
        obtain rfl := Option.some.inj H
        go_wp2_with (first | ((with_reducible refine gate_callee (f := 12) rfl ?_); refine goesL_ (some 53) rfl rfl Tryd.func12 (by kernel_rfl) rfl #[.string a1] rfl argA ?_; (with_reducible refine (dir_Take.calls kj10 a1 t336 t337 _ ?side1 A30.out).mono ?_); (case side1 => exact TabsW.below HT0.out belA); rintro e w37 ⟨v338, rfl, ho0, hb⟩; refine ⟨_, rfl, ?_⟩; have n0_ := Aside0.mk (Kd.N_lower (Kd.N_mono (ok' := fun k_ => True) (Kd.S_N (Kd.S_bound ho0)) (fun k_ hk_ => trivial)) (below_size belA)); have n1_ := Aside0.mk (below_step belA hb); clear HB; have HO339 := n0_; have HB := n1_; clear n0_ n1_; (try clear hb); (try clear hb2); (try clear hk); (try clear hi); (try clear ho0); obtain ⟨Ao38, co38, eo38⟩ := Kd.N_slice HO339.out; subst eo38) | ((with_reducible refine gate_callee (f := 16) rfl ?_); refine goesL_ (some 63) rfl rfl Tryd.func16 (by kernel_rfl) rfl #[.slice Ao38 t336.length co38] rfl argA ?_; (with_reducible refine (dir_Put.calls kj10 _ _ t336 t340 t341 _ ?side1 ?side2 ?side3 A32.out).mono ?_); (case side1 => repeat (first | exact (Kd.N_reads' HO339.out).2.2 | (with_reducible refine Kd.C_alloc ?_ _) | (with_reducible refine Kd.C_drewN ?_ _) | (with_reducible refine Kd.C_drew ?_))); (case side2 => exact (Kd.N_reads' HO339.out).2.1); (case side3 => exact TabsW.below HT0.out belA); rintro e w39 ⟨rfl, hb⟩; refine ⟨_, rfl, ?_⟩; have n0_ := Aside0.mk (Kd.N_below (kdN_ HO339.out) hb); have n1_ := Aside0.mk (below_step belA hb); clear HO339; clear HB; have HO339 := n0_; have HB := n1_; clear n0_ n1_; (try clear hb); (try clear hb2); (try clear hk); (try clear hi)))
        go_ret
        exact ⟨by first | rfl | (simp [errW_none, errW_some] <;> rfl) | (simp [*, errW_none, errW_some] <;> rfl), by repeat (first | (with_reducible first | exact HB.out | apply below_alloc | apply pw_below_drewN | apply below_drew1) | exact HB.out)⟩
      ·rw [if_neg c31] at H
       have c31b0 : (t337 == 0) = false := beq_eq_false_iff_ne.mpr c31
       have c31b1 : (t337 != 0) = true := bne_iff_ne.mpr c31
       obtain rfl := Option.some.inj H
       go_wp2_with (first | ((with_reducible refine gate_callee (f := 12) rfl ?_); refine goesL_ (some 53) rfl rfl Tryd.func12 (by kernel_rfl) rfl #[.string a1] rfl argA ?_; (with_reducible refine (dir_Take.calls kj10 a1 t336 t337 _ ?side1 A30.out).mono ?_); (case side1 => exact TabsW.below HT0.out belA); rintro e w40 ⟨v338, rfl, ho0, hb⟩; refine ⟨_, rfl, ?_⟩; have n0_ := Aside0.mk (Kd.N_lower (Kd.N_mono (ok' := fun k_ => True) (Kd.S_N (Kd.S_bound ho0)) (fun k_ hk_ => trivial)) (below_size belA)); have n1_ := Aside0.mk (below_step belA hb); clear HB; have HO339 := n0_; have HB := n1_; clear n0_ n1_; (try clear hb); (try clear hb2); (try clear hk); (try clear hi); (try clear ho0); obtain ⟨Ao41, co41, eo41⟩ := Kd.N_slice HO339.out; subst eo41))
       go_ret
       exact ⟨by first | rfl | (simp [errW_none, errW_some] <;> rfl) | (simp [*, errW_none, errW_some] <;> rfl), by repeat (first | (with_reducible first | exact HB.out | apply below_alloc | apply pw_below_drewN | apply below_drew1) | exact HB.out)⟩
end Go.Proofs.YtppbcankhkgpfaaDoor.PDir
