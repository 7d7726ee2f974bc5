import Derived.Test.YtppbcankhkgpfaaDoorPDirx0
import Derived.Test.YtppbcankhkgpfaaDoorLayD
import Derived.Test.YtppbcankhkgpfaaDoorPDirx7
import Derived.Lib.OthersKept
import Derived.Outline
--compressed
namespace Go.Proofs.YtppbcankhkgpfaaDoor.PDir
open Go.RowKit Go.Proofs.YtppbcankhkgpfaaDoorW.PrintWords Go.Proofs.YtppbcankhkgpfaaDoorW.PrintLast Go.Proofs.YtppbcankhkgpfaaDoorW.PrintMore
attribute [local go_sem] max2_int min2_int max_two min_two max_three min_three max_four min_four   -- for this text's walks alone
attribute [local go_sem high] hw_str_leq hw_str_gtr
set_option linter.unusedVariables false
set_option linter.unusedSimpArgs false
def TabsW (w : World) : Prop := Lib.Utf8Tabs (Tryd.layValid_ren.g 3) (Tryd.layValid_ren.g 4) w
theorem TabsW.below {w w' : World} (h : TabsW w) (hb : Below w.heap.size w w') : TabsW w' := Utf8Tabs_below h hb
end Go.Proofs.YtppbcankhkgpfaaDoor.PDir
namespace Go.Proofs.YtppbcankhkgpfaaDoor.PDir
open Go.RowKit Go.Proofs.YtppbcankhkgpfaaDoorW.PrintWords Go.Proofs.YtppbcankhkgpfaaDoorW.PrintLast Go.Proofs.YtppbcankhkgpfaaDoorW.PrintMore
attribute [local go_sem] max2_int min2_int max_two min_two max_three min_three max_four min_four   -- for this text's walks alone
attribute [local go_sem high] hw_str_leq hw_str_gtr
set_option linter.unusedVariables false
set_option linter.unusedSimpArgs false
def utf8_ValidString.f (a0 : ByteArray) : Option Bool := if a0.size ≤ 9223372036854775807 then some (Lib.validD a0.data.toList) else none
theorem utf8_ValidString.calls (a0 : ByteArray) (r : Bool) (w : World) (ht : TabsW w) (h : utf8_ValidString.f a0 = some r) :
  Calls Tryd.prog 106 #[.string a0] w fun e w' => e = .returned (.bool r) ∧ Below w.heap.size w w' := by
 unfold utf8_ValidString.f at h
 by_cases hs : a0.size ≤ 9223372036854775807
 ·rw [if_pos hs] at h
  obtain rfl := Option.some.inj h
  exact Any.utf8_ValidString Tryd.layValid a0 w hs ht
 ·rw [if_neg hs] at h
  cases h
end Go.Proofs.YtppbcankhkgpfaaDoor.PDir
namespace Go.Proofs.YtppbcankhkgpfaaDoor.PDir
open Go.RowKit Go.Proofs.YtppbcankhkgpfaaDoorW.PrintWords Go.Proofs.YtppbcankhkgpfaaDoorW.PrintLast Go.Proofs.YtppbcankhkgpfaaDoorW.PrintMore
attribute [local go_sem] max2_int min2_int max_two min_two max_three min_three max_four min_four   -- for this text's walks alone
attribute [local go_sem high] hw_str_leq hw_str_gtr
set_option linter.unusedVariables false
set_option linter.unusedSimpArgs false
def label_Valid.f (a0 : ByteArray) : Option (Bool) := (utf8_ValidString.f a0).bind fun t133 => (some t133)
set_option maxHeartbeats 8000000 in
set_option maxRecDepth 100000 in
theorem label_Valid.calls (a0 : ByteArray) (r : Bool) (w : World) (ht : TabsW w) (h : label_Valid.f a0 = some r) :
  Calls Tryd.prog 97 #[.string a0] w fun e w' => e = .returned (.bool r) ∧ Below w.heap.size w w' := by
 have HT0 := Aside0.mk ht
 clear ht
 have HB := Aside0.mk (Below.refl w.heap.size w)
 have H : ((utf8_ValidString.f a0).bind fun t133 => (some t133)) = some r := h
 clear h
 replace H := Option.bind_eq_some_iff.mp H
 obtain ⟨t133, A20, H⟩ := H
 replace H : (some t133) = some r := H
 have A2 := Aside0.mk A20
 clear A20
 obtain rfl := Option.some.inj H
 go_enter Tryd.func97, Tryd.ntmps97
 go_wp2_with (first | ((with_reducible refine gate_callee (f := 106) rfl ?_); refine goesL_ (some 4) rfl rfl Tryd.func106 (by kernel_rfl) rfl #[.string a0] rfl argA ?_; (with_reducible refine (utf8_ValidString.calls a0 t133 _ ?side1 A2.out).mono ?_); (case side1 => exact TabsW.below HT0.out belA); rintro e w3 ⟨rfl, hb⟩; refine ⟨_, rfl, ?_⟩; have n0_ := Aside0.mk (below_step belA hb); clear HB; have HB := n0_; clear n0_; (try clear hb); (try clear hb2); (try clear hk); (try clear hi)))
 go_ret
 exact ⟨by first | rfl | (simp [errW_none, errW_some] <;> rfl) | (simp [*, errW_none, errW_some] <;> rfl), by repeat (first | (with_reducible first | exact HB.out | apply below_alloc | apply pw_below_drewN | apply below_drew1) | exact HB.out)⟩
end Go.Proofs.YtppbcankhkgpfaaDoor.PDir
namespace Go.Proofs.YtppbcankhkgpfaaDoor.PDir
open Go.RowKit Go.Proofs.YtppbcankhkgpfaaDoorW.PrintWords Go.Proofs.YtppbcankhkgpfaaDoorW.PrintLast Go.Proofs.YtppbcankhkgpfaaDoorW.PrintMore
attribute [local go_sem] max2_int min2_int max_two min_two max_three min_three max_four min_four   -- for this text's walks alone
attribute [local go_sem high] hw_str_leq hw_str_gtr
set_option linter.unusedVariables false
set_option linter.unusedSimpArgs false
def badR (s : ByteArray) : Nat → Nat → Bool
 | 0, _ => false
 | fuel + 1, pos => if pos < s.size then (if ((Utf8.decode s pos).1 : Int) < 32 then true else if ((Utf8.decode s pos).1 : Int) = 127 then true else badR s fuel (pos + (Utf8.decode s pos).2)) else false
theorem badR_end (s : ByteArray) (fuel pos : Nat) (h : ¬ pos < s.size) : badR s fuel pos = false := by
 cases fuel with
 | zero => rfl
 | succ f => simp [badR, h]
def label_Right.f (a0 : ByteArray) : Option Bool := if a0.size ≤ 9223372036854775807 then some (!(badR a0 a0.size 0) && (Lib.validD a0.data.toList && (decide (0 < a0.size) && (decide (cntR a0 a0.size 0 ≤ 24) && (decide (bt a0 0 ≠ 32) && decide (bt a0 ((a0.size : Int) - 1) ≠ 32)))))) else none
set_option maxHeartbeats 1000000 in
set_option maxRecDepth 100000 in
theorem label_Right.calls (a0 : ByteArray) (r : Bool) (w : World) (ht : TabsW w) (h : label_Right.f a0 = some r) :
  Calls Tryd.prog 80 #[.string a0] w fun e w' => e = .returned (.bool r) ∧ Below w.heap.size w w' := by
 unfold label_Right.f at h
 by_cases hs : a0.size ≤ 9223372036854775807
 ·rw [if_pos hs] at h
  obtain rfl := Option.some.inj h
  clear h
  have HT := Aside0.mk ht
  clear ht
  generalize hR : badR a0 a0.size 0 = R
  generalize hres0 : (!R && (Lib.validD a0.data.toList && (decide (0 < a0.size) && (decide (cntR a0 a0.size 0 ≤ 24) && (decide (bt a0 0 ≠ 32) && decide (bt a0 ((a0.size : Int) - 1) ≠ 32)))))) = res
  have HRES0 := Aside0.mk hres0
  clear hres0
  go_enter Tryd.func80, Tryd.ntmps80
  go_wp2
  go_loopw [] (fun wr => ∃ (pos fuel : Nat), wr.heap[w.heap.size]? = some (.stringIter a0 pos) ∧ Below w.heap.size w wr ∧ badR a0 fuel pos = R ∧ a0.size ≤ pos + fuel) (fun wr => a0.size - wr.iterPos w.heap.size)
  case atStart =>
   refine ⟨0, a0.size, ?_, (Below.refl _ w).alloc (Nat.le_refl _) _, hR, by omega⟩
   exact World.iter_heap w a0 0
  case round =>
   clear hR
   obtain ⟨pos, fuel, hit, hbw, hacc, hfu⟩ := hrel
   by_cases hp : pos < a0.size
   ·have hnx : ∀ ty, (Instr.next (.pointer (some ⟨w.heap.size, 0, none⟩)) true ty).run Tryd.prog wr = _ := fun ty => Lib.run_next_any_at wr w.heap.size a0 pos ty hit hp
    have hwd := width_posR a0 pos hp
    have hit2 := Lib.iterAt_heap wr w.heap.size a0 pos (pos + (Utf8.decode a0 pos).2) hit
    have hbw2 := Lib.below_iterAt hbw (k := w.heap.size) (Nat.le_refl _) a0 (pos + (Utf8.decode a0 pos).2)
    obtain ⟨f, rfl⟩ : ∃ f, fuel = f + 1 := ⟨fuel - 1, by omega⟩
    rw [badR, if_pos hp] at hacc
    by_cases h1 : ((Utf8.decode a0 pos).1 : Int) < 32
    ·have b1 : decide (((Utf8.decode a0 pos).1 : Int) < 32) = true := decide_eq_true h1
     rw [if_pos h1] at hacc
     subst hacc
     clear h1
     have HF := Aside0.mk (show res = false by rw [← HRES0.out]; rfl)
     clear HRES0
     go_wp2
     go_ret
     exact ⟨by rw [HF.out]; rfl, hbw2⟩
    ·have b1 : decide (((Utf8.decode a0 pos).1 : Int) < 32) = false := decide_eq_false h1
     rw [if_neg h1] at hacc
     clear h1
     by_cases h2 : ((Utf8.decode a0 pos).1 : Int) = 127
     ·have b2 : (((Utf8.decode a0 pos).1 : Int) == 127) = true := beq_iff_eq.2 h2
      have b3 : decide (((Utf8.decode a0 pos).1 : Int) = 127) = true := decide_eq_true h2
      rw [if_pos h2] at hacc
      subst hacc
      clear h2
      have HF := Aside0.mk (show res = false by rw [← HRES0.out]; rfl)
      clear HRES0
      go_wp2
      go_ret
      exact ⟨by rw [HF.out]; rfl, hbw2⟩
     ·have b2 : (((Utf8.decode a0 pos).1 : Int) == 127) = false := beq_eq_false_iff_ne.2 h2
      have b3 : decide (((Utf8.decode a0 pos).1 : Int) = 127) = false := decide_eq_false h2
      rw [if_neg h2] at hacc
      clear h2
      go_wp2
      go_roundw
      case rel => exact ⟨pos + (Utf8.decode a0 pos).2, f, hit2, hbw2, hacc, by omega⟩
      case measure =>
       simp only [World.iterPos, hit2, hit]
       omega
   ·have hnx : ∀ ty, (Instr.next (.pointer (some ⟨w.heap.size, 0, none⟩)) true ty).run Tryd.prog wr = _ := fun ty => Lib.run_next_end_at wr w.heap.size a0 pos ty hit hp
    rw [badR_end a0 fuel pos hp] at hacc
    subst hacc
    have hV : label_Valid.f a0 = some (Lib.validD a0.data.toList) := by unfold label_Valid.f utf8_ValidString.f; rw [if_pos hs]; rfl
    have hC : label_Count.f a0 = some (cntR a0 a0.size 0 : Int) := by unfold label_Count.f; rw [if_pos hs]
    have HTW := Aside0.mk (TabsW.below HT.out hbw)
    have HBW := Aside0.mk hbw
    have hbl : ∀ hz : 0 < a0.size, bt a0 0 = ((a0[0]'hz).toNat : Int) ∧ bt a0 ((a0.size : Int) - 1) = ((a0[a0.size - 1]'(by omega)).toNat : Int) := fun hz => by
     have e : ((a0.size : Int) - 1).toNat = a0.size - 1 := by omega
     refine ⟨?_, ?_⟩
     ·unfold bt; rw [dif_pos (show (0 : Int).toNat < a0.size from hz)]; rfl
     ·unfold bt; rw [dif_pos (by omega)]; simp only [e]
    have hres := HRES0.out
    clear HRES0
    cases hv : Lib.validD a0.data.toList with
    | false =>
     rw [hv] at hV hres
     have HRES := Aside0.mk (show res = false by rw [← hres]; simp)
     clear hres hbl hC
     go_wp2_with (go_at_call 97; refine (label_Valid.calls a0 _ _ HTW.out hV).mono ?_; rintro e w2 ⟨rfl, hb2⟩)
     go_ret
     exact ⟨by rw [HRES.out]; rfl, below_step HBW.out hb2⟩
    | true =>
     rw [hv] at hV hres
     by_cases hz : 0 < a0.size
     ·have he : a0.toList.isEmpty = false := by
       cases ht : a0.toList with
       | nil =>
        have : a0.data.toList.length = 0 := by rw [← Lib.toList_data, ht]; rfl
        rw [Array.length_toList] at this
        have h2 : a0.size = a0.data.size := rfl
        omega
       | cons _ _ => rfl
      by_cases h24 : cntR a0 a0.size 0 ≤ 24
      ·have h24z : decide ((cntR a0 a0.size 0 : Int) ≤ 24) = true := decide_eq_true (by omega)
       obtain ⟨q0, q1⟩ := hbl hz
       have HRES := Aside0.mk (show res = (decide ((a0[0].toNat : Int) ≠ 32) && decide ((a0[a0.size - 1].toNat : Int) ≠ 32)) by
        rw [← hres, decide_eq_true hz, decide_eq_true h24, q0, q1]
        rfl)
       clear hres q0 q1 hbl h24
       generalize cntR a0 a0.size 0 = cn at hC h24z
       by_cases e0 : (a0[0].toNat : Int) = 32
       ·have HR2 := Aside0.mk (show res = false by rw [HRES.out, e0]; rfl)
        clear HRES
        go_wp2_with (first | (go_at_call 97; refine (label_Valid.calls a0 _ _ HTW.out hV).mono ?_; rintro e w2 ⟨rfl, hb2⟩) | (go_at_call 98; refine (label_Count.calls a0 _ _ hC).mono ?_; rintro e w3 ⟨rfl, hb3⟩))
        go_ret
        exact ⟨by rw [HR2.out]; rfl, below_step (below_step HBW.out hb2) hb3⟩
       ·have n0 : ((a0[0].toNat : Int) != 32) = true := bne_iff_ne.2 e0
        have HR2 := Aside0.mk (show res = decide ((a0[a0.size - 1].toNat : Int) ≠ 32) by rw [HRES.out, decide_eq_true e0]; rfl)
        clear HRES
        by_cases e1 : (a0[a0.size - 1].toNat : Int) = 32
        ·have HR3 := Aside0.mk (show res = false by rw [HR2.out, e1]; rfl)
         clear HR2
         go_wp2_with (first | (go_at_call 97; refine (label_Valid.calls a0 _ _ HTW.out hV).mono ?_; rintro e w2 ⟨rfl, hb2⟩) | (go_at_call 98; refine (label_Count.calls a0 _ _ hC).mono ?_; rintro e w3 ⟨rfl, hb3⟩))
         go_ret
         exact ⟨by rw [HR3.out]; rfl, below_step (below_step HBW.out hb2) hb3⟩
        ·have n1 : ((a0[a0.size - 1].toNat : Int) != 32) = true := bne_iff_ne.2 e1
         have HR3 := Aside0.mk (show res = true by rw [HR2.out, decide_eq_true e1])
         clear HR2
         go_wp2_with (first | (go_at_call 97; refine (label_Valid.calls a0 _ _ HTW.out hV).mono ?_; rintro e w2 ⟨rfl, hb2⟩) | (go_at_call 98; refine (label_Count.calls a0 _ _ hC).mono ?_; rintro e w3 ⟨rfl, hb3⟩))
         go_ret
         exact ⟨by rw [HR3.out]; rfl, below_step (below_step HBW.out hb2) hb3⟩
      ·have h24z : decide ((cntR a0 a0.size 0 : Int) ≤ 24) = false := decide_eq_false (by omega)
       have HRES := Aside0.mk (show res = false by rw [← hres, decide_eq_false h24]; simp)
       clear hres hbl h24
       generalize cntR a0 a0.size 0 = cn at hC h24z
       go_wp2_with (first | (go_at_call 97; refine (label_Valid.calls a0 _ _ HTW.out hV).mono ?_; rintro e w2 ⟨rfl, hb2⟩) | (go_at_call 98; refine (label_Count.calls a0 _ _ hC).mono ?_; rintro e w3 ⟨rfl, hb3⟩))
       go_ret
       exact ⟨by rw [HRES.out]; rfl, below_step (below_step HBW.out hb2) hb3⟩
     ·have he : a0.toList.isEmpty = true := by
       rw [Lib.toList_data]
       have : a0.data.toList = [] := List.eq_nil_of_length_eq_zero (by rw [Array.length_toList]; have h2 : a0.size = a0.data.size := rfl; omega)
       rw [this]
       rfl
      have HRES := Aside0.mk (show res = false by rw [← hres, decide_eq_false hz]; simp)
      clear hres hbl hC
      go_wp2_with (go_at_call 97; refine (label_Valid.calls a0 _ _ HTW.out hV).mono ?_; rintro e w2 ⟨rfl, hb2⟩)
      go_ret
      exact ⟨by rw [HRES.out]; rfl, below_step HBW.out hb2⟩
 ·rw [if_neg hs] at h
  cases h
end Go.Proofs.YtppbcankhkgpfaaDoor.PDir
