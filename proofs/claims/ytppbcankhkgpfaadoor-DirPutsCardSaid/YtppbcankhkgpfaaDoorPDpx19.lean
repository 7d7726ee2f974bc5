import Derived.Test.YtppbcankhkgpfaaDoorPDpx0
import Derived.Test.YtppbcankhkgpfaaDoorPDpx5
import Derived.Test.YtppbcankhkgpfaaDoorPDpx11
import Derived.Test.YtppbcankhkgpfaaDoorPDpx13
import Derived.Lib.SlBytesRow
import Derived.Lib.EndianMore
import Derived.Laws.BitsAllLaws
import Derived.Outline
import Derived.Test.YtppbcankhkgpfaaDoorPDpx4
import Derived.Shelf.Strings.BuilderK
import Derived.Test.YtppbcankhkgpfaaDoorLayD
import Derived.Lib.OthersKept
--compressed
namespace Go.Proofs.YtppbcankhkgpfaaDoor.PDp
open Go.RowKit Go.Proofs.YtppbcankhkgpfaaDoorW.PrintWords Go.Proofs.YtppbcankhkgpfaaDoorW.PrintLast Go.Proofs.YtppbcankhkgpfaaDoorW.PrintMore
attribute [local go_sem] max2_int min2_int max_two min_two max_three min_three max_four min_four   -- for this text's walks alone
attribute [local go_sem high] hw_str_leq hw_str_gtr
set_option linter.unusedVariables false
set_option linter.unusedSimpArgs false
def dir_Take.l0 : Nat → List (S43) → Int → Int → ByteArray → Bool → Option ((List (S43)) × Int)
 | 0, _, _, _, _, _ => none
 | k + 1, x7, x20, x21, x150000, x150001 => if x21 < x20 then ((dir_file.f k x150000 x150001).bind fun bt153 => (if x7.length < 2932031007402 then (dir_Take.l0 k (x7 ++ [(⟨bt153.1, bt153.2.1, bt153.2.2.1⟩ : S43)]) x20 (IntKind.u64.wrap (x21 + 1)) bt153.2.2.2.1 bt153.2.2.2.2) else (none))) else ((le_Reader_Over.f x150000 x150001).bind fun bt163 => (if bt163.1 = true then ((dir_directory.f k x7).bind fun t166 => (if t166 = true then (some (x7, 0)) else (some (([] : List (S43)), 2)))) else (some (([] : List (S43)), 2))))
def dir_Take.f (k : Nat) (a0 : ByteArray) : Option ((List (S43)) × Int) := (seal_Take.f a0).bind fun bt147 => (if bt147.2 = 0 then ((le_Reader_Number.f k bt147.1 false 1).bind fun bt150 => (dir_Take.l0 k ([] : List (S43)) bt150.1 0 bt150.2.1 bt150.2.2)) else (some (([] : List (S43)), bt147.2)))
set_option maxHeartbeats 8000000 in
set_option maxRecDepth 100000 in
theorem dir_Take.calls (k : Nat) (a0 : ByteArray) (r1 : List (S43)) (r2 : Int) (w : World) (ht : TabsW w) (h : dir_Take.f k a0 = some (r1, r2)) :
  Calls Tryd.prog 12 #[.string a0] w fun e w' => ∃ v0_ : Value, e = .returned (.tuple #[v0_, .int .i64 r2]) ∧ Kd.S k43 43 w' w.heap.size (fun _ => True) v0_ r1 ∧ Below w.heap.size w w' := by
 have hu71 := Tryd.underlying71
 have HT0 := Aside0.mk ht
 clear ht
 have HB := Aside0.mk (Below.refl w.heap.size w)
 have H : ((seal_Take.f a0).bind fun bt147 => (if bt147.2 = 0 then ((le_Reader_Number.f k bt147.1 false 1).bind fun bt150 => (dir_Take.l0 k ([] : List (S43)) bt150.1 0 bt150.2.1 bt150.2.2)) else (some (([] : List (S43)), bt147.2)))) = some (r1, r2) := h
 clear h
 replace H := Option.bind_eq_some_iff.mp H
 obtain ⟨⟨t147, t148⟩, A20, H⟩ := H
 replace H : (if t148 = 0 then ((le_Reader_Number.f k t147 false 1).bind fun bt150 => (dir_Take.l0 k ([] : List (S43)) bt150.1 0 bt150.2.1 bt150.2.2)) else (some (([] : List (S43)), t148))) = some (r1, r2) := H
 have A2 := Aside0.mk A20
 clear A20
 by_cases c3 : t148 = 0
 ·rw [if_pos c3] at H
  have c3b0 : (t148 == 0) = true := beq_iff_eq.mpr c3
  have c3b1 : (t148 != 0) = false := bne_eq_false_iff_eq.mpr c3
  clear c3
  replace H := Option.bind_eq_some_iff.mp H
  obtain ⟨⟨t150, t151, t152⟩, A40, H⟩ := H
  replace H : (dir_Take.l0 k ([] : List (S43)) t150 0 t151 t152) = some (r1, r2) := H
  have A4 := Aside0.mk A40
  clear A40
  have H' := Aside0.mk H
  clear H
  go_enter Tryd.func12, Tryd.ntmps12
  go_wp2_with (first | ((with_reducible refine gate_callee (f := 32) rfl ?_); refine goesL_ (some 10) rfl rfl Tryd.func32 (by kernel_rfl) rfl #[.string a0] rfl argA ?_; (with_reducible refine (seal_Take.calls a0 t147 t148 _ A2.out).mono ?_); rintro e w5 ⟨rfl, hb⟩; refine ⟨_, rfl, ?_⟩; have n0_ := Aside0.mk (below_step belA hb); clear HB; have HB := n0_; clear n0_; (try clear hb); (try clear hb2); (try clear hk); (try clear hi)) | ((with_reducible refine gate_dst (N := 18) rfl ?_); refine box_event ?hg (N := 18) ?hd (cs := #[.string t147, .bool false]) (t := 71) ?hr ?_; (case hd => rfl); (case hg => rfl); (case hr => first | (go_simp; done) | (go_simp; rfl)); intro gb149 hg w6 hbox hb; have n0_ := Aside0.mk (below_step belA hb); have n1_ := Aside0.mk ((show IsS71 w w6 gb149 t147 false from ⟨hbox, (by rw [hg]; exact (below_size belA) : w.heap.size ≤ gb149)⟩)); have n2_ := Aside0.mk ((by rw [hg]; exact (below_size belA) : w.heap.size ≤ gb149)); have n3_ := Aside0.mk ((by rw [hg]; exact (below_size belA) : w.heap.size ≤ gb149)); clear HB; have HB := n0_; have HI149 := n1_; have GW149 := n2_; have GE149 := n3_; clear n0_ n1_ n2_ n3_; clear hb hbox hg) | ((with_reducible refine gate_callee (f := 35) rfl ?_); refine goesL_ (some 20) rfl rfl Tryd.func35 (by kernel_rfl) rfl #[.pointer (some ⟨gb149, 0, none⟩), .int .i64 1] rfl argA ?_; (with_reducible refine (le_Reader_Number.calls k gb149 t147 false 1 t150 t151 t152 w _ ?side1 ?side2 A4.out).mono ?_); (case side1 => repeat (first | (with_reducible first | exact HI149.out | apply IsS71.alloc | apply IsS71.drewN | apply IsS71.drew | apply IsS71.set_0 | apply IsS71.set_1) | exact HI149.out)); (case side2 => repeat (first | (with_reducible first | exact HB.out | apply below_alloc | apply pw_below_drewN | apply below_drew1 | refine below_set ?_ (IsS71.ge HI149.out)) | exact HB.out)); rintro e w7 ⟨rfl, hi, hb, hk⟩; refine ⟨_, rfl, ?_⟩; have n0_ := Aside0.mk (hb); have n1_ := Aside0.mk (hi); clear HB; clear HI149; have HB := n0_; have HI149 := n1_; clear n0_ n1_; (try clear hb); (try clear hb2); (try clear hk); (try clear hi)))
  go_loopg [7, 21] k (fun kq v7 v21 w' => ∃ (x7_1 : List (S43)) (x21_1 : Int) (x150000_1 : ByteArray) (x150001_1 : Bool), v21 = .int .u64 x21_1 ∧ Aside0 (dir_Take.l0 kq x7_1 t150 x21_1 x150000_1 x150001_1 = some (r1, r2)) ∧ Aside0 (kq ≤ k) ∧ Aside0 (Kd.S k43 43 w' w.heap.size (fun _ => True) v7 x7_1) ∧ Aside0 (IsS71 w w' gb149 x150000_1 x150001_1) ∧ Aside0 (Below w.heap.size w w'))
  case atStart => exact ⟨(([] : List (S43))), (0), (t151), (t152), (by first | rfl | (simp; done) | (simp [*]; done)), H', ⟨Nat.le_refl _⟩, ⟨by first | exact Kd.S_nil _ _ _ _ _ | exact Kd.N_nil _ _ _ _ _ | exact Kd.V_nil _ _ _ _ _ | exact Kd.Q_nil _ _ _ _ _ | exact Kd.R_nil _ _ _ _ _⟩, ⟨by repeat (first | (with_reducible first | exact HI149.out | apply IsS71.alloc | apply IsS71.drewN | apply IsS71.drew | apply IsS71.set_0 | apply IsS71.set_1) | exact HI149.out)⟩, ⟨by repeat (first | (with_reducible first | exact HB.out | apply below_alloc | apply pw_below_drewN | apply below_drew1 | refine below_set ?_ (IsS71.ge HI149.out)) | exact HB.out)⟩⟩
  case round =>
   clear H'
   try clear c1
   try clear p2
   try clear c3
   try clear c3b0
   try clear c3b1
   obtain ⟨x7_1, x21_1, x150000_1, x150001_1, rfl, HA, HK1, HO_7, HI149, HB⟩ := hrel
   cases gk with
   | zero => exact absurd HA.out (by simp [dir_Take.l0])
   | succ k1 =>
    have H := HA.out
    clear HA
    simp only [dir_Take.l0] at H
    by_cases c8 : x21_1 < t150
    ·rw [if_pos c8] at H
     have c8b0 : decide (x21_1 < t150) = true := decide_eq_true c8
     clear c8
     replace H := Option.bind_eq_some_iff.mp H
     obtain ⟨⟨t153, t154, t155, t158, t159⟩, A90, H⟩ := H
     replace H : (if x7_1.length < 2932031007402 then (dir_Take.l0 k1 (x7_1 ++ [(⟨t153, t154, t155⟩ : S43)]) t150 (IntKind.u64.wrap (x21_1 + 1)) t158 t159) else (none)) = some (r1, r2) := H
     have A9 := Aside0.mk A90
     clear A90
     by_cases c10 : x7_1.length < 2932031007402
     ·rw [if_pos c10] at H
      have LMc10 := Aside0.mk c10
      clear c10
      obtain ⟨y160, hy160⟩ : ∃ y_ : List (S43), y_ = (x7_1 ++ [(⟨t153, t154, t155⟩ : S43)]) := ⟨_, rfl⟩
      replace H : (dir_Take.l0 k1 y160 t150 (IntKind.u64.wrap (x21_1 + 1)) t158 t159) = some (r1, r2) := by first | (rw [hy160]; with_reducible exact H) | (have H2_ := (Option.bind_some _ _).symm.trans H; rw [hy160]; with_reducible exact H2_) | (have H2_ := (Option.bind_some _ _).symm.trans H; with_reducible exact H2_) | with_reducible exact H | (rw [hy160]; exact H) | exact H
      have Ny160 := Aside0.mk hy160
      clear hy160
      have H' := Aside0.mk H
      clear H
      go_wp2_with (first | ((with_reducible refine gate_callee (f := 36) rfl ?_); refine goesL_ (some 25) rfl rfl Tryd.func36 (by kernel_rfl) rfl #[.pointer (some ⟨gb149, 0, none⟩)] rfl argA ?_; (with_reducible refine (dir_file.calls k1 gb149 x150000_1 x150001_1 t153 t154 t155 t158 t159 w _ ?side1 ?side2 A9.out).mono ?_); (case side1 => repeat (first | (with_reducible first | exact HI149.out | apply IsS71.alloc | apply IsS71.drewN | apply IsS71.drew | apply IsS71.set_0 | apply IsS71.set_1) | exact HI149.out)); (case side2 => repeat (first | (with_reducible first | exact HB.out | apply below_alloc | apply pw_below_drewN | apply below_drew1 | refine below_set ?_ (IsS71.ge HI149.out)) | exact HB.out)); rintro e w11 ⟨v156, rfl, ho0, hi, hb, hk⟩; refine ⟨_, rfl, ?_⟩; have n0_ := Aside0.mk (Kd.S_mono (Kd.S_told (Kd.S_oldK (IsS71.apartS (show IsS71 w _ gb149 x150000_1 x150001_1 from by repeat (first | (with_reducible first | exact HI149.out | apply IsS71.alloc | apply IsS71.drewN | apply IsS71.drew | apply IsS71.set_0 | apply IsS71.set_1) | exact HI149.out)) (kdS_ HO_7.out) (by decide)) hk) (Kd.R_base ho0)) (fun _ h_ => h_.1)); have n1_ := Aside0.mk (Kd.R_lower ho0 (below_size (by repeat (first | (with_reducible first | exact HB.out | apply below_alloc | apply pw_below_drewN | apply below_drew1 | refine below_set ?_ (IsS71.ge HI149.out)) | exact HB.out)))); have n2_ := Aside0.mk (hb); have n3_ := Aside0.mk (hi); clear HO_7; clear HB; clear HI149; have HO_7 := n0_; have HO157 := n1_; have HB := n2_; have HI149 := n3_; clear n0_ n1_ n2_ n3_; (try clear hb); (try clear hb2); (try clear hk); (try clear hi); (try clear ho0); obtain ⟨Ao13, co13, eo13⟩ := Kd.R_slice HO157.out; subst eo13) | ((with_reducible refine gate_builtin (b := .append) (xs := #[.tmp 23, .tmp 26]) rfl ?_); at_builtin; refine Kd.S_append k43 (w0 := w) w.heap.size rfl (.tmp 23) (.tmp 26) 24 43 (.agg #[(.string ⟨#[]⟩), (.int .i64 0), (.slice none 0 0)]) 48 rfl Tryd.underlying24 info43 rfl (by decide) (by omega) u7 x7_1 (⟨t153, t154, t155⟩ : S43) [.string t153, .int .i64 t154, .slice Ao13 t155.length co13] (fun _ => True) (fun k_ => some k_ = (.slice Ao13 t155.length co13 : Value).ownBlock) rfl rfl ?aP (fun k_ hk_ => ((Kd.R_mono (ok' := fun k_ => ((fun _ => True)) k_ ∧ some k_ ≠ (u7 : Value).ownBlock) (Kd.R_apart' (HO157.out) (Kd.S_typed HO_7.out) (by decide)) (fun k_ hk => ⟨trivial, hk.2⟩))).1 k_ hk_.symm) ?aF ?aO ?aB ?aS ?aL ?_; (case aP => exact k43_mkM _ _ _ (⟨t153, t154, t155⟩ : S43) (Kd.R_mono (Kd.R_tight rfl (Kd.R_mono (ok' := fun k_ => ((fun _ => True)) k_ ∧ some k_ ≠ (u7 : Value).ownBlock) (Kd.R_apart' (HO157.out) (Kd.S_typed HO_7.out) (by decide)) (fun k_ hk => ⟨trivial, hk.2⟩))) (fun _ h_ => h_))); (case aB => exact (by repeat (first | (with_reducible first | exact HB.out | apply below_alloc | apply pw_below_drewN | apply below_drew1 | refine below_set ?_ (IsS71.ge HI149.out)) | exact HB.out))); (case aF => exact (fun _ _ => trivial)); (case aO => exact (by (with_reducible repeat (first | apply Kd.S_alloc | apply Kd.S_drewN | apply Kd.S_drew)); exact Kd.S_mono HO_7.out (fun k_ hk => ⟨trivial, fun e_ => hk.2 e_⟩))); (case aS => exact (below_size (by repeat (first | (with_reducible first | exact HB.out | apply below_alloc | apply pw_below_drewN | apply below_drew1 | refine below_set ?_ (IsS71.ge HI149.out)) | exact HB.out)))); (case aL => have := LMc10.out; omega); intro v161 w12 ho hb hg hat; rw [← Ny160.out] at ho; have n0_ := Aside0.mk (IsS71.grown (show IsS71 w _ gb149 t158 t159 from by repeat (first | (with_reducible first | exact HI149.out | apply IsS71.alloc | apply IsS71.drewN | apply IsS71.drew | apply IsS71.set_0 | apply IsS71.set_1) | exact HI149.out)) hg (IsS71.own_neS HI149.out HO_7.out (by decide))); have n1_ := Aside0.mk (hb); have n2_ := Aside0.mk (ho); clear HI149; clear HB; clear HO_7; clear HO157; have HI149 := n0_; have HB := n1_; have HO162 := n2_; clear n0_ n1_ n2_; clear ho hb hg hat))
      go_roundg k1
      case measure => have := HK1.out; omega
      case rel => exact ⟨(y160), (IntKind.u64.wrap (x21_1 + 1)), (t158), (t159), (by first | rfl | (simp; done) | (simp [*]; done)), H', ⟨by have := HK1.out; omega⟩, ⟨by (with_reducible repeat (first | apply Kd.S_alloc | apply Kd.S_drewN | apply Kd.S_drew)); exact HO162.out⟩, ⟨by repeat (first | (with_reducible first | exact HI149.out | apply IsS71.alloc | apply IsS71.drewN | apply IsS71.drew | apply IsS71.set_0 | apply IsS71.set_1) | exact HI149.out)⟩, ⟨by repeat (first | (with_reducible first | exact HB.out | apply below_alloc | apply pw_below_drewN | apply below_drew1 | refine below_set ?_ (IsS71.ge HI149.out)) | exact HB.out)⟩⟩
     ·rw [if_neg c10] at H
      exact absurd H (by simp)
    ·rw [if_neg c8] at H
     have c8b0 : decide (x21_1 < t150) = false := decide_eq_false c8
     clear c8
     replace H := Option.bind_eq_some_iff.mp H
     obtain ⟨⟨t163, t164, t165⟩, A140, H⟩ := H
     replace H : (if t163 = true then ((dir_directory.f k1 x7_1).bind fun t166 => (if t166 = true then (some (x7_1, 0)) else (some (([] : List (S43)), 2)))) else (some (([] : List (S43)), 2))) = some (r1, r2) := H
     have A14 := Aside0.mk A140
     clear A140
     by_cases c15 : t163 = true
     ·subst c15
      have H1 : ((dir_directory.f k1 x7_1).bind fun t166 => (if t166 = true then (some (x7_1, 0)) else (some (([] : List (S43)), 2)))) = some (r1, r2) := by rw [if_pos rfl] at H; exact H
      clear H
      have H := H1
      clear H1
      replace H := Option.bind_eq_some_iff.mp H
      obtain ⟨t166, A160, H⟩ := H
      replace H : (if t166 = true then (some (x7_1, 0)) else (some (([] : List (S43)), 2))) = some (r1, r2) := H
      have A16 := Aside0.mk A160
      clear A160
      by_cases c17 : t166 = true
      ·subst c17
       have H1 : (some (x7_1, 0)) = some (r1, r2) := by rw [if_pos rfl] at H; exact H
       clear H
       have H := H1
       clear H1
       simp only [Option.some.injEq, Prod.mk.injEq] at H
       obtain ⟨rfl, rfl⟩ := H
       go_wp2_with (first | ((with_reducible refine gate_callee (f := 37) rfl ?_); refine goesL_ (some 30) rfl rfl Tryd.func37 (by kernel_rfl) rfl #[.pointer (some ⟨gb149, 0, none⟩)] rfl argA ?_; (with_reducible refine (le_Reader_Over.calls gb149 x150000_1 x150001_1 true t164 t165 w _ ?side1 ?side2 A14.out).mono ?_); (case side1 => repeat (first | (with_reducible first | exact HI149.out | apply IsS71.alloc | apply IsS71.drewN | apply IsS71.drew | apply IsS71.set_0 | apply IsS71.set_1) | exact HI149.out)); (case side2 => repeat (first | (with_reducible first | exact HB.out | apply below_alloc | apply pw_below_drewN | apply below_drew1 | refine below_set ?_ (IsS71.ge HI149.out)) | exact HB.out)); rintro e w18 ⟨rfl, hi, hb, hk⟩; refine ⟨_, rfl, ?_⟩; have n0_ := Aside0.mk (Kd.S_mono (Kd.S_keep (IsS71.apartS (show IsS71 w _ gb149 x150000_1 x150001_1 from by repeat (first | (with_reducible first | exact HI149.out | apply IsS71.alloc | apply IsS71.drewN | apply IsS71.drew | apply IsS71.set_0 | apply IsS71.set_1) | exact HI149.out)) (kdS_ HO_7.out) (by decide)) hk (fun _ h => h.2)) (fun _ h => h.1)); have n1_ := Aside0.mk (hb); have n2_ := Aside0.mk (hi); clear HO_7; clear HB; clear HI149; have HO_7 := n0_; have HB := n1_; have HI149 := n2_; clear n0_ n1_ n2_; (try clear hb); (try clear hb2); (try clear hk); (try clear hi); obtain ⟨Ao19, co19, eo19⟩ := Kd.S_slice HO_7.out; subst eo19) | (go_at_call 38; (with_reducible refine (dir_directory.calls k1 _ _ x7_1 true _ ?side1 ?side2 ?side3 A16.out).mono ?_); (case side1 => repeat (first | exact (Kd.S_reads' HO_7.out).2.2 | (with_reducible refine Kd.C_alloc ?_ _) | (with_reducible refine Kd.C_drewN ?_ _) | (with_reducible refine Kd.C_drew ?_))); (case side2 => exact (Kd.S_reads' HO_7.out).2.1); (case side3 => exact TabsW.below HT0.out (by repeat (first | (with_reducible first | exact HB.out | apply below_alloc | apply pw_below_drewN | apply below_drew1 | refine below_set ?_ (IsS71.ge HI149.out)) | exact HB.out))); rintro e w20 ⟨rfl, hb⟩; have n0_ := Aside0.mk (Kd.S_below (kdS_ HO_7.out) hb); have n1_ := Aside0.mk (IsS71.below (by repeat (first | (with_reducible first | exact HI149.out | apply IsS71.alloc | apply IsS71.drewN | apply IsS71.drew | apply IsS71.set_0 | apply IsS71.set_1) | exact HI149.out)) hb); have n2_ := Aside0.mk (below_step (by repeat (first | (with_reducible first | exact HB.out | apply below_alloc | apply pw_below_drewN | apply below_drew1 | refine below_set ?_ (IsS71.ge HI149.out)) | exact HB.out)) hb); clear HO_7; clear HI149; clear HB; have HO_7 := n0_; have HI149 := n1_; have HB := n2_; clear n0_ n1_ n2_; (try clear hb); (try clear hb2); (try clear hk); (try clear hi)))
       go_ret2
       exact ⟨_, by first | rfl | (simp [errW_none, errW_some] <;> rfl) | (simp [*, errW_none, errW_some] <;> rfl), by (with_reducible repeat (first | apply Kd.S_alloc | apply Kd.S_drewN | apply Kd.S_drew)); exact HO_7.out, by repeat (first | (with_reducible first | exact HB.out | apply below_alloc | apply pw_below_drewN | apply below_drew1 | refine below_set ?_ (IsS71.ge HI149.out)) | exact HB.out)⟩
      ·replace c17 := Bool.eq_false_iff.mpr c17
       subst c17
       have H1 : (some (([] : List (S43)), 2)) = some (r1, r2) := by rw [if_neg (show ¬ (false = true) by decide)] at H; exact H
       clear H
       have H := H1
       clear H1
       simp only [Option.some.injEq, Prod.mk.injEq] at H
       obtain ⟨rfl, rfl⟩ := H
       go_wp2_with (first | ((with_reducible refine gate_callee (f := 37) rfl ?_); refine goesL_ (some 30) rfl rfl Tryd.func37 (by kernel_rfl) rfl #[.pointer (some ⟨gb149, 0, none⟩)] rfl argA ?_; (with_reducible refine (le_Reader_Over.calls gb149 x150000_1 x150001_1 true t164 t165 w _ ?side1 ?side2 A14.out).mono ?_); (case side1 => repeat (first | (with_reducible first | exact HI149.out | apply IsS71.alloc | apply IsS71.drewN | apply IsS71.drew | apply IsS71.set_0 | apply IsS71.set_1) | exact HI149.out)); (case side2 => repeat (first | (with_reducible first | exact HB.out | apply below_alloc | apply pw_below_drewN | apply below_drew1 | refine below_set ?_ (IsS71.ge HI149.out)) | exact HB.out)); rintro e w21 ⟨rfl, hi, hb, hk⟩; refine ⟨_, rfl, ?_⟩; have n0_ := Aside0.mk (Kd.S_mono (Kd.S_keep (IsS71.apartS (show IsS71 w _ gb149 x150000_1 x150001_1 from by repeat (first | (with_reducible first | exact HI149.out | apply IsS71.alloc | apply IsS71.drewN | apply IsS71.drew | apply IsS71.set_0 | apply IsS71.set_1) | exact HI149.out)) (kdS_ HO_7.out) (by decide)) hk (fun _ h => h.2)) (fun _ h => h.1)); have n1_ := Aside0.mk (hb); have n2_ := Aside0.mk (hi); clear HO_7; clear HB; clear HI149; have HO_7 := n0_; have HB := n1_; have HI149 := n2_; clear n0_ n1_ n2_; (try clear hb); (try clear hb2); (try clear hk); (try clear hi); obtain ⟨Ao22, co22, eo22⟩ := Kd.S_slice HO_7.out; subst eo22) | (go_at_call 38; (with_reducible refine (dir_directory.calls k1 _ _ x7_1 false _ ?side1 ?side2 ?side3 A16.out).mono ?_); (case side1 => repeat (first | exact (Kd.S_reads' HO_7.out).2.2 | (with_reducible refine Kd.C_alloc ?_ _) | (with_reducible refine Kd.C_drewN ?_ _) | (with_reducible refine Kd.C_drew ?_))); (case side2 => exact (Kd.S_reads' HO_7.out).2.1); (case side3 => exact TabsW.below HT0.out (by repeat (first | (with_reducible first | exact HB.out | apply below_alloc | apply pw_below_drewN | apply below_drew1 | refine below_set ?_ (IsS71.ge HI149.out)) | exact HB.out))); rintro e w23 ⟨rfl, hb⟩; have n0_ := Aside0.mk (Kd.S_below (kdS_ HO_7.out) hb); have n1_ := Aside0.mk (IsS71.below (by repeat (first | (with_reducible first | exact HI149.out | apply IsS71.alloc | apply IsS71.drewN | apply IsS71.drew | apply IsS71.set_0 | apply IsS71.set_1) | exact HI149.out)) hb); have n2_ := Aside0.mk (below_step (by repeat (first | (with_reducible first | exact HB.out | apply below_alloc | apply pw_below_drewN | apply below_drew1 | refine below_set ?_ (IsS71.ge HI149.out)) | exact HB.out)) hb); clear HO_7; clear HI149; clear HB; have HO_7 := n0_; have HI149 := n1_; have HB := n2_; clear n0_ n1_ n2_; (try clear hb); (try clear hb2); (try clear hk); (try clear hi)))
       go_ret2
       exact ⟨_, by first | rfl | (simp [errW_none, errW_some] <;> rfl) | (simp [*, errW_none, errW_some] <;> rfl), by first | exact Kd.S_nil _ _ _ _ _ | exact Kd.N_nil _ _ _ _ _ | exact Kd.V_nil _ _ _ _ _ | exact Kd.Q_nil _ _ _ _ _ | exact Kd.R_nil _ _ _ _ _, by repeat (first | (with_reducible first | exact HB.out | apply below_alloc | apply pw_below_drewN | apply below_drew1 | refine below_set ?_ (IsS71.ge HI149.out)) | exact HB.out)⟩
     ·replace c15 := Bool.eq_false_iff.mpr c15
      subst c15
      have H1 : (some (([] : List (S43)), 2)) = some (r1, r2) := by rw [if_neg (show ¬ (false = true) by decide)] at H; exact H
      clear H
      have H := H1
      clear H1
      simp only [Option.some.injEq, Prod.mk.injEq] at H
      obtain ⟨rfl, rfl⟩ := H
      go_wp2_with (first | ((with_reducible refine gate_callee (f := 37) rfl ?_); refine goesL_ (some 30) rfl rfl Tryd.func37 (by kernel_rfl) rfl #[.pointer (some ⟨gb149, 0, none⟩)] rfl argA ?_; (with_reducible refine (le_Reader_Over.calls gb149 x150000_1 x150001_1 false t164 t165 w _ ?side1 ?side2 A14.out).mono ?_); (case side1 => repeat (first | (with_reducible first | exact HI149.out | apply IsS71.alloc | apply IsS71.drewN | apply IsS71.drew | apply IsS71.set_0 | apply IsS71.set_1) | exact HI149.out)); (case side2 => repeat (first | (with_reducible first | exact HB.out | apply below_alloc | apply pw_below_drewN | apply below_drew1 | refine below_set ?_ (IsS71.ge HI149.out)) | exact HB.out)); rintro e w24 ⟨rfl, hi, hb, hk⟩; refine ⟨_, rfl, ?_⟩; have n0_ := Aside0.mk (Kd.S_mono (Kd.S_keep (IsS71.apartS (show IsS71 w _ gb149 x150000_1 x150001_1 from by repeat (first | (with_reducible first | exact HI149.out | apply IsS71.alloc | apply IsS71.drewN | apply IsS71.drew | apply IsS71.set_0 | apply IsS71.set_1) | exact HI149.out)) (kdS_ HO_7.out) (by decide)) hk (fun _ h => h.2)) (fun _ h => h.1)); have n1_ := Aside0.mk (hb); have n2_ := Aside0.mk (hi); clear HO_7; clear HB; clear HI149; have HO_7 := n0_; have HB := n1_; have HI149 := n2_; clear n0_ n1_ n2_; (try clear hb); (try clear hb2); (try clear hk); (try clear hi)))
      go_ret2
      exact ⟨_, by first | rfl | (simp [errW_none, errW_some] <;> rfl) | (simp [*, errW_none, errW_some] <;> rfl), by first | exact Kd.S_nil _ _ _ _ _ | exact Kd.N_nil _ _ _ _ _ | exact Kd.V_nil _ _ _ _ _ | exact Kd.Q_nil _ _ _ _ _ | exact Kd.R_nil _ _ _ _ _, by repeat (first | (with_reducible first | exact HB.out | apply below_alloc | apply pw_below_drewN | apply below_drew1 | refine below_set ?_ (IsS71.ge HI149.out)) | exact HB.out)⟩
 ·rw [if_neg c3] at H
  have c3b0 : (t148 == 0) = false := beq_eq_false_iff_ne.mpr c3
  have c3b1 : (t148 != 0) = true := bne_iff_ne.mpr c3
  simp only [Option.some.injEq, Prod.mk.injEq] at H
  obtain ⟨rfl, rfl⟩ := H
  go_enter Tryd.func12, Tryd.ntmps12
  go_wp2_with (first | ((with_reducible refine gate_callee (f := 32) rfl ?_); refine goesL_ (some 10) rfl rfl Tryd.func32 (by kernel_rfl) rfl #[.string a0] rfl argA ?_; (with_reducible refine (seal_Take.calls a0 t147 t148 _ A2.out).mono ?_); rintro e w25 ⟨rfl, hb⟩; refine ⟨_, rfl, ?_⟩; have n0_ := Aside0.mk (below_step belA hb); clear HB; have HB := n0_; clear n0_; (try clear hb); (try clear hb2); (try clear hk); (try clear hi)))
  go_ret2
  exact ⟨_, by first | rfl | (simp [errW_none, errW_some] <;> rfl) | (simp [*, errW_none, errW_some] <;> rfl), by first | exact Kd.S_nil _ _ _ _ _ | exact Kd.N_nil _ _ _ _ _ | exact Kd.V_nil _ _ _ _ _ | exact Kd.Q_nil _ _ _ _ _ | exact Kd.R_nil _ _ _ _ _, by repeat (first | (with_reducible first | exact HB.out | apply below_alloc | apply pw_below_drewN | apply below_drew1) | exact HB.out)⟩
end Go.Proofs.YtppbcankhkgpfaaDoor.PDp
namespace Go.Proofs.YtppbcankhkgpfaaDoor.PDp
open Go.RowKit Go.Proofs.YtppbcankhkgpfaaDoorW.PrintWords Go.Proofs.YtppbcankhkgpfaaDoorW.PrintLast Go.Proofs.YtppbcankhkgpfaaDoorW.PrintMore
attribute [local go_sem] max2_int min2_int max_two min_two max_three min_three max_four min_four   -- for this text's walks alone
attribute [local go_sem high] hw_str_leq hw_str_gtr
set_option linter.unusedVariables false
set_option linter.unusedSimpArgs false
def le_Put.f (a0 : Int) (a1 : Int) : Option ByteArray := if 0 ≤ a0 ∧ a0 < 18446744073709551616 then some ⟨(Go.Lib.leBytes (max 0 (min a1 8)).toNat a0.toNat).toArray⟩ else none
def le_Put.cs (v k : Nat) : Array Value := ((List.range 8).map fun j => Value.int .u8 (if j < k then ((v / 256 ^ j % 256 : Nat) : Int) else 0)).toArray
theorem le_Put.cs_get (v k j : Nat) (h : j < 8) : (le_Put.cs v k)[j]? = some (.int .u8 (if j < k then ((v / 256 ^ j % 256 : Nat) : Int) else 0)) := by
 unfold le_Put.cs
 simp [h]
theorem le_Put.cs_set (v k : Nat) (h : k < 8) : (le_Put.cs v k).setIfInBounds k (.int .u8 ((v / 256 ^ k % 256 : Nat) : Int)) = le_Put.cs v (k + 1) := by
 match k, h with
 | 0, _ => rfl
 | 1, _ => rfl
 | 2, _ => rfl
 | 3, _ => rfl
 | 4, _ => rfl
 | 5, _ => rfl
 | 6, _ => rfl
 | 7, _ => rfl
theorem le_Put.leBytes_get : ∀ (k v i : Nat), i < k → (Go.Lib.leBytes k v)[i]? = some ((v / 256 ^ i % 256).toUInt8)
 | 0, _, _, h => absurd h (Nat.not_lt_zero _)
 | k + 1, v, 0, _ => by simp [Go.Lib.leBytes]
 | k + 1, v, i + 1, h => by
  show (Go.Lib.leBytes k (v / 256))[i]? = _
  rw [le_Put.leBytes_get k (v / 256) i (by omega), Nat.div_div_eq_div_mul, Nat.pow_succ, Nat.mul_comm 256]
set_option maxHeartbeats 1000000 in
set_option maxRecDepth 100000 in
theorem le_Put.calls (a0 : Int) (a1 : Int) (r : ByteArray) (w : World) (h : le_Put.f a0 a1 = some r) :
  Calls Tryd.prog 44 #[.int .u64 a0, .int .i64 a1] w fun e w' => e = .returned (.string r) ∧ Below w.heap.size w w' := by
 unfold le_Put.f at h
 by_cases hr : 0 ≤ a0 ∧ a0 < 18446744073709551616
 ·rw [if_pos hr] at h
  obtain rfl := Option.some.inj h
  clear h
  obtain ⟨v, rfl⟩ : ∃ v : Nat, a0 = (v : Int) := ⟨a0.toNat, by omega⟩
  have hv : v < 18446744073709551616 := by omega
  rw [Int.toNat_natCast]
  have HV := Aside0.mk hv
  clear hr hv
  generalize hres : (⟨(Go.Lib.leBytes (max 0 (min a1 8)).toNat v).toArray⟩ : ByteArray) = res
  have HRES := Aside0.mk hres
  clear hres
  have h0 : (w.alloc (.cells #[.int .u8 0, .int .u8 0, .int .u8 0, .int .u8 0, .int .u8 0, .int .u8 0, .int .u8 0, .int .u8 0] 98)).heap[w.heap.size]? = some (.cells (le_Put.cs v 0) 98 (0, 0)) := blk_new w _
  have hb0 : Below w.heap.size w (w.alloc (.cells #[.int .u8 0, .int .u8 0, .int .u8 0, .int .u8 0, .int .u8 0, .int .u8 0, .int .u8 0, .int .u8 0] 98)) := (Below.refl _ w).alloc (Nat.le_refl _) _
  have H0 := Aside0.mk h0
  have HB0 := Aside0.mk hb0
  clear h0 hb0
  go_enter Tryd.func44, Tryd.ntmps44
  go_wp2
  go_loopg [7] 8 (fun gg s7 wr => ∃ k : Nat, k ≤ 8 ∧ 8 - k ≤ gg ∧ s7 = .int .i64 k ∧ Aside0 (wr.heap[w.heap.size]? = some (.cells (le_Put.cs v k) 98 (0, 0))) ∧ Aside0 (Below w.heap.size w wr))
  case atStart => exact ⟨0, by omega, by omega, rfl, H0, HB0⟩
  case round =>
   obtain ⟨k, hk, hg, rfl, HA, HB⟩ := hrel
   by_cases hlt : k < 8
   ·have hltz : decide ((k : Int) < 8) = true := decide_eq_true (by omega)
    have hkz : (0 : Int) ≤ (k : Int) := by omega
    have hk8 : (k : Int) < 8 := by omega
    have hs8 : wrap64 (8 * (k : Int)) = ((8 * k : Nat) : Int) := by unfold wrap64; push_cast; omega
    have hc := blk_cell HA.out k
    have hf := blk_frozen HA.out k
    rw [le_Put.cs_get v k k hlt, if_neg (Nat.lt_irrefl k)] at hc
    have hval : ((v : Int) / 2 ^ (8 * k) % 256) = ((v / 256 ^ k % 256 : Nat) : Int) := by
     rw [show (2 : Int) ^ (8 * k) = ((256 ^ k : Nat) : Int) by rw [show (256 : Nat) = 2 ^ 8 from rfl, ← Nat.pow_mul, Int.natCast_pow]; rfl]
     rfl
    have HVAL := Aside0.mk hval
    clear hval
    go_wp2
    go_roundg (8 - (k + 1))
    case measure => omega
    case rel => exact ⟨k + 1, by omega, by omega, by go_num, ⟨by rw [HVAL.out]; exact blk_put HA.out k _ (le_Put.cs_set v k hlt)⟩, ⟨HB.out.setCell (Nat.le_refl _) _⟩⟩
   ·have hltz : decide ((k : Int) < 8) = false := decide_eq_false (by omega)
    have hkk : k = 8 := by omega
    subst hkk
    have hcv : ∀ n : Nat, n ≤ 8 → (max 0 (min a1 8)).toNat = n → (convert 39 9 (.slice (some ⟨w.heap.size, 0, none⟩) n 8)).run Tryd.prog wr = .ok (.string res) wr := by
     intro n hn8 hnz
     have hresn : res = ⟨(Go.Lib.leBytes n v).toArray⟩ := by rw [← HRES.out, hnz]
     have hsz : res.size = n := by rw [hresn]; show (Go.Lib.leBytes n v).toArray.size = n; simp [Go.Lib.leBytes_length]
     have hby : Lib.Bytes wr w.heap.size 0 res := fun i hi => by
      have hi' : i < n := by omega
      rw [Nat.zero_add, blk_cell HA.out i, le_Put.cs_get v 8 i (by omega), if_pos (by omega)]
      have hg : (Go.Lib.leBytes n v)[i]? = some ((v / 256 ^ i % 256).toUInt8) := le_Put.leBytes_get n v i hi'
      have hg2 : res[i] = (v / 256 ^ i % 256).toUInt8 := by
       subst hresn
       have := List.getElem?_eq_some_iff.1 hg
       obtain ⟨q, hq⟩ := this
       exact hq
      rw [hg2, Go.Lib.toUInt8_mod]
     have hcv := Lib.run_convert_whole (P := Tryd.prog) wr 39 5 9 Tryd.underlying39 Tryd.underlying5 Tryd.underlying9 w.heap.size 0 res hby 8
     rw [hsz] at hcv
     exact hcv
    rcases (show a1 ≤ 0 ∨ (1 ≤ a1 ∧ a1 ≤ 8) ∨ 8 < a1 by omega) with hc | ⟨hc1, hc2⟩ | hc
    ·have hcv0 := hcv 0 (by omega) (by omega)
     clear hcv
     go_wp2
     go_ret
     exact ⟨rfl, HB.out⟩
    ·obtain ⟨n, rfl⟩ : ∃ n : Nat, a1 = (n : Int) := ⟨a1.toNat, by omega⟩
     have hcv0 := hcv n (by omega) (by omega)
     clear hcv
     go_wp2
     go_ret
     exact ⟨rfl, HB.out⟩
    ·have hcv0 := hcv 8 (by omega) (by omega)
     clear hcv
     go_wp2
     go_ret
     exact ⟨rfl, HB.out⟩
 ·rw [if_neg hr] at h
  cases h
end Go.Proofs.YtppbcankhkgpfaaDoor.PDp
namespace Go.Proofs.YtppbcankhkgpfaaDoor.PDp
open Go.RowKit Go.Proofs.YtppbcankhkgpfaaDoorW.PrintWords Go.Proofs.YtppbcankhkgpfaaDoorW.PrintLast Go.Proofs.YtppbcankhkgpfaaDoorW.PrintMore
attribute [local go_sem] max2_int min2_int max_two min_two max_three min_three max_four min_four   -- for this text's walks alone
attribute [local go_sem high] hw_str_leq hw_str_gtr
set_option linter.unusedVariables false
set_option linter.unusedSimpArgs false
def seal_Put.f (a0 : ByteArray) : Option (ByteArray) := (seal_Sum.f a0).bind fun t167 => ((le_Put.f (IntKind.u64.wrap (t167)) 4).bind fun t168 => (if a0.size + t168.size ≤ 9223372036854775807 then (some (a0 ++ t168)) else (none)))
set_option maxHeartbeats 8000000 in
set_option maxRecDepth 100000 in
theorem seal_Put.calls (a0 : ByteArray) (r : ByteArray) (w : World) (h : seal_Put.f a0 = some r) :
  Calls Tryd.prog 45 #[.string a0] w fun e w' => e = .returned (.string r) ∧ Below w.heap.size w w' := by
 have HB := Aside0.mk (Below.refl w.heap.size w)
 have H : ((seal_Sum.f a0).bind fun t167 => ((le_Put.f (IntKind.u64.wrap (t167)) 4).bind fun t168 => (if a0.size + t168.size ≤ 9223372036854775807 then (some (a0 ++ t168)) else (none)))) = some r := h
 clear h
 replace H := Option.bind_eq_some_iff.mp H
 obtain ⟨t167, A20, H⟩ := H
 replace H : ((le_Put.f (IntKind.u64.wrap (t167)) 4).bind fun t168 => (if a0.size + t168.size ≤ 9223372036854775807 then (some (a0 ++ t168)) else (none))) = some r := H
 have A2 := Aside0.mk A20
 clear A20
 replace H := Option.bind_eq_some_iff.mp H
 obtain ⟨t168, A30, H⟩ := H
 replace H : (if a0.size + t168.size ≤ 9223372036854775807 then (some (a0 ++ t168)) else (none)) = some r := H
 have A3 := Aside0.mk A30
 clear A30
 by_cases c4 : a0.size + t168.size ≤ 9223372036854775807
 ·rw [if_pos c4] at H
  have c4b0 := eq_true c4
  have c4b1 : decide (a0.size + t168.size ≤ 9223372036854775807) = true := decide_eq_true c4
  try have c4b2 : (9223372036854775807 < a0.size + t168.size) = False := eq_false (Nat.not_lt.2 c4)
  obtain rfl := Option.some.inj H
  go_enter Tryd.func45, Tryd.ntmps45
  go_wp2_with (first | ((with_reducible refine gate_callee (f := 59) rfl ?_); refine goesL_ (some 5) rfl rfl Tryd.func59 (by kernel_rfl) rfl #[.string a0] rfl argA ?_; (with_reducible refine (seal_Sum.calls a0 t167 _ A2.out).mono ?_); rintro e w5 ⟨rfl, hb⟩; refine ⟨_, rfl, ?_⟩; have n0_ := Aside0.mk (below_step belA hb); clear HB; have HB := n0_; clear n0_; (try clear hb); (try clear hb2); (try clear hk); (try clear hi)) | ((with_reducible refine gate_callee (f := 44) rfl ?_); refine goesL_ (some 7) rfl rfl Tryd.func44 (by kernel_rfl) rfl #[.int .u64 (IntKind.u64.wrap (t167)), .int .i64 4] rfl argA ?_; (with_reducible refine (le_Put.calls (IntKind.u64.wrap (t167)) 4 t168 _ A3.out).mono ?_); rintro e w6 ⟨rfl, hb⟩; refine ⟨_, rfl, ?_⟩; have n0_ := Aside0.mk (below_step belA hb); clear HB; have HB := n0_; clear n0_; (try clear hb); (try clear hb2); (try clear hk); (try clear hi)))
  go_ret
  exact ⟨by first | rfl | (simp [errW_none, errW_some] <;> rfl) | (simp [*, errW_none, errW_some] <;> rfl), by repeat (first | (with_reducible first | exact HB.out | apply below_alloc | apply pw_below_drewN | apply below_drew1) | exact HB.out)⟩
 ·rw [if_neg c4] at H
  exact absurd H (by simp)
end Go.Proofs.YtppbcankhkgpfaaDoor.PDp
namespace Go.Proofs.YtppbcankhkgpfaaDoor.PDp
open Go.RowKit Go.Proofs.YtppbcankhkgpfaaDoorW.PrintWords Go.Proofs.YtppbcankhkgpfaaDoorW.PrintLast Go.Proofs.YtppbcankhkgpfaaDoorW.PrintMore
attribute [local go_sem] max2_int min2_int max_two min_two max_three min_three max_four min_four   -- for this text's walks alone
attribute [local go_sem high] hw_str_leq hw_str_gtr
set_option linter.unusedVariables false
set_option linter.unusedSimpArgs false
open Go.Shelf in
def layWS_ren : Go.Shelf.Ren := ⟨fun | 166 => 43 | 240 => 63 | 276 => 82 | n => n, fun | 70 => 77 | 9 => 9 | 0 => 0 | 72 => 79 | 37 => 39 | 3 => 3 | 4 => 4 | 5 => 5 | 20 => 20 | 75 => 81 | 80 => 85 | 164 => 121 | n => n, fun n => n⟩
theorem layWS : Go.Proofs.Lays.n166 Tryd.prog layWS_ren := {
 mixed := by kernel_rfl
 f166 := Tryd.func43.trans (congrArg some (by kernel_rfl))
 f240 := Tryd.func63.trans (congrArg some (by kernel_rfl))
 f276 := Tryd.func82.trans (congrArg some (by kernel_rfl))
 t0 := Tryd.underlying0
 a0 := Tryd.isAgg0
 z0 := Tryd.sizeOf0
 v0 := Tryd.zeroValue0
 t3 := Tryd.underlying3
 a3 := Tryd.isAgg3
 z3 := Tryd.sizeOf3
 v3 := Tryd.zeroValue3
 t4 := Tryd.underlying4
 a4 := Tryd.isAgg4
 z4 := Tryd.sizeOf4
 v4 := Tryd.zeroValue4
 t9 := Tryd.underlying9
 a9 := Tryd.isAgg9
 z9 := Tryd.sizeOf9
 v9 := Tryd.zeroValue9
 t20 := Tryd.underlying20
 a20 := Tryd.isAgg20
 z20 := Tryd.sizeOf20
 v20 := Tryd.zeroValue20
 t37 := Tryd.underlying39
 a37 := Tryd.isAgg39
 z37 := Tryd.sizeOf39
 v37 := Tryd.zeroValue39
 t70 := Tryd.underlying77
 a70 := Tryd.isAgg77
 z70 := Tryd.sizeOf77
 v70 := Tryd.zeroValue77
 t72 := Tryd.underlying79
 a72 := Tryd.isAgg79
 z72 := Tryd.sizeOf79
 v72 := Tryd.zeroValue79
 t75 := Tryd.underlying81
 a75 := Tryd.isAgg81
 z75 := Tryd.sizeOf81
 v75 := Tryd.zeroValue81
 t164 := Tryd.underlying121
 a164 := Tryd.isAgg121
 z164 := Tryd.sizeOf121
 v164 := Tryd.zeroValue121 }
theorem extraWS : Go.Proofs.Builder.Extra Tryd.prog layWS_ren where
 sizeBuilder := by kernel_rfl
 liesBuilder := by kernel_rfl
 t5 := Tryd.underlying5
 a5 := Tryd.isAgg5
 z5 := Tryd.sizeOf5
 v5 := Tryd.zeroValue5
 infoByte := by kernel_rfl
 cellsByte := by kernel_rfl
 sizeByte := by kernel_rfl
 neB5 := by decide
theorem extraStr : Go.Proofs.Builder.Extra Tryd.prog Tryd.layStr_ren where
 sizeBuilder := by kernel_rfl
 liesBuilder := by kernel_rfl
 t5 := Tryd.underlying5
 a5 := Tryd.isAgg5
 z5 := Tryd.sizeOf5
 v5 := Tryd.zeroValue5
 infoByte := by kernel_rfl
 cellsByte := by kernel_rfl
 sizeByte := by kernel_rfl
 neB5 := by decide
end Go.Proofs.YtppbcankhkgpfaaDoor.PDp
namespace Go.Proofs.YtppbcankhkgpfaaDoor.PDp
open Go.RowKit Go.Proofs.YtppbcankhkgpfaaDoorW.PrintWords Go.Proofs.YtppbcankhkgpfaaDoorW.PrintLast Go.Proofs.YtppbcankhkgpfaaDoorW.PrintMore
attribute [local go_sem] max2_int min2_int max_two min_two max_three min_three max_four min_four   -- for this text's walks alone
attribute [local go_sem high] hw_str_leq hw_str_gtr
set_option linter.unusedVariables false
set_option linter.unusedSimpArgs false
theorem bf_below {T e : TypeId} {B b : Nat} {bs : List Value} {W W' : World} (h : Lib.IsBuilderF T e B b bs W) (hb : Below W.heap.size W W') : Lib.IsBuilderF T e B b bs W' := by
 have one : ∀ p, Lib.BuilderAtF T e B b p bs W → Lib.BuilderAtF T e B b p bs W' := fun p h => by
  have hlt := h.lt
  obtain ⟨hB, v, hv, hown, hne⟩ := h
  exact ⟨hB, v, (hb.block b hlt).trans hv, hown.kept (grown_of_below hb none) (Classical.em _), hne⟩
 exact h.elim (fun x => .inl (one _ x)) (fun x => .inr (one _ x))
theorem others_below {e : TypeId} {b : Option Nat} {W W' : World} (hb : Below W.heap.size W W') : Lib.OthersKept e b W W' := fun k o ho _ _ => (hb.block k (blk_lt ho)).trans ho
def numL (n : Int) (m : Nat) : List UInt8 := Go.Lib.leBytes m (IntKind.u64.wrap n).toNat
theorem numL_length (n : Int) (m : Nat) : (numL n m).length = m := Go.Lib.leBytes_length _ _
theorem numL_put (n : Int) (m : Nat) (hm : m ≤ 8) : le_Put.f (IntKind.u64.wrap n) (m : Int) = some ⟨(numL n m).toArray⟩ := by
 unfold le_Put.f numL
 rw [if_pos (by rw [IntKind.wrap_u64]; omega), show (max (0 : Int) (min (m : Int) 8)).toNat = m by omega]
theorem strCells_ofList (l : List UInt8) : Lib.strCells ⟨l.toArray⟩ = Lib.byteCells l := by
 simp [Lib.strCells, Lib.byteCells]
set_option maxHeartbeats 1000000 in
set_option maxRecDepth 100000 in
theorem dir_Put_1.calls (n : Int) (mz : Int) (m : Nat) (hmz : mz = (m : Int)) (hm : m ≤ 8) (B b : Nat) (acc : List UInt8) (W : World) (h : Lib.IsBuilderF 79 5 B b (Lib.byteCells acc) W) (hlen : acc.length + m ≤ 140737488355328) (hBw : B ≤ W.heap.size) :
  Calls Tryd.prog 42 #[.int .i64 n, .int .i64 mz, .pointer (some ⟨b, 0, none⟩)] W fun e w' => e = .returned (.tuple #[]) ∧ Lib.IsBuilderF 79 5 B b (Lib.byteCells (acc ++ numL n m)) w' ∧ Below B W w' ∧ Lib.OthersKept 5 (some b) W w' := by
 subst hmz
 have hp := numL_put n m hm
 have hws : ∀ W1, Below W.heap.size W W1 → Calls Tryd.prog 43 #[.pointer (some ⟨b, 0, none⟩), .string ⟨(numL n m).toArray⟩] W1 _ := fun W1 hb =>
  Any.Builder_WriteString_k layWS extraWS B b (Lib.byteCells acc) ⟨(numL n m).toArray⟩ W1 (bf_below h hb) (by rw [Lib.byteCells_length]; show acc.length + (numL n m).toArray.size ≤ _; rw [List.size_toArray, numL_length]; exact hlen) (Nat.le_trans hBw hb.size)
 go_enter Tryd.func42, Tryd.ntmps42
 go_wp2_with (first | (go_at_call 44; refine (le_Put.calls _ _ _ _ hp).mono ?_; rintro e w1 ⟨rfl, hb1⟩) | (go_at_call 43; refine (hws _ hb1).mono ?_; rintro e w2 ⟨rfl, h2, b2, k2⟩))
 go_end0
 refine ⟨rfl, ?_, (hb1.mono hBw).trans b2, (others_below hb1).trans k2⟩
 rw [Lib.byteCells_append, ← strCells_ofList]
 exact .inr h2
theorem builder_WS.calls (B b : Nat) (acc : List UInt8) (s : ByteArray) (W : World) (h : Lib.IsBuilderF 79 5 B b (Lib.byteCells acc) W) (hlen : acc.length + s.size ≤ 140737488355328) (hBw : B ≤ W.heap.size) :
  Calls Tryd.prog 43 #[.pointer (some ⟨b, 0, none⟩), .string s] W fun e w' => e = .returned (.tuple #[.int .i64 s.size, .nilIface]) ∧ Lib.IsBuilderF 79 5 B b (Lib.byteCells (acc ++ s.data.toList)) w' ∧ Below B W w' ∧ Lib.OthersKept 5 (some b) W w' := by
 refine (Any.Builder_WriteString_k layWS extraWS B b (Lib.byteCells acc) s W h (by rw [Lib.byteCells_length]; exact hlen) hBw).mono ?_
 rintro e w' ⟨rfl, h2, b2, k2⟩
 refine ⟨rfl, ?_, b2, k2⟩
 rw [Lib.byteCells_append]
 exact .inr h2
theorem builder_S.calls (B b : Nat) (l : List UInt8) (W : World) (h : Lib.IsBuilderF 79 5 B b (Lib.byteCells l) W) (hBw : B ≤ W.heap.size) :
  Calls Tryd.prog 46 #[.pointer (some ⟨b, 0, none⟩)] W fun e w' => e = .returned (.string ⟨l.toArray⟩) ∧ Below B W w' := by
 refine (Any.Builder_String_any_k Tryd.layStr extraStr B b l W h hBw).mono ?_
 rintro e w' ⟨rfl, h2, b2, k2⟩
 exact ⟨rfl, b2⟩
theorem bf_lt {T e : TypeId} {B b : Nat} {bs : List Value} {W : World} (h : Lib.IsBuilderF T e B b bs W) : b < W.heap.size := h.elim (fun x => x.lt) (fun x => x.lt)
def spanL (s : S64) : List UInt8 := numL s.f0 2 ++ numL s.f1 2
def fileL (f : S43) : List UInt8 := numL (f.f0.size : Int) 1 ++ (f.f0.data.toList ++ (numL f.f1 4 ++ (numL (f.f2.length : Int) 1 ++ f.f2.flatMap spanL)))
def dirL (l : List S43) : List UInt8 := numL (l.length : Int) 1 ++ l.flatMap fileL
end Go.Proofs.YtppbcankhkgpfaaDoor.PDp
namespace Go.Proofs.YtppbcankhkgpfaaDoor.PDp
open Go.RowKit Go.Proofs.YtppbcankhkgpfaaDoorW.PrintWords Go.Proofs.YtppbcankhkgpfaaDoorW.PrintLast Go.Proofs.YtppbcankhkgpfaaDoorW.PrintMore
attribute [local go_sem] max2_int min2_int max_two min_two max_three min_three max_four min_four   -- for this text's walks alone
attribute [local go_sem high] hw_str_leq hw_str_gtr
set_option linter.unusedVariables false
set_option linter.unusedSimpArgs false
def dir_Put.f (k : Nat) (l0 : List S43) : Option (ByteArray × Int) := (dir_directory.f k l0).bind fun d => if d = true then (if (dirL l0).length ≤ 140737488355328 then (seal_Put.f ⟨(dirL l0).toArray⟩).bind fun t => some (t, 0) else none) else some ((⟨#[]⟩ : ByteArray), 1)
theorem lenA {M : Nat} (acc : List UInt8) {x : S43} (n : Int) (h : acc.length + (fileL x).length ≤ M) (hf : (fileL x).length = 1 + (x.f0.size + (4 + (1 + (x.f2.flatMap spanL).length)))) : (acc ++ numL n 1).length + x.f0.size ≤ M := by
 rw [List.length_append, numL_length]
 omega
theorem lenB {M : Nat} (acc : List UInt8) {x : S43} (n : Int) (h : acc.length + (fileL x).length ≤ M) (hf : (fileL x).length = 1 + (x.f0.size + (4 + (1 + (x.f2.flatMap spanL).length)))) : (acc ++ numL n 1 ++ x.f0.data.toList).length + 4 ≤ M := by
 have : x.f0.data.size = x.f0.size := rfl
 simp only [List.length_append, numL_length, Array.length_toList]
 omega
theorem lenC {M : Nat} (acc : List UInt8) {x : S43} (n : Int) {m : Int} (h : acc.length + (fileL x).length ≤ M) (hf : (fileL x).length = 1 + (x.f0.size + (4 + (1 + (x.f2.flatMap spanL).length)))) : (acc ++ numL n 1 ++ x.f0.data.toList ++ numL m 4).length + 1 ≤ M := by
 have : x.f0.data.size = x.f0.size := rfl
 simp only [List.length_append, numL_length, Array.length_toList]
 omega
set_option maxHeartbeats 4000000 in
set_option maxRecDepth 100000 in
theorem dir_Put.calls (k : Nat) (A0 : Option Addr) (c0 : Nat) (l0 : List S43) (r1 : ByteArray) (r2 : Int) (w : World) (hr0 : Kd.C k43 w A0 l0.length l0) (hc0 : l0.length ≤ c0) (ht : TabsW w) (h : dir_Put.f k l0 = some (r1, r2)) :
  Calls Tryd.prog 16 #[.slice A0 l0.length c0] w fun e w' => e = .returned (.tuple #[.string r1, .int .i64 r2]) ∧ Below w.heap.size w w' := by
 unfold dir_Put.f at h
 obtain ⟨d, hd, h⟩ := Option.bind_eq_some_iff.1 h
 have hbig : l0.length ≤ 9223372036854775807 := hr0.2.1
 have HD := Aside0.mk (dir_directory.calls k A0 c0 l0 d w hr0 hc0 ht hd)
 have HR0 := Aside0.mk hr0
 clear hr0 hc0 ht hd
 cases d with
 | false =>
  rw [if_neg Bool.false_ne_true] at h
  obtain ⟨rfl, rfl⟩ := Prod.mk.inj (Option.some.inj h)
  clear h
  go_enter Tryd.func16, Tryd.ntmps16
  go_wp2_with (go_at_call 38; refine HD.out.mono ?_; rintro e w1 ⟨rfl, hb1⟩)
  go_ret2
  exact ⟨rfl, hb1⟩
 | true =>
  rw [if_pos rfl] at h
  by_cases hl : (dirL l0).length ≤ 140737488355328
  ·rw [if_pos hl] at h
   obtain ⟨t, hseal, h⟩ := Option.bind_eq_some_iff.1 h
   obtain ⟨rfl, rfl⟩ := Prod.mk.inj (Option.some.inj h)
   have HL := Aside0.mk hl
   clear h hl
   go_enter Tryd.func16, Tryd.ntmps16
   go_wp2_with (first | (go_at_call 38; refine HD.out.mono ?_; rintro e w1 ⟨rfl, hb1⟩; have HB1 := Aside0.mk hb1; clear hb1) | (go_at_call 42; (refine (dir_Put_1.calls (l0.length : Int) 1 1 rfl (by decide) w1.heap.size w1.heap.size [] _ (Lib.IsBuilderF.of (Lib.fresh_isBuilder 79 5 w1)) (by simp) (by simp)).mono ?_; rintro e w2 ⟨rfl, h2, b2, k2⟩)))
   have HBF0 := Aside0.mk h2
   have HBW0 := Aside0.mk (Below.trans ((Below.refl w1.heap.size w1).alloc (Nat.le_refl _) _) b2)
   clear h2 b2 k2
   go_loopg [20] l0.length (fun gg s20 wr => ∃ i : Nat, i ≤ l0.length ∧ l0.length - i ≤ gg ∧ s20 = .int .i64 i ∧ Aside0 (Lib.IsBuilderF 79 5 w1.heap.size w1.heap.size (Lib.byteCells (numL (l0.length : Int) 1 ++ (l0.take i).flatMap fileL)) wr) ∧ Aside0 (Below w1.heap.size w1 wr))
   case atStart => exact ⟨0, Nat.zero_le _, by omega, rfl, ⟨by simpa using HBF0.out⟩, HBW0⟩
   case round =>
    clear HBF0 HBW0
    obtain ⟨i, hi, hg, rfl, HBF, HBW⟩ := hrel
    by_cases hlt : i < l0.length
    ·have hltz : (i : Int) < (l0.length : Int) := by omega
     obtain ⟨ad, A2, c2, e0, hx0, hx1, hx2, hl2, hi2⟩ := at_T43 HR0.out (i : Int) (by omega) hltz
     cases e0
     have hbw := (HB1.out.trans (Below.mono HBW.out (below_size HB1.out)))
     have hrd : rd_T43 l0 (i : Int) = l0[i] := by simp [rd_T43, List.getD_eq_getElem?_getD, hlt]
     rw [hrd] at hx0 hx1 hx2 hl2 hi2
     simp only [Int.toNat_natCast] at hx0 hx1 hx2
     replace hx0 := (hbw.cell (World.block_lt_of_cell? w _ hx0)).trans hx0
     replace hx1 := (hbw.cell (World.block_lt_of_cell? w _ hx1)).trans hx1
     replace hx2 := (hbw.cell (World.block_lt_of_cell? w _ hx2)).trans hx2
     have HC2 := Aside0.mk hi2
     have HB := Aside0.mk hbw
     clear hi2 hbw hrd
     have hacc : (l0.take (i + 1)).flatMap fileL = (l0.take i).flatMap fileL ++ fileL l0[i] := by
      rw [List.take_succ_eq_append_getElem hlt, List.flatMap_append]
      show _ ++ (fileL l0[i] ++ []) = _
      rw [List.append_nil]
     have HACC := Aside0.mk hacc
     clear hacc
     have hle : (numL (l0.length : Int) 1 ++ (l0.take i).flatMap fileL).length + (fileL l0[i]).length ≤ 140737488355328 := by
      have h1 := HL.out
      unfold dirL at h1
      have h2 : l0.flatMap fileL = (l0.take (i + 1)).flatMap fileL ++ (l0.drop (i + 1)).flatMap fileL := by rw [← List.flatMap_append, List.take_append_drop]
      rw [h2, HACC.out] at h1
      simp only [List.length_append] at h1 ⊢
      omega
     have HLE := Aside0.mk hle
     clear hle
     obtain ⟨acc, hac⟩ : ∃ a, a = numL (l0.length : Int) 1 ++ (l0.take i).flatMap fileL := ⟨_, rfl⟩
     rw [← hac] at HBF HLE
     have HAC := Aside0.mk hac
     clear hac
     generalize l0[i] = x at hx0 hx1 hx2 hl2 HC2 HACC HLE
     have hblt := bf_lt HBF.out
     have hfl : (fileL x).length = 1 + (x.f0.size + (4 + (1 + (x.f2.flatMap spanL).length))) := by
      unfold fileL
      simp only [List.length_append, numL_length, Array.length_toList]
      rfl
     have HFL := Aside0.mk hfl
     clear hfl
     go_wp2_with (first | (go_at_call 42; ((with_reducible refine (dir_Put_1.calls (x.f0.size : Int) 1 1 rfl (by decide) w1.heap.size w1.heap.size acc _ (bf_below HBF.out ((Below.refl _ wr).alloc (Nat.le_refl _) _)) (by have := HLE.out; have := HFL.out; omega) (by simp; omega)).mono ?_); rintro e w3 ⟨rfl, h3, b3, k3⟩; have hF3 := k3 wr.heap.size _ (blk_new wr _) (fun e_ => absurd (Option.some.inj e_) (by omega)) (fun c fz e_ => by injection e_ with _ e2_ _; exact absurd e2_ (by decide)); have hc30 := blk_cell hF3 0; have hc31 := blk_cell hF3 1; have hc32 := blk_cell hF3 2)) | (go_at_call 43; ((with_reducible refine (builder_WS.calls w1.heap.size w1.heap.size _ x.f0 w3 h3 (lenA acc _ HLE.out HFL.out) (Nat.le_of_lt (bf_lt h3))).mono ?_); rintro e w4 ⟨rfl, h4, b4, k4⟩; have hF4 := k4 wr.heap.size _ hF3 (fun e_ => absurd (Option.some.inj e_) (by omega)) (fun c fz e_ => by injection e_ with _ e2_ _; exact absurd e2_ (by decide)); have hc40 := blk_cell hF4 0; have hc41 := blk_cell hF4 1; have hc42 := blk_cell hF4 2)) | (go_at_call 42; ((with_reducible refine (dir_Put_1.calls x.f1 4 4 rfl (by decide) w1.heap.size w1.heap.size _ w4 h4 (lenB acc _ HLE.out HFL.out) (Nat.le_of_lt (bf_lt h4))).mono ?_); rintro e w5 ⟨rfl, h5, b5, k5⟩; have hF5 := k5 wr.heap.size _ hF4 (fun e_ => absurd (Option.some.inj e_) (by omega)) (fun c fz e_ => by injection e_ with _ e2_ _; exact absurd e2_ (by decide)); have hc50 := blk_cell hF5 0; have hc51 := blk_cell hF5 1; have hc52 := blk_cell hF5 2)) | (go_at_call 42; ((with_reducible refine (dir_Put_1.calls (x.f2.length : Int) 1 1 rfl (by decide) w1.heap.size w1.heap.size _ w5 h5 (lenC acc _ HLE.out HFL.out) (Nat.le_of_lt (bf_lt h5))).mono ?_); rintro e w6 ⟨rfl, h6, b6, k6⟩; have hF6 := k6 wr.heap.size _ hF5 (fun e_ => absurd (Option.some.inj e_) (by omega)) (fun c fz e_ => by injection e_ with _ e2_ _; exact absurd e2_ (by decide)); have hc60 := blk_cell hF6 0; have hc61 := blk_cell hF6 1; have hc62 := blk_cell hF6 2)))
     have hB6 : Below w1.heap.size w1 w6 := (((((HBW.out).alloc (Nat.le_of_lt hblt) _).trans b3).trans b4).trans b5).trans b6
     have HB6 := Aside0.mk hB6
     have HBF6 := Aside0.mk h6
     clear h3 b3 k3 h4 b4 k4 h5 b5 k5 h6 b6 k6 hF3 hF4 hF5 hF6 hc30 hc31 hc32 hc40 hc41 hc42 hc50 hc51 hc52 hc60 hc61 hc62 hB6
     have hacc6 : acc ++ numL (x.f0.size : Int) 1 ++ x.f0.data.toList ++ numL x.f1 4 ++ numL (x.f2.length : Int) 1 ++ x.f2.flatMap spanL = acc ++ fileL x := by
      unfold fileL
      simp only [List.append_assoc]
     generalize acc ++ numL (x.f0.size : Int) 1 ++ x.f0.data.toList ++ numL x.f1 4 ++ numL (x.f2.length : Int) 1 = acc6 at HBF6 hacc6
     have hlen6 : acc6.length + (x.f2.flatMap spanL).length ≤ 140737488355328 := by
      have h1 := HLE.out
      rw [← List.length_append, ← hacc6, List.length_append] at h1
      exact h1
     have HACC6 := Aside0.mk hacc6
     have HLEN6 := Aside0.mk hlen6
     clear hacc6 hlen6
     have hbig2 : x.f2.length ≤ 9223372036854775807 := HC2.out.2.1
     go_loopg [44] x.f2.length (fun gg s44 wi => ∃ j : Nat, j ≤ x.f2.length ∧ x.f2.length - j ≤ gg ∧ s44 = .int .i64 j ∧ Aside0 (Lib.IsBuilderF 79 5 w1.heap.size w1.heap.size (Lib.byteCells (acc6 ++ (x.f2.take j).flatMap spanL)) wi) ∧ Aside0 (Below w1.heap.size w1 wi))
     case atStart => exact ⟨0, Nat.zero_le _, by omega, rfl, ⟨by simpa using HBF6.out⟩, HB6⟩
     case round =>
      clear HBF6 HB6
      obtain ⟨j, hj, hgj, rfl, HBI, HBJ⟩ := hrel
      by_cases hltj : j < x.f2.length
      ·have hltjz : (j : Int) < (x.f2.length : Int) := by omega
       obtain ⟨ad2, e2, hy0, hy1⟩ := at_T64 HC2.out (j : Int) (by omega) hltjz
       cases e2
       have hrd : rd_T64 x.f2 (j : Int) = x.f2[j] := by simp [rd_T64, List.getD_eq_getElem?_getD, hltj]
       rw [hrd] at hy0 hy1
       simp only [Int.toNat_natCast] at hy0 hy1
       have hbwj := (HB1.out.trans (Below.mono HBJ.out (below_size HB1.out)))
       replace hy0 := (hbwj.cell (World.block_lt_of_cell? w _ hy0)).trans hy0
       replace hy1 := (hbwj.cell (World.block_lt_of_cell? w _ hy1)).trans hy1
       clear hrd hbwj
       have haccj : (x.f2.take (j + 1)).flatMap spanL = (x.f2.take j).flatMap spanL ++ spanL x.f2[j] := by
        rw [List.take_succ_eq_append_getElem hltj, List.flatMap_append]
        show _ ++ (spanL x.f2[j] ++ []) = _
        rw [List.append_nil]
       have hlej : (acc6 ++ (x.f2.take j).flatMap spanL).length + 4 ≤ 140737488355328 := by
        have h1 := HLEN6.out
        have h2 : x.f2.flatMap spanL = (x.f2.take (j + 1)).flatMap spanL ++ (x.f2.drop (j + 1)).flatMap spanL := by rw [← List.flatMap_append, List.take_append_drop]
        rw [h2, haccj] at h1
        have h3 : (spanL x.f2[j]).length = 4 := by unfold spanL; rw [List.length_append, numL_length, numL_length]
        simp only [List.length_append] at h1 ⊢
        omega
       have HACCJ := Aside0.mk haccj
       have HLEJ := Aside0.mk hlej
       clear haccj hlej
       obtain ⟨accj, haj⟩ : ∃ a, a = acc6 ++ (x.f2.take j).flatMap spanL := ⟨_, rfl⟩
       rw [← haj] at HBI HLEJ
       have HAJ := Aside0.mk haj
       clear haj
       generalize x.f2[j] = y at hy0 hy1 HACCJ
       have hbltj := bf_lt HBI.out
       go_wp2_with (first | (go_at_call 42; ((with_reducible refine (dir_Put_1.calls y.f0 2 2 rfl (by decide) w1.heap.size w1.heap.size accj _ (bf_below HBI.out ((Below.refl _ wr).alloc (Nat.le_refl _) _)) (by have := HLEJ.out; omega) (by simp; omega)).mono ?_); rintro e v3 ⟨rfl, i3, d3, q3⟩; have hG3 := q3 wr.heap.size _ (blk_new wr _) (fun e_ => absurd (Option.some.inj e_) (by omega)) (fun c fz e_ => by injection e_ with _ e2_ _; exact absurd e2_ (by decide)); have hg30 := blk_cell hG3 0; have hg31 := blk_cell hG3 1)) | (go_at_call 42; ((with_reducible refine (dir_Put_1.calls y.f1 2 2 rfl (by decide) w1.heap.size w1.heap.size _ v3 i3 (by have := HLEJ.out; rw [List.length_append, numL_length]; omega) (Nat.le_of_lt (bf_lt i3))).mono ?_); rintro e v4 ⟨rfl, i4, d4, q4⟩)))
       go_roundg (x.f2.length - (j + 1))
       case measure => omega
       case rel => exact ⟨j + 1, by omega, by omega, by go_num, ⟨by rw [HACCJ.out, ← List.append_assoc, ← HAJ.out]; unfold spanL; rw [← List.append_assoc]; exact i4⟩, ⟨((HBJ.out.alloc (Nat.le_of_lt hbltj) _).trans d3).trans d4⟩⟩
      ·have hltjz : ¬ (j : Int) < (x.f2.length : Int) := by omega
       have hjj : x.f2.take j = x.f2 := List.take_of_length_le (by omega)
       rw [hjj] at HBI
       clear hjj
       go_wp2
       go_roundg (l0.length - (i + 1))
       case measure => omega
       case rel => exact ⟨i + 1, by omega, by omega, by go_num, ⟨by rw [HACC.out, ← List.append_assoc, ← HAC.out, ← HACC6.out]; exact HBI.out⟩, HBJ⟩
    ·have hltz : ¬ (i : Int) < (l0.length : Int) := by omega
     have hii : l0.take i = l0 := List.take_of_length_le (by omega)
     rw [hii] at HBF
     clear hii
     unfold dirL at hseal
     go_wp2_with (first | (go_at_call 46; ((with_reducible refine (builder_S.calls w1.heap.size w1.heap.size _ wr HBF.out (below_size HBW.out)).mono ?_); rintro e w3 ⟨rfl, b3⟩)) | (go_at_call 45; ((with_reducible refine (seal_Put.calls _ _ _ hseal).mono ?_); rintro e w4 ⟨rfl, hb4⟩)))
     go_ret2
     exact ⟨rfl, HB1.out.trans (Below.mono ((HBW.out.trans b3).trans (Below.mono hb4 (below_size (HBW.out.trans b3)))) (below_size HB1.out))⟩
  ·rw [if_neg hl] at h
   cases h
end Go.Proofs.YtppbcankhkgpfaaDoor.PDp
