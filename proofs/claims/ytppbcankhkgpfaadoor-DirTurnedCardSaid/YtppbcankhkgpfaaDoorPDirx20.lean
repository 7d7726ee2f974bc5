-- laid by gprint.py (this session's own program) out of the translation: Lean checks it
import Derived.Test.YtppbcankhkgpfaaDoorPDirx0
import Derived.Test.YtppbcankhkgpfaaDoorPDirx5
import Derived.Test.YtppbcankhkgpfaaDoorPDirx11
import Derived.Test.YtppbcankhkgpfaaDoorPDirx14
import Derived.Test.YtppbcankhkgpfaaDoorPDirx19
--compressed
namespace Go.Proofs.YtppbcankhkgpfaaDoor.PDir
open Go.RowKit Go.Proofs.YtppbcankhkgpfaaDoorW.PrintWords Go.Proofs.YtppbcankhkgpfaaDoorW.PrintLast Go.Proofs.YtppbcankhkgpfaaDoorW.PrintMore
attribute [local go_sem] max2_int min2_int max_two min_two max_three min_three max_four min_four   -- for this text's walks alone
attribute [local go_sem high] hw_str_leq hw_str_gtr
set_option linter.unusedVariables false
set_option linter.unusedSimpArgs false
def rootcellarlaw7_shown.f (k : Nat)  : Option (Bool) := (dir_Put.f k (([(⟨(⟨#[97]⟩ : ByteArray), 3, (([(⟨5, 1⟩ : S64)] : List (S64)))⟩ : S43)] : List (S43)))).bind fun bt175 => ((seal_Take.f bt175.1).bind fun bt177 => ((dir_Take.f k bt175.1).bind fun bt179 => (if bt175.2 = 0 then (if bt177.2 = 0 then (if bt179.2 = 0 then (if bt177.1.toList = ([1, 1, 97, 3, 0, 0, 0, 1, 5, 0, 1, 0] : List UInt8) then (if (bt179.1.length : Int) = 1 then (if 0 < (bt179.1.length : Int) then (some (((rd_T43 bt179.1 0).f0).toList == ([97] : List UInt8))) else (none)) else (some false)) else (some false)) else (some false)) else (some false)) else (some false))))
theorem rootcellarlaw7_shown.mono : ∀ k, LeO (rootcellarlaw7_shown.f k ) (rootcellarlaw7_shown.f (k + 1) ) := by
 intro  k
 unfold rootcellarlaw7_shown.f
 repeat' first
   | (with_reducible exact dir_Put.mono _ _)
   | (with_reducible exact dir_Take.mono _ _)
   | (with_reducible exact LeO.refl _)
   | (with_reducible exact LeO.none _)
   | (with_reducible refine LeO.ite ?_ ?_)
   | (with_reducible refine LeO.bind ?_ (fun _ => ?_))
   | exact dir_Put.mono _ _
   | exact dir_Take.mono _ _
   | exact LeO.none _
   | refine LeO.ite ?_ ?_
   | refine LeO.bind ?_ (fun _ => ?_)
set_option maxHeartbeats 8000000 in
set_option maxRecDepth 100000 in
theorem rootcellarlaw7_shown.calls (k : Nat)  (r : Bool) (w : World) (ht : TabsW w) (h : rootcellarlaw7_shown.f k  = some r) :
  Calls Tryd.prog 10 #[] w fun e w' => e = .returned (.bool r) ∧ Below w.heap.size w w' := by
 have hu64 := Tryd.underlying64
 have hu43 := Tryd.underlying43
 have HT0 := Aside0.mk ht
 clear ht
 have HB := Aside0.mk (Below.refl w.heap.size w)
 have H : ((dir_Put.f k (([(⟨(⟨#[97]⟩ : ByteArray), 3, (([(⟨5, 1⟩ : S64)] : List (S64)))⟩ : S43)] : List (S43)))).bind fun bt175 => ((seal_Take.f bt175.1).bind fun bt177 => ((dir_Take.f k bt175.1).bind fun bt179 => (if bt175.2 = 0 then (if bt177.2 = 0 then (if bt179.2 = 0 then (if bt177.1.toList = ([1, 1, 97, 3, 0, 0, 0, 1, 5, 0, 1, 0] : List UInt8) then (if (bt179.1.length : Int) = 1 then (if 0 < (bt179.1.length : Int) then (some (((rd_T43 bt179.1 0).f0).toList == ([97] : List UInt8))) else (none)) else (some false)) else (some false)) else (some false)) else (some false)) else (some false))))) = some r := h
 clear h
 obtain ⟨y169, hy169⟩ : ∃ y_ : List (S64), y_ = (([(⟨5, 1⟩ : S64)] : List (S64))) := ⟨_, rfl⟩
 replace H : ((dir_Put.f k (([(⟨(⟨#[97]⟩ : ByteArray), 3, y169⟩ : S43)] : List (S43)))).bind fun bt175 => ((seal_Take.f bt175.1).bind fun bt177 => ((dir_Take.f k bt175.1).bind fun bt179 => (if bt175.2 = 0 then (if bt177.2 = 0 then (if bt179.2 = 0 then (if bt177.1.toList = ([1, 1, 97, 3, 0, 0, 0, 1, 5, 0, 1, 0] : List UInt8) then (if (bt179.1.length : Int) = 1 then (if 0 < (bt179.1.length : Int) then (some (((rd_T43 bt179.1 0).f0).toList == ([97] : List UInt8))) else (none)) else (some false)) else (some false)) else (some false)) else (some false)) else (some false))))) = some r := by first | (rw [hy169]; with_reducible exact H) | (have H2_ := (Option.bind_some _ _).symm.trans H; rw [hy169]; with_reducible exact H2_) | (have H2_ := (Option.bind_some _ _).symm.trans H; with_reducible exact H2_) | with_reducible exact H | (rw [hy169]; exact H) | exact H
 have Ny169 := Aside0.mk hy169
 clear hy169
 obtain ⟨y172, hy172⟩ : ∃ y_ : List (S43), y_ = (([(⟨(⟨#[97]⟩ : ByteArray), 3, y169⟩ : S43)] : List (S43))) := ⟨_, rfl⟩
 replace H : ((dir_Put.f k y172).bind fun bt175 => ((seal_Take.f bt175.1).bind fun bt177 => ((dir_Take.f k bt175.1).bind fun bt179 => (if bt175.2 = 0 then (if bt177.2 = 0 then (if bt179.2 = 0 then (if bt177.1.toList = ([1, 1, 97, 3, 0, 0, 0, 1, 5, 0, 1, 0] : List UInt8) then (if (bt179.1.length : Int) = 1 then (if 0 < (bt179.1.length : Int) then (some (((rd_T43 bt179.1 0).f0).toList == ([97] : List UInt8))) else (none)) else (some false)) else (some false)) else (some false)) else (some false)) else (some false))))) = some r := by first | (rw [hy172]; with_reducible exact H) | (have H2_ := (Option.bind_some _ _).symm.trans H; rw [hy172]; with_reducible exact H2_) | (have H2_ := (Option.bind_some _ _).symm.trans H; with_reducible exact H2_) | with_reducible exact H | (rw [hy172]; exact H) | exact H
 have Ny172 := Aside0.mk hy172
 clear hy172
 replace H := Option.bind_eq_some_iff.mp H
 obtain ⟨⟨t175, t176⟩, A10, H⟩ := H
 replace H : ((seal_Take.f t175).bind fun bt177 => ((dir_Take.f k t175).bind fun bt179 => (if t176 = 0 then (if bt177.2 = 0 then (if bt179.2 = 0 then (if bt177.1.toList = ([1, 1, 97, 3, 0, 0, 0, 1, 5, 0, 1, 0] : List UInt8) then (if (bt179.1.length : Int) = 1 then (if 0 < (bt179.1.length : Int) then (some (((rd_T43 bt179.1 0).f0).toList == ([97] : List UInt8))) else (none)) else (some false)) else (some false)) else (some false)) else (some false)) else (some false)))) = some r := H
 have A1 := Aside0.mk A10
 clear A10
 replace H := Option.bind_eq_some_iff.mp H
 obtain ⟨⟨t177, t178⟩, A20, H⟩ := H
 replace H : ((dir_Take.f k t175).bind fun bt179 => (if t176 = 0 then (if t178 = 0 then (if bt179.2 = 0 then (if t177.toList = ([1, 1, 97, 3, 0, 0, 0, 1, 5, 0, 1, 0] : List UInt8) then (if (bt179.1.length : Int) = 1 then (if 0 < (bt179.1.length : Int) then (some (((rd_T43 bt179.1 0).f0).toList == ([97] : List UInt8))) else (none)) else (some false)) else (some false)) else (some false)) else (some false)) else (some false))) = some r := H
 have A2 := Aside0.mk A20
 clear A20
 replace H := Option.bind_eq_some_iff.mp H
 obtain ⟨⟨t179, t180⟩, A30, H⟩ := H
 replace H : (if t176 = 0 then (if t178 = 0 then (if t180 = 0 then (if t177.toList = ([1, 1, 97, 3, 0, 0, 0, 1, 5, 0, 1, 0] : List UInt8) then (if (t179.length : Int) = 1 then (if 0 < (t179.length : Int) then (some (((rd_T43 t179 0).f0).toList == ([97] : List UInt8))) else (none)) else (some false)) else (some false)) else (some false)) else (some false)) else (some false)) = some r := H
 have A3 := Aside0.mk A30
 clear A30
 by_cases c4 : t176 = 0
 ·rw [if_pos c4] at H
  have c4b0 : (t176 == 0) = true := beq_iff_eq.mpr c4
  have c4b1 : (t176 != 0) = false := bne_eq_false_iff_eq.mpr c4
  clear c4
  by_cases c5 : t178 = 0
  ·rw [if_pos c5] at H
   have c5b0 : (t178 == 0) = true := beq_iff_eq.mpr c5
   have c5b1 : (t178 != 0) = false := bne_eq_false_iff_eq.mpr c5
   clear c5
   by_cases c6 : t180 = 0
   ·rw [if_pos c6] at H
    have c6b0 : (t180 == 0) = true := beq_iff_eq.mpr c6
    have c6b1 : (t180 != 0) = false := bne_eq_false_iff_eq.mpr c6
    clear c6
    by_cases c7 : t177.toList = ([1, 1, 97, 3, 0, 0, 0, 1, 5, 0, 1, 0] : List UInt8)
    ·rw [if_pos c7] at H
     have c7b0 : (t177.toList == ([1, 1, 97, 3, 0, 0, 0, 1, 5, 0, 1, 0] : List UInt8)) = true := beq_iff_eq.mpr c7
     have c7b1 : (t177.toList != ([1, 1, 97, 3, 0, 0, 0, 1, 5, 0, 1, 0] : List UInt8)) = false := bne_eq_false_iff_eq.mpr c7
     clear c7
     by_cases c8 : (t179.length : Int) = 1
     ·rw [if_pos c8] at H
      have c8b0 : ((t179.length : Int) == 1) = true := beq_iff_eq.mpr c8
      have c8b1 : ((t179.length : Int) != 1) = false := bne_eq_false_iff_eq.mpr c8
      clear c8
      by_cases c9 : 0 < (t179.length : Int)
      ·rw [if_pos c9] at H
       have c9b0 : decide (0 < (t179.length : Int)) = true := decide_eq_true c9
       have c9b1 : decide (0 < t179.length) = true := decide_eq_true (by omega)
       clear c9
       obtain rfl := Option.some.inj H
       go_enter Tryd.func10, Tryd.ntmps10
       go_wp2_with (first | ((with_reducible refine gate_dst (N := 9) rfl ?_); (try (refine gate_guard (by rfl) ?_; dsimp only)); refine Kd.R_lit k64 _ 64 ?hg (N := 9) ?hd (xs := ([(⟨5, 1⟩ : S64)] : List (S64))) (inner := [.int .i64 5, .int .i64 1]) (ok := fun _ => True) (okp := fun _ => True) ?hr ?hp (fun _ hk => hk) trivial (Below.refl _ _) (Nat.le_refl _) (by simp) ?_; (case hd => rfl); (case hg => rfl); (case hr => first | (go_simp; done) | (go_simp; rfl)); (case hp => exact (Reps.c2 (show Kd.M k64 _ _ _ (⟨5, 1⟩ : S64) [.int .i64 5, .int .i64 1] from (k64_mkM _ _ _ (⟨5, 1⟩ : S64) )) (Reps.none _ _))); intro v170 w10 ho11 hb hg_ hnew_; clear hg_ hnew_; (first | rw [← Ny169.out] at ho11 | (simp only [Int.reduceToNat] at ho11; rw [← Ny169.out] at ho11)); have n0_ := Aside0.mk (Kd.R_lower ho11 (below_size belA)); have n1_ := Aside0.mk (below_step belA hb); clear HB; have HO171 := n0_; have HB := n1_; clear n0_ n1_; clear hb ho11; obtain ⟨Ao12, co12, eo12⟩ := Kd.R_slice HO171.out; subst eo12) | ((with_reducible refine gate_dst (N := 11) rfl ?_); (try (refine gate_guard (by rfl) ?_; dsimp only)); refine Kd.N_lit k43 _ 43 ?hg (N' := 11) ?hd (xs := ([(⟨(⟨#[97]⟩ : ByteArray), 3, y169⟩ : S43)] : List (S43))) (inner := [.string (⟨#[97]⟩ : ByteArray), .int .i64 3, .slice Ao12 y169.length co12]) (ok := (fun _ => True)) (okp := (fun _ => True)) ?hr ?hp (fun _ hk => hk) ((show ∀ k_, w10.heap.size ≤ k_ → (fun _ => True) k_ from fun k_ hk => trivial) _ (Nat.le_refl _)) (Below.refl _ _) (Nat.le_refl _) (by simp) ?_; (case hd => rfl); (case hg => rfl); (case hr => first | (go_simp; done) | (go_simp; rfl)); (case hp => exact (Reps.c3 (show Kd.FK k43 _ _ (⟨(⟨#[97]⟩ : ByteArray), 3, y169⟩ : S43) [.string (⟨#[97]⟩ : ByteArray), .int .i64 3, .slice Ao12 y169.length co12] from (k43_mkF _ _ (⟨(⟨#[97]⟩ : ByteArray), 3, y169⟩ : S43) (Kd.R_reads' (Kd.R_mono (ok' := (fun _ => True)) (HO171.out) (fun k_ hk => trivial))).2.1 (Kd.R_F (Kd.R_mono (ok' := (fun _ => True)) (HO171.out) (fun k_ hk => trivial))))) (Reps.none _ _))); intro v173 w13 ho14 hb hg_ hnew_; clear hg_ hnew_; (first | rw [← Ny172.out] at ho14 | (simp only [Int.reduceToNat] at ho14; rw [← Ny172.out] at ho14)); have n0_ := Aside0.mk (Kd.N_lower ho14 (below_size belA)); have n1_ := Aside0.mk (below_step belA hb); clear HB; clear HO171; have HO174 := n0_; have HB := n1_; clear n0_ n1_; clear hb ho14; obtain ⟨Ao15, co15, eo15⟩ := Kd.N_slice HO174.out; subst eo15) | ((with_reducible refine gate_callee (f := 16) rfl ?_); refine goesL_ (some 12) rfl rfl Tryd.func16 (by kernel_rfl) rfl #[.slice Ao15 y172.length co15] rfl argA ?_; (with_reducible refine (dir_Put.calls k _ _ y172 t175 t176 _ ?side1 ?side2 ?side3 A1.out).mono ?_); (case side1 => repeat (first | exact (Kd.N_reads' HO174.out).2.2 | (with_reducible refine Kd.C_alloc ?_ _) | (with_reducible refine Kd.C_drewN ?_ _) | (with_reducible refine Kd.C_drew ?_))); (case side2 => exact (Kd.N_reads' HO174.out).2.1); (case side3 => exact TabsW.below HT0.out belA); rintro e w16 ⟨rfl, hb⟩; refine ⟨_, rfl, ?_⟩; have n0_ := Aside0.mk (Kd.N_below (kdN_ HO174.out) hb); have n1_ := Aside0.mk (below_step belA hb); clear HO174; clear HB; have HO174 := n0_; have HB := n1_; clear n0_ n1_; (try clear hb); (try clear hb2); (try clear hk); (try clear hi)) | ((with_reducible refine gate_callee (f := 32) rfl ?_); refine goesL_ (some 17) rfl rfl Tryd.func32 (by kernel_rfl) rfl #[.string t175] rfl argA ?_; (with_reducible refine (seal_Take.calls t175 t177 t178 _ A2.out).mono ?_); rintro e w17 ⟨rfl, hb⟩; refine ⟨_, rfl, ?_⟩; have n0_ := Aside0.mk (Kd.N_below (kdN_ HO174.out) hb); have n1_ := Aside0.mk (below_step belA hb); clear HO174; clear HB; have HO174 := n0_; have HB := n1_; clear n0_ n1_; (try clear hb); (try clear hb2); (try clear hk); (try clear hi)) | ((with_reducible refine gate_callee (f := 12) rfl ?_); refine goesL_ (some 22) rfl rfl Tryd.func12 (by kernel_rfl) rfl #[.string t175] rfl argA ?_; (with_reducible refine (dir_Take.calls k t175 t179 t180 _ ?side1 A3.out).mono ?_); (case side1 => exact TabsW.below HT0.out belA); rintro e w18 ⟨v181, rfl, ho0, hb⟩; refine ⟨_, rfl, ?_⟩; have n0_ := Aside0.mk (Kd.N_elder' (kdN_ HO174.out) (by first | exact Kd.N_base ho0 | exact Kd.N_base (Kd.S_N (Kd.S_bound ho0))) hb); have n1_ := Aside0.mk (Kd.N_lower (Kd.N_mono (ok' := fun k_ => some k_ ≠ (.slice Ao15 y172.length co15 : Value).ownBlock) (Kd.S_N (Kd.S_bound ho0)) (fun k_ hk_ => (Kd.fresh' (Kd.N_lt (kdN_ HO174.out)) k_ hk_.2.1))) (below_size belA)); have n2_ := Aside0.mk (below_step belA hb); clear HO174; clear HB; have HO174 := n0_; have HO182 := n1_; have HB := n2_; clear n0_ n1_ n2_; (try clear hb); (try clear hb2); (try clear hk); (try clear hi); (try clear ho0); obtain ⟨Ao19, co19, eo19⟩ := Kd.N_slice HO182.out; subst eo19; have p183 : 0 ≤ (0 : Int) := (by omega); have q183 : 0 < (t179.length : Int) := of_decide_eq_true asA; obtain ⟨ad183, A183_2, c183_2, e183, hx183_0, hx183_1, hx183_2, hl183_2, hi183_2⟩ := at_T43 (Kd.N_reads' HO182.out).2.2 0 p183 q183; cases e183; obtain ⟨ce183, hce183, hMe183, hcc183⟩ := Kd.N_get HO182.out z43 0 p183 (by first | exact q183 | exact of_decide_eq_true asA | (have e_ := (Kd.N_reads' HO182.out).1; omega)); obtain ⟨ua183_2, uc183_2, rfl, ul183_2, ge183_2⟩ := k43_openF hMe183; have hv183_2 := hcc183 2 _ rfl; rw [add_field _ _ 2 (by omega)] at hv183_2; replace hv183_2 := Option.some.inj (hv183_2.symm.trans hx183_2); injection hv183_2 with hva_ hvn_ hvc_; rw [hva_] at ge183_2; rw [hvc_] at ul183_2; have HL183_2 := Aside0.mk (show Kd.V k64 64 _ w.heap.size _ _ ((rd_T43 t179 0).f2) from Kd.V_mk ul183_2 ge183_2); clear hva_ hvn_ hvc_ ge183_2 ul183_2; clear hcc183 hce183; have qi183 : (0 < t179.length) = True := eq_true (by omega); (try rw [show ((0 : Int)).toNat = 0 from rfl] at hx183_0); (try rw [show 0 * 3 = 0 from rfl] at hx183_0); (try rw [Addr.add_zero'] at hx183_0); (try rw [show ((0 : Int)).toNat = 0 from rfl] at hx183_1); (try rw [show 0 * 3 = 0 from rfl] at hx183_1); (try rw [Addr.add_zero'] at hx183_1); (try rw [show ((0 : Int)).toNat = 0 from rfl] at hx183_2); (try rw [show 0 * 3 = 0 from rfl] at hx183_2); (try rw [Addr.add_zero'] at hx183_2); have HR183_2 := Aside0.mk hi183_2; have HC183_2 := Aside0.mk hl183_2; clear hi183_2 hl183_2; replace p183 := eq_true p183; replace q183 := eq_true q183))
       go_ret
       exact ⟨by first | rfl | (simp [errW_none, errW_some] <;> rfl) | (simp [*, errW_none, errW_some] <;> rfl), by repeat (first | (with_reducible first | exact HB.out | apply below_alloc | apply pw_below_drewN | apply below_drew1) | exact HB.out)⟩
      ·rw [if_neg c9] at H
       exact absurd H (by simp)
     ·rw [if_neg c8] at H
      have c8b0 : ((t179.length : Int) == 1) = false := beq_eq_false_iff_ne.mpr c8
      have c8b1 : ((t179.length : Int) != 1) = true := bne_iff_ne.mpr c8
      obtain rfl := Option.some.inj H
      go_enter Tryd.func10, Tryd.ntmps10
      go_wp2_with (first | ((with_reducible refine gate_dst (N := 9) rfl ?_); (try (refine gate_guard (by rfl) ?_; dsimp only)); refine Kd.R_lit k64 _ 64 ?hg (N := 9) ?hd (xs := ([(⟨5, 1⟩ : S64)] : List (S64))) (inner := [.int .i64 5, .int .i64 1]) (ok := fun _ => True) (okp := fun _ => True) ?hr ?hp (fun _ hk => hk) trivial (Below.refl _ _) (Nat.le_refl _) (by simp) ?_; (case hd => rfl); (case hg => rfl); (case hr => first | (go_simp; done) | (go_simp; rfl)); (case hp => exact (Reps.c2 (show Kd.M k64 _ _ _ (⟨5, 1⟩ : S64) [.int .i64 5, .int .i64 1] from (k64_mkM _ _ _ (⟨5, 1⟩ : S64) )) (Reps.none _ _))); intro v170 w20 ho21 hb hg_ hnew_; clear hg_ hnew_; (first | rw [← Ny169.out] at ho21 | (simp only [Int.reduceToNat] at ho21; rw [← Ny169.out] at ho21)); have n0_ := Aside0.mk (Kd.R_lower ho21 (below_size belA)); have n1_ := Aside0.mk (below_step belA hb); clear HB; have HO171 := n0_; have HB := n1_; clear n0_ n1_; clear hb ho21; obtain ⟨Ao22, co22, eo22⟩ := Kd.R_slice HO171.out; subst eo22) | ((with_reducible refine gate_dst (N := 11) rfl ?_); (try (refine gate_guard (by rfl) ?_; dsimp only)); refine Kd.N_lit k43 _ 43 ?hg (N' := 11) ?hd (xs := ([(⟨(⟨#[97]⟩ : ByteArray), 3, y169⟩ : S43)] : List (S43))) (inner := [.string (⟨#[97]⟩ : ByteArray), .int .i64 3, .slice Ao22 y169.length co22]) (ok := (fun _ => True)) (okp := (fun _ => True)) ?hr ?hp (fun _ hk => hk) ((show ∀ k_, w20.heap.size ≤ k_ → (fun _ => True) k_ from fun k_ hk => trivial) _ (Nat.le_refl _)) (Below.refl _ _) (Nat.le_refl _) (by simp) ?_; (case hd => rfl); (case hg => rfl); (case hr => first | (go_simp; done) | (go_simp; rfl)); (case hp => exact (Reps.c3 (show Kd.FK k43 _ _ (⟨(⟨#[97]⟩ : ByteArray), 3, y169⟩ : S43) [.string (⟨#[97]⟩ : ByteArray), .int .i64 3, .slice Ao22 y169.length co22] from (k43_mkF _ _ (⟨(⟨#[97]⟩ : ByteArray), 3, y169⟩ : S43) (Kd.R_reads' (Kd.R_mono (ok' := (fun _ => True)) (HO171.out) (fun k_ hk => trivial))).2.1 (Kd.R_F (Kd.R_mono (ok' := (fun _ => True)) (HO171.out) (fun k_ hk => trivial))))) (Reps.none _ _))); intro v173 w23 ho24 hb hg_ hnew_; clear hg_ hnew_; (first | rw [← Ny172.out] at ho24 | (simp only [Int.reduceToNat] at ho24; rw [← Ny172.out] at ho24)); have n0_ := Aside0.mk (Kd.N_lower ho24 (below_size belA)); have n1_ := Aside0.mk (below_step belA hb); clear HB; clear HO171; have HO174 := n0_; have HB := n1_; clear n0_ n1_; clear hb ho24; obtain ⟨Ao25, co25, eo25⟩ := Kd.N_slice HO174.out; subst eo25) | ((with_reducible refine gate_callee (f := 16) rfl ?_); refine goesL_ (some 12) rfl rfl Tryd.func16 (by kernel_rfl) rfl #[.slice Ao25 y172.length co25] rfl argA ?_; (with_reducible refine (dir_Put.calls k _ _ y172 t175 t176 _ ?side1 ?side2 ?side3 A1.out).mono ?_); (case side1 => repeat (first | exact (Kd.N_reads' HO174.out).2.2 | (with_reducible refine Kd.C_alloc ?_ _) | (with_reducible refine Kd.C_drewN ?_ _) | (with_reducible refine Kd.C_drew ?_))); (case side2 => exact (Kd.N_reads' HO174.out).2.1); (case side3 => exact TabsW.below HT0.out belA); rintro e w26 ⟨rfl, hb⟩; refine ⟨_, rfl, ?_⟩; have n0_ := Aside0.mk (Kd.N_below (kdN_ HO174.out) hb); have n1_ := Aside0.mk (below_step belA hb); clear HO174; clear HB; have HO174 := n0_; have HB := n1_; clear n0_ n1_; (try clear hb); (try clear hb2); (try clear hk); (try clear hi)) | ((with_reducible refine gate_callee (f := 32) rfl ?_); refine goesL_ (some 17) rfl rfl Tryd.func32 (by kernel_rfl) rfl #[.string t175] rfl argA ?_; (with_reducible refine (seal_Take.calls t175 t177 t178 _ A2.out).mono ?_); rintro e w27 ⟨rfl, hb⟩; refine ⟨_, rfl, ?_⟩; have n0_ := Aside0.mk (Kd.N_below (kdN_ HO174.out) hb); have n1_ := Aside0.mk (below_step belA hb); clear HO174; clear HB; have HO174 := n0_; have HB := n1_; clear n0_ n1_; (try clear hb); (try clear hb2); (try clear hk); (try clear hi)) | ((with_reducible refine gate_callee (f := 12) rfl ?_); refine goesL_ (some 22) rfl rfl Tryd.func12 (by kernel_rfl) rfl #[.string t175] rfl argA ?_; (with_reducible refine (dir_Take.calls k t175 t179 t180 _ ?side1 A3.out).mono ?_); (case side1 => exact TabsW.below HT0.out belA); rintro e w28 ⟨v181, rfl, ho0, hb⟩; refine ⟨_, rfl, ?_⟩; have n0_ := Aside0.mk (Kd.N_elder' (kdN_ HO174.out) (by first | exact Kd.N_base ho0 | exact Kd.N_base (Kd.S_N (Kd.S_bound ho0))) hb); have n1_ := Aside0.mk (Kd.N_lower (Kd.N_mono (ok' := fun k_ => some k_ ≠ (.slice Ao25 y172.length co25 : Value).ownBlock) (Kd.S_N (Kd.S_bound ho0)) (fun k_ hk_ => (Kd.fresh' (Kd.N_lt (kdN_ HO174.out)) k_ hk_.2.1))) (below_size belA)); have n2_ := Aside0.mk (below_step belA hb); clear HO174; clear HB; have HO174 := n0_; have HO182 := n1_; have HB := n2_; clear n0_ n1_ n2_; (try clear hb); (try clear hb2); (try clear hk); (try clear hi); (try clear ho0); obtain ⟨Ao29, co29, eo29⟩ := Kd.N_slice HO182.out; subst eo29))
      go_ret
      exact ⟨by first | rfl | (simp [errW_none, errW_some] <;> rfl) | (simp [*, errW_none, errW_some] <;> rfl), by repeat (first | (with_reducible first | exact HB.out | apply below_alloc | apply pw_below_drewN | apply below_drew1) | exact HB.out)⟩
    ·rw [if_neg c7] at H
     have c7b0 : (t177.toList == ([1, 1, 97, 3, 0, 0, 0, 1, 5, 0, 1, 0] : List UInt8)) = false := beq_eq_false_iff_ne.mpr c7
     have c7b1 : (t177.toList != ([1, 1, 97, 3, 0, 0, 0, 1, 5, 0, 1, 0] : List UInt8)) = true := bne_iff_ne.mpr c7
     obtain rfl := Option.some.inj H
     go_enter Tryd.func10, Tryd.ntmps10
     go_wp2_with (first | ((with_reducible refine gate_dst (N := 9) rfl ?_); (try (refine gate_guard (by rfl) ?_; dsimp only)); refine Kd.R_lit k64 _ 64 ?hg (N := 9) ?hd (xs := ([(⟨5, 1⟩ : S64)] : List (S64))) (inner := [.int .i64 5, .int .i64 1]) (ok := fun _ => True) (okp := fun _ => True) ?hr ?hp (fun _ hk => hk) trivial (Below.refl _ _) (Nat.le_refl _) (by simp) ?_; (case hd => rfl); (case hg => rfl); (case hr => first | (go_simp; done) | (go_simp; rfl)); (case hp => exact (Reps.c2 (show Kd.M k64 _ _ _ (⟨5, 1⟩ : S64) [.int .i64 5, .int .i64 1] from (k64_mkM _ _ _ (⟨5, 1⟩ : S64) )) (Reps.none _ _))); intro v170 w30 ho31 hb hg_ hnew_; clear hg_ hnew_; (first | rw [← Ny169.out] at ho31 | (simp only [Int.reduceToNat] at ho31; rw [← Ny169.out] at ho31)); have n0_ := Aside0.mk (Kd.R_lower ho31 (below_size belA)); have n1_ := Aside0.mk (below_step belA hb); clear HB; have HO171 := n0_; have HB := n1_; clear n0_ n1_; clear hb ho31; obtain ⟨Ao32, co32, eo32⟩ := Kd.R_slice HO171.out; subst eo32) | ((with_reducible refine gate_dst (N := 11) rfl ?_); (try (refine gate_guard (by rfl) ?_; dsimp only)); refine Kd.N_lit k43 _ 43 ?hg (N' := 11) ?hd (xs := ([(⟨(⟨#[97]⟩ : ByteArray), 3, y169⟩ : S43)] : List (S43))) (inner := [.string (⟨#[97]⟩ : ByteArray), .int .i64 3, .slice Ao32 y169.length co32]) (ok := (fun _ => True)) (okp := (fun _ => True)) ?hr ?hp (fun _ hk => hk) ((show ∀ k_, w30.heap.size ≤ k_ → (fun _ => True) k_ from fun k_ hk => trivial) _ (Nat.le_refl _)) (Below.refl _ _) (Nat.le_refl _) (by simp) ?_; (case hd => rfl); (case hg => rfl); (case hr => first | (go_simp; done) | (go_simp; rfl)); (case hp => exact (Reps.c3 (show Kd.FK k43 _ _ (⟨(⟨#[97]⟩ : ByteArray), 3, y169⟩ : S43) [.string (⟨#[97]⟩ : ByteArray), .int .i64 3, .slice Ao32 y169.length co32] from (k43_mkF _ _ (⟨(⟨#[97]⟩ : ByteArray), 3, y169⟩ : S43) (Kd.R_reads' (Kd.R_mono (ok' := (fun _ => True)) (HO171.out) (fun k_ hk => trivial))).2.1 (Kd.R_F (Kd.R_mono (ok' := (fun _ => True)) (HO171.out) (fun k_ hk => trivial))))) (Reps.none _ _))); intro v173 w33 ho34 hb hg_ hnew_; clear hg_ hnew_; (first | rw [← Ny172.out] at ho34 | (simp only [Int.reduceToNat] at ho34; rw [← Ny172.out] at ho34)); have n0_ := Aside0.mk (Kd.N_lower ho34 (below_size belA)); have n1_ := Aside0.mk (below_step belA hb); clear HB; clear HO171; have HO174 := n0_; have HB := n1_; clear n0_ n1_; clear hb ho34; obtain ⟨Ao35, co35, eo35⟩ := Kd.N_slice HO174.out; subst eo35) | ((with_reducible refine gate_callee (f := 16) rfl ?_); refine goesL_ (some 12) rfl rfl Tryd.func16 (by kernel_rfl) rfl #[.slice Ao35 y172.length co35] rfl argA ?_; (with_reducible refine (dir_Put.calls k _ _ y172 t175 t176 _ ?side1 ?side2 ?side3 A1.out).mono ?_); (case side1 => repeat (first | exact (Kd.N_reads' HO174.out).2.2 | (with_reducible refine Kd.C_alloc ?_ _) | (with_reducible refine Kd.C_drewN ?_ _) | (with_reducible refine Kd.C_drew ?_))); (case side2 => exact (Kd.N_reads' HO174.out).2.1); (case side3 => exact TabsW.below HT0.out belA); rintro e w36 ⟨rfl, hb⟩; refine ⟨_, rfl, ?_⟩; have n0_ := Aside0.mk (Kd.N_below (kdN_ HO174.out) hb); have n1_ := Aside0.mk (below_step belA hb); clear HO174; clear HB; have HO174 := n0_; have HB := n1_; clear n0_ n1_; (try clear hb); (try clear hb2); (try clear hk); (try clear hi)) | ((with_reducible refine gate_callee (f := 32) rfl ?_); refine goesL_ (some 17) rfl rfl Tryd.func32 (by kernel_rfl) rfl #[.string t175] rfl argA ?_; (with_reducible refine (seal_Take.calls t175 t177 t178 _ A2.out).mono ?_); rintro e w37 ⟨rfl, hb⟩; refine ⟨_, rfl, ?_⟩; have n0_ := Aside0.mk (Kd.N_below (kdN_ HO174.out) hb); have n1_ := Aside0.mk (below_step belA hb); clear HO174; clear HB; have HO174 := n0_; have HB := n1_; clear n0_ n1_; (try clear hb); (try clear hb2); (try clear hk); (try clear hi)) | ((with_reducible refine gate_callee (f := 12) rfl ?_); refine goesL_ (some 22) rfl rfl Tryd.func12 (by kernel_rfl) rfl #[.string t175] rfl argA ?_; (with_reducible refine (dir_Take.calls k t175 t179 t180 _ ?side1 A3.out).mono ?_); (case side1 => exact TabsW.below HT0.out belA); rintro e w38 ⟨v181, rfl, ho0, hb⟩; refine ⟨_, rfl, ?_⟩; have n0_ := Aside0.mk (Kd.N_elder' (kdN_ HO174.out) (by first | exact Kd.N_base ho0 | exact Kd.N_base (Kd.S_N (Kd.S_bound ho0))) hb); have n1_ := Aside0.mk (Kd.N_lower (Kd.N_mono (ok' := fun k_ => some k_ ≠ (.slice Ao35 y172.length co35 : Value).ownBlock) (Kd.S_N (Kd.S_bound ho0)) (fun k_ hk_ => (Kd.fresh' (Kd.N_lt (kdN_ HO174.out)) k_ hk_.2.1))) (below_size belA)); have n2_ := Aside0.mk (below_step belA hb); clear HO174; clear HB; have HO174 := n0_; have HO182 := n1_; have HB := n2_; clear n0_ n1_ n2_; (try clear hb); (try clear hb2); (try clear hk); (try clear hi); (try clear ho0)))
     go_ret
     exact ⟨by first | rfl | (simp [errW_none, errW_some] <;> rfl) | (simp [*, errW_none, errW_some] <;> rfl), by repeat (first | (with_reducible first | exact HB.out | apply below_alloc | apply pw_below_drewN | apply below_drew1) | exact HB.out)⟩
   ·rw [if_neg c6] at H
    have c6b0 : (t180 == 0) = false := beq_eq_false_iff_ne.mpr c6
    have c6b1 : (t180 != 0) = true := bne_iff_ne.mpr c6
    obtain rfl := Option.some.inj H
    go_enter Tryd.func10, Tryd.ntmps10
    go_wp2_with (first | ((with_reducible refine gate_dst (N := 9) rfl ?_); (try (refine gate_guard (by rfl) ?_; dsimp only)); refine Kd.R_lit k64 _ 64 ?hg (N := 9) ?hd (xs := ([(⟨5, 1⟩ : S64)] : List (S64))) (inner := [.int .i64 5, .int .i64 1]) (ok := fun _ => True) (okp := fun _ => True) ?hr ?hp (fun _ hk => hk) trivial (Below.refl _ _) (Nat.le_refl _) (by simp) ?_; (case hd => rfl); (case hg => rfl); (case hr => first | (go_simp; done) | (go_simp; rfl)); (case hp => exact (Reps.c2 (show Kd.M k64 _ _ _ (⟨5, 1⟩ : S64) [.int .i64 5, .int .i64 1] from (k64_mkM _ _ _ (⟨5, 1⟩ : S64) )) (Reps.none _ _))); intro v170 w39 ho40 hb hg_ hnew_; clear hg_ hnew_; (first | rw [← Ny169.out] at ho40 | (simp only [Int.reduceToNat] at ho40; rw [← Ny169.out] at ho40)); have n0_ := Aside0.mk (Kd.R_lower ho40 (below_size belA)); have n1_ := Aside0.mk (below_step belA hb); clear HB; have HO171 := n0_; have HB := n1_; clear n0_ n1_; clear hb ho40; obtain ⟨Ao41, co41, eo41⟩ := Kd.R_slice HO171.out; subst eo41) | ((with_reducible refine gate_dst (N := 11) rfl ?_); (try (refine gate_guard (by rfl) ?_; dsimp only)); refine Kd.N_lit k43 _ 43 ?hg (N' := 11) ?hd (xs := ([(⟨(⟨#[97]⟩ : ByteArray), 3, y169⟩ : S43)] : List (S43))) (inner := [.string (⟨#[97]⟩ : ByteArray), .int .i64 3, .slice Ao41 y169.length co41]) (ok := (fun _ => True)) (okp := (fun _ => True)) ?hr ?hp (fun _ hk => hk) ((show ∀ k_, w39.heap.size ≤ k_ → (fun _ => True) k_ from fun k_ hk => trivial) _ (Nat.le_refl _)) (Below.refl _ _) (Nat.le_refl _) (by simp) ?_; (case hd => rfl); (case hg => rfl); (case hr => first | (go_simp; done) | (go_simp; rfl)); (case hp => exact (Reps.c3 (show Kd.FK k43 _ _ (⟨(⟨#[97]⟩ : ByteArray), 3, y169⟩ : S43) [.string (⟨#[97]⟩ : ByteArray), .int .i64 3, .slice Ao41 y169.length co41] from (k43_mkF _ _ (⟨(⟨#[97]⟩ : ByteArray), 3, y169⟩ : S43) (Kd.R_reads' (Kd.R_mono (ok' := (fun _ => True)) (HO171.out) (fun k_ hk => trivial))).2.1 (Kd.R_F (Kd.R_mono (ok' := (fun _ => True)) (HO171.out) (fun k_ hk => trivial))))) (Reps.none _ _))); intro v173 w42 ho43 hb hg_ hnew_; clear hg_ hnew_; (first | rw [← Ny172.out] at ho43 | (simp only [Int.reduceToNat] at ho43; rw [← Ny172.out] at ho43)); have n0_ := Aside0.mk (Kd.N_lower ho43 (below_size belA)); have n1_ := Aside0.mk (below_step belA hb); clear HB; clear HO171; have HO174 := n0_; have HB := n1_; clear n0_ n1_; clear hb ho43; obtain ⟨Ao44, co44, eo44⟩ := Kd.N_slice HO174.out; subst eo44) | ((with_reducible refine gate_callee (f := 16) rfl ?_); refine goesL_ (some 12) rfl rfl Tryd.func16 (by kernel_rfl) rfl #[.slice Ao44 y172.length co44] rfl argA ?_; (with_reducible refine (dir_Put.calls k _ _ y172 t175 t176 _ ?side1 ?side2 ?side3 A1.out).mono ?_); (case side1 => repeat (first | exact (Kd.N_reads' HO174.out).2.2 | (with_reducible refine Kd.C_alloc ?_ _) | (with_reducible refine Kd.C_drewN ?_ _) | (with_reducible refine Kd.C_drew ?_))); (case side2 => exact (Kd.N_reads' HO174.out).2.1); (case side3 => exact TabsW.below HT0.out belA); rintro e w45 ⟨rfl, hb⟩; refine ⟨_, rfl, ?_⟩; have n0_ := Aside0.mk (Kd.N_below (kdN_ HO174.out) hb); have n1_ := Aside0.mk (below_step belA hb); clear HO174; clear HB; have HO174 := n0_; have HB := n1_; clear n0_ n1_; (try clear hb); (try clear hb2); (try clear hk); (try clear hi)) | ((with_reducible refine gate_callee (f := 32) rfl ?_); refine goesL_ (some 17) rfl rfl Tryd.func32 (by kernel_rfl) rfl #[.string t175] rfl argA ?_; (with_reducible refine (seal_Take.calls t175 t177 t178 _ A2.out).mono ?_); rintro e w46 ⟨rfl, hb⟩; refine ⟨_, rfl, ?_⟩; have n0_ := Aside0.mk (Kd.N_below (kdN_ HO174.out) hb); have n1_ := Aside0.mk (below_step belA hb); clear HO174; clear HB; have HO174 := n0_; have HB := n1_; clear n0_ n1_; (try clear hb); (try clear hb2); (try clear hk); (try clear hi)) | ((with_reducible refine gate_callee (f := 12) rfl ?_); refine goesL_ (some 22) rfl rfl Tryd.func12 (by kernel_rfl) rfl #[.string t175] rfl argA ?_; (with_reducible refine (dir_Take.calls k t175 t179 t180 _ ?side1 A3.out).mono ?_); (case side1 => exact TabsW.below HT0.out belA); rintro e w47 ⟨v181, rfl, ho0, hb⟩; refine ⟨_, rfl, ?_⟩; have n0_ := Aside0.mk (Kd.N_elder' (kdN_ HO174.out) (by first | exact Kd.N_base ho0 | exact Kd.N_base (Kd.S_N (Kd.S_bound ho0))) hb); have n1_ := Aside0.mk (Kd.N_lower (Kd.N_mono (ok' := fun k_ => some k_ ≠ (.slice Ao44 y172.length co44 : Value).ownBlock) (Kd.S_N (Kd.S_bound ho0)) (fun k_ hk_ => (Kd.fresh' (Kd.N_lt (kdN_ HO174.out)) k_ hk_.2.1))) (below_size belA)); have n2_ := Aside0.mk (below_step belA hb); clear HO174; clear HB; have HO174 := n0_; have HO182 := n1_; have HB := n2_; clear n0_ n1_ n2_; (try clear hb); (try clear hb2); (try clear hk); (try clear hi); (try clear ho0)))
    go_ret
    exact ⟨by first | rfl | (simp [errW_none, errW_some] <;> rfl) | (simp [*, errW_none, errW_some] <;> rfl), by repeat (first | (with_reducible first | exact HB.out | apply below_alloc | apply pw_below_drewN | apply below_drew1) | exact HB.out)⟩
  ·rw [if_neg c5] at H
   have c5b0 : (t178 == 0) = false := beq_eq_false_iff_ne.mpr c5
   have c5b1 : (t178 != 0) = true := bne_iff_ne.mpr c5
   obtain rfl := Option.some.inj H
   go_enter Tryd.func10, Tryd.ntmps10
   go_wp2_with (first | ((with_reducible refine gate_dst (N := 9) rfl ?_); (try (refine gate_guard (by rfl) ?_; dsimp only)); refine Kd.R_lit k64 _ 64 ?hg (N := 9) ?hd (xs := ([(⟨5, 1⟩ : S64)] : List (S64))) (inner := [.int .i64 5, .int .i64 1]) (ok := fun _ => True) (okp := fun _ => True) ?hr ?hp (fun _ hk => hk) trivial (Below.refl _ _) (Nat.le_refl _) (by simp) ?_; (case hd => rfl); (case hg => rfl); (case hr => first | (go_simp; done) | (go_simp; rfl)); (case hp => exact (Reps.c2 (show Kd.M k64 _ _ _ (⟨5, 1⟩ : S64) [.int .i64 5, .int .i64 1] from (k64_mkM _ _ _ (⟨5, 1⟩ : S64) )) (Reps.none _ _))); intro v170 w48 ho49 hb hg_ hnew_; clear hg_ hnew_; (first | rw [← Ny169.out] at ho49 | (simp only [Int.reduceToNat] at ho49; rw [← Ny169.out] at ho49)); have n0_ := Aside0.mk (Kd.R_lower ho49 (below_size belA)); have n1_ := Aside0.mk (below_step belA hb); clear HB; have HO171 := n0_; have HB := n1_; clear n0_ n1_; clear hb ho49; obtain ⟨Ao50, co50, eo50⟩ := Kd.R_slice HO171.out; subst eo50) | ((with_reducible refine gate_dst (N := 11) rfl ?_); (try (refine gate_guard (by rfl) ?_; dsimp only)); refine Kd.N_lit k43 _ 43 ?hg (N' := 11) ?hd (xs := ([(⟨(⟨#[97]⟩ : ByteArray), 3, y169⟩ : S43)] : List (S43))) (inner := [.string (⟨#[97]⟩ : ByteArray), .int .i64 3, .slice Ao50 y169.length co50]) (ok := (fun _ => True)) (okp := (fun _ => True)) ?hr ?hp (fun _ hk => hk) ((show ∀ k_, w48.heap.size ≤ k_ → (fun _ => True) k_ from fun k_ hk => trivial) _ (Nat.le_refl _)) (Below.refl _ _) (Nat.le_refl _) (by simp) ?_; (case hd => rfl); (case hg => rfl); (case hr => first | (go_simp; done) | (go_simp; rfl)); (case hp => exact (Reps.c3 (show Kd.FK k43 _ _ (⟨(⟨#[97]⟩ : ByteArray), 3, y169⟩ : S43) [.string (⟨#[97]⟩ : ByteArray), .int .i64 3, .slice Ao50 y169.length co50] from (k43_mkF _ _ (⟨(⟨#[97]⟩ : ByteArray), 3, y169⟩ : S43) (Kd.R_reads' (Kd.R_mono (ok' := (fun _ => True)) (HO171.out) (fun k_ hk => trivial))).2.1 (Kd.R_F (Kd.R_mono (ok' := (fun _ => True)) (HO171.out) (fun k_ hk => trivial))))) (Reps.none _ _))); intro v173 w51 ho52 hb hg_ hnew_; clear hg_ hnew_; (first | rw [← Ny172.out] at ho52 | (simp only [Int.reduceToNat] at ho52; rw [← Ny172.out] at ho52)); have n0_ := Aside0.mk (Kd.N_lower ho52 (below_size belA)); have n1_ := Aside0.mk (below_step belA hb); clear HB; clear HO171; have HO174 := n0_; have HB := n1_; clear n0_ n1_; clear hb ho52; obtain ⟨Ao53, co53, eo53⟩ := Kd.N_slice HO174.out; subst eo53) | ((with_reducible refine gate_callee (f := 16) rfl ?_); refine goesL_ (some 12) rfl rfl Tryd.func16 (by kernel_rfl) rfl #[.slice Ao53 y172.length co53] rfl argA ?_; (with_reducible refine (dir_Put.calls k _ _ y172 t175 t176 _ ?side1 ?side2 ?side3 A1.out).mono ?_); (case side1 => repeat (first | exact (Kd.N_reads' HO174.out).2.2 | (with_reducible refine Kd.C_alloc ?_ _) | (with_reducible refine Kd.C_drewN ?_ _) | (with_reducible refine Kd.C_drew ?_))); (case side2 => exact (Kd.N_reads' HO174.out).2.1); (case side3 => exact TabsW.below HT0.out belA); rintro e w54 ⟨rfl, hb⟩; refine ⟨_, rfl, ?_⟩; have n0_ := Aside0.mk (Kd.N_below (kdN_ HO174.out) hb); have n1_ := Aside0.mk (below_step belA hb); clear HO174; clear HB; have HO174 := n0_; have HB := n1_; clear n0_ n1_; (try clear hb); (try clear hb2); (try clear hk); (try clear hi)) | ((with_reducible refine gate_callee (f := 32) rfl ?_); refine goesL_ (some 17) rfl rfl Tryd.func32 (by kernel_rfl) rfl #[.string t175] rfl argA ?_; (with_reducible refine (seal_Take.calls t175 t177 t178 _ A2.out).mono ?_); rintro e w55 ⟨rfl, hb⟩; refine ⟨_, rfl, ?_⟩; have n0_ := Aside0.mk (Kd.N_below (kdN_ HO174.out) hb); have n1_ := Aside0.mk (below_step belA hb); clear HO174; clear HB; have HO174 := n0_; have HB := n1_; clear n0_ n1_; (try clear hb); (try clear hb2); (try clear hk); (try clear hi)) | ((with_reducible refine gate_callee (f := 12) rfl ?_); refine goesL_ (some 22) rfl rfl Tryd.func12 (by kernel_rfl) rfl #[.string t175] rfl argA ?_; (with_reducible refine (dir_Take.calls k t175 t179 t180 _ ?side1 A3.out).mono ?_); (case side1 => exact TabsW.below HT0.out belA); rintro e w56 ⟨v181, rfl, ho0, hb⟩; refine ⟨_, rfl, ?_⟩; have n0_ := Aside0.mk (Kd.N_elder' (kdN_ HO174.out) (by first | exact Kd.N_base ho0 | exact Kd.N_base (Kd.S_N (Kd.S_bound ho0))) hb); have n1_ := Aside0.mk (Kd.N_lower (Kd.N_mono (ok' := fun k_ => some k_ ≠ (.slice Ao53 y172.length co53 : Value).ownBlock) (Kd.S_N (Kd.S_bound ho0)) (fun k_ hk_ => (Kd.fresh' (Kd.N_lt (kdN_ HO174.out)) k_ hk_.2.1))) (below_size belA)); have n2_ := Aside0.mk (below_step belA hb); clear HO174; clear HB; have HO174 := n0_; have HO182 := n1_; have HB := n2_; clear n0_ n1_ n2_; (try clear hb); (try clear hb2); (try clear hk); (try clear hi); (try clear ho0)))
   go_ret
   exact ⟨by first | rfl | (simp [errW_none, errW_some] <;> rfl) | (simp [*, errW_none, errW_some] <;> rfl), by repeat (first | (with_reducible first | exact HB.out | apply below_alloc | apply pw_below_drewN | apply below_drew1) | exact HB.out)⟩
 ·rw [if_neg c4] at H
  have c4b0 : (t176 == 0) = false := beq_eq_false_iff_ne.mpr c4
  have c4b1 : (t176 != 0) = true := bne_iff_ne.mpr c4
  obtain rfl := Option.some.inj H
  go_enter Tryd.func10, Tryd.ntmps10
  go_wp2_with (first | ((with_reducible refine gate_dst (N := 9) rfl ?_); (try (refine gate_guard (by rfl) ?_; dsimp only)); refine Kd.R_lit k64 _ 64 ?hg (N := 9) ?hd (xs := ([(⟨5, 1⟩ : S64)] : List (S64))) (inner := [.int .i64 5, .int .i64 1]) (ok := fun _ => True) (okp := fun _ => True) ?hr ?hp (fun _ hk => hk) trivial (Below.refl _ _) (Nat.le_refl _) (by simp) ?_; (case hd => rfl); (case hg => rfl); (case hr => first | (go_simp; done) | (go_simp; rfl)); (case hp => exact (Reps.c2 (show Kd.M k64 _ _ _ (⟨5, 1⟩ : S64) [.int .i64 5, .int .i64 1] from (k64_mkM _ _ _ (⟨5, 1⟩ : S64) )) (Reps.none _ _))); intro v170 w57 ho58 hb hg_ hnew_; clear hg_ hnew_; (first | rw [← Ny169.out] at ho58 | (simp only [Int.reduceToNat] at ho58; rw [← Ny169.out] at ho58)); have n0_ := Aside0.mk (Kd.R_lower ho58 (below_size belA)); have n1_ := Aside0.mk (below_step belA hb); clear HB; have HO171 := n0_; have HB := n1_; clear n0_ n1_; clear hb ho58; obtain ⟨Ao59, co59, eo59⟩ := Kd.R_slice HO171.out; subst eo59) | ((with_reducible refine gate_dst (N := 11) rfl ?_); (try (refine gate_guard (by rfl) ?_; dsimp only)); refine Kd.N_lit k43 _ 43 ?hg (N' := 11) ?hd (xs := ([(⟨(⟨#[97]⟩ : ByteArray), 3, y169⟩ : S43)] : List (S43))) (inner := [.string (⟨#[97]⟩ : ByteArray), .int .i64 3, .slice Ao59 y169.length co59]) (ok := (fun _ => True)) (okp := (fun _ => True)) ?hr ?hp (fun _ hk => hk) ((show ∀ k_, w57.heap.size ≤ k_ → (fun _ => True) k_ from fun k_ hk => trivial) _ (Nat.le_refl _)) (Below.refl _ _) (Nat.le_refl _) (by simp) ?_; (case hd => rfl); (case hg => rfl); (case hr => first | (go_simp; done) | (go_simp; rfl)); (case hp => exact (Reps.c3 (show Kd.FK k43 _ _ (⟨(⟨#[97]⟩ : ByteArray), 3, y169⟩ : S43) [.string (⟨#[97]⟩ : ByteArray), .int .i64 3, .slice Ao59 y169.length co59] from (k43_mkF _ _ (⟨(⟨#[97]⟩ : ByteArray), 3, y169⟩ : S43) (Kd.R_reads' (Kd.R_mono (ok' := (fun _ => True)) (HO171.out) (fun k_ hk => trivial))).2.1 (Kd.R_F (Kd.R_mono (ok' := (fun _ => True)) (HO171.out) (fun k_ hk => trivial))))) (Reps.none _ _))); intro v173 w60 ho61 hb hg_ hnew_; clear hg_ hnew_; (first | rw [← Ny172.out] at ho61 | (simp only [Int.reduceToNat] at ho61; rw [← Ny172.out] at ho61)); have n0_ := Aside0.mk (Kd.N_lower ho61 (below_size belA)); have n1_ := Aside0.mk (below_step belA hb); clear HB; clear HO171; have HO174 := n0_; have HB := n1_; clear n0_ n1_; clear hb ho61; obtain ⟨Ao62, co62, eo62⟩ := Kd.N_slice HO174.out; subst eo62) | ((with_reducible refine gate_callee (f := 16) rfl ?_); refine goesL_ (some 12) rfl rfl Tryd.func16 (by kernel_rfl) rfl #[.slice Ao62 y172.length co62] rfl argA ?_; (with_reducible refine (dir_Put.calls k _ _ y172 t175 t176 _ ?side1 ?side2 ?side3 A1.out).mono ?_); (case side1 => repeat (first | exact (Kd.N_reads' HO174.out).2.2 | (with_reducible refine Kd.C_alloc ?_ _) | (with_reducible refine Kd.C_drewN ?_ _) | (with_reducible refine Kd.C_drew ?_))); (case side2 => exact (Kd.N_reads' HO174.out).2.1); (case side3 => exact TabsW.below HT0.out belA); rintro e w63 ⟨rfl, hb⟩; refine ⟨_, rfl, ?_⟩; have n0_ := Aside0.mk (Kd.N_below (kdN_ HO174.out) hb); have n1_ := Aside0.mk (below_step belA hb); clear HO174; clear HB; have HO174 := n0_; have HB := n1_; clear n0_ n1_; (try clear hb); (try clear hb2); (try clear hk); (try clear hi)) | ((with_reducible refine gate_callee (f := 32) rfl ?_); refine goesL_ (some 17) rfl rfl Tryd.func32 (by kernel_rfl) rfl #[.string t175] rfl argA ?_; (with_reducible refine (seal_Take.calls t175 t177 t178 _ A2.out).mono ?_); rintro e w64 ⟨rfl, hb⟩; refine ⟨_, rfl, ?_⟩; have n0_ := Aside0.mk (Kd.N_below (kdN_ HO174.out) hb); have n1_ := Aside0.mk (below_step belA hb); clear HO174; clear HB; have HO174 := n0_; have HB := n1_; clear n0_ n1_; (try clear hb); (try clear hb2); (try clear hk); (try clear hi)) | ((with_reducible refine gate_callee (f := 12) rfl ?_); refine goesL_ (some 22) rfl rfl Tryd.func12 (by kernel_rfl) rfl #[.string t175] rfl argA ?_; (with_reducible refine (dir_Take.calls k t175 t179 t180 _ ?side1 A3.out).mono ?_); (case side1 => exact TabsW.below HT0.out belA); rintro e w65 ⟨v181, rfl, ho0, hb⟩; refine ⟨_, rfl, ?_⟩; have n0_ := Aside0.mk (Kd.N_elder' (kdN_ HO174.out) (by first | exact Kd.N_base ho0 | exact Kd.N_base (Kd.S_N (Kd.S_bound ho0))) hb); have n1_ := Aside0.mk (Kd.N_lower (Kd.N_mono (ok' := fun k_ => some k_ ≠ (.slice Ao62 y172.length co62 : Value).ownBlock) (Kd.S_N (Kd.S_bound ho0)) (fun k_ hk_ => (Kd.fresh' (Kd.N_lt (kdN_ HO174.out)) k_ hk_.2.1))) (below_size belA)); have n2_ := Aside0.mk (below_step belA hb); clear HO174; clear HB; have HO174 := n0_; have HO182 := n1_; have HB := n2_; clear n0_ n1_ n2_; (try clear hb); (try clear hb2); (try clear hk); (try clear hi); (try clear ho0)))
  go_ret
  exact ⟨by first | rfl | (simp [errW_none, errW_some] <;> rfl) | (simp [*, errW_none, errW_some] <;> rfl), by repeat (first | (with_reducible first | exact HB.out | apply below_alloc | apply pw_below_drewN | apply below_drew1) | exact HB.out)⟩
def rootcellarref2_Put.l0 : Nat → Int → Int → List Int → Int → Option (ByteArray)
 | 0, _, _, _, _ => none
 | k + 1, x0, x1, x5, x6 => if x6 < x1 then (if x6 < 8 then (if x5.length < 140737488355328 then (rootcellarref2_Put.l0 k (IntKind.u64.wrap (Int.tdiv x0 256)) x1 (x5 ++ [(Int.tmod x0 256) % 256]) (wrap64 (x6 + 1))) else (none)) else (some (strOfNums x5))) else (some (strOfNums x5))
def rootcellarref2_Put.f (k : Nat) (a0 : Int) (a1 : Int) : Option (ByteArray) := rootcellarref2_Put.l0 k a0 a1 ([] : List Int) 0
theorem rootcellarref2_Put.mono_l : ∀ k, (∀ y0 y1 y2 y3, LeO (rootcellarref2_Put.l0 k y0 y1 y2 y3) (rootcellarref2_Put.l0 (k + 1) y0 y1 y2 y3))
 | 0 => fun _ _ _ _ r h => by simp [rootcellarref2_Put.l0] at h
 | k + 1 => by
  have ih0 := rootcellarref2_Put.mono_l k
  ·intro y0 y1 y2 y3
   unfold rootcellarref2_Put.l0
   repeat' first
   | (with_reducible exact ih0 _ _ _ _)
   | (with_reducible exact LeO.refl _)
   | (with_reducible exact LeO.none _)
   | (with_reducible refine LeO.ite ?_ ?_)
   | (with_reducible refine LeO.bind ?_ (fun _ => ?_))
   | exact ih0 _ _ _ _
   | exact LeO.none _
   | refine LeO.ite ?_ ?_
   | refine LeO.bind ?_ (fun _ => ?_)
theorem rootcellarref2_Put.mono : ∀ a0 a1 k, LeO (rootcellarref2_Put.f k a0 a1) (rootcellarref2_Put.f (k + 1) a0 a1) := by
 intro a0 a1 k
 have ih0 := rootcellarref2_Put.mono_l k
 unfold rootcellarref2_Put.f
 repeat' first
   | (with_reducible exact ih0 _ _ _ _)
   | (with_reducible exact LeO.refl _)
   | (with_reducible exact LeO.none _)
   | (with_reducible refine LeO.ite ?_ ?_)
   | (with_reducible refine LeO.bind ?_ (fun _ => ?_))
   | exact ih0 _ _ _ _
   | exact LeO.none _
   | refine LeO.ite ?_ ?_
   | refine LeO.bind ?_ (fun _ => ?_)
set_option maxHeartbeats 8000000 in
set_option maxRecDepth 100000 in
theorem rootcellarref2_Put.calls (k : Nat) (a0 : Int) (a1 : Int) (r : ByteArray) (w : World) (h : rootcellarref2_Put.f k a0 a1 = some r) :
  Calls Tryd.prog 33 #[.int .u64 a0, .int .i64 a1] w fun e w' => e = .returned (.string r) ∧ Below w.heap.size w w' := by
 have HB := Aside0.mk (Below.refl w.heap.size w)
 have H : (rootcellarref2_Put.l0 k a0 a1 ([] : List Int) 0) = some r := h
 clear h
 have H' := Aside0.mk H
 clear H
 go_enter Tryd.func33, Tryd.ntmps33
 go_wp2
 go_loopg [0, 5, 6] k (fun kq v0 v5 v6 w' => ∃ (x0_1 : Int) (x5_1 : List Int) (x6_1 : Int), v0 = .int .u64 x0_1 ∧ v6 = .int .i64 x6_1 ∧ Aside0 (rootcellarref2_Put.l0 kq x0_1 a1 x5_1 x6_1 = some r) ∧ Aside0 (kq ≤ k) ∧ Aside0 (Kd.R (Kd.int .u8) 5 w' w.heap.size (fun _ => True) v5 x5_1) ∧ Aside0 (Below w.heap.size w w'))
 case atStart => exact ⟨(a0), (([] : List Int)), (0), (by first | rfl | (simp; done) | (simp [*]; done)), (by first | rfl | (simp; done) | (simp [*]; done)), H', ⟨Nat.le_refl _⟩, ⟨by first | exact Kd.R_nil _ _ _ _ _ | exact Kd.N_nil _ _ _ _ _ | exact Kd.V_nil _ _ _ _ _ | exact Kd.Q_nil _ _ _ _ _ | exact Kd.S_nil _ _ _ _ _⟩, ⟨by repeat (first | (with_reducible first | exact HB.out | apply below_alloc | apply pw_below_drewN | apply below_drew1) | exact HB.out)⟩⟩
 case round =>
  clear H'
  try clear p2
  obtain ⟨x0_1, x5_1, x6_1, rfl, rfl, HA, HK1, HO_5, HB⟩ := hrel
  cases gk with
  | zero => exact absurd HA.out (by simp [rootcellarref2_Put.l0])
  | succ k1 =>
   have H := HA.out
   clear HA
   simp only [rootcellarref2_Put.l0] at H
   by_cases c3 : x6_1 < a1
   ·rw [if_pos c3] at H
    have c3b0 : decide (x6_1 < a1) = true := decide_eq_true c3
    clear c3
    by_cases c4 : x6_1 < 8
    ·rw [if_pos c4] at H
     have c4b0 : decide (x6_1 < 8) = true := decide_eq_true c4
     clear c4
     by_cases c5 : x5_1.length < 140737488355328
     ·rw [if_pos c5] at H
      have LMc5 := Aside0.mk c5
      clear c5
      obtain ⟨y184, hy184⟩ : ∃ y_ : List Int, y_ = (x5_1 ++ [(Int.tmod x0_1 256) % 256]) := ⟨_, rfl⟩
      replace H : (rootcellarref2_Put.l0 k1 (IntKind.u64.wrap (Int.tdiv x0_1 256)) a1 y184 (wrap64 (x6_1 + 1))) = some r := by first | (rw [hy184]; with_reducible exact H) | (have H2_ := (Option.bind_some _ _).symm.trans H; rw [hy184]; with_reducible exact H2_) | (have H2_ := (Option.bind_some _ _).symm.trans H; with_reducible exact H2_) | with_reducible exact H | (rw [hy184]; exact H) | exact H
      have Ny184 := Aside0.mk hy184
      clear hy184
      have H' := Aside0.mk H
      clear H
      go_wp2_with (first | ((with_reducible refine gate_builtin (b := .append) (xs := #[.tmp 16, .tmp 20]) rfl ?_); at_builtin; refine Kd.R_append (Kd.int .u8) (w0 := w) w.heap.size rfl (.tmp 16) (.tmp 20) 39 5 (.int .u8 0) 1 rfl Tryd.underlying39 info5 rfl (by decide) (by omega) u5 x5_1 ((Int.tmod x0_1 256) % 256) [.int .u8 ((Int.tmod x0_1 256) % 256)] (fun _ => True) (fun _ => False) rfl rfl ?aP (fun _ hk => hk.elim) ?aF ?aO ?aB ?aS ?aL ?_; (case aP => exact rfl); (case aB => exact belA); (case aF => exact (fun _ _ => trivial)); (case aO => exact (kdR_ HO_5.out)); (case aS => exact (below_size belA)); (case aL => have := LMc5.out; omega); intro v185 w6 ho hb hg hat; rw [← Ny184.out] at ho; have n0_ := Aside0.mk (hb); have n1_ := Aside0.mk (ho); clear HB; clear HO_5; have HB := n0_; have HO186 := n1_; clear n0_ n1_; clear ho hb hg hat))
      go_roundg k1
      case measure => have := HK1.out; omega
      case rel => exact ⟨(IntKind.u64.wrap (Int.tdiv x0_1 256)), (y184), (wrap64 (x6_1 + 1)), (by first | rfl | (simp; done) | (simp [*]; done)), (by first | rfl | (simp; done) | (simp [*]; done)), H', ⟨by have := HK1.out; omega⟩, ⟨by (with_reducible repeat (first | apply Kd.R_alloc | apply Kd.R_drewN | apply Kd.R_drew)); exact HO186.out⟩, ⟨by repeat (first | (with_reducible first | exact HB.out | apply below_alloc | apply pw_below_drewN | apply below_drew1) | exact HB.out)⟩⟩
     ·rw [if_neg c5] at H
      exact absurd H (by simp)
    ·rw [if_neg c4] at H
     have c4b0 : decide (x6_1 < 8) = false := decide_eq_false c4
     clear c4
     obtain rfl := Option.some.inj H
     have hcv7 := own_string (P := Tryd.prog) Tryd.underlying39 Tryd.underlying5 Tryd.underlying9 (Kd.own_of_R HO_5.out)
     go_wp2
     go_ret
     exact ⟨by first | rfl | (simp [errW_none, errW_some] <;> rfl) | (simp [*, errW_none, errW_some] <;> rfl), by repeat (first | (with_reducible first | exact HB.out | apply below_alloc | apply pw_below_drewN | apply below_drew1) | exact HB.out)⟩
   ·rw [if_neg c3] at H
    have c3b0 : decide (x6_1 < a1) = false := decide_eq_false c3
    clear c3
    obtain rfl := Option.some.inj H
    have hcv8 := own_string (P := Tryd.prog) Tryd.underlying39 Tryd.underlying5 Tryd.underlying9 (Kd.own_of_R HO_5.out)
    go_wp2
    go_ret
    exact ⟨by first | rfl | (simp [errW_none, errW_some] <;> rfl) | (simp [*, errW_none, errW_some] <;> rfl), by repeat (first | (with_reducible first | exact HB.out | apply below_alloc | apply pw_below_drewN | apply below_drew1) | exact HB.out)⟩
mutual
def rootcellarref3_Sum.l0 : Nat → ByteArray → Int → Int → Option (Int)
 | 0, _, _, _ => none
 | k + 1, x0, x3, x4 => if x4 < (x0.size : Int) then (if 0 ≤ x4 then (rootcellarref3_Sum.l1 k x0 x3 x4 ((bt x0 x4) % 4294967296) 0) else (none)) else (some (Go.bits .xor .u32 x3 4294967295))
def rootcellarref3_Sum.l1 : Nat → ByteArray → Int → Int → Int → Int → Option (Int)
 | 0, _, _, _, _, _ => none
 | k + 1, x0, x3, x4, x5, x6 => if x6 < 8 then (if (Go.bits .and .u32 (Go.bits .xor .u32 x3 x5) 1) = 1 then (rootcellarref3_Sum.l1 k x0 (Go.bits .xor .u32 ((Int.tdiv x3 2) % 4294967296) 3988292384) x4 ((Int.tdiv x5 2) % 4294967296) (wrap64 (x6 + 1))) else (rootcellarref3_Sum.l1 k x0 ((Int.tdiv x3 2) % 4294967296) x4 ((Int.tdiv x5 2) % 4294967296) (wrap64 (x6 + 1)))) else (rootcellarref3_Sum.l0 k x0 x3 (wrap64 (x4 + 1)))
end
def rootcellarref3_Sum.f (k : Nat) (a0 : ByteArray) : Option (Int) := rootcellarref3_Sum.l0 k a0 4294967295 0
theorem rootcellarref3_Sum.mono_l : ∀ k, (∀ y0 y1 y2, LeO (rootcellarref3_Sum.l0 k y0 y1 y2) (rootcellarref3_Sum.l0 (k + 1) y0 y1 y2)) ∧ (∀ y0 y1 y2 y3 y4, LeO (rootcellarref3_Sum.l1 k y0 y1 y2 y3 y4) (rootcellarref3_Sum.l1 (k + 1) y0 y1 y2 y3 y4))
 | 0 => ⟨fun _ _ _ r h => by simp [rootcellarref3_Sum.l0] at h, fun _ _ _ _ _ r h => by simp [rootcellarref3_Sum.l1] at h⟩
 | k + 1 => by
  obtain ⟨ih0, ih1⟩ := rootcellarref3_Sum.mono_l k
  refine ⟨?_, ?_⟩
  ·intro y0 y1 y2
   unfold rootcellarref3_Sum.l0
   repeat' first
   | (with_reducible exact ih0 _ _ _)
   | (with_reducible exact ih1 _ _ _ _ _)
   | (with_reducible exact LeO.refl _)
   | (with_reducible exact LeO.none _)
   | (with_reducible refine LeO.ite ?_ ?_)
   | (with_reducible refine LeO.bind ?_ (fun _ => ?_))
   | exact ih0 _ _ _
   | exact ih1 _ _ _ _ _
   | exact LeO.none _
   | refine LeO.ite ?_ ?_
   | refine LeO.bind ?_ (fun _ => ?_)
  ·intro y0 y1 y2 y3 y4
   unfold rootcellarref3_Sum.l1
   repeat' first
   | (with_reducible exact ih0 _ _ _)
   | (with_reducible exact ih1 _ _ _ _ _)
   | (with_reducible exact LeO.refl _)
   | (with_reducible exact LeO.none _)
   | (with_reducible refine LeO.ite ?_ ?_)
   | (with_reducible refine LeO.bind ?_ (fun _ => ?_))
   | exact ih0 _ _ _
   | exact ih1 _ _ _ _ _
   | exact LeO.none _
   | refine LeO.ite ?_ ?_
   | refine LeO.bind ?_ (fun _ => ?_)
theorem rootcellarref3_Sum.mono : ∀ a0 k, LeO (rootcellarref3_Sum.f k a0) (rootcellarref3_Sum.f (k + 1) a0) := by
 intro a0 k
 obtain ⟨ih0, ih1⟩ := rootcellarref3_Sum.mono_l k
 unfold rootcellarref3_Sum.f
 repeat' first
   | (with_reducible exact ih0 _ _ _)
   | (with_reducible exact ih1 _ _ _ _ _)
   | (with_reducible exact LeO.refl _)
   | (with_reducible exact LeO.none _)
   | (with_reducible refine LeO.ite ?_ ?_)
   | (with_reducible refine LeO.bind ?_ (fun _ => ?_))
   | exact ih0 _ _ _
   | exact ih1 _ _ _ _ _
   | exact LeO.none _
   | refine LeO.ite ?_ ?_
   | refine LeO.bind ?_ (fun _ => ?_)
set_option maxHeartbeats 8000000 in
set_option maxRecDepth 100000 in
theorem rootcellarref3_Sum.calls (k : Nat) (a0 : ByteArray) (r : Int) (w : World) (h : rootcellarref3_Sum.f k a0 = some r) :
  Calls Tryd.prog 34 #[.string a0] w fun e w' => e = .returned (.int .u32 r) ∧ Drawn0 w w' := by
 have H : (rootcellarref3_Sum.l0 k a0 4294967295 0) = some r := h
 clear h
 have H' := Aside0.mk H
 clear H
 go_enter Tryd.func34, Tryd.ntmps34
 go_wp2
 go_loopg [3, 4] k (fun kq v3 v4 w' => ∃ (x3_1 : Int) (x4_1 : Int), v3 = .int .u32 x3_1 ∧ v4 = .int .i64 x4_1 ∧ Aside0 (rootcellarref3_Sum.l0 kq a0 x3_1 x4_1 = some r) ∧ Aside0 (kq ≤ k) ∧ Drawn0 w w')
 case atStart => exact ⟨(4294967295), (0), (by first | rfl | (simp; done) | (simp [*]; done)), (by first | rfl | (simp; done) | (simp [*]; done)), H', ⟨Nat.le_refl _⟩, by repeat (first | exact Drawn0.refl _ | apply Drawn0.step)⟩
 case round =>
  clear H'
  obtain ⟨x3_1, x4_1, rfl, rfl, HA, HK1, ⟨m1, rfl⟩⟩ := hrel
  cases gk with
  | zero => exact absurd HA.out (by simp [rootcellarref3_Sum.l0])
  | succ k1 =>
   have H := HA.out
   clear HA
   simp only [rootcellarref3_Sum.l0] at H
   by_cases c2 : x4_1 < (a0.size : Int)
   ·rw [if_pos c2] at H
    have c2b0 : decide (x4_1 < (a0.size : Int)) = true := decide_eq_true c2
    clear c2
    by_cases c3 : 0 ≤ x4_1
    ·rw [if_pos c3] at H
     have c3b0 : decide (0 ≤ x4_1) = true := decide_eq_true c3
     clear c3
     have H' := Aside0.mk H
     clear H
     have p4 : 0 ≤ (x4_1 : Int) := of_decide_eq_true asA
     have q4 : x4_1 < (a0.size : Int) := of_decide_eq_true asA
     have hx4 := bt_at a0 x4_1
     replace p4 := eq_true p4
     replace q4 := eq_true q4
     go_wp2
     go_loopg [3, 5, 6] k1 (fun kq v3 v5 v6 w' => ∃ (x3_2 : Int) (x5_2 : Int) (x6_2 : Int), v3 = .int .u32 x3_2 ∧ v5 = .int .u32 x5_2 ∧ v6 = .int .i64 x6_2 ∧ Aside0 (rootcellarref3_Sum.l1 kq a0 x3_2 x4_1 x5_2 x6_2 = some r) ∧ Aside0 (kq ≤ k1) ∧ Drawn0 w w')
     case atStart => exact ⟨(x3_1), ((bt a0 x4_1) % 4294967296), (0), (by first | rfl | (simp; done) | (simp [*]; done)), (by first | rfl | (simp; done) | (simp [*]; done)), (by first | rfl | (simp; done) | (simp [*]; done)), H', ⟨Nat.le_refl _⟩, by repeat (first | exact Drawn0.refl _ | apply Drawn0.step)⟩
     case round =>
      clear H'
      try clear c2
      try clear c2b0
      try clear p2
      try clear c3
      try clear c3b0
      try clear p4
      try clear q4
      try clear hx4
      try clear p4
      try clear q4
      obtain ⟨x3_2, x5_2, x6_2, rfl, rfl, rfl, HA, HK2, ⟨m2, rfl⟩⟩ := hrel
      cases gk with
      | zero => exact absurd HA.out (by simp [rootcellarref3_Sum.l1])
      | succ k2 =>
       have H := HA.out
       clear HA
       simp only [rootcellarref3_Sum.l1] at H
       by_cases c5 : x6_2 < 8
       ·rw [if_pos c5] at H
        have c5b0 : decide (x6_2 < 8) = true := decide_eq_true c5
        clear c5
        by_cases c6 : (Go.bits .and .u32 (Go.bits .xor .u32 x3_2 x5_2) 1) = 1
        ·rw [if_pos c6] at H
         have c6b0 : ((Go.bits .and .u32 (Go.bits .xor .u32 x3_2 x5_2) 1) == 1) = true := beq_iff_eq.mpr c6
         have c6b1 : ((Go.bits .and .u32 (Go.bits .xor .u32 x3_2 x5_2) 1) != 1) = false := bne_eq_false_iff_eq.mpr c6
         clear c6
         have H' := Aside0.mk H
         clear H
         go_wp2
         go_roundg k2
         case measure => have := HK1.out; have := HK2.out; omega
         case rel => exact ⟨(Go.bits .xor .u32 ((Int.tdiv x3_2 2) % 4294967296) 3988292384), ((Int.tdiv x5_2 2) % 4294967296), (wrap64 (x6_2 + 1)), (by first | rfl | (simp; done) | (simp [*]; done)), (by first | rfl | (simp; done) | (simp [*]; done)), (by first | rfl | (simp; done) | (simp [*]; done)), H', ⟨by have := HK1.out; have := HK2.out; omega⟩, by repeat (first | exact Drawn0.refl _ | apply Drawn0.step)⟩
        ·rw [if_neg c6] at H
         have c6b0 : ((Go.bits .and .u32 (Go.bits .xor .u32 x3_2 x5_2) 1) == 1) = false := beq_eq_false_iff_ne.mpr c6
         have c6b1 : ((Go.bits .and .u32 (Go.bits .xor .u32 x3_2 x5_2) 1) != 1) = true := bne_iff_ne.mpr c6
         have H' := Aside0.mk H
         clear H
         go_wp2
         go_roundg k2
         case measure => have := HK1.out; have := HK2.out; omega
         case rel => exact ⟨((Int.tdiv x3_2 2) % 4294967296), ((Int.tdiv x5_2 2) % 4294967296), (wrap64 (x6_2 + 1)), (by first | rfl | (simp; done) | (simp [*]; done)), (by first | rfl | (simp; done) | (simp [*]; done)), (by first | rfl | (simp; done) | (simp [*]; done)), H', ⟨by have := HK1.out; have := HK2.out; omega⟩, by repeat (first | exact Drawn0.refl _ | apply Drawn0.step)⟩
       ·rw [if_neg c5] at H
        have c5b0 : decide (x6_2 < 8) = false := decide_eq_false c5
        clear c5
        have H' := Aside0.mk H
        clear H
        go_wp2
        go_roundg k2
        case measure => have := HK1.out; have := HK2.out; omega
        case rel => exact ⟨(x3_2), (wrap64 (x4_1 + 1)), (by first | rfl | (simp; done) | (simp [*]; done)), (by first | rfl | (simp; done) | (simp [*]; done)), H', ⟨by have := HK1.out; have := HK2.out; omega⟩, by repeat (first | exact Drawn0.refl _ | apply Drawn0.step)⟩
    ·rw [if_neg c3] at H
     exact absurd H (by simp)
   ·rw [if_neg c2] at H
    have c2b0 : decide (x4_1 < (a0.size : Int)) = false := decide_eq_false c2
    clear c2
    obtain rfl := Option.some.inj H
    go_wp2
    go_ret
    exact ⟨by first | rfl | (simp; done) | (simp [*]; done), by repeat (first | exact Drawn0.refl _ | apply Drawn0.step)⟩
def rootcellarref3_Put.f (k : Nat) (a0 : ByteArray) : Option (ByteArray) := (rootcellarref3_Sum.f k a0).bind fun t187 => ((rootcellarref2_Put.f k (IntKind.u64.wrap (t187)) 4).bind fun t188 => (if a0.size + t188.size ≤ 9223372036854775807 then (some (a0 ++ t188)) else (none)))
theorem rootcellarref3_Put.mono : ∀ a0 k, LeO (rootcellarref3_Put.f k a0) (rootcellarref3_Put.f (k + 1) a0) := by
 intro a0 k
 unfold rootcellarref3_Put.f
 repeat' first
   | (with_reducible exact rootcellarref2_Put.mono _ _ _)
   | (with_reducible exact rootcellarref3_Sum.mono _ _)
   | (with_reducible exact LeO.refl _)
   | (with_reducible exact LeO.none _)
   | (with_reducible refine LeO.ite ?_ ?_)
   | (with_reducible refine LeO.bind ?_ (fun _ => ?_))
   | exact rootcellarref2_Put.mono _ _ _
   | exact rootcellarref3_Sum.mono _ _
   | exact LeO.none _
   | refine LeO.ite ?_ ?_
   | refine LeO.bind ?_ (fun _ => ?_)
set_option maxHeartbeats 8000000 in
set_option maxRecDepth 100000 in
theorem rootcellarref3_Put.calls (k : Nat) (a0 : ByteArray) (r : ByteArray) (w : World) (h : rootcellarref3_Put.f k a0 = some r) :
  Calls Tryd.prog 11 #[.string a0] w fun e w' => e = .returned (.string r) ∧ Below w.heap.size w w' := by
 have HB := Aside0.mk (Below.refl w.heap.size w)
 have H : ((rootcellarref3_Sum.f k a0).bind fun t187 => ((rootcellarref2_Put.f k (IntKind.u64.wrap (t187)) 4).bind fun t188 => (if a0.size + t188.size ≤ 9223372036854775807 then (some (a0 ++ t188)) else (none)))) = some r := h
 clear h
 replace H := Option.bind_eq_some_iff.mp H
 obtain ⟨t187, A20, H⟩ := H
 replace H : ((rootcellarref2_Put.f k (IntKind.u64.wrap (t187)) 4).bind fun t188 => (if a0.size + t188.size ≤ 9223372036854775807 then (some (a0 ++ t188)) else (none))) = some r := H
 have A2 := Aside0.mk A20
 clear A20
 replace H := Option.bind_eq_some_iff.mp H
 obtain ⟨t188, A30, H⟩ := H
 replace H : (if a0.size + t188.size ≤ 9223372036854775807 then (some (a0 ++ t188)) else (none)) = some r := H
 have A3 := Aside0.mk A30
 clear A30
 by_cases c4 : a0.size + t188.size ≤ 9223372036854775807
 ·rw [if_pos c4] at H
  have c4b0 := eq_true c4
  have c4b1 : decide (a0.size + t188.size ≤ 9223372036854775807) = true := decide_eq_true c4
  try have c4b2 : (9223372036854775807 < a0.size + t188.size) = False := eq_false (Nat.not_lt.2 c4)
  obtain rfl := Option.some.inj H
  go_enter Tryd.func11, Tryd.ntmps11
  go_wp2_with (first | ((with_reducible refine gate_callee (f := 34) rfl ?_); refine goesL_ (some 5) rfl rfl Tryd.func34 (by kernel_rfl) rfl #[.string a0] rfl argA ?_; (with_reducible refine (rootcellarref3_Sum.calls k a0 t187 _ A2.out).mono ?_); rintro e w' ⟨rfl, ⟨nd, rfl⟩⟩; refine ⟨_, rfl, ?_⟩) | ((with_reducible refine gate_callee (f := 33) rfl ?_); refine goesL_ (some 7) rfl rfl Tryd.func33 (by kernel_rfl) rfl #[.int .u64 (IntKind.u64.wrap (t187)), .int .i64 4] rfl argA ?_; (with_reducible refine (rootcellarref2_Put.calls k (IntKind.u64.wrap (t187)) 4 t188 _ A3.out).mono ?_); rintro e w5 ⟨rfl, hb⟩; refine ⟨_, rfl, ?_⟩; have n0_ := Aside0.mk (below_step belA hb); clear HB; have HB := n0_; clear n0_; (try clear hb); (try clear hb2); (try clear hk); (try clear hi)))
  go_ret
  exact ⟨by first | rfl | (simp [errW_none, errW_some] <;> rfl) | (simp [*, errW_none, errW_some] <;> rfl), by repeat (first | (with_reducible first | exact HB.out | apply below_alloc | apply pw_below_drewN | apply below_drew1) | exact HB.out)⟩
 ·rw [if_neg c4] at H
  exact absurd H (by simp)
def rootcellarref1_more.f (a0 : ByteArray) (a1 : Int) : Option (Bool) := if a1 < (a0.size : Int) then (if 0 ≤ a1 then (if (bt a0 a1) ≥ 128 then (some (decide ((bt a0 a1) ≤ 191))) else (some false)) else (none)) else (some false)
set_option maxHeartbeats 8000000 in
set_option maxRecDepth 100000 in
theorem rootcellarref1_more.calls (a0 : ByteArray) (a1 : Int) (r : Bool) (w : World) (h : rootcellarref1_more.f a0 a1 = some r) :
  Calls Tryd.prog 107 #[.string a0, .int .i64 a1] w fun e w' => e = .returned (.bool r) ∧ Drawn0 w w' := by
 have H : (if a1 < (a0.size : Int) then (if 0 ≤ a1 then (if (bt a0 a1) ≥ 128 then (some (decide ((bt a0 a1) ≤ 191))) else (some false)) else (none)) else (some false)) = some r := h
 clear h
 by_cases c3 : a1 < (a0.size : Int)
 ·rw [if_pos c3] at H
  have c3b0 : decide (a1 < (a0.size : Int)) = true := decide_eq_true c3
  clear c3
  by_cases c4 : 0 ≤ a1
  ·rw [if_pos c4] at H
   have c4b0 : decide (0 ≤ a1) = true := decide_eq_true c4
   clear c4
   by_cases c6 : (bt a0 a1) ≥ 128
   ·rw [if_pos c6] at H
    have c6b0 : decide (128 ≤ (bt a0 a1)) = true := decide_eq_true c6
    clear c6
    obtain rfl := Option.some.inj H
    have p5 : 0 ≤ (a1 : Int) := of_decide_eq_true asA
    have q5 : a1 < (a0.size : Int) := of_decide_eq_true asA
    have hx5 := bt_at a0 a1
    replace p5 := eq_true p5
    replace q5 := eq_true q5
    have p7 : 0 ≤ (a1 : Int) := of_decide_eq_true asA
    have q7 : a1 < (a0.size : Int) := of_decide_eq_true asA
    have hx7 := bt_at a0 a1
    replace p7 := eq_true p7
    replace q7 := eq_true q7
    go_enter Tryd.func107, Tryd.ntmps107
    go_wp2
    go_ret
    exact ⟨by first | rfl | (simp; done) | (simp [*]; done), by repeat (first | exact Drawn0.refl _ | apply Drawn0.step)⟩
   ·rw [if_neg c6] at H
    have c6b0 : decide (128 ≤ (bt a0 a1)) = false := decide_eq_false c6
    clear c6
    obtain rfl := Option.some.inj H
    have p5 : 0 ≤ (a1 : Int) := of_decide_eq_true asA
    have q5 : a1 < (a0.size : Int) := of_decide_eq_true asA
    have hx5 := bt_at a0 a1
    replace p5 := eq_true p5
    replace q5 := eq_true q5
    go_enter Tryd.func107, Tryd.ntmps107
    go_wp2
    go_ret
    exact ⟨by first | rfl | (simp; done) | (simp [*]; done), by repeat (first | exact Drawn0.refl _ | apply Drawn0.step)⟩
  ·rw [if_neg c4] at H
   exact absurd H (by simp)
 ·rw [if_neg c3] at H
  have c3b0 : decide (a1 < (a0.size : Int)) = false := decide_eq_false c3
  clear c3
  obtain rfl := Option.some.inj H
  go_enter Tryd.func107, Tryd.ntmps107
  go_wp2
  go_ret
  exact ⟨by first | rfl | (simp; done) | (simp [*]; done), by repeat (first | exact Drawn0.refl _ | apply Drawn0.step)⟩
end Go.Proofs.YtppbcankhkgpfaaDoor.PDir
