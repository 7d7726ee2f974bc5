-- laid by gprint.py (this session's own program) out of the translation: Lean checks it
import Derived.Test.YtppbcankhkgpfaaDoorPDpx0
import Derived.Test.YtppbcankhkgpfaaDoorPDpx5
import Derived.Test.YtppbcankhkgpfaaDoorPDpx11
import Derived.Test.YtppbcankhkgpfaaDoorPDpx19
--compressed
namespace Go.Proofs.YtppbcankhkgpfaaDoor.PDp
open Go.RowKit Go.Proofs.YtppbcankhkgpfaaDoorW.PrintWords Go.Proofs.YtppbcankhkgpfaaDoorW.PrintLast Go.Proofs.YtppbcankhkgpfaaDoorW.PrintMore
attribute [local go_sem] max2_int min2_int max_two min_two max_three min_three max_four min_four   -- for this text's walks alone
attribute [local go_sem high] hw_str_leq hw_str_gtr
set_option linter.unusedVariables false
set_option linter.unusedSimpArgs false
def rootcellarlaw7_shown.f (k : Nat)  : Option (Bool) := (dir_Put.f k (([(⟨(⟨#[97]⟩ : ByteArray), 3, (([(⟨5, 1⟩ : S64)] : List (S64)))⟩ : S43)] : List (S43)))).bind fun bt175 => ((seal_Take.f bt175.1).bind fun bt177 => ((dir_Take.f k bt175.1).bind fun bt179 => (if bt175.2 = 0 then (if bt177.2 = 0 then (if bt179.2 = 0 then (if bt177.1.toList = ([1, 1, 97, 3, 0, 0, 0, 1, 5, 0, 1, 0] : List UInt8) then (if (bt179.1.length : Int) = 1 then (if 0 < (bt179.1.length : Int) then (some (((rd_T43 bt179.1 0).f0).toList == ([97] : List UInt8))) else (none)) else (some false)) else (some false)) else (some false)) else (some false)) else (some false))))
set_option maxHeartbeats 8000000 in
set_option maxRecDepth 100000 in
theorem rootcellarlaw7_shown.calls (k : Nat)  (r : Bool) (w : World) (ht : TabsW w) (h : rootcellarlaw7_shown.f k  = some r) :
  Calls Tryd.prog 10 #[] w fun e w' => e = .returned (.bool r) ∧ Below w.heap.size w w' := by
 have hu64 := Tryd.underlying64
 have hu43 := Tryd.underlying43
 have HT0 := Aside0.mk ht
 clear ht
 have HB := Aside0.mk (Below.refl w.heap.size w)
 have H : ((dir_Put.f k (([(⟨(⟨#[97]⟩ : ByteArray), 3, (([(⟨5, 1⟩ : S64)] : List (S64)))⟩ : S43)] : List (S43)))).bind fun bt175 => ((seal_Take.f bt175.1).bind fun bt177 => ((dir_Take.f k bt175.1).bind fun bt179 => (if bt175.2 = 0 then (if bt177.2 = 0 then (if bt179.2 = 0 then (if bt177.1.toList = ([1, 1, 97, 3, 0, 0, 0, 1, 5, 0, 1, 0] : List UInt8) then (if (bt179.1.length : Int) = 1 then (if 0 < (bt179.1.length : Int) then (some (((rd_T43 bt179.1 0).f0).toList == ([97] : List UInt8))) else (none)) else (some false)) else (some false)) else (some false)) else (some false)) else (some false))))) = some r := h
 clear h
 obtain ⟨y169, hy169⟩ : ∃ y_ : List (S64), y_ = (([(⟨5, 1⟩ : S64)] : List (S64))) := ⟨_, rfl⟩
 replace H : ((dir_Put.f k (([(⟨(⟨#[97]⟩ : ByteArray), 3, y169⟩ : S43)] : List (S43)))).bind fun bt175 => ((seal_Take.f bt175.1).bind fun bt177 => ((dir_Take.f k bt175.1).bind fun bt179 => (if bt175.2 = 0 then (if bt177.2 = 0 then (if bt179.2 = 0 then (if bt177.1.toList = ([1, 1, 97, 3, 0, 0, 0, 1, 5, 0, 1, 0] : List UInt8) then (if (bt179.1.length : Int) = 1 then (if 0 < (bt179.1.length : Int) then (some (((rd_T43 bt179.1 0).f0).toList == ([97] : List UInt8))) else (none)) else (some false)) else (some false)) else (some false)) else (some false)) else (some false))))) = some r := by first | (rw [hy169]; with_reducible exact H) | (have H2_ := (Option.bind_some _ _).symm.trans H; rw [hy169]; with_reducible exact H2_) | (have H2_ := (Option.bind_some _ _).symm.trans H; with_reducible exact H2_) | with_reducible exact H | (rw [hy169]; exact H) | exact H
 have Ny169 := Aside0.mk hy169
 clear hy169
 obtain ⟨y172, hy172⟩ : ∃ y_ : List (S43), y_ = (([(⟨(⟨#[97]⟩ : ByteArray), 3, y169⟩ : S43)] : List (S43))) := ⟨_, rfl⟩
 replace H : ((dir_Put.f k y172).bind fun bt175 => ((seal_Take.f bt175.1).bind fun bt177 => ((dir_Take.f k bt175.1).bind fun bt179 => (if bt175.2 = 0 then (if bt177.2 = 0 then (if bt179.2 = 0 then (if bt177.1.toList = ([1, 1, 97, 3, 0, 0, 0, 1, 5, 0, 1, 0] : List UInt8) then (if (bt179.1.length : Int) = 1 then (if 0 < (bt179.1.length : Int) then (some (((rd_T43 bt179.1 0).f0).toList == ([97] : List UInt8))) else (none)) else (some false)) else (some false)) else (some false)) else (some false)) else (some false))))) = some r := by first | (rw [hy172]; with_reducible exact H) | (have H2_ := (Option.bind_some _ _).symm.trans H; rw [hy172]; with_reducible exact H2_) | (have H2_ := (Option.bind_some _ _).symm.trans H; with_reducible exact H2_) | with_reducible exact H | (rw [hy172]; exact H) | exact H
 have Ny172 := Aside0.mk hy172
 clear hy172
 replace H := Option.bind_eq_some_iff.mp H
 obtain ⟨⟨t175, t176⟩, A10, H⟩ := H
 replace H : ((seal_Take.f t175).bind fun bt177 => ((dir_Take.f k t175).bind fun bt179 => (if t176 = 0 then (if bt177.2 = 0 then (if bt179.2 = 0 then (if bt177.1.toList = ([1, 1, 97, 3, 0, 0, 0, 1, 5, 0, 1, 0] : List UInt8) then (if (bt179.1.length : Int) = 1 then (if 0 < (bt179.1.length : Int) then (some (((rd_T43 bt179.1 0).f0).toList == ([97] : List UInt8))) else (none)) else (some false)) else (some false)) else (some false)) else (some false)) else (some false)))) = some r := H
 have A1 := Aside0.mk A10
 clear A10
 replace H := Option.bind_eq_some_iff.mp H
 obtain ⟨⟨t177, t178⟩, A20, H⟩ := H
 replace H : ((dir_Take.f k t175).bind fun bt179 => (if t176 = 0 then (if t178 = 0 then (if bt179.2 = 0 then (if t177.toList = ([1, 1, 97, 3, 0, 0, 0, 1, 5, 0, 1, 0] : List UInt8) then (if (bt179.1.length : Int) = 1 then (if 0 < (bt179.1.length : Int) then (some (((rd_T43 bt179.1 0).f0).toList == ([97] : List UInt8))) else (none)) else (some false)) else (some false)) else (some false)) else (some false)) else (some false))) = some r := H
 have A2 := Aside0.mk A20
 clear A20
 replace H := Option.bind_eq_some_iff.mp H
 obtain ⟨⟨t179, t180⟩, A30, H⟩ := H
 replace H : (if t176 = 0 then (if t178 = 0 then (if t180 = 0 then (if t177.toList = ([1, 1, 97, 3, 0, 0, 0, 1, 5, 0, 1, 0] : List UInt8) then (if (t179.length : Int) = 1 then (if 0 < (t179.length : Int) then (some (((rd_T43 t179 0).f0).toList == ([97] : List UInt8))) else (none)) else (some false)) else (some false)) else (some false)) else (some false)) else (some false)) = some r := H
 have A3 := Aside0.mk A30
 clear A30
 by_cases c4 : t176 = 0
 ·rw [if_pos c4] at H
  have c4b0 : (t176 == 0) = true := beq_iff_eq.mpr c4
  have c4b1 : (t176 != 0) = false := bne_eq_false_iff_eq.mpr c4
  clear c4
  by_cases c5 : t178 = 0
  ·rw [if_pos c5] at H
   have c5b0 : (t178 == 0) = true := beq_iff_eq.mpr c5
   have c5b1 : (t178 != 0) = false := bne_eq_false_iff_eq.mpr c5
   clear c5
   by_cases c6 : t180 = 0
   ·rw [if_pos c6] at H
    have c6b0 : (t180 == 0) = true := beq_iff_eq.mpr c6
    have c6b1 : (t180 != 0) = false := bne_eq_false_iff_eq.mpr c6
    clear c6
    by_cases c7 : t177.toList = ([1, 1, 97, 3, 0, 0, 0, 1, 5, 0, 1, 0] : List UInt8)
    ·rw [if_pos c7] at H
     have c7b0 : (t177.toList == ([1, 1, 97, 3, 0, 0, 0, 1, 5, 0, 1, 0] : List UInt8)) = true := beq_iff_eq.mpr c7
     have c7b1 : (t177.toList != ([1, 1, 97, 3, 0, 0, 0, 1, 5, 0, 1, 0] : List UInt8)) = false := bne_eq_false_iff_eq.mpr c7
     clear c7
     by_cases c8 : (t179.length : Int) = 1
     ·rw [if_pos c8] at H
      have c8b0 : ((t179.length : Int) == 1) = true := beq_iff_eq.mpr c8
      have c8b1 : ((t179.length : Int) != 1) = false := bne_eq_false_iff_eq.mpr c8
      clear c8
      by_cases c9 : 0 < (t179.length : Int)
      ·rw [if_pos c9] at H
       have c9b0 : decide (0 < (t179.length : Int)) = true := decide_eq_true c9
       have c9b1 : decide (0 < t179.length) = true := decide_eq_true (by omega)
       clear c9
       obtain rfl := Option.some.inj H
       go_enter Tryd.func10, Tryd.ntmps10
       go_wp2_with (first | ((with_reducible refine gate_dst (N := 9) rfl ?_); (try (refine gate_guard (by rfl) ?_; dsimp only)); refine Kd.R_lit k64 _ 64 ?hg (N := 9) ?hd (xs := ([(⟨5, 1⟩ : S64)] : List (S64))) (inner := [.int .i64 5, .int .i64 1]) (ok := fun _ => True) (okp := fun _ => True) ?hr ?hp (fun _ hk => hk) trivial (Below.refl _ _) (Nat.le_refl _) (by simp) ?_; (case hd => rfl); (case hg => rfl); (case hr => first | (go_simp; done) | (go_simp; rfl)); (case hp => exact (Reps.c2 (show Kd.M k64 _ _ _ (⟨5, 1⟩ : S64) [.int .i64 5, .int .i64 1] from (k64_mkM _ _ _ (⟨5, 1⟩ : S64) )) (Reps.none _ _))); intro v170 w10 ho11 hb hg_ hnew_; clear hg_ hnew_; (first | rw [← Ny169.out] at ho11 | (simp only [Int.reduceToNat] at ho11; rw [← Ny169.out] at ho11)); have n0_ := Aside0.mk (Kd.R_lower ho11 (below_size belA)); have n1_ := Aside0.mk (below_step belA hb); clear HB; have HO171 := n0_; have HB := n1_; clear n0_ n1_; clear hb ho11; obtain ⟨Ao12, co12, eo12⟩ := Kd.R_slice HO171.out; subst eo12) | ((with_reducible refine gate_dst (N := 11) rfl ?_); (try (refine gate_guard (by rfl) ?_; dsimp only)); refine Kd.N_lit k43 _ 43 ?hg (N' := 11) ?hd (xs := ([(⟨(⟨#[97]⟩ : ByteArray), 3, y169⟩ : S43)] : List (S43))) (inner := [.string (⟨#[97]⟩ : ByteArray), .int .i64 3, .slice Ao12 y169.length co12]) (ok := (fun _ => True)) (okp := (fun _ => True)) ?hr ?hp (fun _ hk => hk) ((show ∀ k_, w10.heap.size ≤ k_ → (fun _ => True) k_ from fun k_ hk => trivial) _ (Nat.le_refl _)) (Below.refl _ _) (Nat.le_refl _) (by simp) ?_; (case hd => rfl); (case hg => rfl); (case hr => first | (go_simp; done) | (go_simp; rfl)); (case hp => exact (Reps.c3 (show Kd.FK k43 _ _ (⟨(⟨#[97]⟩ : ByteArray), 3, y169⟩ : S43) [.string (⟨#[97]⟩ : ByteArray), .int .i64 3, .slice Ao12 y169.length co12] from (k43_mkF _ _ (⟨(⟨#[97]⟩ : ByteArray), 3, y169⟩ : S43) (Kd.R_reads' (Kd.R_mono (ok' := (fun _ => True)) (HO171.out) (fun k_ hk => trivial))).2.1 (Kd.R_F (Kd.R_mono (ok' := (fun _ => True)) (HO171.out) (fun k_ hk => trivial))))) (Reps.none _ _))); intro v173 w13 ho14 hb hg_ hnew_; clear hg_ hnew_; (first | rw [← Ny172.out] at ho14 | (simp only [Int.reduceToNat] at ho14; rw [← Ny172.out] at ho14)); have n0_ := Aside0.mk (Kd.N_lower ho14 (below_size belA)); have n1_ := Aside0.mk (below_step belA hb); clear HB; clear HO171; have HO174 := n0_; have HB := n1_; clear n0_ n1_; clear hb ho14; obtain ⟨Ao15, co15, eo15⟩ := Kd.N_slice HO174.out; subst eo15) | ((with_reducible refine gate_callee (f := 16) rfl ?_); refine goesL_ (some 12) rfl rfl Tryd.func16 (by kernel_rfl) rfl #[.slice Ao15 y172.length co15] rfl argA ?_; (with_reducible refine (dir_Put.calls k _ _ y172 t175 t176 _ ?side1 ?side2 ?side3 A1.out).mono ?_); (case side1 => repeat (first | exact (Kd.N_reads' HO174.out).2.2 | (with_reducible refine Kd.C_alloc ?_ _) | (with_reducible refine Kd.C_drewN ?_ _) | (with_reducible refine Kd.C_drew ?_))); (case side2 => exact (Kd.N_reads' HO174.out).2.1); (case side3 => exact TabsW.below HT0.out belA); rintro e w16 ⟨rfl, hb⟩; refine ⟨_, rfl, ?_⟩; have n0_ := Aside0.mk (Kd.N_below (kdN_ HO174.out) hb); have n1_ := Aside0.mk (below_step belA hb); clear HO174; clear HB; have HO174 := n0_; have HB := n1_; clear n0_ n1_; (try clear hb); (try clear hb2); (try clear hk); (try clear hi)) | ((with_reducible refine gate_callee (f := 32) rfl ?_); refine goesL_ (some 17) rfl rfl Tryd.func32 (by kernel_rfl) rfl #[.string t175] rfl argA ?_; (with_reducible refine (seal_Take.calls t175 t177 t178 _ A2.out).mono ?_); rintro e w17 ⟨rfl, hb⟩; refine ⟨_, rfl, ?_⟩; have n0_ := Aside0.mk (Kd.N_below (kdN_ HO174.out) hb); have n1_ := Aside0.mk (below_step belA hb); clear HO174; clear HB; have HO174 := n0_; have HB := n1_; clear n0_ n1_; (try clear hb); (try clear hb2); (try clear hk); (try clear hi)) | ((with_reducible refine gate_callee (f := 12) rfl ?_); refine goesL_ (some 22) rfl rfl Tryd.func12 (by kernel_rfl) rfl #[.string t175] rfl argA ?_; (with_reducible refine (dir_Take.calls k t175 t179 t180 _ ?side1 A3.out).mono ?_); (case side1 => exact TabsW.below HT0.out belA); rintro e w18 ⟨v181, rfl, ho0, hb⟩; refine ⟨_, rfl, ?_⟩; have n0_ := Aside0.mk (Kd.N_elder' (kdN_ HO174.out) (by first | exact Kd.N_base ho0 | exact Kd.N_base (Kd.S_N (Kd.S_bound ho0))) hb); have n1_ := Aside0.mk (Kd.N_lower (Kd.N_mono (ok' := fun k_ => some k_ ≠ (.slice Ao15 y172.length co15 : Value).ownBlock) (Kd.S_N (Kd.S_bound ho0)) (fun k_ hk_ => (Kd.fresh' (Kd.N_lt (kdN_ HO174.out)) k_ hk_.2.1))) (below_size belA)); have n2_ := Aside0.mk (below_step belA hb); clear HO174; clear HB; have HO174 := n0_; have HO182 := n1_; have HB := n2_; clear n0_ n1_ n2_; (try clear hb); (try clear hb2); (try clear hk); (try clear hi); (try clear ho0); obtain ⟨Ao19, co19, eo19⟩ := Kd.N_slice HO182.out; subst eo19; have p183 : 0 ≤ (0 : Int) := (by omega); have q183 : 0 < (t179.length : Int) := of_decide_eq_true asA; obtain ⟨ad183, A183_2, c183_2, e183, hx183_0, hx183_1, hx183_2, hl183_2, hi183_2⟩ := at_T43 (Kd.N_reads' HO182.out).2.2 0 p183 q183; cases e183; obtain ⟨ce183, hce183, hMe183, hcc183⟩ := Kd.N_get HO182.out z43 0 p183 (by first | exact q183 | exact of_decide_eq_true asA | (have e_ := (Kd.N_reads' HO182.out).1; omega)); obtain ⟨ua183_2, uc183_2, rfl, ul183_2, ge183_2⟩ := k43_openF hMe183; have hv183_2 := hcc183 2 _ rfl; rw [add_field _ _ 2 (by omega)] at hv183_2; replace hv183_2 := Option.some.inj (hv183_2.symm.trans hx183_2); injection hv183_2 with hva_ hvn_ hvc_; rw [hva_] at ge183_2; rw [hvc_] at ul183_2; have HL183_2 := Aside0.mk (show Kd.V k64 64 _ w.heap.size _ _ ((rd_T43 t179 0).f2) from Kd.V_mk ul183_2 ge183_2); clear hva_ hvn_ hvc_ ge183_2 ul183_2; clear hcc183 hce183; have qi183 : (0 < t179.length) = True := eq_true (by omega); (try rw [show ((0 : Int)).toNat = 0 from rfl] at hx183_0); (try rw [show 0 * 3 = 0 from rfl] at hx183_0); (try rw [Addr.add_zero'] at hx183_0); (try rw [show ((0 : Int)).toNat = 0 from rfl] at hx183_1); (try rw [show 0 * 3 = 0 from rfl] at hx183_1); (try rw [Addr.add_zero'] at hx183_1); (try rw [show ((0 : Int)).toNat = 0 from rfl] at hx183_2); (try rw [show 0 * 3 = 0 from rfl] at hx183_2); (try rw [Addr.add_zero'] at hx183_2); have HR183_2 := Aside0.mk hi183_2; have HC183_2 := Aside0.mk hl183_2; clear hi183_2 hl183_2; replace p183 := eq_true p183; replace q183 := eq_true q183))
       go_ret
       exact ⟨by first | rfl | (simp [errW_none, errW_some] <;> rfl) | (simp [*, errW_none, errW_some] <;> rfl), by repeat (first | (with_reducible first | exact HB.out | apply below_alloc | apply pw_below_drewN | apply below_drew1) | exact HB.out)⟩
      ·rw [if_neg c9] at H
       exact absurd H (by simp)
     ·rw [if_neg c8] at H
      have c8b0 : ((t179.length : Int) == 1) = false := beq_eq_false_iff_ne.mpr c8
      have c8b1 : ((t179.length : Int) != 1) = true := bne_iff_ne.mpr c8
      obtain rfl := Option.some.inj H
      go_enter Tryd.func10, Tryd.ntmps10
      go_wp2_with (first | ((with_reducible refine gate_dst (N := 9) rfl ?_); (try (refine gate_guard (by rfl) ?_; dsimp only)); refine Kd.R_lit k64 _ 64 ?hg (N := 9) ?hd (xs := ([(⟨5, 1⟩ : S64)] : List (S64))) (inner := [.int .i64 5, .int .i64 1]) (ok := fun _ => True) (okp := fun _ => True) ?hr ?hp (fun _ hk => hk) trivial (Below.refl _ _) (Nat.le_refl _) (by simp) ?_; (case hd => rfl); (case hg => rfl); (case hr => first | (go_simp; done) | (go_simp; rfl)); (case hp => exact (Reps.c2 (show Kd.M k64 _ _ _ (⟨5, 1⟩ : S64) [.int .i64 5, .int .i64 1] from (k64_mkM _ _ _ (⟨5, 1⟩ : S64) )) (Reps.none _ _))); intro v170 w20 ho21 hb hg_ hnew_; clear hg_ hnew_; (first | rw [← Ny169.out] at ho21 | (simp only [Int.reduceToNat] at ho21; rw [← Ny169.out] at ho21)); have n0_ := Aside0.mk (Kd.R_lower ho21 (below_size belA)); have n1_ := Aside0.mk (below_step belA hb); clear HB; have HO171 := n0_; have HB := n1_; clear n0_ n1_; clear hb ho21; obtain ⟨Ao22, co22, eo22⟩ := Kd.R_slice HO171.out; subst eo22) | ((with_reducible refine gate_dst (N := 11) rfl ?_); (try (refine gate_guard (by rfl) ?_; dsimp only)); refine Kd.N_lit k43 _ 43 ?hg (N' := 11) ?hd (xs := ([(⟨(⟨#[97]⟩ : ByteArray), 3, y169⟩ : S43)] : List (S43))) (inner := [.string (⟨#[97]⟩ : ByteArray), .int .i64 3, .slice Ao22 y169.length co22]) (ok := (fun _ => True)) (okp := (fun _ => True)) ?hr ?hp (fun _ hk => hk) ((show ∀ k_, w20.heap.size ≤ k_ → (fun _ => True) k_ from fun k_ hk => trivial) _ (Nat.le_refl _)) (Below.refl _ _) (Nat.le_refl _) (by simp) ?_; (case hd => rfl); (case hg => rfl); (case hr => first | (go_simp; done) | (go_simp; rfl)); (case hp => exact (Reps.c3 (show Kd.FK k43 _ _ (⟨(⟨#[97]⟩ : ByteArray), 3, y169⟩ : S43) [.string (⟨#[97]⟩ : ByteArray), .int .i64 3, .slice Ao22 y169.length co22] from (k43_mkF _ _ (⟨(⟨#[97]⟩ : ByteArray), 3, y169⟩ : S43) (Kd.R_reads' (Kd.R_mono (ok' := (fun _ => True)) (HO171.out) (fun k_ hk => trivial))).2.1 (Kd.R_F (Kd.R_mono (ok' := (fun _ => True)) (HO171.out) (fun k_ hk => trivial))))) (Reps.none _ _))); intro v173 w23 ho24 hb hg_ hnew_; clear hg_ hnew_; (first | rw [← Ny172.out] at ho24 | (simp only [Int.reduceToNat] at ho24; rw [← Ny172.out] at ho24)); have n0_ := Aside0.mk (Kd.N_lower ho24 (below_size belA)); have n1_ := Aside0.mk (below_step belA hb); clear HB; clear HO171; have HO174 := n0_; have HB := n1_; clear n0_ n1_; clear hb ho24; obtain ⟨Ao25, co25, eo25⟩ := Kd.N_slice HO174.out; subst eo25) | ((with_reducible refine gate_callee (f := 16) rfl ?_); refine goesL_ (some 12) rfl rfl Tryd.func16 (by kernel_rfl) rfl #[.slice Ao25 y172.length co25] rfl argA ?_; (with_reducible refine (dir_Put.calls k _ _ y172 t175 t176 _ ?side1 ?side2 ?side3 A1.out).mono ?_); (case side1 => repeat (first | exact (Kd.N_reads' HO174.out).2.2 | (with_reducible refine Kd.C_alloc ?_ _) | (with_reducible refine Kd.C_drewN ?_ _) | (with_reducible refine Kd.C_drew ?_))); (case side2 => exact (Kd.N_reads' HO174.out).2.1); (case side3 => exact TabsW.below HT0.out belA); rintro e w26 ⟨rfl, hb⟩; refine ⟨_, rfl, ?_⟩; have n0_ := Aside0.mk (Kd.N_below (kdN_ HO174.out) hb); have n1_ := Aside0.mk (below_step belA hb); clear HO174; clear HB; have HO174 := n0_; have HB := n1_; clear n0_ n1_; (try clear hb); (try clear hb2); (try clear hk); (try clear hi)) | ((with_reducible refine gate_callee (f := 32) rfl ?_); refine goesL_ (some 17) rfl rfl Tryd.func32 (by kernel_rfl) rfl #[.string t175] rfl argA ?_; (with_reducible refine (seal_Take.calls t175 t177 t178 _ A2.out).mono ?_); rintro e w27 ⟨rfl, hb⟩; refine ⟨_, rfl, ?_⟩; have n0_ := Aside0.mk (Kd.N_below (kdN_ HO174.out) hb); have n1_ := Aside0.mk (below_step belA hb); clear HO174; clear HB; have HO174 := n0_; have HB := n1_; clear n0_ n1_; (try clear hb); (try clear hb2); (try clear hk); (try clear hi)) | ((with_reducible refine gate_callee (f := 12) rfl ?_); refine goesL_ (some 22) rfl rfl Tryd.func12 (by kernel_rfl) rfl #[.string t175] rfl argA ?_; (with_reducible refine (dir_Take.calls k t175 t179 t180 _ ?side1 A3.out).mono ?_); (case side1 => exact TabsW.below HT0.out belA); rintro e w28 ⟨v181, rfl, ho0, hb⟩; refine ⟨_, rfl, ?_⟩; have n0_ := Aside0.mk (Kd.N_elder' (kdN_ HO174.out) (by first | exact Kd.N_base ho0 | exact Kd.N_base (Kd.S_N (Kd.S_bound ho0))) hb); have n1_ := Aside0.mk (Kd.N_lower (Kd.N_mono (ok' := fun k_ => some k_ ≠ (.slice Ao25 y172.length co25 : Value).ownBlock) (Kd.S_N (Kd.S_bound ho0)) (fun k_ hk_ => (Kd.fresh' (Kd.N_lt (kdN_ HO174.out)) k_ hk_.2.1))) (below_size belA)); have n2_ := Aside0.mk (below_step belA hb); clear HO174; clear HB; have HO174 := n0_; have HO182 := n1_; have HB := n2_; clear n0_ n1_ n2_; (try clear hb); (try clear hb2); (try clear hk); (try clear hi); (try clear ho0); obtain ⟨Ao29, co29, eo29⟩ := Kd.N_slice HO182.out; subst eo29))
      go_ret
      exact ⟨by first | rfl | (simp [errW_none, errW_some] <;> rfl) | (simp [*, errW_none, errW_some] <;> rfl), by repeat (first | (with_reducible first | exact HB.out | apply below_alloc | apply pw_below_drewN | apply below_drew1) | exact HB.out)⟩
    ·rw [if_neg c7] at H
     have c7b0 : (t177.toList == ([1, 1, 97, 3, 0, 0, 0, 1, 5, 0, 1, 0] : List UInt8)) = false := beq_eq_false_iff_ne.mpr c7
     have c7b1 : (t177.toList != ([1, 1, 97, 3, 0, 0, 0, 1, 5, 0, 1, 0] : List UInt8)) = true := bne_iff_ne.mpr c7
     obtain rfl := Option.some.inj H
     go_enter Tryd.func10, Tryd.ntmps10
     go_wp2_with (first | ((with_reducible refine gate_dst (N := 9) rfl ?_); (try (refine gate_guard (by rfl) ?_; dsimp only)); refine Kd.R_lit k64 _ 64 ?hg (N := 9) ?hd (xs := ([(⟨5, 1⟩ : S64)] : List (S64))) (inner := [.int .i64 5, .int .i64 1]) (ok := fun _ => True) (okp := fun _ => True) ?hr ?hp (fun _ hk => hk) trivial (Below.refl _ _) (Nat.le_refl _) (by simp) ?_; (case hd => rfl); (case hg => rfl); (case hr => first | (go_simp; done) | (go_simp; rfl)); (case hp => exact (Reps.c2 (show Kd.M k64 _ _ _ (⟨5, 1⟩ : S64) [.int .i64 5, .int .i64 1] from (k64_mkM _ _ _ (⟨5, 1⟩ : S64) )) (Reps.none _ _))); intro v170 w30 ho31 hb hg_ hnew_; clear hg_ hnew_; (first | rw [← Ny169.out] at ho31 | (simp only [Int.reduceToNat] at ho31; rw [← Ny169.out] at ho31)); have n0_ := Aside0.mk (Kd.R_lower ho31 (below_size belA)); have n1_ := Aside0.mk (below_step belA hb); clear HB; have HO171 := n0_; have HB := n1_; clear n0_ n1_; clear hb ho31; obtain ⟨Ao32, co32, eo32⟩ := Kd.R_slice HO171.out; subst eo32) | ((with_reducible refine gate_dst (N := 11) rfl ?_); (try (refine gate_guard (by rfl) ?_; dsimp only)); refine Kd.N_lit k43 _ 43 ?hg (N' := 11) ?hd (xs := ([(⟨(⟨#[97]⟩ : ByteArray), 3, y169⟩ : S43)] : List (S43))) (inner := [.string (⟨#[97]⟩ : ByteArray), .int .i64 3, .slice Ao32 y169.length co32]) (ok := (fun _ => True)) (okp := (fun _ => True)) ?hr ?hp (fun _ hk => hk) ((show ∀ k_, w30.heap.size ≤ k_ → (fun _ => True) k_ from fun k_ hk => trivial) _ (Nat.le_refl _)) (Below.refl _ _) (Nat.le_refl _) (by simp) ?_; (case hd => rfl); (case hg => rfl); (case hr => first | (go_simp; done) | (go_simp; rfl)); (case hp => exact (Reps.c3 (show Kd.FK k43 _ _ (⟨(⟨#[97]⟩ : ByteArray), 3, y169⟩ : S43) [.string (⟨#[97]⟩ : ByteArray), .int .i64 3, .slice Ao32 y169.length co32] from (k43_mkF _ _ (⟨(⟨#[97]⟩ : ByteArray), 3, y169⟩ : S43) (Kd.R_reads' (Kd.R_mono (ok' := (fun _ => True)) (HO171.out) (fun k_ hk => trivial))).2.1 (Kd.R_F (Kd.R_mono (ok' := (fun _ => True)) (HO171.out) (fun k_ hk => trivial))))) (Reps.none _ _))); intro v173 w33 ho34 hb hg_ hnew_; clear hg_ hnew_; (first | rw [← Ny172.out] at ho34 | (simp only [Int.reduceToNat] at ho34; rw [← Ny172.out] at ho34)); have n0_ := Aside0.mk (Kd.N_lower ho34 (below_size belA)); have n1_ := Aside0.mk (below_step belA hb); clear HB; clear HO171; have HO174 := n0_; have HB := n1_; clear n0_ n1_; clear hb ho34; obtain ⟨Ao35, co35, eo35⟩ := Kd.N_slice HO174.out; subst eo35) | ((with_reducible refine gate_callee (f := 16) rfl ?_); refine goesL_ (some 12) rfl rfl Tryd.func16 (by kernel_rfl) rfl #[.slice Ao35 y172.length co35] rfl argA ?_; (with_reducible refine (dir_Put.calls k _ _ y172 t175 t176 _ ?side1 ?side2 ?side3 A1.out).mono ?_); (case side1 => repeat (first | exact (Kd.N_reads' HO174.out).2.2 | (with_reducible refine Kd.C_alloc ?_ _) | (with_reducible refine Kd.C_drewN ?_ _) | (with_reducible refine Kd.C_drew ?_))); (case side2 => exact (Kd.N_reads' HO174.out).2.1); (case side3 => exact TabsW.below HT0.out belA); rintro e w36 ⟨rfl, hb⟩; refine ⟨_, rfl, ?_⟩; have n0_ := Aside0.mk (Kd.N_below (kdN_ HO174.out) hb); have n1_ := Aside0.mk (below_step belA hb); clear HO174; clear HB; have HO174 := n0_; have HB := n1_; clear n0_ n1_; (try clear hb); (try clear hb2); (try clear hk); (try clear hi)) | ((with_reducible refine gate_callee (f := 32) rfl ?_); refine goesL_ (some 17) rfl rfl Tryd.func32 (by kernel_rfl) rfl #[.string t175] rfl argA ?_; (with_reducible refine (seal_Take.calls t175 t177 t178 _ A2.out).mono ?_); rintro e w37 ⟨rfl, hb⟩; refine ⟨_, rfl, ?_⟩; have n0_ := Aside0.mk (Kd.N_below (kdN_ HO174.out) hb); have n1_ := Aside0.mk (below_step belA hb); clear HO174; clear HB; have HO174 := n0_; have HB := n1_; clear n0_ n1_; (try clear hb); (try clear hb2); (try clear hk); (try clear hi)) | ((with_reducible refine gate_callee (f := 12) rfl ?_); refine goesL_ (some 22) rfl rfl Tryd.func12 (by kernel_rfl) rfl #[.string t175] rfl argA ?_; (with_reducible refine (dir_Take.calls k t175 t179 t180 _ ?side1 A3.out).mono ?_); (case side1 => exact TabsW.below HT0.out belA); rintro e w38 ⟨v181, rfl, ho0, hb⟩; refine ⟨_, rfl, ?_⟩; have n0_ := Aside0.mk (Kd.N_elder' (kdN_ HO174.out) (by first | exact Kd.N_base ho0 | exact Kd.N_base (Kd.S_N (Kd.S_bound ho0))) hb); have n1_ := Aside0.mk (Kd.N_lower (Kd.N_mono (ok' := fun k_ => some k_ ≠ (.slice Ao35 y172.length co35 : Value).ownBlock) (Kd.S_N (Kd.S_bound ho0)) (fun k_ hk_ => (Kd.fresh' (Kd.N_lt (kdN_ HO174.out)) k_ hk_.2.1))) (below_size belA)); have n2_ := Aside0.mk (below_step belA hb); clear HO174; clear HB; have HO174 := n0_; have HO182 := n1_; have HB := n2_; clear n0_ n1_ n2_; (try clear hb); (try clear hb2); (try clear hk); (try clear hi); (try clear ho0)))
     go_ret
     exact ⟨by first | rfl | (simp [errW_none, errW_some] <;> rfl) | (simp [*, errW_none, errW_some] <;> rfl), by repeat (first | (with_reducible first | exact HB.out | apply below_alloc | apply pw_below_drewN | apply below_drew1) | exact HB.out)⟩
   ·rw [if_neg c6] at H
    have c6b0 : (t180 == 0) = false := beq_eq_false_iff_ne.mpr c6
    have c6b1 : (t180 != 0) = true := bne_iff_ne.mpr c6
    obtain rfl := Option.some.inj H
    go_enter Tryd.func10, Tryd.ntmps10
    go_wp2_with (first | ((with_reducible refine gate_dst (N := 9) rfl ?_); (try (refine gate_guard (by rfl) ?_; dsimp only)); refine Kd.R_lit k64 _ 64 ?hg (N := 9) ?hd (xs := ([(⟨5, 1⟩ : S64)] : List (S64))) (inner := [.int .i64 5, .int .i64 1]) (ok := fun _ => True) (okp := fun _ => True) ?hr ?hp (fun _ hk => hk) trivial (Below.refl _ _) (Nat.le_refl _) (by simp) ?_; (case hd => rfl); (case hg => rfl); (case hr => first | (go_simp; done) | (go_simp; rfl)); (case hp => exact (Reps.c2 (show Kd.M k64 _ _ _ (⟨5, 1⟩ : S64) [.int .i64 5, .int .i64 1] from (k64_mkM _ _ _ (⟨5, 1⟩ : S64) )) (Reps.none _ _))); intro v170 w39 ho40 hb hg_ hnew_; clear hg_ hnew_; (first | rw [← Ny169.out] at ho40 | (simp only [Int.reduceToNat] at ho40; rw [← Ny169.out] at ho40)); have n0_ := Aside0.mk (Kd.R_lower ho40 (below_size belA)); have n1_ := Aside0.mk (below_step belA hb); clear HB; have HO171 := n0_; have HB := n1_; clear n0_ n1_; clear hb ho40; obtain ⟨Ao41, co41, eo41⟩ := Kd.R_slice HO171.out; subst eo41) | ((with_reducible refine gate_dst (N := 11) rfl ?_); (try (refine gate_guard (by rfl) ?_; dsimp only)); refine Kd.N_lit k43 _ 43 ?hg (N' := 11) ?hd (xs := ([(⟨(⟨#[97]⟩ : ByteArray), 3, y169⟩ : S43)] : List (S43))) (inner := [.string (⟨#[97]⟩ : ByteArray), .int .i64 3, .slice Ao41 y169.length co41]) (ok := (fun _ => True)) (okp := (fun _ => True)) ?hr ?hp (fun _ hk => hk) ((show ∀ k_, w39.heap.size ≤ k_ → (fun _ => True) k_ from fun k_ hk => trivial) _ (Nat.le_refl _)) (Below.refl _ _) (Nat.le_refl _) (by simp) ?_; (case hd => rfl); (case hg => rfl); (case hr => first | (go_simp; done) | (go_simp; rfl)); (case hp => exact (Reps.c3 (show Kd.FK k43 _ _ (⟨(⟨#[97]⟩ : ByteArray), 3, y169⟩ : S43) [.string (⟨#[97]⟩ : ByteArray), .int .i64 3, .slice Ao41 y169.length co41] from (k43_mkF _ _ (⟨(⟨#[97]⟩ : ByteArray), 3, y169⟩ : S43) (Kd.R_reads' (Kd.R_mono (ok' := (fun _ => True)) (HO171.out) (fun k_ hk => trivial))).2.1 (Kd.R_F (Kd.R_mono (ok' := (fun _ => True)) (HO171.out) (fun k_ hk => trivial))))) (Reps.none _ _))); intro v173 w42 ho43 hb hg_ hnew_; clear hg_ hnew_; (first | rw [← Ny172.out] at ho43 | (simp only [Int.reduceToNat] at ho43; rw [← Ny172.out] at ho43)); have n0_ := Aside0.mk (Kd.N_lower ho43 (below_size belA)); have n1_ := Aside0.mk (below_step belA hb); clear HB; clear HO171; have HO174 := n0_; have HB := n1_; clear n0_ n1_; clear hb ho43; obtain ⟨Ao44, co44, eo44⟩ := Kd.N_slice HO174.out; subst eo44) | ((with_reducible refine gate_callee (f := 16) rfl ?_); refine goesL_ (some 12) rfl rfl Tryd.func16 (by kernel_rfl) rfl #[.slice Ao44 y172.length co44] rfl argA ?_; (with_reducible refine (dir_Put.calls k _ _ y172 t175 t176 _ ?side1 ?side2 ?side3 A1.out).mono ?_); (case side1 => repeat (first | exact (Kd.N_reads' HO174.out).2.2 | (with_reducible refine Kd.C_alloc ?_ _) | (with_reducible refine Kd.C_drewN ?_ _) | (with_reducible refine Kd.C_drew ?_))); (case side2 => exact (Kd.N_reads' HO174.out).2.1); (case side3 => exact TabsW.below HT0.out belA); rintro e w45 ⟨rfl, hb⟩; refine ⟨_, rfl, ?_⟩; have n0_ := Aside0.mk (Kd.N_below (kdN_ HO174.out) hb); have n1_ := Aside0.mk (below_step belA hb); clear HO174; clear HB; have HO174 := n0_; have HB := n1_; clear n0_ n1_; (try clear hb); (try clear hb2); (try clear hk); (try clear hi)) | ((with_reducible refine gate_callee (f := 32) rfl ?_); refine goesL_ (some 17) rfl rfl Tryd.func32 (by kernel_rfl) rfl #[.string t175] rfl argA ?_; (with_reducible refine (seal_Take.calls t175 t177 t178 _ A2.out).mono ?_); rintro e w46 ⟨rfl, hb⟩; refine ⟨_, rfl, ?_⟩; have n0_ := Aside0.mk (Kd.N_below (kdN_ HO174.out) hb); have n1_ := Aside0.mk (below_step belA hb); clear HO174; clear HB; have HO174 := n0_; have HB := n1_; clear n0_ n1_; (try clear hb); (try clear hb2); (try clear hk); (try clear hi)) | ((with_reducible refine gate_callee (f := 12) rfl ?_); refine goesL_ (some 22) rfl rfl Tryd.func12 (by kernel_rfl) rfl #[.string t175] rfl argA ?_; (with_reducible refine (dir_Take.calls k t175 t179 t180 _ ?side1 A3.out).mono ?_); (case side1 => exact TabsW.below HT0.out belA); rintro e w47 ⟨v181, rfl, ho0, hb⟩; refine ⟨_, rfl, ?_⟩; have n0_ := Aside0.mk (Kd.N_elder' (kdN_ HO174.out) (by first | exact Kd.N_base ho0 | exact Kd.N_base (Kd.S_N (Kd.S_bound ho0))) hb); have n1_ := Aside0.mk (Kd.N_lower (Kd.N_mono (ok' := fun k_ => some k_ ≠ (.slice Ao44 y172.length co44 : Value).ownBlock) (Kd.S_N (Kd.S_bound ho0)) (fun k_ hk_ => (Kd.fresh' (Kd.N_lt (kdN_ HO174.out)) k_ hk_.2.1))) (below_size belA)); have n2_ := Aside0.mk (below_step belA hb); clear HO174; clear HB; have HO174 := n0_; have HO182 := n1_; have HB := n2_; clear n0_ n1_ n2_; (try clear hb); (try clear hb2); (try clear hk); (try clear hi); (try clear ho0)))
    go_ret
    exact ⟨by first | rfl | (simp [errW_none, errW_some] <;> rfl) | (simp [*, errW_none, errW_some] <;> rfl), by repeat (first | (with_reducible first | exact HB.out | apply below_alloc | apply pw_below_drewN | apply below_drew1) | exact HB.out)⟩
  ·rw [if_neg c5] at H
   have c5b0 : (t178 == 0) = false := beq_eq_false_iff_ne.mpr c5
   have c5b1 : (t178 != 0) = true := bne_iff_ne.mpr c5
   obtain rfl := Option.some.inj H
   go_enter Tryd.func10, Tryd.ntmps10
   go_wp2_with (first | ((with_reducible refine gate_dst (N := 9) rfl ?_); (try (refine gate_guard (by rfl) ?_; dsimp only)); refine Kd.R_lit k64 _ 64 ?hg (N := 9) ?hd (xs := ([(⟨5, 1⟩ : S64)] : List (S64))) (inner := [.int .i64 5, .int .i64 1]) (ok := fun _ => True) (okp := fun _ => True) ?hr ?hp (fun _ hk => hk) trivial (Below.refl _ _) (Nat.le_refl _) (by simp) ?_; (case hd => rfl); (case hg => rfl); (case hr => first | (go_simp; done) | (go_simp; rfl)); (case hp => exact (Reps.c2 (show Kd.M k64 _ _ _ (⟨5, 1⟩ : S64) [.int .i64 5, .int .i64 1] from (k64_mkM _ _ _ (⟨5, 1⟩ : S64) )) (Reps.none _ _))); intro v170 w48 ho49 hb hg_ hnew_; clear hg_ hnew_; (first | rw [← Ny169.out] at ho49 | (simp only [Int.reduceToNat] at ho49; rw [← Ny169.out] at ho49)); have n0_ := Aside0.mk (Kd.R_lower ho49 (below_size belA)); have n1_ := Aside0.mk (below_step belA hb); clear HB; have HO171 := n0_; have HB := n1_; clear n0_ n1_; clear hb ho49; obtain ⟨Ao50, co50, eo50⟩ := Kd.R_slice HO171.out; subst eo50) | ((with_reducible refine gate_dst (N := 11) rfl ?_); (try (refine gate_guard (by rfl) ?_; dsimp only)); refine Kd.N_lit k43 _ 43 ?hg (N' := 11) ?hd (xs := ([(⟨(⟨#[97]⟩ : ByteArray), 3, y169⟩ : S43)] : List (S43))) (inner := [.string (⟨#[97]⟩ : ByteArray), .int .i64 3, .slice Ao50 y169.length co50]) (ok := (fun _ => True)) (okp := (fun _ => True)) ?hr ?hp (fun _ hk => hk) ((show ∀ k_, w48.heap.size ≤ k_ → (fun _ => True) k_ from fun k_ hk => trivial) _ (Nat.le_refl _)) (Below.refl _ _) (Nat.le_refl _) (by simp) ?_; (case hd => rfl); (case hg => rfl); (case hr => first | (go_simp; done) | (go_simp; rfl)); (case hp => exact (Reps.c3 (show Kd.FK k43 _ _ (⟨(⟨#[97]⟩ : ByteArray), 3, y169⟩ : S43) [.string (⟨#[97]⟩ : ByteArray), .int .i64 3, .slice Ao50 y169.length co50] from (k43_mkF _ _ (⟨(⟨#[97]⟩ : ByteArray), 3, y169⟩ : S43) (Kd.R_reads' (Kd.R_mono (ok' := (fun _ => True)) (HO171.out) (fun k_ hk => trivial))).2.1 (Kd.R_F (Kd.R_mono (ok' := (fun _ => True)) (HO171.out) (fun k_ hk => trivial))))) (Reps.none _ _))); intro v173 w51 ho52 hb hg_ hnew_; clear hg_ hnew_; (first | rw [← Ny172.out] at ho52 | (simp only [Int.reduceToNat] at ho52; rw [← Ny172.out] at ho52)); have n0_ := Aside0.mk (Kd.N_lower ho52 (below_size belA)); have n1_ := Aside0.mk (below_step belA hb); clear HB; clear HO171; have HO174 := n0_; have HB := n1_; clear n0_ n1_; clear hb ho52; obtain ⟨Ao53, co53, eo53⟩ := Kd.N_slice HO174.out; subst eo53) | ((with_reducible refine gate_callee (f := 16) rfl ?_); refine goesL_ (some 12) rfl rfl Tryd.func16 (by kernel_rfl) rfl #[.slice Ao53 y172.length co53] rfl argA ?_; (with_reducible refine (dir_Put.calls k _ _ y172 t175 t176 _ ?side1 ?side2 ?side3 A1.out).mono ?_); (case side1 => repeat (first | exact (Kd.N_reads' HO174.out).2.2 | (with_reducible refine Kd.C_alloc ?_ _) | (with_reducible refine Kd.C_drewN ?_ _) | (with_reducible refine Kd.C_drew ?_))); (case side2 => exact (Kd.N_reads' HO174.out).2.1); (case side3 => exact TabsW.below HT0.out belA); rintro e w54 ⟨rfl, hb⟩; refine ⟨_, rfl, ?_⟩; have n0_ := Aside0.mk (Kd.N_below (kdN_ HO174.out) hb); have n1_ := Aside0.mk (below_step belA hb); clear HO174; clear HB; have HO174 := n0_; have HB := n1_; clear n0_ n1_; (try clear hb); (try clear hb2); (try clear hk); (try clear hi)) | ((with_reducible refine gate_callee (f := 32) rfl ?_); refine goesL_ (some 17) rfl rfl Tryd.func32 (by kernel_rfl) rfl #[.string t175] rfl argA ?_; (with_reducible refine (seal_Take.calls t175 t177 t178 _ A2.out).mono ?_); rintro e w55 ⟨rfl, hb⟩; refine ⟨_, rfl, ?_⟩; have n0_ := Aside0.mk (Kd.N_below (kdN_ HO174.out) hb); have n1_ := Aside0.mk (below_step belA hb); clear HO174; clear HB; have HO174 := n0_; have HB := n1_; clear n0_ n1_; (try clear hb); (try clear hb2); (try clear hk); (try clear hi)) | ((with_reducible refine gate_callee (f := 12) rfl ?_); refine goesL_ (some 22) rfl rfl Tryd.func12 (by kernel_rfl) rfl #[.string t175] rfl argA ?_; (with_reducible refine (dir_Take.calls k t175 t179 t180 _ ?side1 A3.out).mono ?_); (case side1 => exact TabsW.below HT0.out belA); rintro e w56 ⟨v181, rfl, ho0, hb⟩; refine ⟨_, rfl, ?_⟩; have n0_ := Aside0.mk (Kd.N_elder' (kdN_ HO174.out) (by first | exact Kd.N_base ho0 | exact Kd.N_base (Kd.S_N (Kd.S_bound ho0))) hb); have n1_ := Aside0.mk (Kd.N_lower (Kd.N_mono (ok' := fun k_ => some k_ ≠ (.slice Ao53 y172.length co53 : Value).ownBlock) (Kd.S_N (Kd.S_bound ho0)) (fun k_ hk_ => (Kd.fresh' (Kd.N_lt (kdN_ HO174.out)) k_ hk_.2.1))) (below_size belA)); have n2_ := Aside0.mk (below_step belA hb); clear HO174; clear HB; have HO174 := n0_; have HO182 := n1_; have HB := n2_; clear n0_ n1_ n2_; (try clear hb); (try clear hb2); (try clear hk); (try clear hi); (try clear ho0)))
   go_ret
   exact ⟨by first | rfl | (simp [errW_none, errW_some] <;> rfl) | (simp [*, errW_none, errW_some] <;> rfl), by repeat (first | (with_reducible first | exact HB.out | apply below_alloc | apply pw_below_drewN | apply below_drew1) | exact HB.out)⟩
 ·rw [if_neg c4] at H
  have c4b0 : (t176 == 0) = false := beq_eq_false_iff_ne.mpr c4
  have c4b1 : (t176 != 0) = true := bne_iff_ne.mpr c4
  obtain rfl := Option.some.inj H
  go_enter Tryd.func10, Tryd.ntmps10
  go_wp2_with (first | ((with_reducible refine gate_dst (N := 9) rfl ?_); (try (refine gate_guard (by rfl) ?_; dsimp only)); refine Kd.R_lit k64 _ 64 ?hg (N := 9) ?hd (xs := ([(⟨5, 1⟩ : S64)] : List (S64))) (inner := [.int .i64 5, .int .i64 1]) (ok := fun _ => True) (okp := fun _ => True) ?hr ?hp (fun _ hk => hk) trivial (Below.refl _ _) (Nat.le_refl _) (by simp) ?_; (case hd => rfl); (case hg => rfl); (case hr => first | (go_simp; done) | (go_simp; rfl)); (case hp => exact (Reps.c2 (show Kd.M k64 _ _ _ (⟨5, 1⟩ : S64) [.int .i64 5, .int .i64 1] from (k64_mkM _ _ _ (⟨5, 1⟩ : S64) )) (Reps.none _ _))); intro v170 w57 ho58 hb hg_ hnew_; clear hg_ hnew_; (first | rw [← Ny169.out] at ho58 | (simp only [Int.reduceToNat] at ho58; rw [← Ny169.out] at ho58)); have n0_ := Aside0.mk (Kd.R_lower ho58 (below_size belA)); have n1_ := Aside0.mk (below_step belA hb); clear HB; have HO171 := n0_; have HB := n1_; clear n0_ n1_; clear hb ho58; obtain ⟨Ao59, co59, eo59⟩ := Kd.R_slice HO171.out; subst eo59) | ((with_reducible refine gate_dst (N := 11) rfl ?_); (try (refine gate_guard (by rfl) ?_; dsimp only)); refine Kd.N_lit k43 _ 43 ?hg (N' := 11) ?hd (xs := ([(⟨(⟨#[97]⟩ : ByteArray), 3, y169⟩ : S43)] : List (S43))) (inner := [.string (⟨#[97]⟩ : ByteArray), .int .i64 3, .slice Ao59 y169.length co59]) (ok := (fun _ => True)) (okp := (fun _ => True)) ?hr ?hp (fun _ hk => hk) ((show ∀ k_, w57.heap.size ≤ k_ → (fun _ => True) k_ from fun k_ hk => trivial) _ (Nat.le_refl _)) (Below.refl _ _) (Nat.le_refl _) (by simp) ?_; (case hd => rfl); (case hg => rfl); (case hr => first | (go_simp; done) | (go_simp; rfl)); (case hp => exact (Reps.c3 (show Kd.FK k43 _ _ (⟨(⟨#[97]⟩ : ByteArray), 3, y169⟩ : S43) [.string (⟨#[97]⟩ : ByteArray), .int .i64 3, .slice Ao59 y169.length co59] from (k43_mkF _ _ (⟨(⟨#[97]⟩ : ByteArray), 3, y169⟩ : S43) (Kd.R_reads' (Kd.R_mono (ok' := (fun _ => True)) (HO171.out) (fun k_ hk => trivial))).2.1 (Kd.R_F (Kd.R_mono (ok' := (fun _ => True)) (HO171.out) (fun k_ hk => trivial))))) (Reps.none _ _))); intro v173 w60 ho61 hb hg_ hnew_; clear hg_ hnew_; (first | rw [← Ny172.out] at ho61 | (simp only [Int.reduceToNat] at ho61; rw [← Ny172.out] at ho61)); have n0_ := Aside0.mk (Kd.N_lower ho61 (below_size belA)); have n1_ := Aside0.mk (below_step belA hb); clear HB; clear HO171; have HO174 := n0_; have HB := n1_; clear n0_ n1_; clear hb ho61; obtain ⟨Ao62, co62, eo62⟩ := Kd.N_slice HO174.out; subst eo62) | ((with_reducible refine gate_callee (f := 16) rfl ?_); refine goesL_ (some 12) rfl rfl Tryd.func16 (by kernel_rfl) rfl #[.slice Ao62 y172.length co62] rfl argA ?_; (with_reducible refine (dir_Put.calls k _ _ y172 t175 t176 _ ?side1 ?side2 ?side3 A1.out).mono ?_); (case side1 => repeat (first | exact (Kd.N_reads' HO174.out).2.2 | (with_reducible refine Kd.C_alloc ?_ _) | (with_reducible refine Kd.C_drewN ?_ _) | (with_reducible refine Kd.C_drew ?_))); (case side2 => exact (Kd.N_reads' HO174.out).2.1); (case side3 => exact TabsW.below HT0.out belA); rintro e w63 ⟨rfl, hb⟩; refine ⟨_, rfl, ?_⟩; have n0_ := Aside0.mk (Kd.N_below (kdN_ HO174.out) hb); have n1_ := Aside0.mk (below_step belA hb); clear HO174; clear HB; have HO174 := n0_; have HB := n1_; clear n0_ n1_; (try clear hb); (try clear hb2); (try clear hk); (try clear hi)) | ((with_reducible refine gate_callee (f := 32) rfl ?_); refine goesL_ (some 17) rfl rfl Tryd.func32 (by kernel_rfl) rfl #[.string t175] rfl argA ?_; (with_reducible refine (seal_Take.calls t175 t177 t178 _ A2.out).mono ?_); rintro e w64 ⟨rfl, hb⟩; refine ⟨_, rfl, ?_⟩; have n0_ := Aside0.mk (Kd.N_below (kdN_ HO174.out) hb); have n1_ := Aside0.mk (below_step belA hb); clear HO174; clear HB; have HO174 := n0_; have HB := n1_; clear n0_ n1_; (try clear hb); (try clear hb2); (try clear hk); (try clear hi)) | ((with_reducible refine gate_callee (f := 12) rfl ?_); refine goesL_ (some 22) rfl rfl Tryd.func12 (by kernel_rfl) rfl #[.string t175] rfl argA ?_; (with_reducible refine (dir_Take.calls k t175 t179 t180 _ ?side1 A3.out).mono ?_); (case side1 => exact TabsW.below HT0.out belA); rintro e w65 ⟨v181, rfl, ho0, hb⟩; refine ⟨_, rfl, ?_⟩; have n0_ := Aside0.mk (Kd.N_elder' (kdN_ HO174.out) (by first | exact Kd.N_base ho0 | exact Kd.N_base (Kd.S_N (Kd.S_bound ho0))) hb); have n1_ := Aside0.mk (Kd.N_lower (Kd.N_mono (ok' := fun k_ => some k_ ≠ (.slice Ao62 y172.length co62 : Value).ownBlock) (Kd.S_N (Kd.S_bound ho0)) (fun k_ hk_ => (Kd.fresh' (Kd.N_lt (kdN_ HO174.out)) k_ hk_.2.1))) (below_size belA)); have n2_ := Aside0.mk (below_step belA hb); clear HO174; clear HB; have HO174 := n0_; have HO182 := n1_; have HB := n2_; clear n0_ n1_ n2_; (try clear hb); (try clear hb2); (try clear hk); (try clear hi); (try clear ho0)))
  go_ret
  exact ⟨by first | rfl | (simp [errW_none, errW_some] <;> rfl) | (simp [*, errW_none, errW_some] <;> rfl), by repeat (first | (with_reducible first | exact HB.out | apply below_alloc | apply pw_below_drewN | apply below_drew1) | exact HB.out)⟩
mutual
def rootcellarlaw7_small.l0 : Nat → List (S43) → Int → Option (Bool)
 | 0, _, _ => none
 | k + 1, x0, x3 => if x3 < (x0.length : Int) then (if 0 ≤ x3 then (if (((rd_T43 x0 x3).f0).size : Int) > 150 then (rootcellarlaw7_small.j1 k x0 x3 true) else (if (((rd_T43 x0 x3).f2).length : Int) > 210 then (rootcellarlaw7_small.j1 k x0 x3 true) else (if (x0.length : Int) > 20 then (rootcellarlaw7_small.j1 k x0 x3 (decide ((((rd_T43 x0 x3).f2).length : Int) > 10))) else (rootcellarlaw7_small.j1 k x0 x3 false)))) else (none)) else (some true)
def rootcellarlaw7_small.j1 : Nat → List (S43) → Int → Bool → Option (Bool)
 | 0, _, _, _ => none
 | k + 1, x0, x3, x42 => if x42 = true then (some false) else (rootcellarlaw7_small.l0 k x0 (wrap64 (x3 + 1)))
end
def rootcellarlaw7_small.f (k : Nat) (l0 : List (S43)) : Option (Bool) := if (l0.length : Int) > 130 then (some false) else (rootcellarlaw7_small.l0 k l0 0)
set_option maxHeartbeats 8000000 in
set_option maxRecDepth 100000 in
theorem rootcellarlaw7_small.calls (k : Nat) (A0 : Option Addr) (c0 : Nat) (l0 : List (S43)) (r : Bool) (w : World) (hr0 : Kd.C k43 w A0 l0.length l0) (hc0 : l0.length ≤ c0) (h : rootcellarlaw7_small.f k l0 = some r) :
  Calls Tryd.prog 15 #[.slice A0 l0.length c0] w fun e w' => e = .returned (.bool r) ∧ Drawn0 w w' := by
 have HR0 := Aside0.mk hr0
 have HC0 := Aside0.mk hc0
 clear hr0 hc0
 have H : (if (l0.length : Int) > 130 then (some false) else (rootcellarlaw7_small.l0 k l0 0)) = some r := h
 clear h
 by_cases c2 : (l0.length : Int) > 130
 ·rw [if_pos c2] at H
  have c2b0 : decide (130 < (l0.length : Int)) = true := decide_eq_true c2
  have c2b1 : decide (130 < l0.length) = true := decide_eq_true (by omega)
  clear c2
  obtain rfl := Option.some.inj H
  go_enter Tryd.func15, Tryd.ntmps15
  go_wp2
  go_ret
  exact ⟨by first | rfl | (simp; done) | (simp [*]; done), by repeat (first | exact Drawn0.refl _ | apply Drawn0.step)⟩
 ·rw [if_neg c2] at H
  have c2b0 : decide (130 < (l0.length : Int)) = false := decide_eq_false c2
  have c2b1 : decide (130 < l0.length) = false := decide_eq_false (by omega)
  clear c2
  have H' := Aside0.mk H
  clear H
  go_enter Tryd.func15, Tryd.ntmps15
  go_wp2
  go_loopg [3] k (fun kq v3 w' => ∃ (x3_1 : Int), v3 = .int .i64 x3_1 ∧ Aside0 (rootcellarlaw7_small.l0 kq l0 x3_1 = some r) ∧ Aside0 (kq ≤ k) ∧ Drawn0 w w')
  case atStart => exact ⟨(0), (by first | rfl | (simp; done) | (simp [*]; done)), H', ⟨Nat.le_refl _⟩, by repeat (first | exact Drawn0.refl _ | apply Drawn0.step)⟩
  case round =>
   clear H'
   try clear c1
   try clear c2
   try clear c2b0
   try clear c2b1
   try clear p2
   obtain ⟨x3_1, rfl, HA, HK1, ⟨m1, rfl⟩⟩ := hrel
   cases gk with
   | zero => exact absurd HA.out (by simp [rootcellarlaw7_small.l0])
   | succ k1 =>
    have H := HA.out
    clear HA
    simp only [rootcellarlaw7_small.l0] at H
    by_cases c3 : x3_1 < (l0.length : Int)
    ·rw [if_pos c3] at H
     have c3b0 : decide (x3_1 < (l0.length : Int)) = true := decide_eq_true c3
     clear c3
     have HC4 := Aside0.mk H
     clear H
     go_upto_region 6 with (fail)
     go_cut [42] (fun v42 wc => ∃ (kq : Nat) (x42_3 : Bool), v42 = .bool x42_3 ∧ Aside0 (rootcellarlaw7_small.j1 kq l0 x3_1 x42_3 = some r) ∧ Aside0 (kq ≤ k1) ∧ Drawn0 w wc)
     case first =>
      have H := HC4.out
      clear HC4
      by_cases c5 : 0 ≤ x3_1
      ·rw [if_pos c5] at H
       have c5b0 : decide (0 ≤ x3_1) = true := decide_eq_true c5
       clear c5
       (first | rw [c5b0] | (simp only [i64_w, i32_w]; rw [c5b0]) | skip)
       by_cases c6 : (((rd_T43 l0 x3_1).f0).size : Int) > 150
       ·rw [if_pos c6] at H
        have c6b0 : decide (150 < (((rd_T43 l0 x3_1).f0).size : Int)) = true := decide_eq_true c6
        have c6b1 : decide (150 < ((rd_T43 l0 x3_1).f0).size) = true := decide_eq_true (by omega)
        clear c6
        have H' := Aside0.mk H
        clear H
        have p184 : 0 ≤ (x3_1 : Int) := of_decide_eq_true asA
        have q184 : x3_1 < (l0.length : Int) := of_decide_eq_true asA
        obtain ⟨ad184, A184_2, c184_2, e184, hx184_0, hx184_1, hx184_2, hl184_2, hi184_2⟩ := at_T43 HR0.out x3_1 p184 q184
        cases e184
        have HR184_2 := Aside0.mk hi184_2
        have HC184_2 := Aside0.mk hl184_2
        clear hi184_2 hl184_2
        replace p184 := eq_true p184
        replace q184 := eq_true q184
        go_wp2
        go_meet
        case rel => exact ⟨_, (true), (by first | rfl | (simp; done) | (simp [*]; done)), H', ⟨by have := HK1.out; first | omega | exact Nat.le_refl _⟩, by repeat (first | exact Drawn0.refl _ | apply Drawn0.step)⟩
       ·rw [if_neg c6] at H
        have c6b0 : decide (150 < (((rd_T43 l0 x3_1).f0).size : Int)) = false := decide_eq_false c6
        have c6b1 : decide (150 < ((rd_T43 l0 x3_1).f0).size) = false := decide_eq_false (by omega)
        clear c6
        by_cases c7 : (((rd_T43 l0 x3_1).f2).length : Int) > 210
        ·rw [if_pos c7] at H
         have c7b0 : decide (210 < (((rd_T43 l0 x3_1).f2).length : Int)) = true := decide_eq_true c7
         have c7b1 : decide (210 < ((rd_T43 l0 x3_1).f2).length) = true := decide_eq_true (by omega)
         clear c7
         have H' := Aside0.mk H
         clear H
         have p184 : 0 ≤ (x3_1 : Int) := of_decide_eq_true asA
         have q184 : x3_1 < (l0.length : Int) := of_decide_eq_true asA
         obtain ⟨ad184, A184_2, c184_2, e184, hx184_0, hx184_1, hx184_2, hl184_2, hi184_2⟩ := at_T43 HR0.out x3_1 p184 q184
         cases e184
         have HR184_2 := Aside0.mk hi184_2
         have HC184_2 := Aside0.mk hl184_2
         clear hi184_2 hl184_2
         replace p184 := eq_true p184
         replace q184 := eq_true q184
         have p185 : 0 ≤ (x3_1 : Int) := of_decide_eq_true asA
         have q185 : x3_1 < (l0.length : Int) := of_decide_eq_true asA
         obtain ⟨ad185, A185_2, c185_2, e185, hx185_0, hx185_1, hx185_2, hl185_2, hi185_2⟩ := at_T43 HR0.out x3_1 p185 q185
         obtain rfl : ad184 = ad185 := (by injection e185)
         have HR185_2 := Aside0.mk hi185_2
         have HC185_2 := Aside0.mk hl185_2
         clear hi185_2 hl185_2
         replace p185 := eq_true p185
         replace q185 := eq_true q185
         have ea_ := Option.some.inj (hx184_2.symm.trans hx185_2)
         injection ea_ with ea_ en_ ec_
         subst ea_
         subst ec_
         clear en_
         go_wp2
         go_meet
         case rel => exact ⟨_, (true), (by first | rfl | (simp; done) | (simp [*]; done)), H', ⟨by have := HK1.out; first | omega | exact Nat.le_refl _⟩, by repeat (first | exact Drawn0.refl _ | apply Drawn0.step)⟩
        ·rw [if_neg c7] at H
         have c7b0 : decide (210 < (((rd_T43 l0 x3_1).f2).length : Int)) = false := decide_eq_false c7
         have c7b1 : decide (210 < ((rd_T43 l0 x3_1).f2).length) = false := decide_eq_false (by omega)
         clear c7
         by_cases c8 : (l0.length : Int) > 20
         ·rw [if_pos c8] at H
          have c8b0 : decide (20 < (l0.length : Int)) = true := decide_eq_true c8
          have c8b1 : decide (20 < l0.length) = true := decide_eq_true (by omega)
          clear c8
          have H' := Aside0.mk H
          clear H
          have p184 : 0 ≤ (x3_1 : Int) := of_decide_eq_true asA
          have q184 : x3_1 < (l0.length : Int) := of_decide_eq_true asA
          obtain ⟨ad184, A184_2, c184_2, e184, hx184_0, hx184_1, hx184_2, hl184_2, hi184_2⟩ := at_T43 HR0.out x3_1 p184 q184
          cases e184
          have HR184_2 := Aside0.mk hi184_2
          have HC184_2 := Aside0.mk hl184_2
          clear hi184_2 hl184_2
          replace p184 := eq_true p184
          replace q184 := eq_true q184
          have p185 : 0 ≤ (x3_1 : Int) := of_decide_eq_true asA
          have q185 : x3_1 < (l0.length : Int) := of_decide_eq_true asA
          obtain ⟨ad185, A185_2, c185_2, e185, hx185_0, hx185_1, hx185_2, hl185_2, hi185_2⟩ := at_T43 HR0.out x3_1 p185 q185
          obtain rfl : ad184 = ad185 := (by injection e185)
          have HR185_2 := Aside0.mk hi185_2
          have HC185_2 := Aside0.mk hl185_2
          clear hi185_2 hl185_2
          replace p185 := eq_true p185
          replace q185 := eq_true q185
          have ea_ := Option.some.inj (hx184_2.symm.trans hx185_2)
          injection ea_ with ea_ en_ ec_
          subst ea_
          subst ec_
          clear en_
          have p186 : 0 ≤ (x3_1 : Int) := of_decide_eq_true asA
          have q186 : x3_1 < (l0.length : Int) := of_decide_eq_true asA
          obtain ⟨ad186, A186_2, c186_2, e186, hx186_0, hx186_1, hx186_2, hl186_2, hi186_2⟩ := at_T43 HR0.out x3_1 p186 q186
          obtain rfl : ad184 = ad186 := (by injection e186)
          have HR186_2 := Aside0.mk hi186_2
          have HC186_2 := Aside0.mk hl186_2
          clear hi186_2 hl186_2
          replace p186 := eq_true p186
          replace q186 := eq_true q186
          have ea_ := Option.some.inj (hx184_2.symm.trans hx186_2)
          injection ea_ with ea_ en_ ec_
          subst ea_
          subst ec_
          clear en_
          go_wp2
          go_meet
          case rel => exact ⟨_, (decide ((((rd_T43 l0 x3_1).f2).length : Int) > 10)), (by first | rfl | (simp; done) | (simp [*]; done)), H', ⟨by have := HK1.out; first | omega | exact Nat.le_refl _⟩, by repeat (first | exact Drawn0.refl _ | apply Drawn0.step)⟩
         ·rw [if_neg c8] at H
          have c8b0 : decide (20 < (l0.length : Int)) = false := decide_eq_false c8
          have c8b1 : decide (20 < l0.length) = false := decide_eq_false (by omega)
          clear c8
          have H' := Aside0.mk H
          clear H
          have p184 : 0 ≤ (x3_1 : Int) := of_decide_eq_true asA
          have q184 : x3_1 < (l0.length : Int) := of_decide_eq_true asA
          obtain ⟨ad184, A184_2, c184_2, e184, hx184_0, hx184_1, hx184_2, hl184_2, hi184_2⟩ := at_T43 HR0.out x3_1 p184 q184
          cases e184
          have HR184_2 := Aside0.mk hi184_2
          have HC184_2 := Aside0.mk hl184_2
          clear hi184_2 hl184_2
          replace p184 := eq_true p184
          replace q184 := eq_true q184
          have p185 : 0 ≤ (x3_1 : Int) := of_decide_eq_true asA
          have q185 : x3_1 < (l0.length : Int) := of_decide_eq_true asA
          obtain ⟨ad185, A185_2, c185_2, e185, hx185_0, hx185_1, hx185_2, hl185_2, hi185_2⟩ := at_T43 HR0.out x3_1 p185 q185
          obtain rfl : ad184 = ad185 := (by injection e185)
          have HR185_2 := Aside0.mk hi185_2
          have HC185_2 := Aside0.mk hl185_2
          clear hi185_2 hl185_2
          replace p185 := eq_true p185
          replace q185 := eq_true q185
          have ea_ := Option.some.inj (hx184_2.symm.trans hx185_2)
          injection ea_ with ea_ en_ ec_
          subst ea_
          subst ec_
          clear en_
          go_wp2
          go_meet
          case rel => exact ⟨_, (false), (by first | rfl | (simp; done) | (simp [*]; done)), H', ⟨by have := HK1.out; first | omega | exact Nat.le_refl _⟩, by repeat (first | exact Drawn0.refl _ | apply Drawn0.step)⟩
      ·rw [if_neg c5] at H
       exact absurd H (by simp)
     case rest =>
      clear HC4
      try clear c1
      try clear p1
      try clear q1
      try clear hx1
      try clear c2
      try clear c2b0
      try clear c2b1
      try clear p2
      try clear c3
      try clear c3b0
      try clear c5
      try clear c5b0
      try clear c6
      try clear c6b0
      try clear c6b1
      try clear c7
      try clear c7b0
      try clear c7b1
      try clear c8
      try clear c8b0
      try clear c8b1
      try clear hx184_0
      try clear hx184_1
      try clear hx184_2
      try clear hx185_0
      try clear hx185_1
      try clear hx185_2
      try clear hx186_0
      try clear hx186_1
      try clear hx186_2
      try clear p184
      try clear p185
      try clear p186
      try clear p2
      try clear q184
      try clear q185
      try clear q186
      obtain ⟨kq, x42_3, rfl, HA, HJ3, ⟨mc3, rfl⟩⟩ := hcut
      cases kq with
      | zero => exact absurd HA.out (by simp [rootcellarlaw7_small.j1])
      | succ kj3 =>
       have H := HA.out
       clear HA
       simp only [rootcellarlaw7_small.j1] at H
       by_cases c9 : x42_3 = true
       ·subst c9
        have H1 : (some false) = some r := by rw [if_pos rfl] at H; exact H
        clear H
        have H := H1
        clear H1
        obtain rfl := Option.some.inj H
        go_wp2
        go_ret
        exact ⟨by first | rfl | (simp; done) | (simp [*]; done), by repeat (first | exact Drawn0.refl _ | apply Drawn0.step)⟩
       ·replace c9 := Bool.eq_false_iff.mpr c9
        subst c9
        have H1 : (rootcellarlaw7_small.l0 kj3 l0 (wrap64 (x3_1 + 1))) = some r := by rw [if_neg (show ¬ (false = true) by decide)] at H; exact H
        clear H
        have H := H1
        clear H1
        have H' := Aside0.mk H
        clear H
        go_wp2
        go_roundg kj3
        case measure => have := HK1.out; have := HJ3.out; omega
        case rel => exact ⟨(wrap64 (x3_1 + 1)), (by first | rfl | (simp; done) | (simp [*]; done)), H', ⟨by have := HK1.out; have := HJ3.out; omega⟩, by repeat (first | exact Drawn0.refl _ | apply Drawn0.step)⟩
    ·rw [if_neg c3] at H
     have c3b0 : decide (x3_1 < (l0.length : Int)) = false := decide_eq_false c3
     clear c3
     obtain rfl := Option.some.inj H
     go_wp2
     go_ret
     exact ⟨by first | rfl | (simp; done) | (simp [*]; done), by repeat (first | exact Drawn0.refl _ | apply Drawn0.step)⟩
def rootcellarlaw7_as.l0 : Nat → List (S43) → List (S45) → Int → Option ((List (S45)))
 | 0, _, _, _ => none
 | k + 1, x0, x3, x4 => if x4 < (x0.length : Int) then (if 0 ≤ x4 then (if x3.length < 2932031007402 then (rootcellarlaw7_as.l0 k x0 (x3 ++ [(⟨(rd_T43 x0 x4).f0, (rd_T43 x0 x4).f1, (rd_T43 x0 x4).f2⟩ : S45)]) (wrap64 (x4 + 1))) else (none)) else (none)) else (some x3)
def rootcellarlaw7_as.f (k : Nat) (l0 : List (S43)) : Option ((List (S45))) := rootcellarlaw7_as.l0 k l0 ([] : List (S45)) 0
def rootcellarlaw7_as.T5 : Bool × List (List Nat × List Nat) := (true, [([], []), ([], []), ([], []), ([1, 2], [1, 2]), ([3], [3]), ([4], [4]), ([], []), ([], []), ([6, 7], [6, 7]), ([8], [8]), ([9], [9]), ([], []), ([], []), ([11, 12], [11, 12]), ([13], [13]), ([14], [14]), ([5, 10, 15], [5, 10, 15]), ([16], [16]), ([0, 17], [0, 17]), ([18, 18, 0, 1, 2, 3, 4, 5, 6, 7, 8, 9, 10, 11, 12, 13, 14, 15, 16, 17, 18], [0, 18])])
def rootcellarlaw7_as.B5 : List Nat := [0, 0, 0, 6, 14, 30, 0, 0, 192, 448, 960, 0, 0, 6144, 14336, 30720, 65534, 131070, 262143, 524287]
theorem rootcellarlaw7_as.tab5 : rtab .any (opsOf Tryd.f17 5) = rootcellarlaw7_as.T5 := by kernel_rfl
theorem rootcellarlaw7_as.bits5 : waitsOk rootcellarlaw7_as.T5.2 rootcellarlaw7_as.B5 = true := by kernel_rfl
set_option maxHeartbeats 8000000 in
set_option maxRecDepth 100000 in
theorem rootcellarlaw7_as.calls (k : Nat) (P0_ : Nat → Prop) (A0 : Option Addr) (c0 : Nat) (l0 : List (S43)) (r : List (S45)) (w : World) (hs0 : Kd.V k43 43 w w.heap.size (fun k_ => P0_ k_) (.slice A0 l0.length c0) l0) (h : rootcellarlaw7_as.f k l0 = some r) :
  Calls Tryd.prog 17 #[.slice A0 l0.length c0] w fun e w' => ∃ v0_ : Value, e = .returned (v0_) ∧ Kd.N k45 45 w' w.heap.size (fun k_ => (P0_ k_ ∨ w.heap.size ≤ k_)) v0_ r ∧ Below w.heap.size w w' := by
 have hu45 := Tryd.underlying45
 have HO0 := Aside0.mk (show Kd.V k43 43 w w.heap.size (fun k_ => (P0_ k_ ∨ w.heap.size ≤ k_)) (.slice A0 l0.length c0) l0 from Kd.V_mono hs0 (fun k_ hk => .inl hk))
 have HB := Aside0.mk (Below.refl w.heap.size w)
 have H : (rootcellarlaw7_as.l0 k l0 ([] : List (S45)) 0) = some r := h
 clear h
 have H' := Aside0.mk H
 clear H
 go_enter Tryd.func17, Tryd.ntmps17
 go_wp2
 go_loopg [3, 4] k (fun kq v3 v4 w' => ∃ (x3_1 : List (S45)) (x4_1 : Int), v4 = .int .i64 x4_1 ∧ Aside0 (rootcellarlaw7_as.l0 kq l0 x3_1 x4_1 = some r) ∧ Aside0 (kq ≤ k) ∧ Aside0 (Kd.V k43 43 w' w.heap.size (fun k_ => (P0_ k_ ∨ w.heap.size ≤ k_) ∧ some k_ ≠ (v3 : Value).ownBlock) (.slice A0 l0.length c0) l0) ∧ Aside0 (Kd.N k45 45 w' w.heap.size (fun k_ => (P0_ k_ ∨ w.heap.size ≤ k_)) v3 x3_1) ∧ Aside0 (Below w.heap.size w w'))
 case atStart => exact ⟨(([] : List (S45))), (0), (by first | rfl | (simp; done) | (simp [*]; done)), H', ⟨Nat.le_refl _⟩, ⟨by (with_reducible repeat (first | apply Kd.V_alloc | apply Kd.V_drewN | apply Kd.V_drew)); exact Kd.V_mono HO0.out (fun _ hk => ⟨hk, (by simp [Value.ownBlock])⟩)⟩, ⟨by first | exact Kd.S_nil _ _ _ _ _ | exact Kd.N_nil _ _ _ _ _ | exact Kd.V_nil _ _ _ _ _ | exact Kd.Q_nil _ _ _ _ _ | exact Kd.R_nil _ _ _ _ _⟩, ⟨by repeat (first | (with_reducible first | exact HB.out | apply below_alloc | apply pw_below_drewN | apply below_drew1) | exact HB.out)⟩⟩
 case round =>
  clear H'
  try clear c1
  obtain ⟨x3_1, x4_1, rfl, HA, HK1, HO_0, HO_3, HB⟩ := hrel
  cases gk with
  | zero => exact absurd HA.out (by simp [rootcellarlaw7_as.l0])
  | succ k1 =>
   have H := HA.out
   clear HA
   simp only [rootcellarlaw7_as.l0] at H
   by_cases c2 : x4_1 < (l0.length : Int)
   ·rw [if_pos c2] at H
    have c2b0 : decide (x4_1 < (l0.length : Int)) = true := decide_eq_true c2
    clear c2
    by_cases c3 : 0 ≤ x4_1
    ·rw [if_pos c3] at H
     have c3b0 : decide (0 ≤ x4_1) = true := decide_eq_true c3
     clear c3
     by_cases c4 : x3_1.length < 2932031007402
     ·rw [if_pos c4] at H
      have LMc4 := Aside0.mk c4
      clear c4
      obtain ⟨y190, hy190⟩ : ∃ y_ : List (S45), y_ = (x3_1 ++ [(⟨(rd_T43 l0 x4_1).f0, (rd_T43 l0 x4_1).f1, (rd_T43 l0 x4_1).f2⟩ : S45)]) := ⟨_, rfl⟩
      replace H : (rootcellarlaw7_as.l0 k1 l0 y190 (wrap64 (x4_1 + 1))) = some r := by first | (rw [hy190]; with_reducible exact H) | (have H2_ := (Option.bind_some _ _).symm.trans H; rw [hy190]; with_reducible exact H2_) | (have H2_ := (Option.bind_some _ _).symm.trans H; with_reducible exact H2_) | with_reducible exact H | (rw [hy190]; exact H) | exact H
      have Ny190 := Aside0.mk hy190
      clear hy190
      have H' := Aside0.mk H
      clear H
      try go_wp2
      have n0_ := Aside0.mk (Kd.V_drew HO_0.out)
      have n1_ := Aside0.mk (Kd.N_drew HO_3.out)
      have n2_ := Aside0.mk (below_drew1 HB.out)
      clear HO_0
      clear HO_3
      clear HB
      have HO_0 := n0_
      have HO_3 := n1_
      have HB := n2_
      clear n0_ n1_ n2_
      have p187 : 0 ≤ (x4_1 : Int) := of_decide_eq_true asA
      have q187 : x4_1 < (l0.length : Int) := of_decide_eq_true asA
      obtain ⟨ad187, A187_2, c187_2, e187, hx187_0, hx187_1, hx187_2, hl187_2, hi187_2⟩ := at_T43 (Kd.V_reads' HO_0.out).2.2 x4_1 p187 q187
      cases e187
      obtain ⟨ce187, hce187, hMe187, hcc187⟩ := Kd.V_get HO_0.out z43 x4_1 p187 (by first | exact q187 | exact of_decide_eq_true asA | (have e_ := (Kd.V_reads' HO_0.out).1; omega))
      obtain ⟨ua187_2, uc187_2, rfl, ul187_2, ge187_2⟩ := k43_openF hMe187
      have hv187_2 := hcc187 2 _ rfl
      rw [add_field _ _ 2 (by omega)] at hv187_2
      replace hv187_2 := Option.some.inj (hv187_2.symm.trans hx187_2)
      injection hv187_2 with hva_ hvn_ hvc_
      rw [hva_] at ge187_2
      rw [hvc_] at ul187_2
      have HL187_2 := Aside0.mk (show Kd.V k64 64 _ w.heap.size _ _ ((rd_T43 l0 x4_1).f2) from Kd.V_mk ul187_2 ge187_2)
      clear hva_ hvn_ hvc_ ge187_2 ul187_2
      clear hcc187 hce187
      have HR187_2 := Aside0.mk hi187_2
      have HC187_2 := Aside0.mk hl187_2
      clear hi187_2 hl187_2
      replace p187 := eq_true p187
      replace q187 := eq_true q187
      have p188 : 0 ≤ (x4_1 : Int) := of_decide_eq_true asA
      have q188 : x4_1 < (l0.length : Int) := of_decide_eq_true asA
      obtain ⟨ad188, A188_2, c188_2, e188, hx188_0, hx188_1, hx188_2, hl188_2, hi188_2⟩ := at_T43 (Kd.V_reads' HO_0.out).2.2 x4_1 p188 q188
      obtain rfl : ad187 = ad188 := (by injection e188)
      obtain ⟨ce188, hce188, hMe188, hcc188⟩ := Kd.V_get HO_0.out z43 x4_1 p188 (by first | exact q188 | exact of_decide_eq_true asA | (have e_ := (Kd.V_reads' HO_0.out).1; omega))
      obtain ⟨ua188_2, uc188_2, rfl, ul188_2, ge188_2⟩ := k43_openF hMe188
      have hv188_2 := hcc188 2 _ rfl
      rw [add_field _ _ 2 (by omega)] at hv188_2
      replace hv188_2 := Option.some.inj (hv188_2.symm.trans hx188_2)
      injection hv188_2 with hva_ hvn_ hvc_
      rw [hva_] at ge188_2
      rw [hvc_] at ul188_2
      have HL188_2 := Aside0.mk (show Kd.V k64 64 _ w.heap.size _ _ ((rd_T43 l0 x4_1).f2) from Kd.V_mk ul188_2 ge188_2)
      clear hva_ hvn_ hvc_ ge188_2 ul188_2
      clear hcc188 hce188
      have HR188_2 := Aside0.mk hi188_2
      have HC188_2 := Aside0.mk hl188_2
      clear hi188_2 hl188_2
      replace p188 := eq_true p188
      replace q188 := eq_true q188
      have ea_ := Option.some.inj (hx187_2.symm.trans hx188_2)
      injection ea_ with ea_ en_ ec_
      subst ea_
      subst ec_
      clear en_
      have p189 : 0 ≤ (x4_1 : Int) := of_decide_eq_true asA
      have q189 : x4_1 < (l0.length : Int) := of_decide_eq_true asA
      obtain ⟨ad189, A189_2, c189_2, e189, hx189_0, hx189_1, hx189_2, hl189_2, hi189_2⟩ := at_T43 (Kd.V_reads' HO_0.out).2.2 x4_1 p189 q189
      obtain rfl : ad187 = ad189 := (by injection e189)
      obtain ⟨ce189, hce189, hMe189, hcc189⟩ := Kd.V_get HO_0.out z43 x4_1 p189 (by first | exact q189 | exact of_decide_eq_true asA | (have e_ := (Kd.V_reads' HO_0.out).1; omega))
      obtain ⟨ua189_2, uc189_2, rfl, ul189_2, ge189_2⟩ := k43_openF hMe189
      have hv189_2 := hcc189 2 _ rfl
      rw [add_field _ _ 2 (by omega)] at hv189_2
      replace hv189_2 := Option.some.inj (hv189_2.symm.trans hx189_2)
      injection hv189_2 with hva_ hvn_ hvc_
      rw [hva_] at ge189_2
      rw [hvc_] at ul189_2
      have HL189_2 := Aside0.mk (show Kd.V k64 64 _ w.heap.size _ _ ((rd_T43 l0 x4_1).f2) from Kd.V_mk ul189_2 ge189_2)
      clear hva_ hvn_ hvc_ ge189_2 ul189_2
      clear hcc189 hce189
      have HR189_2 := Aside0.mk hi189_2
      have HC189_2 := Aside0.mk hl189_2
      clear hi189_2 hl189_2
      replace p189 := eq_true p189
      replace q189 := eq_true q189
      have ea_ := Option.some.inj (hx187_2.symm.trans hx189_2)
      injection ea_ with ea_ en_ ec_
      subst ea_
      subst ec_
      clear en_
      refine start_ (n := 20) (S := fun w' => w'.cell? (ad187.add ((x4_1).toNat * 3)) = some (.string ((rd_T43 l0 x4_1).f0)) ∧ w'.cell? ⟨(ad187.add ((x4_1).toNat * 3)).block, (ad187.add ((x4_1).toNat * 3)).off + 1, none⟩ = some (.int .i64 ((rd_T43 l0 x4_1).f1)) ∧ w'.cell? ⟨(ad187.add ((x4_1).toNat * 3)).block, (ad187.add ((x4_1).toNat * 3)).off + 2, none⟩ = some (.slice A187_2 ((rd_T43 l0 x4_1).f2).length c187_2) ∧ w'.cell? (ad187.add ((x4_1).toNat * 3)) = some (.string ((rd_T43 l0 x4_1).f0)) ∧ w'.cell? ⟨(ad187.add ((x4_1).toNat * 3)).block, (ad187.add ((x4_1).toNat * 3)).off + 1, none⟩ = some (.int .i64 ((rd_T43 l0 x4_1).f1)) ∧ w'.cell? ⟨(ad187.add ((x4_1).toNat * 3)).block, (ad187.add ((x4_1).toNat * 3)).off + 2, none⟩ = some (.slice A187_2 ((rd_T43 l0 x4_1).f2).length c187_2) ∧ w'.cell? (ad187.add ((x4_1).toNat * 3)) = some (.string ((rd_T43 l0 x4_1).f0)) ∧ w'.cell? ⟨(ad187.add ((x4_1).toNat * 3)).block, (ad187.add ((x4_1).toNat * 3)).off + 1, none⟩ = some (.int .i64 ((rd_T43 l0 x4_1).f1)) ∧ w'.cell? ⟨(ad187.add ((x4_1).toNat * 3)).block, (ad187.add ((x4_1).toNat * 3)).off + 2, none⟩ = some (.slice A187_2 ((rd_T43 l0 x4_1).f2).length c187_2)) (ds := [17, 18]) #[Z,Z,Z,Z,Z,Z,Z,Z,Z,Z,Z,Z,Z,Z,Z,Z,Z,Z,Z,Z] (by kernel_rfl) rfl rfl ⟨hx187_0, hx187_1, hx187_2, hx188_0, hx188_1, hx188_2, hx189_0, hx189_1, hx189_2⟩ (fun hHeld => ?_); refine with_tabW rootcellarlaw7_as.tab5 rootcellarlaw7_as.bits5 (fun HT_ HW_ => ?_)
      generalize wr.drew = w5 at HO_0 HO_3 HB HL187_2 HL188_2 HL189_2 HR187_2 HR188_2 HR189_2 hx187_0 hx187_1 hx187_2 hx188_0 hx188_1 hx188_2 hx189_0 hx189_1 hx189_2 hHeld ⊢
      refine pure_ (i := 0) (N := some 11) (v := ?_) (a' := ?_) #[Y,Z,Z,Z,Z,Z,Z,Z,Z,Z,Z,Z,Z,Z,Z,Z,Z,Z,Z,Z] rfl rfl (any_of HT_.out (by kernel_rfl)) (fun _ _ _ h => h) (Or.inl ⟨by rfl, ?_⟩) ?_ ?_
      rotate_left
      ·intro w'
       go_simp
       with_reducible rfl
      rotate_left
      ·simp only [Act.put, List.setIfInBounds_toArray, List.set_cons_zero, List.set_cons_succ, i64_w, i32_w]
       rfl
      refine pure_ (i := 1) (N := some 12) (v := ?_) (a' := ?_) #[Y,Y,Z,Z,Z,Z,Z,Z,Z,Z,Z,Z,Z,Z,Z,Z,Z,Z,Z,Z] rfl rfl (any_of HT_.out (by kernel_rfl)) (fun _ _ _ h => h) (Or.inl ⟨by rfl, ?_⟩) ?_ ?_
      rotate_left
      ·intro w'
       go_simp
       with_reducible rfl
      rotate_left
      ·simp only [Act.put, List.setIfInBounds_toArray, List.set_cons_zero, List.set_cons_succ, i64_w, i32_w]
       rfl
      refine pure_ (i := 2) (N := some 13) (v := ?_) (a' := ?_) #[Y,Y,Y,Z,Z,Z,Z,Z,Z,Z,Z,Z,Z,Z,Z,Z,Z,Z,Z,Z] rfl rfl (any_of HT_.out (by kernel_rfl)) (fun _ _ _ h => h) (Or.inl ⟨by rfl, ?_⟩) ?_ ?_
      rotate_left
      ·intro w'
       go_simp
       with_reducible rfl
      rotate_left
      ·simp only [Act.put, List.setIfInBounds_toArray, List.set_cons_zero, List.set_cons_succ, i64_w, i32_w]
       rfl
      refine pure_ (i := 3) (N := some 14) (v := ?_) (a' := ?_) #[Y,Y,Y,Y,Z,Z,Z,Z,Z,Z,Z,Z,Z,Z,Z,Z,Z,Z,Z,Z] rfl rfl (any_of HT_.out (by kernel_rfl)) (fun _ _ _ h => h) (Or.inl ⟨by rfl, ?_⟩) ?_ ?_
      rotate_left
      ·intro w'
       go_simp
       with_reducible rfl
      rotate_left
      ·simp only [Act.put, List.setIfInBounds_toArray, List.set_cons_zero, List.set_cons_succ, i64_w, i32_w]
       rfl
      refine pure_ (i := 4) (N := some 15) (v := ?_) (a' := ?_) #[Y,Y,Y,Y,Y,Z,Z,Z,Z,Z,Z,Z,Z,Z,Z,Z,Z,Z,Z,Z] rfl rfl (any_of HT_.out (by kernel_rfl)) (fun _ _ _ h => h) (Or.inl ⟨by rfl, ?_⟩) ?_ ?_
      rotate_left
      ·intro w'
       go_simp
       with_reducible rfl
      rotate_left
      ·simp only [Act.put, List.setIfInBounds_toArray, List.set_cons_zero, List.set_cons_succ, i64_w, i32_w]
       rfl
      refine pure_ (i := 6) (N := some 17) (v := ?_) (a' := ?_) #[Y,Y,Y,Y,Y,Z,Y,Z,Z,Z,Z,Z,Z,Z,Z,Z,Z,Z,Z,Z] rfl rfl (any_of HT_.out (by kernel_rfl)) (fun _ _ _ h => h) (Or.inl ⟨by rfl, ?_⟩) ?_ ?_
      rotate_left
      ·intro w'
       go_simp
       with_reducible rfl
      rotate_left
      ·simp only [Act.put, List.setIfInBounds_toArray, List.set_cons_zero, List.set_cons_succ, i64_w, i32_w]
       rfl
      refine pure_ (i := 7) (N := some 18) (v := ?_) (a' := ?_) #[Y,Y,Y,Y,Y,Z,Y,Y,Z,Z,Z,Z,Z,Z,Z,Z,Z,Z,Z,Z] rfl rfl (any_of HT_.out (by kernel_rfl)) (fun _ _ _ h => h) (Or.inl ⟨by rfl, ?_⟩) ?_ ?_
      rotate_left
      ·intro w'
       go_simp
       with_reducible rfl
      rotate_left
      ·simp only [Act.put, List.setIfInBounds_toArray, List.set_cons_zero, List.set_cons_succ, i64_w, i32_w]
       rfl
      refine pure_ (i := 8) (N := some 19) (v := ?_) (a' := ?_) #[Y,Y,Y,Y,Y,Z,Y,Y,Y,Z,Z,Z,Z,Z,Z,Z,Z,Z,Z,Z] rfl rfl (any_of HT_.out (by kernel_rfl)) (fun _ _ _ h => h) (Or.inl ⟨by rfl, ?_⟩) ?_ ?_
      rotate_left
      ·intro w'
       go_simp
       with_reducible rfl
      rotate_left
      ·simp only [Act.put, List.setIfInBounds_toArray, List.set_cons_zero, List.set_cons_succ, i64_w, i32_w]
       rfl
      refine pure_ (i := 9) (N := some 20) (v := ?_) (a' := ?_) #[Y,Y,Y,Y,Y,Z,Y,Y,Y,Y,Z,Z,Z,Z,Z,Z,Z,Z,Z,Z] rfl rfl (any_of HT_.out (by kernel_rfl)) (fun _ _ _ h => h) (Or.inl ⟨by rfl, ?_⟩) ?_ ?_
      rotate_left
      ·intro w'
       go_simp
       with_reducible rfl
      rotate_left
      ·simp only [Act.put, List.setIfInBounds_toArray, List.set_cons_zero, List.set_cons_succ, i64_w, i32_w]
       rfl
      refine pure_ (i := 11) (N := some 22) (v := ?_) (a' := ?_) #[Y,Y,Y,Y,Y,Z,Y,Y,Y,Y,Z,Y,Z,Z,Z,Z,Z,Z,Z,Z] rfl rfl (any_of HT_.out (by kernel_rfl)) (fun _ _ _ h => h) (Or.inl ⟨by rfl, ?_⟩) ?_ ?_
      rotate_left
      ·intro w'
       go_simp
       with_reducible rfl
      rotate_left
      ·simp only [Act.put, List.setIfInBounds_toArray, List.set_cons_zero, List.set_cons_succ, i64_w, i32_w]
       rfl
      refine pure_ (i := 12) (N := some 23) (v := ?_) (a' := ?_) #[Y,Y,Y,Y,Y,Z,Y,Y,Y,Y,Z,Y,Y,Z,Z,Z,Z,Z,Z,Z] rfl rfl (any_of HT_.out (by kernel_rfl)) (fun _ _ _ h => h) (Or.inl ⟨by rfl, ?_⟩) ?_ ?_
      rotate_left
      ·intro w'
       go_simp
       with_reducible rfl
      rotate_left
      ·simp only [Act.put, List.setIfInBounds_toArray, List.set_cons_zero, List.set_cons_succ, i64_w, i32_w]
       rfl
      refine pure_ (i := 13) (N := some 24) (v := ?_) (a' := ?_) #[Y,Y,Y,Y,Y,Z,Y,Y,Y,Y,Z,Y,Y,Y,Z,Z,Z,Z,Z,Z] rfl rfl (any_of HT_.out (by kernel_rfl)) (fun _ _ _ h => h) (Or.inl ⟨by rfl, ?_⟩) ?_ ?_
      rotate_left
      ·intro w'
       go_simp
       with_reducible rfl
      rotate_left
      ·simp only [Act.put, List.setIfInBounds_toArray, List.set_cons_zero, List.set_cons_succ, i64_w, i32_w]
       rfl
      refine pure_ (i := 14) (N := some 25) (v := ?_) (a' := ?_) #[Y,Y,Y,Y,Y,Z,Y,Y,Y,Y,Z,Y,Y,Y,Y,Z,Z,Z,Z,Z] rfl rfl (any_of HT_.out (by kernel_rfl)) (fun _ _ _ h => h) (Or.inl ⟨by rfl, ?_⟩) ?_ ?_
      rotate_left
      ·intro w'
       go_simp
       with_reducible rfl
      rotate_left
      ·simp only [Act.put, List.setIfInBounds_toArray, List.set_cons_zero, List.set_cons_succ, i64_w, i32_w]
       rfl
      refine take_ (i := 5) (N := some 16) (v := ?_) (a' := ?_) #[Y,Y,Y,Y,Y,Y,Y,Y,Y,Y,Z,Y,Y,Y,Y,Z,Z,Z,Z,Z] rfl rfl (take_ofW HT_.out HW_.out (by kernel_rfl)) (fun _ _ _ h => h) (Or.inl ⟨by rfl, ?_⟩) hHeld ?_ ?_
      rotate_left
      ·rintro w' ⟨s0, s1, s2, s3, s4, s5, s6, s7, s8⟩
       go_simp
       with_reducible rfl
      rotate_left
      ·simp only [Act.put, List.setIfInBounds_toArray, List.set_cons_zero, List.set_cons_succ, i64_w, i32_w]
       rfl
      refine take_ (i := 10) (N := some 21) (v := ?_) (a' := ?_) #[Y,Y,Y,Y,Y,Y,Y,Y,Y,Y,Y,Y,Y,Y,Y,Z,Z,Z,Z,Z] rfl rfl (take_ofW HT_.out HW_.out (by kernel_rfl)) (fun _ _ _ h => h) (Or.inl ⟨by rfl, ?_⟩) hHeld ?_ ?_
      rotate_left
      ·rintro w' ⟨s0, s1, s2, s3, s4, s5, s6, s7, s8⟩
       go_simp
       with_reducible rfl
      rotate_left
      ·simp only [Act.put, List.setIfInBounds_toArray, List.set_cons_zero, List.set_cons_succ, i64_w, i32_w]
       rfl
      refine take_ (i := 15) (N := some 26) (v := ?_) (a' := ?_) #[Y,Y,Y,Y,Y,Y,Y,Y,Y,Y,Y,Y,Y,Y,Y,Y,Z,Z,Z,Z] rfl rfl (take_ofW HT_.out HW_.out (by kernel_rfl)) (fun _ _ _ h => h) (Or.inl ⟨by rfl, ?_⟩) hHeld ?_ ?_
      rotate_left
      ·rintro w' ⟨s0, s1, s2, s3, s4, s5, s6, s7, s8⟩
       go_simp
       with_reducible rfl
      rotate_left
      ·simp only [Act.put, List.setIfInBounds_toArray, List.set_cons_zero, List.set_cons_succ, i64_w, i32_w]
       rfl
      refine pure_ (i := 16) (N := some 27) (v := ?_) (a' := ?_) #[Y,Y,Y,Y,Y,Y,Y,Y,Y,Y,Y,Y,Y,Y,Y,Y,Y,Z,Z,Z] rfl rfl (any_of HT_.out (by kernel_rfl)) (fun _ _ _ h => h) (Or.inl ⟨by rfl, ?_⟩) ?_ ?_
      rotate_left
      ·intro w'
       go_simp
       with_reducible rfl
      rotate_left
      ·simp only [Act.put, List.setIfInBounds_toArray, List.set_cons_zero, List.set_cons_succ, i64_w, i32_w]
       rfl
      refine last_ (i := 17) (N := some 28) #[Y,Y,Y,Y,Y,Y,Y,Y,Y,Y,Y,Y,Y,Y,Y,Y,Y,Y,Z,Z] rfl rfl (one_of HT_.out (by kernel_rfl)) (by decide) (fun K hK => ?_)
      refine value_ (w1 := ?_) (v := ?_) (by rfl) rfl ?_ ?_
      rotate_left 2
      ·go_simp
       constructor
       ·rfl
       ·rfl
      refine hK.out _ _ ?_
      clear hK K
      refine norm_ (a' := ?_) ?_ ?_
      rotate_left
      ·show Act.put _ (some 28) _ = _
       simp only [Act.put, List.setIfInBounds_toArray, List.set_cons_zero, List.set_cons_succ, i64_w, i32_w]
       rfl
      refine last_ (i := 18) (N := some 29) #[Y,Y,Y,Y,Y,Y,Y,Y,Y,Y,Y,Y,Y,Y,Y,Y,Y,Y,Y,Z] rfl rfl (one_of HT_.out (by kernel_rfl)) (by decide) (fun K hK => ?_)
      refine Kd.N_append_step k45 (w0 := w) w.heap.size (by rfl) (.tmp 11) (.tmp 28) 28 45 (.agg #[(.string ⟨#[]⟩), (.int .i64 0), (.slice none 0 0)]) 48 rfl Tryd.underlying28 info45 rfl (by decide) (by omega) u3 x3_1 (⟨(rd_T43 l0 x4_1).f0, (rd_T43 l0 x4_1).f1, (rd_T43 l0 x4_1).f2⟩ : S45) [.string ((rd_T43 l0 x4_1).f0), .int .i64 ((rd_T43 l0 x4_1).f1), .slice A187_2 ((rd_T43 l0 x4_1).f2).length c187_2] (fun k_ => (P0_ k_ ∨ w.heap.size ≤ k_)) (fun k_ => ((fun k_ => (P0_ k_ ∨ w.heap.size ≤ k_))) k_ ∧ some k_ ≠ (u3 : Value).ownBlock) rfl rfl ?aP (fun _ hk => hk) ?aF ?aO ?aB ?aS ?aL ?_
      (case aP => exact (k45_mkF _ _ (⟨(rd_T43 l0 x4_1).f0, (rd_T43 l0 x4_1).f1, (rd_T43 l0 x4_1).f2⟩ : S45) (Kd.V_reads' (Kd.V_mono (ok' := (fun k_ => ((fun k_ => (P0_ k_ ∨ w.heap.size ≤ k_))) k_ ∧ some k_ ≠ (u3 : Value).ownBlock)) (HL189_2.out) (fun k_ hk => ⟨hk.1, hk.2⟩))).2.1 (Kd.V_F (Kd.V_mono (ok' := (fun k_ => ((fun k_ => (P0_ k_ ∨ w.heap.size ≤ k_))) k_ ∧ some k_ ≠ (u3 : Value).ownBlock)) (HL189_2.out) (fun k_ hk => ⟨hk.1, hk.2⟩)))))
      (case aB => exact belA)
      (case aF => exact (fun k_ hk => (.inr (Nat.le_trans (below_size belA) hk))))
      (case aO => exact (kdN_ HO_3.out))
      (case aS => exact (below_size belA))
      (case aL => have := LMc4.out; omega)
      intro v191 w6 ho hb hg hat
      rw [← Ny190.out] at ho
      have n0_ := Aside0.mk (Kd.V_afterv (ok := (fun k_ => (P0_ k_ ∨ w.heap.size ≤ k_))) (by (with_reducible repeat (first | apply Kd.V_alloc | apply Kd.V_drewN | apply Kd.V_drew)); exact HO_0.out) hg hat)
      have n1_ := Aside0.mk (Kd.V_afterv (ok := (fun k_ => (P0_ k_ ∨ w.heap.size ≤ k_))) (by (with_reducible repeat (first | apply Kd.V_alloc | apply Kd.V_drewN | apply Kd.V_drew)); exact HL187_2.out) hg hat)
      have n2_ := Aside0.mk (Kd.V_afterv (ok := (fun k_ => (P0_ k_ ∨ w.heap.size ≤ k_))) (by (with_reducible repeat (first | apply Kd.V_alloc | apply Kd.V_drewN | apply Kd.V_drew)); exact HL188_2.out) hg hat)
      have n3_ := Aside0.mk (Kd.V_afterv (ok := (fun k_ => (P0_ k_ ∨ w.heap.size ≤ k_))) (by (with_reducible repeat (first | apply Kd.V_alloc | apply Kd.V_drewN | apply Kd.V_drew)); exact HL189_2.out) hg hat)
      have n4_ := Aside0.mk (hb)
      have n5_ := Aside0.mk (ho)
      clear HO_0
      clear HL187_2
      clear HL188_2
      clear HL189_2
      clear HB
      clear HO_3
      have HO_0 := n0_
      have HL187_2 := n1_
      have HL188_2 := n2_
      have HL189_2 := n3_
      have HB := n4_
      have HO192 := n5_
      clear n0_ n1_ n2_ n3_ n4_ n5_
      clear ho hb hg hat
      refine hK.out _ _ ?_
      clear hK K
      refine norm_ (a' := ?_) ?_ ?_
      rotate_left
      ·show Act.put _ (some 29) _ = _
       simp only [Act.put, List.setIfInBounds_toArray, List.set_cons_zero, List.set_cons_succ, i64_w, i32_w]
       rfl
      refine pure_ (i := 19) (N := some 3) (v := ?_) (a' := ?_) #[Y,Y,Y,Y,Y,Y,Y,Y,Y,Y,Y,Y,Y,Y,Y,Y,Y,Y,Y,Y] rfl rfl (any_of HT_.out (by kernel_rfl)) (fun _ _ _ h => h) (Or.inl ⟨by rfl, ?_⟩) ?_ ?_
      rotate_left
      ·intro w'
       go_simp
       with_reducible rfl
      rotate_left
      ·simp only [Act.put, List.setIfInBounds_toArray, List.set_cons_zero, List.set_cons_succ, i64_w, i32_w]
       rfl
      refine done_ (done_of HT_.out (by kernel_rfl)) ?_
      try go_wp2
      go_roundg k1
      case measure => have := HK1.out; omega
      case rel => exact ⟨(y190), (wrap64 (x4_1 + 1)), (by first | rfl | (simp; done) | (simp [*]; done)), H', ⟨by have := HK1.out; omega⟩, ⟨by (with_reducible repeat (first | apply Kd.V_alloc | apply Kd.V_drewN | apply Kd.V_drew)); exact HO_0.out⟩, ⟨by (with_reducible repeat (first | apply Kd.N_alloc | apply Kd.N_drewN | apply Kd.N_drew)); exact HO192.out⟩, ⟨by repeat (first | (with_reducible first | exact HB.out | apply below_alloc | apply pw_below_drewN | apply below_drew1) | exact HB.out)⟩⟩
     ·rw [if_neg c4] at H
      exact absurd H (by simp)
    ·rw [if_neg c3] at H
     exact absurd H (by simp)
   ·rw [if_neg c2] at H
    have c2b0 : decide (x4_1 < (l0.length : Int)) = false := decide_eq_false c2
    clear c2
    obtain rfl := Option.some.inj H
    go_wp2
    go_ret
    exact ⟨_, by first | rfl | (simp [errW_none, errW_some] <;> rfl) | (simp [*, errW_none, errW_some] <;> rfl), by (with_reducible repeat (first | apply Kd.N_alloc | apply Kd.N_drewN | apply Kd.N_drew)); exact HO_3.out, by repeat (first | (with_reducible first | exact HB.out | apply below_alloc | apply pw_below_drewN | apply below_drew1) | exact HB.out)⟩
end Go.Proofs.YtppbcankhkgpfaaDoor.PDp
