import Derived.Test.YtcclaidbikjhiaaGreatDoorPVox0
import Derived.Test.YtcclaidbikjhiaaGreatDoorPVox9
import Derived.Test.YtcclaidbikjhiaaGreatDoorPVox16
import Derived.Test.YtcclaidbikjhiaaGreatDoorPVox18
import Derived.Test.YtcclaidbikjhiaaGreatDoorPVox33
import Derived.Test.YtcclaidbikjhiaaGreatDoorPVox44
import Derived.Lib.ConvBytes
import Derived.Lib.EndianMore
import Derived.Lib.EndianBits
import Derived.Laws.BitsAllLaws
import Derived.Outline
--compressed
namespace Go.Proofs.YtcclaidbikjhiaaGreatDoor.PVo
open Go.RowKit Go.Proofs.YtcclaidbikjhiaaGreatDoorW.PrintWords Go.Proofs.YtcclaidbikjhiaaGreatDoorW.PrintLast Go.Proofs.YtcclaidbikjhiaaGreatDoorW.PrintMore
attribute [local go_sem] max2_int min2_int max_two min_two max_three min_three max_four min_four   -- for this text's walks alone
attribute [local go_sem high] hw_str_leq hw_str_gtr
set_option linter.unusedVariables false
set_option linter.unusedSimpArgs false
def dir_Right.f (k : Nat) (l0 : List (S85)) (a1 : Int) (l2 : List (S87)) : Option (Bool) := (dir_directory.f k l0).bind fun t297 => (if t297 = true then ((dir_Used.f k l0).bind fun t298 => ((api_Span_86.f (([t298, l2, (([(⟨0, 2⟩ : S87)] : List (S87)))] : List (List (S87))))).bind fun t307 => ((span_Norm.f t307 a1).bind fun bt310 => (some (bt310.2 == 0))))) else (some false))
set_option maxHeartbeats 8000000 in
set_option maxRecDepth 100000 in
theorem dir_Right.calls (k : Nat) (A0 : Option Addr) (c0 : Nat) (l0 : List (S85)) (a1 : Int) (P2_ : Nat → Prop) (A2 : Option Addr) (c2 : Nat) (l2 : List (S87)) (r : Bool) (w : World) (hr0 : Kd.C k85 w A0 l0.length l0) (hc0 : l0.length ≤ c0) (hs2 : Kd.V k87 87 w w.heap.size (fun k_ => P2_ k_) (.slice A2 l2.length c2) l2) (ht : TabsW w) (h : dir_Right.f k l0 a1 l2 = some r) :
  Calls Tryz.prog 37 #[.slice A0 l0.length c0, .int .i64 a1, .slice A2 l2.length c2] w fun e w' => e = .returned (.bool r) ∧ Below w.heap.size w w' := by
 have hu87 := Tryz.underlying87
 have HR0 := zA hr0
 have HC0 := zA hc0
 clear hr0 hc0
 have HO2 := zA (show Kd.V k87 87 w w.heap.size (fun k_ => (P2_ k_ ∨ w.heap.size ≤ k_)) (.slice A2 l2.length c2) l2 from Kd.V_mono hs2 (fun k_ hk => .inl hk))
 have HT0 := zA ht
 clear ht
 have HB := zA (Below.refl w.heap.size w)
 have H : ((dir_directory.f k l0).bind fun t297 => (if t297 = true then ((dir_Used.f k l0).bind fun t298 => ((api_Span_86.f (([t298, l2, (([(⟨0, 2⟩ : S87)] : List (S87)))] : List (List (S87))))).bind fun t307 => ((span_Norm.f t307 a1).bind fun bt310 => (some (bt310.2 == 0))))) else (some false))) = some r := h
 clear h
 replace H := Option.bind_eq_some_iff.mp H
 obtain ⟨t297, A40, H⟩ := H
 replace H : (if t297 = true then ((dir_Used.f k l0).bind fun t298 => ((api_Span_86.f (([t298, l2, (([(⟨0, 2⟩ : S87)] : List (S87)))] : List (List (S87))))).bind fun t307 => ((span_Norm.f t307 a1).bind fun bt310 => (some (bt310.2 == 0))))) else (some false)) = some r := H
 have A4 := zA A40
 clear A40
 by_cases c5 : t297 = true
 ·subst c5
  have H1 : ((dir_Used.f k l0).bind fun t298 => ((api_Span_86.f (([t298, l2, (([(⟨0, 2⟩ : S87)] : List (S87)))] : List (List (S87))))).bind fun t307 => ((span_Norm.f t307 a1).bind fun bt310 => (some (bt310.2 == 0))))) = some r := by rw [if_pos rfl] at H; exact H
  clear H
  have H := H1
  clear H1
  replace H := Option.bind_eq_some_iff.mp H
  obtain ⟨t298, A60, H⟩ := H
  replace H : ((api_Span_86.f (([t298, l2, (([(⟨0, 2⟩ : S87)] : List (S87)))] : List (List (S87))))).bind fun t307 => ((span_Norm.f t307 a1).bind fun bt310 => (some (bt310.2 == 0)))) = some r := H
  have A6 := zA A60
  clear A60
  obtain ⟨y301, hy301⟩ : ∃ y_ : List (S87), y_ = (([(⟨0, 2⟩ : S87)] : List (S87))) := ⟨_, rfl⟩
  replace H : ((api_Span_86.f (([t298, l2, y301] : List (List (S87))))).bind fun t307 => ((span_Norm.f t307 a1).bind fun bt310 => (some (bt310.2 == 0)))) = some r := by first | (rw [hy301]; with_reducible exact H) | (have H2_ := (Option.bind_some _ _).symm.trans H; rw [hy301]; with_reducible exact H2_) | (have H2_ := (Option.bind_some _ _).symm.trans H; with_reducible exact H2_) | with_reducible exact H | (rw [hy301]; exact H) | exact H
  have Ny301 := zA hy301
  clear hy301
  obtain ⟨y304, hy304⟩ : ∃ y_ : List (List (S87)), y_ = (([t298, l2, y301] : List (List (S87)))) := ⟨_, rfl⟩
  replace H : ((api_Span_86.f y304).bind fun t307 => ((span_Norm.f t307 a1).bind fun bt310 => (some (bt310.2 == 0)))) = some r := by first | (rw [hy304]; with_reducible exact H) | (have H2_ := (Option.bind_some _ _).symm.trans H; rw [hy304]; with_reducible exact H2_) | (have H2_ := (Option.bind_some _ _).symm.trans H; with_reducible exact H2_) | with_reducible exact H | (rw [hy304]; exact H) | exact H
  have Ny304 := zA hy304
  clear hy304
  replace H := Option.bind_eq_some_iff.mp H
  obtain ⟨t307, A70, H⟩ := H
  replace H : ((span_Norm.f t307 a1).bind fun bt310 => (some (bt310.2 == 0))) = some r := H
  have A7 := zA A70
  clear A70
  replace H := Option.bind_eq_some_iff.mp H
  obtain ⟨⟨t310, t311⟩, A80, H⟩ := H
  replace H : (some (t311 == 0)) = some r := H
  have A8 := zA A80
  clear A80
  obtain rfl := Option.some.inj H
  go_enter Tryz.func37, Tryz.ntmps37
  go_wp2_with (first | ((with_reducible refine gate_callee (f := 79) rfl ?_); refine goesL_ (some 10) rfl rfl Tryz.func79 (by kernel_rfl) rfl #[.slice A0 l0.length c0] rfl argA ?_; (with_reducible refine (dir_directory.calls k _ _ l0 true _ ?side1 ?side2 ?side3 A4.out).mono ?_); (case side1 => repeat (first | exact HR0.out | (with_reducible refine Kd.C_alloc ?_ _) | (with_reducible refine Kd.C_drewN ?_ _) | (with_reducible refine Kd.C_drew ?_))); (case side2 => exact HC0.out); (case side3 => exact TabsW.below HT0.out belA); rintro e w9 ⟨rfl, hb⟩; refine ⟨_, rfl, ?_⟩; have n0_ := zA (Kd.V_below (by (with_reducible repeat (first | apply Kd.V_alloc | apply Kd.V_drewN | apply Kd.V_drew)); exact HO2.out) hb); have n1_ := zA (zL belA hb); clear HO2; clear HB; have HO2 := n0_; have HB := n1_; clear n0_ n1_; (try clear hb); (try clear hb2); (try clear hk); (try clear hi)) | ((with_reducible refine gate_callee (f := 87) rfl ?_); refine goesL_ (some 14) rfl rfl Tryz.func87 (by kernel_rfl) rfl #[.slice A0 l0.length c0] rfl argA ?_; (with_reducible refine (dir_Used.calls k _ _ l0 t298 _ ?side1 ?side2 A6.out).mono ?_); (case side1 => repeat (first | exact (Kd.C_below HR0.out HB.out) | (with_reducible refine Kd.C_alloc ?_ _) | (with_reducible refine Kd.C_drewN ?_ _) | (with_reducible refine Kd.C_drew ?_))); (case side2 => exact HC0.out); rintro e w10 ⟨v299, rfl, ho0, hb⟩; refine ⟨_, rfl, ?_⟩; have n0_ := zA (Kd.V_elder' (by (with_reducible repeat (first | apply Kd.V_alloc | apply Kd.V_drewN | apply Kd.V_drew)); exact HO2.out) (by first | exact Kd.R_base ho0 | exact Kd.N_base (Kd.S_N (Kd.S_bound ho0))) hb); have n1_ := zA (Kd.R_lower (Kd.R_newM (M := fun k_ => (w.heap.size ≤ k_)) ho0 (below_size belA) (fun k_ h_ => h_)) (below_size belA)); have n2_ := zA (zL belA hb); clear HO2; clear HB; have HO2 := n0_; have HO300 := n1_; have HB := n2_; clear n0_ n1_ n2_; (try clear hb); (try clear hb2); (try clear hk); (try clear hi); (try clear ho0)) | ((with_reducible refine gate_dst (N := 17) rfl ?_); refine Kd.R_lit k87 _ 87 ?hg (N := 17) ?hd (xs := ([(⟨0, 2⟩ : S87)] : List (S87))) (inner := [.int .i64 0, .int .i64 2]) (ok := fun _ => True) (okp := fun _ => True) ?hr ?hp (fun _ hk => hk) trivial (Below.refl _ _) (Nat.le_refl _) (by simp) ?_; (case hd => rfl); (case hg => rfl); (case hr => first | (go_simp; done) | (go_simp; rfl)); (case hp => exact (Reps.c2 (show Kd.M k87 _ _ _ (⟨0, 2⟩ : S87) [.int .i64 0, .int .i64 2] from (k87_mkM _ _ _ (⟨0, 2⟩ : S87) )) (Reps.none _ _))); intro v302 w11 ho12 hb hg_ hnew_; clear hg_ hnew_; (first | rw [← Ny301.out] at ho12 | (simp only [Int.reduceToNat] at ho12; rw [← Ny301.out] at ho12)); have n0_ := zA (Kd.V_elder' (by (with_reducible repeat (first | apply Kd.V_alloc | apply Kd.V_drewN | apply Kd.V_drew)); exact HO2.out) (by first | exact Kd.R_base ho12 | exact Kd.N_base (Kd.S_N (Kd.S_bound ho12))) hb); have n1_ := zA (Kd.R_elder' (kdR_ HO300.out) (by first | exact Kd.R_base ho12 | exact Kd.N_base (Kd.S_N (Kd.S_bound ho12))) hb); have n2_ := zA (Kd.R_lower (Kd.R_new' (Kd.R_newM (M := fun k_ => (w.heap.size ≤ k_)) ho12 (below_size belA) (fun k_ h_ => h_)) (Kd.R_lt (kdR_ HO300.out))) (below_size belA)); have n3_ := zA (zL belA hb); clear HO2; clear HO300; clear HB; have HO2 := n0_; have HO300 := n1_; have HO303 := n2_; have HB := n3_; clear n0_ n1_ n2_ n3_; clear hb ho12; obtain ⟨Ao13, co13, eo13⟩ := Kd.R_slice HO300.out; subst eo13; obtain ⟨Ao14, co14, eo14⟩ := Kd.R_slice HO303.out; subst eo14) | ((with_reducible refine gate_dst (N := 18) rfl ?_); refine Kd.N_lit (Kd.slice 87 k87) _ 44 ?hg (N' := 18) ?hd (xs := ([t298, l2, y301] : List (List (S87)))) (inner := [.slice Ao13 t298.length co13, .slice A2 l2.length c2, .slice Ao14 y301.length co14]) (ok := (fun k_ => (P2_ k_ ∨ w.heap.size ≤ k_))) (okp := (fun k_ => (P2_ k_ ∨ w.heap.size ≤ k_))) ?hr ?hp (fun _ hk => hk) ((show ∀ k_, w11.heap.size ≤ k_ → (fun k_ => (P2_ k_ ∨ w.heap.size ≤ k_)) k_ from fun k_ hk => (.inr (Nat.le_trans (below_size belA) hk))) _ (Nat.le_refl _)) (Below.refl _ _) (Nat.le_refl _) (by simp) ?_; (case hd => rfl); (case hg => rfl); (case hr => first | (go_simp; done) | (go_simp; rfl)); (case hp => exact (Reps.one (show Kd.FK (Kd.slice 87 k87) _ _ t298 [.slice Ao13 t298.length co13] from (Kd.FK_slice_mk (Kd.R_reads' (Kd.R_mono (ok' := (fun k_ => (P2_ k_ ∨ w.heap.size ≤ k_))) (HO300.out) (fun k_ hk => (.inr (hk.1.1))))).2.1 (Kd.R_F (Kd.R_mono (ok' := (fun k_ => (P2_ k_ ∨ w.heap.size ≤ k_))) (HO300.out) (fun k_ hk => (.inr (hk.1.1))))))) (Reps.one (show Kd.FK (Kd.slice 87 k87) _ _ l2 [.slice A2 l2.length c2] from (Kd.FK_slice_mk (Kd.V_reads' (Kd.V_mono (ok' := (fun k_ => (P2_ k_ ∨ w.heap.size ≤ k_))) (HO2.out) (fun k_ hk => hk.1.1))).2.1 (Kd.V_F (Kd.V_mono (ok' := (fun k_ => (P2_ k_ ∨ w.heap.size ≤ k_))) (HO2.out) (fun k_ hk => hk.1.1))))) (Reps.one (show Kd.FK (Kd.slice 87 k87) _ _ y301 [.slice Ao14 y301.length co14] from (Kd.FK_slice_mk (Kd.R_reads' (Kd.R_mono (ok' := (fun k_ => (P2_ k_ ∨ w.heap.size ≤ k_))) (HO303.out) (fun k_ hk => (.inr (hk.1.1))))).2.1 (Kd.R_F (Kd.R_mono (ok' := (fun k_ => (P2_ k_ ∨ w.heap.size ≤ k_))) (HO303.out) (fun k_ hk => (.inr (hk.1.1))))))) (Reps.none _ _))))); intro v305 w15 ho16 hb hg_ hnew_; clear hg_ hnew_; (first | rw [← Ny304.out] at ho16 | (simp only [Int.reduceToNat] at ho16; rw [← Ny304.out] at ho16)); have n0_ := zA (Kd.V_elder' (by (with_reducible repeat (first | apply Kd.V_alloc | apply Kd.V_drewN | apply Kd.V_drew)); exact HO2.out) (by first | exact Kd.N_base ho16 | exact Kd.N_base (Kd.S_N (Kd.S_bound ho16))) hb); have n1_ := zA (Kd.N_lower ho16 (below_size belA)); have n2_ := zA (zL belA hb); clear HO2; clear HB; clear HO300; clear HO303; have HO2 := n0_; have HO306 := n1_; have HB := n2_; clear n0_ n1_ n2_; clear hb ho16; obtain ⟨Ao17, co17, eo17⟩ := Kd.N_slice HO306.out; subst eo17) | ((with_reducible refine gate_callee (f := 86) rfl ?_); refine goesL_ (some 19) rfl rfl Tryz.func86 (by kernel_rfl) rfl #[.slice Ao17 y304.length co17] rfl argA ?_; (with_reducible refine (api_Span_86.calls _ _ y304 t307 _ ?side1 ?side2 A7.out).mono ?_); (case side1 => repeat (first | exact (Kd.N_reads' HO306.out).2.2 | (with_reducible refine Kd.C_alloc ?_ _) | (with_reducible refine Kd.C_drewN ?_ _) | (with_reducible refine Kd.C_drew ?_))); (case side2 => exact (Kd.N_reads' HO306.out).2.1); rintro e w18 ⟨v308, rfl, ho0, hb⟩; refine ⟨_, rfl, ?_⟩; have n0_ := zA (Kd.V_elder' (by (with_reducible repeat (first | apply Kd.V_alloc | apply Kd.V_drewN | apply Kd.V_drew)); exact HO2.out) (by first | exact Kd.R_base ho0 | exact Kd.N_base (Kd.S_N (Kd.S_bound ho0))) hb); have n1_ := zA (Kd.N_elder' (kdN_ HO306.out) (by first | exact Kd.R_base ho0 | exact Kd.N_base (Kd.S_N (Kd.S_bound ho0))) hb); have n2_ := zA (Kd.R_lower (Kd.R_newM (M := fun k_ => (w.heap.size ≤ k_)) ho0 (below_size belA) (fun k_ h_ => h_)) (below_size belA)); have n3_ := zA (zL belA hb); clear HO2; clear HO306; clear HB; have HO2 := n0_; have HO306 := n1_; have HO309 := n2_; have HB := n3_; clear n0_ n1_ n2_ n3_; (try clear hb); (try clear hb2); (try clear hk); (try clear hi); (try clear ho0); obtain ⟨Ao19, co19, eo19⟩ := Kd.R_slice HO309.out; subst eo19) | ((with_reducible refine gate_callee (f := 85) rfl ?_); refine goesL_ (some 21) rfl rfl Tryz.func85 (by kernel_rfl) rfl #[.slice Ao19 t307.length co19, .int .i64 a1] rfl argA ?_; (with_reducible refine (span_Norm.calls _ _ t307 a1 t310 t311 _ ?side1 ?side2 A8.out).mono ?_); (case side1 => repeat (first | exact (Kd.R_reads' HO309.out).2.2 | (with_reducible refine Kd.C_alloc ?_ _) | (with_reducible refine Kd.C_drewN ?_ _) | (with_reducible refine Kd.C_drew ?_))); (case side2 => exact (Kd.R_reads' HO309.out).2.1); rintro e w20 ⟨v312, rfl, ho0, hb⟩; refine ⟨_, rfl, ?_⟩; have n0_ := zA (Kd.V_elder' (by (with_reducible repeat (first | apply Kd.V_alloc | apply Kd.V_drewN | apply Kd.V_drew)); exact HO2.out) (by first | exact Kd.R_base ho0 | exact Kd.N_base (Kd.S_N (Kd.S_bound ho0))) hb); have n1_ := zA (Kd.N_elder' (kdN_ HO306.out) (by first | exact Kd.R_base ho0 | exact Kd.N_base (Kd.S_N (Kd.S_bound ho0))) hb); have n2_ := zA (Kd.R_elder' (kdR_ HO309.out) (by first | exact Kd.R_base ho0 | exact Kd.N_base (Kd.S_N (Kd.S_bound ho0))) hb); have n3_ := zA (Kd.R_lower (Kd.R_new' (Kd.R_newM (M := fun k_ => (w.heap.size ≤ k_)) ho0 (below_size belA) (fun k_ h_ => h_)) (Kd.R_lt (kdR_ HO309.out))) (below_size belA)); have n4_ := zA (zL belA hb); clear HO2; clear HO306; clear HO309; clear HB; have HO2 := n0_; have HO306 := n1_; have HO309 := n2_; have HO313 := n3_; have HB := n4_; clear n0_ n1_ n2_ n3_ n4_; (try clear hb); (try clear hb2); (try clear hk); (try clear hi); (try clear ho0)))
  go_ret
  exact ⟨rfA, rW0⟩
 ·replace c5 := Bool.eq_false_iff.mpr c5
  subst c5
  have H1 : (some false) = some r := by rw [if_neg (show ¬ (false = true) by decide)] at H; exact H
  clear H
  have H := H1
  clear H1
  obtain rfl := Option.some.inj H
  go_enter Tryz.func37, Tryz.ntmps37
  go_wp2_with (first | ((with_reducible refine gate_callee (f := 79) rfl ?_); refine goesL_ (some 10) rfl rfl Tryz.func79 (by kernel_rfl) rfl #[.slice A0 l0.length c0] rfl argA ?_; (with_reducible refine (dir_directory.calls k _ _ l0 false _ ?side1 ?side2 ?side3 A4.out).mono ?_); (case side1 => repeat (first | exact HR0.out | (with_reducible refine Kd.C_alloc ?_ _) | (with_reducible refine Kd.C_drewN ?_ _) | (with_reducible refine Kd.C_drew ?_))); (case side2 => exact HC0.out); (case side3 => exact TabsW.below HT0.out belA); rintro e w21 ⟨rfl, hb⟩; refine ⟨_, rfl, ?_⟩; have n0_ := zA (Kd.V_below (by (with_reducible repeat (first | apply Kd.V_alloc | apply Kd.V_drewN | apply Kd.V_drew)); exact HO2.out) hb); have n1_ := zA (zL belA hb); clear HO2; clear HB; have HO2 := n0_; have HB := n1_; clear n0_ n1_; (try clear hb); (try clear hb2); (try clear hk); (try clear hi)))
  go_ret
  exact ⟨rfA, rW0⟩
-- NOT PRINTED: function 54 (vol_read)
def le_Get.f (a0 : ByteArray) : Option Int := if a0.size ≤ 9223372036854775807 then some (Go.Lib.leNat (a0.data.toList.take 8) : Int) else none
theorem le_Get.leNat_snoc (l : List UInt8) (i : Nat) (h : i < l.length) (hi : i < 8) : bits .or .u64 (Go.Lib.leNat (l.take i) : Int) (IntKind.u64.wrap ((l[i].toNat : Int) * 2 ^ (8 * i))) = (Go.Lib.leNat (l.take (i + 1)) : Int) ∧ Go.Lib.leNat (l.take i) < 256 ^ i := by
 have hb : ∀ l : List UInt8, Go.Lib.leNat l < 256 ^ l.length := by
  intro l
  induction l with
  | nil => simp [Go.Lib.leNat]
  | cons x t ih =>
   have := x.toNat_lt
   simp only [Go.Lib.leNat, List.length_cons, Nat.pow_succ]
   omega
 have h1 := hb (l.take i)
 rw [List.length_take, Nat.min_eq_left (by omega)] at h1
 refine ⟨?_, h1⟩
 have e : l.take (i + 1) = l.take i ++ [l[i]] := by rw [List.take_succ_eq_append_getElem h]
 have e2 : Go.Lib.leNat (l.take (i + 1)) = Go.Lib.leNat (l.take i) + 256 ^ i * l[i].toNat := by
  rw [e, Go.Lib.leNat_append, List.length_take, Nat.min_eq_left (by omega)]
  simp only [Go.Lib.leNat, Nat.mul_zero, Nat.add_zero]
 rw [e2]
 generalize Go.Lib.leNat (l.take i) = n at h1
 have hc := (l[i]).toNat_lt
 generalize (l[i]).toNat = c at hc
 have hp : ((c : Int) * 2 ^ (8 * i)) = ((c * 256 ^ i : Nat) : Int) := by
  rw [show (2 : Int) ^ (8 * i) = ((2 ^ (8 * i) : Nat) : Int) by rw [Int.natCast_pow]; rfl, Nat.pow_mul]
  rw [Int.natCast_mul, Int.natCast_pow, Int.natCast_pow]
 have hle : 256 ^ i ≤ 256 ^ 7 := Nat.pow_le_pow_right (by decide) (by omega)
 have hlt : c * 256 ^ i < 18446744073709551616 := by
  have : c * 256 ^ i ≤ 255 * 256 ^ i := Nat.mul_le_mul_right _ (by omega)
  have h72 : 256 ^ 7 = 72057594037927936 := by decide
  omega
 rw [hp, IntKind.wrap_u64, Int.emod_eq_of_lt (by omega) (by omega), u64_or_nat _ _ (by omega) hlt]
 congr 1
 rw [Nat.or_comm, show n + 256 ^ i * c = c * 256 ^ i + n by rw [Nat.mul_comm]; omega, show (256 : Nat) ^ i = 2 ^ (8 * i) by rw [Nat.pow_mul]]
 exact nat_join (8 * i) _ _ (Nat.mul_mod_left _ _) (by rw [Nat.pow_mul]; exact h1)
set_option maxHeartbeats 1000000 in
set_option maxRecDepth 100000 in
theorem le_Get.calls (a0 : ByteArray) (r : Int) (w : World) (h : le_Get.f a0 = some r) :
  Calls Tryz.prog 168 #[.string a0] w fun e w' => e = .returned (.int .u64 r) ∧ Below w.heap.size w w' := by
 unfold le_Get.f at h
 by_cases hs : a0.size ≤ 9223372036854775807
 ·rw [if_pos hs] at h
  obtain rfl := Option.some.inj h
  clear h
  generalize hR0 : ((Go.Lib.leNat (a0.data.toList.take 8) : Nat) : Int) = res
  have hcv : ∀ (s : ByteArray) (W : World), (convert 9 141 (.string s)).run Tryz.prog W = .ok (.slice (some ⟨W.heap.size, 0, none⟩) s.size (grownCap W s.size 0 5)) (Lib.bytesWorld W 5 s) := fun s W => Lib.run_convert_string_bytes W 9 141 5 s Tryz.underlying9 Tryz.underlying141 Tryz.underlying5
  by_cases h8 : a0.size ≤ 8
  ·have h8z : (a0.size : Int) ≤ 8 := by omega
   have hmz : mn (a0.size : Int) 8 = (a0.size : Int) := by unfold mn; rw [if_neg (by omega)]
   have HWB := zA (bytes_below (Below.refl w.heap.size w) (Nat.le_refl _) 5 a0)
   have HCELL := zA (show ∀ j, j < a0.size → (Lib.bytesWorld w 5 a0).cell? ⟨w.heap.size, j, none⟩ = some (.int .u8 (a0.data.toList.getD j 0).toNat) from fun j hj => Lib.bytesWorld_cell w 5 a0 j hj)
   have HLEN := zA (show a0.size = a0.data.toList.length by rw [Array.length_toList]; rfl)
   have HSZ := zA h8
   have HRES0 := zA (show res = ((Go.Lib.leNat a0.data.toList : Nat) : Int) by rw [← hR0, List.take_of_length_le (by rw [← HLEN.out]; exact h8)])
   clear hR0
   go_enter Tryz.func168, Tryz.ntmps168
   go_wp2
   have hwb := HWB.out
   have hcell := HCELL.out
   have hlen := HLEN.out
   have hsz := HSZ.out
   have hres := HRES0.out
   clear HWB HCELL HLEN HSZ HRES0
   generalize hW1 : Lib.bytesWorld w 5 a0 = W1 at hwb hcell ⊢
   clear hW1
   generalize a0.data.toList = ls at hcell hlen hres
   have HRES := zA hres
   clear hres
   go_loopg [3, 13] ls.length (fun gg s3 s13 wr => ∃ k : Nat, k ≤ ls.length ∧ ls.length - k ≤ gg ∧ s3 = .int .u64 (Go.Lib.leNat (ls.take k) : Int) ∧ s13 = .int .i64 k ∧ wr = W1)
   case atStart => exact ⟨0, Nat.zero_le _, by omega, rfl, rfl, rfl⟩
   case round =>
    obtain ⟨k, hk, hg, rfl, rfl, rfl⟩ := hrel
    by_cases hlt : k < ls.length
    ·have hltz : decide ((k : Int) < (a0.size : Int)) = true := by rw [hlen]; simpa using hlt
     have hkz : (0 : Int) ≤ (k : Int) := by omega
     have hkl : (k : Int) < (a0.size : Int) := by rw [hlen]; omega
     have hc := hcell k (by rw [hlen]; exact hlt)
     rw [List.getD_eq_getElem?_getD, List.getElem?_eq_getElem hlt] at hc
     simp only [Option.getD_some] at hc
     have hs8 : wrap64 (8 * (k : Int)) = ((8 * k : Nat) : Int) := by unfold wrap64; push_cast; omega
     have hor := (le_Get.leNat_snoc ls k hlt (by omega)).1
     have hu8 : IntKind.u64.wrap ((ls[k].toNat : Nat) : Int) = ((ls[k].toNat : Nat) : Int) := by rw [IntKind.wrap_u64]; have := ls[k].toNat_lt; omega
     have HOR := zA hor
     have HU8 := zA hu8
     clear hor hu8
     go_wp2
     go_roundg (ls.length - (k + 1))
     case measure => omega
     case rel => exact ⟨k + 1, by omega, by omega, by rw [HU8.out, HOR.out], by go_num, rfl⟩
    ·have hltz : decide ((k : Int) < (a0.size : Int)) = false := by rw [hlen]; simpa using hlt
     have hkk : k = ls.length := by omega
     subst hkk
     rw [List.take_length]
     go_wp2
     go_ret
     exact ⟨by rw [HRES.out]; rfl, hwb⟩
  ·have h8z : (8 : Int) ≤ (a0.size : Int) := by omega
   have hmz : mn (a0.size : Int) 8 = 8 := by unfold mn; split <;> omega
   have hmin : min 8 a0.size = 8 := by omega
   have hx : (a0.extract 0 8).data.toList = a0.data.toList.take 8 := by simp [ByteArray.data_extract]
   have HWB := zA (bytes_below (Below.refl w.heap.size w) (Nat.le_refl _) 5 (a0.extract 0 8))
   have HCELL := zA (show ∀ j, j < (a0.extract 0 8).size → (Lib.bytesWorld w 5 (a0.extract 0 8)).cell? ⟨w.heap.size, j, none⟩ = some (.int .u8 ((a0.extract 0 8).data.toList.getD j 0).toNat) from fun j hj => Lib.bytesWorld_cell w 5 (a0.extract 0 8) j hj)
   have HLEN := zA (show (a0.extract 0 8).size = (a0.extract 0 8).data.toList.length by rw [Array.length_toList]; rfl)
   have HSZ := zA (show (a0.extract 0 8).size ≤ 8 by rw [HLEN.out, hx, List.length_take]; omega)
   have HRES0 := zA (show res = ((Go.Lib.leNat (a0.extract 0 8).data.toList : Nat) : Int) by rw [← hR0, hx])
   clear hR0 hx
   go_enter Tryz.func168, Tryz.ntmps168
   go_wp2
   have hwb := HWB.out
   have hcell := HCELL.out
   have hlen := HLEN.out
   have hsz := HSZ.out
   have hres := HRES0.out
   clear HWB HCELL HLEN HSZ HRES0
   generalize hW1 : Lib.bytesWorld w 5 (a0.extract 0 8) = W1 at hwb hcell ⊢
   clear hW1
   generalize (a0.extract 0 8).data.toList = ls at hcell hlen hres
   have HRES := zA hres
   clear hres
   go_loopg [3, 13] ls.length (fun gg s3 s13 wr => ∃ k : Nat, k ≤ ls.length ∧ ls.length - k ≤ gg ∧ s3 = .int .u64 (Go.Lib.leNat (ls.take k) : Int) ∧ s13 = .int .i64 k ∧ wr = W1)
   case atStart => exact ⟨0, Nat.zero_le _, by omega, rfl, rfl, rfl⟩
   case round =>
    obtain ⟨k, hk, hg, rfl, rfl, rfl⟩ := hrel
    by_cases hlt : k < ls.length
    ·have hltz : decide ((k : Int) < 8) = true := zH (by have := hlen ▸ hsz; omega)
     have hkz : (0 : Int) ≤ (k : Int) := by omega
     have hkl : (k : Int) < 8 := by have := hlen ▸ hsz; omega
     have hc := hcell k (by rw [hlen]; exact hlt)
     rw [List.getD_eq_getElem?_getD, List.getElem?_eq_getElem hlt] at hc
     simp only [Option.getD_some] at hc
     have hs8 : wrap64 (8 * (k : Int)) = ((8 * k : Nat) : Int) := by unfold wrap64; push_cast; omega
     have hor := (le_Get.leNat_snoc ls k hlt (by omega)).1
     have hu8 : IntKind.u64.wrap ((ls[k].toNat : Nat) : Int) = ((ls[k].toNat : Nat) : Int) := by rw [IntKind.wrap_u64]; have := ls[k].toNat_lt; omega
     have HOR := zA hor
     have HU8 := zA hu8
     clear hor hu8
     go_wp2
     go_roundg (ls.length - (k + 1))
     case measure => omega
     case rel => exact ⟨k + 1, by omega, by omega, by rw [HU8.out, HOR.out], by go_num, rfl⟩
    ·have hltz : decide ((k : Int) < 8) = false := zI (by have e8 : ls.length = 8 := by { rw [← hlen]; simp [ByteArray.size_extract]; omega }; omega)
     have hkk : k = ls.length := by omega
     subst hkk
     rw [List.take_length]
     go_wp2
     go_ret
     exact ⟨by rw [HRES.out]; rfl, hwb⟩
 ·rw [if_neg hs] at h
  cases h
def seal_Take.f (a0 : ByteArray) : Option (ByteArray × Int) := if (wrap64 ((a0.size : Int) - 4)) < 0 then (some ((⟨#[]⟩ : ByteArray), 10)) else (if 0 ≤ (wrap64 ((a0.size : Int) - 4)) then (if (wrap64 ((a0.size : Int) - 4)) ≤ (a0.size : Int) then ((le_Get.f (a0.extract ((wrap64 ((a0.size : Int) - 4)) : Int).toNat a0.size)).bind fun t318 => ((seal_Sum.f (a0.extract 0 ((wrap64 ((a0.size : Int) - 4)) : Int).toNat)).bind fun t319 => (if t318 = (IntKind.u64.wrap (t319)) then (some (a0.extract 0 ((wrap64 ((a0.size : Int) - 4)) : Int).toNat, 0)) else (some ((⟨#[]⟩ : ByteArray), 9))))) else (none)) else (none))
def seal_Take.T4 : Bool × List (List Nat × List Nat) := (true, [([], []), ([], []), ([0, 1], [0, 1]), ([2], [2]), ([], []), ([], []), ([4, 5], [4, 5]), ([6, 3], [6]), ([7], [7]), ([3, 8], [3, 8]), ([9, 7], [9])])
def seal_Take.B4 : List Nat := [0, 0, 3, 7, 0, 0, 48, 127, 255, 511, 1023]
theorem seal_Take.tab4 : rtab .any (opsOf Tryz.f120 4) = seal_Take.T4 := by kernel_rfl
theorem seal_Take.bits4 : waitsOk seal_Take.T4.2 seal_Take.B4 = true := by kernel_rfl
set_option maxHeartbeats 8000000 in
set_option maxRecDepth 100000 in
theorem seal_Take.calls (a0 : ByteArray) (r1 : ByteArray) (r2 : Int) (w : World) (h : seal_Take.f a0 = some (r1, r2)) :
  Calls Tryz.prog 120 #[.string a0] w fun e w' => e = .returned (.tuple #[.string r1, .int .i64 r2]) ∧ Below w.heap.size w w' := by
 have HB := zA (Below.refl w.heap.size w)
 have H : (if (wrap64 ((a0.size : Int) - 4)) < 0 then (some ((⟨#[]⟩ : ByteArray), 10)) else (if 0 ≤ (wrap64 ((a0.size : Int) - 4)) then (if (wrap64 ((a0.size : Int) - 4)) ≤ (a0.size : Int) then ((le_Get.f (a0.extract ((wrap64 ((a0.size : Int) - 4)) : Int).toNat a0.size)).bind fun t318 => ((seal_Sum.f (a0.extract 0 ((wrap64 ((a0.size : Int) - 4)) : Int).toNat)).bind fun t319 => (if t318 = (IntKind.u64.wrap (t319)) then (some (a0.extract 0 ((wrap64 ((a0.size : Int) - 4)) : Int).toNat, 0)) else (some ((⟨#[]⟩ : ByteArray), 9))))) else (none)) else (none))) = some (r1, r2) := h
 clear h
 by_cases c2 : (wrap64 ((a0.size : Int) - 4)) < 0
 ·rw [if_pos c2] at H
  have c2b0 : decide ((wrap64 ((a0.size : Int) - 4)) < 0) = true := zH c2
  clear c2
  simp only [Option.some.injEq, Prod.mk.injEq] at H
  obtain ⟨rfl, rfl⟩ := H
  go_enter Tryz.func120, Tryz.ntmps120
  go_wp2
  go_ret2
  exact ⟨rfA, rW0⟩
 ·rw [if_neg c2] at H
  have c2b0 : decide ((wrap64 ((a0.size : Int) - 4)) < 0) = false := zI c2
  clear c2
  obtain ⟨ji3, hji3⟩ : ∃ j_ : Int, (wrap64 ((a0.size : Int) - 4)) = j_ := ⟨_, rfl⟩
  replace H : (if 0 ≤ (ji3) then (if (ji3) ≤ (a0.size : Int) then ((le_Get.f (a0.extract ((ji3) : Int).toNat a0.size)).bind fun t318 => ((seal_Sum.f (a0.extract 0 ((ji3) : Int).toNat)).bind fun t319 => (if t318 = (IntKind.u64.wrap (t319)) then (some (a0.extract 0 ((ji3) : Int).toNat, 0)) else (some ((⟨#[]⟩ : ByteArray), 9))))) else (none)) else (none)) = some (r1, r2) := by first | (rw [hji3] at H; exact H) | (simp only [hji3] at H ⊢; exact H)
  (try rw [hji3] at c2b0)
  have hji3w : (IntKind.i64.wrap ((a0.size : Int) - 4)) = ji3 := (i64_w _).trans hji3
  by_cases c4 : 0 ≤ (ji3)
  ·rw [if_pos c4] at H
   have c4b0 := eq_true c4
   have c4b1 : decide (0 ≤ (ji3)) = true := zH c4
   clear c4
   by_cases c5 : (ji3) ≤ (a0.size : Int)
   ·rw [if_pos c5] at H
    have c5b0 := eq_true c5
    have c5b1 : decide ((ji3) ≤ (a0.size : Int)) = true := zH c5
    clear c5
    replace H := Option.bind_eq_some_iff.mp H
    obtain ⟨t318, A60, H⟩ := H
    replace H : ((seal_Sum.f (a0.extract 0 ((ji3) : Int).toNat)).bind fun t319 => (if t318 = (IntKind.u64.wrap (t319)) then (some (a0.extract 0 ((ji3) : Int).toNat, 0)) else (some ((⟨#[]⟩ : ByteArray), 9)))) = some (r1, r2) := H
    have A6 := zA A60
    clear A60
    have c7b0 := eq_true (zG asA : 0 ≤ (ji3))
    have c8b0 := eq_true (zG asA : (ji3) ≤ (a0.size : Int))
    replace H := Option.bind_eq_some_iff.mp H
    obtain ⟨t319, A90, H⟩ := H
    replace H : (if t318 = (IntKind.u64.wrap (t319)) then (some (a0.extract 0 ((ji3) : Int).toNat, 0)) else (some ((⟨#[]⟩ : ByteArray), 9))) = some (r1, r2) := H
    have A9 := zA A90
    clear A90
    by_cases c10 : t318 = (IntKind.u64.wrap (t319))
    ·rw [if_pos c10] at H
     have c10b0 : (t318 == (IntKind.u64.wrap (t319))) = true := beq_iff_eq.mpr c10
     have c10b1 : (t318 != (IntKind.u64.wrap (t319))) = false := bne_eq_false_iff_eq.mpr c10
     clear c10
     have c11b0 := eq_true (zG asA : 0 ≤ (ji3))
     have c12b0 := eq_true (zG asA : (ji3) ≤ (a0.size : Int))
     simp only [Option.some.injEq, Prod.mk.injEq] at H
     obtain ⟨rfl, rfl⟩ := H
     go_enter Tryz.func120, Tryz.ntmps120
     try go_wp2
     have n0_ := zA (zK HB.out)
     clear HB
     have HB := n0_
     clear n0_
     refine start_ (n := 11) (S := fun w' => True) (ds := []) #[Z,Z,Z,Z,Z,Z,Z,Z,Z,Z,Z] (by kernel_rfl) rfl rfl trivial (fun hHeld => ?_); refine with_tabW seal_Take.tab4 seal_Take.bits4 (fun HT_ HW_ => ?_)
     generalize w.drew = w13 at HB hHeld ⊢
     refine pure_ (i := 0) (N := some 12) (v := ?_) (a' := ?_) #[Y,Z,Z,Z,Z,Z,Z,Z,Z,Z,Z] rfl rfl (any_of HT_.out (by kernel_rfl)) (fun _ _ _ h => h) (Or.inl ⟨by rfl, ?_⟩) ?_ ?_
     rotate_left
     ·intro w'
      go_simp
      with_reducible rfl
     rotate_left
     ·simp only [Act.put, zC, zD, zE, i64_w, i32_w]
      rfl
     refine pure_ (i := 1) (N := some 13) (v := ?_) (a' := ?_) #[Y,Y,Z,Z,Z,Z,Z,Z,Z,Z,Z] rfl rfl (any_of HT_.out (by kernel_rfl)) (fun _ _ _ h => h) (Or.inl ⟨by rfl, ?_⟩) ?_ ?_
     rotate_left
     ·intro w'
      go_simp
      with_reducible rfl
     rotate_left
     ·simp only [Act.put, zC, zD, zE, i64_w, i32_w]
      rfl
     refine pure_ (i := 2) (N := some 14) (v := ?_) (a' := ?_) #[Y,Y,Y,Z,Z,Z,Z,Z,Z,Z,Z] rfl rfl (any_of HT_.out (by kernel_rfl)) (fun _ _ _ h => h) (Or.inl ⟨by rfl, ?_⟩) ?_ ?_
     rotate_left
     ·intro w'
      go_simp
      with_reducible rfl
     rotate_left
     ·simp only [Act.put, zC, zD, zE, i64_w, i32_w]
      rfl
     refine pure_ (i := 4) (N := some 16) (v := ?_) (a' := ?_) #[Y,Y,Y,Z,Y,Z,Z,Z,Z,Z,Z] rfl rfl (any_of HT_.out (by kernel_rfl)) (fun _ _ _ h => h) (Or.inl ⟨by rfl, ?_⟩) ?_ ?_
     rotate_left
     ·intro w'
      go_simp
      with_reducible rfl
     rotate_left
     ·simp only [Act.put, zC, zD, zE, i64_w, i32_w]
      rfl
     refine pure_ (i := 5) (N := some 17) (v := ?_) (a' := ?_) #[Y,Y,Y,Z,Y,Y,Z,Z,Z,Z,Z] rfl rfl (any_of HT_.out (by kernel_rfl)) (fun _ _ _ h => h) (Or.inl ⟨by rfl, ?_⟩) ?_ ?_
     rotate_left
     ·intro w'
      go_simp
      with_reducible rfl
     rotate_left
     ·simp only [Act.put, zC, zD, zE, i64_w, i32_w]
      rfl
     refine pure_ (i := 6) (N := some 18) (v := ?_) (a' := ?_) #[Y,Y,Y,Z,Y,Y,Y,Z,Z,Z,Z] rfl rfl (any_of HT_.out (by kernel_rfl)) (fun _ _ _ h => h) (Or.inl ⟨by rfl, ?_⟩) ?_ ?_
     rotate_left
     ·intro w'
      go_simp
      with_reducible rfl
     rotate_left
     ·simp only [Act.put, zC, zD, zE, i64_w, i32_w]
      rfl
     refine one_ (i := 3) (N := some 15) #[Y,Y,Y,Y,Y,Y,Y,Z,Z,Z,Z] rfl rfl (one_of HT_.out (by kernel_rfl)) (by decide) (fun K hK => ?_)
     refine goes_ Tryz.func168 (by kernel_rfl) rfl #[.string (a0.extract ((ji3) : Int).toNat a0.size)] (by rfl) rfl rfl (by (try simp only [List.map_toArray, List.map_cons, List.map_nil]); first | done | (simp only [hji3]; rfl) | rfl | (simp only [List.length_drop, List.length_take]; rfl)) ?_
     with_reducible refine (le_Get.calls (a0.extract ((ji3) : Int).toNat a0.size) t318 _ A6.out).mono ?_
     rintro e w14 ⟨rfl, hb⟩
     refine ⟨_, rfl, ?_⟩
     have n0_ := zA (zL belA hb)
     clear HB
     have HB := n0_
     clear n0_
     (try clear hb)
     (try clear hb2)
     (try clear hk)
     (try clear hi)
     refine hK.out _ _ trivial (fun hHeld => ?_)
     clear hK K
     refine norm_ (a' := ?_) ?_ ?_
     rotate_left
     ·show Act.put _ (some 15) _ = _
      simp only [Act.put, zC, zD, zE, i64_w, i32_w]
      rfl
     refine one_ (i := 7) (N := some 19) #[Y,Y,Y,Y,Y,Y,Y,Y,Z,Z,Z] rfl rfl (one_of HT_.out (by kernel_rfl)) (by decide) (fun K hK => ?_)
     refine goes_ Tryz.func136 (by kernel_rfl) rfl #[.string (a0.extract 0 ((ji3) : Int).toNat)] (by rfl) rfl rfl (by (try simp only [List.map_toArray, List.map_cons, List.map_nil]); first | done | (simp only [hji3]; rfl) | rfl | (simp only [List.length_drop, List.length_take]; rfl)) ?_
     with_reducible refine (seal_Sum.calls (a0.extract 0 ((ji3) : Int).toNat) t319 _ A9.out).mono ?_
     rintro e w15 ⟨rfl, hb⟩
     refine ⟨_, rfl, ?_⟩
     have n0_ := zA (zL belA hb)
     clear HB
     have HB := n0_
     clear n0_
     (try clear hb)
     (try clear hb2)
     (try clear hk)
     (try clear hi)
     refine hK.out _ _ trivial (fun hHeld => ?_)
     clear hK K
     refine norm_ (a' := ?_) ?_ ?_
     rotate_left
     ·show Act.put _ (some 19) _ = _
      simp only [Act.put, zC, zD, zE, i64_w, i32_w]
      rfl
     refine pure_ (i := 8) (N := some 20) (v := ?_) (a' := ?_) #[Y,Y,Y,Y,Y,Y,Y,Y,Y,Z,Z] rfl rfl (any_of HT_.out (by kernel_rfl)) (fun _ _ _ h => h) (Or.inl ⟨by rfl, ?_⟩) ?_ ?_
     rotate_left
     ·intro w'
      go_simp
      with_reducible rfl
     rotate_left
     ·simp only [Act.put, zC, zD, zE, i64_w, i32_w]
      rfl
     refine pure_ (i := 9) (N := some 21) (v := ?_) (a' := ?_) #[Y,Y,Y,Y,Y,Y,Y,Y,Y,Y,Z] rfl rfl (any_of HT_.out (by kernel_rfl)) (fun _ _ _ h => h) (Or.inl ⟨by rfl, ?_⟩) ?_ ?_
     rotate_left
     ·intro w'
      go_simp
      with_reducible rfl
     rotate_left
     ·simp only [Act.put, zC, zD, zE, i64_w, i32_w]
      rfl
     refine pure_ (i := 10) (N := some 11) (v := ?_) (a' := ?_) #[Y,Y,Y,Y,Y,Y,Y,Y,Y,Y,Y] rfl rfl (any_of HT_.out (by kernel_rfl)) (fun _ _ _ h => h) (Or.inl ⟨by rfl, ?_⟩) ?_ ?_
     rotate_left
     ·intro w'
      go_simp
      with_reducible rfl
     rotate_left
     ·simp only [Act.put, zC, zD, zE, i64_w, i32_w]
      rfl
     refine done_ (done_of HT_.out (by kernel_rfl)) ?_
     try go_wp2
     go_ret2
     exact ⟨by first | rfl | (simp [errW_none, errW_some] <;> rfl) | (simp only [← hji3]; first | rfl | (simp [errW_none, errW_some] <;> rfl)) | (simp [*, errW_none, errW_some] <;> rfl), rW0⟩
    ·rw [if_neg c10] at H
     have c10b0 : (t318 == (IntKind.u64.wrap (t319))) = false := beq_eq_false_iff_ne.mpr c10
     have c10b1 : (t318 != (IntKind.u64.wrap (t319))) = true := bne_iff_ne.mpr c10
     simp only [Option.some.injEq, Prod.mk.injEq] at H
     obtain ⟨rfl, rfl⟩ := H
     go_enter Tryz.func120, Tryz.ntmps120
     try go_wp2
     have n0_ := zA (zK HB.out)
     clear HB
     have HB := n0_
     clear n0_
     refine start_ (n := 11) (S := fun w' => True) (ds := []) #[Z,Z,Z,Z,Z,Z,Z,Z,Z,Z,Z] (by kernel_rfl) rfl rfl trivial (fun hHeld => ?_); refine with_tabW seal_Take.tab4 seal_Take.bits4 (fun HT_ HW_ => ?_)
     generalize w.drew = w16 at HB hHeld ⊢
     refine pure_ (i := 0) (N := some 12) (v := ?_) (a' := ?_) #[Y,Z,Z,Z,Z,Z,Z,Z,Z,Z,Z] rfl rfl (any_of HT_.out (by kernel_rfl)) (fun _ _ _ h => h) (Or.inl ⟨by rfl, ?_⟩) ?_ ?_
     rotate_left
     ·intro w'
      go_simp
      with_reducible rfl
     rotate_left
     ·simp only [Act.put, zC, zD, zE, i64_w, i32_w]
      rfl
     refine pure_ (i := 1) (N := some 13) (v := ?_) (a' := ?_) #[Y,Y,Z,Z,Z,Z,Z,Z,Z,Z,Z] rfl rfl (any_of HT_.out (by kernel_rfl)) (fun _ _ _ h => h) (Or.inl ⟨by rfl, ?_⟩) ?_ ?_
     rotate_left
     ·intro w'
      go_simp
      with_reducible rfl
     rotate_left
     ·simp only [Act.put, zC, zD, zE, i64_w, i32_w]
      rfl
     refine pure_ (i := 2) (N := some 14) (v := ?_) (a' := ?_) #[Y,Y,Y,Z,Z,Z,Z,Z,Z,Z,Z] rfl rfl (any_of HT_.out (by kernel_rfl)) (fun _ _ _ h => h) (Or.inl ⟨by rfl, ?_⟩) ?_ ?_
     rotate_left
     ·intro w'
      go_simp
      with_reducible rfl
     rotate_left
     ·simp only [Act.put, zC, zD, zE, i64_w, i32_w]
      rfl
     refine pure_ (i := 4) (N := some 16) (v := ?_) (a' := ?_) #[Y,Y,Y,Z,Y,Z,Z,Z,Z,Z,Z] rfl rfl (any_of HT_.out (by kernel_rfl)) (fun _ _ _ h => h) (Or.inl ⟨by rfl, ?_⟩) ?_ ?_
     rotate_left
     ·intro w'
      go_simp
      with_reducible rfl
     rotate_left
     ·simp only [Act.put, zC, zD, zE, i64_w, i32_w]
      rfl
     refine pure_ (i := 5) (N := some 17) (v := ?_) (a' := ?_) #[Y,Y,Y,Z,Y,Y,Z,Z,Z,Z,Z] rfl rfl (any_of HT_.out (by kernel_rfl)) (fun _ _ _ h => h) (Or.inl ⟨by rfl, ?_⟩) ?_ ?_
     rotate_left
     ·intro w'
      go_simp
      with_reducible rfl
     rotate_left
     ·simp only [Act.put, zC, zD, zE, i64_w, i32_w]
      rfl
     refine pure_ (i := 6) (N := some 18) (v := ?_) (a' := ?_) #[Y,Y,Y,Z,Y,Y,Y,Z,Z,Z,Z] rfl rfl (any_of HT_.out (by kernel_rfl)) (fun _ _ _ h => h) (Or.inl ⟨by rfl, ?_⟩) ?_ ?_
     rotate_left
     ·intro w'
      go_simp
      with_reducible rfl
     rotate_left
     ·simp only [Act.put, zC, zD, zE, i64_w, i32_w]
      rfl
     refine one_ (i := 3) (N := some 15) #[Y,Y,Y,Y,Y,Y,Y,Z,Z,Z,Z] rfl rfl (one_of HT_.out (by kernel_rfl)) (by decide) (fun K hK => ?_)
     refine goes_ Tryz.func168 (by kernel_rfl) rfl #[.string (a0.extract ((ji3) : Int).toNat a0.size)] (by rfl) rfl rfl (by (try simp only [List.map_toArray, List.map_cons, List.map_nil]); first | done | (simp only [hji3]; rfl) | rfl | (simp only [List.length_drop, List.length_take]; rfl)) ?_
     with_reducible refine (le_Get.calls (a0.extract ((ji3) : Int).toNat a0.size) t318 _ A6.out).mono ?_
     rintro e w17 ⟨rfl, hb⟩
     refine ⟨_, rfl, ?_⟩
     have n0_ := zA (zL belA hb)
     clear HB
     have HB := n0_
     clear n0_
     (try clear hb)
     (try clear hb2)
     (try clear hk)
     (try clear hi)
     refine hK.out _ _ trivial (fun hHeld => ?_)
     clear hK K
     refine norm_ (a' := ?_) ?_ ?_
     rotate_left
     ·show Act.put _ (some 15) _ = _
      simp only [Act.put, zC, zD, zE, i64_w, i32_w]
      rfl
     refine one_ (i := 7) (N := some 19) #[Y,Y,Y,Y,Y,Y,Y,Y,Z,Z,Z] rfl rfl (one_of HT_.out (by kernel_rfl)) (by decide) (fun K hK => ?_)
     refine goes_ Tryz.func136 (by kernel_rfl) rfl #[.string (a0.extract 0 ((ji3) : Int).toNat)] (by rfl) rfl rfl (by (try simp only [List.map_toArray, List.map_cons, List.map_nil]); first | done | (simp only [hji3]; rfl) | rfl | (simp only [List.length_drop, List.length_take]; rfl)) ?_
     with_reducible refine (seal_Sum.calls (a0.extract 0 ((ji3) : Int).toNat) t319 _ A9.out).mono ?_
     rintro e w18 ⟨rfl, hb⟩
     refine ⟨_, rfl, ?_⟩
     have n0_ := zA (zL belA hb)
     clear HB
     have HB := n0_
     clear n0_
     (try clear hb)
     (try clear hb2)
     (try clear hk)
     (try clear hi)
     refine hK.out _ _ trivial (fun hHeld => ?_)
     clear hK K
     refine norm_ (a' := ?_) ?_ ?_
     rotate_left
     ·show Act.put _ (some 19) _ = _
      simp only [Act.put, zC, zD, zE, i64_w, i32_w]
      rfl
     refine pure_ (i := 8) (N := some 20) (v := ?_) (a' := ?_) #[Y,Y,Y,Y,Y,Y,Y,Y,Y,Z,Z] rfl rfl (any_of HT_.out (by kernel_rfl)) (fun _ _ _ h => h) (Or.inl ⟨by rfl, ?_⟩) ?_ ?_
     rotate_left
     ·intro w'
      go_simp
      with_reducible rfl
     rotate_left
     ·simp only [Act.put, zC, zD, zE, i64_w, i32_w]
      rfl
     refine pure_ (i := 9) (N := some 21) (v := ?_) (a' := ?_) #[Y,Y,Y,Y,Y,Y,Y,Y,Y,Y,Z] rfl rfl (any_of HT_.out (by kernel_rfl)) (fun _ _ _ h => h) (Or.inl ⟨by rfl, ?_⟩) ?_ ?_
     rotate_left
     ·intro w'
      go_simp
      with_reducible rfl
     rotate_left
     ·simp only [Act.put, zC, zD, zE, i64_w, i32_w]
      rfl
     refine pure_ (i := 10) (N := some 11) (v := ?_) (a' := ?_) #[Y,Y,Y,Y,Y,Y,Y,Y,Y,Y,Y] rfl rfl (any_of HT_.out (by kernel_rfl)) (fun _ _ _ h => h) (Or.inl ⟨by rfl, ?_⟩) ?_ ?_
     rotate_left
     ·intro w'
      go_simp
      with_reducible rfl
     rotate_left
     ·simp only [Act.put, zC, zD, zE, i64_w, i32_w]
      rfl
     refine done_ (done_of HT_.out (by kernel_rfl)) ?_
     try go_wp2
     go_ret2
     exact ⟨by first | rfl | (simp [errW_none, errW_some] <;> rfl) | (simp only [← hji3]; first | rfl | (simp [errW_none, errW_some] <;> rfl)) | (simp [*, errW_none, errW_some] <;> rfl), rW0⟩
   ·rw [if_neg c5] at H
    exact absurd H (by simp)
  ·rw [if_neg c4] at H
   exact absurd H (by simp)
def IsS179 (w0 W : World) (g : Nat) (f0 : ByteArray) (f1 : Bool) : Prop := W.heap[g]? = some (.cells #[.string f0, .bool f1] 179 (0, 0)) ∧ w0.heap.size ≤ g
theorem IsS179.grown {w0 W : World} {g : Nat} {f0 : ByteArray} {f1 : Bool} {W1 : World} {row : Option Nat} (h : IsS179 w0 W g f0 f1) (hw : W.grownBy W1 row) (hne : some g ≠ row) : IsS179 w0 W1 g f0 f1 := by
 obtain ⟨hb, hg⟩ := h
 exact ⟨blk_grown hb hw hne, hg⟩
theorem IsS179.kept {w0 W : World} {g : Nat} {f0 : ByteArray} {f1 : Bool} {W1 : World} {S : Nat → Prop} (h : IsS179 w0 W g f0 f1) (hk : Kept W W1 S) (hne : ¬ S g) : IsS179 w0 W1 g f0 f1 := by
 obtain ⟨hb, hg⟩ := h
 exact ⟨blk_kept hb hk hne, hg⟩
theorem IsS179.below {w0 W : World} {g : Nat} {f0 : ByteArray} {f1 : Bool} {W1 : World} (h : IsS179 w0 W g f0 f1) (hw : Below W.heap.size W W1) : IsS179 w0 W1 g f0 f1 := h.grown (grown_of_below hw none) (by simp)
theorem IsS179.alloc {w0 W : World} {g : Nat} {f0 : ByteArray} {f1 : Bool} (h : IsS179 w0 W g f0 f1) (o : Obj) : IsS179 w0 (W.alloc o) g f0 f1 := h.below (zJ (Below.refl _ _) o)
theorem IsS179.drewN {w0 W : World} {g : Nat} {f0 : ByteArray} {f1 : Bool} (h : IsS179 w0 W g f0 f1) (m : Nat) : IsS179 w0 (W.drewN m) g f0 f1 := h
theorem IsS179.drew {w0 W : World} {g : Nat} {f0 : ByteArray} {f1 : Bool} (h : IsS179 w0 W g f0 f1) : IsS179 w0 W.drew g f0 f1 := h
theorem IsS179.at_ {w0 W : World} {g : Nat} {f0 : ByteArray} {f1 : Bool} {w' : World} {m : Nat} (hq : W.drewN m = w') (h : IsS179 w0 W g f0 f1) : IsS179 w0 w' g f0 f1 := by subst hq; exact IsS179.drewN h m
theorem IsS179.apart {w0 W : World} {g : Nat} {f0 : ByteArray} {f1 : Bool} {α : Type} {d : Kd α} {e : Nat} {base : Nat} {ok : Nat → Prop} {v : Value} {xs : List α} (h : IsS179 w0 W g f0 f1) (ho : d.R e W base ok v xs) (ht : ∀ q, q ∈ e :: d.E → q ≠ 179) : d.R e W base (fun k => ok k ∧ k ≠ g) v xs := by
 obtain ⟨hb, hg⟩ := h
 exact Kd.R_types ho hb ht
theorem IsS179.own_ne {w0 W : World} {g : Nat} {f0 : ByteArray} {f1 : Bool} {α : Type} {d : Kd α} {e : Nat} {base : Nat} {ok : Nat → Prop} {v : Value} {xs : List α} (h : IsS179 w0 W g f0 f1) (ho : d.R e W base ok v xs) (ht : e ≠ 179) : some g ≠ v.ownBlock := by
 obtain ⟨hb, hg⟩ := h
 exact Kd.R_ne ho hb ht
theorem IsS179.apartS {w0 W : World} {g : Nat} {f0 : ByteArray} {f1 : Bool} {α : Type} {d : Kd α} {e : Nat} {base : Nat} {ok : Nat → Prop} {v : Value} {xs : List α} (h : IsS179 w0 W g f0 f1) (ho : d.S e W base ok v xs) (ht : ∀ q, q ∈ e :: d.E → q ≠ 179) : d.S e W base (fun k => ok k ∧ k ≠ g) v xs := by
 obtain ⟨hb, hg⟩ := h
 exact Kd.S_types ho hb ht
theorem IsS179.own_neS {w0 W : World} {g : Nat} {f0 : ByteArray} {f1 : Bool} {α : Type} {d : Kd α} {e : Nat} {base : Nat} {ok : Nat → Prop} {v : Value} {xs : List α} (h : IsS179 w0 W g f0 f1) (ho : d.S e W base ok v xs) (ht : e ≠ 179) : some g ≠ v.ownBlock := by
 obtain ⟨hb, hg⟩ := h
 exact Kd.S_ne ho hb ht
theorem IsS179.lt {w0 W : World} {g : Nat} {f0 : ByteArray} {f1 : Bool} (h : IsS179 w0 W g f0 f1) : g < W.heap.size := by
 obtain ⟨hb, hg⟩ := h
 exact blk_lt hb
theorem IsS179.ge {w0 W : World} {g : Nat} {f0 : ByteArray} {f1 : Bool} (h : IsS179 w0 W g f0 f1) : w0.heap.size ≤ g := by
 obtain ⟨hb, hg⟩ := h
 exact hg
theorem IsS179.far {w0 W : World} {g : Nat} {f0 : ByteArray} {f1 : Bool} {p : Addr} (h : IsS179 w0 W g f0 f1) (hne : g ≠ p.block) (u : Value) : IsS179 w0 (W.setCell p u) g f0 f1 := by
 obtain ⟨hb, hg⟩ := h
 exact ⟨blk_far hb hne u, hg⟩
theorem cellS179_0 {W : World} {g : Nat} {f0 : ByteArray} {f1 : Bool} (h : W.heap[g]? = some (.cells #[.string f0, .bool f1] 179 (0, 0))) : W.cell? ⟨g, 0, none⟩ = some (.string f0) := (zN h 0).trans rfl
theorem IsS179.set_0 {w0 W : World} {g : Nat} {f0 : ByteArray} {f1 : Bool} (h : IsS179 w0 W g f0 f1) (x : ByteArray) : IsS179 w0 (W.setCell ⟨g, 0, none⟩ (.string x)) g x f1 := by
 obtain ⟨hb, hg⟩ := h
 exact ⟨by simpa using blk_set hb 0 (.string x), hg⟩
theorem cellS179_1 {W : World} {g : Nat} {f0 : ByteArray} {f1 : Bool} (h : W.heap[g]? = some (.cells #[.string f0, .bool f1] 179 (0, 0))) : W.cell? ⟨g, 1, none⟩ = some (.bool f1) := (zN h 1).trans rfl
theorem IsS179.set_1 {w0 W : World} {g : Nat} {f0 : ByteArray} {f1 : Bool} (h : IsS179 w0 W g f0 f1) (x : Bool) : IsS179 w0 (W.setCell ⟨g, 1, none⟩ (.bool x)) g f0 x := by
 obtain ⟨hb, hg⟩ := h
 exact ⟨by simpa using blk_set hb 1 (.bool x), hg⟩
theorem IsS179.new (w0 W : World) (f0 : ByteArray) (f1 : Bool) (hB : Below w0.heap.size w0 W) : IsS179 w0 (W.alloc (.cells #[.string f0, .bool f1] 179)) W.heap.size f0 f1 := ⟨by simpa using heap_alloc_new W _, hB.size⟩
def le_Reader_Text.j0 : Nat → Int → ByteArray → Bool → Option (ByteArray × ByteArray × Bool)
 | 0, _, _, _ => none
 | k + 1, x1, x1000, x1001 => if x1001 = true then (some ((⟨#[]⟩ : ByteArray), x1000, x1001)) else (if 0 ≤ x1 then (if x1 ≤ (x1000.size : Int) then (some (x1000.extract 0 (x1 : Int).toNat, x1000.extract (x1 : Int).toNat x1000.size, x1001)) else (none)) else (none))
def le_Reader_Text.f (k : Nat) (s0_0 : ByteArray) (s0_1 : Bool) (a1 : Int) : Option (ByteArray × ByteArray × Bool) := if s0_1 = true then (le_Reader_Text.j0 k a1 s0_0 true) else (if a1 < 0 then (le_Reader_Text.j0 k a1 s0_0 true) else (le_Reader_Text.j0 k a1 s0_0 (decide (a1 > (s0_0.size : Int)))))
set_option maxHeartbeats 8000000 in
set_option maxRecDepth 100000 in
theorem le_Reader_Text.calls (k : Nat) (g : Nat) (s0_0 : ByteArray) (s0_1 : Bool) (a1 : Int) (r1 : ByteArray) (r2 : ByteArray) (r3 : Bool) (w0 w : World) (hI : IsS179 w0 w g s0_0 s0_1) (hB : Below w0.heap.size w0 w) (h : le_Reader_Text.f k s0_0 s0_1 a1 = some (r1, r2, r3)) :
  Calls Tryz.prog 166 #[.pointer (some ⟨g, 0, none⟩), .int .i64 a1] w fun e w' => e = .returned (.string r1) ∧ IsS179 w0 w' g r2 r3 ∧ Below w0.heap.size w0 w' ∧ KeepBut w w' g none := by
 have HI0 := zA hI
 have HK := zA (KeepBut.refl w g none)
 have HL := zA hB.size
 clear hI
 have HW0 := zA hB.size
 have HB := zA hB
 clear hB
 have H : (if s0_1 = true then (le_Reader_Text.j0 k a1 s0_0 true) else (if a1 < 0 then (le_Reader_Text.j0 k a1 s0_0 true) else (le_Reader_Text.j0 k a1 s0_0 (decide (a1 > (s0_0.size : Int)))))) = some (r1, r2, r3) := h
 clear h
 have HC3 := zA H
 clear H
 go_enter Tryz.func166, Tryz.ntmps166
 go_upto_region 1 with (fail)
 go_cut [] (fun wc => ∃ (kq : Nat) (x1001_2 : Bool), Aside0 (le_Reader_Text.j0 kq a1 s0_0 x1001_2 = some (r1, r2, r3)) ∧ Aside0 (kq ≤ k) ∧ Aside0 (IsS179 w0 wc g s0_0 x1001_2) ∧ Aside0 (KeepBut w wc g none) ∧ Aside0 (Below w0.heap.size w0 wc))
 case first =>
  have H := HC3.out
  clear HC3
  by_cases c4 : s0_1 = true
  ·subst c4
   have H1 : (le_Reader_Text.j0 k a1 s0_0 true) = some (r1, r2, r3) := by rw [if_pos rfl] at H; exact H
   clear H
   have H := H1
   clear H1
   have H' := zA H
   clear H
   obtain ⟨HGz5, hgz5⟩ := HI0.out
   have hcz5_0 := cellS179_0 HGz5
   have hcz5_1 := cellS179_1 HGz5
   have hfz5_0 := zM HGz5 0
   have hfz5_1 := zM HGz5 1
   clear HGz5 hgz5
   go_wp2
   go_meet
   case rel => exact ⟨_, (true), H', ⟨by first | omega | exact Nat.le_refl _⟩, ⟨rW5⟩, ⟨rW2⟩, ⟨rW7⟩⟩
  ·replace c4 := Bool.eq_false_iff.mpr c4
   subst c4
   have H1 : (if a1 < 0 then (le_Reader_Text.j0 k a1 s0_0 true) else (le_Reader_Text.j0 k a1 s0_0 (decide (a1 > (s0_0.size : Int))))) = some (r1, r2, r3) := by rw [if_neg (show ¬ (false = true) by decide)] at H; exact H
   clear H
   have H := H1
   clear H1
   by_cases c6 : a1 < 0
   ·rw [if_pos c6] at H
    have c6b0 : decide (a1 < 0) = true := zH c6
    clear c6
    (first | rw [c6b0] | (simp only [i64_w, i32_w]; rw [c6b0]) | skip)
    have H' := zA H
    clear H
    obtain ⟨HGz7, hgz7⟩ := HI0.out
    have hcz7_0 := cellS179_0 HGz7
    have hcz7_1 := cellS179_1 HGz7
    have hfz7_0 := zM HGz7 0
    have hfz7_1 := zM HGz7 1
    clear HGz7 hgz7
    go_wp2
    go_meet
    case rel => exact ⟨_, (true), H', ⟨by first | omega | exact Nat.le_refl _⟩, ⟨rW5⟩, ⟨rW2⟩, ⟨rW7⟩⟩
   ·rw [if_neg c6] at H
    have c6b0 : decide (a1 < 0) = false := zI c6
    clear c6
    (first | rw [c6b0] | (simp only [i64_w, i32_w]; rw [c6b0]) | skip)
    have H' := zA H
    clear H
    obtain ⟨HGz8, hgz8⟩ := HI0.out
    have hcz8_0 := cellS179_0 HGz8
    have hcz8_1 := cellS179_1 HGz8
    have hfz8_0 := zM HGz8 0
    have hfz8_1 := zM HGz8 1
    clear HGz8 hgz8
    go_wp2
    go_meet
    case rel => exact ⟨_, (decide (a1 > (s0_0.size : Int))), H', ⟨by first | omega | exact Nat.le_refl _⟩, ⟨rW5⟩, ⟨rW2⟩, ⟨rW7⟩⟩
 case rest =>
  clear HC3
  try clear c1
  try clear p2
  try clear c4
  try clear c6
  try clear c6b0
  try clear hcz5_0
  try clear hcz5_1
  try clear hcz7_0
  try clear hcz7_1
  try clear hcz8_0
  try clear hcz8_1
  try clear hfz5_0
  try clear hfz5_1
  try clear hfz7_0
  try clear hfz7_1
  try clear hfz8_0
  try clear hfz8_1
  obtain ⟨kq, x1001_2, HA, HJ2, HI0, HK, HB⟩ := hcut
  cases kq with
  | zero => exact absurd HA.out (by simp [le_Reader_Text.j0])
  | succ kj2 =>
   have H := HA.out
   clear HA
   simp only [le_Reader_Text.j0] at H
   by_cases c9 : x1001_2 = true
   ·subst c9
    have H1 : (some ((⟨#[]⟩ : ByteArray), s0_0, true)) = some (r1, r2, r3) := by rw [if_pos rfl] at H; exact H
    clear H
    have H := H1
    clear H1
    simp only [Option.some.injEq, Prod.mk.injEq] at H
    obtain ⟨rfl, rfl, rfl⟩ := H
    obtain ⟨HGz10, hgz10⟩ := HI0.out
    have hcz10_0 := cellS179_0 HGz10
    have hcz10_1 := cellS179_1 HGz10
    have hfz10_0 := zM HGz10 0
    have hfz10_1 := zM HGz10 1
    clear HGz10 hgz10
    go_wp2
    go_ret
    exact ⟨rfA, rW5, rW7, rW2⟩
   ·replace c9 := Bool.eq_false_iff.mpr c9
    subst c9
    have H1 : (if 0 ≤ a1 then (if a1 ≤ (s0_0.size : Int) then (some (s0_0.extract 0 (a1 : Int).toNat, s0_0.extract (a1 : Int).toNat s0_0.size, false)) else (none)) else (none)) = some (r1, r2, r3) := by rw [if_neg (show ¬ (false = true) by decide)] at H; exact H
    clear H
    have H := H1
    clear H1
    by_cases c11 : 0 ≤ a1
    ·rw [if_pos c11] at H
     have c11b0 := eq_true c11
     have c11b1 : decide (0 ≤ a1) = true := zH c11
     clear c11
     by_cases c12 : a1 ≤ (s0_0.size : Int)
     ·rw [if_pos c12] at H
      have c12b0 := eq_true c12
      have c12b1 : decide (a1 ≤ (s0_0.size : Int)) = true := zH c12
      clear c12
      have c13b0 := eq_true (zG asA : 0 ≤ a1)
      have c14b0 := eq_true (zG asA : a1 ≤ (s0_0.size : Int))
      simp only [Option.some.injEq, Prod.mk.injEq] at H
      obtain ⟨rfl, rfl, rfl⟩ := H
      obtain ⟨HGz15, hgz15⟩ := HI0.out
      have hcz15_0 := cellS179_0 HGz15
      have hcz15_1 := cellS179_1 HGz15
      have hfz15_0 := zM HGz15 0
      have hfz15_1 := zM HGz15 1
      clear HGz15 hgz15
      go_wp2
      go_ret
      exact ⟨rfA, rW5, rW7, rW2⟩
     ·rw [if_neg c12] at H
      exact absurd H (by simp)
    ·rw [if_neg c11] at H
     exact absurd H (by simp)
def le_Reader_Number.j0 : Nat → Int → ByteArray → Bool → Option (Int × ByteArray × Bool)
 | 0, _, _, _ => none
 | k + 1, x1, x1000, x1001 => (le_Reader_Text.f k x1000 x1001 x1).bind fun bt320 => ((le_Get.f bt320.1).bind fun t323 => (some (t323, bt320.2.1, bt320.2.2)))
def le_Reader_Number.f (k : Nat) (s0_0 : ByteArray) (s0_1 : Bool) (a1 : Int) : Option (Int × ByteArray × Bool) := if a1 > 8 then (le_Reader_Number.j0 k (-1) s0_0 s0_1) else (le_Reader_Number.j0 k a1 s0_0 s0_1)
set_option maxHeartbeats 8000000 in
set_option maxRecDepth 100000 in
theorem le_Reader_Number.calls (k : Nat) (g : Nat) (s0_0 : ByteArray) (s0_1 : Bool) (a1 : Int) (r1 : Int) (r2 : ByteArray) (r3 : Bool) (w0 w : World) (hI : IsS179 w0 w g s0_0 s0_1) (hB : Below w0.heap.size w0 w) (h : le_Reader_Number.f k s0_0 s0_1 a1 = some (r1, r2, r3)) :
  Calls Tryz.prog 121 #[.pointer (some ⟨g, 0, none⟩), .int .i64 a1] w fun e w' => e = .returned (.int .u64 r1) ∧ IsS179 w0 w' g r2 r3 ∧ Below w0.heap.size w0 w' ∧ KeepBut w w' g none := by
 have HI0 := zA hI
 have HK := zA (KeepBut.refl w g none)
 have HL := zA hB.size
 clear hI
 have HW0 := zA hB.size
 have HB := zA hB
 clear hB
 have H : (if a1 > 8 then (le_Reader_Number.j0 k (-1) s0_0 s0_1) else (le_Reader_Number.j0 k a1 s0_0 s0_1)) = some (r1, r2, r3) := h
 clear h
 have HC3 := zA H
 clear H
 go_enter Tryz.func121, Tryz.ntmps121
 go_upto_if 6 with (fail)
 go_cut [1] (fun v1 wc => ∃ (kq : Nat) (x1_2 : Int), v1 = .int .i64 x1_2 ∧ Aside0 (le_Reader_Number.j0 kq x1_2 s0_0 s0_1 = some (r1, r2, r3)) ∧ Aside0 (kq ≤ k) ∧ Aside0 (IsS179 w0 wc g s0_0 s0_1) ∧ Aside0 (KeepBut w wc g none) ∧ Aside0 (Below w0.heap.size w0 wc))
 case first =>
  have H := HC3.out
  clear HC3
  by_cases c4 : a1 > 8
  ·rw [if_pos c4] at H
   have c4b0 : decide (8 < a1) = true := zH c4
   clear c4
   (first | rw [c4b0] | (simp only [i64_w, i32_w]; rw [c4b0]) | skip)
   have H' := zA H
   clear H
   go_wp2
   go_meet
   case rel => exact ⟨_, ((-1)), (rfB), H', ⟨by first | omega | exact Nat.le_refl _⟩, ⟨rW5⟩, ⟨rW2⟩, ⟨rW7⟩⟩
  ·rw [if_neg c4] at H
   have c4b0 : decide (8 < a1) = false := zI c4
   clear c4
   (first | rw [c4b0] | (simp only [i64_w, i32_w]; rw [c4b0]) | skip)
   have H' := zA H
   clear H
   go_wp2
   go_meet
   case rel => exact ⟨_, (a1), (rfB), H', ⟨by first | omega | exact Nat.le_refl _⟩, ⟨rW5⟩, ⟨rW2⟩, ⟨rW7⟩⟩
 case rest =>
  clear HC3
  try clear c1
  try clear p2
  try clear c4
  try clear c4b0
  obtain ⟨kq, x1_2, rfl, HA, HJ2, HI0, HK, HB⟩ := hcut
  cases kq with
  | zero => exact absurd HA.out (by simp [le_Reader_Number.j0])
  | succ kj2 =>
   have H := HA.out
   clear HA
   simp only [le_Reader_Number.j0] at H
   replace H := Option.bind_eq_some_iff.mp H
   obtain ⟨⟨t320, t321, t322⟩, A50, H⟩ := H
   replace H : ((le_Get.f t320).bind fun t323 => (some (t323, t321, t322))) = some (r1, r2, r3) := H
   have A5 := zA A50
   clear A50
   replace H := Option.bind_eq_some_iff.mp H
   obtain ⟨t323, A60, H⟩ := H
   replace H : (some (t323, t321, t322)) = some (r1, r2, r3) := H
   have A6 := zA A60
   clear A60
   simp only [Option.some.injEq, Prod.mk.injEq] at H
   obtain ⟨rfl, rfl, rfl⟩ := H
   go_wp2_with (first | ((with_reducible refine gate_callee (f := 166) rfl ?_); refine goesL_ (some 9) rfl rfl Tryz.func166 (by kernel_rfl) rfl #[.pointer (some ⟨g, 0, none⟩), .int .i64 x1_2] rfl argA ?_; (with_reducible refine (le_Reader_Text.calls kj2 g s0_0 s0_1 x1_2 t320 t321 t322 w0 _ ?side1 ?side2 A5.out).mono ?_); (case side1 => exact rW5); (case side2 => exact rW7); rintro e w7 ⟨rfl, hi, hb, hk⟩; refine ⟨_, rfl, ?_⟩; have n0_ := zA (KeepBut.trans (rW2) hk (.inl rfl)); have n1_ := zA (hb); have n2_ := zA (hi); clear HK; clear HB; clear HI0; have HK := n0_; have HB := n1_; have HI0 := n2_; clear n0_ n1_ n2_; (try clear hb); (try clear hb2); (try clear hk); (try clear hi)) | ((with_reducible refine gate_callee (f := 168) rfl ?_); refine goesL_ (some 10) rfl rfl Tryz.func168 (by kernel_rfl) rfl #[.string t320] rfl argA ?_; (with_reducible refine (le_Get.calls t320 t323 _ A6.out).mono ?_); rintro e w8 ⟨rfl, hb⟩; refine ⟨_, rfl, ?_⟩; have n0_ := zA (IsS179.below (rW5) hb); have n1_ := zA (KeepBut.trans (rW2) (KeepBut.of_below hb g none) (.inl rfl)); have n2_ := zA (zL (rW7) hb); clear HI0; clear HK; clear HB; have HI0 := n0_; have HK := n1_; have HB := n2_; clear n0_ n1_ n2_; (try clear hb); (try clear hb2); (try clear hk); (try clear hi)))
   go_ret
   exact ⟨rfA, rW5, rW7, rW2⟩
end Go.Proofs.YtcclaidbikjhiaaGreatDoor.PVo
