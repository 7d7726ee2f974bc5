import Derived.Test.YtcclaidbikjhiaaGreatDoorPureVly
import Derived.Deep.RegionHeld3
import Derived.Deep.AppendSrc
import Derived.Shelf.RegionOpenPlain
import Derived.Deep.RegionLaw
import Derived.Test.YtcclaidbikjhiaaGreatDoorPVox16
--compressed
namespace Go.Proofs.YtcclaidbikjhiaaGreatDoor.PVo
open Go.RowKit Go.Proofs.YtcclaidbikjhiaaGreatDoorW.PrintWords Go.Proofs.YtcclaidbikjhiaaGreatDoorW.PrintLast Go.Proofs.YtcclaidbikjhiaaGreatDoorW.PrintMore Go.Proofs.YtcclaidbikjhiaaGreatDoor.Th
attribute [local go_sem] max2_int min2_int max_two min_two max_three min_three max_four min_four
set_option linter.unusedVariables false
set_option linter.unusedSimpArgs false
def needV (n : Nat) : Int := (((n + 63) / 64 : Nat) : Int)
theorem need_fv (s : List UInt8) (h : s.length ≤ 1000000000) : vol_need.f (B s) = some (needV s.length) := by
 unfold vol_need.f needV
 rw [B_size, wrap64_id (n := (s.length : Int) + 64) (by omega) (by omega), wrap64_id (n := (s.length : Int) + 64 - 1) (by omega) (by omega)]
 have : ((s.length : Int) + 64 - 1).tdiv 64 = (((s.length + 63) / 64 : Nat) : Int) := by
  rw [Int.tdiv_eq_ediv_of_nonneg (by omega)]
  omega
 rw [this, wrap64_id (by omega) (by omega)]
theorem OwnP.masked {M : Nat → Prop} {w w' : World} {v : Value} {ps : List Pr} (h : OwnP (mask M w) w w' v ps) (hb : Below w.heap.size w w') (hM : ∀ k, M k → k < w.heap.size) : ∃ A c, v = .slice A (ps.map (·.1)).length c ∧ (ps.map (·.1)).length ≤ c ∧ Kd.C k85 (mask M w') A (ps.map (·.1)).length (ps.map (·.1)) := by
 have h' : OwnP (mask M w) w (mask M w') v ps := ⟨row_kept h.1 fun k hk => mask_at fun hm => by have := own_base h.1 k hk; have := hM k hm; omega, h.2⟩
 exact h'.reads (sub_move (zP hb (fun _ => False)) (fun _ h => h.elim) fun _ _ h => h)
theorem file_K {Z : World} {f : Fi} {A : Option Addr} {c : Nat} (hc : f.f2.length ≤ c) (h : Kd.C k87 Z A f.f2.length f.f2) : (k85).K Z f (fileC3 f A c) := ⟨[.string f.f0], [.int .i64 f.f1, .slice A f.f2.length c], rfl, rfl, ⟨[.int .i64 f.f1], [.slice A f.f2.length c], rfl, rfl, ⟨A, c, rfl, hc, h⟩⟩⟩
def twriteV (V : VV) (T : TV) (D : DV) (name s : List UInt8) : Int × TV × DV :=
 if overV T V = true then (7, T, D) else if labB name = false then (1, T, D) else if 20000 < s.length then (3, T, D) else
 if (takeF T.free (needV s.length)).2.2 = false ∨ 200 < (takeF T.free (needV s.length)).1.length then (6, T, D) else
 if (wrF (takeF T.free (needV s.length)).1 s D).1 = 0 then (0, { T with free := (takeF T.free (needV s.length)).2.1, l := withV ⟨B name, s.length, (takeF T.free (needV s.length)).1⟩ T.l }, (wrF (takeF T.free (needV s.length)).1 s D).2)
 else ((wrF (takeF T.free (needV s.length)).1 s D).1, { T with free := (takeF T.free (needV s.length)).2.1 }, (wrF (takeF T.free (needV s.length)).1 s D).2)
structure TV.Ok (T : TV) : Prop where
 fo : OkL 8192 T.free
 fc : Canon T.free
 fl : T.free.length ≤ 8192
 few : T.l.length ≤ 1000000
 sd : Sd T.l
theorem take_facts {l : List Sp} {n : Int} (ho : OkL 8192 l) (hc : Canon l) (hl : l.length ≤ 8192) (h0 : 0 ≤ n) (hb : n ≤ 100000) (h : (takeF l n).2.2 = true) : OkL 8192 (takeF l n).1 ∧ Th.sumF (takeF l n).1 = n ∧ (takeF l n).1.length ≤ 8192 ∧ OkL 8192 (takeF l n).2.1 ∧ Canon (takeF l n).2.1 ∧ (takeF l n).2.1.length ≤ 8192 := by
 have ht : n ≤ totF l := by
  unfold takeF at h
  by_cases hq : n < 0 ∨ totF l < n
  ·rw [if_pos hq] at h; cases h
  ·omega
 have hts := totF_sum (by decide) (by decide) ho (by omega)
 rw [takeF_ok (by decide) ho h0 (by omega) ht]
 obtain ⟨a1, a2, a3, a4, a5, a6, a7, _⟩ := tk_spec l n ho hc h0 (by omega)
 obtain ⟨l1, l2⟩ := tk_len l n
 exact ⟨a1, a6, by show (tk n l).1.length ≤ _; omega, a3, a4, by show (tk n l).2.length ≤ _; omega⟩
theorem TxSys.to {w0 w w' : World} {S M : Nat → Prop} {gd gv gt : Nat} {D : DV} {V : VV} {T : TV} (h : TxSys w0 w S M gd gv gt D V T) (hb : Below w.heap.size w w') : TxTo w0 w w' S M gd gv gt D V T :=
 ⟨S, M, h.past hb, fun _ h => h, fun _ h => h, fun _ h => .inl h, zP hb _⟩
set_option maxHeartbeats 8000000 in
set_option maxRecDepth 100000 in
theorem twrite.calls (S M : Nat → Prop) (gd gv gt : Nat) (D : DV) (V : VV) (T : TV) (name s : List UInt8) (w0 w : World) (hX : TxSys w0 w S M gd gv gt D V T) (hT : T.Ok) (ht : TabsW w0) (hn : name.length ≤ 1000000) (hs : s.length ≤ 1000000000) (hp : D.pend.length < 900000) :
  Calls Tryz.prog 13 #[.pointer (some ⟨gt, 0, none⟩), .string (B name), .string (B s)] w fun e w' => e = .returned (.int .i64 (twriteV V T D name s).1) ∧ TxTo w0 w w' S M gd gv gt (twriteV V T D name s).2.2 V (twriteV V T D name s).2.1 := by
 have HOV := zA (fun (W : World) (h : TxSys w0 W S M gd gv gt D V T) => vover.calls M gt gv gd V T W h.vol h.tx)
 have HLB := zA (fun (W : World) (h : TxSys w0 W S M gd gv gt D V T) => label_Right.calls (B name) (labB name) W (ht.below h.bel) (label_f name (by omega)))
 have HX := zA hX
 have HTV := zA (show twriteV V T D name s = if overV T V = true then (7, T, D) else if labB name = false then (1, T, D) else if 20000 < s.length then (3, T, D) else
 if (takeF T.free (needV s.length)).2.2 = false ∨ 200 < (takeF T.free (needV s.length)).1.length then (6, T, D) else
 if (wrF (takeF T.free (needV s.length)).1 s D).1 = 0 then (0, { T with free := (takeF T.free (needV s.length)).2.1, l := withV ⟨B name, s.length, (takeF T.free (needV s.length)).1⟩ T.l }, (wrF (takeF T.free (needV s.length)).1 s D).2)
 else ((wrF (takeF T.free (needV s.length)).1 s D).1, { T with free := (takeF T.free (needV s.length)).2.1 }, (wrF (takeF T.free (needV s.length)).1 s D).2) from rfl)
 generalize twriteV V T D name s = R at HTV ⊢
 have HS := zA hs
 have HPN := zA hp
 have HTO := zA hT
 clear hX hn hs hp ht hT
 cases c1 : overV T V with
 | true =>
  rw [c1] at HOV
  have hR : R = (7, T, D) := by rw [HTV.out, if_pos c1]
  rw [hR]
  clear hR c1
  go_enter Tryz.func13, Tryz.ntmps13
  go_wp2_with (go_at_call 44; go_loud (refine (HOV.out _ HX.out).mono ?_; rintro e w1 ⟨rfl, hd⟩; have HD := zA hd.below; clear hd))
  go_ret
  exact ⟨rfl, HX.out.to HD.out⟩
 | false =>
  rw [c1] at HOV
  cases c2 : labB name with
  | false =>
   rw [c2] at HLB
   have hR : R = (1, T, D) := by rw [HTV.out, if_neg (by rw [c1]; decide), if_pos c2]
   rw [hR]
   clear hR c1 c2
   go_enter Tryz.func13, Tryz.ntmps13
   go_wp2_with (first
    | (go_at_call 44; go_loud (refine (HOV.out _ HX.out).mono ?_; rintro e w1 ⟨rfl, hd⟩; have HX1 := zA (HX.out.past hd.below); have HD := zA hd.below; clear hd))
    | (go_at_call 45; go_loud (refine (HLB.out _ HX1.out).mono ?_; rintro e w2 ⟨rfl, hb2⟩; have HB2 := zA (zL HD.out hb2); clear hb2)))
   go_ret
   exact ⟨rfl, HX.out.to HB2.out⟩
  | true =>
   rw [c2] at HLB
   by_cases c3 : 20000 < s.length
   ·have b3 : decide (((B s).size : Int) > 20000) = true := zH (by rw [B_size]; omega)
    have hR : R = (3, T, D) := by rw [HTV.out, if_neg (by rw [c1]; decide), if_neg (by rw [c2]; decide), if_pos c3]
    rw [hR]
    clear hR c1 c2 c3
    go_enter Tryz.func13, Tryz.ntmps13
    go_wp2_with (first
     | (go_at_call 44; go_loud (refine (HOV.out _ HX.out).mono ?_; rintro e w1 ⟨rfl, hd⟩; have HX1 := zA (HX.out.past hd.below); have HD := zA hd.below; clear hd))
     | (go_at_call 45; go_loud (refine (HLB.out _ HX1.out).mono ?_; rintro e w2 ⟨rfl, hb2⟩; have HB2 := zA (zL HD.out hb2); clear hb2)))
    go_ret
    exact ⟨rfl, HX.out.to HB2.out⟩
   ·have b3 : decide (((B s).size : Int) > 20000) = false := zI (by rw [B_size]; omega)
    have b3' : decide ((s.length : Int) > 20000) = false := zI (by omega)
    have HV2 := zA (HTV.out.trans ((if_neg (by rw [c1]; decide)).trans ((if_neg (by rw [c2]; decide)).trans (if_neg c3))))
    have hn0 : 0 ≤ needV s.length ∧ needV s.length ≤ 100000 := by unfold needV; omega
    have HND := zA (fun W => vol_need.calls (B s) (needV s.length) W (need_fv s HS.out))
    obtain ⟨Al, cl, Bf, df, hb, hcl, hdf, hCl, hCf⟩ := HX.out.tx
    obtain ⟨kt, hkt⟩ := (take_ev T.free (needV s.length) (by have := HTO.out.fl; omega)).get
    have hfacts := take_facts HTO.out.fo HTO.out.fc HTO.out.fl hn0.1 hn0.2
    have hneed : (s.length : Int) ≤ needV s.length * 64 := by unfold needV; omega
    generalize needV s.length = nv at HV2 HND hkt hfacts hneed hn0
    generalize takeF T.free nv = tk at HV2 hkt hfacts
    obtain ⟨r1, r2, r3⟩ := tk
    simp only at HV2 hfacts
    have HB4 := zA hb
    have HKEEP := zA (show ∀ W, Below w.heap.size w W → W.cell? ⟨gt, 4, none⟩ = some (.slice Bf T.free.length df) ∧ True from fun W hW => ⟨(zN (blk_below hb hW) 4).trans rfl, trivial⟩)
    have HTK := zA (show ∀ W, Below w.heap.size w W → Calls Tryz.prog 46 #[.slice Bf T.free.length df, .int .i64 nv] W fun e w' => ∃ A1 c1 A2 c2, e = .returned (.tuple #[.slice A1 r1.length c1, .slice A2 r2.length c2, .bool r3]) ∧ r1.length ≤ c1 ∧ r2.length ≤ c2 ∧ Kd.C k87 (mask M w') A1 r1.length r1 ∧ Kd.C k87 (mask M w') A2 r2.length r2 ∧ Below W.heap.size W w' from fun W hW => by
     refine (span_Take.calls kt Bf df T.free nv r1 r2 r3 W (Kd.C_below (mono_span.C (sub_mask M w) hCf) hW) hdf hkt).mono ?_
     rintro e w' ⟨v1, v2, rfl, q1, q2, q3⟩
     have hm : ∀ k, W.heap.size ≤ k → k < w'.heap.size → ¬ M k := fun k h1 _ h2 => by have := (HX.out.mb k h2).2; have := hW.size; omega
     obtain ⟨A1, c1, rfl, e1, e2⟩ := R_mask q1 hm
     obtain ⟨A2, c2, rfl, f1, f2⟩ := R_mask q2 hm
     exact ⟨A1, c1, A2, c2, rfl, e1, f1, e2, f2, q3⟩)
    have HFA := zA hfacts
    have HNE := zA (And.intro hneed hn0.2)
    clear hb hCl hCf hkt hfacts hneed hn0 hcl hdf c1 c2 c3
    cases c4 : r3 with
    | false =>
     have hR : R = (6, T, D) := by rw [HV2.out, if_pos (.inl c4)]
     rw [hR]
     rw [c4] at HTK
     clear hR c4 HV2
     go_enter Tryz.func13, Tryz.ntmps13
     go_wp2_with (first
      | (go_at_call 44; go_loud (refine (HOV.out _ HX.out).mono ?_; rintro e w1 ⟨rfl, hd⟩; have HX1 := zA (HX.out.past hd.below); have HD := zA hd.below; clear hd))
      | (go_at_call 45; go_loud (refine (HLB.out _ HX1.out).mono ?_; rintro e w2 ⟨rfl, hb2⟩; have HB2 := zA (zL HD.out hb2); clear hb2)))
     have HBd := zA (zK (Below.refl w2.heap.size w2))
     have k4 := (zN (blk_below HB4.out HB2.out) 4).trans rfl
     go_region_held3 (fun w' => w'.cell? ⟨gt, 4, none⟩ = some (.slice Bf T.free.length df) ∧ True) (exact HKEEP.out _ (zL HB2.out (by repeat (with_reducible first | exact HBd.out | apply zJ | apply zK | exact Below.refl _ _)))) (first
      | (go_at_call 47; go_loud (refine (HND.out _).mono ?_; rintro ex wk ⟨rfl, hd⟩; have HBd := zA (zL HBd.out hd.below); clear hd))
      | (go_at_call 46; go_loud (refine (HTK.out _ (zL HB2.out HBd.out)).mono ?_; rintro ex w3 ⟨A1, c1, A2, c2, rfl, q1, q2, q3, q4, q5⟩; have HQ := zA (And.intro q1 (And.intro q2 (And.intro q3 q4))); have HBd := zA (zL HBd.out q5); clear q1 q2 q3 q4 q5)))
     (try simp only [Exit.then])
     have HB3 := zA (zL HB2.out HBd.out)
     go_wp2
     go_ret
     exact ⟨rfl, HX.out.to HB3.out⟩
    | true =>
     rw [c4] at HTK
     by_cases c5 : 200 < r1.length
     ·have b5 : decide ((r1.length : Int) > 200) = true := zH (by omega)
      have hR : R = (6, T, D) := by rw [HV2.out, if_pos (.inr c5)]
      rw [hR]
      clear hR HV2
      go_enter Tryz.func13, Tryz.ntmps13
      go_wp2_with (first
       | (go_at_call 44; go_loud (refine (HOV.out _ HX.out).mono ?_; rintro e w1 ⟨rfl, hd⟩; have HX1 := zA (HX.out.past hd.below); have HD := zA hd.below; clear hd))
       | (go_at_call 45; go_loud (refine (HLB.out _ HX1.out).mono ?_; rintro e w2 ⟨rfl, hb2⟩; have HB2 := zA (zL HD.out hb2); clear hb2)))
      have HBd := zA (zK (Below.refl w2.heap.size w2))
      have k4 := (zN (blk_below HB4.out HB2.out) 4).trans rfl
      go_region_held3 (fun w' => w'.cell? ⟨gt, 4, none⟩ = some (.slice Bf T.free.length df) ∧ True) (exact HKEEP.out _ (zL HB2.out (by repeat (with_reducible first | exact HBd.out | apply zJ | apply zK | exact Below.refl _ _)))) (first
       | (go_at_call 47; go_loud (refine (HND.out _).mono ?_; rintro ex wk ⟨rfl, hd⟩; have HBd := zA (zL HBd.out hd.below); clear hd))
       | (go_at_call 46; go_loud (refine (HTK.out _ (zL HB2.out HBd.out)).mono ?_; rintro ex w3 ⟨A1, c1, A2, c2, rfl, q1, q2, q3, q4, q5⟩; have HQ := zA (And.intro q1 (And.intro q2 (And.intro q3 q4))); have HBd := zA (zL HBd.out q5); clear q1 q2 q3 q4 q5)))
      (try simp only [Exit.then])
      have HB3 := zA (zL HB2.out HBd.out)
      go_wp2
      go_ret
      exact ⟨rfl, HX.out.to HB3.out⟩
     ·have b5 : decide ((r1.length : Int) > 200) = false := zI (by omega)
      have HV3 := zA (HV2.out.trans (if_neg (fun h => h.elim (fun h => by rw [c4] at h; cases h) c5)))
      obtain ⟨g1, g2, g3, g4, g5, g6⟩ := HFA.out c4
      have HLAY := zA (fun W A1 c1 A2 c2 (hW : Below w.heap.size w W) (q1 : r1.length ≤ c1) (q2 : r2.length ≤ c2) (q3 : Kd.C k87 (mask M W) A1 r1.length r1) (q4 : Kd.C k87 (mask M W) A2 r2.length r2) => vlay.calls S M gd gv gt D V T s r1 r2 A1 A2 c1 c2 w0 W (HX.out.past hW) q1 q2 q3 q4 g1 g3 (by rw [g2]; exact HNE.out.1) (by rw [g2]; have := HPN.out; have := HNE.out.2; omega))
      clear g1 g2 g3 g4 g5 g6 HV2 HFA
      generalize hwr : wrF r1 s D = wr at HV3 HLAY
      obtain ⟨e0, D4⟩ := wr
      simp only at HV3 HLAY
      clear hwr
      by_cases c6 : e0 = 0
      ·have b6 : (e0 == 0) = true := beq_iff_eq.mpr c6
       have hR : R = (0, { T with free := r2, l := withV ⟨B name, s.length, r1⟩ T.l }, D4) := by rw [HV3.out, if_pos c6]
       rw [hR]
       clear hR HV3 c4
       go_enter Tryz.func13, Tryz.ntmps13
       go_wp2_with (first
        | (go_at_call 44; go_loud (refine (HOV.out _ HX.out).mono ?_; rintro e w1 ⟨rfl, hd⟩; have HX1 := zA (HX.out.past hd.below); have HD := zA hd.below; clear hd))
        | (go_at_call 45; go_loud (refine (HLB.out _ HX1.out).mono ?_; rintro e w2 ⟨rfl, hb2⟩; have HB2 := zA (zL HD.out hb2); clear hb2)))
       have HBd := zA (zK (Below.refl w2.heap.size w2))
       have k4 := (zN (blk_below HB4.out HB2.out) 4).trans rfl
       go_region_held3 (fun w' => w'.cell? ⟨gt, 4, none⟩ = some (.slice Bf T.free.length df) ∧ True) (exact HKEEP.out _ (zL HB2.out (by repeat (with_reducible first | exact HBd.out | apply zJ | apply zK | exact Below.refl _ _)))) (first
        | (go_at_call 47; go_loud (refine (HND.out _).mono ?_; rintro ex wk ⟨rfl, hd⟩; have HBd := zA (zL HBd.out hd.below); clear hd))
        | (go_at_call 46; go_loud (refine (HTK.out _ (zL HB2.out HBd.out)).mono ?_; rintro ex w3 ⟨A1, c1, A2, c2, rfl, q1, q2, q3, q4, q5⟩; have HQ := zA (And.intro q1 (And.intro q2 (And.intro q3 q4))); have HBd := zA (zL HBd.out q5); clear q1 q2 q3 q4 q5)))
       (try simp only [Exit.then])
       have HB3 := zA (zL HB2.out HBd.out)
       go_wp2_with (first
        | (go_at_call 48; go_loud (refine (HLAY.out _ A1 c1 A2 c2 HB3.out HQ.out.1 HQ.out.2.1 HQ.out.2.2.1 HQ.out.2.2.2).mono ?_; rintro e w4 ⟨rfl, S', M', X4, h2, h3, h4, h5⟩; obtain ⟨A', c', B', d', hb4, hc4, hd4, hC4, hF4⟩ := X4.tx; have k41 := (show w4.cell? ⟨gt, 1, none⟩ = some (.slice A' T.l.length c') from (zN hb4 1).trans rfl); have f41 := zM hb4 1; have HWF := zA (withF.calls A' c' T.l ⟨B name, s.length, r1⟩ A1 c1 (mask M' w4) w4 (sub_mask M' w4) hC4 HTO.out.few (mono_sd HTO.out.sd _) (file_K HQ.out.1 (mono_span.C (sub_move h5 (fun k q => q.elim (fun q => HX.out.ms k q) (fun q => q ▸ HX.out.mt.1)) (fun k hk q => (h4 k q).resolve_right (by omega))) HQ.out.2.2.1))); have HX4 := zA (And.intro X4 (And.intro h2 (And.intro h3 (And.intro h4 h5)))); have HB41 := zA hb4; clear X4 h2 h3 h4 h5 hb4 hc4 hd4 hC4 hF4))
        | (go_at_call 49; go_loud (refine HWF.out.mono ?_; rintro e w5 ⟨v5, ps, rfl, e5, ho5, hb5⟩; obtain ⟨A5, c5_, rfl, hl5, hC5⟩ := ho5.masked hb5 (fun k q => (HX4.out.1.mb k q).2); have k51 := (show w5.cell? ⟨gt, 1, none⟩ = some (.slice A' T.l.length c') from (zN (blk_below HB41.out hb5) 1).trans rfl); have f51 := zM (blk_below HB41.out hb5) 1; have HW5 := zA (And.intro e5 (And.intro hl5 (And.intro hC5 hb5))); clear e5 ho5 hb5 hl5 hC5)))
       go_ret
       obtain ⟨e5, hl5, hC5, hb5⟩ := HW5.out
       obtain ⟨X4, h2, h3, h4, h5⟩ := HX4.out
       obtain ⟨X6, hk6⟩ := (X4.past hb5).setL A5 c5_ _ hl5 hC5
       refine ⟨rfl, ?_⟩
       rw [← e5]
       rw [List.length_map] at X6 hk6
       exact ⟨S', M', X6, h2, h3, fun k q => (h4 k q).imp_right (Nat.le_trans HB3.out.size), (((zP HB3.out (fun k => S k ∨ k = gt)).then_ h5 fun k q => .inl q).then_ (zP hb5 (fun _ => False)) fun _ q => q.elim).then_ hk6 fun k q => .inl (.inr q)⟩
      ·have b6 : (e0 == 0) = false := beq_eq_false_iff_ne.mpr c6
       have hR : R = (e0, { T with free := r2 }, D4) := by rw [HV3.out, if_neg c6]
       rw [hR]
       clear hR HV3 c4
       go_enter Tryz.func13, Tryz.ntmps13
       go_wp2_with (first
        | (go_at_call 44; go_loud (refine (HOV.out _ HX.out).mono ?_; rintro e w1 ⟨rfl, hd⟩; have HX1 := zA (HX.out.past hd.below); have HD := zA hd.below; clear hd))
        | (go_at_call 45; go_loud (refine (HLB.out _ HX1.out).mono ?_; rintro e w2 ⟨rfl, hb2⟩; have HB2 := zA (zL HD.out hb2); clear hb2)))
       have HBd := zA (zK (Below.refl w2.heap.size w2))
       have k4 := (zN (blk_below HB4.out HB2.out) 4).trans rfl
       go_region_held3 (fun w' => w'.cell? ⟨gt, 4, none⟩ = some (.slice Bf T.free.length df) ∧ True) (exact HKEEP.out _ (zL HB2.out (by repeat (with_reducible first | exact HBd.out | apply zJ | apply zK | exact Below.refl _ _)))) (first
        | (go_at_call 47; go_loud (refine (HND.out _).mono ?_; rintro ex wk ⟨rfl, hd⟩; have HBd := zA (zL HBd.out hd.below); clear hd))
        | (go_at_call 46; go_loud (refine (HTK.out _ (zL HB2.out HBd.out)).mono ?_; rintro ex w3 ⟨A1, c1, A2, c2, rfl, q1, q2, q3, q4, q5⟩; have HQ := zA (And.intro q1 (And.intro q2 (And.intro q3 q4))); have HBd := zA (zL HBd.out q5); clear q1 q2 q3 q4 q5)))
       (try simp only [Exit.then])
       have HB3 := zA (zL HB2.out HBd.out)
       go_wp2_with (first
        | (go_at_call 48; go_loud (refine (HLAY.out _ A1 c1 A2 c2 HB3.out HQ.out.1 HQ.out.2.1 HQ.out.2.2.1 HQ.out.2.2.2).mono ?_; rintro e w4 ⟨rfl, hto⟩; have HTO4 := zA hto; clear hto)))
       go_ret
       obtain ⟨S', M', h1, h2, h3, h4, h5⟩ := HTO4.out
       exact ⟨rfl, S', M', h1, h2, h3, fun k q => (h4 k q).imp_right (Nat.le_trans HB3.out.size), (zP HB3.out (fun k => S k ∨ k = gt)).then_ h5 fun k q => .inl q⟩
open Go.RowKit Go.Proofs.YtcclaidbikjhiaaGreatDoorW.PrintWords Go.Proofs.YtcclaidbikjhiaaGreatDoorW.PrintLast Go.Proofs.YtcclaidbikjhiaaGreatDoorW.PrintMore
abbrev PrS := S87 × List Value
def OwnS (ZW w0 w : World) (v : Value) (ps : List PrS) : Prop := w.ownsRow w0.heap.size 87 2 v ps.length (ps.flatMap (·.2)) ∧ ∀ p ∈ ps, (k87).K ZW p.1 p.2
theorem OwnS.len {ZW w0 w : World} {v : Value} {ps : List PrS} (h : OwnS ZW w0 w v ps) : ∀ p ∈ ps, p.2.length = 2 := fun p hp => (k87).K_len (h.2 p hp)
theorem OwnS.reads {ZW w0 w : World} {v : Value} {ps : List PrS} (h : OwnS ZW w0 w v ps) (hs : Sub ZW w) : ∃ A c, v = .slice A (ps.map (·.1)).length c ∧ (ps.map (·.1)).length ≤ c ∧ Kd.C k87 w A (ps.map (·.1)).length (ps.map (·.1)) := by
 have hr : Reps ((k87).K w) 2 (ps.map (·.1)) (ps.flatMap (·.2)) := reps_pairs ps fun p hp => ⟨mono_span _ _ _ _ hs (h.2 p hp), (k87).K_len (h.2 p hp)⟩
 obtain ⟨A, c, rfl, hrow⟩ := own_reads_row h.1 hr (List.length_map ..)
 have hl := own_le h.1
 exact ⟨A, c, by rw [List.length_map], by rw [List.length_map]; exact hl, by rw [List.length_map]; exact hrow⟩
set_option maxHeartbeats 2000000 in
set_option maxRecDepth 100000 in
theorem cloneS2.calls (A : Option Addr) (c : Nat) (l : List S87) (ZW w0 w : World) (hs : Sub ZW w) (hr : Kd.C k87 ZW A l.length l) (hb : Below w0.heap.size w0 w) (hl : l.length ≤ 1000000) :
  Calls Tryz.prog 56 #[.slice A l.length c] w fun e w' => ∃ v ps, e = .returned v ∧ ps.map (·.1) = l ∧ OwnS ZW w0 w' v ps ∧ Below w.heap.size w w' := by
 have q22 : ∀ (w : World) (a : Option Addr) (n c n' c' : Nat), (binOp .eql 44 (.slice a n c) (.slice none n' c')).run Tryz.prog w = .ok (.bool a.isNone) w := fun w a n c n' c' => Lib.run_eql_slice_nil w _ _ a n c n' c' Tryz.underlying44
 have HR := zA hr
 have HB := zA hb
 clear hr hb
 cases A with
 | none =>
  have h0 : l = [] := by
   rcases Nat.eq_zero_or_pos l.length with h | h
   ·exact List.eq_nil_of_length_eq_zero h
   ·obtain ⟨ad, he, _⟩ := HR.out.2.2 h
    cases he
  subst h0
  go_enter Tryz.func56, Tryz.ntmps56
  go_wp2
  go_ret
  exact ⟨_, [], rfl, rfl, ⟨⟨rfl, .inl ⟨rfl, rfl⟩⟩, fun _ h => nomatch h⟩, Below.refl _ _⟩
 | some ad =>
  obtain ⟨inner, hin, hcell⟩ := ReadsRow.inner_ HR.out
  obtain ⟨ps, e1, e2, e3⟩ := pairs_inner l inner hin
  obtain ⟨i0, hi, hz0, hz1, hz2⟩ := info_parts info87
  have hlen : inner.length = l.length * 2 := hin.1
  have h1 : ∀ u ∈ inner, u.oneCell' = true := fun u hu => by
   rw [← e2, List.mem_flatMap] at hu
   obtain ⟨p, hp, hu⟩ := hu
   exact (k87).K_one (e3 p hp).1 u hu
  have HC := zA (show ∀ j u, inner[j]? = some u → w.cell? (ad.add j) = some u from fun j u hj => hs _ _ (hcell j u hj))
  have H1 := zA h1
  have HL := zA hlen
  have HP := zA (show ps.map (·.1) = l ∧ ps.flatMap (·.2) = inner ∧ ∀ p ∈ ps, (k87).K ZW p.1 p.2 from ⟨e1, e2, fun p hp => (e3 p hp).1⟩)
  clear hin hcell e1 e2 e3 h1 hlen hs
  go_enter Tryz.func56, Tryz.ntmps56
  go_wp2_with (at_builtin; refine wpList_append_own _ rfl (.tmp 5) (.tmp 6) 44 rfl w0.heap.size 87 i0 _ 2 _ Tryz.underlying44 hi hz0 hz1 hz2 rfl (by decide) _ 0 [] rfl (World.ownsRow_made w #[] 0 (below_size HB.out) (Nat.zero_le _) (by simp)) ad l.length c inner rfl HL.out ?qc2 H1.out ?qc4 ?qc5 ?qc6 ?_)
  case qc2 => exact fun j u hj => Lib.cell?_alloc_some _ (HC.out j u hj)
  case qc4 => unfold maxLen; omega
  case qc5 => omega
  case qc6 => have := below_size HB.out; simp; omega
  intro v' w1 hown hgrow hnil
  go_wp2
  go_ret
  obtain ⟨e1, e2, e3⟩ := HP.out
  refine ⟨v', ps, rfl, e1, ⟨?_, e3⟩, ((Below.refl _ w).alloc (Nat.le_refl _) _).grown hgrow (by simp) (by intro k hk; simp [Value.ownBlock] at hk; omega)⟩
  have hpl : ps.length = l.length := by rw [← e1, List.length_map]
  rw [e2, hpl]
  simpa using hown
theorem OwnS.block {ZW w0 w : World} {v : Value} {ps : List PrS} (h : OwnS ZW w0 w v ps) : (v = .slice none 0 0 ∧ ps = []) ∨ ∃ g cap L, v = .slice (some ⟨g, 0, none⟩) ps.length cap ∧ w0.heap.size ≤ g ∧ w.heap[g]? = some (.cells (L : List Value).toArray 87 (0, 0)) ∧ ps.length ≤ cap ∧ cap ≤ maxLen ∧ L.length = cap * 2 ∧ L.take (ps.length * 2) = ps.flatMap (·.2) := by
 obtain ⟨⟨h1, h2⟩, h3⟩ := h
 rcases h2 with ⟨rfl, h0⟩ | ⟨g, cap, cur, rfl, hg, hh, hn, hc, hs, ht⟩
 ·exact .inl ⟨rfl, List.eq_nil_of_length_eq_zero h0⟩
 ·exact .inr ⟨g, cap, cur.toList, rfl, hg, by simpa using hh, hn, hc, by simpa using hs, ht⟩
theorem OwnS.mk' {ZW w0 w : World} {g cap n : Nat} {L : List Value} {ps : List PrS} (hg : w0.heap.size ≤ g) (hh : w.heap[g]? = some (.cells L.toArray 87 (0, 0))) (hn : n = ps.length) (hc : n ≤ cap) (hm : cap ≤ maxLen) (hl : L.length = cap * 2) (ht : L.take (n * 2) = ps.flatMap (·.2)) (hK : ∀ p ∈ ps, (k87).K ZW p.1 p.2) : OwnS ZW w0 w (.slice (some ⟨g, 0, none⟩) n cap) ps := by
 subst hn
 exact ⟨⟨flat_len ps fun p hp => (k87).K_len (hK p hp), .inr ⟨g, cap, L.toArray, rfl, hg, hh, hc, hm, by simpa using hl, by simpa using ht⟩⟩, hK⟩
theorem flat_insS (ps : List PrS) (h : ∀ p ∈ ps, p.2.length = 2) (i : Nat) (hi : i ≤ ps.length) (q : PrS) : (ps.take i ++ q :: ps.drop i).flatMap (·.2) = (ps.flatMap (·.2)).take (i * 2) ++ (q.2 ++ (ps.flatMap (·.2)).drop (i * 2)) := by
 rw [(flat_cut ps h i hi).1, (flat_cut ps h i hi).2, List.flatMap_append, List.flatMap_cons]
set_option maxHeartbeats 2000000 in
set_option maxRecDepth 100000 in
theorem insert_endS (ZW w0 w : World) (v : Value) (ps : List PrS) (x : S87) (cs : List Value) (vb : Nat) (ho : OwnS ZW w0 w v ps) (hb : Below w0.heap.size w0 w) (hl : ps.length ≤ 1000000) (hK : (k87).K ZW x cs) (hvb : w.heap[vb]? = some (.cells cs.toArray 87 (0, 0))) :
  Calls Tryz.prog 108 #[v, .int .i64 ps.length, .slice (some ⟨vb, 0, none⟩) 1 1] w fun e w' => ∃ v', e = .returned v' ∧ OwnS ZW w0 w' v' (ps ++ [(x, cs)]) ∧ Below w0.heap.size w0 w' := by
 obtain ⟨i0, hi, hz0, hz1, hz2⟩ := info_parts info87
 have H1 : Aside0 (∀ u ∈ cs, u.oneCell' = true) := ⟨(k87).K_one hK⟩
 have H3 : Aside0 (cs.length = 1 * 2) := ⟨(k87).K_len hK⟩
 have HC : Aside0 (∀ j u, cs[j]? = some u → w.cell? ((⟨vb, 0, none⟩ : Addr).add j) = some u) := ⟨fun j u hj => by
  rw [Addr.add_lit, Nat.zero_add, cell_of_list hvb j]; exact hj⟩
 have HO := zA ho
 have HB := zA hb
 have HK := zA hK
 have hn0 : (0 : Int) ≤ (ps.length : Int) := by omega
 have fin : ∀ v' w1, w1.ownsRow w0.heap.size 87 2 v' (ps.length + 1) (ps.flatMap (·.2) ++ cs) → w.grownBy w1 v.ownBlock → OwnS ZW w0 w1 v' (ps ++ [(x, cs)]) ∧ Below w0.heap.size w0 w1 := fun v' w1 hown hgrow => by
  refine ⟨⟨by simpa using hown, fun p hp => ?_⟩, HB.out.grown hgrow (below_size HB.out) fun k hk => ?_⟩
  ·rcases List.mem_append.1 hp with hp | hp
   ·exact HO.out.2 p hp
   ·obtain rfl := List.mem_singleton.1 hp
    exact HK.out
  ·rcases HO.out.1.2 with ⟨rfl, _⟩ | ⟨g, cap, cur, rfl, hg, _⟩
   ·simp [Value.ownBlock] at hk
   ·simp [Value.ownBlock] at hk
    omega
 have HF := zA fin
 clear fin hK hvb
 rcases ho.block with ⟨rfl, rfl⟩ | ⟨g, cap, L, rfl, hg, hh, hcn, hcm, hLl, hLt⟩
 ·clear ho hb
  go_enter Tryz.func108, Tryz.ntmps108
  go_wp2_with (at_builtin; refine wpList_append_own _ rfl (.tmp 23) (.tmp 24) 44 rfl w0.heap.size 87 i0 _ 2 _ Tryz.underlying44 hi hz0 hz1 hz2 rfl (by decide) _ 0 [] rfl HO.out.1 ⟨vb, 0, none⟩ 1 1 cs rfl H3.out HC.out H1.out ?qc4 ?qc5 (below_size HB.out) ?_)
  case qc4 => decide
  case qc5 => omega
  intro v' w1 hown hgrow hnil
  go_wp2
  go_ret
  exact ⟨v', rfl, HF.out v' w1 hown hgrow⟩
 ·have hn1 : (ps.length : Int) ≤ (cap : Int) := by omega
  have hn2 : (cap : Int) ≤ 9223372036854775807 := by unfold maxLen at hcm; omega
  clear ho hb hh hLl hLt
  go_enter Tryz.func108, Tryz.ntmps108
  by_cases hcap : cap = ps.length
  all_goals
   go_wp2_with (at_builtin; go_loud (refine wpList_append_own _ rfl (.tmp 23) (.tmp 24) 44 rfl w0.heap.size 87 i0 _ 2 _ Tryz.underlying44 hi hz0 hz1 hz2 rfl (by decide) (.slice (some ⟨g, 0, none⟩) ps.length cap) ps.length _ rfl HO.out.1 ⟨vb, 0, none⟩ 1 1 cs rfl H3.out HC.out H1.out ?qc4 ?qc5 (below_size HB.out) ?_))
   case qc4 => unfold maxLen; omega
   case qc5 => omega
   intro v' w1 hown hgrow hnil
   go_wp2
   go_ret
   exact ⟨v', rfl, HF.out v' w1 hown hgrow⟩
theorem seg_insS {A cs D T inn : List Value} {a n i : Nat} (hi : i ≤ n) (ha : a = i * 2) (hA : A.length = a + 2) (hc : cs.length = 2) (hD : D = inn.drop a) (hn : inn.length = n * 2) (hAi : A.take a = inn.take a) :
  ((A ++ D ++ T).take a ++ cs ++ (A ++ D ++ T).drop (a + cs.length)).take ((n + 1) * 2) = inn.take a ++ (cs ++ inn.drop a) := by
 have hDl : D.length = n * 2 - a := by rw [hD, List.length_drop, hn]
 have e1 : (A ++ D ++ T).take a = inn.take a := by rw [List.append_assoc, List.take_append_of_le_length (by omega), hAi]
 have e2 : (A ++ D ++ T).drop (a + 2) = D ++ T := by rw [List.append_assoc, ← hA, List.drop_left]
 have e3 : (inn.take a).length = a := by rw [List.length_take]; omega
 rw [hc, e1, e2, ← List.append_assoc, List.take_left' (by rw [zO, zO]; omega), List.append_assoc, hD]
set_option maxHeartbeats 4000000 in
set_option maxRecDepth 100000 in
theorem insert_roomS (ZW w0 w : World) (g cap : Nat) (L : List Value) (ps : List PrS) (i : Nat) (x : S87) (cs : List Value) (vb : Nat) (hb : Below w0.heap.size w0 w) (hg : w0.heap.size ≤ g) (hh : w.heap[g]? = some (.cells L.toArray 87 (0, 0))) (hroom : ps.length + 1 ≤ cap) (hcm : cap ≤ maxLen) (hLl : L.length = cap * 2) (hLt : L.take (ps.length * 2) = ps.flatMap (·.2)) (hKs : ∀ p ∈ ps, (k87).K ZW p.1 p.2)
  (hi : i < ps.length) (hl : ps.length ≤ 1000000) (hK : (k87).K ZW x cs) (hvb : w.heap[vb]? = some (.cells cs.toArray 87 (0, 0))) (hne : vb ≠ g) :
  Calls Tryz.prog 108 #[.slice (some ⟨g, 0, none⟩) ps.length cap, .int .i64 i, .slice (some ⟨vb, 0, none⟩) 1 1] w fun e w' => ∃ v', e = .returned v' ∧ OwnS ZW w0 w' v' (ps.take i ++ (x, cs) :: ps.drop i) ∧ Below w0.heap.size w0 w' := by
 have hc3 : cs.length = 2 := (k87).K_len hK
 have h1 : ∀ u ∈ cs, u.oneCell' = true := (k87).K_one hK
 have hps3 : ∀ p ∈ ps, p.2.length = 2 := fun p hp => (k87).K_len (hKs p hp)
 have hfl := flat_len ps hps3
 have h1i : ∀ u ∈ ps.flatMap (·.2), u.oneCell' = true := fun u hu => by
  rw [List.mem_flatMap] at hu
  obtain ⟨p, hp, hu⟩ := hu
  exact (k87).K_one (hKs p hp) u hu
 obtain ⟨n, hn⟩ : ∃ n, n = ps.length := ⟨_, rfl⟩
 obtain ⟨inn, hinn⟩ : ∃ inn, inn = ps.flatMap (·.2) := ⟨_, rfl⟩
 rw [← hinn] at hLt hfl h1i
 obtain ⟨D, hD⟩ : ∃ D, D = inn.drop (i * 2) := ⟨_, rfl⟩
 have hDl : D.length = (n - i) * 2 := by rw [hD, List.length_drop, hfl, hn]; omega
 have hD1 : ∀ u ∈ D, u.oneCell' = true := fun u hu => h1i u (by rw [hD] at hu; exact List.mem_of_mem_drop hu)
 have hcell := cell_of_list hh
 have hfz := frozen_of_list hh
 have hDc : ∀ j u, D[j]? = some u → L[i * 2 + j]? = some u := fun j u hj => by
  rw [hD, List.getElem?_drop, ← hLt, List.getElem?_take] at hj
  split at hj
  ·exact hj
  ·cases hj
 have hsz : (Tryz.prog.info? 87).map (·.size) = some 2 := by
  obtain ⟨i0, hi0, _, h3, _⟩ := info_parts info87
  rw [hi0]; simp [h3]
 rw [← hn] at hl hi hroom hLt hfl
 have hL2 : i * 2 + 2 + D.length ≤ L.length := by omega
 have hcp1 : ∀ ty dc sc, (Builtin.copy_ #[44, 44] ty #[.slice (some ⟨g, (i + 1) * 2, none⟩) (n - i) dc, .slice (some ⟨g, i * 2, none⟩) (n + 1 - i) sc]).run Tryz.prog w.drew = .ok (goInt (Nat.min (n + 1 - i) (n - i))) (w.drew.setCells g ((i + 1) * 2) D) := fun ty dc sc =>
  run_copy_k w.drew _ _ ty 87 2 g ((i + 1) * 2) (n - i) dc ⟨g, i * 2, none⟩ (n + 1 - i) sc D Tryz.underlying44 hsz (by rw [hDl]; simp only [Nat.min_def]; split <;> omega)
   (fun j v hj => by rw [Addr.add_lit]; exact (hcell _).trans (hDc j v hj))
   (fun j hj => by show (w.cell? _).isSome = true; rw [hcell, List.getElem?_eq_getElem (by omega)]; rfl) (fun j hj => hfz _) hD1
 obtain ⟨W1, hW1⟩ : ∃ W1, W1 = w.drew.setCells g ((i + 1) * 2) D := ⟨_, rfl⟩
 obtain ⟨L1, hL1⟩ : ∃ L1, L1 = L.take ((i + 1) * 2) ++ D ++ L.drop ((i + 1) * 2 + D.length) := ⟨_, rfl⟩
 have hh1 : W1.heap[g]? = some (.cells L1.toArray 87 (0, 0)) := by rw [hW1, hL1]; exact blk_setCells g D ((i + 1) * 2) w.drew L hh (by omega)
 have hv1 : W1.heap[vb]? = some (.cells cs.toArray 87 (0, 0)) := by
  rw [hW1, heap_setsK w g hne]; exact hvb
 have hL1l : L1.length = L.length := by rw [hL1]; simp only [zO, List.length_take, List.length_drop]; omega
 have hB1 : Below w0.heap.size w0 W1 := by rw [hW1]; exact below_sets hg _ _ (zK hb)
 have hcp2 : ∀ ty dc, (Builtin.copy_ #[44, 44] ty #[.slice (some ⟨g, i * 2, none⟩) (n + 1 - i) dc, .slice (some ⟨vb, 0, none⟩) 1 1]).run Tryz.prog W1 = .ok (goInt (Nat.min 1 (n + 1 - i))) (W1.setCells g (i * 2) cs) := fun ty dc =>
  run_copy_k W1 _ _ ty 87 2 g (i * 2) (n + 1 - i) dc ⟨vb, 0, none⟩ 1 1 cs Tryz.underlying44 hsz (by rw [hc3]; simp only [Nat.min_def]; split <;> omega)
   (fun j v hj => by rw [Addr.add_lit, Nat.zero_add]; exact (cell_of_list hv1 j).trans hj)
   (fun j hj => by rw [cell_of_list hh1, List.getElem?_eq_getElem (by omega)]; rfl) (fun j hj => frozen_of_list hh1 _) h1
 have hh2 := blk_setCells g cs (i * 2) W1 L1 hh1 (by omega)
 have hfin : OwnS ZW w0 (W1.setCells g (i * 2) cs) (.slice (some ⟨g, 0, none⟩) (n + 1) cap) (ps.take i ++ (x, cs) :: ps.drop i) := by
  refine OwnS.mk' hg hh2 (by simp; omega) hroom hcm (by simp only [zO, List.length_take, List.length_drop]; omega) ?_ fun p hp => ?_
  ·rw [flat_insS ps hps3 i (by omega), ← hinn, hL1]
   exact seg_insS (by omega) rfl (by rw [List.length_take]; omega) hc3 hD hfl (by rw [List.take_take, Nat.min_eq_left (by omega), ← hLt, List.take_take, Nat.min_eq_left (by omega)])
  ·rcases List.mem_append.1 hp with hp | hp
   ·exact hKs p (List.mem_of_mem_take hp)
   ·rcases List.mem_cons.1 hp with rfl | hp
    ·exact hK
    ·exact hKs p (List.mem_of_mem_drop hp)
 have HFIN := zA (show OwnS ZW w0 (W1.setCells g (i * 2) cs) (.slice (some ⟨g, 0, none⟩) (n + 1) cap) (ps.take i ++ (x, cs) :: ps.drop i) ∧ Below w0.heap.size w0 (W1.setCells g (i * 2) cs) from ⟨hfin, below_sets hg _ _ hB1⟩)
 have hov : ∀ lb cb, (callFunc 153 #[.slice (some ⟨vb, 0, none⟩) 1 1, .slice (some ⟨g, (i + 1) * 2, none⟩) lb cb]).run Tryz.prog w = .ok (.value (.bool false)) w := fun lb cb => by
  have hvc := hvb
  rw [run_callFunc_extern Tryz.func153 (by kernel_rfl) (by kernel_rfl) (by kernel_rfl) (e := Extern.SlicesOverlaps.overlaps #[44, 44] #[4]) (by kernel_rfl),
   Lib.run_overlaps_apart w 44 4 87 Tryz.underlying44 2 (sizeOf_k hsz) ⟨vb, 0, none⟩ ⟨g, (i + 1) * 2, none⟩ 1 1 lb cb hne 87 87 2 (cap * 2) (by simp [World.shape?, hvb, hc3]) (by simp [World.shape?, hh, hLl]) (by omega) (by simp [World.frozen?, hvb]) (by simp [World.frozen?, hvb])]
  rfl
 have hcm2 : cap ≤ 9223372036854775807 := by unfold maxLen at hcm; omega
 have hz2 : ¬ ((i : Int) = (n : Int)) := by omega
 have hin : i ≤ n := by omega
 have hw1 : IntKind.i64.wrap ((i : Int) + 1) = (i : Int) + 1 := by rw [IntKind.wrap_i64]; omega
 have hw2 : IntKind.i64.wrap ((n : Int) + 1) = (n : Int) + 1 := by rw [IntKind.wrap_i64]; omega
 have hb1 : (0 : Int) ≤ (i : Int) + 1 := by omega
 have htn : ((i : Int) + 1).toNat = i + 1 := by omega
 have hb2 : ¬ (cap = i + 1) := by omega
 have hb3 : (i : Int) ≤ (n : Int) + 1 := by omega
 have hb4 : ¬ (cap = i) := by omega
 have hb5 : ¬ ((cap : Int) < (n : Int) + 1) := by omega
 rw [← hn]
 rw [← hW1] at hcp1
 have HN := zA hn
 clear hn
 have mixed : Tryz.prog.follows .mixedOrders = true := by kernel_rfl
 clear hfin hh2 hB1 hL1l hv1 hh1 hL1 hW1 hL2 hDc hfz hcell hD1 hDl hD h1i hfl hps3 h1 hc3 hinn hvb hK hKs hLt hLl hh hb
 go_enter Tryz.func108, Tryz.ntmps108
 go_wp2_with (simp only [hov])
 go_region_law_o (refine step_copy_runK rfl _ _ 44 44 rfl _ _ (by simp [Act.eval, Act.put]) (by simp [Act.eval, Act.put]) (hcp1 _ _ _) ?_)
 go_wp2_with (at_builtin; go_loud (refine wpList_copy_runK _ rfl _ _ 44 44 rfl _ _ rfl rfl (hcp2 _ _) ?_))
 go_ret
 exact ⟨_, rfl, HFIN.out⟩
theorem zeroSp : ∀ w, (zeroValue 87).run Tryz.prog w = .ok (.agg #[.int .i64 0, .int .i64 0]) w := fun w => by
 obtain ⟨i0, hi0, hz0, _, _⟩ := info_parts info87
 simp [zeroValue, typeInfo, hi0, hz0]
theorem zerosSp2 (a b : Value) (n : Nat) (h : a.oneCell' = true ∧ b.oneCell' = true) : ((Builtin.zeroCells #[a, b] n).toList).length = n * 2 ∧ ∀ v ∈ (Builtin.zeroCells #[a, b] n).toList, v.oneCell' = true := by
 refine ⟨by simp [Builtin.zeroCells], fun v hv => ?_⟩
 simp only [Builtin.zeroCells, Array.toList_map, List.mem_map] at hv
 obtain ⟨i, _, rfl⟩ := hv
 have hm : i % 2 = 0 ∨ i % 2 = 1 := by omega
 show ((#[a, b] : Array Value)[i % 2]!).oneCell' = true
 rcases hm with e | e
 ·rw [e]; exact h.1
 ·rw [e]; exact h.2
set_option maxHeartbeats 4000000 in
set_option maxRecDepth 100000 in
theorem deleteS.calls (ZW w0 w : World) (g cap : Nat) (L : List Value) (ps : List PrS) (i : Nat) (hb : Below w0.heap.size w0 w) (hg : w0.heap.size ≤ g) (hh : w.heap[g]? = some (.cells L.toArray 87 (0, 0))) (hcn : ps.length ≤ cap) (hcm : cap ≤ maxLen) (hLl : L.length = cap * 2) (hLt : L.take (ps.length * 2) = ps.flatMap (·.2)) (hKs : ∀ p ∈ ps, (k87).K ZW p.1 p.2) (hi : i < ps.length) (hl : ps.length ≤ 1000000) :
  Calls Tryz.prog 107 #[.slice (some ⟨g, 0, none⟩) ps.length cap, .int .i64 i, .int .i64 ((i : Int) + 1)] w fun e w' => ∃ L' : List Value, e = .returned (.slice (some ⟨g, 0, none⟩) (ps.length - 1) cap) ∧ w'.heap[g]? = some (.cells L'.toArray 87 (0, 0)) ∧ L'.length = cap * 2 ∧ L'.take ((ps.length - 1) * 2) = (ps.take i ++ ps.drop (i + 1)).flatMap (·.2) ∧ Below w0.heap.size w0 w' := by
 have hps2 : ∀ p ∈ ps, p.2.length = 2 := fun p hp => (k87).K_len (hKs p hp)
 have hfl := flat_len ps hps2
 have h1i : ∀ u ∈ ps.flatMap (·.2), u.oneCell' = true := fun u hu => by
  rw [List.mem_flatMap] at hu
  obtain ⟨p, hp, hu⟩ := hu
  exact (k87).K_one (hKs p hp) u hu
 obtain ⟨n, hn⟩ : ∃ n, n = ps.length := ⟨_, rfl⟩
 obtain ⟨inn, hinn⟩ : ∃ inn, inn = ps.flatMap (·.2) := ⟨_, rfl⟩
 rw [← hinn] at hLt hfl h1i
 obtain ⟨D, hD⟩ : ∃ D, D = inn.drop ((i + 1) * 2) := ⟨_, rfl⟩
 have hDf : D = (ps.drop (i + 1)).flatMap (·.2) := by rw [hD, hinn, (flat_cut ps hps2 (i + 1) (by omega)).2]
 have hTf : inn.take (i * 2) = (ps.take i).flatMap (·.2) := by rw [hinn, (flat_cut ps hps2 i (by omega)).1]
 rw [← hn] at hl hi hLt hfl hcn
 have hDl : D.length = (n - (i + 1)) * 2 := by rw [hD, List.length_drop, hfl]; omega
 have hD1 : ∀ u ∈ D, u.oneCell' = true := fun u hu => h1i u (by rw [hD] at hu; exact List.mem_of_mem_drop hu)
 have hcell := cell_of_list hh
 have hfz := frozen_of_list hh
 have hDc : ∀ j u, D[j]? = some u → w.drew.cell? ⟨g, (i + 1) * 2 + j, none⟩ = some u := fun j u hj => by
  show w.cell? _ = _
  rw [hcell]
  rw [hD, List.getElem?_drop, ← hLt, List.getElem?_take] at hj
  split at hj
  ·exact hj
  ·cases hj
 obtain ⟨i0, hi0, hz0, hz1, hz2⟩ := info_parts info87
 have hsp : ∀ j, j < D.length → (w.drew.cell? ⟨g, 0 + i * 2 + j, none⟩).isSome = true ∧ w.drew.frozen? ⟨g, 0 + i * 2 + j, none⟩ = false := fun j hj => by
  show (w.cell? _).isSome = true ∧ w.frozen? _ = false
  exact ⟨by rw [hcell, List.getElem?_eq_getElem (by omega)]; rfl, hfz _⟩
 obtain ⟨L1, hL1⟩ : ∃ L1, L1 = L.take (i * 2) ++ D ++ L.drop (i * 2 + D.length) := ⟨_, rfl⟩
 obtain ⟨W1, hW1⟩ : ∃ W1, W1 = w.drew.setCells g (i * 2) D := ⟨_, rfl⟩
 have hh1 : W1.heap[g]? = some (.cells L1.toArray 87 (0, 0)) := by rw [hW1, hL1]; exact blk_setCells g D (i * 2) w.drew L hh (by omega)
 have hL1l : L1.length = cap * 2 := by rw [hL1]; simp only [zO, List.length_take, List.length_drop]; omega
 have hL1t : L1.take ((n - 1) * 2) = (ps.take i ++ ps.drop (i + 1)).flatMap (·.2) := by
  have e3 : (L.take (i * 2) ++ D).length = (n - 1) * 2 := by rw [zO, List.length_take]; omega
  rw [hL1, List.take_left' e3, List.flatMap_append, ← hDf, ← hTf, ← hLt, List.take_take, Nat.min_eq_left (by omega)]
 have hB1 : Below w0.heap.size w0 W1 := by rw [hW1]; exact below_sets hg _ _ (zK hb)
 have hz := zerosSp2 (.int .i64 0) (.int .i64 0) 1 ⟨rfl, rfl⟩
 obtain ⟨Z, hZ⟩ : ∃ Z, Z = (Builtin.zeroCells #[.int .i64 0, .int .i64 0] 1).toList := ⟨_, rfl⟩
 rw [← hZ] at hz
 have hcl : ∀ ty c, (Builtin.clear_ #[44] ty #[.slice (some ⟨g, (n - 1) * 2, none⟩) 1 c]).run Tryz.prog W1 = .ok (.tuple #[]) (W1.setCells g ((n - 1) * 2) Z) := fun ty c =>
  run_clear_k W1 _ 87 ty _ Tryz.underlying44 zeroSp g ((n - 1) * 2) 1 c (by omega) Z hZ hz.2 (fun t ht => by rw [cell_of_list hh1, List.getElem?_eq_getElem (by omega)]; rfl) (fun t ht => frozen_of_list hh1 _)
 have hh2 := blk_setCells g Z ((n - 1) * 2) W1 L1 hh1 (by omega)
 have hfin : ∃ L' : List Value, (W1.setCells g ((n - 1) * 2) Z).heap[g]? = some (.cells L'.toArray 87 (0, 0)) ∧ L'.length = cap * 2 ∧ L'.take ((n - 1) * 2) = (ps.take i ++ ps.drop (i + 1)).flatMap (·.2) ∧ Below w0.heap.size w0 (W1.setCells g ((n - 1) * 2) Z) :=
  ⟨_, hh2, by simp only [zO, List.length_take, List.length_drop]; omega, by rw [List.append_assoc, List.take_left' (by rw [List.length_take]; omega)]; exact hL1t, below_sets hg _ _ hB1⟩
 have HFIN := zA hfin
 have HSP := zA hsp
 have HDC := zA hDc
 have HD1 := zA hD1
 have HDL := zA hDl
 have hcm2 : cap ≤ 9223372036854775807 := by unfold maxLen at hcm; omega
 have hw1 : IntKind.i64.wrap ((i : Int) + 1) = (i : Int) + 1 := by rw [IntKind.wrap_i64]; omega
 have hb0 : (0 : Int) ≤ (i : Int) + 1 := by omega
 have hb1 : (i : Int) ≤ (i : Int) + 1 := by omega
 have hb2 : (i : Int) + 1 ≤ (n : Int) := by omega
 have hb3 : (n : Int) ≤ (cap : Int) := by omega
 have hb4 : (i : Int) ≤ (cap : Int) := by omega
 have hb5 : ((i : Int) == (i : Int) + 1) = false := beq_eq_false_iff_ne.2 (by omega)
 have htn : ((i : Int) + 1).toNat = i + 1 := by omega
 have hb6 : ((n - 1 : Nat) : Int) ≤ (n : Int) := by omega
 have hb7 : ¬ (cap = n - 1) := by omega
 have hb8 : ¬ (cap = i) := by omega
 have hb9 : i + (n - (i + 1)) = n - 1 := by omega
 have hba : i + 1 - i = 1 := by omega
 have hbb : n - (n - 1) = 1 := by omega
 have hroom : i + (n - (i + 1)) ≤ cap := by omega
 rw [← hn]
 have HW1 := zA hW1
 have mixed : Tryz.prog.follows .mixedOrders = true := by kernel_rfl
 clear hfin hh2 hB1 hL1l hh1 hL1 hDc hfz hcell hD1 hDl hD h1i hfl hps2 hinn hKs hLt hLl hh hb hsp hL1t hDf hTf hz hZ hn hW1
 by_cases hce : cap = i + 1
 ·obtain rfl : n = i + 1 := by omega
  subst hce
  rw [Nat.add_sub_cancel] at hcl HFIN ⊢
  have hdl : D.length = 0 * 2 := by have := HDL.out; omega
  have hb10 : ((i : Nat) : Int) ≤ (i : Int) + 1 := by omega
  go_enter Tryz.func107, Tryz.ntmps107
  go_wp2
  go_region_law (refine step_append_room rfl (.tmp 22) (.tmp 25) 44 rfl 87 i0 2 Tryz.underlying44 hi0 hz1 g 0 i (i + 1) (by simp [Act.eval, Act.put]) ⟨g, 0, none⟩ 0 0 D (by simp [Act.eval, Act.put]) hdl (fun j u hj => by rw [List.getElem?_eq_none (by omega)] at hj; cases hj) HD1.out (by omega) HSP.out ?_)
  rw [HW1.out.symm]
  go_wp2_with (at_builtin; go_loud (simp only [hcl]))
  go_ret
  obtain ⟨L', a1, a2, a3, a4⟩ := HFIN.out
  exact ⟨L', rfl, a1, a2, a3, a4⟩
 ·go_enter Tryz.func107, Tryz.ntmps107
  go_wp2
  go_region_law (refine step_append_room rfl (.tmp 22) (.tmp 25) 44 rfl 87 i0 2 Tryz.underlying44 hi0 hz1 g 0 i cap (by simp [Act.eval, Act.put]) ⟨g, (i + 1) * 2, none⟩ (n - (i + 1)) (cap - (i + 1)) D (by simp [Act.eval, Act.put]) HDL.out (fun j u hj => by rw [Addr.add_lit]; exact HDC.out j u hj) HD1.out hroom HSP.out ?_)
  rw [HW1.out.symm]
  go_wp2_with (at_builtin; go_loud (simp only [hcl]))
  go_ret
  obtain ⟨L', a1, a2, a3, a4⟩ := HFIN.out
  exact ⟨L', rfl, a1, a2, a3, a4⟩
def lowV (l : List Sp) (n : Int) : List Sp × List Sp × Bool := match l.findIdx? (fun s => decide (s.f1 ≥ n)) with
 | none => ([], [], false)
 | some i => match l[i]? with
  | none => ([], [], false)
  | some s => ([⟨s.f0, n⟩], l.take i ++ (if s.f1 > n then [⟨s.f0 + n, s.f1 - n⟩] else []) ++ l.drop (i + 1), true)
theorem lowV_some {l : List Sp} {n : Int} {i : Nat} (hi : i < l.length) (h : l.findIdx? (fun s => decide (s.f1 ≥ n)) = some i) : lowV l n = ([⟨(l[i]).f0, n⟩], l.take i ++ (if (l[i]).f1 > n then [⟨(l[i]).f0 + n, (l[i]).f1 - n⟩] else []) ++ l.drop (i + 1), true) := by
 unfold lowV
 rw [h]
 simp only
 rw [List.getElem?_eq_getElem hi]
theorem lowV_none {l : List Sp} {n : Int} (h : l.findIdx? (fun s => decide (s.f1 ≥ n)) = none) : lowV l n = ([], [], false) := by
 unfold lowV
 rw [h]
theorem insertS.calls (ZW w0 w : World) (g cap : Nat) (L : List Value) (ps : List PrS) (i : Nat) (x : Sp) (cs : List Value) (vb : Nat) (hb : Below w0.heap.size w0 w) (hg : w0.heap.size ≤ g) (hh : w.heap[g]? = some (.cells L.toArray 87 (0, 0))) (hroom : ps.length + 1 ≤ cap) (hcm : cap ≤ maxLen) (hLl : L.length = cap * 2) (hLt : L.take (ps.length * 2) = ps.flatMap (·.2)) (hKs : ∀ p ∈ ps, (k87).K ZW p.1 p.2)
  (hi : i ≤ ps.length) (hl : ps.length ≤ 1000000) (hK : (k87).K ZW x cs) (hvb : w.heap[vb]? = some (.cells cs.toArray 87 (0, 0))) (hne : vb ≠ g) :
  Calls Tryz.prog 108 #[.slice (some ⟨g, 0, none⟩) ps.length cap, .int .i64 i, .slice (some ⟨vb, 0, none⟩) 1 1] w fun e w' => ∃ v', e = .returned v' ∧ OwnS ZW w0 w' v' (ps.take i ++ (x, cs) :: ps.drop i) ∧ Below w0.heap.size w0 w' := by
 by_cases he : i = ps.length
 ·subst he
  have := insert_endS ZW w0 w _ ps x cs vb (OwnS.mk' hg hh rfl (by omega) hcm hLl hLt hKs) hb hl hK hvb
  rwa [List.take_length, List.drop_length]
 ·exact insert_roomS ZW w0 w g cap L ps i x cs vb hb hg hh hroom hcm hLl hLt hKs (by omega) hl hK hvb hne
theorem OwnS.masked {T : Nat → Prop} {ZW w0 w' : World} {v : Value} {ps : List PrS} (h : OwnS ZW w0 w' v ps) (hT : ∀ k, T k → k < w0.heap.size) : ∃ A c, v = .slice A (ps.map (·.1)).length c ∧ (ps.map (·.1)).length ≤ c ∧ Kd.C k87 (mask T w') A (ps.map (·.1)).length (ps.map (·.1)) := by
 have h' : OwnS (mask (fun _ => True) w0) w0 (mask T w') v ps := ⟨row_kept h.1 fun k hk => mask_at fun hm => by have := own_base h.1 k hk; have := hT k hm; omega, fun p hp => h.2 p hp⟩
 refine h'.reads fun a v hc => ?_
 rw [mask_none trivial] at hc
 cases hc
theorem cloneSB.calls (A : Option Addr) (c : Nat) (l : List Sp) (w W : World) (hb : Below w.heap.size w W) (hr : Kd.C k87 w A l.length l) (hl : l.length ≤ 1000000) (h0 : 0 < l.length) :
  Calls Tryz.prog 56 #[.slice A l.length c] W fun e w' => ∃ (g cap : Nat) (L : List Value) (ps : List PrS), e = .returned (.slice (some ⟨g, 0, none⟩) l.length cap) ∧ ps.map (·.1) = l ∧ W.heap.size ≤ g ∧ w'.heap[g]? = some (.cells L.toArray 87 (0, 0)) ∧ l.length ≤ cap ∧ cap ≤ maxLen ∧ L.length = cap * 2 ∧ L.take (l.length * 2) = ps.flatMap (·.2) ∧ (∀ p ∈ ps, (k87).K w p.1 p.2) ∧ Below W.heap.size W w' := by
 refine (cloneS2.calls A c l w W W (sub_below hb) hr (Below.refl _ _) hl).mono ?_
 rintro e w' ⟨v, ps, rfl, hm, ho, hb'⟩
 have hpl : ps.length = l.length := by rw [← hm, List.length_map]
 rcases ho.block with ⟨rfl, rfl⟩ | ⟨g, cap, L, rfl, hg, hh, hcn, hcm, hLl, hLt⟩
 ·simp at hpl; omega
 ·rw [hpl] at hcn hLt ⊢
  exact ⟨g, cap, L, ps, rfl, hm, hg, hh, hcn, hcm, hLl, hLt, ho.2, hb'⟩
theorem vlow1.calls (n : Int) (gb : Nat) (w : World) (hn : w.cell? ⟨gb, 0, none⟩ = some (.int .i64 n)) : PredC k87 106 #[.pointer (some ⟨gb, 0, none⟩)] (fun s => decide (s.f1 ≥ n)) w := by
 intro W x cs hb hk
 obtain ⟨c0, c1, rfl, h0, h1⟩ := hk
 cases h0; cases h1
 have hlt : gb < w.heap.size := zB w _ hn
 have hc : W.cell? ⟨gb, 0, none⟩ = some (.int .i64 n) := (hb.cell hlt).trans hn
 have hlt2 : gb < W.heap.size := zB W _ hc
 clear hn
 have hu := Tryz.underlying87
 go_enter Tryz.func106, Tryz.ntmps106
 go_wp2
 go_ret
 exact ⟨rfl, Below.alloc (Below.refl _ _) (Nat.le_refl _) _⟩
theorem own1 {T : Nat → Prop} {w w' : World} {g : Nat} {x : Sp} (hT : ∀ k, T k → k < w.heap.size) (hg : w.heap.size ≤ g) (hh : w'.heap[g]? = some (.cells #[.int .i64 x.f0, .int .i64 x.f1] 87 (0, 0))) : Kd.C k87 (mask T w') (some ⟨g, 0, none⟩) 1 [x] := by
 have h : OwnS w w w' (.slice (some ⟨g, 0, none⟩) 1 1) [(x, [.int .i64 x.f0, .int .i64 x.f1])] := OwnS.mk' (L := [.int .i64 x.f0, .int .i64 x.f1]) hg hh rfl (by decide) (by decide) rfl rfl fun p hp => by
  obtain rfl := List.mem_singleton.1 hp
  exact ⟨_, _, rfl, rfl, rfl⟩
 obtain ⟨A, c, e, _, hC⟩ := h.masked hT
 cases e
 exact hC
set_option maxHeartbeats 4000000 in
set_option maxRecDepth 100000 in
theorem vlow.calls (T : Nat → Prop) (A : Option Addr) (c : Nat) (l : List Sp) (n : Int) (w : World) (hT : ∀ k, T k → k < w.heap.size) (hr : Kd.C k87 w A l.length l) (hc : l.length ≤ c) (hl : l.length ≤ 100000) (hok : OkL 8192 l) (h0 : 0 ≤ n) (hn : n ≤ 100000) :
  Calls Tryz.prog 50 #[.slice A l.length c, .int .i64 n] w fun e w' => ∃ A1 c1 A2 c2, e = .returned (.tuple #[.slice A1 (lowV l n).1.length c1, .slice A2 (lowV l n).2.1.length c2, .bool (lowV l n).2.2]) ∧ (lowV l n).1.length ≤ c1 ∧ (lowV l n).2.1.length ≤ c2 ∧ Kd.C k87 (mask T w') A1 (lowV l n).1.length (lowV l n).1 ∧ Kd.C k87 (mask T w') A2 (lowV l n).2.1.length (lowV l n).2.1 ∧ Below w.heap.size w w' := by
 have eg : ∀ args w, (callFunc 106 args).run Tryz.prog w = .ok (.enter 106 args) w := enters_of Tryz.func106 (by kernel_rfl) rfl
 have hW0 : Below w.heap.size w (w.alloc (.cells #[.int .i64 n] 3)) := zJ (Below.refl _ w) _
 have hF0 : (w.alloc (.cells #[.int .i64 n] 3)).heap[w.heap.size]? = some (.cells #[.int .i64 n] 3 (0, 0)) := blk_new w _
 have HF0 := zA hF0
 have HW0 := zA hW0
 have HIDX := zA (idxSpan.calls (fun s => decide (s.f1 ≥ n)) 106 #[.pointer (some ⟨w.heap.size, 0, none⟩)] eg A c l (w.alloc (.cells #[.int .i64 n] 3)) (Kd.C_below hr hW0) (vlow1.calls n w.heap.size _ ((zN hF0 0).trans rfl)))
 have hidx : idxP (fun s : Sp => decide (s.f1 ≥ n)) l = (match l.findIdx? (fun s => decide (s.f1 ≥ n)) with | some i => (i : Int) | none => -1) := rfl
 have hu := Tryz.underlying87
 have HR := zA hr
 cases hf : l.findIdx? (fun s => decide (s.f1 ≥ n)) with
 | none =>
  rw [hf] at hidx
  simp only at hidx
  rw [hidx] at HIDX
  rw [lowV_none hf]
  clear hf hidx hr hok hW0 hF0
  go_enter Tryz.func50, Tryz.ntmps50
  go_wp2_with (go_at_call 105; go_loud (refine HIDX.out.mono ?_; rintro e w1 ⟨rfl, hb1⟩; have HB1 := zA (HW0.out.trans (hb1.mono (below_size HW0.out))); clear hb1))
  go_ret3
  exact ⟨none, 0, none, 0, rfl, Nat.le_refl _, Nat.le_refl _, ⟨rfl, by decide, fun h => by cases h⟩, ⟨rfl, by decide, fun h => by cases h⟩, HB1.out⟩
 | some i =>
  rw [hf] at hidx
  simp only at hidx
  rw [hidx] at HIDX
  have hf2 := hf
  rw [List.findIdx?_eq_some_iff_getElem] at hf2
  obtain ⟨hi, hge, -⟩ := hf2
  have hge2 : n ≤ (l[i]).f1 := by simpa using hge
  have hsx := hok l[i] (List.getElem_mem hi)
  have hrd := rd_T87_get l i hi
  have HAT := zA (fun W (hW : Below w.heap.size w W) => at_T87 (Kd.C_below hr hW) (i : Int) (by omega) (by omega))
  rw [hrd, Int.toNat_natCast] at HAT
  rw [lowV_some hi hf]
  generalize l[i] = x at *
  obtain ⟨f0, f1⟩ := x
  obtain ⟨hp1, hp2, hp3⟩ := hsx
  simp only at hge2 hp1 hp2 hp3 HAT ⊢
  have hi0 : (0 : Int) ≤ (i : Int) := by omega
  have hi1 : (i : Int) < (l.length : Int) := by omega
  have hi2 : decide ((i : Int) < 0) = false := zI (by omega)
  have hw1 : IntKind.i64.wrap ((i : Int) + 1) = (i : Int) + 1 := by rw [IntKind.wrap_i64]; omega
  have hw2 : IntKind.i64.wrap (f0 + n) = f0 + n := by rw [IntKind.wrap_i64]; omega
  have hw3 : IntKind.i64.wrap (f1 - n) = f1 - n := by rw [IntKind.wrap_i64]; omega
  have HCL := zA (fun W (hW : Below w.heap.size w W) => cloneSB.calls A c l w W hW hr (by omega) (by omega))
  have HI := zA (And.intro hi hl)
  have HDL := zA (show ∀ W w3 g cap (L : List Value) (ps : List PrS), ps.map (·.1) = l → W.heap.size ≤ g → w3.heap[g]? = some (.cells L.toArray 87 (0, 0)) → l.length ≤ cap → cap ≤ maxLen → L.length = cap * 2 → L.take (l.length * 2) = ps.flatMap (·.2) → (∀ p ∈ ps, (k87).K w p.1 p.2) → Below W.heap.size W w3 →
    Calls Tryz.prog 107 #[.slice (some ⟨g, 0, none⟩) l.length cap, .int .i64 i, .int .i64 ((i : Int) + 1)] w3 fun e w' => ∃ L' : List Value, e = .returned (.slice (some ⟨g, 0, none⟩) (l.length - 1) cap) ∧ w'.heap[g]? = some (.cells L'.toArray 87 (0, 0)) ∧ L'.length = cap * 2 ∧ L'.take ((l.length - 1) * 2) = (ps.take i ++ ps.drop (i + 1)).flatMap (·.2) ∧ (ps.take i ++ ps.drop (i + 1)).length = l.length - 1 ∧ (ps.take i).length = i ∧ (ps.take i ++ ps.drop (i + 1)).map (·.1) = l.take i ++ l.drop (i + 1) ∧ (∀ p ∈ ps.take i ++ ps.drop (i + 1), (k87).K w p.1 p.2) ∧ Below W.heap.size W w' from fun W w3 g cap L ps hm hg hh hcn hcm hLl hLt hK hb => by
   have hpl : ps.length = l.length := by rw [← hm, List.length_map]
   have h := deleteS.calls w W w3 g cap L ps i hb hg hh (by omega) hcm hLl (by rw [hpl]; exact hLt) hK (by omega) (by omega)
   rw [hpl] at h
   refine h.mono ?_
   rintro e w' ⟨L', rfl, a1, a2, a3, a4⟩
   exact ⟨L', rfl, a1, a2, a3, by rw [zO, List.length_take, List.length_drop]; omega, by rw [List.length_take]; omega, by rw [List.map_append, List.map_take, List.map_drop, hm], fun p hp => (List.mem_append.1 hp).elim (fun q => hK p (List.mem_of_mem_take q)) (fun q => hK p (List.mem_of_mem_drop q)), a4⟩)
  have HIN := zA (show ∀ (W w4 : World) (g cap : Nat) (L : List Value) (qs : List PrS), W.heap.size ≤ g → w4.heap[g]? = some (.cells L.toArray 87 (0, 0)) → l.length ≤ cap → cap ≤ maxLen → L.length = cap * 2 → L.take ((l.length - 1) * 2) = qs.flatMap (·.2) → qs.length = l.length - 1 → (∀ p ∈ qs, (k87).K w p.1 p.2) → Below W.heap.size W w4 →
    Calls Tryz.prog 108 #[.slice (some ⟨g, 0, none⟩) (l.length - 1) cap, .int .i64 i, .slice (some ⟨w4.heap.size, 0, none⟩) 1 1] (w4.alloc (.cells #[.int .i64 (f0 + n), .int .i64 (f1 - n)] 87)) fun e w' => ∃ v', e = .returned v' ∧ OwnS w W w' v' (qs.take i ++ (⟨f0 + n, f1 - n⟩, [.int .i64 (f0 + n), .int .i64 (f1 - n)]) :: qs.drop i) ∧ Below W.heap.size W w' from fun W w4 g cap L qs hg hh hcn hcm hLl hLt hq hK hb => by
   have h := insertS.calls w W (w4.alloc (.cells #[.int .i64 (f0 + n), .int .i64 (f1 - n)] 87)) g cap L qs i ⟨f0 + n, f1 - n⟩ [.int .i64 (f0 + n), .int .i64 (f1 - n)] w4.heap.size (zJ hb _) hg ((Below.heap_alloc w4 _ g (blk_lt hh)).trans hh) (by omega) hcm hLl (by rw [hq]; exact hLt) hK (by omega) (by omega) ⟨_, _, rfl, rfl, rfl⟩ (blk_new w4 _) (fun h => by have := blk_lt hh; omega)
   rw [hq] at h
   exact h)
  clear hf hge hidx hrd hok hr
  by_cases hgt : f1 > n
  ·have hgt2 : decide (f1 > n) = true := zH hgt
   rw [if_pos hgt]
   clear hgt hi hp1 hp2 hp3 hge2 hl hn h0
   go_enter Tryz.func50, Tryz.ntmps50
   go_wp2_with (first
    | (go_at_call 105; go_loud (refine HIDX.out.mono ?_; rintro e w1 ⟨rfl, hb1⟩; have HB1 := zA (HW0.out.trans (hb1.mono (below_size HW0.out))); have k1 := (show w1.cell? ⟨w.heap.size, 0, none⟩ = some (.int .i64 n) from (zN (blk_below HF0.out hb1) 0).trans rfl); obtain ⟨ad, rfl, hx0, hx1⟩ := HAT.out _ HB1.out; clear hb1))
    | (go_at_call 56; go_loud (refine (HCL.out _ (zJ HB1.out _)).mono ?_; rintro e w3 ⟨g, cap, L, ps, rfl, c1, c2, c3, c4, c5, c6, c7, c8, hb3⟩; have k2 := (show (w1.alloc (.cells #[.int .i64 f0, .int .i64 f1] 87)).cell? ⟨w.heap.size, 0, none⟩ = some (.int .i64 n) from Lib.cell?_alloc_some _ k1); have f2 := blk_new w1 (.cells #[.int .i64 f0, .int .i64 f1] 87); have HK2 := zA (And.intro k2 f2); clear k2 f2; have HQ := zA (And.intro c1 (And.intro c2 (And.intro c3 (And.intro c4 (And.intro c5 (And.intro c6 (And.intro c7 (And.intro c8 hb3)))))))); clear c1 c2 c3 c4 c5 c6 c7 c8 hb3))
    | (go_at_call 107; go_loud (refine (HDL.out (w1.alloc (.cells #[.int .i64 f0, .int .i64 f1] 87)) w3 g cap L ps HQ.out.1 HQ.out.2.1 HQ.out.2.2.1 HQ.out.2.2.2.1 HQ.out.2.2.2.2.1 HQ.out.2.2.2.2.2.1 HQ.out.2.2.2.2.2.2.1 HQ.out.2.2.2.2.2.2.2.1 HQ.out.2.2.2.2.2.2.2.2).mono ?_; rintro e w4 ⟨L4, rfl, d1, d2, d3, d4, d5, d6, d7, hb4⟩; have k4 := (hb4.cell (zB _ _ HK2.out.1)).trans HK2.out.1; have f4 := blk_below HK2.out.2 hb4; have k40 := (show w4.cell? ⟨w1.heap.size, 0, none⟩ = some (.int .i64 f0) from (zN f4 0).trans rfl); have k41 := (show w4.cell? ⟨w1.heap.size, 1, none⟩ = some (.int .i64 f1) from (zN f4 1).trans rfl); have HD4 := zA (And.intro d1 (And.intro d2 (And.intro d3 (And.intro d4 (And.intro d5 (And.intro d6 (And.intro d7 hb4))))))); clear d1 d2 d3 d4 d5 d6 d7 hb4 f4))
    | (go_at_call 108; go_loud (refine (HIN.out (w1.alloc (.cells #[.int .i64 f0, .int .i64 f1] 87)) w4 g cap L4 (ps.take i ++ ps.drop (i + 1)) HQ.out.2.1 HD4.out.1 HQ.out.2.2.2.1 HQ.out.2.2.2.2.1 HD4.out.2.1 HD4.out.2.2.1 HD4.out.2.2.2.1 HD4.out.2.2.2.2.2.2.1 HD4.out.2.2.2.2.2.2.2).mono ?_; rintro e w5 ⟨v5, rfl, ho5, hb5⟩; obtain ⟨A5, c5_, rfl, e1, e2⟩ := ho5.masked (T := T) (fun k q => by have := hT k q; have := below_size HB1.out; simp; omega); have k5 := (hb5.cell (zB _ _ HK2.out.1)).trans HK2.out.1; have f5 := blk_below HK2.out.2 hb5; have k50 := (show w5.cell? ⟨w1.heap.size, 0, none⟩ = some (.int .i64 f0) from (zN f5 0).trans rfl); have HE5 := zA (And.intro e1 (And.intro e2 hb5)); clear e1 e2 hb5 f5 ho5)))
   go_ret3
   obtain ⟨e1, e2, hb5⟩ := HE5.out
   have hbw : Below w.heap.size w w5 := (zJ HB1.out _).trans (hb5.mono (below_size (zJ HB1.out _)))
   have hbf : Below w.heap.size w (w5.alloc (.cells #[.int .i64 f0, .int .i64 n] 87)) := zJ hbw _
   have hsub : Sub (mask T w5) (mask T (w5.alloc (.cells #[.int .i64 f0, .int .i64 n] 87))) := sub_move (zP (zJ (Below.refl w5.heap.size w5) _) (fun _ => False)) (fun _ h => h.elim) fun _ _ h => h
   have h1 := own1 (T := T) (x := ⟨f0, n⟩) hT (below_size hbw) (blk_new w5 (.cells #[.int .i64 f0, .int .i64 n] 87))
   have hm := HQ.out.1
   have hpl : ps.length = l.length := by rw [← hm, List.length_map]
   have hlt := HI.out.1
   have heq : ((ps.take i ++ ps.drop (i + 1)).take i ++ ((⟨f0 + n, f1 - n⟩ : Sp), [Value.int .i64 (f0 + n), Value.int .i64 (f1 - n)]) :: (ps.take i ++ ps.drop (i + 1)).drop i).map (·.1) = l.take i ++ [⟨f0 + n, f1 - n⟩] ++ l.drop (i + 1) := by
    have e3 : (ps.take i).length = i := by rw [List.length_take]; omega
    rw [List.take_left' e3, List.drop_left' e3, List.map_append, List.map_cons, List.map_take, List.map_drop, hm, List.append_assoc]
    rfl
   rw [← heq]
   refine ⟨_, 1, A5, c5_, ?_, Nat.le_refl _, e1, h1, mono_span.C hsub e2, hbf⟩
   simp
  ·have hgt2 : decide (f1 > n) = false := zI hgt
   rw [if_neg hgt]
   clear hgt hi hp1 hp2 hp3 hge2 hl hn h0
   go_enter Tryz.func50, Tryz.ntmps50
   go_wp2_with (first
    | (go_at_call 105; go_loud (refine HIDX.out.mono ?_; rintro e w1 ⟨rfl, hb1⟩; have HB1 := zA (HW0.out.trans (hb1.mono (below_size HW0.out))); have k1 := (show w1.cell? ⟨w.heap.size, 0, none⟩ = some (.int .i64 n) from (zN (blk_below HF0.out hb1) 0).trans rfl); obtain ⟨ad, rfl, hx0, hx1⟩ := HAT.out _ HB1.out; clear hb1))
    | (go_at_call 56; go_loud (refine (HCL.out _ (zJ HB1.out _)).mono ?_; rintro e w3 ⟨g, cap, L, ps, rfl, c1, c2, c3, c4, c5, c6, c7, c8, hb3⟩; have k2 := (show (w1.alloc (.cells #[.int .i64 f0, .int .i64 f1] 87)).cell? ⟨w.heap.size, 0, none⟩ = some (.int .i64 n) from Lib.cell?_alloc_some _ k1); have f2 := blk_new w1 (.cells #[.int .i64 f0, .int .i64 f1] 87); have HK2 := zA (And.intro k2 f2); clear k2 f2; have HQ := zA (And.intro c1 (And.intro c2 (And.intro c3 (And.intro c4 (And.intro c5 (And.intro c6 (And.intro c7 (And.intro c8 hb3)))))))); clear c1 c2 c3 c4 c5 c6 c7 c8 hb3))
    | (go_at_call 107; go_loud (refine (HDL.out (w1.alloc (.cells #[.int .i64 f0, .int .i64 f1] 87)) w3 g cap L ps HQ.out.1 HQ.out.2.1 HQ.out.2.2.1 HQ.out.2.2.2.1 HQ.out.2.2.2.2.1 HQ.out.2.2.2.2.2.1 HQ.out.2.2.2.2.2.2.1 HQ.out.2.2.2.2.2.2.2.1 HQ.out.2.2.2.2.2.2.2.2).mono ?_; rintro e w4 ⟨L4, rfl, d1, d2, d3, d4, d5, d6, d7, hb4⟩; have k4 := (hb4.cell (zB _ _ HK2.out.1)).trans HK2.out.1; have f4 := blk_below HK2.out.2 hb4; have k40 := (show w4.cell? ⟨w1.heap.size, 0, none⟩ = some (.int .i64 f0) from (zN f4 0).trans rfl); have k41 := (show w4.cell? ⟨w1.heap.size, 1, none⟩ = some (.int .i64 f1) from (zN f4 1).trans rfl); have HD4 := zA (And.intro d1 (And.intro d2 (And.intro d3 (And.intro d4 (And.intro d5 (And.intro d6 (And.intro d7 hb4))))))); clear d1 d2 d3 d4 d5 d6 d7 hb4 f4)))
   go_ret3
   obtain ⟨d1, d2, d3, d4, d5, d6, d7, hb4⟩ := HD4.out
   have hbw : Below w.heap.size w w4 := (zJ HB1.out _).trans (hb4.mono (below_size (zJ HB1.out _)))
   have hbf : Below w.heap.size w (w4.alloc (.cells #[.int .i64 f0, .int .i64 n] 87)) := zJ hbw _
   have hsub : Sub (mask T w4) (mask T (w4.alloc (.cells #[.int .i64 f0, .int .i64 n] 87))) := sub_move (zP (zJ (Below.refl w4.heap.size w4) _) (fun _ => False)) (fun _ h => h.elim) fun _ _ h => h
   have h1 := own1 (T := T) (x := ⟨f0, n⟩) hT (below_size hbw) (blk_new w4 (.cells #[.int .i64 f0, .int .i64 n] 87))
   have hg := HQ.out.2.1
   have ho : OwnS w w w4 (.slice (some ⟨g, 0, none⟩) (l.length - 1) cap) (ps.take i ++ ps.drop (i + 1)) := OwnS.mk' (by have := below_size (zJ HB1.out (.cells #[.int .i64 f0, .int .i64 f1] 87)); omega) d1 d4.symm (by have := HQ.out.2.2.2.1; omega) HQ.out.2.2.2.2.1 d2 d3 d7
   obtain ⟨A5, c5_, e0, e1, e2⟩ := ho.masked hT
   have heq : (ps.take i ++ ps.drop (i + 1)).map (·.1) = l.take i ++ [] ++ l.drop (i + 1) := by rw [List.append_nil]; exact d6
   rw [← heq]
   refine ⟨_, 1, A5, c5_, ?_, Nat.le_refl _, e1, h1, mono_span.C hsub e2, hbf⟩
   rw [← e0]
   rfl
def headN (V : VV) (n : Nat) (In : List Sp) : HV := ⟨IntKind.u64.wrap (V.h.gen + 1), V.h.sect, n, In⟩
def commit4 (V : VV) (T : TV) (D : DV) (h : HV) (sec : ByteArray) : Int × VV × TV × DV :=
 if D.flush.1 ≠ 0 then (D.flush.1, V, T, D.flush.2) else
 if (D.flush.2.write (1 - V.slot) sec).1 ≠ 0 then ((D.flush.2.write (1 - V.slot) sec).1, V, T, (D.flush.2.write (1 - V.slot) sec).2) else
 if (D.flush.2.write (1 - V.slot) sec).2.flush.1 ≠ 0 then ((D.flush.2.write (1 - V.slot) sec).2.flush.1, V, T, (D.flush.2.write (1 - V.slot) sec).2.flush.2) else
 (0, { V with h := h, slot := 1 - V.slot, l := T.l }, T, (D.flush.2.write (1 - V.slot) sec).2.flush.2)
def commit3 (V : VV) (T : TV) (D : DV) (h : HV) : Int × VV × TV × DV :=
 if (headP h).2 ≠ 0 then ((headP h).2, V, T, D) else commit4 V T D h (B (headP h).1)
def commit2 (V : VV) (T : TV) (D : DV) (s : List UInt8) : Int × VV × TV × DV :=
 if (lowV T.free (needV s.length)).2.2 = false then (6, V, T, D) else
 if (wrF (lowV T.free (needV s.length)).1 s D).1 ≠ 0 then ((wrF (lowV T.free (needV s.length)).1 s D).1, V, { T with free := (lowV T.free (needV s.length)).2.1 }, (wrF (lowV T.free (needV s.length)).1 s D).2) else
 commit3 V { T with free := (lowV T.free (needV s.length)).2.1 } (wrF (lowV T.free (needV s.length)).1 s D).2 (headN V s.length (lowV T.free (needV s.length)).1)
def commitV (V : VV) (T : TV) (D : DV) : Int × VV × TV × DV :=
 if overV T V = true then (7, V, T, D) else
 if 120 < T.l.length then (3, V, { T with done := true }, D) else
 if (putV T.l).2 ≠ 0 then ((putV T.l).2, V, { T with done := true }, D) else
 commit2 V { T with done := true } D (putV T.l).1
def Via (w w' : World) (S M S' M' : Nat → Prop) : Prop := (∀ k, S k → S' k) ∧ (∀ k, M k → M' k) ∧ (∀ k, M' k → M k ∨ w.heap.size ≤ k) ∧ Kept w w' M
def ComTo (w0 w w' : World) (S M : Nat → Prop) (gd gv gt : Nat) (D : DV) (V : VV) (T : TV) : Prop := ∃ S' M' : Nat → Prop, TxSys w0 w' S' M' gd gv gt D V T ∧ Via w w' S M S' M'
theorem TxSys.com {w0 w w' : World} {S M : Nat → Prop} {gd gv gt : Nat} {D : DV} {V : VV} {T : TV} (h : TxSys w0 w S M gd gv gt D V T) (hb : Below w.heap.size w w') : ComTo w0 w w' S M gd gv gt D V T :=
 ⟨S, M, h.past hb, fun _ h => h, fun _ h => h, fun _ h => .inl h, zP hb _⟩
theorem TxTo.com {w0 w w' : World} {S M : Nat → Prop} {gd gv gt : Nat} {D D0 : DV} {V V0 : VV} {T T0 : TV} (h : TxTo w0 w w' S M gd gv gt D V T) (hX : TxSys w0 w S M gd gv gt D0 V0 T0) : ComTo w0 w w' S M gd gv gt D V T := by
 obtain ⟨S', M', h1, h2, h3, h4, h5⟩ := h
 exact ⟨S', M', h1, h2, h3, h4, h5.mono fun k q => q.elim (hX.ms k) fun q => q ▸ hX.mt.1⟩
theorem Via.act {w0 w w1 w2 : World} {S M S' M' : Nat → Prop} {gd gv gt : Nat} {D : DV} {V : VV} {T : TV} (h : Via w w1 S M S' M') (h' : ComTo w0 w1 w2 S' M' gd gv gt D V T) : ComTo w0 w w2 S M gd gv gt D V T := by
 obtain ⟨h2, h3, h4, h5⟩ := h
 obtain ⟨S2, M2, g1, g2, g3, g4, g5⟩ := h'
 refine ⟨S2, M2, g1, fun k q => g2 k (h2 k q), fun k q => g3 k (h3 k q), fun k q => ?_, h5.then_ g5 h4⟩
 rcases g4 k q with q | q
 ·exact h4 k q
 ·exact .inr (Nat.le_trans h5.1 q)
theorem Via.trans {w w1 w2 : World} {S M S1 M1 S2 M2 : Nat → Prop} (h : Via w w1 S M S1 M1) (g : Via w1 w2 S1 M1 S2 M2) : Via w w2 S M S2 M2 := by
 obtain ⟨h2, h3, h4, h5⟩ := h
 obtain ⟨g2, g3, g4, g5⟩ := g
 refine ⟨fun k q => g2 k (h2 k q), fun k q => g3 k (h3 k q), fun k q => ?_, h5.then_ g5 h4⟩
 rcases g4 k q with q | q
 ·exact h4 k q
 ·exact .inr (Nat.le_trans h5.1 q)
theorem Via.past {w w1 w2 : World} {S M S1 M1 : Nat → Prop} (h : Via w w1 S M S1 M1) (hb : Below w1.heap.size w1 w2) : Via w w2 S M S1 M1 :=
 h.trans ⟨fun _ h => h, fun _ h => h, fun _ h => .inl h, zP hb _⟩
theorem Via.blk {w w' : World} {S M S' M' : Nat → Prop} (h : Via w w' S M S' M') {b : Nat} {cs : Array Value} {t : TypeId} {fz : Nat × Nat} (hb : w.heap[b]? = some (.cells cs t fz)) (hn : ¬ M b) : w'.heap[b]? = some (.cells cs t fz) ∧ ¬ M' b := by
 have hlt := blk_lt hb
 refine ⟨(h.2.2.2.2 b hlt hn).trans hb, fun q => ?_⟩
 rcases h.2.2.1 b q with q | q
 ·exact hn q
 ·omega
theorem Via.sub {w w' : World} {S M S' M' : Nat → Prop} (h : Via w w' S M S' M') : Sub (mask M w) (mask M' w') := sub_move h.2.2.2 (fun _ q => q) fun k hk q => (h.2.2.1 k q).resolve_right (by omega)
theorem TxSys.turnVol {w0 W W' : World} {S M : Nat → Prop} {gd gv gt : Nat} {D : DV} {V V' : VV} {T : TV} (h : TxSys w0 W S M gd gv gt D V T) (hk : Kept W W' (fun k => k = gv)) (hb : Below w0.heap.size w0 W') (hv : VolM W' M gv gd V') : TxSys w0 W' S M gd gv gt D V' T ∧ Via W W' S M S M :=
 ⟨⟨h.dev.kept hk fun k q q2 => h.mv.2 (q2 ▸ q), hb, hv, h.tx.move hk (fun k q => q ▸ h.mv.1) (fun _ _ q => q) (fun q => h.mt.2.2 q), fun k q => ⟨(h.mb k q).1, Nat.lt_of_lt_of_le (h.mb k q).2 hk.1⟩, h.ms, h.mv, h.mt⟩, fun _ h => h, fun _ h => h, fun _ h => .inl h, hk.mono fun k q => q ▸ h.mv.1⟩
theorem keptDrew {w W : World} {T : Nat → Prop} (h : Kept w W T) : Kept w W.drew T := Kept.drewN h 1
theorem keptSet {w W : World} {gv i : Nat} {v : Value} (h : Kept w W (fun k => k = gv)) : Kept w (W.setCell ⟨gv, i, none⟩ v) (fun k => k = gv) := h.setCell (p := ⟨gv, i, none⟩) (.inl rfl) v
theorem flush_pend (D : DV) : D.flush.2.pend.length ≤ D.pend.length := by
 unfold DV.flush
 split
 ·exact Nat.le_refl _
 ·split
  ·rw [spend_pend]; exact Nat.le_refl _
  ·exact Nat.zero_le _
theorem write_pend (D : DV) (a : Int) (s : ByteArray) : (D.write a s).2.pend.length ≤ D.pend.length + 1 := by
 unfold DV.write
 repeat' split
 ·exact Nat.le_succ _
 ·exact Nat.le_succ _
 ·rw [spend_pend]; exact Nat.le_succ _
 ·show (D.spend.2.pend ++ [(a, s)]).length ≤ _
  rw [spend_pend, zO]
  exact Nat.le_refl _
theorem ComTo.past {w0 w w1 w' : World} {S M : Nat → Prop} {gd gv gt : Nat} {D : DV} {V : VV} {T : TV} (h : ComTo w0 w w1 S M gd gv gt D V T) (hb : Below w1.heap.size w1 w') : ComTo w0 w w' S M gd gv gt D V T := by
 obtain ⟨S', M', h1, h2⟩ := h
 exact h2.act (h1.com hb)
theorem TxSys.comGrew {w0 w W : World} {S M : Nat → Prop} {gd gv gt : Nat} {D D' : DV} {V : VV} {T : TV} (h : TxSys w0 w S M gd gv gt D V T) (hg : DevGrew w0 w W S gd D') : ComTo w0 w W S M gd gv gt D' V T := by
 obtain ⟨S', M', h1, h2, h3, h4, h5⟩ := h.grew hg
 exact ⟨S', M', h1, h2, h3, h4, h5.mono h.ms⟩
theorem TxSys.setDone {w0 W : World} {S M : Nat → Prop} {gd gv gt : Nat} {D : DV} {V : VV} {T : TV} (h : TxSys w0 W S M gd gv gt D V T) : ComTo w0 W (W.setCell ⟨gt, 5, none⟩ (.bool true)) S M gd gv gt D V { T with done := true } := by
 obtain ⟨h1, h2⟩ := h.set 5 (.bool true) (T' := { T with done := true }) fun A c B d e1 e2 e3 e4 e5 => ⟨A, c, B, d, by simp [txCells], e2, e3, e4, e5⟩
 exact ⟨S, M, h1, fun _ h => h, fun _ h => h, fun _ h => .inl h, h2.mono fun k q => q ▸ h.mt.1⟩
theorem low_facts {l : List Sp} {n : Int} (ho : OkL 8192 l) (hl : l.length ≤ 8192) (h0 : 0 < n) (h : (lowV l n).2.2 = true) : OkL 8192 (lowV l n).1 ∧ Th.sumF (lowV l n).1 = n ∧ (lowV l n).1.length ≤ 8192 ∧ OkL 8192 (lowV l n).2.1 ∧ (lowV l n).2.1.length ≤ 8192 := by
 cases hf : l.findIdx? (fun s => decide (s.f1 ≥ n)) with
 | none => rw [lowV_none hf] at h; cases h
 | some i =>
  obtain ⟨hi, hge, -⟩ := List.findIdx?_eq_some_iff_getElem.1 hf
  have hge2 : n ≤ (l[i]).f1 := by simpa using hge
  obtain ⟨p1, p2, p3⟩ := ho l[i] (List.getElem_mem hi)
  rw [lowV_some hi hf]
  refine ⟨fun s hs => ?_, ?_, by simp, fun s hs => ?_, ?_⟩
  ·obtain rfl := List.mem_singleton.1 hs
   exact ⟨h0, p2, by simp only; omega⟩
  ·simp [Th.sumF]
  ·rcases List.mem_append.1 hs with hs | hs
   ·rcases List.mem_append.1 hs with hs | hs
    ·exact ho s (List.mem_of_mem_take hs)
    ·split at hs
     ·rename_i hgt
      obtain rfl := List.mem_singleton.1 hs
      exact ⟨by simp only; omega, by simp only; omega, by simp only; omega⟩
     ·cases hs
   ·exact ho s (List.mem_of_mem_drop hs)
  ·simp only [zO, List.length_take, List.length_drop]
   split
   ·simp only [List.length_cons, List.length_nil]; omega
   ·simp only [List.length_nil]; omega
theorem writes_pend : ∀ (ps : List (Int × ByteArray)) (D : DV), (writes ps D).2.pend.length ≤ D.pend.length + ps.length
 | [], D => Nat.le_refl _
 | p :: t, D => by
  have h1 := write_pend D p.1 p.2
  unfold writes
  split
  ·have h2 := writes_pend t (D.write p.1 p.2).2
   rw [List.length_cons]
   omega
  ·rw [List.length_cons]
   omega
theorem wrF_pend {l : List Sp} (ho : OkL 8192 l) (s : List UInt8) (D : DV) : ((wrF l s D).2.pend.length : Int) ≤ D.pend.length + Th.sumF l := by
 have h := writes_pend (zipL (secs l) (padded l s)) D
 rw [zipL_len] at h
 have h2 := secs_len ho
 unfold wrF
 omega
theorem wrap_u64_idem (x : Int) : IntKind.u64.wrap (IntKind.u64.wrap x) = IntKind.u64.wrap x := by
 rw [IntKind.wrap_u64, IntKind.wrap_u64]; omega
theorem TxSys.comDev {w0 w W : World} {S M : Nat → Prop} {gd gv gt : Nat} {D D' : DV} {V : VV} {T : TV} (h : TxSys w0 w S M gd gv gt D V T) (hd : DevAt w0 W S gd D') (ht : DevTo w0 w W S) : ComTo w0 w W S M gd gv gt D' V T :=
 h.comGrew ⟨S, hd, fun _ h => h, fun _ h => .inl h, ht⟩
set_option maxHeartbeats 8000000 in
set_option maxRecDepth 100000 in
theorem vcommit.calls (S M : Nat → Prop) (gd gv gt : Nat) (D : DV) (V : VV) (T : TV) (w0 w : World) (hX : TxSys w0 w S M gd gv gt D V T) (hT : T.Ok) (hbd : BdL T.l) (ht : TabsW w0) (hp : D.pend.length < 800000) (hsl : V.slot = 0 ∨ V.slot = 1) (hpl : (putV T.l).2 = 0 → 0 < (putV T.l).1.length ∧ (putV T.l).1.length ≤ 200000) :
  Calls Tryz.prog 14 #[.pointer (some ⟨gt, 0, none⟩)] w fun e w' => e = .returned (.int .i64 (commitV V T D).1) ∧ ComTo w0 w w' S M gd gv gt (commitV V T D).2.2.2 (commitV V T D).2.1 (commitV V T D).2.2.1 := by
 have HOV := zA (fun (W : World) (h : TxSys w0 W S M gd gv gt D V T) => vover.calls M gt gv gd V T W h.vol h.tx)
 have HX := zA hX
 have HP := zA hp
 have HT := zA hT
 have HTB := zA ht
 have HSL := zA hsl
 clear hX hp ht hT hsl
 cases c1 : overV T V with
 | true =>
  rw [c1] at HOV
  have hR : commitV V T D = (7, V, T, D) := if_pos c1
  rw [hR]
  clear hR c1
  go_enter Tryz.func14, Tryz.ntmps14
  go_wp2_with (go_at_call 44; go_loud (refine (HOV.out _ HX.out).mono ?_; rintro e w1 ⟨rfl, hd⟩; have HD := zA hd.below; clear hd))
  go_ret
  exact ⟨rfl, HX.out.com HD.out⟩
 | false =>
  rw [c1] at HOV
  have HR := zA (show commitV V T D = if 120 < T.l.length then (3, V, { T with done := true }, D) else
   if (putV T.l).2 ≠ 0 then ((putV T.l).2, V, { T with done := true }, D) else commit2 V { T with done := true } D (putV T.l).1 from if_neg (by rw [c1]; decide))
  clear c1
  generalize commitV V T D = R at HR ⊢
  obtain ⟨kp, hkp⟩ := (put_ev T.l hbd).get
  have HPU := zA (fun A c W (hr : Kd.C k85 W A T.l.length T.l) (hc : T.l.length ≤ c) (ht : TabsW W) => dir_Put.calls kp A c T.l _ _ W hr hc ht hkp)
  have HPL := zA hpl
  clear hkp hpl hbd
  generalize putV T.l = pu at HR HPU HPL
  obtain ⟨ps, pe⟩ := pu
  simp only at HR HPU HPL
  go_enter Tryz.func14, Tryz.ntmps14
  go_wp2_with (first
   | (go_at_call 44; go_loud (refine (HOV.out _ HX.out).mono ?_; rintro e w1 ⟨rfl, hd⟩; have HX1 := zA (HX.out.past hd.below); obtain ⟨A1, c1, B1, d1, hb1, -⟩ := HX1.out.tx; have f15 := zM hb1 5; have k15 := (show w1.cell? ⟨gt, 5, none⟩ = some (.bool T.done) from (zN hb1 5).trans rfl); have HC2 := zA ((HX.out.com hd.below).elim fun _ h => h.elim fun _ h => h.2.act h.1.setDone); obtain ⟨S2, M2, X2, v2⟩ := HC2.out; have HX2 := zA X2; have HV2 := zA v2; obtain ⟨A2, c2, B2, d2, hb2, hc2, hd2, hC2, hF2⟩ := X2.tx; have HB2 := zA hb2; have HF2 := zA (show T.l.length ≤ c2 ∧ T.free.length ≤ d2 ∧ Kd.C k85 (mask M2 (w1.setCell ⟨gt, 5, none⟩ (.bool true))) A2 T.l.length T.l ∧ Kd.C k87 (mask M2 (w1.setCell ⟨gt, 5, none⟩ (.bool true))) B2 T.free.length T.free from ⟨hc2, hd2, hC2, hF2⟩); have k21 := (show (w1.setCell ⟨gt, 5, none⟩ (.bool true)).cell? ⟨gt, 1, none⟩ = some (.slice A2 T.l.length c2) from (zN hb2 1).trans rfl); clear hd hb1 X2 v2 hb2 hc2 hd2 hC2 hF2))
   | (go_at_call 36; go_loud (refine (HPU.out A2 c2 _ (mono_file.C (sub_mask M2 _) HF2.out.2.2.1) HF2.out.1 (HTB.out.below HX2.out.bel)).mono ?_; rintro e w3 ⟨rfl, hb3⟩; have HB3 := zA hb3; clear hb3)))
  ·have hle : 120 < (T.l.length : Int) := by assumption
   go_ret
   rw [HR.out, if_pos (by omega)]
   exact ⟨rfl, HC2.out⟩
  ·have hq : (pe != 0) = true := by assumption
   have hle : (T.l.length : Int) ≤ 120 := by assumption
   go_ret
   rw [HR.out, if_neg (by omega), if_pos (by simpa using hq)]
   exact ⟨rfl, HV2.out.act (HX2.out.com HB3.out)⟩
  ·have hq : (pe != 0) = false := by assumption
   have hle : (T.l.length : Int) ≤ 120 := by assumption
   have hq2 : pe = 0 := by simpa using hq
   have HR2 := zA (HR.out.trans ((if_neg (by omega)).trans (if_neg (by simpa using hq))))
   have hpl := HPL.out hq2
   have hn0 : 0 < needV ps.length ∧ needV ps.length ≤ 100000 := by unfold needV; omega
   have hneed : (ps.length : Int) ≤ needV ps.length * 64 := by unfold needV; omega
   have HND := zA (fun W => vol_need.calls (B ps) (needV ps.length) W (need_fv ps (by omega)))
   have HLF := zA (low_facts HT.out.fo HT.out.fl hn0.1)
   have HX3 := zA (HX2.out.past HB3.out)
   have HLO := zA (fun W (hW : Below w3.heap.size w3 W) => vlow.calls M2 B2 d2 T.free (needV ps.length) W (fun k q => Nat.lt_of_lt_of_le (HX3.out.mb k q).2 hW.size) (mono_span.C ((sub_mask M2 _).trans (sub_below (HB3.out.trans (hW.mono (below_size HB3.out))))) HF2.out.2.2.2) HF2.out.2.1 (by have := HT.out.fl; omega) HT.out.fo (by omega) hn0.2)
   have HNE := zA (And.intro hneed hn0)
   unfold commit2 at HR2
   simp only at HR2
   clear HR hpl hneed hn0
   generalize needV ps.length = nv at HR2 HND HLF HLO HNE
   generalize lowV T.free nv = lw at HR2 HLF HLO
   obtain ⟨r1, r2, r3⟩ := lw
   simp only at HR2 HLF HLO
   have HKEEP := zA (show ∀ W, Below w3.heap.size w3 W → W.cell? ⟨gt, 4, none⟩ = some (.slice B2 T.free.length d2) ∧ True from fun W hW => ⟨(zN (blk_below (blk_below HB2.out HB3.out) hW) 4).trans rfl, trivial⟩)
   have HBd := zA (zK (Below.refl w3.heap.size w3))
   have k4 := (zN (blk_below HB2.out HB3.out) 4).trans rfl
   cases c4 : r3 with
   | false =>
    have hR : R = (6, V, { T with done := true }, D) := by rw [HR2.out, if_pos c4]
    have HR3 := zA hR
    rw [c4] at HLO
    clear hR HR2 c4 hq2 hq
    go_region_held3 (fun w' => w'.cell? ⟨gt, 4, none⟩ = some (.slice B2 T.free.length d2) ∧ True) (exact HKEEP.out _ (by repeat (with_reducible first | exact HBd.out | apply zJ | apply zK | exact Below.refl _ _))) (first
     | (go_at_call 47; go_loud (refine (HND.out _).mono ?_; rintro ex wk ⟨rfl, hd⟩; have HBd := zA (zL HBd.out hd.below); clear hd))
     | (go_at_call 50; go_loud (refine (HLO.out _ HBd.out).mono ?_; rintro ex w4 ⟨A5, c5, A6, c6, rfl, q1, q2, q3, q4, q5⟩; have HQ := zA (And.intro q1 (And.intro q2 (And.intro q3 q4))); have HBd := zA (zL HBd.out q5); clear q1 q2 q3 q4 q5)))
    (try simp only [Exit.then])
    go_wp2
    go_ret
    rw [HR3.out]
    exact ⟨rfl, HV2.out.act (HX2.out.com (HB3.out.trans (HBd.out.mono (below_size HB3.out))))⟩
   | true =>
    rw [c4] at HLO
    obtain ⟨g1, g2, g3, g4, g5⟩ := HLF.out c4
    have HR3 := zA (HR2.out.trans (if_neg (by rw [c4]; decide)))
    have HLAY := zA (fun W A5 c5 A6 c6 (hW : Below w3.heap.size w3 W) (q1 : r1.length ≤ c5) (q2 : r2.length ≤ c6) (q3 : Kd.C k87 (mask M2 W) A5 r1.length r1) (q4 : Kd.C k87 (mask M2 W) A6 r2.length r2) => vlay.calls S2 M2 gd gv gt D V { T with done := true } ps r1 r2 A5 A6 c5 c6 w0 W (HX3.out.past hW) q1 q2 q3 q4 g1 g3 (by rw [g2]; exact HNE.out.1) (by rw [g2]; have := HP.out; have := HNE.out.2.2; omega))
    have HPW := zA (show (wrF r1 ps D).2.pend.length < 950000 from by have h1 := wrF_pend g1 ps D; have h2 := HP.out; have h3 := HNE.out.2.2; rw [g2] at h1; omega)
    have HG := zA (And.intro g1 (And.intro g2 (And.intro g3 g4)))
    clear g1 g2 g3 g4 g5 HR2 HLF c4 hq2 hq
    go_region_held3 (fun w' => w'.cell? ⟨gt, 4, none⟩ = some (.slice B2 T.free.length d2) ∧ True) (exact HKEEP.out _ (by repeat (with_reducible first | exact HBd.out | apply zJ | apply zK | exact Below.refl _ _))) (first
     | (go_at_call 47; go_loud (refine (HND.out _).mono ?_; rintro ex wk ⟨rfl, hd⟩; have HBd := zA (zL HBd.out hd.below); clear hd))
     | (go_at_call 50; go_loud (refine (HLO.out _ HBd.out).mono ?_; rintro ex w4 ⟨A5, c5, A6, c6, rfl, q1, q2, q3, q4, q5⟩; have HQ := zA (And.intro q1 (And.intro q2 (And.intro q3 q4))); have HBd := zA (zL HBd.out q5); clear q1 q2 q3 q4 q5)))
    (try simp only [Exit.then])
    have HB4 := zA HBd.out
    generalize hwr : wrF r1 ps D = wr at HR3 HLAY HPW
    obtain ⟨e0, D5⟩ := wr
    simp only at HR3 HLAY HPW
    clear hwr
    go_wp2_with (go_at_call 48; go_loud (refine (HLAY.out _ A5 c5 A6 c6 HB4.out HQ.out.1 HQ.out.2.1 HQ.out.2.2.1 HQ.out.2.2.2).mono ?_; rintro e w5 ⟨rfl, hto⟩; obtain ⟨S5, M5, X5, v5⟩ := hto.com (HX3.out.past HB4.out); have HI5 := zA (mono_span.C (sub_move v5.2.2.2 (fun _ q => q) (fun k hk q => (v5.2.2.1 k q).resolve_right (by omega))) HQ.out.2.2.1); obtain ⟨A7, c7, B7, d7, hb5, -⟩ := X5.tx; obtain ⟨A8, c8, B8, d8, hv5, -⟩ := X5.vol; have kt2 := (show w5.cell? ⟨gt, 2, none⟩ = some (.pointer (some ⟨gv, 0, none⟩)) from (zN hb5 2).trans rfl); have kv2 := (show w5.cell? ⟨gv, 2, none⟩ = some (.int .u64 V.h.gen) from (zN hv5 2).trans rfl); have kv3 := (show w5.cell? ⟨gv, 3, none⟩ = some (.int .i64 V.h.sect) from (zN hv5 3).trans rfl); have HX5 := zA X5; have HV5 := zA v5; clear hto X5 v5 hb5 hv5))
    ·have hq : (e0 != 0) = true := by assumption
     go_ret
     rw [HR3.out, if_pos (by simpa using hq)]
     exact ⟨rfl, S5, M5, HX5.out, ((HV2.out.past HB3.out).past HB4.out).trans HV5.out⟩
    ·have hq : (e0 != 0) = false := by assumption
     have HR4 := zA (HR3.out.trans (if_neg (by simpa using hq)))
     have HKEEP2 := zA (show ∀ W, Below w5.heap.size w5 W → W.cell? ⟨gt, 2, none⟩ = some (.pointer (some ⟨gv, 0, none⟩)) ∧ W.cell? ⟨gv, 2, none⟩ = some (.int .u64 V.h.gen) ∧ W.cell? ⟨gv, 3, none⟩ = some (.int .i64 V.h.sect) ∧ True from fun W hW => ⟨(hW.cell (zB _ _ kt2)).trans kt2, (hW.cell (zB _ _ kv2)).trans kv2, (hW.cell (zB _ _ kv3)).trans kv3, trivial⟩)
     have HBe := zA (zK (Below.refl w5.heap.size w5))
     go_region_held3 (fun w' => w'.cell? ⟨gt, 2, none⟩ = some (.pointer (some ⟨gv, 0, none⟩)) ∧ w'.cell? ⟨gv, 2, none⟩ = some (.int .u64 V.h.gen) ∧ w'.cell? ⟨gv, 3, none⟩ = some (.int .i64 V.h.sect) ∧ True) (exact HKEEP2.out _ (by repeat (with_reducible first | exact HBe.out | apply zJ | apply zK | exact Below.refl _ _))) (fail)
     obtain ⟨h, hh⟩ : ∃ h, h = headN V ps.length r1 := ⟨_, rfl⟩
     have HB6 := zA (zK (zJ (Below.refl w5.heap.size w5) (.cells #[.int .u64 (IntKind.u64.wrap (V.h.gen + 1)), .int .i64 V.h.sect, .int .i64 (B ps).size, .slice A5 r1.length c5] 46)))
     have f6 : (w5.alloc (.cells #[.int .u64 (IntKind.u64.wrap (V.h.gen + 1)), .int .i64 V.h.sect, .int .i64 (B ps).size, .slice A5 r1.length c5] 46)).drew.heap[w5.heap.size]? = some (.cells #[.int .u64 h.gen, .int .i64 h.sect, .int .i64 h.size, .slice A5 h.spans.length c5] 46 (0, 0)) := by
      rw [hh]
      refine (blk_new w5 (.cells #[.int .u64 (IntKind.u64.wrap (V.h.gen + 1)), .int .i64 V.h.sect, .int .i64 (B ps).size, .slice A5 r1.length c5] 46)).trans ?_
      rw [B_size]
      rfl
     have hr6 : Kd.C k87 (mask M5 w5) A5 h.spans.length h.spans := by rw [hh]; exact HI5.out
     have hl6 : h.spans.length ≤ c5 ∧ h.spans.length ≤ 8192 := by rw [hh]; exact ⟨HQ.out.1, HG.out.2.2.1⟩
     have hg6 : IntKind.u64.wrap h.gen = h.gen := by rw [hh]; exact wrap_u64_idem _
     have hs6 : -4611686018427387904 ≤ h.size ∧ h.size ≤ 4611686018427387904 := by rw [hh]; have := HNE.out; show -4611686018427387904 ≤ (ps.length : Int) ∧ (ps.length : Int) ≤ 4611686018427387904; omega
     generalize (w5.alloc (.cells #[.int .u64 (IntKind.u64.wrap (V.h.gen + 1)), .int .i64 V.h.sect, .int .i64 (B ps).size, .slice A5 r1.length c5] 46)).drew = w6 at HB6 f6 ⊢
     have HX6 := zA (HX5.out.past HB6.out)
     have HF6 := zA f6
     have q0 := (show w6.cell? ⟨w5.heap.size, 0, none⟩ = some (.int .u64 h.gen) from (zN f6 0).trans rfl)
     have q1 := (show w6.cell? ⟨w5.heap.size, 1, none⟩ = some (.int .i64 h.sect) from (zN f6 1).trans rfl)
     have q2 := (show w6.cell? ⟨w5.heap.size, 2, none⟩ = some (.int .i64 h.size) from (zN f6 2).trans rfl)
     have q3 := (show w6.cell? ⟨w5.heap.size, 3, none⟩ = some (.slice A5 h.spans.length c5) from (zN f6 3).trans rfl)
     have HHP := zA (hput.calls h A5 c5 w6 (mono_span.C ((sub_mask M5 w5).trans (sub_below HB6.out)) hr6) hl6.1 (by omega) hs6 hg6)
     have HR5 := zA (show R = if (headP h).2 ≠ 0 then ((headP h).2, V, { T with done := true, free := r2 }, D5) else commit4 V { T with done := true, free := r2 } D5 h (B (headP h).1) from by rw [hh]; exact HR4.out)
     have hws : IntKind.i64.wrap (1 - V.slot) = 1 - V.slot := by rw [IntKind.wrap_i64]; rcases HSL.out with h | h <;> rw [h] <;> decide
     have HHH := zA hh
     clear hh hr6 hl6 hg6 hs6 f6 HR4 HR3
     generalize headP h = hp at HHP HR5
     obtain ⟨sec, he⟩ := hp
     simp only at HHP HR5
     go_wp2_with (first
      | (go_at_call 51; go_loud (refine HHP.out.mono ?_; rintro e w7 ⟨rfl, hb7⟩; have HX7 := zA (HX6.out.past hb7); have HB7 := zA hb7; obtain ⟨A9, c9, B9, d9, hb, -⟩ := HX7.out.tx; obtain ⟨A10, c10, B10, d10, hv, -⟩ := HX7.out.vol; have kt0 := (show w7.cell? ⟨gt, 0, none⟩ = some (.pointer (some ⟨gd, 0, none⟩)) from (zN hb 0).trans rfl); have kt2 := (show w7.cell? ⟨gt, 2, none⟩ = some (.pointer (some ⟨gv, 0, none⟩)) from (zN hb 2).trans rfl); have kv6 := (show w7.cell? ⟨gv, 6, none⟩ = some (.int .i64 V.slot) from (zN hv 6).trans rfl); have HBK := zA (And.intro (blk_below HF6.out hb7) (show ¬ M5 w5.heap.size from fun q => Nat.lt_irrefl _ (HX5.out.mb _ q).2)); clear hb7 hb hv))
      | (go_at_call 52; go_loud (refine (dflush.calls gd S5 D5 w0 w7 HX7.out.dev HX7.out.bel (by have := HPW.out; omega)).mono ?_; rintro e w8 ⟨rfl, hd8, ht8⟩; obtain ⟨S8, M8, X8, v8⟩ := HX7.out.comDev hd8 ht8; obtain ⟨A9, c9, B9, d9, hb, -⟩ := X8.tx; have kt0 := (show w8.cell? ⟨gt, 0, none⟩ = some (.pointer (some ⟨gd, 0, none⟩)) from (zN hb 0).trans rfl); have HX8 := zA X8; have HV8 := zA v8; have HBK8 := zA (v8.blk HBK.out.1 HBK.out.2); clear hd8 ht8 X8 v8 hb)))
     ·have hq : (he != 0) = true := by assumption
      go_ret
      rw [HR5.out, if_pos (by simpa using hq)]
      exact ⟨rfl, S5, M5, HX7.out, (((((HV2.out.past HB3.out).past HB4.out).trans HV5.out).past HB6.out).past HB7.out)⟩
     ·have hq : (he != 0) = false := by assumption
      have hq2 : (D5.flush.fst != 0) = true := by assumption
      go_ret
      rw [HR5.out, if_neg (by simpa using hq), commit4, if_pos (by simpa using hq2)]
      exact ⟨rfl, S8, M8, HX8.out, (((((HV2.out.past HB3.out).past HB4.out).trans HV5.out).past HB6.out).past HB7.out).trans HV8.out⟩
     ·have hq : (he != 0) = false := by assumption
      have hq2 : (D5.flush.fst != 0) = false := by assumption
      have HR6 := zA (HR5.out.trans ((if_neg (by simpa using hq)).trans (if_neg (by simpa using hq2))))
      have HV := zA ((((((HV2.out.past HB3.out).past HB4.out).trans HV5.out).past HB6.out).past HB7.out).trans HV8.out)
      clear HR5
      have HP8 := zA (Nat.lt_of_le_of_lt (flush_pend D5) HPW.out)
      generalize D5.flush = df at HR6 HX8 HP8
      obtain ⟨ef, D8⟩ := df
      simp only at HR6 HX8 HP8
      clear hq hq2
      have HP9 := zA (Nat.lt_of_le_of_lt (write_pend D8 (1 - V.slot) (B sec)) (Nat.add_lt_add_right HP8.out 1))
      go_wp2_with (first
       | (go_at_call 30; go_loud (refine (dwrite.calls gd S8 D8 (1 - V.slot) (B sec) w0 w8 HX8.out.dev HX8.out.bel (by have := HP8.out; omega)).mono ?_; rintro e w9 ⟨rfl, hg9⟩; obtain ⟨S9, M9, X9, v9⟩ := HX8.out.comGrew hg9; obtain ⟨A11, c11, B11, d11, hb, -⟩ := X9.tx; have kt0 := (show w9.cell? ⟨gt, 0, none⟩ = some (.pointer (some ⟨gd, 0, none⟩)) from (zN hb 0).trans rfl); have HX9 := zA X9; have HV9 := zA v9; have HBK9 := zA (v9.blk HBK8.out.1 HBK8.out.2); clear hg9 X9 v9 hb))
       | (go_at_call 52; go_loud (refine (dflush.calls gd S9 (D8.write (1 - V.slot) (B sec)).2 w0 w9 HX9.out.dev HX9.out.bel (by have := HP9.out; omega)).mono ?_; rintro e w10 ⟨rfl, hd10, ht10⟩; obtain ⟨S10, M10, X10, v10⟩ := HX9.out.comDev hd10 ht10; have HX10 := zA X10; have HV10 := zA v10; have HBK10 := zA (v10.blk HBK9.out.1 HBK9.out.2); clear hd10 ht10 X10 v10)))
      ·have hq : ((D8.write (1 - V.slot) (B sec)).fst != 0) = true := by assumption
       go_ret
       rw [HR6.out, if_pos (by simpa using hq)]
       exact ⟨rfl, S9, M9, HX9.out, HV.out.trans HV9.out⟩
      ·have hq : ((D8.write (1 - V.slot) (B sec)).fst != 0) = false := by assumption
       have hq2 : ((D8.write (1 - V.slot) (B sec)).snd.flush.fst != 0) = true := by assumption
       go_ret
       rw [HR6.out, if_neg (by simpa using hq), if_pos (by simpa using hq2)]
       exact ⟨rfl, S10, M10, HX10.out, (HV.out.trans HV9.out).trans HV10.out⟩
      ·have hq : ((D8.write (1 - V.slot) (B sec)).fst != 0) = false := by assumption
       have hq2 : ((D8.write (1 - V.slot) (B sec)).snd.flush.fst != 0) = false := by assumption
       have HR7 := zA (HR6.out.trans ((if_neg (by simpa using hq)).trans (if_neg (by simpa using hq2))))
       clear HR6 hq hq2
       obtain ⟨At, ct, Bt, dt, hbt, hct, hdt, hCt, hFt⟩ := HX10.out.tx
       obtain ⟨Av, cv, Bv, dv, hbv, hcv, hdv, hCv, hFv⟩ := HX10.out.vol
       have kt1 := (show w10.cell? ⟨gt, 1, none⟩ = some (.slice At T.l.length ct) from (zN hbt 1).trans rfl)
       have kt2 := (show w10.cell? ⟨gt, 2, none⟩ = some (.pointer (some ⟨gv, 0, none⟩)) from (zN hbt 2).trans rfl)
       have q0 := (show w10.cell? ⟨w5.heap.size, 0, none⟩ = some (.int .u64 h.gen) from (zN HBK10.out.1 0).trans rfl)
       have q1 := (show w10.cell? ⟨w5.heap.size, 1, none⟩ = some (.int .i64 h.sect) from (zN HBK10.out.1 1).trans rfl)
       have q2 := (show w10.cell? ⟨w5.heap.size, 2, none⟩ = some (.int .i64 h.size) from (zN HBK10.out.1 2).trans rfl)
       have q3 := (show w10.cell? ⟨w5.heap.size, 3, none⟩ = some (.slice A5 h.spans.length c5) from (zN HBK10.out.1 3).trans rfl)
       have hne1 : gv ≠ gt := fun q => HX10.out.mt.2.2 q.symm
       have hne2 : gv ≠ w5.heap.size := fun q => HBK10.out.2 (q ▸ HX10.out.mv.1)
       have hbv0 := hbv
       have kv1 := (show w10.cell? ⟨gv, 1, none⟩ = some (.slice Av V.l.length cv) from (zN hbv 1).trans rfl)
       have kv2 := (show w10.cell? ⟨gv, 2, none⟩ = some (.int .u64 V.h.gen) from (zN hbv 2).trans rfl)
       have kv3 := (show w10.cell? ⟨gv, 3, none⟩ = some (.int .i64 V.h.sect) from (zN hbv 3).trans rfl)
       have kv4 := (show w10.cell? ⟨gv, 4, none⟩ = some (.int .i64 V.h.size) from (zN hbv 4).trans rfl)
       have kv5 := (show w10.cell? ⟨gv, 5, none⟩ = some (.slice Bv V.h.spans.length dv) from (zN hbv 5).trans rfl)
       have kv6 := (show w10.cell? ⟨gv, 6, none⟩ = some (.int .i64 V.slot) from (zN hbv 6).trans rfl)
       have fz1 := zM hbv 1
       have fz2 := zM hbv 2
       have fz3 := zM hbv 3
       have fz4 := zM hbv 4
       have fz5 := zM hbv 5
       have fz6 := zM hbv 6
       have HBV := zA hbv
       have HBT := zA hbt
       have HCT := zA (And.intro hct (And.intro hCt hcv))
       clear hbv hbt hbv0 hct hdt hCt hFt hcv hdv hCv hFv
       have HKEEP3 := zA (show ∀ W, Kept w10 W (fun k => k = gv) → W.cell? ⟨gt, 1, none⟩ = some (.slice At T.l.length ct) ∧ W.cell? ⟨gt, 2, none⟩ = some (.pointer (some ⟨gv, 0, none⟩)) ∧ W.cell? ⟨w5.heap.size, 0, none⟩ = some (.int .u64 h.gen) ∧ W.cell? ⟨w5.heap.size, 1, none⟩ = some (.int .i64 h.sect) ∧ W.cell? ⟨w5.heap.size, 2, none⟩ = some (.int .i64 h.size) ∧ W.cell? ⟨w5.heap.size, 3, none⟩ = some (.slice A5 h.spans.length c5) ∧ True from fun W hW => ⟨kept_cell hW kt1 (fun q => hne1 q.symm), kept_cell hW kt2 (fun q => hne1 q.symm), kept_cell hW q0 (fun q => hne2 q.symm), kept_cell hW q1 (fun q => hne2 q.symm), kept_cell hW q2 (fun q => hne2 q.symm), kept_cell hW q3 (fun q => hne2 q.symm), trivial⟩)
       have HK0 := zA (show Kept w10 w10.drew (fun k => k = gv) from Kept.drewN (Kept.refl w10 fun k => k = gv) 1)
       go_region_held3 (fun w' => w'.cell? ⟨gt, 1, none⟩ = some (.slice At T.l.length ct) ∧ w'.cell? ⟨gt, 2, none⟩ = some (.pointer (some ⟨gv, 0, none⟩)) ∧ w'.cell? ⟨w5.heap.size, 0, none⟩ = some (.int .u64 h.gen) ∧ w'.cell? ⟨w5.heap.size, 1, none⟩ = some (.int .i64 h.sect) ∧ w'.cell? ⟨w5.heap.size, 2, none⟩ = some (.int .i64 h.size) ∧ w'.cell? ⟨w5.heap.size, 3, none⟩ = some (.slice A5 h.spans.length c5) ∧ True) (exact HKEEP3.out _ (by repeat (with_reducible first | exact HK0.out | exact Kept.refl _ _ | refine keptDrew ?_ | refine keptSet ?_))) (fail)
       (try simp only [Exit.then])
       go_wp2
       go_ret
       rw [HR7.out]
       refine ⟨rfl, ?_⟩
       obtain ⟨hct, hCt, hcv⟩ := HCT.out
       have hsub10 : Sub (mask M5 w5) (mask M10 w10) := (sub_move (zP (HB6.out.trans (HB7.out.mono (below_size HB6.out))) (fun _ => False)) (fun _ h => h.elim) fun _ _ h => h).trans ((HV8.out.sub).trans (HV9.out.sub.trans HV10.out.sub))
       have hI10 : Kd.C k87 (mask M10 w10) A5 h.spans.length h.spans := by rw [HHH.out]; exact mono_span.C hsub10 HI5.out
       have hcI : h.spans.length ≤ c5 := by rw [HHH.out]; exact HQ.out.1
       have hg0 := (HX10.out.mb gv HX10.out.mv.1).1
       have hkf : Kept w10 ((((((w10.setCell ⟨gv, 2, none⟩ (.int .u64 h.gen)).setCell ⟨gv, 3, none⟩ (.int .i64 h.sect)).setCell ⟨gv, 4, none⟩ (.int .i64 h.size)).setCell ⟨gv, 5, none⟩ (.slice A5 h.spans.length c5)).setCell ⟨gv, 6, none⟩ (.int .i64 (1 - V.slot))).setCell ⟨gv, 1, none⟩ (.slice At T.l.length ct)).drew (fun k => k = gv) :=
        Kept.drewN ((((((((Kept.refl w10 (fun k => k = gv)).setCell (p := ⟨gv, 2, none⟩) (.inl rfl) _).setCell (p := ⟨gv, 3, none⟩) (.inl rfl) _).setCell (p := ⟨gv, 4, none⟩) (.inl rfl) _).setCell (p := ⟨gv, 5, none⟩) (.inl rfl) _).setCell (p := ⟨gv, 6, none⟩) (.inl rfl) _).setCell (p := ⟨gv, 1, none⟩) (.inl rfl) _)) 1
       have hsv := sub_move hkf (fun k q => q ▸ HX10.out.mv.1) (fun _ _ (q : M10 _) => q)
       have hbf := blk_set (blk_set (blk_set (blk_set (blk_set (blk_set HBV.out 2 (.int .u64 h.gen)) 3 (.int .i64 h.sect)) 4 (.int .i64 h.size)) 5 (.slice A5 h.spans.length c5)) 6 (.int .i64 (1 - V.slot))) 1 (.slice At T.l.length ct)
       obtain ⟨Xf, vf⟩ := HX10.out.turnVol (V' := { V with h := h, slot := 1 - V.slot, l := T.l }) hkf (zK (below_set (below_set (below_set (below_set (below_set (below_set HX10.out.bel hg0) hg0) hg0) hg0) hg0) hg0)) ⟨At, ct, A5, c5, by refine Eq.trans ?_ hbf; rfl, hct, hcI, mono_file.C hsv hCt, mono_span.C hsv hI10⟩
       exact ⟨S10, M10, Xf, ((HV.out.trans HV9.out).trans HV10.out).trans vf⟩
def readV (l : List Fi) (D : DV) (name : List UInt8) : List UInt8 × Int := if (findV (B name) l).2 = true then rdF (findV (B name) l).1.f2 (findV (B name) l).1.f1.toNat D else ([], 4)
structure FileOk (f : Fi) : Prop where
 ok : OkL 8192 f.f2
 few : f.f2.length ≤ 8192
 pos : 0 ≤ f.f1
 fits : f.f1 ≤ Th.sumF f.f2 * 64
 sum : Th.sumF f.f2 ≤ 1000000
set_option maxHeartbeats 4000000 in
set_option maxRecDepth 100000 in
theorem vview.calls (g gd : Nat) (S : Nat → Prop) (D : DV) (l : List Fi) (name : List UInt8) (A : Option Addr) (c : Nat) (w0 w : World) (hC : DevAt w0 w S gd D) (hk0 : w.cell? ⟨g, 0, none⟩ = some (.pointer (some ⟨gd, 0, none⟩))) (hk1 : w.cell? ⟨g, 1, none⟩ = some (.slice A l.length c)) (hr : Kd.C k85 w A l.length l) (h64 : ∀ s ∈ D.now, s.size = 64) (hf : (findV (B name) l).2 = true → FileOk (findV (B name) l).1) :
  Calls Tryz.prog 15 #[.pointer (some ⟨g, 0, none⟩), .string (B name)] w fun e w' => e = .returned (.tuple #[.string (B (readV l D name).1), .int .i64 (readV l D name).2]) ∧ Below w.heap.size w w' := by
 have HFI := zA (findF.calls A c l (B name) w w (Sub.refl w) hr)
 have hRV : readV l D name = if (findV (B name) l).2 = true then rdF (findV (B name) l).1.f2 (findV (B name) l).1.f1.toNat D else ([], 4) := rfl
 have HF := zA hf
 generalize readV l D name = R at hRV ⊢
 generalize findV (B name) l = fv at HFI hRV HF
 obtain ⟨⟨n0, n1, n2⟩, fb⟩ := fv
 simp only at HFI hRV HF
 have HD := zA hC
 have H64 := zA h64
 have hu := Tryz.underlying85
 clear hf hC hr h64
 cases fb with
 | false =>
  have hR : R = ([], 4) := by rw [hRV, if_neg (by decide)]
  have HR := zA hR
  clear hRV hR
  go_enter Tryz.func15, Tryz.ntmps15
  go_wp2_with (go_at_call 53; go_loud (refine HFI.out.mono ?_; rintro e w1 ⟨⟨A2, c2, rfl, hc2, hC2⟩, hb1⟩; have HB1 := zA (zJ hb1 (.cells #[.string n0, .int .i64 n1, .slice A2 n2.length c2] 85)); clear hb1 hc2 hC2))
  go_ret2
  rw [HR.out]
  exact ⟨rfl, HB1.out⟩
 | true =>
  have hok := HF.out rfl
  have hR : R = rdF n2 n1.toNat D := by rw [hRV, if_pos rfl]
  have HR := zA hR
  have hn1 : ((n1.toNat : Nat) : Int) = n1 := Int.toNat_of_nonneg hok.pos
  have HRD := zA (fun W A2 c2 (hb : Below w.heap.size w W) (hC2 : Kd.C k87 W A2 n2.length n2) => vread.calls gd S D n2 n1.toNat A2 c2 w0 W (HD.out.kept (zP hb (fun _ => False)) fun _ _ h => h) hC2 hok.ok hok.few H64.out (by rw [hn1]; exact hok.fits) hok.sum)
  rw [hn1] at HRD
  clear hRV hR hn1 hok
  go_enter Tryz.func15, Tryz.ntmps15
  go_wp2_with (go_at_call 53; go_loud (refine HFI.out.mono ?_; rintro e w1 ⟨⟨A2, c2, rfl, hc2, hC2⟩, hb1⟩; have HB1 := zA hb1; have HC2 := zA hC2; clear hb1 hc2 hC2))
  have hf2 := blk_new w1 (.cells #[.string n0, .int .i64 n1, .slice A2 n2.length c2] 85)
  have hb2 : Below w.heap.size w (w1.alloc (.cells #[.string n0, .int .i64 n1, .slice A2 n2.length c2] 85)) := zJ HB1.out _
  obtain ⟨b, hbd⟩ : ∃ b, b = w1.heap.size := ⟨_, rfl⟩
  rw [← hbd] at hf2 ⊢
  clear hbd
  generalize w1.alloc (.cells #[.string n0, .int .i64 n1, .slice A2 n2.length c2] 85) = w2 at hf2 hb2 ⊢
  have HB2 := zA hb2
  have hg0 := (hb2.cell (zB _ _ hk0)).trans hk0
  have hg1 := (show w2.cell? ⟨b, 1, none⟩ = some (.int .i64 n1) from (zN hf2 1).trans rfl)
  have hg2 := (show w2.cell? ⟨b, 2, none⟩ = some (.slice A2 n2.length c2) from (zN hf2 2).trans rfl)
  have HKEEP := zA (show ∀ W, Below w2.heap.size w2 W → W.cell? ⟨g, 0, none⟩ = some (.pointer (some ⟨gd, 0, none⟩)) ∧ W.cell? ⟨b, 1, none⟩ = some (.int .i64 n1) ∧ W.cell? ⟨b, 2, none⟩ = some (.slice A2 n2.length c2) ∧ True from fun W hW => ⟨(hW.cell (zB _ _ hg0)).trans hg0, (hW.cell (zB _ _ hg1)).trans hg1, (hW.cell (zB _ _ hg2)).trans hg2, trivial⟩)
  have HBd := zA (zK (Below.refl w2.heap.size w2))
  clear hf2 hb2 hk0 hk1
  go_region_held3 (fun w' => w'.cell? ⟨g, 0, none⟩ = some (.pointer (some ⟨gd, 0, none⟩)) ∧ w'.cell? ⟨b, 1, none⟩ = some (.int .i64 n1) ∧ w'.cell? ⟨b, 2, none⟩ = some (.slice A2 n2.length c2) ∧ True) (exact HKEEP.out _ (by repeat (with_reducible first | exact HBd.out | apply zJ | apply zK | exact Below.refl _ _))) (first
   | (go_at_call 54; go_loud (refine (HRD.out _ A2 c2 (zL HB2.out HBd.out) (Kd.C_below HC2.out (zL HB2.out HBd.out))).mono ?_; rintro ex w3 ⟨rfl, hb3⟩; have HBd := zA (zL HBd.out hb3); clear hb3)))
  (try simp only [Exit.then])
  go_wp2
  go_ret2
  rw [HR.out]
  exact ⟨rfl, zL HB2.out HBd.out⟩
structure VolSys (w0 W : World) (S M : Nat → Prop) (gd gv : Nat) (D : DV) (V : VV) : Prop where
 dev : DevAt w0 W S gd D
 bel : Below w0.heap.size w0 W
 vol : VolM W M gv gd V
 mb : ∀ k, M k → w0.heap.size ≤ k ∧ k < W.heap.size
 ms : ∀ k, S k → M k
 mv : M gv ∧ ¬ S gv
theorem DevAt.pos {w0 W : World} {S : Nat → Prop} {g : Nat} {D : DV} (h : DevAt w0 W S g D) : 0 < D.now.length ∧ D.now.length ≤ 8192 := by
 obtain ⟨vn, vl, vp, h⟩ := h
 exact ⟨h.ok.pos, h.ok.few⟩
set_option maxHeartbeats 2000000 in
set_option maxRecDepth 100000 in
theorem dsectors.calls (g : Nat) (S : Nat → Prop) (D : DV) (w0 w : World) (hC : DevAt w0 w S g D) :
  Calls Tryz.prog 63 #[.pointer (some ⟨g, 0, none⟩)] w fun e w' => e = .returned (.int .i64 D.now.length) ∧ w' = w := by
 obtain ⟨vn, vl, vp, hC⟩ := hC
 obtain ⟨gn, cn, hvn⟩ := own_slice hC.now hC.ok.pos
 have h0 := (zN hC.blk 0).trans (show _ = some vn from rfl)
 rw [hvn] at h0
 clear hC hvn
 go_enter Tryz.func63, Tryz.ntmps63
 go_wp2
 go_ret
 exact ⟨rfl, rfl⟩
theorem putNil : (putV []).2 = 0 ∧ (putV []).1.length = 5 := by
 refine ⟨by decide, ?_⟩
 unfold putV
 rw [if_pos (by decide), sealV_len]
 decide
def headF (n : Nat) : HV := ⟨1, n, 5, [⟨2, 1⟩]⟩
theorem headP_le (h : HV) : (headP h).1.length ≤ 64 := by
 by_cases hr : headR h = true
 ·rw [headP_len hr]; exact Nat.le_refl _
 ·unfold headP
  rw [if_neg hr]
  exact Nat.zero_le _
def format3 (D : DV) (n : Nat) : Int × DV :=
 if (wrF [⟨0, 2⟩] (headP (headF n)).1 D).1 ≠ 0 then wrF [⟨0, 2⟩] (headP (headF n)).1 D else (wrF [⟨0, 2⟩] (headP (headF n)).1 D).2.flush
def format2 (D : DV) (n : Nat) : Int × DV := if D.flush.1 ≠ 0 then D.flush else format3 D.flush.2 n
def formatV (D : DV) : Int × DV :=
 if D.now.length < 4 then (6, D) else
 if (wrF [⟨2, 1⟩] (putV []).1 D).1 ≠ 0 then wrF [⟨2, 1⟩] (putV []).1 D else format2 (wrF [⟨2, 1⟩] (putV []).1 D).2 D.now.length
theorem DevGrew.via {w0 w w' : World} {S : Nat → Prop} {g : Nat} {D : DV} (h : DevGrew w0 w w' S g D) : ∃ S', DevAt w0 w' S' g D ∧ Below w0.heap.size w0 w' ∧ Via w w' S S S' S' := by
 obtain ⟨S', h1, h2, h3, h4, h5⟩ := h
 exact ⟨S', h1, h4, h2, h2, h3, h5⟩
theorem lit2 {T : Nat → Prop} {W : World} {g : Nat} {a m : Int} (hT : ¬ T g) (hh : W.heap[g]? = some (.cells #[.int .i64 a, .int .i64 m] 87 (0, 0))) : Kd.C k87 (mask T W) (some ⟨g, 0, none⟩) 1 [⟨a, m⟩] := by
 refine ⟨rfl, by decide, fun _ => ⟨_, rfl, fun j p hj => ?_⟩⟩
 match j, hj with
 | 0, hj =>
  obtain rfl : (⟨a, m⟩ : Sp) = p := by simpa using hj
  refine ⟨[.int .i64 a, .int .i64 m], rfl, ⟨_, _, rfl, rfl, rfl⟩, fun i u hu => ?_⟩
  rw [add_plain]
  refine cell_mask (a := ⟨g, _, none⟩) ((zN hh _).trans ?_) hT
  match i, hu with
  | 0, hu => simpa using hu
  | 1, hu => simpa using hu
  | i + 2, hu => simp at hu
 | j + 1, hj => simp at hj
theorem ok21 : OkL 8192 [(⟨2, 1⟩ : Sp)] := fun s hs => by
 obtain rfl := List.mem_singleton.1 hs
 exact ⟨by decide, by decide, by decide⟩
theorem ok02 : OkL 8192 [(⟨0, 2⟩ : Sp)] := fun s hs => by
 obtain rfl := List.mem_singleton.1 hs
 exact ⟨by decide, by decide, by decide⟩
def fmtV (D : DV) : VV := ⟨[], headF D.now.length, 0, 0⟩
def FmtTo (w0 w w' : World) (S : Nat → Prop) (gd : Nat) (R : Int × DV) (V : VV) (e : Ending) : Prop :=
 (R.1 ≠ 0 ∧ e = .returned (.tuple #[.pointer none, .int .i64 R.1]) ∧ DevGrew w0 w w' S gd R.2) ∨
 (R.1 = 0 ∧ ∃ (gv : Nat) (S' M' : Nat → Prop), e = .returned (.tuple #[.pointer (some ⟨gv, 0, none⟩), .int .i64 0]) ∧ (∀ X : Nat → Prop, (∀ k, X k → w0.heap.size ≤ k ∧ k < w.heap.size ∧ ¬ S k) → VolSys w0 w' S' (fun k => M' k ∨ X k) gd gv R.2 V) ∧ (∀ k, S k → S' k) ∧ (∀ k, M' k → S k ∨ w.heap.size ≤ k) ∧ Kept w w' S)
theorem Via.grew {w0 w w' : World} {S S' : Nat → Prop} {g : Nat} {D : DV} (v : Via w w' S S S' S') (hd : DevAt w0 w' S' g D) (hb : Below w0.heap.size w0 w') : DevGrew w0 w w' S g D := ⟨S', hd, v.1, v.2.2.1, hb, v.2.2.2⟩
theorem Via.here {w w' : World} {S : Nat → Prop} (hb : Below w.heap.size w w') : Via w w' S S S S := ⟨fun _ h => h, fun _ h => h, fun _ h => .inl h, zP hb _⟩
theorem DevAt.past {w0 W W' : World} {S : Nat → Prop} {g : Nat} {D : DV} (h : DevAt w0 W S g D) (hb : Below W.heap.size W W') : DevAt w0 W' S g D := h.kept (zP hb fun _ => False) fun _ _ h => h
set_option maxHeartbeats 8000000 in
set_option maxRecDepth 100000 in
theorem vformat.calls (S : Nat → Prop) (gd : Nat) (D : DV) (w0 w : World) (hC : DevAt w0 w S gd D) (hB : Below w0.heap.size w0 w) (ht : TabsW w0) (hp : D.pend.length < 900000) :
  Calls Tryz.prog 41 #[.pointer (some ⟨gd, 0, none⟩)] w fun e w' => FmtTo w0 w w' S gd (formatV D) (fmtV D) e := by
 have HC := zA hC
 have HB := zA hB
 have HTB := zA ht
 have HP := zA hp
 have HFV := zA (show fmtV D = ⟨[], headF D.now.length, 0, 0⟩ from rfl)
 have HN := zA hC.pos
 generalize fmtV D = FV at HFV ⊢
 by_cases c1 : D.now.length < 4
 ·have hR : formatV D = (6, D) := if_pos c1
  have b1 : decide ((D.now.length : Int) < 4) = true := zH (by omega)
  rw [hR]
  clear hR c1 hC hB ht hp
  go_enter Tryz.func41, Tryz.ntmps41
  go_wp2_with (go_at_call 63; go_loud (refine (dsectors.calls gd S D w0 w HC.out).mono ?_; rintro e w1 ⟨rfl, hw⟩; obtain rfl := hw.symm))
  go_ret2
  exact .inl ⟨by simp, rfl, (Via.here (Below.refl _ _)).grew HC.out HB.out⟩
 ·have b1 : decide ((D.now.length : Int) < 4) = false := zI (by omega)
  have HR := zA (show formatV D = if (wrF [⟨2, 1⟩] (putV []).1 D).1 ≠ 0 then wrF [⟨2, 1⟩] (putV []).1 D else format2 (wrF [⟨2, 1⟩] (putV []).1 D).2 D.now.length from if_neg c1)
  generalize formatV D = R at HR ⊢
  obtain ⟨kp, hkp⟩ := (put_ev [] ⟨by decide, fun f h => nomatch h⟩).get
  have HPU := zA (fun W (hr : Kd.C k85 W none ([] : List Fi).length []) (ht : TabsW W) => dir_Put.calls kp none 0 [] _ _ W hr (Nat.le_refl _) ht hkp)
  obtain ⟨he0, he5⟩ := putNil
  rw [he0] at HPU
  have HPW := zA (show (wrF [⟨2, 1⟩] (putV []).1 D).2.pend.length < 900001 from by have h1 := wrF_pend ok21 (putV []).1 D; have h2 := HP.out; simp [Th.sumF] at h1; omega)
  clear hkp he0 c1 hC hB ht hp
  generalize (putV []).1 = es at HR HPU HPW he5
  have HND := zA (fun W => vol_need.calls (B es) 1 W (by have := need_fv es (by omega); rw [he5] at this; exact this))
  have hsz : (B es).size = 5 := by rw [B_size]; exact he5
  have HE5 := zA he5
  obtain ⟨n, hn⟩ : ∃ n, n = D.now.length := ⟨_, rfl⟩
  rw [← hn] at b1 HR HN HFV
  have HNN := zA hn
  clear he5 hn
  have HL0 := zA (show ∀ W, Kd.C k85 W none ([] : List Fi).length [] from fun W => ⟨rfl, by decide, fun h => absurd h (by decide)⟩)
  go_enter Tryz.func41, Tryz.ntmps41
  go_wp2_with (first
   | (go_at_call 63; ((refine (dsectors.calls gd S D w0 w HC.out).mono ?_; rintro e w1 ⟨rfl, hw⟩; obtain rfl := hw.symm; rw [← HNN.out])))
   | (go_at_call 36; go_loud (refine (HPU.out w (HL0.out _) (HTB.out.below HB.out)).mono ?_; rintro e w2 ⟨rfl, hb2⟩; have HB2 := zA hb2; have HC2 := zA (HC.out.past hb2); clear hb2))
   | (go_at_call 63; go_loud (refine (dsectors.calls gd S D w0 w2 HC2.out).mono ?_; rintro e w1 ⟨rfl, hw⟩; obtain rfl := hw.symm; rw [← HNN.out]))
   | (go_at_call 47; go_loud (refine (HND.out _).mono ?_; rintro ex w3 ⟨rfl, hd⟩; have HB3 := zA (HB2.out.trans (hd.below.mono (below_size HB2.out))); clear hd)))
  have hlt3 := below_size HB3.out
  have hf1 : ((w3.alloc (.cells #[.int .i64 2, .int .i64 1] 87)).alloc (.cells #[.int .u64 1, .int .i64 n, .int .i64 5, .slice (some ⟨w3.heap.size, 0, none⟩) 1 1] 46)).heap[w3.heap.size]? = some (.cells #[.int .i64 2, .int .i64 1] 87 (0, 0)) := (Below.heap_alloc _ _ _ (by simp)).trans (blk_new w3 _)
  have hf2 : ((w3.alloc (.cells #[.int .i64 2, .int .i64 1] 87)).alloc (.cells #[.int .u64 1, .int .i64 n, .int .i64 5, .slice (some ⟨w3.heap.size, 0, none⟩) 1 1] 46)).heap[w3.heap.size + 1]? = some (.cells #[.int .u64 1, .int .i64 n, .int .i64 5, .slice (some ⟨w3.heap.size, 0, none⟩) 1 1] 46 (0, 0)) := by
   have := blk_new (w3.alloc (.cells #[.int .i64 2, .int .i64 1] 87)) (.cells #[.int .u64 1, .int .i64 n, .int .i64 5, .slice (some ⟨w3.heap.size, 0, none⟩) 1 1] 46)
   simpa using this
  have HB4 := zA (zJ (zJ HB3.out (.cells #[.int .i64 2, .int .i64 1] 87)) (.cells #[.int .u64 1, .int .i64 n, .int .i64 5, .slice (some ⟨w3.heap.size, 0, none⟩) 1 1] 46))
  generalize (w3.alloc (.cells #[.int .i64 2, .int .i64 1] 87)).alloc (.cells #[.int .u64 1, .int .i64 n, .int .i64 5, .slice (some ⟨w3.heap.size, 0, none⟩) 1 1] 46) = w4 at hf1 hf2 HB4 ⊢
  have HS := zA (show ∀ k, w3.heap.size ≤ k → ¬ S k from fun k hk q => by have := (HC.out.sb k q).2; omega)
  have HG := zA hlt3
  have HF1 := zA hf1
  have HF2 := zA hf2
  generalize w3.heap.size = g1 at hf1 hf2 HS HG HF1 HF2 ⊢
  have HHP := zA (hput.calls (headF n) (some ⟨g1, 0, none⟩) 1 w4 (mono_span.C (sub_mask (fun _ => False) w4) (lit2 (fun h => h) hf1)) (show 1 ≤ 1 from Nat.le_refl 1) (show 1 ≤ 100000 by decide) (show (-4611686018427387904 : Int) ≤ 5 ∧ (5 : Int) ≤ 4611686018427387904 by decide) (show IntKind.u64.wrap 1 = 1 by decide))
  have HHL := zA (headP_le (headF n))
  have HR2 := zA (show R = if (wrF [⟨2, 1⟩] es D).1 ≠ 0 then wrF [⟨2, 1⟩] es D else if (wrF [⟨2, 1⟩] es D).2.flush.1 ≠ 0 then (wrF [⟨2, 1⟩] es D).2.flush else if (wrF [⟨0, 2⟩] (headP (headF n)).1 (wrF [⟨2, 1⟩] es D).2.flush.2).1 ≠ 0 then wrF [⟨0, 2⟩] (headP (headF n)).1 (wrF [⟨2, 1⟩] es D).2.flush.2 else (wrF [⟨0, 2⟩] (headP (headF n)).1 (wrF [⟨2, 1⟩] es D).2.flush.2).2.flush from HR.out)
  clear hf1 hf2 HR HPU
  generalize headP (headF n) = hp at HHP HHL HR2
  obtain ⟨ts, te⟩ := hp
  simp only at HHP HHL HR2
  generalize hwr : wrF [⟨2, 1⟩] es D = wr at HR2 HPW
  have HWR := zA hwr
  obtain ⟨e6, D6⟩ := wr
  simp only at HR2 HPW
  have HW1 := zA (show ∀ w5, Below w4.heap.size w4 w5 → Calls Tryz.prog 95 #[.pointer (some ⟨gd, 0, none⟩), .slice (some ⟨g1, 0, none⟩) 1 1, .string (B es)] w5 fun e w' => e = .returned (.int .i64 e6) ∧ ∃ S6, DevAt w0 w' S6 gd D6 ∧ Below w0.heap.size w0 w' ∧ Via w w' S S S6 S6 ∧ (w'.heap[g1]? = some (.cells #[.int .i64 2, .int .i64 1] 87 (0, 0)) ∧ ¬ S6 g1) ∧ (w'.heap[g1 + 1]? = some (.cells #[.int .u64 1, .int .i64 n, .int .i64 5, .slice (some ⟨g1, 0, none⟩) 1 1] 46 (0, 0)) ∧ ¬ S6 (g1 + 1)) from fun w5 hb5 => by
   have hbw := HB4.out.trans (hb5.mono (below_size HB4.out))
   refine (vwrite.calls gd S D [⟨2, 1⟩] es (some ⟨g1, 0, none⟩) 1 (mask S w5) w0 w5 (HC.out.past hbw) (HB.out.trans (hbw.mono (below_size HB.out))) (fun W' hk => sub_use hk fun k q => q) (lit2 (HS.out g1 (Nat.le_refl _)) (blk_below HF1.out hb5)) (Nat.le_refl 1) ok21 (show 1 ≤ 8192 by decide) (by rw [HE5.out]; decide) (by have := HP.out; simp [Th.sumF]; omega)).mono ?_
   rw [hwr]
   rintro e w6 ⟨rfl, hg6⟩
   obtain ⟨S6, hd6, hl6, v6⟩ := hg6.via
   exact ⟨rfl, S6, hd6, hl6, (Via.here hbw).trans v6, v6.blk (blk_below HF1.out hb5) (HS.out g1 (Nat.le_refl _)), v6.blk (blk_below HF2.out hb5) (HS.out (g1 + 1) (Nat.le_succ _))⟩)
  clear hwr
  go_wp2_with (first
   | (go_at_call 51; go_loud (refine HHP.out.mono ?_; rintro e w5 ⟨rfl, hb5⟩; have HB5 := zA hb5; have HC5 := zA (HC.out.past (HB4.out.trans (hb5.mono (below_size HB4.out)))); have HA5 := zA (And.intro (blk_below HF1.out hb5) (blk_below HF2.out hb5)); have kf := (show w5.cell? ⟨g1 + 1, 3, none⟩ = some (.slice (some ⟨g1, 0, none⟩) 1 1) from (zN (blk_below HF2.out hb5) 3).trans rfl); clear hb5))
   | (go_at_call 95; go_loud (refine (HW1.out w5 HB5.out).mono ?_; rintro e w6 ⟨rfl, S6, hd6, hl6, v6, k6, m6⟩; have HC6 := zA hd6; have HL6 := zA hl6; have HV6 := zA v6; have HA6 := zA (And.intro k6 m6); clear hd6 hl6 v6 k6 m6)))
  ·have hq : (e6 != 0) = true := by assumption
   go_ret2
   rw [HR2.out, if_pos (by simpa using hq)]
   exact .inl ⟨by simpa using hq, rfl, HV6.out.grew HC6.out HL6.out⟩
  ·have hq : (e6 != 0) = false := by assumption
   have HR3 := zA (HR2.out.trans (if_neg (by simpa using hq)))
   have hfp := flush_pend D6
   generalize hfl : D6.flush = fl at HR3 hfp
   obtain ⟨e7, D7⟩ := fl
   simp only at HR3 hfp
   have HP7 := zA (Nat.lt_of_le_of_lt hfp HPW.out)
   have HFL := zA (show Calls Tryz.prog 52 #[.pointer (some ⟨gd, 0, none⟩)] w6 fun e w' => e = .returned (.int .i64 e7) ∧ DevAt w0 w' S6 gd D7 ∧ Below w0.heap.size w0 w' ∧ Via w w' S S S6 S6 ∧ (w'.heap[g1]? = some (.cells #[.int .i64 2, .int .i64 1] 87 (0, 0)) ∧ ¬ S6 g1) ∧ (w'.heap[g1 + 1]? = some (.cells #[.int .u64 1, .int .i64 n, .int .i64 5, .slice (some ⟨g1, 0, none⟩) 1 1] 46 (0, 0)) ∧ ¬ S6 (g1 + 1)) from by
    refine (dflush.calls gd S6 D6 w0 w6 HC6.out HL6.out (by have := HPW.out; omega)).mono ?_
    rw [hfl]
    rintro e w7 ⟨rfl, hd7, ht7⟩
    have v7 : Via w6 w7 S6 S6 S6 S6 := ⟨fun _ h => h, fun _ h => h, fun _ h => .inl h, ht7.2⟩
    exact ⟨rfl, hd7, ht7.1, HV6.out.trans v7, v7.blk HA6.out.1.1 HA6.out.1.2, v7.blk HA6.out.2.1 HA6.out.2.2⟩)
   clear hfl hfp hq HR2
   go_wp2_with (first
    | (go_at_call 52; go_loud (refine HFL.out.mono ?_; rintro e w7 ⟨rfl, hd7, hl7, v7, k7, m7⟩; have HC7 := zA hd7; have HL7 := zA hl7; have HV7 := zA v7; have HA7 := zA (And.intro k7 m7); clear hd7 hl7 v7 k7 m7)))
   ·have hq : (e7 != 0) = true := by assumption
    go_ret2
    rw [HR3.out, if_pos (by simpa using hq)]
    exact .inl ⟨by simpa using hq, rfl, HV7.out.grew HC7.out HL7.out⟩
   ·have hq : (e7 != 0) = false := by assumption
    have HR4 := zA (HR3.out.trans (if_neg (by simpa using hq)))
    have hwp := wrF_pend ok02 ts D7
    generalize hwr2 : wrF [⟨0, 2⟩] ts D7 = wr2 at HR4 hwp
    obtain ⟨e9, D9⟩ := wr2
    simp only at HR4 hwp
    have HP9 := zA (show D9.pend.length < 900010 from by have := HP7.out; simp [Th.sumF] at hwp; omega)
    have HW2 := zA (show Calls Tryz.prog 95 #[.pointer (some ⟨gd, 0, none⟩), .slice (some ⟨w7.heap.size, 0, none⟩) 1 1, .string (B ts)] (w7.alloc (.cells #[.int .i64 0, .int .i64 2] 87)) fun e w' => e = .returned (.int .i64 e9) ∧ ∃ S9, DevAt w0 w' S9 gd D9 ∧ Below w0.heap.size w0 w' ∧ Via w w' S S S9 S9 ∧ (w'.heap[g1]? = some (.cells #[.int .i64 2, .int .i64 1] 87 (0, 0)) ∧ ¬ S9 g1) ∧ (w'.heap[g1 + 1]? = some (.cells #[.int .u64 1, .int .i64 n, .int .i64 5, .slice (some ⟨g1, 0, none⟩) 1 1] 46 (0, 0)) ∧ ¬ S9 (g1 + 1)) from by
     have hba := zJ (Below.refl w7.heap.size w7) (.cells #[.int .i64 0, .int .i64 2] 87)
     refine (vwrite.calls gd S6 D7 [⟨0, 2⟩] ts (some ⟨w7.heap.size, 0, none⟩) 1 (mask S6 _) w0 _ (HC7.out.past hba) (below_then HL7.out (below_size HL7.out) hba) (fun W' hk => sub_use hk fun k q => q) (lit2 (fun q => Nat.lt_irrefl _ (HC7.out.sb _ q).2) (blk_new w7 _)) (Nat.le_refl 1) ok02 (show 1 ≤ 8192 by decide) (by have := HHL.out; simp [Th.sumF]; omega) (by have := HP7.out; simp [Th.sumF]; omega)).mono ?_
     rw [hwr2]
     rintro e w9 ⟨rfl, hg9⟩
     obtain ⟨S9, hd9, hl9, v9⟩ := hg9.via
     exact ⟨rfl, S9, hd9, hl9, (HV7.out.past hba).trans v9, v9.blk (blk_below HA7.out.1.1 hba) HA7.out.1.2, v9.blk (blk_below HA7.out.2.1 hba) HA7.out.2.2⟩)
    clear hwr2 hwp hq HR3
    go_wp2_with (first
     | (go_at_call 95; go_loud (refine HW2.out.mono ?_; rintro e w9 ⟨rfl, S9, hd9, hl9, v9, k9, m9⟩; have HC9 := zA hd9; have HL9 := zA hl9; have HV9 := zA v9; have HA9 := zA (And.intro k9 m9); clear hd9 hl9 v9 k9 m9)))
    ·have hq : (e9 != 0) = true := by assumption
     go_ret2
     rw [HR4.out, if_pos (by simpa using hq)]
     exact .inl ⟨by simpa using hq, rfl, HV9.out.grew HC9.out HL9.out⟩
    ·have hq : (e9 != 0) = false := by assumption
     have HR5 := zA (HR4.out.trans (if_neg (by simpa using hq)))
     generalize hfl : D9.flush = fl at HR5
     obtain ⟨e10, D10⟩ := fl
     have HFL2 := zA (show Calls Tryz.prog 52 #[.pointer (some ⟨gd, 0, none⟩)] w9 fun e w' => e = .returned (.int .i64 e10) ∧ DevAt w0 w' S9 gd D10 ∧ Below w0.heap.size w0 w' ∧ Via w w' S S S9 S9 ∧ (w'.heap[g1]? = some (.cells #[.int .i64 2, .int .i64 1] 87 (0, 0)) ∧ ¬ S9 g1) ∧ (w'.heap[g1 + 1]? = some (.cells #[.int .u64 1, .int .i64 n, .int .i64 5, .slice (some ⟨g1, 0, none⟩) 1 1] 46 (0, 0)) ∧ ¬ S9 (g1 + 1)) from by
      refine (dflush.calls gd S9 D9 w0 w9 HC9.out HL9.out (by have := HP9.out; omega)).mono ?_
      rw [hfl]
      rintro e w10 ⟨rfl, hd, ht⟩
      have v : Via w9 w10 S9 S9 S9 S9 := ⟨fun _ h => h, fun _ h => h, fun _ h => .inl h, ht.2⟩
      exact ⟨rfl, hd, ht.1, HV9.out.trans v, v.blk HA9.out.1.1 HA9.out.1.2, v.blk HA9.out.2.1 HA9.out.2.2⟩)
     clear hfl hq HR4
     go_wp2_with (first
      | (go_at_call 52; go_loud (refine HFL2.out.mono ?_; rintro e w10 ⟨rfl, hd10, hl10, v10, k10, m10⟩; have q0 := (show w10.cell? ⟨g1 + 1, 0, none⟩ = some (.int .u64 1) from (zN m10.1 0).trans rfl); have q1 := (show w10.cell? ⟨g1 + 1, 1, none⟩ = some (.int .i64 n) from (zN m10.1 1).trans rfl); have q2 := (show w10.cell? ⟨g1 + 1, 2, none⟩ = some (.int .i64 5) from (zN m10.1 2).trans rfl); have q3 := (show w10.cell? ⟨g1 + 1, 3, none⟩ = some (.slice (some ⟨g1, 0, none⟩) 1 1) from (zN m10.1 3).trans rfl); have HC10 := zA hd10; have HL10 := zA hl10; have HV10 := zA v10; have HA10 := zA (And.intro k10 m10); clear hd10 hl10 v10 k10 m10)))
     ·have hq : (e10 != 0) = true := by assumption
      go_ret2
      rw [HR5.out]
      exact .inl ⟨by simpa using hq, rfl, HV10.out.grew HC10.out HL10.out⟩
     ·have hq : (e10 != 0) = false := by assumption
      go_ret2
      have hq2 : e10 = 0 := by simpa using hq
      have hba := zJ (Below.refl w10.heap.size w10) (.cells #[.pointer (some ⟨gd, 0, none⟩), .slice none 0 0, .int .u64 1, .int .i64 n, .int .i64 5, .slice (some ⟨g1, 0, none⟩) 1 1, .int .i64 0, .int .i64 0] 48)
      have hsz := HL10.out.size
      have hn1 : ¬ (S9 g1 ∨ g1 = w10.heap.size) := fun q => q.elim HA10.out.1.2 fun q => by have := blk_lt HA10.out.1.1; omega
      have hv := (Via.past HV10.out hba)
      have hsw : w.heap.size ≤ w10.heap.size := HV10.out.2.2.2.1
      rw [HR5.out]
      refine .inr ⟨hq2, w10.heap.size, S9, fun k => S9 k ∨ k = w10.heap.size, rfl, fun X hX => ⟨HC10.out.past hba, below_then HL10.out (below_size HL10.out) hba, ?_, fun k q => ?_, fun k q => .inl (.inl q), ⟨.inl (.inr rfl), fun q => Nat.lt_irrefl _ (HC10.out.sb _ q).2⟩⟩, HV10.out.1, fun k q => ?_, hv.2.2.2⟩
      ·rw [HFV.out]
       exact ⟨none, 0, some ⟨g1, 0, none⟩, 1, blk_new w10 _, Nat.le_refl 0, Nat.le_refl 1, ⟨rfl, show 0 ≤ 9223372036854775807 by decide, fun h => absurd h (show ¬ 0 < 0 by decide)⟩, lit2 (T := fun k => (S9 k ∨ k = w10.heap.size) ∨ X k) (fun q => q.elim hn1 fun q => by have h1 := (hX g1 q).2.1; have h2 := HG.out; omega) (blk_below HA10.out.1.1 hba)⟩
      ·rcases q with (q | q) | q
       ·exact ⟨(HC10.out.sb k q).1, Nat.lt_of_lt_of_le (HC10.out.sb k q).2 hba.size⟩
       ·subst q
        exact ⟨hsz, by simp⟩
       ·exact ⟨(hX k q).1, Nat.lt_of_lt_of_le (hX k q).2.1 (Nat.le_trans hsw hba.size)⟩
      ·rcases q with q | q
       ·exact HV10.out.2.2.1 k q
       ·exact .inr (by omega)
def keepX (x : Int) : Bool := decide (0 < bits BinOp.and IntKind.i64 x 1)
def keepB (K : List Int) (j : Nat) : Bool := if h : j < K.length then keepX K[j] else false
def DV.keptV (D : DV) (K : List Int) (i : Nat) : DV := { D with last := ((D.pend.take i).zipIdx).foldl (fun l p => if keepB K p.2 = true then lay1 l p.1 else l) D.last }
def DV.power (D : DV) (K : List Int) : DV := ⟨(D.keptV K D.pend.length).last, (D.keptV K D.pend.length).last, [], -1, false⟩
theorem keptV_succ (D : DV) (K : List Int) (i : Nat) (hi : i < D.pend.length) : D.keptV K (i + 1) = { D.keptV K i with last := if keepB K i = true then (D.keptV K i).last.set (D.pend[i]).1.toNat (D.pend[i]).2 else (D.keptV K i).last } := by
 unfold DV.keptV
 rw [List.take_succ_eq_append_getElem hi, List.zipIdx_append, List.foldl_append]
 simp only [List.length_take, Nat.min_eq_left (Nat.le_of_lt hi), Nat.zero_add, List.zipIdx_cons, List.zipIdx_nil, List.foldl_cons, List.foldl_nil]
 rfl
theorem DevC.setsNow {w0 : World} {S : Nat → Prop} {g gn cn : Nat} {vn vl vp : Value} : ∀ (ss : List ByteArray) (o : Nat) (W : World) (D : DV), DevC w0 W S g vn vl vp D → vn = .slice (some ⟨gn, 0, none⟩) D.now.length cn → o + ss.length ≤ D.now.length → DevC w0 (W.setCells gn o (ss.map .string)) S g vn vl vp { D with now := D.now.take o ++ ss ++ D.now.drop (o + ss.length) }
 | [], o, W, D, h, _, _ => by simpa [World.setCells] using h
 | s :: t, o, W, D, h, hv, hl => by
  rw [List.length_cons] at hl
  have h1 := h.setNow hv o s
  have h2 := DevC.setsNow t (o + 1) _ _ h1 (by show vn = .slice _ (D.now.set o s).length cn; rw [List.length_set]; exact hv) (by show o + 1 + t.length ≤ (D.now.set o s).length; rw [List.length_set]; omega)
  have e1 : (D.now.set o s).take (o + 1) = D.now.take o ++ [s] := by
   rw [List.take_succ_eq_append_getElem (by rw [List.length_set]; omega), List.take_set_of_le (Nat.le_refl _)]
   simp
  have e2 : (D.now.set o s).take (o + 1) ++ t ++ (D.now.set o s).drop (o + 1 + t.length) = D.now.take o ++ s :: t ++ D.now.drop (o + (t.length + 1)) := by
   rw [e1, List.drop_set_of_lt (by omega), show o + 1 + t.length = o + (t.length + 1) by omega]
   simp
  rw [List.length_cons, ← e2]
  exact h2
theorem DevC.allNow {w0 W : World} {S : Nat → Prop} {g gn cn : Nat} {vn vl vp : Value} {D : DV} (h : DevC w0 W S g vn vl vp D) (hv : vn = .slice (some ⟨gn, 0, none⟩) D.now.length cn) (ss : List ByteArray) (hs : ss.length = D.now.length) : DevC w0 (W.setCells gn 0 (ss.map .string)) S g vn vl vp { D with now := ss } := by
 have h1 := DevC.setsNow ss 0 W D h hv (by omega)
 have e : D.now.take 0 ++ ss ++ D.now.drop (0 + ss.length) = ss := by rw [List.take_zero, List.nil_append, List.drop_of_length_le (by omega), List.append_nil]
 rwa [e] at h1
set_option maxHeartbeats 4000000 in
set_option maxRecDepth 100000 in
theorem dpower.calls (g : Nat) (S : Nat → Prop) (D : DV) (K : List Int) (Ak : Option Addr) (ck : Nat) (w0 w : World) (hC : DevAt w0 w S g D) (hB : Below w0.heap.size w0 w) (hpl : D.pend.length < 1000000) (hKl : K.length ≤ 1000000) (hK : ∀ W', Kept w W' S → ∀ i (h : i < K.length), ∃ ad, Ak = some ad ∧ W'.cell? (ad.add i) = some (.int .i64 K[i])) :
  Calls Tryz.prog 27 #[.pointer (some ⟨g, 0, none⟩), .slice Ak K.length ck] w fun e w' => e = .returned (.tuple #[]) ∧ DevAt w0 w' S g (D.power K) ∧ DevTo w0 w w' S := by
 obtain ⟨vn, vl, vp, hC⟩ := hC
 obtain ⟨gl, cl, hvl⟩ := own_slice hC.last (by rw [hC.ok.len]; exact hC.ok.pos)
 obtain ⟨gn, cn, hvn⟩ := own_slice hC.now hC.ok.pos
 obtain ⟨Ap, cp, rfl⟩ := own_shape hC.pend
 have hq2 : w.cell? ⟨g, 2, none⟩ = some (.slice Ap D.pend.length cp) := zN hC.blk 2
 have HC := zA hC
 have HB := zA hB
 have HK := zA hK
 have HKL := zA hKl
 clear hC hB hK hKl
 have hlaid0 : D.keptV K 0 = D := by unfold DV.keptV; rw [List.take_zero]; rfl
 go_enter Tryz.func27, Tryz.ntmps27
 go_wp2
 go_loopg [11] D.pend.length (fun gg s11 wr => ∃ i : Nat, s11 = .int .i64 i ∧ i ≤ D.pend.length ∧ D.pend.length - i ≤ gg ∧ Aside0 (DevC w0 wr S g vn vl (.slice Ap D.pend.length cp) (D.keptV K i)) ∧ Aside0 (Below w0.heap.size w0 wr) ∧ Aside0 (Kept w wr S))
 case atStart => exact ⟨0, rfl, Nat.zero_le _, by omega, ⟨by rw [hlaid0]; exact HC.out⟩, HB, ⟨Kept.refl w S⟩⟩
 case round =>
  clear hlaid0 hq2
  obtain ⟨i, rfl, hi, hg, HCr, HBr, HKr⟩ := hrel
  by_cases hlt : i < D.pend.length
  ·have hltz : decide ((i : Int) < (D.pend.length : Int)) = true := zH (by omega)
   have hi0 : (0 : Int) ≤ (i : Int) := by omega
   have hi1 : (i : Int) < (D.pend.length : Int) := by omega
   have hps : (D.keptV K i).pend = D.pend := rfl
   obtain ⟨gp, cp', hvp⟩ := own_slice HCr.out.pend (by rw [hps]; omega)
   have hA : Ap = some ⟨gp, 0, none⟩ := by injection hvp
   clear hvp
   subst hA
   have hx := pcells_get D.pend i hlt
   have hq := HCr.out.pend
   rw [hps] at hq
   have e0 := row_get hq rfl hx.1
   have e1 := row_get hq rfl hx.2
   have hat := HCr.out.ok.at_ (D.pend[i]) (by rw [hps]; exact List.getElem_mem hlt)
   have hnl : (D.keptV K i).now.length = D.now.length := rfl
   have hll : (D.keptV K i).last.length = D.now.length := by rw [HCr.out.ok.len, hnl]
   have hl0 : D.last.length = D.now.length := HC.out.ok.len
   rw [hnl] at hat
   have HSU := zA (keptV_succ D K i hlt)
   obtain ⟨⟨a1, t1⟩, hpe⟩ : ∃ p, p = D.pend[i] := ⟨_, rfl⟩
   rw [← hpe] at e0 e1 hat HSU
   obtain ⟨q, hqq⟩ := Int.eq_ofNat_of_zero_le hat.1
   simp only at hqq e0 e1 hat HSU
   subst hqq
   have hql : q < D.now.length := by omega
   have p1 : (0 : Int) ≤ (q : Int) := by omega
   have p2 : (q : Int) < (D.last.length : Int) := by omega
   obtain ⟨Wa, hWa⟩ : ∃ Wa, Wa = wr.alloc (.cells #[.int .i64 q, .string t1] 123) := ⟨_, rfl⟩
   have hka : Kept wr Wa (fun _ => False) := by rw [hWa]; exact (Kept.refl wr _).alloc _
   have hca := HCr.out.kept hka fun _ _ h => h
   have HKA := zA (HKr.out.then_ hka fun _ h => h.elim)
   have eg2 : Wa.cell? ⟨g, 1, none⟩ = some (.slice (some ⟨gl, 0, none⟩) D.last.length cl) := by rw [zN hca.blk 1, ← hvl]; rfl
   have fg2 := zM hca.blk 1
   have hvl2 : vl = .slice (some ⟨gl, 0, none⟩) (D.keptV K i).last.length cl := by rw [hvl, hll, hl0]
   have el := row_get hca.last hvl2 (i := q) (u := .string ((D.keptV K i).last.getD q ⟨#[]⟩)) (by simp [hll, hql])
   obtain ⟨cur, hcur⟩ := row_block hca.last (k := gl) (by rw [hvl]; rfl)
   have fl := zM hcur q
   have hgb : w0.heap.size ≤ gl := own_base hca.last gl (by rw [hvl]; rfl)
   have HN := zA (hca.setLast hvl2 q t1)
   have HNA := zA hca
   have hnew : (wr.alloc (.cells #[.int .i64 q, .string t1] 123)).heap[wr.heap.size]? = some (.cells #[.int .i64 q, .string t1] 123 (0, 0)) := heap_alloc_new wr _
   have n0 := zN hnew 0
   have n1 := zN hnew 1
   have HBA := zA (zJ HBr.out (.cells #[.int .i64 q, .string t1] 123))
   have HWA := zA hWa
   rw [hWa] at eg2 fg2 el fl
   clear hq hx hca hcur hka hnew hl0 hll hnl hps hvl2 hpe hWa
   by_cases hik : i < K.length
   ·have hikz : decide ((i : Int) < (K.length : Int)) = true := zH (by omega)
    have hik1 : (i : Int) < (K.length : Int) := by omega
    obtain ⟨ad, rfl, hkc⟩ := HK.out Wa HKA.out i hik
    rw [HWA.out] at hkc
    have HKB := zA (show keepB K i = keepX K[i] by unfold keepB; rw [dif_pos hik])
    generalize K[i] = x at hkc HKB
    cases hx : keepX x with
    | true =>
     have hx2 : 0 < bits BinOp.and IntKind.i64 x 1 := by simpa [keepX] using hx
     have HSV := zA (show D.keptV K (i + 1) = { D.keptV K i with last := (D.keptV K i).last.set q t1 } by rw [HSU.out, if_pos (HKB.out.trans hx)]; rfl)
     clear hx hik
     go_wp2
     go_region
     all_goals go_wp2
     go_roundg (D.pend.length - (i + 1))
     case measure => omega
     case rel =>
      refine ⟨i + 1, by go_num, by omega, by omega, ⟨?_⟩, ⟨?_⟩, ⟨?_⟩⟩
      ·rw [HSV.out, ← HWA.out]; exact HN.out.drawn (show Drawn0 _ _ from ⟨⟨1, rfl⟩⟩)
      ·exact zK (below_set HBA.out hgb)
      ·rw [← HWA.out]; exact (HKA.out.setCell (p := ⟨gl, q, none⟩) (.inl (HC.out.sl gl (by rw [hvl]; rfl))) (.string t1)).drew
    | false =>
     have hx2 : ¬ 0 < bits BinOp.and IntKind.i64 x 1 := by simpa [keepX] using hx
     have HSV := zA (show D.keptV K (i + 1) = D.keptV K i by rw [HSU.out, if_neg (by rw [HKB.out, hx]; decide)])
     clear hx hik
     go_wp2
     go_roundg (D.pend.length - (i + 1))
     case measure => omega
     case rel =>
      refine ⟨i + 1, by go_num, by omega, by omega, ⟨?_⟩, HBA, ⟨?_⟩⟩
      ·rw [HSV.out, ← HWA.out]; exact HNA.out
      ·rw [← HWA.out]; exact HKA.out
   ·have hikz : decide ((i : Int) < (K.length : Int)) = false := zI (by omega)
    have hik1 : ¬ (i : Int) < (K.length : Int) := by omega
    have HKB := zA (show keepB K i = false by unfold keepB; rw [dif_neg hik])
    have HSV := zA (show D.keptV K (i + 1) = D.keptV K i by rw [HSU.out, if_neg (by rw [HKB.out]; decide)])
    clear hik
    go_wp2
    go_roundg (D.pend.length - (i + 1))
    case measure => omega
    case rel =>
     refine ⟨i + 1, by go_num, by omega, by omega, ⟨?_⟩, HBA, ⟨?_⟩⟩
     ·rw [HSV.out, ← HWA.out]; exact HNA.out
     ·rw [← HWA.out]; exact HKA.out
  ·have hltz : decide ((i : Int) < (D.pend.length : Int)) = false := zI (by omega)
   obtain rfl : i = D.pend.length := by omega
   obtain ⟨X, hX⟩ : ∃ X, X = D.keptV K D.pend.length := ⟨_, rfl⟩
   rw [← hX] at HCr
   have hxn : X.now = D.now := by rw [hX]; rfl
   have hxl : X.last.length = D.now.length := by rw [HCr.out.ok.len, hxn]
   have hl0 : D.last.length = D.now.length := HC.out.ok.len
   have hvl2 : vl = .slice (some ⟨gl, 0, none⟩) X.last.length cl := by rw [hvl, hxl, hl0]
   have hvn2 : vn = .slice (some ⟨gn, 0, none⟩) X.now.length cn := by rw [hvn, hxn]
   have hcd := HCr.out.drawn (show Drawn0 wr wr.drew from ⟨⟨1, rfl⟩⟩)
   obtain ⟨curn, hcurn⟩ := row_block hcd.now (k := gn) (by rw [hvn]; rfl)
   have hgb : w0.heap.size ≤ gn := own_base hcd.now gn (by rw [hvn]; rfl)
   have hsz : (Tryz.prog.info? 9).map (·.size) = some 1 := by kernel_rfl
   have mixed : Tryz.prog.follows .mixedOrders = true := by kernel_rfl
   have hcp : ∀ ty dc sc, (Builtin.copy_ #[60, 60] ty #[.slice (some ⟨gn, 0, none⟩) D.now.length dc, .slice (some ⟨gl, 0, none⟩) D.last.length sc]).run Tryz.prog wr.drew = .ok (goInt (Nat.min D.last.length D.now.length)) (wr.drew.setCells gn 0 (X.last.map .string)) := fun ty dc sc =>
    run_copy_k wr.drew _ _ ty 9 1 gn 0 D.now.length dc ⟨gl, 0, none⟩ D.last.length sc (X.last.map .string) Tryz.underlying60 hsz (by rw [List.length_map, hxl, hl0, Nat.mul_one]; exact (Nat.min_self _).symm)
     (fun j v hj => by rw [Addr.add_lit, Nat.zero_add]; exact row_get hcd.last hvl2 hj)
     (fun j hj => by
      rw [List.length_map, hxl, ← hxn] at hj
      rw [Nat.zero_add, row_get hcd.now hvn2 (i := j) (u := .string (X.now.getD j ⟨#[]⟩)) (by simp [hj])]
      rfl) (fun j hj => zM hcurn _) (fun v hv => by obtain ⟨x, _, rfl⟩ := List.mem_map.1 hv; rfl)
   have HX := zA (hcd.allNow hvn2 X.last (by rw [hxl, hxn]))
   have HBX := zA (below_setsW hgb (X.last.map .string) 0 (zK HBr.out))
   have HKX := zA ((HKr.out.drew).then_ (show Kept wr.drew (wr.drew.setCells gn 0 (X.last.map .string)) (· = gn) from ⟨by rw [sets_size]; exact Nat.le_refl _, fun i _ hi => sets_other hi _ 0 _⟩) fun k hk => .inl (hk ▸ HC.out.sn gn (by rw [hvn]; rfl)))
   have k0 : wr.cell? ⟨g, 0, none⟩ = some (.slice (some ⟨gn, 0, none⟩) D.now.length cn) := by rw [zN HCr.out.blk 0, ← hvn]; rfl
   have k1 : wr.cell? ⟨g, 1, none⟩ = some (.slice (some ⟨gl, 0, none⟩) D.last.length cl) := by rw [zN HCr.out.blk 1, ← hvl]; rfl
   have HF := zA (fun W h hb => dforget.calls g S { X with now := X.last } w0 W vn vl (.slice Ap D.pend.length cp) h hb)
   have HXX := zA hX
   clear hX hxn hxl hl0 hvl2 hvn2 hcd hcurn hgb hsz hltz
   generalize hws : wr.drew.setCells gn 0 (X.last.map .string) = ws at hcp HX HBX HKX
   clear hws
   go_wp2
   go_region_law_o (refine step_copy_runK rfl _ _ 60 60 rfl (.slice (some ⟨gn, 0, none⟩) D.now.length cn) (.slice (some ⟨gl, 0, none⟩) D.last.length cl) (by simp [Act.eval, Act.put]) (by simp [Act.eval, Act.put]) (hcp _ _ _) ?_)
   go_wp2_with (go_at_call 67; go_loud (refine (HF.out ws HX.out HBX.out).mono ?_; rintro e w6 ⟨rfl, ⟨vp', h6⟩, ht6⟩; have c3 := (zN h6.blk 3).trans rfl; have c4 := (zN h6.blk 4).trans rfl; have z3 := zM h6.blk 3; have z4 := zM h6.blk 4; have H6 := zA h6; have HT6 := zA ht6; clear h6 ht6))
   all_goals
    (first | go_end0 | ((try simp only [Exit.inBlock, Exit.then]); refine bodyPost_ret (results_none rfl _ _ _) rfl ?_))
    have hp : D.power K = { now := X.last, last := X.last, pend := [], left := -1, down := false } := by rw [HXX.out]; rfl
    have hg0 := (HC.out.sb g HC.out.sg).1
    rw [hp]
    exact ⟨rfl, ⟨_, _, _, (H6.out.set3 (-1) (by decide) (by decide)).set4 false⟩, below_set (below_set HT6.out.1 hg0) hg0, ((HKX.out.then_ HT6.out.2 fun k q => .inl q).setCell (p := ⟨g, 3, none⟩) (.inl HC.out.sg) _).setCell (p := ⟨g, 4, none⟩) (.inl HC.out.sg) _⟩
theorem VolSys.past {w0 W W' : World} {S M : Nat → Prop} {gd gv : Nat} {D : DV} {V : VV} (h : VolSys w0 W S M gd gv D V) (hb : Below W.heap.size W W') : VolSys w0 W' S M gd gv D V := by
 have hk : Kept W W' (fun _ => False) := zP hb _
 exact ⟨h.dev.kept hk fun _ _ h => h, below_then h.bel (below_size h.bel) hb, h.vol.move hk (fun _ h => h.elim) (fun _ _ h => h) (fun h => h), fun k q => ⟨(h.mb k q).1, Nat.lt_of_lt_of_le (h.mb k q).2 hb.size⟩, h.ms, h.mv⟩
theorem TxSys.toVol {w0 W : World} {S M : Nat → Prop} {gd gv gt : Nat} {D : DV} {V : VV} {T : TV} (h : TxSys w0 W S M gd gv gt D V T) : VolSys w0 W S M gd gv D V := ⟨h.dev, h.bel, h.vol, h.mb, h.ms, h.mv⟩
theorem vbeginS.calls {w0 w : World} {S M : Nat → Prop} {gd gv : Nat} {D : DV} {V : VV} (h : VolSys w0 w S M gd gv D V) (hok : V.Ok) :
  Calls Tryz.prog 12 #[.pointer (some ⟨gv, 0, none⟩)] w fun e w' => ∃ gt, e = .returned (.pointer (some ⟨gt, 0, none⟩)) ∧ w.heap.size ≤ gt ∧ TxSys w0 w' S (fun k => M k ∨ k = gt) gd gv gt D { V with began := V.began + 1 } (beginT V) ∧ Kept w w' (· = gv) := by
 refine (vbegin.calls M gv gd V w h.vol h.mv.1 (fun k q => (h.mb k q).2) hok).mono ?_
 rintro e w' ⟨gt, rfl, h1, h2, h3, h4, h5, h6⟩
 have hv := h.mb gv h.mv.1
 have hsz := below_size h.bel
 refine ⟨gt, rfl, h1, ⟨h.dev.kept h5 fun k q q2 => h.mv.2 (q2 ▸ q), h.bel.trans (h6 _ hv.1 hsz), h3, h4, fun k q => ?_, fun k q => .inl (h.ms k q), ⟨.inl h.mv.1, h.mv.2⟩, ⟨.inr rfl, fun q => by have := (h.mb gt (h.ms gt q)).2; omega, by omega⟩⟩, h5⟩
 rcases q with q | q
 ·exact ⟨(h.mb k q).1, Nat.lt_of_lt_of_le (h.mb k q).2 h5.1⟩
 ·subst q
  exact ⟨Nat.le_trans hsz h1, h2⟩
theorem fileL_well {f : Fi} (h : wellB f = true) : (fileL f).length ≤ 1000 := by
 unfold wellB at h
 simp only [Bool.and_eq_true, decide_eq_true_eq] at h
 have h1 := labB_len h.1
 have h2 := h.2.2.2.1
 unfold fileL
 simp only [zO, numL_len, span_len]
 omega
theorem filesL_well : ∀ l : List Fi, (∀ f ∈ l, wellB f = true) → (l.flatMap fileL).length ≤ 1000 * l.length
 | [], _ => Nat.le_refl _
 | f :: t, h => by
  have h1 := fileL_well (h f (List.mem_cons_self ..))
  have h2 := filesL_well t fun g hg => h g (List.mem_cons_of_mem _ hg)
  rw [List.flatMap_cons, zO, List.length_cons]
  omega
theorem putV_len {l : List Fi} (h : (putV l).2 = 0) : 0 < (putV l).1.length ∧ (putV l).1.length ≤ 200000 := by
 unfold putV at h ⊢
 by_cases hd : dirB l = true
 ·rw [if_pos hd] at h ⊢
  obtain ⟨h1, h2⟩ := dirB_well hd
  have h3 := filesL_well l h2
  rw [sealV_len]
  unfold dirL
  simp only [zO, numL_len]
  omega
 ·rw [if_neg hd] at h
  simp at h
end Go.Proofs.YtcclaidbikjhiaaGreatDoor.PVo
