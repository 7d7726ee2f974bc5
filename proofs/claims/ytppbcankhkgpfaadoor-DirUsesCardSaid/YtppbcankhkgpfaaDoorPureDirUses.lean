import Derived.Test.YtppbcankhkgpfaaDoorPureUs
import Derived.Test.YtppbcankhkgpfaaDoorPureUl
--compressed
namespace Go.Proofs.YtppbcankhkgpfaaDoor.Pure
open Go.RowKit Go.Proofs.YtppbcankhkgpfaaDoor.PDk Go.Proofs.YtppbcankhkgpfaaDoor.Th Go.Proofs.YtppbcankhkgpfaaDoorW.PrintWords Go.Proofs.YtppbcankhkgpfaaDoorW.PrintLast Go.Proofs.YtppbcankhkgpfaaDoorW.PrintMore
set_option linter.unusedVariables false
theorem put_one {f : Fi} (hd : dirB [f] = true) : wellB f = true := ((dirB_iff [f]).1 hd).1 f (List.mem_singleton.2 rfl)
theorem DirUses (l : List Fi) (f : Fi) (hw : WkL l) (hf : Wk f) : ∃ k, DirUsesOk k l f true := by
 suffices h : ∃ k, rootcellarlaw7_shown.f k = some true ∧ (usesEarly k l f ∨ ∃ n1 n2 n3 n4 n5, UsesAll k l f n1 n2 n3 n4 n5) from by
  obtain ⟨k, h⟩ := h
  exact ⟨k, rfl, h⟩
 obtain ⟨K1, s1⟩ := shown_ev
 obtain ⟨K2, s2⟩ := small_ev l
 obtain ⟨K3, s3⟩ := put_evW l hw
 obtain ⟨K4, s4⟩ := put_evW [f] ⟨by show (1 : Nat) ≤ _; decide, fun g hg => by rw [List.mem_singleton.1 hg]; exact hf⟩
 by_cases hc : smallB l = true ∧ dirB l = true ∧ dirB [f] = true
 ·obtain ⟨hs, hd, hd1⟩ := hc
  obtain ⟨w1, sd, ll⟩ := (dirB_iff l).1 hd
  have wf := put_one hd1
  obtain ⟨P, E, S, e1, hP, hS, hE⟩ := parted f.f0 l sd
  have hW := with_part (f := f) rfl hP hS hE
  have hO := without_part hP hS hE
  rw [← e1] at hW hO
  have wW : ∀ g ∈ withV f l, wellB g = true := fun g hg => by
   rw [hW] at hg
   rcases List.mem_append.1 hg with hg | hg
   ·exact w1 g (by rw [e1]; simp [hg])
   ·rcases List.mem_cons.1 hg with rfl | hg
    ·exact wf
    ·exact w1 g (by rw [e1]; simp [hg])
  have wO : ∀ g ∈ withoutV f.f0 l, wellB g = true := fun g hg => by
   rw [hO] at hg
   rcases List.mem_append.1 hg with hg | hg <;> exact w1 g (by rw [e1]; simp [hg])
  have hll : l.length = P.length + E.length + S.length := by rw [e1]; simp; omega
  have lW : (withV f l).length ≤ 1000 := by rw [hW]; simp; omega
  have lO : (withoutV f.f0 l).length ≤ 1000 := by rw [hO]; simp; omega
  obtain ⟨K5, s5⟩ := used_ev l (well_bd w1 (by omega))
  obtain ⟨K6, s6⟩ := used_ev _ (well_bd wW lW)
  obtain ⟨K7, s7⟩ := used_ev _ (well_bd wO lO)
  obtain ⟨a1, a2, a3, a4⟩ := used_sec w1 (by omega)
  obtain ⟨b1, b2, b3, b4⟩ := used_sec wW lW
  obtain ⟨c1, c2, c3, c4⟩ := used_sec wO lO
  obtain ⟨d1, d2, d3⟩ := well_ok wf
  have d4 := sumF_bound d1 (by decide)
  have d5 : secF f.f2 = sumF f.f2 := secF_sum (by decide) (by decide) d1 (by omega)
  obtain ⟨K8, s8⟩ := sectors_ev (usedV l) (by omega)
  obtain ⟨K9, s9⟩ := sectors_ev (usedV (withV f l)) (by omega)
  obtain ⟨K10, s10⟩ := sectors_ev (usedV (withoutV f.f0 l)) (by omega)
  obtain ⟨K11, s11⟩ := sectors_ev f.f2 (by omega)
  obtain ⟨n5, K12, h5, q1, q2⟩ : ∃ n5 K12, (if (findV f.f0 l).2 = true then ∀ k, K12 ≤ k → rootcellarlaw7_sectors.f k (findV f.f0 l).1.f2 = some n5 else n5 = 0) ∧ sumF (usedV (withV f l)) = sumF (usedV l) + sumF f.f2 - n5 ∧ sumF (usedV (withoutV f.f0 l)) = sumF (usedV l) - n5 := by
   rcases hE with rfl | ⟨e, rfl, he⟩
   ·refine ⟨0, 0, ?_, ?_, ?_⟩
    ·have : findV f.f0 l = (z43, false) := find_none fun x hx => by
      rw [e1, List.append_nil] at hx
      rcases List.mem_append.1 hx with hx | hx
      ·exact ahead_ne (hP x hx)
      ·exact ahead_ne' (hS x hx)
     rw [this]
     rfl
    ·rw [hW, e1, List.append_nil, used_app, used_cons, used_app, sumF_append, sumF_append, sumF_append]; omega
    ·rw [hO, e1, List.append_nil]; omega
   ·have we := w1 e (by rw [e1]; simp)
    obtain ⟨g1, g2, g3⟩ := well_ok we
    obtain ⟨K, s⟩ := sectors_ev e.f2 (by omega)
    have hfi : findV f.f0 l = (e, true) := by
     rw [e1, List.append_assoc]
     exact find_at (fun x hx => ahead_ne (hP x hx)) he
    refine ⟨sumF e.f2, K, ?_, ?_, ?_⟩
    ·rw [hfi, if_pos rfl]
     intro k hk
     rw [← secF_sum (by decide) (by decide) g1 (by omega)]
     exact s k hk
    ·rw [hW, e1, used_app, used_cons, used_app, used_app, used_cons, sumF_append, sumF_append, sumF_append, sumF_append, sumF_append]
     have z : Th.sumF (usedV []) = 0 := rfl
     omega
    ·rw [hO, e1, used_app, used_app, used_app, used_cons, sumF_append, sumF_append, sumF_append, sumF_append]
     have z : Th.sumF (usedV []) = 0 := rfl
     omega
  have hp : putV l = (sealV (dirL l), 0) := by unfold putV; rw [if_pos hd]
  have hp1 : putV [f] = (sealV (dirL [f]), 0) := by unfold putV; rw [if_pos hd1]
  rw [hp] at s3
  rw [hp1] at s4
  rw [hs] at s2
  rw [a1] at s8
  rw [b1] at s9
  rw [c1] at s10
  rw [d5] at s11
  refine ⟨K1 + K2 + K3 + K4 + K5 + K6 + K7 + K8 + K9 + K10 + K11 + K12, s1 _ (by omega), .inr ⟨_, _, _, _, n5, ⟨s2 _ (by omega), ⟨_, s3 _ (by omega)⟩, ⟨_, s4 _ (by omega)⟩, by omega, mono_sd sd f.f0, ⟨_, s5 _ (by omega), s8 _ (by omega)⟩, ⟨_, s6 _ (by omega), s9 _ (by omega)⟩, ⟨_, s7 _ (by omega), s10 _ (by omega)⟩, s11 _ (by omega), ?_, ?_, ?_⟩⟩⟩
  ·split
   ·rename_i h
    rw [if_pos h] at h5
    exact h5 _ (by omega)
   ·rename_i h
    rw [if_neg h] at h5
    exact h5
  ·rw [beq_iff_eq, wrap64_id (n := sumF (usedV l) + sumF f.f2) (by omega) (by omega), wrap64_id (by omega) (by omega)]
   exact q1
  ·rw [beq_iff_eq, wrap64_id (by omega) (by omega)]
   exact q2
 ·refine ⟨K1 + K2 + K3 + K4, s1 _ (by omega), .inl ⟨_, _, _, _, _, s2 _ (by omega), s3 _ (by omega), s4 _ (by omega), ?_⟩⟩
  by_cases h1 : smallB l = true
  ·by_cases h2 : dirB l = true
   ·refine .inr (.inr ?_)
    have h3 : ¬ dirB [f] = true := fun h3 => hc ⟨h1, h2, h3⟩
    unfold putV
    rw [if_neg h3]
    decide
   ·refine .inr (.inl ?_)
    unfold putV
    rw [if_neg h2]
    decide
  ·exact .inl (by simpa using h1)
end Go.Proofs.YtppbcankhkgpfaaDoor.Pure
