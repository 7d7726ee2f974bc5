import Derived.Test.YtppbcankhkgpfaaDoorPureTu
namespace Go.Proofs.YtppbcankhkgpfaaDoor.Pure
open Go.RowKit Go.Proofs.YtppbcankhkgpfaaDoor.PDir Go.Proofs.YtppbcankhkgpfaaDoor.Th Go.Proofs.YtppbcankhkgpfaaDoorW.PrintWords Go.Proofs.YtppbcankhkgpfaaDoorW.PrintLast Go.Proofs.YtppbcankhkgpfaaDoorW.PrintMore
set_option linter.unusedVariables false
theorem cut_place (a3 : Int) (n : Nat) (h0 : 4 ≤ n) (h1 : n ≤ 1000000) : ∃ j : Nat, (j : Int) = mx 0 (mn a3 (wrap64 ((n : Int) - 1))) ∧ j < n := by
  refine ⟨(mx 0 (mn a3 (wrap64 ((n : Int) - 1)))).toNat, ?_, ?_⟩
  · rw [Th.wrap64_id (by omega) (by omega)]
    unfold mx mn
    split <;> split at * <;> omega
  · rw [Th.wrap64_id (by omega) (by omega)]
    unfold mx mn
    split <;> split at * <;> omega
theorem DirTurned (l0 : List Fi) (a1 a2 a3 : Int) (w1 : (Lit.int .i64 a1).wf = true) (w2 : (Lit.int .u32 a2).wf = true) (w3 : (Lit.int .i64 a3).wf = true) : ∃ k, TurnOk k l0 a1 a2 a3 true := by
  have hu : 0 ≤ a2 ∧ a2 < 4294967296 := by
    unfold Lit.wf at w2
    simp only [Bool.and_eq_true, decide_eq_true_eq] at w2
    have e1 : IntKind.u32.min = 0 := by decide
    have e2 : IntKind.u32.max = 4294967295 := by decide
    rw [e1, e2] at w2
    omega
  obtain ⟨K1, s1⟩ := shown_ev
  obtain ⟨K2, s2⟩ := small_ev l0
  by_cases hs : smallB l0 = true
  · obtain ⟨hb, hl⟩ := small_bd hs
    obtain ⟨K3, s3⟩ := put_ev l0 hb
    rw [hs] at s2
    by_cases hd : dirB l0 = true
    · have hp : putV l0 = (sealV (dirL l0), 0) := by unfold putV; rw [if_pos hd]
      rw [hp] at s3
      have hlen := small_len hs
      have hS := sealV_len (dirL l0)
      have hz : (unsV (sealV (dirL l0))).2 = 0 := by rw [unseal_seal]
      have hcut := fun j hj => cut_bad hd (j := j) hj
      generalize hSS : sealV (dirL l0) = S at s3 hS hz hcut
      have hBs : (B S).size = S.length := B_size S
      by_cases hc : a2 = 0 ∨ a1 < 0 ∨ 8 * (S.length : Int) - 32 < a1
      · refine ⟨max K1 (max K2 K3), rfl, s1 _ (by omega), .inr ⟨s2 _ (by omega), B S, 0, s3 _ (by omega), .inr ⟨rfl, by omega, .inl ?_⟩⟩⟩
        rw [hBs]
        exact hc
      · have ht : takeV (turnL a1.toNat a2.toNat 32 S) = ([], 9) := turned hz (by omega) (by omega) (by omega) (by omega)
        obtain ⟨j, hj, hjl⟩ := cut_place a3 S.length (by omega) (by omega)
        obtain ⟨K4, s4⟩ := take_ev' (turnL a1.toNat a2.toNat 32 S) (by rw [turnL_len]; omega)
        obtain ⟨K5, s5⟩ := take_ev' (S.take j) (by rw [List.length_take]; omega)
        rw [ht] at s4
        have hbad := hcut j hjl
        have hnil := take_err hbad
        refine ⟨max K1 (max K2 (max K3 (max K4 K5))), rfl, s1 _ (by omega), .inr ⟨s2 _ (by omega), B S, 0, s3 _ (by omega), .inr ⟨rfl, by omega, .inr ⟨by omega, by omega, by omega, by omega, by omega, ?_, j, (takeV (S.take j)).2, ?_, by omega, ?_, hbad⟩⟩⟩⟩
        · rw [B_data]
          exact s4 _ (by omega)
        · rw [hBs]; exact hj
        · rw [B_upto]
          refine (s5 (max K1 (max K2 (max K3 (max K4 K5)))) (by omega)).trans ?_
          rw [show takeV (S.take j) = ([], (takeV (S.take j)).2) from Prod.ext hnil rfl]
    · have hp : putV l0 = ([], 1) := by unfold putV; rw [if_neg hd]
      rw [hp] at s3
      exact ⟨max K1 (max K2 K3), rfl, s1 _ (by omega), .inr ⟨s2 _ (by omega), B [], 1, s3 _ (by omega), .inl (by decide)⟩⟩
  · have hs' : smallB l0 = false := by simpa using hs
    rw [hs'] at s2
    exact ⟨max K1 K2, rfl, s1 _ (by omega), .inl (s2 _ (by omega))⟩
end Go.Proofs.YtppbcankhkgpfaaDoor.Pure
