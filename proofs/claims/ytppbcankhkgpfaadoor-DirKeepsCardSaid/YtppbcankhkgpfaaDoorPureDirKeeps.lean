import Derived.Test.YtppbcankhkgpfaaDoorPureUs
import Derived.Test.YtppbcankhkgpfaaDoorPureKl
--compressed
namespace Go.Proofs.YtppbcankhkgpfaaDoor.PDk
open Go.RowKit Go.Proofs.YtppbcankhkgpfaaDoorW.PrintWords
theorem rootcellarlaw7_DirKeeps.calls (k : Nat) (A0 : Option Addr) (c0 : Nat) (l0 : List S43) (f : S43) (A1 : Option Addr) (c1 : Nat) (r : Bool) (w : World) (hr0 : Kd.C k43 w A0 l0.length l0) (hc0 : l0.length ≤ c0) (hK : (k43).K w f (fileC3 f A1 c1)) (ht : TabsW w) (h : DirKeepsOk k l0 f Th.toR r) :
  Calls Tryd.prog 7 #[.slice A0 l0.length c0, .agg #[.string f.f0, .int .i64 f.f1, .slice A1 f.f2.length c1]] w fun e w' => e = .returned (.bool r) ∧ Below w.heap.size w w' := DirKeeps_calls k A0 c0 l0 f Th.toR A1 c1 r w hr0 hc0 hK ht h
end Go.Proofs.YtppbcankhkgpfaaDoor.PDk
namespace Go.Proofs.YtppbcankhkgpfaaDoor.Pure
open Go.RowKit Go.Proofs.YtppbcankhkgpfaaDoor.PDk Go.Proofs.YtppbcankhkgpfaaDoor.Th Go.Proofs.YtppbcankhkgpfaaDoorW.PrintWords Go.Proofs.YtppbcankhkgpfaaDoorW.PrintLast Go.Proofs.YtppbcankhkgpfaaDoorW.PrintMore
set_option linter.unusedVariables false
theorem keep_one {f : Fi} (hd : dirB [f] = true) : wellB f = true := ((dirB_iff [f]).1 hd).1 f (List.mem_singleton.2 rfl)
theorem all_evt {α : Type} (Q : Nat → α → Prop) : ∀ l : List α, (∀ x ∈ l, ∃ K, ∀ k, K ≤ k → Q k x) → ∃ K, ∀ x ∈ l, ∀ k, K ≤ k → Q k x
 | [], _ => ⟨0, fun _ h => nomatch h⟩
 | x :: t, h => by
  obtain ⟨K, hK⟩ := h x (List.mem_cons_self ..)
  obtain ⟨L, hL⟩ := all_evt Q t fun y hy => h y (List.mem_cons_of_mem _ hy)
  refine ⟨K + L, fun y hy k hk => ?_⟩
  rcases List.mem_cons.1 hy with rfl | hy
  ·exact hK k (by omega)
  ·exact hL y hy k (by omega)
theorem sd_with {a : ByteArray} {P E S : List Fi} {f : Fi} (hf : f.f0 = a) (h : Sd (P ++ E ++ S)) (hP : ∀ x ∈ P, aheadN x.f0 a = true) (hS : ∀ x ∈ S, aheadN a x.f0 = true) : Sd (P ++ f :: S) ∧ Sd (P ++ S) := by
 rw [List.append_assoc] at h
 obtain ⟨h1, h2, h3⟩ := List.pairwise_append.1 h
 obtain ⟨_, h4, _⟩ := List.pairwise_append.1 h2
 constructor
 ·refine List.pairwise_append.2 ⟨h1, List.pairwise_cons.2 ⟨fun x hx => by rw [hf]; exact hS x hx, h4⟩, fun x hx y hy => ?_⟩
  rcases List.mem_cons.1 hy with rfl | hy
  ·rw [hf]; exact hP x hx
  ·exact h3 x hx y (by simp [hy])
 ·exact List.pairwise_append.2 ⟨h1, h4, fun x hx y hy => h3 x hx y (by simp [hy])⟩
theorem DirKeeps (l : List Fi) (f : Fi) (hw : WkL l) (hf : Wk f) : ∃ k, DirKeepsOk k l f toR true := by
 suffices h : ∃ k, rootcellarlaw7_shown.f k = some true ∧ (keepsEarly k l f ∨ KeepsAll k l f toR) from by
  obtain ⟨k, h⟩ := h
  exact ⟨k, rfl, h⟩
 obtain ⟨K1, s1⟩ := shown_ev
 obtain ⟨K2, s2⟩ := small_ev l
 obtain ⟨K3, s3⟩ := put_evW l hw
 obtain ⟨K4, s4⟩ := put_evW [f] ⟨by show (1 : Nat) ≤ _; decide, fun g hg => by rw [List.mem_singleton.1 hg]; exact hf⟩
 by_cases hc : smallB l = true ∧ dirB l = true ∧ dirB [f] = true ∧ l.length < 120
 ·obtain ⟨hs, hd, hd1, hlen⟩ := hc
  obtain ⟨w1, sd, ll⟩ := (dirB_iff l).1 hd
  have wf := keep_one hd1
  obtain ⟨P, E, S, e1, hP, hS, hE⟩ := parted f.f0 l sd
  have hW := with_part (f := f) rfl hP hS hE
  have hO := without_part hP hS hE
  have hO2 : withoutV f.f0 (P ++ f :: S) = P ++ S := by
   have := without_part (E := [f]) hP hS (.inr ⟨f, rfl, rfl⟩)
   rwa [List.append_assoc] at this
  rw [← e1] at hW hO
  have sd2 := sd
  rw [e1] at sd2
  obtain ⟨sdW, sdO⟩ := sd_with (f := f) rfl sd2 hP hS
  have hll : l.length = P.length + E.length + S.length := by rw [e1]; simp; omega
  have inP : ∀ g ∈ P, g ∈ l := fun g hg => by rw [e1]; simp [hg]
  have inS : ∀ g ∈ S, g ∈ l := fun g hg => by rw [e1]; simp [hg]
  have wW : ∀ g ∈ P ++ f :: S, wellB g = true := fun g hg => by
   rcases List.mem_append.1 hg with hg | hg
   ·exact w1 g (inP g hg)
   ·rcases List.mem_cons.1 hg with rfl | hg
    ·exact wf
    ·exact w1 g (inS g hg)
  have wO : ∀ g ∈ P ++ S, wellB g = true := fun g hg => by
   rcases List.mem_append.1 hg with hg | hg
   ·exact w1 g (inP g hg)
   ·exact w1 g (inS g hg)
  have lW : (P ++ f :: S).length ≤ 120 := by simp; omega
  have lO : (P ++ S).length ≤ 120 := by simp; omega
  have dW : dirB (P ++ f :: S) = true := (dirB_iff _).2 ⟨wW, sdW, lW⟩
  have dO : dirB (P ++ S) = true := (dirB_iff _).2 ⟨wO, sdO, lO⟩
  obtain ⟨K5, s5⟩ := put_ev _ (dirB_bd dW)
  obtain ⟨K6, s6⟩ := put_ev _ (dirB_bd dO)
  obtain ⟨K7, s7⟩ := as_ev (P ++ S) (by omega)
  obtain ⟨K8, s8⟩ := same_ev (P ++ S) (dirB_bd dO)
  have bd1 : ∀ x, wellB x = true → BdL [x] := fun x hx => ⟨by show (1 : Nat) ≤ _; decide, fun g hg => by rw [List.mem_singleton.1 hg]; exact (well_ok hx).2.2⟩
  obtain ⟨K9, s9⟩ := all_evt (fun k x => rootcellarlaw7_as.f k [x] = some [toR x] ∧ rootcellarlaw7_same.f k [x] [toR x] = some true) (f :: l) fun x hx => by
   have wx : wellB x = true := by
    rcases List.mem_cons.1 hx with rfl | hx
    ·exact wf
    ·exact w1 x hx
   obtain ⟨Ka, sa⟩ := as_ev [x] (by show (1 : Nat) ≤ _; decide)
   obtain ⟨Kb, sb⟩ := same_ev [x] (bd1 x wx)
   exact ⟨Ka + Kb, fun k hk => ⟨sa k (by omega), sb k (by omega)⟩⟩
  have hp : ∀ {l : List Fi}, dirB l = true → putV l = (sealV (dirL l), 0) := fun h => by unfold putV; rw [if_pos h]
  rw [hp hd] at s3
  rw [hp hd1] at s4
  rw [hp dW] at s5
  rw [hp dO] at s6
  rw [hs] at s2
  refine ⟨K1 + K2 + K3 + K4 + K5 + K6 + K7 + K8 + K9, s1 _ (by omega), .inr ⟨s2 _ (by omega), ⟨_, s3 _ (by omega)⟩, ⟨_, s4 _ (by omega)⟩, hlen, mono_sd sd f.f0, ?_, ?_, ?_, ?_, ?_, ?_, ?_, ?_, ?_, ?_, ?_⟩⟩
  ·rw [hW]
   exact find_at (fun x hx => ahead_ne (hP x hx)) rfl
  ·rw [hW, hO2]
   rw [find_none fun x hx => ?_]
   rcases List.mem_append.1 hx with hx | hx
   ·exact ahead_ne (hP x hx)
   ·exact ahead_ne' (hS x hx)
  ·rw [hW]
   exact ⟨_, s5 _ (by omega)⟩
  ·rw [hW, hO2]
   exact ⟨_, s6 _ (by omega)⟩
  ·intro x hx
   refine s9 x ?_ _ (by omega)
   rcases hx with rfl | hx
   ·exact List.mem_cons_self ..
   ·exact List.mem_cons_of_mem _ hx
  ·rw [hW, hO2]
   simp
   omega
  ·rw [hW]; omega
  ·intro x hx
   rw [hW]
   rw [e1] at hx
   have hfound : ∀ y, y ∈ P ++ f :: S → (findV y.f0 (P ++ f :: S)).2 = true ∧ ((y.f0.toList == f.f0.toList) = false → findV y.f0 (P ++ f :: S) = (y, true)) := fun y hy => by
    rw [find_sd sdW hy]
    exact ⟨rfl, fun _ => rfl⟩
   rcases List.mem_append.1 hx with hx | hx
   ·rcases List.mem_append.1 hx with hx | hx
    ·exact hfound x (by simp [hx])
    ·rcases hE with rfl | ⟨e, rfl, he⟩
     ·cases hx
     ·obtain rfl := List.mem_singleton.1 hx
      rw [he]
      refine ⟨(hfound f (by simp)).1, fun h => ?_⟩
      simp at h
   ·exact hfound x (by simp [hx])
  ·rw [hW, hO2, hO]
  ·rw [hO]
   exact s7 _ (by omega)
  ·rw [hO]
   exact s8 _ (by omega)
 ·refine ⟨K1 + K2 + K3 + K4, s1 _ (by omega), .inl ⟨_, _, _, _, _, s2 _ (by omega), s3 _ (by omega), s4 _ (by omega), ?_⟩⟩
  have hp : ∀ {l : List Fi}, ¬ dirB l = true → (putV l).2 ≠ 0 := fun h => by unfold putV; rw [if_neg h]; decide
  by_cases h1 : smallB l = true
  ·by_cases h2 : dirB l = true
   ·by_cases h3 : dirB [f] = true
    ·exact .inr (.inr (.inr (by
      rcases Nat.lt_or_ge l.length 120 with h | h
      ·exact absurd ⟨h1, h2, h3, h⟩ hc
      ·exact h)))
    ·exact .inr (.inr (.inl (hp h3)))
   ·exact .inr (.inl (hp h2))
  ·exact .inl (by simpa using h1)
end Go.Proofs.YtppbcankhkgpfaaDoor.Pure
