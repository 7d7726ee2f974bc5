import Derived.Test.YtppbcankhkgpfaaDoorPureFx
import Derived.Test.YtppbcankhkgpfaaDoorPureFl
--compressed
namespace Go.Proofs.YtppbcankhkgpfaaDoor.PDq
open Go.RowKit Go.Proofs.YtppbcankhkgpfaaDoorW.PrintWords
theorem rootcellarlaw7_DirFiles.calls (k : Nat) (A0 : Option Addr) (c0 : Nat) (l0 : List S43) (f : S43) (A1 : Option Addr) (c1 : Nat) (name : ByteArray) (r : Bool) (w : World) (hr0 : Kd.C k43 w A0 l0.length l0) (hc0 : l0.length ≤ c0) (hK : (k43).K w f (fileC3 f A1 c1)) (ht : TabsW w) (h : DirFilesOk k l0 f name r) :
  Calls Tryd.prog 6 #[.slice A0 l0.length c0, .agg #[.string f.f0, .int .i64 f.f1, .slice A1 f.f2.length c1], .string name] w fun e w' => e = .returned (.bool r) ∧ Below w.heap.size w w' := DirFiles_calls k A0 c0 l0 f A1 c1 name r w hr0 hc0 hK ht h
end Go.Proofs.YtppbcankhkgpfaaDoor.PDq
namespace Go.Proofs.YtppbcankhkgpfaaDoor.Pure
open Go.RowKit Go.Proofs.YtppbcankhkgpfaaDoor.PDq Go.Proofs.YtppbcankhkgpfaaDoor.Th Go.Proofs.YtppbcankhkgpfaaDoorW.PrintWords Go.Proofs.YtppbcankhkgpfaaDoorW.PrintLast Go.Proofs.YtppbcankhkgpfaaDoorW.PrintMore
set_option linter.unusedVariables false
theorem find_bd {l : List Fi} {name : ByteArray} (sd : Sd l) (hw : ∀ f ∈ l, Wk f) : (findV name l).1.f2.length ≤ 9223372036854775807 := by
 by_cases h : ∃ e ∈ l, e.f0.toList = name.toList
 ·obtain ⟨e, he, hq⟩ := h
  obtain rfl := ba_ext hq
  rw [find_sd sd he]
  exact (hw e he).2
 ·rw [find_none fun x hx => beq_eq_false_iff_ne.2 fun hq => h ⟨x, hx, hq⟩]
  decide
theorem DirFiles (l : List Fi) (f : Fi) (name : ByteArray) (_hn : name.size ≤ 140737488351232) (hw : WkL l) (hf : Wk f) : ∃ k, DirFilesOk k l f name true := by
 suffices h : ∃ k, rootcellarlaw7_shown.f k = some true ∧ (filesEarly k l f name ∨ (∃ KR, rootcellarlaw7_small.f k l = some true ∧ f.f0.size ≤ 150 ∧ name.size ≤ 150 ∧ rootcellarlaw7_as.f k l = some KR ∧ rootcellarref7_Is.f k KR = some false) ∨ ∃ g KR x y o RF RO, FilesAll k l f name g KR x y o RF RO) from by
  obtain ⟨k, h⟩ := h
  exact ⟨k, rfl, h⟩
 obtain ⟨K1, s1⟩ := shown_ev
 obtain ⟨K2, s2⟩ := small_ev l
 by_cases hc : smallB l = true ∧ f.f0.size ≤ 150 ∧ name.size ≤ 150
 ·obtain ⟨hs, z1, z2⟩ := hc
  rw [hs] at s2
  obtain ⟨hbd, hl130⟩ := small_bd hs
  obtain ⟨K3, s3⟩ := as_ev l (by omega)
  obtain ⟨K4, s4⟩ := refis_ev l hbd
  by_cases hd : dirB l = true
  ·rw [hd] at s4
   obtain ⟨w1, sd, ll⟩ := (dirB_iff l).1 hd
   obtain ⟨K5, s5⟩ := as_ev [f] (by show (1 : Nat) ≤ _; decide)
   obtain ⟨K6, s6⟩ := reffind_ev l name (by omega)
   obtain ⟨K7, s7⟩ := refwithout_ev l f.f0 (by omega)
   obtain ⟨K8, s8⟩ := refwithout_ev l name (by omega)
   have lO : ∀ a, (withoutV a l).length ≤ l.length := fun a => List.length_filter_le ..
   have mO : ∀ a, ∀ g ∈ withoutV a l, g ∈ l := fun a g hg => (List.mem_filter.1 hg).1
   have hW : ∃ P E S : List Fi, l = P ++ E ++ S ∧ withV f l = P ++ f :: S := by
    obtain ⟨P, E, S, e1, hP, hS, hE⟩ := parted f.f0 l sd
    have hW := with_part (f := f) rfl hP hS hE
    rw [← e1] at hW
    exact ⟨P, E, S, e1, hW⟩
   obtain ⟨P, E, S, e1, hW⟩ := hW
   have hll : l.length = P.length + E.length + S.length := by rw [e1]; simp; omega
   obtain ⟨K9, s9⟩ := same_evW (withV f l) (by rw [hW]; simp; omega) (fun g hg => by
    rw [hW] at hg
    rcases List.mem_append.1 hg with hg | hg
    ·exact (hw.2 g (by rw [e1]; simp [hg])).2
    ·rcases List.mem_cons.1 hg with rfl | hg
     ·exact hf.2
     ·exact (hw.2 g (by rw [e1]; simp [hg])).2)
   obtain ⟨K10, s10⟩ := same_evW (withoutV name l) (by have := lO name; omega) (fun g hg => (hw.2 g (mO name g hg)).2)
   obtain ⟨K11, s11⟩ := same_evW [(findV name l).1] (by show (1 : Nat) ≤ _; decide) (fun g hg => by rw [List.mem_singleton.1 hg]; exact find_bd sd hw.2)
   refine ⟨K1 + K2 + K3 + K4 + K5 + K6 + K7 + K8 + K9 + K10 + K11, s1 _ (by omega), .inr (.inr ⟨toR f, l.map toR, (findV name l).1, toR (findV name l).1, (findV name l).2, (withoutV f.f0 l).map toR, (withoutV name l).map toR, ⟨s2 _ (by omega), z1, z2, by omega, s3 _ (by omega), s4 _ (by omega), s5 _ (by omega), rfl, s6 _ (by omega), mono_sd sd f.f0, s7 _ (by omega), ?_, ?_, s8 _ (by omega), s10 _ (by omega), s11 _ (by omega)⟩⟩)⟩
   ·have := lO f.f0
    rw [List.length_map]; omega
   ·rw [with_ins sd f]
    exact s9 _ (by omega)
  ·rw [show dirB l = false from by simpa using hd] at s4
   exact ⟨K1 + K2 + K3 + K4, s1 _ (by omega), .inr (.inl ⟨_, s2 _ (by omega), z1, z2, s3 _ (by omega), s4 _ (by omega)⟩)⟩
 ·refine ⟨K1 + K2, s1 _ (by omega), .inl ⟨_, s2 _ (by omega), ?_⟩⟩
  by_cases h1 : smallB l = true
  ·by_cases h2 : f.f0.size ≤ 150
   ·exact .inr (.inr (by
     rcases Nat.lt_or_ge 150 name.size with h | h
     ·exact h
     ·exact absurd ⟨h1, h2, h⟩ hc))
   ·exact .inr (.inl (by omega))
  ·exact .inl (by simpa using h1)
end Go.Proofs.YtppbcankhkgpfaaDoor.Pure
