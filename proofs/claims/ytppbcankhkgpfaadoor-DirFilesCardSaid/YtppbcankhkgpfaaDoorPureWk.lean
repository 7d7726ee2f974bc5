/-
  Rows of files of whatever size: whether they are a directory, and that as bytes.
-/
import Derived.Test.YtppbcankhkgpfaaDoorPureRd
--compressed
namespace Go.Proofs.YtppbcankhkgpfaaDoor.Th
open Go.RowKit Go.Proofs.YtppbcankhkgpfaaDoor.PDq
set_option linter.unusedVariables false
set_option linter.unusedSimpArgs false
def Wk (f : Fi) : Prop := f.f0.size ≤ 9223372036854775807 ∧ f.f2.length ≤ 9223372036854775807
def WkL (l : List Fi) : Prop := l.length ≤ 9223372036854775807 ∧ ∀ f ∈ l, Wk f
theorem idxW (n : Nat) (h : n < 9223372036854775807) : wrap64 ((n : Int) + 1) = ((n + 1 : Nat) : Int) := by rw [wrap64_id (by omega) (by omega)]; rfl
theorem well_evW (f : Fi) (hb : Wk f) : Evt (fun k => dir_File_well.f k f.f0 f.f1 f.f2) (wellB f) := by
 obtain ⟨h1, h2⟩ := hb
 unfold dir_File_well.f wellB
 refine Evt.bind (total_ev f.f2 (by omega)) ?_
 have hl := label_f f.f0.data.toList (by rw [← Lib.size_eq]; omega)
 rw [B_of] at hl
 refine Evt.bind' hl ?_
 cases labB f.f0.data.toList with
 | false => exact Evt.neg (by decide) (Evt.val _)
 | true =>
  refine Evt.pos rfl ?_
  by_cases c1 : 0 ≤ f.f1
  ·refine Evt.pos c1 ?_
   by_cases c2 : f.f1 ≤ 20000
   ·refine Evt.pos c2 ?_
    by_cases c3 : f.f2.length ≤ 200
    ·refine Evt.pos (by omega) (Evt.bind (right_ev f.f2 8192 (by omega)) ?_)
     simp only [c1, c2, c3, decide_true, Bool.true_and]
     cases hr : rightF 8192 (-1) f.f2 with
     | false => exact Evt.neg (by decide) (Evt.val _)
     | true =>
      obtain ⟨e, k1, k2⟩ := sum_bd hr (by omega)
      have hw : wrap64 (totF f.f2 * 64) = sumF f.f2 * 64 := by rw [e, wrap64_id (by omega) (by omega)]
      refine Evt.pos rfl ?_
      rw [hw]
      by_cases c4 : f.f1 ≤ sumF f.f2 * 64
      ·refine Evt.pos c4 (Evt.val' ?_)
       rw [wrap64_id (by omega) (by omega)]
       simp [c4]
      ·exact Evt.neg c4 (Evt.val' (by simp [c4]))
    ·exact Evt.neg (by omega) (Evt.val' (by simp [c3]))
   ·exact Evt.neg c2 (Evt.val' (by simp [c2]))
  ·exact Evt.neg c1 (Evt.val' (by simp [c1]))
theorem directory_evW (l : List Fi) (hb : WkL l) : Evt (fun k => dir_directory.f k l) (dirB l) := by
 obtain ⟨hl, hw⟩ := hb
 have jf : ∀ n : Int, Evt (fun k => dir_directory.j1 k l l (l.length : Int) n true) false := fun n => Evt.step (fun k => by rw [dir_directory.j1]) (Evt.pos rfl (Evt.val _))
 have fin : ∀ n : Int, ¬ n < (l.length : Int) → Evt (fun k => dir_directory.l0 k l l (l.length : Int) n) (decide (l.length ≤ 120)) := fun n hn =>
  Evt.step (fun k => by rw [dir_directory.l0]) (Evt.neg hn (Evt.val' (by simp; omega)))
 have key : ∀ (r d : List Fi) (q : Fi), l = d ++ q :: r → Evt (fun k => dir_directory.l0 k l l (l.length : Int) ((d.length + 1 : Nat) : Int)) (goB (some q.f0) r && decide (l.length ≤ 120)) := by
  intro r
  induction r with
  | nil =>
   intro d q hd
   have hlen : l.length = d.length + 1 := by rw [hd]; simp
   exact fin _ (by omega)
  | cons f r ih =>
   intro d q hd
   have hlen : l.length = d.length + (r.length + 2) := by rw [hd]; simp
   have hd2 : l = (d ++ [q]) ++ f :: r := by rw [hd]; simp
   have hrd : rd_T43 l ((d.length + 1 : Nat) : Int) = f := by
    have := rdF_mid (d ++ [q]) f r
    rwa [← hd2, show (d ++ [q]).length = d.length + 1 by simp] at this
   have hrq : rd_T43 l (d.length : Int) = q := by
    have := rdF_mid d q (f :: r)
    rwa [← hd] at this
   have hp : wrap64 (((d.length + 1 : Nat) : Int) - 1) = (d.length : Int) := by rw [wrap64_id (by omega) (by omega)]; omega
   have hi := ih (d ++ [q]) f hd2
   rw [show (d ++ [q]).length = d.length + 1 by simp] at hi
   refine Evt.step (fun k => by rw [dir_directory.l0]) (Evt.pos (by omega) (Evt.pos (by omega) (Evt.pos (by omega) ?_)))
   rw [hrd, hp, hrq]
   refine Evt.bind (well_evW f (hw f (by rw [hd]; simp))) ?_
   unfold goB
   cases wellB f with
   | false => exact Evt.neg (by decide) (jf _)
   | true =>
    refine Evt.pos rfl (Evt.pos (by omega) (Evt.pos (by omega) (Evt.pos (by omega) ?_)))
    rw [Bool.true_and]
    show Evt (fun k => dir_directory.j1 k l l (l.length : Int) _ (!lt8 q.f0 f.f0)) _
    cases lt8 q.f0 f.f0 with
    | false => exact jf _
    | true =>
     refine Evt.step (fun k => by rw [dir_directory.j1]) (Evt.neg (by decide) ?_)
     rw [idxW _ (by omega)]
     exact hi
 unfold dir_directory.f dirB
 cases l with
 | nil => exact fin 0 (by simp)
 | cons f r =>
  refine Evt.step (fun k => by rw [dir_directory.l0]) (Evt.pos (by simp) (Evt.pos (by omega) (Evt.pos (by simp) ?_)))
  have hrd : rd_T43 (f :: r) 0 = f := rfl
  rw [hrd]
  refine Evt.bind (well_evW f (hw f (by simp))) ?_
  unfold goB
  cases wellB f with
  | false => exact Evt.neg (by decide) (jf _)
  | true =>
   refine Evt.pos rfl (Evt.neg (by omega) (Evt.step (fun k => by rw [dir_directory.j1]) (Evt.neg (by decide) ?_)))
   rw [Bool.true_and, show wrap64 (0 + 1) = (((0 : Nat) + 1 : Nat) : Int) by rw [wrap64_id (by omega) (by omega)]; rfl]
   exact key r [] f rfl
theorem dirB_bd {l : List Fi} (h : dirB l = true) : BdL l := by
 obtain ⟨h1, h2⟩ := dirB_well h
 exact ⟨by omega, fun f hf => by
  have := well_fits (h2 f hf)
  exact ⟨by have := this.1; omega, by have := this.2.2.1; omega⟩⟩
theorem put_evW (l : List Fi) (hb : WkL l) : Evt (fun k => dir_Put.f k l) (B (putV l).1, (putV l).2) := by
 cases hd : dirB l with
 | true => exact put_ev l (dirB_bd hd)
 | false =>
  have h1 := directory_evW l hb
  rw [hd] at h1
  unfold dir_Put.f putV
  rw [hd]
  exact Evt.bind h1 (Evt.neg (by decide) (Evt.val _))
end Go.Proofs.YtppbcankhkgpfaaDoor.Th
