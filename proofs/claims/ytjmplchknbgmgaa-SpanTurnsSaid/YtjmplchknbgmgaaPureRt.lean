import Derived.Test.YtjmplchknbgmgaaPSpanx16
import Derived.Test.YtjmplchknbgmgaaPSpanx19
import Derived.Test.YtjmplchknbgmgaaPSpanx2
import Derived.Test.YtjmplchknbgmgaaPureSh
namespace Go.Proofs.Ytjmplchknbgmgaa.Th
open Go.RowKit Go.Proofs.Ytjmplchknbgmgaa.PSpan Go.Proofs.YtjmplchknbgmgaaW.PrintWords Go.Proofs.YtjmplchknbgmgaaW.PrintLast Go.Proofs.YtjmplchknbgmgaaW.PrintMore
set_option linter.unusedVariables false
set_option linter.unusedSimpArgs false
/-! ### Right -/
def rightF (size : Int) : Int → List Sp → Bool
  | _, [] => decide (1 ≤ size) && decide (size ≤ 8192)
  | e, s :: t => if insB size s = true then (if s.f0 ≤ e then false else rightF size (wrap64 (s.f0 + s.f1)) t) else false
theorem sized_f (size : Int) : span_sized.f size = some (decide (1 ≤ size) && decide (size ≤ 8192)) := by
  unfold span_sized.f
  by_cases h : 1 ≤ size <;> simp [h, GE.ge]
theorem right_ev (l : List Sp) (size : Int) (hl : l.length ≤ 100000) : Evt (fun k => span_Right.f k l size) (rightF size (-1) l) := by
  have key : ∀ (r d : List Sp) (e : Int), l = d ++ r → Evt (fun k => span_Right.l0 k size e l (l.length : Int) (d.length : Int)) (rightF size e r) := by
    intro r
    induction r with
    | nil =>
      intro d e hd
      rw [List.append_nil] at hd
      subst hd
      exact Evt.step (fun k => by rw [span_Right.l0]) (Evt.neg (by omega) (Evt.bind' (sized_f size) (Evt.val _)))
    | cons s r ih =>
      intro d e hd
      have hdl : d.length < l.length := by rw [hd]; simp
      have hrd : rd_T32 l (d.length : Int) = s := by rw [hd]; exact rd_mid d s r
      have hw : wrap64 ((d.length : Int) + 1) = ((d.length + 1 : Nat) : Int) := by rw [wrap64_id (by omega) (by omega)]; rfl
      have hi := ih (d ++ [s]) (wrap64 (s.f0 + s.f1)) (by rw [hd]; simp)
      rw [show (d ++ [s]).length = d.length + 1 by simp] at hi
      refine Evt.step (fun k => by rw [span_Right.l0]) (Evt.pos (by omega) (Evt.pos (by omega) (Evt.pos (by omega) ?_)))
      rw [hrd, hw]
      refine Evt.bind' (insB_f size s) ?_
      unfold rightF
      by_cases h1 : insB size s = true
      · rw [if_pos h1]
        refine Evt.pos h1 ?_
        by_cases h2 : s.f0 ≤ e
        · rw [if_pos h2]
          exact Evt.pos h2 (Evt.val _)
        · rw [if_neg h2]
          exact Evt.neg h2 hi
      · rw [if_neg h1]
        exact Evt.neg h1 (Evt.val _)
  unfold span_Right.f
  exact key l [] (-1) rfl
theorem rightF_sized {size : Int} (h : ¬ Sized size) : ∀ (l : List Sp) (e : Int), rightF size e l = false
  | [], _ => by
    unfold rightF
    unfold Sized at h
    by_cases h1 : 1 ≤ size
    · simp [h1]; omega
    · simp [h1]
  | s :: t, e => by
    unfold rightF
    split
    · split
      · rfl
      · exact rightF_sized h t _
    · rfl
theorem rightF_iff {size : Int} (h : Sized size) : ∀ (l : List Sp) (e : Int), rightF size e l = true ↔ OkL size l ∧ Canon l ∧ ∀ s ∈ l, e < s.f0
  | [], e => by
    obtain ⟨h1, h2⟩ := h
    unfold rightF
    simp only [h1, h2, decide_true, Bool.and_self, true_iff]
    exact ⟨OkL.nil, List.Pairwise.nil, fun _ h => (nomatch h)⟩
  | s :: t, e => by
    unfold rightF
    by_cases h1 : insB size s = true
    · have ho := (insB_iff h.1 h.2 s).1 h1
      have hw : wrap64 (s.f0 + s.f1) = s.f0 + s.f1 := by obtain ⟨_, _, _⟩ := ho; obtain ⟨_, _⟩ := h; exact wrap64_id (by omega) (by omega)
      rw [if_pos h1, hw]
      by_cases h2 : s.f0 ≤ e
      · rw [if_pos h2]
        refine ⟨fun k => (nomatch k), fun k => ?_⟩
        have := k.2.2 s (List.mem_cons_self ..)
        omega
      · rw [if_neg h2, rightF_iff h t]
        constructor
        · rintro ⟨k1, k2, k3⟩
          refine ⟨OkL.cons ho k1, List.Pairwise.cons k3 k2, fun u hu => ?_⟩
          rcases List.mem_cons.1 hu with rfl | hu
          · omega
          · have := k3 u hu; have := ho.1; omega
        · rintro ⟨k1, k2, k3⟩
          obtain ⟨c1, c2⟩ := List.pairwise_cons.1 k2
          exact ⟨k1.tail, c2, c1⟩
    · rw [if_neg h1]
      refine ⟨fun k => (nomatch k), fun k => ?_⟩
      exact absurd ((insB_iff h.1 h.2 s).2 k.1.head) h1
theorem right_true {size : Int} (h : Sized size) {l : List Sp} (hl : l.length ≤ 100000) (ho : OkL size l) (hc : Canon l) : Evt (fun k => span_Right.f k l size) true := by
  have := right_ev l size hl
  rwa [(rightF_iff h l (-1)).2 ⟨ho, hc, fun s hs => by have := (ho s hs).2.1; omega⟩] at this
/-! ### Has -/
def hasB (l : List Sp) (a : Int) : Bool := l.any fun s => decide (s.f0 ≤ a) && decide (wrap64 (a - s.f0) < s.f1)
theorem has_f (l : List Sp) (a : Int) : span_Has.f l a = some (hasB l a) := rfl
theorem hasB_cnt {size : Int} (h : size ≤ 8192) {l : List Sp} (ho : OkL size l) {a : Int} (h1 : -1 ≤ a) (h2 : a ≤ size) : hasB l a = decide (0 < cnt l a) := by
  rw [Bool.eq_iff_iff, decide_eq_true_eq, cnt_pos]
  unfold hasB
  rw [List.any_eq_true]
  constructor
  · rintro ⟨s, hs, hh⟩
    obtain ⟨o1, o2, o3⟩ := ho s hs
    simp only [Bool.and_eq_true, decide_eq_true_eq] at hh
    rw [wrap64_id (by omega) (by omega)] at hh
    exact ⟨s, hs, by omega⟩
  · rintro ⟨s, hs, h3, h4⟩
    obtain ⟨o1, o2, o3⟩ := ho s hs
    refine ⟨s, hs, ?_⟩
    simp only [Bool.and_eq_true, decide_eq_true_eq]
    rw [wrap64_id (by omega) (by omega)]
    omega
end Go.Proofs.Ytjmplchknbgmgaa.Th
