import Derived.Test.YtjmplchknbgmgaaPSpanx25
import Derived.Test.YtjmplchknbgmgaaPSpanx18
import Derived.Test.YtjmplchknbgmgaaPSpanx20
import Derived.Test.YtjmplchknbgmgaaPureRt
namespace Go.Proofs.Ytjmplchknbgmgaa.Th
open Go.RowKit Go.Proofs.Ytjmplchknbgmgaa.PSpan Go.Proofs.YtjmplchknbgmgaaW.PrintWords Go.Proofs.YtjmplchknbgmgaaW.PrintLast Go.Proofs.YtjmplchknbgmgaaW.PrintMore
set_option linter.unusedVariables false
theorem refeq_go (l a : List Sp) (hl : l.length ≤ 100000) : ∀ (r q d : List Sp), l = d ++ r → a = d ++ q → r.length = q.length →
    (l = a ∧ Evt (fun k => rootcellarref5_Right.l0 k l a (d.length : Int)) true) ∨ (l ≠ a ∧ Evt (fun k => rootcellarref5_Right.l0 k l a (d.length : Int)) false)
  | [], [], d, h1, h2, _ => by
    refine .inl ⟨h1.trans h2.symm, ?_⟩
    rw [List.append_nil] at h1
    subst h1
    exact Evt.step (fun k => by rw [rootcellarref5_Right.l0]) (Evt.neg (by omega) (Evt.val _))
  | [], _ :: _, _, _, _, h => by simp at h
  | _ :: _, [], _, _, _, h => by simp at h
  | s :: r, u :: q, d, h1, h2, h3 => by
    have hdl : d.length < l.length := by rw [h1]; simp
    have hda : d.length < a.length := by rw [h2]; simp
    have hr1 : rd_T32 l (d.length : Int) = s := by rw [h1]; exact rd_mid d s r
    have hr2 : rd_T32 a (d.length : Int) = u := by rw [h2]; exact rd_mid d u q
    have hw : wrap64 ((d.length : Int) + 1) = ((d.length + 1 : Nat) : Int) := by rw [wrap64_id (by omega) (by omega)]; rfl
    by_cases he : s = u
    · subst he
      have hstep : ∀ v, Evt (fun k => rootcellarref5_Right.l0 k l a ((d ++ [s]).length : Int)) v → Evt (fun k => rootcellarref5_Right.l0 k l a (d.length : Int)) v := fun v hv => by
        rw [show (d ++ [s]).length = d.length + 1 by simp] at hv
        refine Evt.step (fun k => by rw [rootcellarref5_Right.l0]) ?_
        rw [hr1, hr2, hw]
        exact Evt.pos (by omega) (Evt.pos (by omega) (Evt.pos (by omega) (Evt.neg (by simp) hv)))
      rcases refeq_go l a hl r q (d ++ [s]) (by rw [h1]; simp) (by rw [h2]; simp) (by simpa using h3) with ⟨k1, k2⟩ | ⟨k1, k2⟩
      · exact .inl ⟨k1, hstep _ k2⟩
      · exact .inr ⟨k1, hstep _ k2⟩
    · refine .inr ⟨fun k => he ?_, Evt.step (fun k => by rw [rootcellarref5_Right.l0]) ?_⟩
      · rw [h1, h2] at k
        have := List.append_cancel_left k
        exact (List.cons.inj this).1
      · rw [hr1, hr2]
        refine Evt.pos (by omega) (Evt.pos (by omega) (Evt.pos (by omega) (Evt.pos ?_ (Evt.val _))))
        by_cases e0 : s.f0 = u.f0
        · by_cases e1 : s.f1 = u.f1
          · exact absurd (Sp.ext' e0 e1) he
          · simp [e1]
        · simp [e0]
theorem refright_ev {l : List Sp} (hl : l.length ≤ 40) (size : Int) : Evt (fun k => rootcellarref5_Right.f k l size) (rightF size (-1) l) := by
  unfold rootcellarref5_Right.f
  rcases norm_any (l := l) (by omega) size with ⟨e, he, e1, e2, f1, f2, hh⟩ | ⟨h1, h2, h3, a, b, e1, e2, f1, f2, a1, a2, a3, b1, b2, b3, la, lb⟩
  · have hf : rightF size (-1) l = false := by
      rw [Bool.eq_false_iff]
      intro k
      by_cases hs : Sized size
      · obtain ⟨k1, k2, _⟩ := (rightF_iff hs l (-1)).1 k
        rcases hh with ⟨_, hh⟩ | ⟨_, _, _, hh⟩
        · exact hh ⟨hs, k1⟩
        · exact hh (cnt_dis k1 k2.dis)
      · rw [rightF_sized hs] at k
        cases k
    rw [hf]
    exact Evt.bind f1 (Evt.neg he (Evt.step (fun k => by rw [rootcellarref5_Right.j0]) (Evt.pos rfl (Evt.val _))))
  · refine Evt.bind f1 (Evt.pos rfl (Evt.step (fun k => by rw [rootcellarref5_Right.j0]) ?_))
    by_cases hlen : a.length = l.length
    · refine Evt.neg (by simp [hlen]) ?_
      rcases refeq_go l a (by omega) l a [] rfl rfl hlen.symm with ⟨k1, k2⟩ | ⟨k1, k2⟩
      · subst k1
        rw [(rightF_iff h1 l (-1)).2 ⟨a1, a2, fun s hs => by have := (a1 s hs).2.1; omega⟩]
        exact k2
      · have hf : rightF size (-1) l = false := by
          rw [Bool.eq_false_iff]
          intro k
          obtain ⟨_, k3, _⟩ := (rightF_iff h1 l (-1)).1 k
          exact k1 (canon_unique h2 a1 k3 a2 (fun x => (a3 x).symm))
        rw [hf]
        exact k2
    · refine Evt.pos (by simp; omega) (Evt.val' ?_)
      symm
      rw [Bool.eq_false_iff]
      intro k
      obtain ⟨_, k3, _⟩ := (rightF_iff h1 l (-1)).1 k
      exact hlen (by rw [canon_unique h2 a1 k3 a2 (fun x => (a3 x).symm)])
theorem refhas_ev (l : List Sp) (hl : l.length ≤ 100000) (a : Int) : Evt (fun k => rootcellarref5_Has.f k l a) (hasB l a) := by
  have key : ∀ (r d : List Sp), l = d ++ r → Evt (fun k => rootcellarref5_Has.l0 k l a (d.length : Int)) (hasB r a) := by
    intro r
    induction r with
    | nil =>
      intro d hd
      rw [List.append_nil] at hd
      subst hd
      refine Evt.step (fun k => by rw [rootcellarref5_Has.l0]) ?_
      exact Evt.neg (by omega) (Evt.val' rfl)
    | cons s r ih =>
      intro d hd
      have hdl : d.length < l.length := by rw [hd]; simp
      have hrd : rd_T32 l (d.length : Int) = s := by rw [hd]; exact rd_mid d s r
      have hw : wrap64 ((d.length : Int) + 1) = ((d.length + 1 : Nat) : Int) := by rw [wrap64_id (by omega) (by omega)]; rfl
      have hi := ih (d ++ [s]) (by rw [hd]; simp)
      rw [show (d ++ [s]).length = d.length + 1 by simp] at hi
      refine Evt.step (fun k => by rw [rootcellarref5_Has.l0]) (Evt.pos (by omega) (Evt.pos (by omega) ?_))
      rw [hrd, hw]
      have hb : hasB (s :: r) a = ((decide (s.f0 ≤ a) && decide (wrap64 (a - s.f0) < s.f1)) || hasB r a) := by unfold hasB; rw [List.any_cons]
      by_cases h1 : s.f0 ≤ a
      · refine Evt.pos h1 ?_
        by_cases h2 : wrap64 (a - s.f0) < s.f1
        · exact Evt.pos h2 (Evt.val' (by rw [hb]; simp [h1, h2]))
        · refine Evt.neg h2 ?_
          rw [hb]
          simpa [h1, h2] using hi
      · refine Evt.neg h1 ?_
        rw [hb]
        simpa [h1] using hi
  unfold rootcellarref5_Has.f
  exact key l [] rfl
end Go.Proofs.Ytjmplchknbgmgaa.Th
namespace Go.Proofs.Ytjmplchknbgmgaa.Pure
open Go.RowKit Go.Proofs.Ytjmplchknbgmgaa.PSpan Go.Proofs.Ytjmplchknbgmgaa.Th Go.Proofs.YtjmplchknbgmgaaW.PrintWords Go.Proofs.YtjmplchknbgmgaaW.PrintLast Go.Proofs.YtjmplchknbgmgaaW.PrintMore
theorem SpanRows (l : List Sp) (a1 a2 : Int) (_ : ∀ s ∈ l, (Lit.int .i64 s.f0).wf = true ∧ (Lit.int .i64 s.f1).wf = true) (_ : (Lit.int .i64 a1).wf = true) (_ : (Lit.int .i64 a2).wf = true) : ∃ k, rootcellarlaw5_SpanRows.f k l a1 a2 = some true := by
  refine Evt.get (g := fun k => rootcellarlaw5_SpanRows.f k l a1 a2) ?_
  unfold rootcellarlaw5_SpanRows.f
  refine Evt.bind shown_ev (Evt.pos rfl (Evt.step (fun k => by rw [rootcellarlaw5_SpanRows.j0]) ?_))
  by_cases h40 : (l.length : Int) > 40
  · exact Evt.pos (decide_eq_true h40) (Evt.val _)
  · refine Evt.neg (by rw [decide_eq_false h40]; exact Bool.false_ne_true) ?_
    have hr := right_ev l a1 (by omega)
    have hq := refright_ev (l := l) (by omega) a1
    have ht : Evt (fun k => rootcellarlaw5_SpanRows.j1 k l a2 0 false) true := by
      refine Evt.step (fun k => by rw [rootcellarlaw5_SpanRows.j1]) (Evt.neg Bool.false_ne_true (Evt.pos rfl ?_))
      exact Evt.bind (total_ev l (by omega)) (Evt.bind (reftotal_ev l (by omega)) (Evt.pos rfl (Evt.bind' (has_f l a2) (Evt.bind (refhas_ev l (by omega) a2) (Evt.val' (beq_self_eq_true _))))))
    rcases norm_any (l := l) (by omega) a1 with ⟨e, he, e1, e2, f1, f2, hh⟩ | ⟨h1, h2, h3, a, b, e1, e2, f1, f2, k1, k2, k3, b1, b2, b3, la, lb⟩
    · refine Evt.bind' e1 (Evt.bind f1 (Evt.bind' e2 (Evt.bind f2 (Evt.pos rfl (Evt.pos rfl ?_)))))
      refine Evt.bind (same_self _ (by simp)) (Evt.pos rfl (Evt.bind (same_self _ (by simp)) (Evt.pos rfl (Evt.bind hr (Evt.bind hq ?_)))))
      rw [show (rightF a1 (-1) l != rightF a1 (-1) l) = false by simp]
      exact Evt.step (fun k => by rw [rootcellarlaw5_SpanRows.j1]) (Evt.neg Bool.false_ne_true (Evt.neg he (Evt.val _)))
    · refine Evt.bind' e1 (Evt.bind f1 (Evt.bind' e2 (Evt.bind f2 (Evt.pos rfl (Evt.pos rfl ?_)))))
      refine Evt.bind (same_self _ (show a.length < _ by omega)) (Evt.pos rfl (Evt.bind (same_self _ (show b.length < _ by omega)) (Evt.pos rfl (Evt.bind hr (Evt.bind hq ?_)))))
      rw [show (rightF a1 (-1) l != rightF a1 (-1) l) = false by simp]
      exact ht
end Go.Proofs.Ytjmplchknbgmgaa.Pure
