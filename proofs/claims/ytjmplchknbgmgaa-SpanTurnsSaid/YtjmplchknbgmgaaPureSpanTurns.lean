import Derived.Test.YtjmplchknbgmgaaPSpanx26
import Derived.Test.YtjmplchknbgmgaaPureRt
namespace Go.Proofs.Ytjmplchknbgmgaa.Pure
open Go.RowKit Go.Proofs.Ytjmplchknbgmgaa.PSpan Go.Proofs.Ytjmplchknbgmgaa.Th Go.Proofs.YtjmplchknbgmgaaW.PrintWords Go.Proofs.YtjmplchknbgmgaaW.PrintLast Go.Proofs.YtjmplchknbgmgaaW.PrintMore
set_option linter.unusedVariables false
theorem turns_go (l a b : List Sp) (size : Int) (h : Sized size) (hl : OkL size l) (ha : OkL size a) (hb : OkL size b) (h1 : ∀ x, cnt a x = cnt l x) (h2 : ∀ x, cnt l x ≤ 1) (h3 : ∀ x, cnt b x + cnt l x = if 0 ≤ x ∧ x < size then 1 else 0) :
    ∀ (n : Nat) (i : Int), (size + 1 - i).toNat = n → -1 ≤ i → i ≤ size + 1 → Evt (fun k => rootcellarlaw5_SpanTurns.l0 k l size a b i) true := by
  obtain ⟨z1, z2⟩ := h
  intro n
  induction n with
  | zero =>
    intro i hn hi hs
    exact Evt.step (fun k => by rw [rootcellarlaw5_SpanTurns.l0]) (Evt.neg (by omega) (Evt.val _))
  | succ n ih =>
    intro i hn hi hs
    have hrec := ih (i + 1) (by omega) (by omega) (by omega)
    have j3 : ∀ v, v = false → Evt (fun k => rootcellarlaw5_SpanTurns.j3 k l size a b i v) true := by
      rintro v rfl
      refine Evt.step (fun k => by rw [rootcellarlaw5_SpanTurns.j3]) (Evt.neg Bool.false_ne_true ?_)
      rw [wrap64_id (by omega) (by omega)]
      exact hrec
    have qa : span_Has.f a i = some (decide (0 < cnt a i)) := by rw [has_f, hasB_cnt z2 ha hi (by omega)]
    have qb : span_Has.f b i = some (decide (0 < cnt b i)) := by rw [has_f, hasB_cnt z2 hb hi (by omega)]
    have ql : span_Has.f l i = some (decide (0 < cnt a i)) := by rw [has_f, hasB_cnt z2 hl hi (by omega), h1]
    have e3 := h3 i
    rw [← h1] at e3
    refine Evt.step (fun k => by rw [rootcellarlaw5_SpanTurns.l0]) (Evt.pos (by omega) ?_)
    by_cases c0 : i ≥ 0
    · refine Evt.pos c0 ?_
      by_cases cs : i < size
      · rw [if_pos (by omega)] at e3
        refine Evt.pos cs (Evt.bind' qa (Evt.bind' qb (Evt.neg ?_ ?_)))
        · intro k
          have := beq_iff_eq.1 k
          simp only [decide_eq_decide] at this
          omega
        · exact Evt.neg (by omega) (Evt.neg (by omega) (Evt.bind' ql (j3 _ (by simp))))
      · rw [if_neg (by omega)] at e3
        refine Evt.neg cs (Evt.neg (by omega) (Evt.pos (by omega) (Evt.bind' qa (Evt.neg (by simp; omega) (Evt.bind' qb (Evt.neg (by simp; omega) (Evt.bind' ql (j3 _ (by simp)))))))))
    · rw [if_neg (by omega)] at e3
      refine Evt.neg c0 (Evt.pos (by omega) (Evt.bind' qa (Evt.neg (by simp; omega) (Evt.bind' qb (Evt.neg (by simp; omega) (Evt.bind' ql (j3 _ (by simp))))))))
theorem SpanTurns (l : List Sp) (a1 : Int) (_ : ∀ s ∈ l, (Lit.int .i64 s.f0).wf = true ∧ (Lit.int .i64 s.f1).wf = true) (_ : (Lit.int .i64 a1).wf = true) : ∃ k, rootcellarlaw5_SpanTurns.f k l a1 = some true := by
  refine Evt.get (g := fun k => rootcellarlaw5_SpanTurns.f k l a1) ?_
  unfold rootcellarlaw5_SpanTurns.f
  refine Evt.bind shown_ev (Evt.pos rfl (Evt.step (fun k => by rw [rootcellarlaw5_SpanTurns.j0]) ?_))
  by_cases h40 : (l.length : Int) > 40
  · exact Evt.pos (decide_eq_true h40) (Evt.val _)
  refine Evt.neg (by rw [decide_eq_false h40]; exact Bool.false_ne_true) ?_
  rcases norm_any (l := l) (by omega) a1 with ⟨e, he, e1, e2, f1, f2, hh⟩ | ⟨h1, h2, h3, a, b, e1, e2, f1, f2, k1, k2, k3, b1, b2, b3, la, lb⟩
  · exact Evt.bind' e1 (Evt.bind' e2 (Evt.neg he (Evt.pos rfl (Evt.pos rfl (Evt.val _)))))
  have z := h1
  obtain ⟨z1, z2⟩ := h1
  have hc : span_Rest.f b a1 = some (a, 0) := rest_is (by omega) z b1 a k1 k2 (fun x => cnt_dis b1 b2.dis x) (fun x => by have := b3 x; have := k3 x; omega)
  have ta := totF_sum (by omega) z2 k1 (by omega)
  have tb := totF_sum (by omega) z2 b1 (by omega)
  have tl := totF_sum (by omega) z2 h2 (by omega)
  have s1 := sumF_of_cnt k1 h2 k3
  have s2 := sumF_compl (by omega) h2 b1 b3
  refine Evt.bind' e1 (Evt.bind' e2 (Evt.pos rfl (Evt.bind' hc (Evt.pos rfl (Evt.pos rfl (Evt.bind (same_self _ (show a.length < _ by omega)) (Evt.pos rfl ?_)))))))
  refine Evt.bind (right_true z (show a.length ≤ _ by omega) k1 k2) (Evt.pos rfl (Evt.bind (right_true z (show b.length ≤ _ by omega) b1 b2) (Evt.pos rfl ?_)))
  refine Evt.bind (total_ev a (show a.length < _ by omega)) (Evt.bind (total_ev b (show b.length < _ by omega)) (Evt.pos (by rw [wrap64_id (by omega) (by omega)]; omega) (Evt.bind (total_ev l (by omega)) ?_)))
  rw [show (totF a != totF l) = false by rw [ta, tl, s1]; simp]
  exact Evt.step (fun k => by rw [rootcellarlaw5_SpanTurns.j1]) (Evt.neg Bool.false_ne_true (turns_go l a b a1 z h2 k1 b1 k3 h3 b3 _ (-1) rfl (by omega) (by omega)))
end Go.Proofs.Ytjmplchknbgmgaa.Pure
