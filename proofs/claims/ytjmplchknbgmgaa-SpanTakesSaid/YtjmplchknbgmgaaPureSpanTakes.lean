import Derived.Test.YtjmplchknbgmgaaPSpanx21
import Derived.Test.YtjmplchknbgmgaaPureSh
namespace Go.Proofs.Ytjmplchknbgmgaa.Pure
open Go.RowKit Go.Proofs.Ytjmplchknbgmgaa.PSpan Go.Proofs.Ytjmplchknbgmgaa.Th Go.Proofs.YtjmplchknbgmgaaW.PrintWords Go.Proofs.YtjmplchknbgmgaaW.PrintLast Go.Proofs.YtjmplchknbgmgaaW.PrintMore
theorem SpanTakes (l : List Sp) (a1 a2 : Int) (_ : ∀ s ∈ l, (Lit.int .i64 s.f0).wf = true ∧ (Lit.int .i64 s.f1).wf = true) (_ : (Lit.int .i64 a1).wf = true) (_ : (Lit.int .i64 a2).wf = true) : ∃ k, rootcellarlaw5_SpanTakes.f k l a1 a2 = some true := by
  refine Evt.get (g := fun k => rootcellarlaw5_SpanTakes.f k l a1 a2) ?_
  unfold rootcellarlaw5_SpanTakes.f
  refine Evt.bind shown_ev (Evt.pos rfl (Evt.step (fun k => by rw [rootcellarlaw5_SpanTakes.j0]) ?_))
  by_cases h40 : (l.length : Int) > 40
  · exact Evt.pos (decide_eq_true h40) (Evt.val _)
  · refine Evt.neg (by rw [decide_eq_false h40]; exact Bool.false_ne_true) ?_
    rcases norm_any (l := l) (by omega) a1 with ⟨e, he, e1, _⟩ | ⟨h1, h2, h3, a, b, e1, e2, f1, f2, a1', a2', a3, b1, b2, b3, la, lb⟩
    · exact Evt.bind' e1 (Evt.neg he (Evt.val _))
    · have hp := h1.1
      obtain ⟨t1, t2⟩ := takeF_len (by omega) h1.2 a2 a1' (by omega)
      refine Evt.bind' e1 (Evt.pos rfl (Evt.bind (take_ev a a2 (by omega)) (Evt.bind (reftake_ev (by omega) h1.2 a1' a2' (show a.length ≤ 100000 by omega)) (Evt.pos (beq_self_eq_true _) ?_))))
      exact Evt.bind (same_self _ (by omega)) (Evt.pos rfl (Evt.bind (same_self _ (by omega)) (Evt.val _)))
end Go.Proofs.Ytjmplchknbgmgaa.Pure
