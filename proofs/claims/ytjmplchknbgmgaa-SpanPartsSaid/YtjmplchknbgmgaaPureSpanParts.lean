import Derived.Test.YtjmplchknbgmgaaPSpanx24
import Derived.Test.YtjmplchknbgmgaaPureRt
namespace Go.Proofs.Ytjmplchknbgmgaa.Pure
open Go.RowKit Go.Proofs.Ytjmplchknbgmgaa.PSpan Go.Proofs.Ytjmplchknbgmgaa.Th Go.Proofs.YtjmplchknbgmgaaW.PrintWords Go.Proofs.YtjmplchknbgmgaaW.PrintLast Go.Proofs.YtjmplchknbgmgaaW.PrintMore
set_option linter.unusedVariables false
theorem SpanParts (l : List Sp) (a1 a2 : Int) (_ : ∀ s ∈ l, (Lit.int .i64 s.f0).wf = true ∧ (Lit.int .i64 s.f1).wf = true) (_ : (Lit.int .i64 a1).wf = true) (_ : (Lit.int .i64 a2).wf = true) : ∃ k, rootcellarlaw5_SpanParts.f k l a1 a2 = some true := by
  refine Evt.get (g := fun k => rootcellarlaw5_SpanParts.f k l a1 a2) ?_
  unfold rootcellarlaw5_SpanParts.f
  refine Evt.bind shown_ev (Evt.pos rfl (Evt.step (fun k => by rw [rootcellarlaw5_SpanParts.j0]) ?_))
  by_cases h40 : (l.length : Int) > 40
  · exact Evt.pos (decide_eq_true h40) (Evt.val _)
  refine Evt.neg (by rw [decide_eq_false h40]; exact Bool.false_ne_true) ?_
  rcases norm_any (l := l) (by omega) a1 with ⟨e, he, e1, e2, f1, f2, hh⟩ | ⟨h1, h2, h3, a, b, e1, e2, f1, f2, k1, k2, k3, b1, b2, b3, la, lb⟩
  · exact Evt.bind' e1 (Evt.neg he (Evt.val _))
  obtain ⟨z1, z2⟩ := h1
  refine Evt.bind' e1 (Evt.pos rfl (Evt.bind (take_ev a a2 (by omega)) ?_))
  have ta := totF_sum (by omega) z2 k1 (by omega)
  by_cases ht : a2 < 0 ∨ totF a < a2
  · have g1 : takeF a a2 = ([], [], false) := by unfold takeF; rw [if_pos ht]
    rw [g1]
    refine Evt.neg Bool.false_ne_true ?_
    by_cases hn : a2 < 0
    · exact Evt.pos hn (Evt.pos rfl (Evt.val _))
    · exact Evt.neg hn (Evt.bind (total_ev a (by omega)) (Evt.pos (show totF a < a2 by omega) (Evt.pos rfl (Evt.val _))))
  · obtain ⟨l1, l2⟩ := takeF_len (by omega) z2 a2 k1 (by omega)
    have g1 := takeF_ok z2 k1 (n := a2) (by omega) (by have := len_tot (by omega) z2 k1 (by omega); omega) (by omega)
    obtain ⟨p1, p2, p3, p4, p5, p6, p7, p8, p9, p10⟩ := tk_spec a a2 k1 k2 (by omega) (by omega)
    rw [g1] at l1 l2 ⊢
    generalize (tk a2 a).1 = x at *
    generalize (tk a2 a).2 = y at *
    simp only at l1 l2
    refine Evt.pos rfl (Evt.bind' rfl (Evt.pos (by simp only [List.length_nil]; omega) (Evt.bind' rfl ?_)))
    simp only [List.nil_append]
    have hback : span_Norm.f (y ++ x) a1 = some (a, 0) := norm_is (by rw [List.length_append]; omega) ⟨z1, z2⟩ (OkL.append p3 p1) a k1 k2 (fun u => by have := p5 u; rw [cnt_append]; omega)
    have tx := totF_sum (by omega) z2 p1 (by omega)
    have ty := totF_sum (by omega) z2 p3 (by omega)
    have tb := len_tot (by omega) z2 k1 (by omega)
    refine Evt.pos (by omega) (Evt.bind' hback (Evt.bind (total_ev x (by omega)) (Evt.pos (by omega) (Evt.bind (total_ev y (by omega)) (Evt.bind (total_ev a (by omega)) (Evt.pos (by rw [wrap64_id (by omega) (by omega)]; omega) (Evt.pos rfl ?_)))))))
    refine Evt.bind (same_self _ (show a.length < _ by omega)) (Evt.pos rfl (Evt.bind (right_true ⟨z1, z2⟩ (by omega) p1 p2) (Evt.pos rfl (Evt.bind (right_true ⟨z1, z2⟩ (by omega) p3 p4) ?_))))
    refine Evt.step (fun k => by rw [rootcellarlaw5_SpanParts.j1]) ?_
    refine Evt.neg (by simp) ?_
    by_cases hx0 : (x.length : Int) = 0
    · exact Evt.pos hx0 (Evt.val _)
    refine Evt.neg hx0 ?_
    by_cases hy0 : (y.length : Int) = 0
    · exact Evt.pos hy0 (Evt.val _)
    refine Evt.neg hy0 ?_
    rw [wrap64_id (n := (x.length : Int) - 1) (by omega) (by omega)]
    refine Evt.pos (by omega) (Evt.pos (by omega) (Evt.pos (by omega) (Evt.val' ?_)))
    rw [show ((x.length : Int) - 1) = ((x.length - 1 : Nat) : Int) by omega, rd_T32_get x _ (by omega), show (0 : Int) = ((0 : Nat) : Int) from rfl, rd_T32_get y 0 (by omega)]
    have hm := List.getElem_mem (l := x) (n := x.length - 1) (by omega)
    have hm2 := List.getElem_mem (l := y) (n := 0) (by omega)
    obtain ⟨o1, o2, o3⟩ := p1 _ hm
    rw [wrap64_id (by omega) (by omega), decide_eq_true_eq]
    exact p9 _ hm _ hm2
end Go.Proofs.Ytjmplchknbgmgaa.Pure
