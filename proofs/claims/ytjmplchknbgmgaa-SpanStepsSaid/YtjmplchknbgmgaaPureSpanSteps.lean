import Derived.Test.YtjmplchknbgmgaaPSpanx23
import Derived.Test.YtjmplchknbgmgaaPureSh
namespace Go.Proofs.Ytjmplchknbgmgaa.Th
open Go.RowKit Go.Proofs.Ytjmplchknbgmgaa.PSpan
theorem tk_two {size : Int} : ∀ (l : List Sp) (a b : Int), OkL size l → 0 ≤ a → 0 ≤ b → (tk b (tk a l).2).2 = (tk (a + b) l).2
  | [], a, b, _, _, _ => rfl
  | s :: t, a, b, ho, ha, hb => by
    obtain ⟨s1, s2, s3⟩ := ho.head
    by_cases h0 : a ≤ 0
    · have e : a = 0 := by omega
      subst e
      rw [tk_zero (Int.le_refl _)]
      show (tk b (s :: t)).2 = _
      rw [Int.zero_add]
    · by_cases h1 : a < s.f1
      · have e1 : tk a (s :: t) = ([⟨s.f0, a⟩], ⟨s.f0 + a, s.f1 - a⟩ :: t) := by rw [tk, if_neg h0, if_pos h1]
        rw [e1]
        show (tk b (⟨s.f0 + a, s.f1 - a⟩ :: t)).2 = _
        by_cases h2 : b ≤ 0
        · have e : b = 0 := by omega
          subst e
          rw [tk_zero (Int.le_refl _), Int.add_zero, e1]
        · by_cases h3 : b < s.f1 - a
          · rw [tk, if_neg h2, if_pos h3, tk, if_neg (by omega), if_pos (by omega)]
            show (⟨s.f0 + a + b, s.f1 - a - b⟩ : Sp) :: t = ⟨s.f0 + (a + b), s.f1 - (a + b)⟩ :: t
            rw [show s.f0 + a + b = s.f0 + (a + b) by omega, show s.f1 - a - b = s.f1 - (a + b) by omega]
          · rw [tk, if_neg h2, if_neg h3, tk, if_neg (by omega), if_neg (by omega)]
            show (tk (b - (s.f1 - a)) t).2 = (tk (a + b - s.f1) t).2
            rw [show b - (s.f1 - a) = a + b - s.f1 by omega]
      · rw [tk, if_neg h0, if_neg h1, tk, if_neg (by omega), if_neg (by omega)]
        show (tk b (tk (a - s.f1) t).2).2 = (tk (a + b - s.f1) t).2
        rw [tk_two t (a - s.f1) b ho.tail (by omega) hb, show a - s.f1 + b = a + b - s.f1 by omega]
end Go.Proofs.Ytjmplchknbgmgaa.Th
namespace Go.Proofs.Ytjmplchknbgmgaa.Pure
open Go.RowKit Go.Proofs.Ytjmplchknbgmgaa.PSpan Go.Proofs.Ytjmplchknbgmgaa.Th Go.Proofs.YtjmplchknbgmgaaW.PrintWords Go.Proofs.YtjmplchknbgmgaaW.PrintLast Go.Proofs.YtjmplchknbgmgaaW.PrintMore
set_option linter.unusedVariables false
theorem SpanSteps (l : List Sp) (a1 a2 a3 : Int) (_ : ∀ s ∈ l, (Lit.int .i64 s.f0).wf = true ∧ (Lit.int .i64 s.f1).wf = true) (_ : (Lit.int .i64 a1).wf = true) (_ : (Lit.int .i64 a2).wf = true) (_ : (Lit.int .i64 a3).wf = true) : ∃ k, rootcellarlaw5_SpanSteps.f k l a1 a2 a3 = some true := by
  refine Evt.get (g := fun k => rootcellarlaw5_SpanSteps.f k l a1 a2 a3) ?_
  unfold rootcellarlaw5_SpanSteps.f
  refine Evt.bind shown_ev (Evt.pos rfl ?_)
  have out : Evt (fun k => rootcellarlaw5_SpanSteps.j0 k l a1 a2 a3 true true) true := Evt.step (fun k => by rw [rootcellarlaw5_SpanSteps.j0]) (Evt.pos rfl (Evt.val _))
  by_cases c1 : (l.length : Int) > 40
  · exact Evt.pos c1 out
  refine Evt.neg c1 ?_
  by_cases c2 : a2 < 0
  · exact Evt.pos c2 out
  refine Evt.neg c2 ?_
  by_cases c3 : a3 < 0
  · exact Evt.pos c3 out
  refine Evt.neg c3 ?_
  by_cases c4 : a2 > 10000
  · exact Evt.pos c4 out
  refine Evt.neg c4 ?_
  by_cases c5 : a3 > 10000
  · rw [decide_eq_true c5]
    exact out
  rw [decide_eq_false c5]
  refine Evt.step (fun k => by rw [rootcellarlaw5_SpanSteps.j0]) (Evt.neg Bool.false_ne_true ?_)
  rcases norm_any (l := l) (by omega) a1 with ⟨e, he, e1, e2, f1, f2, hh⟩ | ⟨h1, h2, h3, a, b, e1, e2, f1, f2, k1, k2, k3, b1, b2, b3, la, lb⟩
  · exact Evt.bind' e1 (Evt.neg he (Evt.val _))
  · obtain ⟨z1, z2⟩ := h1
    rw [wrap64_id (n := a2 + a3) (by omega) (by omega)]
    refine Evt.bind' e1 (Evt.pos rfl ?_)
    have ta := totF_sum (by omega) z2 k1 (by omega)
    obtain ⟨l1, l2⟩ := takeF_len (by omega) z2 a2 k1 (by omega)
    by_cases ht : totF a < a2
    · have g1 : takeF a a2 = ([], [], false) := by unfold takeF; rw [if_pos (.inr ht)]
      have g2 : takeF a (a2 + a3) = ([], [], false) := by unfold takeF; rw [if_pos (.inr (by omega))]
      refine Evt.bind (take_ev a a2 (by omega)) ?_
      rw [g1]
      refine Evt.bind (take_ev [] a3 (by simp)) (Evt.bind (take_ev a (a2 + a3) (by omega)) ?_)
      rw [g2]
      exact Evt.neg Bool.false_ne_true (Evt.val _)
    · have g1 := takeF_ok z2 k1 (n := a2) (by omega) (by omega) (by omega)
      obtain ⟨p1, p2, p3, p4, p5, p6, p7, p8, p9, p10⟩ := tk_spec a a2 k1 k2 (by omega) (by omega)
      have hx := tk_two a a2 a3 k1 (by omega) (by omega)
      refine Evt.bind (take_ev a a2 (by omega)) ?_
      rw [g1] at l1 l2 ⊢
      generalize (tk a2 a).1 = x at *
      generalize (tk a2 a).2 = rest at *
      simp only at l1 l2
      have tr := totF_sum (by omega) z2 p3 (by omega)
      refine Evt.bind (take_ev rest a3 (by omega)) (Evt.bind (take_ev a (a2 + a3) (by omega)) (Evt.pos rfl ?_))
      refine Evt.bind' rfl (Evt.pos (by simp only [List.length_nil]; omega) (Evt.bind' rfl ?_))
      simp only [List.nil_append]
      obtain ⟨l3, l4⟩ := takeF_len (by omega) z2 a3 p3 (by omega)
      refine Evt.pos (by omega) ?_
      by_cases hall : totF rest < a3
      · have g2 : takeF rest a3 = ([], [], false) := by unfold takeF; rw [if_pos (.inr hall)]
        have g3 : takeF a (a2 + a3) = ([], [], false) := by unfold takeF; rw [if_pos (.inr (by omega))]
        rw [g2, g3]
        obtain ⟨v, hv⟩ : ∃ v, span_Norm.f (x ++ []) a1 = some v := by
          rcases norm_any (l := x ++ []) (by rw [List.append_nil]; omega) a1 with ⟨e', _, e1', _⟩ | ⟨_, _, _, _, _, e1', _⟩
          · exact ⟨_, e1'⟩
          · exact ⟨_, e1'⟩
        exact Evt.bind' hv (Evt.pos rfl (Evt.neg Bool.false_ne_true (Evt.val _)))
      · have g2 := takeF_ok z2 p3 (n := a3) (by omega) (by omega) (by omega)
        have g3 := takeF_ok z2 k1 (n := a2 + a3) (by omega) (by omega) (by omega)
        obtain ⟨q1, q2, q3, q4, q5, q6, q7, q8, q9, q10⟩ := tk_spec rest a3 p3 p4 (by omega) (by omega)
        obtain ⟨r1, r2, r3, r4, r5, r6, r7, r8, r9, r10⟩ := tk_spec a (a2 + a3) k1 k2 (by omega) (by omega)
        obtain ⟨l5, l6⟩ := takeF_len (by omega) z2 (a2 + a3) k1 (by omega)
        rw [g2] at l3 l4 ⊢
        rw [g3] at l5 l6 ⊢
        generalize (tk a3 rest).1 = y at *
        generalize (tk a3 rest).2 = left at *
        generalize (tk (a2 + a3) a).1 = z at *
        generalize (tk (a2 + a3) a).2 = fin at *
        simp only at l3 l4 l5 l6
        subst hx
        have hn : span_Norm.f (x ++ y) a1 = some (z, 0) := norm_is (by rw [List.length_append]; omega) ⟨z1, z2⟩ (OkL.append p1 q1) z r1 r2 (fun u => by have := p5 u; have := q5 u; have := r5 u; rw [cnt_append]; omega)
        refine Evt.bind' hn (Evt.pos rfl (Evt.pos rfl (Evt.pos rfl ?_)))
        exact Evt.bind (same_self _ (show z.length < _ by omega)) (Evt.pos rfl (Evt.bind (same_self _ (show left.length < _ by omega)) (Evt.val _)))
end Go.Proofs.Ytjmplchknbgmgaa.Pure
