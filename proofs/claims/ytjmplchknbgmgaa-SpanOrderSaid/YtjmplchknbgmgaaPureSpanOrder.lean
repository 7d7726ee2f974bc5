import Derived.Test.YtjmplchknbgmgaaPSpanx22
import Derived.Test.YtjmplchknbgmgaaPureSh
namespace Go.Proofs.Ytjmplchknbgmgaa.Pure
open Go.RowKit Go.Proofs.Ytjmplchknbgmgaa.PSpan Go.Proofs.Ytjmplchknbgmgaa.Th Go.Proofs.YtjmplchknbgmgaaW.PrintWords Go.Proofs.YtjmplchknbgmgaaW.PrintLast Go.Proofs.YtjmplchknbgmgaaW.PrintMore
set_option linter.unusedVariables false
theorem SpanOrder (l : List Sp) (a1 a2 a3 : Int) (_ : ∀ s ∈ l, (Lit.int .i64 s.f0).wf = true ∧ (Lit.int .i64 s.f1).wf = true) (_ : (Lit.int .i64 a1).wf = true) (_ : (Lit.int .i64 a2).wf = true) (_ : (Lit.int .i64 a3).wf = true) : ∃ k, rootcellarlaw5_SpanOrder.f k l a1 a2 a3 = some true := by
  refine Evt.get (g := fun k => rootcellarlaw5_SpanOrder.f k l a1 a2 a3) ?_
  unfold rootcellarlaw5_SpanOrder.f
  refine Evt.bind shown_ev (Evt.pos rfl ?_)
  by_cases h40 : (l.length : Int) > 40
  · exact Evt.pos h40 (Evt.step (fun k => by rw [rootcellarlaw5_SpanOrder.j0]) (Evt.pos rfl (Evt.val _)))
  · refine Evt.neg h40 (Evt.step (fun k => by rw [rootcellarlaw5_SpanOrder.j0]) ?_)
    by_cases h0 : (l.length : Int) = 0
    · exact Evt.pos (beq_iff_eq.2 h0) (Evt.val _)
    · refine Evt.neg (by simpa using h0) ?_
      have hmx : ∀ x y : Int, mx x y = if x < y then y else x := fun _ _ => rfl
      have hmn : ∀ x y : Int, mn x y = if y < x then y else x := fun _ _ => rfl
      obtain ⟨n, hn, hn0, hnl⟩ : ∃ n : Int, mx 0 (mn a2 (l.length : Int)) = n ∧ 0 ≤ n ∧ n ≤ l.length := ⟨_, rfl, by rw [hmx]; split <;> omega, by rw [hmx, hmn]; split <;> split at * <;> omega⟩
      rw [hn]
      have hperm : (l.drop n.toNat ++ l.take n.toNat).Perm l := List.perm_append_comm.trans (by rw [List.take_append_drop])
      have hsame := norm_same (l := l.drop n.toNat ++ l.take n.toNat) (m := l) (size := a1) (by rw [hperm.length_eq]; omega) (by omega) (fun _ => ⟨fun k => k.perm hperm, fun k => k.perm hperm.symm⟩) (fun x => cnt_perm hperm x)
      have hll := hperm.length_eq
      rw [List.length_append] at hll
      have go : ∀ a e, span_Norm.f l a1 = some (a, e) → a.length ≤ 8192 → (Evt (fun k => rootcellarlaw5_SpanOrder.j1 k l a1 a3 a e false) true) → Evt (fun k => (span_Norm.f l a1).bind fun bt203 => ((some (([] : List (S32)) : List (S32))).bind fun y207 => (if 0 ≤ n then (if n ≤ (l.length : Int) then ((some (l.drop (n : Int).toNat : List (S32))).bind fun y210 => (if y207.length + y210.length < 8796093022208 then ((some (y207 ++ y210 : List (S32))).bind fun y214 => ((some (l.take (n : Int).toNat : List (S32))).bind fun y217 => (if y214.length + y217.length < 8796093022208 then ((span_Norm.f (y214 ++ y217) a1).bind fun bt224 => (if bt203.2 = bt224.2 then ((rootcellarlaw5_same.f k bt203.1 bt224.1).bind fun t228 => (rootcellarlaw5_SpanOrder.j1 k l a1 a3 bt203.1 bt203.2 (!t228))) else (rootcellarlaw5_SpanOrder.j1 k l a1 a3 bt203.1 bt203.2 true))) else (none)))) else (none))) else (none)) else (none)))) true := by
        intro a e he hla hj
        refine Evt.bind' he (Evt.bind' rfl (Evt.pos hn0 (Evt.pos hnl (Evt.bind' rfl (Evt.pos (by simp only [List.length_nil]; omega) (Evt.bind' rfl (Evt.bind' rfl (Evt.pos (by simp only [List.nil_append]; omega) (Evt.bind' (a := (a, e)) (by rw [List.nil_append, hsame.1]; exact he) (Evt.pos rfl (Evt.bind (same_self _ (show a.length < _ by omega)) ?_)))))))))))
        exact hj
      have hj1 : ∀ a e, span_Norm.f l a1 = some (a, e) → a.length ≤ 8192 → (e ≠ 11 → Sized a1 ∧ OkL a1 l) → Evt (fun k => rootcellarlaw5_SpanOrder.j1 k l a1 a3 a e false) true := by
        intro a e he hla hok
        refine Evt.step (fun k => by rw [rootcellarlaw5_SpanOrder.j1]) (Evt.neg Bool.false_ne_true ?_)
        rw [wrap64_id (n := (l.length : Int) - 1) (by omega) (by omega)]
        obtain ⟨q, hq, hq0, hql⟩ : ∃ q : Int, mx 0 (mn a3 ((l.length : Int) - 1)) = q ∧ 0 ≤ q ∧ q < l.length := ⟨_, rfl, by rw [hmx]; split <;> omega, by rw [hmx, hmn]; split <;> split at * <;> omega⟩
        rw [hq]
        refine Evt.pos hq0 (Evt.pos hql ?_)
        have hql' : q.toNat < l.length := by omega
        have hsplit : l = l.take q.toNat ++ l[q.toNat] :: l.drop (q.toNat + 1) := by rw [← List.drop_eq_getElem_cons hql', List.take_append_drop]
        have hpl : (l.take q.toNat).length = q.toNat := by rw [List.length_take]; omega
        generalize l[q.toNat] = s at hsplit
        generalize l.take q.toNat = p at hsplit hpl
        generalize l.drop (q.toNat + 1) = r at hsplit
        have hqe : q = (p.length : Int) := by omega
        have hrd : rd_T32 l q = s := by rw [hsplit, hqe]; exact rd_mid p s r
        rw [hrd]
        by_cases h2 : s.f1 < 2
        · exact Evt.pos h2 (Evt.step (fun k => by rw [rootcellarlaw5_SpanOrder.j2]) (Evt.pos rfl (Evt.val _)))
        · refine Evt.neg h2 (Evt.step (fun k => by rw [rootcellarlaw5_SpanOrder.j2]) ?_)
          by_cases h11 : e = 11
          · exact Evt.pos (beq_iff_eq.2 h11) (Evt.val _)
          · refine Evt.neg (by simpa using h11) ?_
            obtain ⟨z, ho⟩ := hok h11
            obtain ⟨z1, z2⟩ := z
            obtain ⟨s1, s2, s3⟩ := ho s (by rw [hsplit]; simp)
            refine Evt.bind' rfl (Evt.pos (by simp only [List.length_nil]; omega) (Evt.bind' rfl ?_))
            simp only [List.nil_append]
            refine Evt.pos hq0 (Evt.pos hql (Evt.pos hql (Evt.bind' rfl ?_)))
            rw [hrd, wrap64_id (n := s.f1 - 1) (by omega) (by omega), wrap64_id (n := s.f0 + s.f1) (by omega) (by omega), wrap64_id (n := s.f0 + s.f1 - 1) (by omega) (by omega)]
            refine Evt.pos (by rw [List.length_set]; omega) ?_
            have hset : l.set q.toNat (⟨s.f0, s.f1 - 1⟩ : Sp) = p ++ (⟨s.f0, s.f1 - 1⟩ : Sp) :: r := by
              rw [hsplit, ← hpl]
              simp
            have hcut := norm_same (l := l.set q.toNat (⟨s.f0, s.f1 - 1⟩ : Sp) ++ [(⟨s.f0 + s.f1 - 1, 1⟩ : Sp)]) (m := l) (size := a1) (by rw [List.length_append, List.length_set]; simp; omega) (by omega)
              (fun _ => ⟨fun _ => ho, fun _ => by
                rw [hset]
                rw [hsplit] at ho
                refine OkL.append (OkL.append (fun u hu => ho u (by simp [hu])) (OkL.cons ⟨by show 0 < s.f1 - 1; omega, s2, by show s.f0 + (s.f1 - 1) ≤ a1; omega⟩ (fun u hu => ho u (by simp [hu])))) (OkL.cons ⟨by show (0 : Int) < 1; omega, by show 0 ≤ s.f0 + s.f1 - 1; omega, by show s.f0 + s.f1 - 1 + 1 ≤ a1; omega⟩ OkL.nil)⟩)
              (fun x => by
                rw [hset, cnt_append, cnt_append, cnt_cons, cnt_one, hsplit, cnt_append, cnt_cons]
                simp only
                split <;> split <;> split <;> omega)
            refine Evt.bind' (hcut.1.trans he) (Evt.pos rfl (Evt.bind (same_self _ (show a.length < _ by omega)) (Evt.val _)))
      rcases norm_any (l := l) (by omega) a1 with ⟨e, he, e1, e2, f1, f2, hh⟩ | ⟨h1, h2, h3, a, b, e1, e2, f1, f2, k1, k2, k3, b1, b2, b3, la, lb⟩
      · exact go _ _ e1 (by simp) (hj1 _ _ e1 (by simp) (fun k => by rcases hh with ⟨hh, _⟩ | ⟨_, x, y, _⟩; exact absurd hh k; exact ⟨x, y⟩))
      · exact go _ _ e1 la (hj1 _ _ e1 la (fun _ => ⟨h1, h2⟩))
end Go.Proofs.Ytjmplchknbgmgaa.Pure
