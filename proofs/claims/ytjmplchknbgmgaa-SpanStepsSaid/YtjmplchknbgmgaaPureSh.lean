import Derived.Test.YtjmplchknbgmgaaPSpanx15
import Derived.Test.YtjmplchknbgmgaaPureRf
namespace Go.Proofs.Ytjmplchknbgmgaa.Th
open Go.RowKit Go.Proofs.Ytjmplchknbgmgaa.PSpan Go.Proofs.YtjmplchknbgmgaaW.PrintWords Go.Proofs.YtjmplchknbgmgaaW.PrintLast Go.Proofs.YtjmplchknbgmgaaW.PrintMore
set_option linter.unusedVariables false
set_option linter.unusedSimpArgs false
theorem norm_is {l : List Sp} {size : Int} (hl : l.length < 8796092000000) (h1 : Sized size) (h2 : OkL size l) (a : List Sp) (ha : OkL size a) (hc : Canon a) (hx : ∀ x, cnt a x = cnt l x) : span_Norm.f l size = some (a, 0) := by
  obtain ⟨a', b', e1, _, e3, e4, e5, _⟩ := norm_ok hl h1 h2 (fun x => by rw [← hx]; exact cnt_dis ha hc.dis x)
  rw [e1, canon_unique e3 ha e4 hc (fun x => by rw [e5, hx])]
theorem rest_is {l : List Sp} {size : Int} (hl : l.length < 8796092000000) (h1 : Sized size) (h2 : OkL size l) (b : List Sp) (hb : OkL size b) (hc : Canon b) (hd : ∀ x, cnt l x ≤ 1) (hx : ∀ x, cnt b x + cnt l x = if 0 ≤ x ∧ x < size then 1 else 0) : span_Rest.f l size = some (b, 0) := by
  obtain ⟨a', b', _, e2, _, _, _, e6, e7, e8⟩ := norm_ok hl h1 h2 hd
  rw [e2, canon_unique e6 hb e7 hc (fun x => by have := e8 x; have := hx x; omega)]
theorem okl (size : Int) (l : List (Int × Int)) (h : l.all (fun p => decide (0 < p.2) && decide (0 ≤ p.1) && decide (p.1 + p.2 ≤ size)) = true) : OkL size (l.map fun p => (⟨p.1, p.2⟩ : Sp)) := by
  intro s hs
  obtain ⟨p, hp, rfl⟩ := List.mem_map.1 hs
  have := List.all_eq_true.1 h p hp
  simp only [Bool.and_eq_true, decide_eq_true_eq] at this
  exact ⟨this.1.1, this.1.2, this.2⟩
theorem shown_ev : Evt (fun k => rootcellarlaw5_shown.f k) true := by
  have n1 : span_Norm.f ([(⟨3, 2⟩ : Sp), (⟨1, 2⟩ : Sp)] : List Sp) 9 = some ([⟨1, 4⟩], 0) :=
    norm_is (by decide) ⟨by decide, by decide⟩ (okl 9 [(3, 2), (1, 2)] (by decide)) _ (okl 9 [(1, 4)] (by decide)) (List.pairwise_singleton _ _) (fun x => by
      simp only [List.map_cons, List.map_nil, cnt_cons, cnt_nil]
      split <;> split <;> split <;> omega)
  have n2 : span_Rest.f ([(⟨1, 4⟩ : Sp)] : List Sp) 9 = some ([⟨0, 1⟩, ⟨5, 4⟩], 0) :=
    rest_is (by decide) ⟨by decide, by decide⟩ (okl 9 [(1, 4)] (by decide)) _ (okl 9 [(0, 1), (5, 4)] (by decide)) (List.Pairwise.cons (fun b hb => by obtain rfl := List.mem_singleton.1 hb; decide) (List.pairwise_singleton _ _)) (fun x => by show cnt [(⟨1, 4⟩ : Sp)] x ≤ 1; rw [cnt_one]; split <;> omega) (fun x => by
      simp only [List.map_cons, List.map_nil, cnt_cons, cnt_nil]
      split <;> split <;> split <;> split <;> omega)
  have ht : totF ([(⟨1, 4⟩ : Sp), (⟨7, 2⟩ : Sp)] : List Sp) = 6 := (totF_sum (l := [(⟨1, 4⟩ : Sp), (⟨7, 2⟩ : Sp)]) (size := 9) (by decide) (by decide) (okl 9 [(1, 4), (7, 2)] (by decide)) (by decide)).trans rfl
  have n3 : takeF ([(⟨1, 4⟩ : Sp), (⟨7, 2⟩ : Sp)] : List Sp) 5 = ([⟨1, 4⟩, ⟨7, 1⟩], [⟨8, 1⟩], true) := by
    refine (takeF_ok (l := [(⟨1, 4⟩ : Sp), (⟨7, 2⟩ : Sp)]) (n := 5) (size := 9) (by decide) (okl 9 [(1, 4), (7, 2)] (by decide)) (by decide) (by decide) (by rw [ht]; decide)).trans ?_
    rfl
  have n4 := take_ev ([(⟨1, 4⟩ : Sp), (⟨7, 2⟩ : Sp)] : List Sp) 5 (by decide)
  rw [n3] at n4
  unfold rootcellarlaw5_shown.f
  refine Evt.bind' n1 (Evt.bind' n2 (Evt.bind n4 (Evt.pos rfl (Evt.pos rfl (Evt.pos rfl ?_)))))
  refine Evt.bind (same_self _ (by decide)) (Evt.pos rfl (Evt.bind (same_self _ (by decide)) (Evt.pos rfl (Evt.bind (same_self _ (by decide)) (Evt.pos rfl (Evt.bind (same_self _ (by decide)) (Evt.val _)))))))
/-- A right row, and what Norm tells of whatever is given. -/
theorem norm_any {l : List Sp} (hl : l.length ≤ 100000) (size : Int) :
    (∃ e, e ≠ 0 ∧ span_Norm.f l size = some ([], e) ∧ span_Rest.f l size = some ([], e) ∧ Evt (fun k => rootcellarref5_Norm.f k l size) ([], e) ∧ Evt (fun k => rootcellarref5_Rest.f k l size) ([], e) ∧ (e = 11 ∧ ¬ (Sized size ∧ OkL size l) ∨ e = 5 ∧ Sized size ∧ OkL size l ∧ ¬ ∀ x, cnt l x ≤ 1)) ∨
    Sized size ∧ OkL size l ∧ (∀ x, cnt l x ≤ 1) ∧ ∃ a b, span_Norm.f l size = some (a, 0) ∧ span_Rest.f l size = some (b, 0) ∧ Evt (fun k => rootcellarref5_Norm.f k l size) (a, 0) ∧ Evt (fun k => rootcellarref5_Rest.f k l size) (b, 0) ∧
      OkL size a ∧ Canon a ∧ (∀ x, cnt a x = cnt l x) ∧ OkL size b ∧ Canon b ∧ (∀ x, cnt b x + cnt l x = if 0 ≤ x ∧ x < size then 1 else 0) ∧ a.length ≤ 8192 ∧ b.length ≤ 8192 := by
  by_cases h : Sized size ∧ OkL size l
  · obtain ⟨h1, h2⟩ := h
    by_cases h3 : ∀ x, cnt l x ≤ 1
    · obtain ⟨a, b, e1, e2, e3, e4, e5, e6, e7, e8⟩ := norm_ok (by omega) h1 h2 h3
      obtain ⟨a', b', f1, f2, f3, f4, f5, f6, f7, f8⟩ := refnorm_ok (by omega) h1 h2 h3
      obtain rfl := canon_unique f3 e3 f4 e4 (fun x => by rw [f5, e5])
      obtain rfl := canon_unique f6 e6 f7 e7 (fun x => by have := f8 x; have := e8 x; omega)
      have l1 := len_canon (by have := h1.1; omega) e3 (cnt_dis e3 e4.dis)
      have l2 := len_canon (by have := h1.1; omega) e6 (cnt_dis e6 e7.dis)
      have := h1.2
      exact .inr ⟨h1, h2, h3, _, _, e1, e2, f1, f2, e3, e4, e5, e6, e7, e8, by omega, by omega⟩
    · obtain ⟨e1, e2⟩ := norm_twice (by omega) h1 h2 h3
      obtain ⟨f1, f2⟩ := refnorm_twice (by omega) h1 h2 h3
      exact .inl ⟨5, by decide, e1, e2, f1, f2, .inr ⟨rfl, h1, h2, h3⟩⟩
  · obtain ⟨e1, e2⟩ := norm_bad (by omega) h
    obtain ⟨f1, f2⟩ := refnorm_bad (by omega) h
    exact .inl ⟨11, by decide, e1, e2, f1, f2, .inl ⟨rfl, h⟩⟩
theorem norm_same {l m : List Sp} (hl : l.length ≤ 100000) (hm : m.length ≤ 100000) {size : Int} (ho : Sized size → (OkL size l ↔ OkL size m)) (hc : ∀ x, cnt l x = cnt m x) : span_Norm.f l size = span_Norm.f m size ∧ span_Rest.f l size = span_Rest.f m size := by
  by_cases h1 : Sized size
  · by_cases h2 : OkL size l
    · have h2' := (ho h1).1 h2
      by_cases h3 : ∀ x, cnt l x ≤ 1
      · obtain ⟨a, b, e1, e2, e3, e4, e5, e6, e7, e8⟩ := norm_ok (by omega) h1 h2 h3
        obtain ⟨a', b', f1, f2, f3, f4, f5, f6, f7, f8⟩ := norm_ok (l := m) (by omega) h1 h2' (fun x => by rw [← hc]; exact h3 x)
        obtain rfl := canon_unique f3 e3 f4 e4 (fun x => by rw [f5, e5, hc])
        obtain rfl := canon_unique f6 e6 f7 e7 (fun x => by have := f8 x; have := e8 x; have := hc x; omega)
        exact ⟨e1.trans f1.symm, e2.trans f2.symm⟩
      · obtain ⟨e1, e2⟩ := norm_twice (by omega) h1 h2 h3
        obtain ⟨f1, f2⟩ := norm_twice (l := m) (by omega) h1 h2' (fun k => h3 fun x => by rw [hc]; exact k x)
        exact ⟨e1.trans f1.symm, e2.trans f2.symm⟩
    · obtain ⟨e1, e2⟩ := norm_bad (l := l) (size := size) (by omega) (fun k => h2 k.2)
      obtain ⟨f1, f2⟩ := norm_bad (l := m) (size := size) (by omega) (fun k => h2 ((ho h1).2 k.2))
      exact ⟨e1.trans f1.symm, e2.trans f2.symm⟩
  · obtain ⟨e1, e2⟩ := norm_bad (l := l) (size := size) (by omega) (fun k => h1 k.1)
    obtain ⟨f1, f2⟩ := norm_bad (l := m) (size := size) (by omega) (fun k => h1 k.1)
    exact ⟨e1.trans f1.symm, e2.trans f2.symm⟩
end Go.Proofs.Ytjmplchknbgmgaa.Th
