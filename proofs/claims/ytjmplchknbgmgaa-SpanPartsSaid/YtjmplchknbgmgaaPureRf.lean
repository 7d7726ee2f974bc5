import Derived.Test.YtjmplchknbgmgaaPSpanx15
import Derived.Test.YtjmplchknbgmgaaPSpanx16
import Derived.Test.YtjmplchknbgmgaaPSpanx17
import Derived.Test.YtjmplchknbgmgaaPureLp
namespace Go.Proofs.Ytjmplchknbgmgaa.Th
open Go.RowKit Go.Proofs.Ytjmplchknbgmgaa.PSpan Go.Proofs.YtjmplchknbgmgaaW.PrintWords Go.Proofs.YtjmplchknbgmgaaW.PrintLast Go.Proofs.YtjmplchknbgmgaaW.PrintMore
set_option linter.unusedVariables false
set_option linter.unusedSimpArgs false
theorem OkL.mono {a b : Int} (h : a ≤ b) {l : List Sp} (k : OkL a l) : OkL b l := fun s hs => by
  obtain ⟨x, y, z⟩ := k s hs
  exact ⟨x, y, by omega⟩
theorem rd_mid (d : List Sp) (s : Sp) (r : List Sp) : rd_T32 (d ++ s :: r) (d.length : Int) = s := by
  rw [rd_T32_get _ _ (by simp)]
  simp
/-! ### Bits -/
theorem bit_set (b : List Bool) (j : Int) (v : Bool) (x : Int) (hj : 0 ≤ j) (hl : j < b.length) (hx : 0 ≤ x) : rdOf false (b.set j.toNat v) x = if x = j then v else rdOf false b x := by
  unfold rdOf
  rw [List.getD_eq_getElem?_getD, List.getD_eq_getElem?_getD, List.getElem?_set]
  by_cases h : x = j
  · subst h
    rw [if_pos rfl, if_pos rfl, if_pos (by omega)]
    rfl
  · rw [if_neg h, if_neg (by omega)]
theorem bit_out (b : List Bool) (x : Int) (h : (b.length : Int) ≤ x) : rdOf false b x = false := by
  unfold rdOf
  rw [List.getD_eq_getElem?_getD, List.getElem?_eq_none (by omega)]
  rfl
theorem bit_rep (n : Nat) (x : Int) : rdOf false (List.replicate n false) x = false := by
  unfold rdOf
  rw [List.getD_eq_getElem?_getD, List.getElem?_replicate]
  split <;> rfl
/-! ### row -/
theorem row_ev (p : List Bool) (hp : p.length ≤ 1000000) : ∃ c, Evt (fun k => rootcellarref5_row.f k p) c ∧ OkL p.length c ∧ Canon c ∧ ∀ x, cnt c x = if 0 ≤ x ∧ x < p.length ∧ rdOf false p x = true then 1 else 0 := by
  have key : ∀ n i : Nat, ∀ acc : List Sp, p.length - i = n → i ≤ p.length → OkL i acc → Canon acc → (∀ x, cnt acc x = if 0 ≤ x ∧ x < i ∧ rdOf false p x = true then 1 else 0) → acc.length ≤ i →
      (0 < i → rdOf false p ((i : Int) - 1) = true → ∃ (u : List Sp) (t : Sp), acc = u ++ [t] ∧ t.f0 + t.f1 = (i : Int)) →
      ∃ c, Evt (fun k => rootcellarref5_row.l0 k p acc (i : Int)) c ∧ OkL p.length c ∧ Canon c ∧ ∀ x, cnt c x = if 0 ≤ x ∧ x < p.length ∧ rdOf false p x = true then 1 else 0 := by
    intro n
    induction n with
    | zero =>
      intro i acc hn hi h1 h2 h3 h4 h5
      have e : i = p.length := by omega
      subst e
      exact ⟨acc, Evt.step (fun k => by rw [rootcellarref5_row.l0]) (Evt.neg (by omega) (Evt.val _)), h1, h2, h3⟩
    | succ n ih =>
      intro i acc hn hi h1 h2 h3 h4 h5
      have hw : wrap64 ((i : Int) + 1) = ((i + 1 : Nat) : Int) := by rw [wrap64_id (by omega) (by omega)]; rfl
      have hlen : acc.length < 8796093022208 := by omega
      by_cases hb : rdOf false p (i : Int) = true
      · by_cases hprev : 0 < i ∧ rdOf false p ((i : Int) - 1) = true
        · obtain ⟨u, t, hu, ht⟩ := h5 hprev.1 hprev.2
          have hto := h1 t (by rw [hu]; simp)
          obtain ⟨t1, t2, t3⟩ := hto
          have hal : acc.length = u.length + 1 := by rw [hu]; simp
          have hwl : wrap64 ((acc.length : Int) - 1) = (u.length : Int) := by rw [wrap64_id (by omega) (by omega)]; omega
          have hrd : rd_T32 acc (u.length : Int) = t := by rw [hu]; exact rd_mid u t []
          have hset : acc.set ((u.length : Int)).toNat (⟨t.f0, wrap64 (t.f1 + 1)⟩ : Sp) = u ++ [(⟨t.f0, t.f1 + 1⟩ : Sp)] := by
            rw [wrap64_id (by omega) (by omega), hu]
            simp
          obtain ⟨c, e1, e2, e3, e4⟩ := ih (i + 1) (u ++ [(⟨t.f0, t.f1 + 1⟩ : Sp)]) (by omega) (by omega)
            (OkL.append (fun a ha => by obtain ⟨x, y, z⟩ := h1 a (by rw [hu]; simp [ha]); exact ⟨x, y, by push_cast; omega⟩) (OkL.cons ⟨by show 0 < t.f1 + 1; omega, t2, by show t.f0 + (t.f1 + 1) ≤ ((i + 1 : Nat) : Int); push_cast; omega⟩ OkL.nil))
            (by
              rw [hu] at h2
              obtain ⟨a1, a2, a3⟩ := List.pairwise_append.1 h2
              refine List.pairwise_append.2 ⟨a1, List.pairwise_singleton _ _, fun a ha b hb => ?_⟩
              obtain rfl := List.mem_singleton.1 hb
              exact a3 a ha t (by simp))
            (fun x => by
              have := h3 x
              rw [hu, cnt_append, cnt_one] at this
              rw [cnt_append, cnt_one]
              simp only
              have hxi : x = (i : Int) → rdOf false p x = true := fun e => by rw [e]; exact hb
              have hxo : x = (i : Int) → cnt u x = 0 := fun e => by rw [if_neg (by omega), if_neg (fun hh => by have := hh.2.1; omega)] at this; omega
              split at this <;> split at this <;> split <;> split <;> (push_cast at *) <;> (try omega) <;> (by_cases hx : x = (i : Int) <;> simp_all <;> omega))
            (by simp; omega) (fun _ _ => ⟨u, _, rfl, by show t.f0 + (t.f1 + 1) = _; push_cast; omega⟩)
          refine ⟨c, Evt.step (fun k => by rw [rootcellarref5_row.l0]) ?_, e2, e3, e4⟩
          refine Evt.pos (by omega) (Evt.pos (by omega) (Evt.pos hb (Evt.pos (by omega) ?_)))
          rw [wrap64_id (n := (i : Int) - 1) (by omega) (by omega)]
          refine Evt.pos (by omega) (Evt.pos (by omega) (Evt.pos hprev.2 ?_))
          rw [hwl, hrd, hset, hw]
          exact Evt.pos (by omega) (Evt.pos (by omega) e1)
        · have hends : ∀ a ∈ acc, a.f0 + a.f1 < i := fun a ha => by
            obtain ⟨x, y, z⟩ := h1 a ha
            rcases Int.lt_or_le (a.f0 + a.f1) i with hlt | hge
            · exact hlt
            · exfalso
              have hc := cnt_mem ha (x := (i : Int) - 1) (by omega) (by omega)
              rw [h3] at hc
              split at hc
              · rename_i hh
                exact hprev ⟨by omega, hh.2.2⟩
              · omega
          obtain ⟨c, e1, e2, e3, e4⟩ := ih (i + 1) (acc ++ [(⟨(i : Int), 1⟩ : Sp)]) (by omega) (by omega)
            (OkL.append (OkL.mono (by push_cast; omega) h1) (OkL.cons ⟨by show (0 : Int) < 1; omega, by show (0 : Int) ≤ (i : Int); omega, by show (i : Int) + 1 ≤ ((i + 1 : Nat) : Int); push_cast; omega⟩ OkL.nil))
            (List.pairwise_append.2 ⟨h2, List.pairwise_singleton _ _, fun a ha b hb => by obtain rfl := List.mem_singleton.1 hb; exact hends a ha⟩)
            (fun x => by
              rw [cnt_append, cnt_one, h3]
              simp only
              have hxi : x = (i : Int) → rdOf false p x = true := fun e => by rw [e]; exact hb
              split <;> split <;> split <;> (push_cast at *) <;> (try omega) <;> (by_cases hx : x = (i : Int) <;> simp_all <;> omega))
            (by simp; omega) (fun _ _ => ⟨acc, _, rfl, by show (i : Int) + 1 = _; push_cast; rfl⟩)
          refine ⟨c, Evt.step (fun k => by rw [rootcellarref5_row.l0]) ?_, e2, e3, e4⟩
          refine Evt.pos (by omega) (Evt.pos (by omega) (Evt.pos hb ?_))
          by_cases h0 : 0 < i
          · refine Evt.pos (by omega) ?_
            rw [wrap64_id (n := (i : Int) - 1) (by omega) (by omega), hw]
            exact Evt.pos (by omega) (Evt.pos (by omega) (Evt.neg (fun hh => hprev ⟨h0, hh⟩) (Evt.pos hlen e1)))
          · rw [hw]
            exact Evt.neg (by omega) (Evt.pos hlen e1)
      · obtain ⟨c, e1, e2, e3, e4⟩ := ih (i + 1) acc (by omega) (by omega) (OkL.mono (by push_cast; omega) h1) h2
          (fun x => by
            rw [h3]
            have hxi : x = (i : Int) → ¬ rdOf false p x = true := fun e => by rw [e]; exact hb
            split <;> split <;> (push_cast at *) <;> (try omega) <;> (by_cases hx : x = (i : Int) <;> simp_all <;> omega))
          (by omega) (fun _ hh => absurd hh (by rw [show (((i + 1 : Nat) : Int) - 1) = (i : Int) by push_cast; omega]; exact hb))
        refine ⟨c, Evt.step (fun k => by rw [rootcellarref5_row.l0]) ?_, e2, e3, e4⟩
        rw [hw]
        exact Evt.pos (by omega) (Evt.pos (by omega) (Evt.neg hb e1))
  unfold rootcellarref5_row.f
  exact key _ 0 [] rfl (Nat.zero_le _) OkL.nil List.Pairwise.nil (fun x => by rw [cnt_nil, if_neg (by omega)]) (Nat.le_refl _) (fun h => absurd h (by omega))
/-! ### marks -/
theorem refin (size : Int) (s : Sp) : rootcellarref5_inside.f s.f0 s.f1 size = some (insB size s) := by
  unfold rootcellarref5_inside.f insB
  by_cases h1 : 1 ≤ s.f1 <;> by_cases h2 : 0 ≤ s.f0 <;> by_cases h3 : s.f0 < size <;> simp [h1, h2, h3, GE.ge] <;> omega
theorem marks_fill (l d : List Sp) (s : Sp) (r : List Sp) (size : Int) (hl : l = d ++ s :: r) (hs : Sized size) (ho : Ok size s) (hlen : l.length ≤ 1000000) :
    ∀ (m : Nat) (j : Int) (b : List Bool), (s.f0 + s.f1 - j).toNat = m → s.f0 ≤ j → j ≤ s.f0 + s.f1 → b.length = size.toNat → (∀ x, 0 ≤ x → x < size → (rdOf false b x = true ↔ (0 < cnt d x ∨ s.f0 ≤ x ∧ x < j))) →
      (∃ x, 2 ≤ cnt l x) ∧ Evt (fun k => rootcellarref5_marks.l2 k l b (d.length : Int) j) ([], 5) ∨
      ∃ b' : List Bool, b'.length = size.toNat ∧ (∀ x, 0 ≤ x → x < size → (rdOf false b' x = true ↔ (0 < cnt d x ∨ s.f0 ≤ x ∧ x < s.f0 + s.f1))) ∧ (∀ x, j ≤ x → x < s.f0 + s.f1 → cnt d x = 0) ∧
        ∀ v, Evt (fun k => rootcellarref5_marks.l1 k l b' ((d.length + 1 : Nat) : Int)) v → Evt (fun k => rootcellarref5_marks.l2 k l b (d.length : Int) j) v := by
  obtain ⟨o1, o2, o3⟩ := ho
  obtain ⟨z1, z2⟩ := hs
  have hdl : d.length < l.length := by rw [hl]; simp
  have hrd : rd_T32 l (d.length : Int) = s := by rw [hl]; exact rd_mid d s r
  have hw : wrap64 ((d.length : Int) + 1) = ((d.length + 1 : Nat) : Int) := by rw [wrap64_id (by omega) (by omega)]; rfl
  intro m
  induction m with
  | zero =>
    intro j b hm h1 h2 hb hbits
    have e : j = s.f0 + s.f1 := by omega
    subst e
    refine .inr ⟨b, hb, hbits, fun x hx1 hx2 => by omega, fun v hv => Evt.step (fun k => by rw [rootcellarref5_marks.l2]) ?_⟩
    rw [hrd, wrap64_id (n := s.f0 + s.f1) (by omega) (by omega), hw]
    exact Evt.pos (by omega) (Evt.pos (by omega) (Evt.neg (by omega) hv))
  | succ m ih =>
    intro j b hm h1 h2 hb hbits
    by_cases hj : rdOf false b j = true
    · refine .inl ⟨⟨j, ?_⟩, Evt.step (fun k => by rw [rootcellarref5_marks.l2]) ?_⟩
      · have := (hbits j (by omega) (by omega)).1 hj
        have h3 : 0 < cnt d j := by omega
        rw [hl, cnt_append, cnt_cons, if_pos (by omega)]
        omega
      · rw [hrd, wrap64_id (n := s.f0 + s.f1) (by omega) (by omega)]
        exact Evt.pos (by omega) (Evt.pos (by omega) (Evt.pos (by omega) (Evt.pos (by omega) (Evt.pos (by omega) (Evt.pos hj (Evt.val _))))))
    · have hcd : cnt d j = 0 := by
        have := mt (hbits j (by omega) (by omega)).2 hj
        omega
      have hrec := ih (j + 1) (b.set j.toNat true) (by omega) (by omega) (by omega) (by rw [List.length_set]; exact hb) (fun x hx1 hx2 => by
        rw [bit_set b j true x (by omega) (by omega) hx1]
        have := hbits x hx1 hx2
        by_cases e : x = j
        · rw [if_pos e]; simp; omega
        · rw [if_neg e, this]; omega)
      have hgo : ∀ v, Evt (fun k => rootcellarref5_marks.l2 k l (b.set j.toNat true) (d.length : Int) (j + 1)) v → Evt (fun k => rootcellarref5_marks.l2 k l b (d.length : Int) j) v := fun v hv => by
        refine Evt.step (fun k => by rw [rootcellarref5_marks.l2]) ?_
        rw [hrd, wrap64_id (n := s.f0 + s.f1) (by omega) (by omega), wrap64_id (n := j + 1) (by omega) (by omega)]
        exact Evt.pos (by omega) (Evt.pos (by omega) (Evt.pos (by omega) (Evt.pos (by omega) (Evt.pos (by omega) (Evt.neg hj hv)))))
      rcases hrec with ⟨h3, h4⟩ | ⟨b', k1, k2, k3, k4⟩
      · exact .inl ⟨h3, hgo _ h4⟩
      · refine .inr ⟨b', k1, k2, fun x hx1 hx2 => ?_, fun v hv => hgo _ (k4 v hv)⟩
        by_cases e : x = j
        · rw [e]; exact hcd
        · exact k3 x (by omega) hx2
theorem marks_go (l : List Sp) (size : Int) (hs : Sized size) (ho : OkL size l) (hlen : l.length ≤ 1000000) :
    ∀ (r d : List Sp) (b : List Bool), l = d ++ r → b.length = size.toNat → (∀ x, 0 ≤ x → x < size → (rdOf false b x = true ↔ 0 < cnt d x)) → (∀ x, cnt d x ≤ 1) →
      (∃ x, 2 ≤ cnt l x) ∧ Evt (fun k => rootcellarref5_marks.l1 k l b (d.length : Int)) ([], 5) ∨
      (∀ x, cnt l x ≤ 1) ∧ ∃ b' : List Bool, b'.length = size.toNat ∧ (∀ x, 0 ≤ x → x < size → (rdOf false b' x = true ↔ 0 < cnt l x)) ∧ Evt (fun k => rootcellarref5_marks.l1 k l b (d.length : Int)) (b', 0)
  | [], d, b, hl, hb, hbits, hc => by
    rw [List.append_nil] at hl
    subst hl
    exact .inr ⟨hc, b, hb, hbits, Evt.step (fun k => by rw [rootcellarref5_marks.l1]) (Evt.neg (by omega) (Evt.val _))⟩
  | s :: r, d, b, hl, hb, hbits, hc => by
    have hso := ho s (by rw [hl]; simp)
    have hdl : d.length < l.length := by rw [hl]; simp
    have hrd : rd_T32 l (d.length : Int) = s := by rw [hl]; exact rd_mid d s r
    have hgo : ∀ v, Evt (fun k => rootcellarref5_marks.l2 k l b (d.length : Int) s.f0) v → Evt (fun k => rootcellarref5_marks.l1 k l b (d.length : Int)) v := fun v hv => by
      refine Evt.step (fun k => by rw [rootcellarref5_marks.l1]) ?_
      rw [hrd]
      exact Evt.pos (by omega) (Evt.pos (by omega) hv)
    rcases marks_fill l d s r size hl hs hso hlen _ s.f0 b rfl (Int.le_refl _) (by have := hso.1; omega) hb (fun x h1 h2 => by rw [hbits x h1 h2]; omega) with ⟨h3, h4⟩ | ⟨b', k1, k2, k3, k4⟩
    · exact .inl ⟨h3, hgo _ h4⟩
    · have hd' : ∀ x, cnt (d ++ [s]) x = cnt d x + if s.f0 ≤ x ∧ x < s.f0 + s.f1 then 1 else 0 := fun x => by rw [cnt_append, cnt_one]
      have hrec := marks_go l size hs ho hlen r (d ++ [s]) b' (by rw [hl]; simp) k1 (fun x h1 h2 => by rw [k2 x h1 h2, hd']; split <;> omega) (fun x => by
        rw [hd']
        have := hc x
        split
        · rename_i hh
          have := k3 x hh.1 hh.2
          omega
        · omega)
      rw [show (d ++ [s]).length = d.length + 1 by simp] at hrec
      rcases hrec with ⟨h5, h6⟩ | ⟨h5, b2, h6, h7, h8⟩
      · exact .inl ⟨h5, hgo _ (k4 _ h6)⟩
      · exact .inr ⟨h5, b2, h6, h7, hgo _ (k4 _ h8)⟩
theorem marks_head (l : List Sp) (size : Int) (hs : Sized size) (hlen : l.length ≤ 1000000) : ∀ (r d : List Sp), l = d ++ r →
    (¬ OkL size r → Evt (fun k => rootcellarref5_marks.l0 k l size (d.length : Int)) ([], 11)) ∧
    (OkL size r → ∀ v, Evt (fun k => rootcellarref5_marks.l1 k l (List.replicate size.toNat false) 0) v → Evt (fun k => rootcellarref5_marks.l0 k l size (d.length : Int)) v)
  | [], d, hl => by
    rw [List.append_nil] at hl
    subst hl
    obtain ⟨z1, z2⟩ := hs
    refine ⟨fun h => absurd OkL.nil h, fun _ v hv => Evt.step (fun k => by rw [rootcellarref5_marks.l0]) ?_⟩
    exact Evt.neg (by omega) (Evt.pos (by omega) (Evt.pos (by omega) hv))
  | s :: r, d, hl => by
    have hdl : d.length < l.length := by rw [hl]; simp
    have hrd : rd_T32 l (d.length : Int) = s := by rw [hl]; exact rd_mid d s r
    have hw : wrap64 ((d.length : Int) + 1) = ((d.length + 1 : Nat) : Int) := by rw [wrap64_id (by omega) (by omega)]; rfl
    obtain ⟨i1, i2⟩ := marks_head l size hs hlen r (d ++ [s]) (by rw [hl]; simp)
    rw [show (d ++ [s]).length = d.length + 1 by simp] at i1 i2
    have hgo : insB size s = true → ∀ v, Evt (fun k => rootcellarref5_marks.l0 k l size ((d.length + 1 : Nat) : Int)) v → Evt (fun k => rootcellarref5_marks.l0 k l size (d.length : Int)) v := fun hin v hv => by
      refine Evt.step (fun k => by rw [rootcellarref5_marks.l0]) ?_
      rw [hrd, hw]
      exact Evt.pos (by omega) (Evt.pos (by omega) (Evt.bind' (refin size s) (Evt.pos hin hv)))
    by_cases hin : insB size s = true
    · have hk := (insB_iff hs.1 hs.2 s).1 hin
      exact ⟨fun h => hgo hin _ (i1 fun k => h (OkL.cons hk k)), fun h v hv => hgo hin _ (i2 h.tail v hv)⟩
    · refine ⟨fun _ => Evt.step (fun k => by rw [rootcellarref5_marks.l0]) ?_, fun h => absurd ((insB_iff hs.1 hs.2 s).2 h.head) hin⟩
      rw [hrd]
      exact Evt.pos (by omega) (Evt.pos (by omega) (Evt.bind' (refin size s) (Evt.neg hin (Evt.val _))))
theorem marks_bad {l : List Sp} {size : Int} (hlen : l.length ≤ 1000000) (h : ¬ (Sized size ∧ OkL size l)) : Evt (fun k => rootcellarref5_marks.f k l size) ([], 11) := by
  unfold rootcellarref5_marks.f
  by_cases h1 : size < 1
  · exact Evt.pos h1 (Evt.step (fun k => by rw [rootcellarref5_marks.j0]) (Evt.pos rfl (Evt.val _)))
  · refine Evt.neg h1 (Evt.step (fun k => by rw [rootcellarref5_marks.j0]) ?_)
    by_cases h2 : 8192 < size
    · exact Evt.pos (by simpa using h2) (Evt.val _)
    · exact Evt.neg (by simpa using h2) ((marks_head l size ⟨by omega, by omega⟩ hlen l [] rfl).1 fun k => h ⟨⟨by omega, by omega⟩, k⟩)
theorem marks_in {l : List Sp} {size : Int} (hlen : l.length ≤ 1000000) (hs : Sized size) (ho : OkL size l) :
    (∃ x, 2 ≤ cnt l x) ∧ Evt (fun k => rootcellarref5_marks.f k l size) ([], 5) ∨
    (∀ x, cnt l x ≤ 1) ∧ ∃ b' : List Bool, b'.length = size.toNat ∧ (∀ x, 0 ≤ x → x < size → (rdOf false b' x = true ↔ 0 < cnt l x)) ∧ Evt (fun k => rootcellarref5_marks.f k l size) (b', 0) := by
  obtain ⟨z1, z2⟩ := hs
  have hgo : ∀ v, Evt (fun k => rootcellarref5_marks.l1 k l (List.replicate size.toNat false) 0) v → Evt (fun k => rootcellarref5_marks.f k l size) v := fun v hv => by
    unfold rootcellarref5_marks.f
    refine Evt.neg (by omega) (Evt.step (fun k => by rw [rootcellarref5_marks.j0]) ?_)
    exact Evt.neg (by simpa using z2) ((marks_head l size ⟨z1, z2⟩ hlen l [] rfl).2 ho v hv)
  rcases marks_go l size ⟨z1, z2⟩ ho hlen l [] (List.replicate size.toNat false) rfl (by simp) (fun x _ _ => by rw [bit_rep, cnt_nil]; simp) (fun x => by rw [cnt_nil]; omega) with ⟨h3, h4⟩ | ⟨h3, b', h4, h5, h6⟩
  · exact .inl ⟨h3, hgo _ h4⟩
  · exact .inr ⟨h3, b', h4, h5, hgo _ h6⟩
/-! ### Norm and Rest, sector by sector -/
theorem ref_flip (b0 : List Bool) (hb : b0.length ≤ 1000000) : ∀ (n i : Nat) (b : List Bool), b0.length - i = n → i ≤ b0.length → b.length = b0.length → (∀ x : Int, 0 ≤ x → x < b0.length → rdOf false b x = if x < (i : Int) then !(rdOf false b0 x) else rdOf false b0 x) →
    ∃ b' : List Bool, b'.length = b0.length ∧ (∀ x : Int, 0 ≤ x → x < b0.length → rdOf false b' x = !(rdOf false b0 x)) ∧ ∀ v, Evt (fun k => rootcellarref5_row.f k b') v → Evt (fun k => rootcellarref5_Rest.l0 k b (i : Int)) (v, 0) := by
  intro n
  induction n with
  | zero =>
    intro i b hn hi hl hx
    refine ⟨b, hl, fun x h1 h2 => by rw [hx x h1 h2, if_pos (by omega)], fun v hv => Evt.step (fun k => by rw [rootcellarref5_Rest.l0]) ?_⟩
    exact Evt.neg (by omega) (Evt.bind hv (Evt.val _))
  | succ n ih =>
    intro i b hn hi hl hx
    have hw : wrap64 ((i : Int) + 1) = ((i + 1 : Nat) : Int) := by rw [wrap64_id (by omega) (by omega)]; rfl
    obtain ⟨b', h1, h2, h3⟩ := ih (i + 1) (b.set ((i : Int)).toNat (!(rdOf false b (i : Int)))) (by omega) (by omega) (by rw [List.length_set]; exact hl) (fun x hx1 hx2 => by
      rw [bit_set b (i : Int) _ x (by omega) (by omega) hx1]
      by_cases e : x = (i : Int)
      · rw [if_pos e, e, hx _ (by omega) (by omega), if_neg (by omega), if_pos (by push_cast; omega)]
      · rw [if_neg e, hx x hx1 hx2]
        by_cases h4 : x < (i : Int)
        · rw [if_pos h4, if_pos (by push_cast; omega)]
        · rw [if_neg h4, if_neg (by push_cast; omega)])
    refine ⟨b', h1, h2, fun v hv => Evt.step (fun k => by rw [rootcellarref5_Rest.l0]) ?_⟩
    rw [hw]
    exact Evt.pos (by omega) (Evt.pos (by omega) (h3 v hv))
theorem refnorm_bad {l : List Sp} {size : Int} (hlen : l.length ≤ 1000000) (h : ¬ (Sized size ∧ OkL size l)) : Evt (fun k => rootcellarref5_Norm.f k l size) ([], 11) ∧ Evt (fun k => rootcellarref5_Rest.f k l size) ([], 11) := by
  unfold rootcellarref5_Norm.f rootcellarref5_Rest.f
  exact ⟨Evt.bind (marks_bad hlen h) (Evt.neg (by decide) (Evt.val _)), Evt.bind (marks_bad hlen h) (Evt.neg (by decide) (Evt.val _))⟩
theorem refnorm_twice {l : List Sp} {size : Int} (hlen : l.length ≤ 1000000) (hs : Sized size) (ho : OkL size l) (h3 : ¬ ∀ x, cnt l x ≤ 1) : Evt (fun k => rootcellarref5_Norm.f k l size) ([], 5) ∧ Evt (fun k => rootcellarref5_Rest.f k l size) ([], 5) := by
  rcases marks_in hlen hs ho with ⟨_, h4⟩ | ⟨h4, _⟩
  · unfold rootcellarref5_Norm.f rootcellarref5_Rest.f
    exact ⟨Evt.bind h4 (Evt.neg (by decide) (Evt.val _)), Evt.bind h4 (Evt.neg (by decide) (Evt.val _))⟩
  · exact absurd h4 h3
theorem refnorm_ok {l : List Sp} {size : Int} (hlen : l.length ≤ 1000000) (hs : Sized size) (ho : OkL size l) (h3 : ∀ x, cnt l x ≤ 1) :
    ∃ a b, Evt (fun k => rootcellarref5_Norm.f k l size) (a, 0) ∧ Evt (fun k => rootcellarref5_Rest.f k l size) (b, 0) ∧ OkL size a ∧ Canon a ∧ (∀ x, cnt a x = cnt l x) ∧ OkL size b ∧ Canon b ∧ ∀ x, cnt b x + cnt l x = if 0 ≤ x ∧ x < size then 1 else 0 := by
  rcases marks_in hlen hs ho with ⟨⟨x, hx⟩, _⟩ | ⟨_, m, m1, m2, m3⟩
  · have := h3 x; omega
  · obtain ⟨z1, z2⟩ := hs
    have hml : ((m.length : Nat) : Int) = size := by rw [m1]; omega
    obtain ⟨a, a1, a2, a3, a4⟩ := row_ev m (by omega)
    obtain ⟨m', f1, f2, f3⟩ := ref_flip m (by omega) _ 0 m rfl (Nat.zero_le _) rfl (fun x h1 h2 => by rw [if_neg (by omega)])
    obtain ⟨b, b1, b2, b3, b4⟩ := row_ev m' (by omega)
    rw [f1, hml] at b2 b4
    rw [hml] at a2 a4
    refine ⟨a, b, ?_, ?_, a2, a3, fun x => ?_, b2, b3, fun x => ?_⟩
    · unfold rootcellarref5_Norm.f
      exact Evt.bind m3 (Evt.pos rfl (Evt.bind a1 (Evt.val _)))
    · unfold rootcellarref5_Rest.f
      exact Evt.bind m3 (Evt.pos rfl (f3 _ b1))
    · rw [a4]
      have := h3 x
      by_cases hx : 0 ≤ x ∧ x < size
      · have := m2 x hx.1 hx.2
        split
        · rename_i hh
          have := this.1 hh.2.2
          omega
        · rename_i hh
          have : ¬ rdOf false m x = true := fun k => hh ⟨hx.1, hx.2, k⟩
          have := mt (m2 x hx.1 hx.2).2 this
          omega
      · rw [if_neg (by omega), cnt_out ho (by omega)]
    · rw [b4]
      have := h3 x
      by_cases hx : 0 ≤ x ∧ x < size
      · have e := f2 x hx.1 (by omega)
        have e2 := m2 x hx.1 hx.2
        rw [if_pos hx]
        cases hbit : rdOf false m x with
        | true =>
          rw [hbit] at e e2
          have := e2.1 rfl
          rw [if_neg (by rw [e]; simp)]
          omega
        | false =>
          rw [hbit] at e e2
          have : ¬ 0 < cnt l x := fun k => by have := e2.2 k; cases this
          rw [if_pos ⟨hx.1, hx.2, by rw [e]; rfl⟩]
          omega
      · rw [if_neg (by omega), if_neg hx, cnt_out ho (by omega)]
/-! ### Total, sector by sector -/
theorem reftotal_ev (l : List Sp) (hl : l.length < 8796093022208) : Evt (fun k => rootcellarref5_Total.f k l) (totF l) := by
  unfold rootcellarref5_Total.f
  have key : ∀ n i : Nat, ∀ x : Int, l.length - i = n → i ≤ l.length → Evt (fun k => rootcellarref5_Total.l0 k l x (i : Int)) ((l.drop i).foldl totStep x) := by
    intro n
    induction n with
    | zero =>
      intro i x hn hi
      refine Evt.step (fun k => by rw [rootcellarref5_Total.l0]) ?_
      refine Evt.neg (by omega) (Evt.val' ?_)
      rw [List.drop_eq_nil_of_le (by omega)]; rfl
    | succ n ih =>
      intro i x hn hi
      refine Evt.step (fun k => by rw [rootcellarref5_Total.l0]) ?_
      refine Evt.pos (by omega) (Evt.pos (by omega) ?_)
      have hlt : i < l.length := by omega
      rw [wrap64_id (n := (i : Int) + 1) (by omega) (by omega), rd_T32_get l i hlt, List.drop_eq_getElem_cons hlt]
      exact ih (i + 1) _ (by omega) (by omega)
  exact key _ 0 0 rfl (Nat.zero_le _)
/-! ### Take, sector by sector -/
theorem takeStep_ok {size : Int} (h2 : size ≤ 8192) {s : Sp} (ho : Ok size s) {n : Int} (h0 : 0 ≤ n) (hb : n < 4611686018427387904) (a b : List Sp) :
    ∃ m, 0 ≤ m ∧ m ≤ n ∧ m ≤ s.f1 ∧ (m = n ∨ m = s.f1) ∧ takeStep (n, a, b) s = (n - m, a ++ (if 0 < m then [⟨s.f0, m⟩] else []), b ++ (if m < s.f1 then [⟨s.f0 + m, s.f1 - m⟩] else [])) := by
  obtain ⟨o1, o2, o3⟩ := ho
  refine ⟨mn n s.f1, ?_⟩
  have hm : mn n s.f1 = if s.f1 < n then s.f1 else n := rfl
  have h1 : 0 ≤ mn n s.f1 ∧ mn n s.f1 ≤ n ∧ mn n s.f1 ≤ s.f1 ∧ (mn n s.f1 = n ∨ mn n s.f1 = s.f1) := by rw [hm]; split <;> omega
  refine ⟨h1.1, h1.2.1, h1.2.2.1, h1.2.2.2, ?_⟩
  obtain ⟨g1, g2, g3, g4⟩ := h1
  unfold takeStep
  generalize mn n s.f1 = m at *
  simp only
  rw [wrap64_id (n := n - m) (by omega) (by omega), wrap64_id (n := s.f0 + m) (by omega) (by omega), wrap64_id (n := s.f1 - m) (by omega) (by omega)]
  by_cases c1 : 0 < m <;> by_cases c2 : m < s.f1 <;> simp [c1, c2, GT.gt]
theorem ref_fill (l d : List Sp) (s : Sp) (r : List Sp) (size : Int) (h2 : size ≤ 8192) (hl : l = d ++ s :: r) (ho : Ok size s) (hlen : l.length ≤ 1000000) :
    ∀ (q : Nat) (j n m : Int) (o t : List Bool), (s.f0 + s.f1 - j).toNat = q → s.f0 ≤ j → j ≤ s.f0 + s.f1 → o.length = 8192 → t.length = 8192 → 0 ≤ m → m ≤ n → n < 4611686018427387904 → m ≤ s.f0 + s.f1 - j → (m = n ∨ m = s.f0 + s.f1 - j) →
      ∃ o' t' : List Bool, o'.length = 8192 ∧ t'.length = 8192 ∧ (∀ x, 0 ≤ x → (rdOf false o' x = true ↔ rdOf false o x = true ∨ j ≤ x ∧ x < j + m)) ∧ (∀ x, 0 ≤ x → (rdOf false t' x = true ↔ rdOf false t x = true ∨ j + m ≤ x ∧ x < s.f0 + s.f1)) ∧
        ∀ v, Evt (fun k => rootcellarref5_Take.l0 k l (n - m) o' t' ((d.length + 1 : Nat) : Int)) v → Evt (fun k => rootcellarref5_Take.l1 k l n o t (d.length : Int) j) v := by
  obtain ⟨o1, o2, o3⟩ := ho
  have hdl : d.length < l.length := by rw [hl]; simp
  have hrd : rd_T32 l (d.length : Int) = s := by rw [hl]; exact rd_mid d s r
  have hw : wrap64 ((d.length : Int) + 1) = ((d.length + 1 : Nat) : Int) := by rw [wrap64_id (by omega) (by omega)]; rfl
  intro q
  induction q with
  | zero =>
    intro j n m o t hq h3 h4 ol tl hm1 hm2 hn hm3 hm4
    have e : m = 0 := by omega
    subst e
    refine ⟨o, t, ol, tl, fun x _ => ⟨.inl, fun h => h.elim id fun h => by omega⟩, fun x _ => ⟨.inl, fun h => h.elim id fun h => by omega⟩, fun v hv => Evt.step (fun k => by rw [rootcellarref5_Take.l1]) ?_⟩
    rw [hrd, wrap64_id (n := s.f0 + s.f1) (by omega) (by omega), hw]
    rw [Int.sub_zero] at hv
    exact Evt.pos (by omega) (Evt.pos (by omega) (Evt.neg (by omega) hv))
  | succ q ih =>
    intro j n m o t hq h3 h4 ol tl hm1 hm2 hn hm3 hm4
    by_cases hpos : 0 < n
    · obtain ⟨o', t', k1, k2, k3, k4, k5⟩ := ih (j + 1) (n - 1) (m - 1) (o.set j.toNat true) t (by omega) (by omega) (by omega) (by rw [List.length_set]; exact ol) tl (by omega) (by omega) (by omega) (by omega) (by omega)
      refine ⟨o', t', k1, k2, fun x hx => ?_, fun x hx => ?_, fun v hv => Evt.step (fun k => by rw [rootcellarref5_Take.l1]) ?_⟩
      · rw [k3 x hx, bit_set o j true x (by omega) (by omega) hx]
        by_cases e : x = j
        · rw [if_pos e]; simp; omega
        · rw [if_neg e]
          constructor
          · rintro (h | h)
            · exact .inl h
            · exact .inr (by omega)
          · rintro (h | h)
            · exact .inl h
            · exact .inr (by omega)
      · rw [k4 x hx]
        constructor
        · rintro (h | h)
          · exact .inl h
          · exact .inr (by omega)
        · rintro (h | h)
          · exact .inl h
          · exact .inr (by omega)
      · rw [hrd, wrap64_id (n := s.f0 + s.f1) (by omega) (by omega), wrap64_id (n := n - 1) (by omega) (by omega), wrap64_id (n := j + 1) (by omega) (by omega)]
        exact Evt.pos (by omega) (Evt.pos (by omega) (Evt.pos (by omega) (Evt.pos (by omega) (Evt.pos (by omega) (Evt.pos (by omega) (k5 v (by rw [show n - 1 - (m - 1) = n - m by omega]; exact hv)))))))
    · have e : m = 0 := by omega
      subst e
      have en : n = 0 := by omega
      subst en
      obtain ⟨o', t', k1, k2, k3, k4, k5⟩ := ih (j + 1) 0 0 o (t.set j.toNat true) (by omega) (by omega) (by omega) ol (by rw [List.length_set]; exact tl) (by omega) (by omega) (by omega) (by omega) (by omega)
      refine ⟨o', t', k1, k2, fun x hx => ?_, fun x hx => ?_, fun v hv => Evt.step (fun k => by rw [rootcellarref5_Take.l1]) ?_⟩
      · rw [k3 x hx]
        constructor
        · rintro (h | h)
          · exact .inl h
          · exact .inr (by omega)
        · rintro (h | h)
          · exact .inl h
          · exact .inr (by omega)
      · rw [k4 x hx, bit_set t j true x (by omega) (by omega) hx]
        by_cases e : x = j
        · rw [if_pos e]; simp; omega
        · rw [if_neg e]
          constructor
          · rintro (h | h)
            · exact .inl h
            · exact .inr (by omega)
          · rintro (h | h)
            · exact .inl h
            · exact .inr (by omega)
      · rw [hrd, wrap64_id (n := s.f0 + s.f1) (by omega) (by omega), wrap64_id (n := j + 1) (by omega) (by omega)]
        exact Evt.pos (by omega) (Evt.pos (by omega) (Evt.pos (by omega) (Evt.neg (by omega) (Evt.pos (by omega) (Evt.pos (by omega) (k5 v hv))))))
theorem ref_take_go (l : List Sp) (size : Int) (h2 : size ≤ 8192) (ho : OkL size l) (hlen : l.length ≤ 1000000) :
    ∀ (r d : List Sp) (n : Int) (a b : List Sp) (o t : List Bool), l = d ++ r → 0 ≤ n → n < 4611686018427387904 → o.length = 8192 → t.length = 8192 → (∀ x, 0 ≤ x → (rdOf false o x = true ↔ 0 < cnt a x)) → (∀ x, 0 ≤ x → (rdOf false t x = true ↔ 0 < cnt b x)) →
      ∃ o' t' : List Bool, o'.length = 8192 ∧ t'.length = 8192 ∧ (∀ x, 0 ≤ x → (rdOf false o' x = true ↔ 0 < cnt (r.foldl takeStep (n, a, b)).2.1 x)) ∧ (∀ x, 0 ≤ x → (rdOf false t' x = true ↔ 0 < cnt (r.foldl takeStep (n, a, b)).2.2 x)) ∧
        ∀ u v, Evt (fun k => rootcellarref5_row.f k o') u → Evt (fun k => rootcellarref5_row.f k t') v → Evt (fun k => rootcellarref5_Take.l0 k l n o t (d.length : Int)) (u, v, true)
  | [], d, n, a, b, o, t, hl, _, _, ol, tl, oa, tb => by
    rw [List.append_nil] at hl
    subst hl
    refine ⟨o, t, ol, tl, oa, tb, fun u v hu hv => Evt.step (fun k => by rw [rootcellarref5_Take.l0]) ?_⟩
    exact Evt.neg (by omega) (Evt.bind hu (Evt.bind hv (Evt.val _)))
  | s :: r, d, n, a, b, o, t, hl, hn0, hnb, ol, tl, oa, tb => by
    have hso := ho s (by rw [hl]; simp)
    have hdl : d.length < l.length := by rw [hl]; simp
    have hrd : rd_T32 l (d.length : Int) = s := by rw [hl]; exact rd_mid d s r
    obtain ⟨m, m1, m2, m3, m4, m5⟩ := takeStep_ok h2 hso hn0 hnb a b
    obtain ⟨o', t', k1, k2, k3, k4, k5⟩ := ref_fill l d s r size h2 hl hso hlen _ s.f0 n m o t rfl (Int.le_refl _) (by have := hso.1; omega) ol tl m1 m2 hnb (by omega) (by omega)
    obtain ⟨o2, t2, j1, j2, j3, j4, j5⟩ := ref_take_go l size h2 ho hlen r (d ++ [s]) (n - m) (a ++ (if 0 < m then [⟨s.f0, m⟩] else [])) (b ++ (if m < s.f1 then [⟨s.f0 + m, s.f1 - m⟩] else [])) o' t' (by rw [hl]; simp) (by omega) (by omega) k1 k2
      (fun x hx => by
        rw [k3 x hx, oa x hx, cnt_append]
        split
        · rw [cnt_one]; simp only; split <;> omega
        · rw [cnt_nil]; omega)
      (fun x hx => by
        rw [k4 x hx, tb x hx, cnt_append]
        split
        · rw [cnt_one]; simp only; split <;> omega
        · rw [cnt_nil]; omega)
    rw [show (d ++ [s]).length = d.length + 1 by simp] at j5
    refine ⟨o2, t2, j1, j2, fun x hx => by rw [List.foldl_cons, m5]; exact j3 x hx, fun x hx => by rw [List.foldl_cons, m5]; exact j4 x hx, fun u v hu hv => Evt.step (fun k => by rw [rootcellarref5_Take.l0]) ?_⟩
    rw [hrd]
    exact Evt.pos (by omega) (Evt.pos (by omega) (k5 _ (j5 u v hu hv)))
theorem len_tot {size : Int} (h1 : 0 ≤ size) (h2 : size ≤ 8192) {l : List Sp} (ho : OkL size l) (hlen : l.length ≤ 100000) : sumF l ≤ 819200000 := by
  have h := (sumF_bound ho h1).2
  have hp : size * (l.length : Int) ≤ 8192 * 100000 := Int.mul_le_mul h2 (by omega) (by omega) (by omega)
  omega
theorem takeF_len {size : Int} (h1 : 0 ≤ size) (h2 : size ≤ 8192) {l : List Sp} (n : Int) (ho : OkL size l) (hlen : l.length ≤ 100000) : (takeF l n).1.length ≤ l.length ∧ (takeF l n).2.1.length ≤ l.length := by
  by_cases h : n < 0 ∨ totF l < n
  · unfold takeF; rw [if_pos h]; simp
  · have ht := totF_sum h1 h2 ho (by omega)
    have hsb := len_tot h1 h2 ho hlen
    rw [takeF_ok h2 ho (by omega) (by omega) (by omega)]
    exact tk_len l n
theorem reftake_ev {size : Int} (h1 : 0 ≤ size) (h2 : size ≤ 8192) {l : List Sp} {n : Int} (ho : OkL size l) (hc : Canon l) (hlen : l.length ≤ 100000) : Evt (fun k => rootcellarref5_Take.f k l n) (takeF l n) := by
  have ht := totF_sum h1 h2 ho (by omega)
  have hsb := len_tot h1 h2 ho hlen
  unfold rootcellarref5_Take.f
  by_cases hn : n < 0
  · refine Evt.pos hn (Evt.step (fun k => by rw [rootcellarref5_Take.j0]) (Evt.pos rfl (Evt.val' ?_)))
    unfold takeF
    rw [if_pos (.inl hn)]
  · refine Evt.neg hn (Evt.bind (reftotal_ev l (by omega)) (Evt.step (fun k => by rw [rootcellarref5_Take.j0]) ?_))
    by_cases hgt : totF l < n
    · refine Evt.pos (by simpa using hgt) (Evt.val' ?_)
      unfold takeF
      rw [if_pos (.inr hgt)]
    · have hnb : n < 4611686018427387904 := by omega
      refine Evt.neg (by simpa using hgt) (Evt.pos (by decide) ?_)
      obtain ⟨o, t, k1, k2, k3, k4, k5⟩ := ref_take_go l size h2 ho (by omega) l [] n [] [] (List.replicate 8192 false) (List.replicate 8192 false) rfl (by omega) hnb List.length_replicate List.length_replicate (fun x _ => by rw [bit_rep, cnt_nil]; simp) (fun x _ => by rw [bit_rep, cnt_nil]; simp)
      have hf := takeStep_fold h2 l n [] [] ho (by omega) hnb
      rw [hf] at k3 k4
      simp only [List.nil_append] at k3 k4
      obtain ⟨p1, p2, p3, p4, p5, p6, p7, _⟩ := tk_spec l n ho hc (by omega) (by omega)
      obtain ⟨u, u1, u2, u3, u4⟩ := row_ev o (by omega)
      obtain ⟨v, v1, v2, v3, v4⟩ := row_ev t (by omega)
      rw [takeF_ok h2 ho (by omega) hnb (by omega)]
      have eu : u = (tk n l).1 := canon_unique (size := 8192) (by rw [k1] at u2; exact u2) (OkL.mono h2 p1) u3 p2 fun x => by
        rw [u4, k1]
        have c1 := cnt_dis p1 p2.dis x
        by_cases hx : 0 ≤ x ∧ x < size
        · have := k3 x hx.1
          split
          · rename_i hh
            have := this.1 hh.2.2
            omega
          · rename_i hh
            have : ¬ rdOf false o x = true := fun k => hh ⟨hx.1, by omega, k⟩
            have := mt (k3 x hx.1).2 this
            omega
        · have c0 := cnt_out p1 (x := x) (by omega)
          rw [c0]
          refine if_neg fun hh => ?_
          have := (k3 x hh.1).1 hh.2.2
          omega
      have ev : v = (tk n l).2 := canon_unique (size := 8192) (by rw [k2] at v2; exact v2) (OkL.mono h2 p3) v3 p4 fun x => by
        rw [v4, k2]
        have c1 := cnt_dis p3 p4.dis x
        by_cases hx : 0 ≤ x ∧ x < size
        · have := k4 x hx.1
          split
          · rename_i hh
            have := this.1 hh.2.2
            omega
          · rename_i hh
            have : ¬ rdOf false t x = true := fun k => hh ⟨hx.1, by omega, k⟩
            have := mt (k4 x hx.1).2 this
            omega
        · have c0 := cnt_out p3 (x := x) (by omega)
          rw [c0]
          refine if_neg fun hh => ?_
          have := (k4 x hh.1).1 hh.2.2
          omega
      have := k5 u v u1 v1
      rw [eu, ev] at this
      exact this
end Go.Proofs.Ytjmplchknbgmgaa.Th
