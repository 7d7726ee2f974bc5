import Derived.Test.YtjmplchknbgmgaaPSpanx13
import Derived.Test.YtjmplchknbgmgaaPureTh
import Derived.Test.YtjmplchknbgmgaaPureEv
namespace Go.Proofs.Ytjmplchknbgmgaa.Th
open Go.RowKit Go.Proofs.Ytjmplchknbgmgaa.PSpan Go.Proofs.YtjmplchknbgmgaaW.PrintWords Go.Proofs.YtjmplchknbgmgaaW.PrintLast Go.Proofs.YtjmplchknbgmgaaW.PrintMore
set_option linter.unusedVariables false
set_option linter.unusedSimpArgs false
/-! ### same -/
theorem same_self (l : List Sp) (hl : l.length < 8796093022208) : Evt (fun k => rootcellarlaw5_same.f k l l) true := by
  unfold rootcellarlaw5_same.f
  refine Evt.pos rfl ?_
  have key : ∀ n i : Nat, l.length - i = n → i ≤ l.length → Evt (fun k => rootcellarlaw5_same.l0 k l l (i : Int)) true := by
    intro n
    induction n with
    | zero =>
      intro i hn hi
      refine Evt.step (fun k => by rw [rootcellarlaw5_same.l0]) ?_
      exact Evt.neg (by omega) (Evt.val _)
    | succ n ih =>
      intro i hn hi
      refine Evt.step (fun k => by rw [rootcellarlaw5_same.l0]) ?_
      refine Evt.pos (by omega) (Evt.pos (by omega) (Evt.pos (by omega) (Evt.neg (by simp) ?_)))
      rw [wrap64_id (by omega) (by omega)]
      exact ih (i + 1) (by omega) (by omega)
  exact key _ 0 rfl (Nat.zero_le _)
/-! ### Total -/
def totStep (n : Int) (s : Sp) : Int := wrap64 (n + mx s.f1 0)
def totF (l : List Sp) : Int := l.foldl totStep 0
theorem total_ev (l : List Sp) (hl : l.length < 8796093022208) : Evt (fun k => span_Total.f k l) (totF l) := by
  unfold span_Total.f
  have key : ∀ n i : Nat, ∀ x : Int, l.length - i = n → i ≤ l.length → Evt (fun k => span_Total.l0 k x l (l.length : Int) (i : Int)) ((l.drop i).foldl totStep x) := by
    intro n
    induction n with
    | zero =>
      intro i x hn hi
      refine Evt.step (fun k => by rw [span_Total.l0]) ?_
      refine Evt.neg (by omega) (Evt.val' ?_)
      rw [List.drop_eq_nil_of_le (by omega)]; rfl
    | succ n ih =>
      intro i x hn hi
      refine Evt.step (fun k => by rw [span_Total.l0]) ?_
      refine Evt.pos (by omega) (Evt.pos (by omega) (Evt.pos (by omega) ?_))
      have hlt : i < l.length := by omega
      rw [wrap64_id (n := (i : Int) + 1) (by omega) (by omega), rd_T32_get l i hlt, List.drop_eq_getElem_cons hlt]
      exact ih (i + 1) _ (by omega) (by omega)
  exact key _ 0 0 rfl (Nat.zero_le _)
def sumF : List Sp → Int
  | [] => 0
  | s :: t => s.f1 + sumF t
theorem sumF_append (a b : List Sp) : sumF (a ++ b) = sumF a + sumF b := by
  induction a with
  | nil => simp [sumF]
  | cons s t ih => simp only [List.cons_append, sumF, ih]; omega
theorem sumF_bound {size : Int} {l : List Sp} (h : OkL size l) (hs : 0 ≤ size) : 0 ≤ sumF l ∧ sumF l ≤ size * l.length := by
  induction l with
  | nil => simp [sumF]
  | cons s t ih =>
    obtain ⟨i1, i2⟩ := ih h.tail
    obtain ⟨s1, s2, s3⟩ := h.head
    have e : size * ((s :: t).length : Int) = size * (t.length : Int) + size := by rw [List.length_cons, Int.natCast_add, Int.mul_add]; simp
    rw [e]
    simp only [sumF]
    omega
theorem totF_sum {size : Int} (h1 : 0 ≤ size) (h2 : size ≤ 8192) {l : List Sp} (h : OkL size l) (hl : l.length < 1000000) : totF l = sumF l := by
  have key : ∀ (l : List Sp) (x : Int), OkL size l → 0 ≤ x → x + size * l.length < 9223372036854775808 → l.foldl totStep x = x + sumF l := by
    intro l
    induction l with
    | nil => intro x _ _ _; simp [sumF]
    | cons s t ih =>
      intro x ho hx hb
      obtain ⟨s1, s2, s3⟩ := ho.head
      have e : size * ((s :: t).length : Int) = size * (t.length : Int) + size := by rw [List.length_cons, Int.natCast_add, Int.mul_add]; simp
      rw [e] at hb
      have hp : 0 ≤ size * (t.length : Int) := Int.mul_nonneg h1 (by omega)
      have hst : totStep x s = x + s.f1 := by
        unfold totStep mx
        rw [if_neg (by omega)]
        exact wrap64_id (by omega) (by omega)
      rw [List.foldl_cons, hst, ih _ ho.tail (by omega) (by omega)]
      simp only [sumF]
      omega
  have hp : size * (l.length : Int) ≤ 8192 * 1000000 := Int.mul_le_mul h2 (by omega) (by omega) (by omega)
  unfold totF
  rw [key l 0 h (Int.le_refl _) (by omega)]
  omega
/-! ### Take -/
def takeStep (st : Int × List Sp × List Sp) (s : Sp) : Int × List Sp × List Sp :=
  (wrap64 (st.1 - mn st.1 s.f1), (if mn st.1 s.f1 > 0 then st.2.1 ++ [⟨s.f0, mn st.1 s.f1⟩] else st.2.1), (if mn st.1 s.f1 < s.f1 then st.2.2 ++ [⟨wrap64 (s.f0 + mn st.1 s.f1), wrap64 (s.f1 - mn st.1 s.f1)⟩] else st.2.2))
theorem takeStep_len (st : Int × List Sp × List Sp) (s : Sp) : (takeStep st s).2.1.length ≤ st.2.1.length + 1 ∧ (takeStep st s).2.2.length ≤ st.2.2.length + 1 := by
  unfold takeStep
  constructor
  · simp only; split <;> simp
  · simp only; split <;> simp
def takeF (l : List Sp) (n : Int) : List Sp × List Sp × Bool :=
  if n < 0 ∨ totF l < n then ([], [], false) else ((l.foldl takeStep (n, [], [])).2.1, (l.foldl takeStep (n, [], [])).2.2, true)
theorem take_ev (l : List Sp) (n : Int) (hl : l.length < 8796093000000) : Evt (fun k => span_Take.f k l n) (takeF l n) := by
  unfold span_Take.f takeF
  by_cases h1 : n < 0
  · refine Evt.pos h1 (Evt.step (fun k => by rw [span_Take.j0]) (Evt.pos rfl (Evt.val' ?_)))
    rw [if_pos (.inl h1)]
  · refine Evt.neg h1 (Evt.bind (total_ev l (by omega)) (Evt.step (fun k => by rw [span_Take.j0]) ?_))
    by_cases h2 : totF l < n
    · refine Evt.pos (by simpa using h2) (Evt.val' ?_)
      rw [if_pos (.inr h2)]
    · refine Evt.neg (by simpa using h2) ?_
      rw [if_neg (by omega)]
      have key : ∀ m i : Nat, ∀ st : Int × List Sp × List Sp, l.length - i = m → i ≤ l.length → st.2.1.length ≤ i → st.2.2.length ≤ i →
          Evt (fun k => span_Take.l0 k st.1 st.2.1 st.2.2 l (l.length : Int) (i : Int)) (((l.drop i).foldl takeStep st).2.1, ((l.drop i).foldl takeStep st).2.2, true) := by
        intro m
        induction m with
        | zero =>
          intro i st hn hi _ _
          refine Evt.step (fun k => by rw [span_Take.l0]) (Evt.neg (by omega) (Evt.val' ?_))
          rw [List.drop_eq_nil_of_le (by omega)]; rfl
        | succ m ih =>
          intro i st hn hi g1 g2
          have hlt : i < l.length := by omega
          have hi' : i < 8796093022208 := by omega
          have g1' : st.2.1.length < 8796093022208 := Nat.lt_of_le_of_lt g1 hi'
          have g2' : st.2.2.length < 8796093022208 := Nat.lt_of_le_of_lt g2 hi'
          have hrec := ih (i + 1) (takeStep st l[i]) (by omega) (by omega) (Nat.le_trans (takeStep_len st l[i]).1 (Nat.succ_le_succ g1)) (Nat.le_trans (takeStep_len st l[i]).2 (Nat.succ_le_succ g2))
          rw [List.drop_eq_getElem_cons hlt, List.foldl_cons]
          generalize hR : (((l.drop (i + 1)).foldl takeStep (takeStep st l[i])).2.1, ((l.drop (i + 1)).foldl takeStep (takeStep st l[i])).2.2, true) = R at hrec ⊢
          have j2 : ∀ a : List Sp, a = (takeStep st l[i]).2.1 → Evt (fun k => span_Take.j2 k (wrap64 (st.1 - mn st.1 l[i].f1)) a st.2.2 (mn st.1 l[i].f1) l (l.length : Int) (i : Int) l[i].f0 l[i].f1) R := by
            intro a ea
            refine Evt.step (fun k => by rw [span_Take.j2]) ?_
            have hw : wrap64 ((i : Int) + 1) = ((i + 1 : Nat) : Int) := by rw [wrap64_id (by omega) (by omega)]; rfl
            by_cases c : mn st.1 l[i].f1 < l[i].f1
            · refine Evt.pos c (Evt.pos g2' ?_)
              rw [hw, ea]
              have e2 : (takeStep st l[i]).2.2 = st.2.2 ++ [⟨wrap64 (l[i].f0 + mn st.1 l[i].f1), wrap64 (l[i].f1 - mn st.1 l[i].f1)⟩] := by unfold takeStep; exact if_pos c
              rw [← e2]
              exact hrec
            · refine Evt.neg c ?_
              rw [hw, ea]
              have e2 : (takeStep st l[i]).2.2 = st.2.2 := by unfold takeStep; exact if_neg c
              rw [← e2]
              exact hrec
          refine Evt.step (fun k => by rw [span_Take.l0]) ?_
          refine Evt.pos (by omega) (Evt.pos (by omega) (Evt.pos (by omega) ?_))
          rw [rd_T32_get l i hlt]
          by_cases c : mn st.1 l[i].f1 > 0
          · exact Evt.pos c (Evt.pos g1' (j2 _ (by unfold takeStep; exact (if_pos c).symm)))
          · exact Evt.neg c (j2 _ (by unfold takeStep; exact (if_neg c).symm))
      exact key _ 0 (n, [], []) rfl (Nat.zero_le _) (by simp) (by simp)
/-! ### What Take tells of a right row -/
def tk : Int → List Sp → List Sp × List Sp
  | _, [] => ([], [])
  | n, s :: t => if n ≤ 0 then ([], s :: t) else if n < s.f1 then ([⟨s.f0, n⟩], ⟨s.f0 + n, s.f1 - n⟩ :: t) else (s :: (tk (n - s.f1) t).1, (tk (n - s.f1) t).2)
theorem tk_zero {n : Int} (h : n ≤ 0) (l : List Sp) : tk n l = ([], l) := by
  cases l with
  | nil => rfl
  | cons s t => unfold tk; rw [if_pos h]
theorem takeStep_fold {size : Int} (h2 : size ≤ 8192) : ∀ (l : List Sp) (n : Int) (a b : List Sp), OkL size l → 0 ≤ n → n < 4611686018427387904 →
    (l.foldl takeStep (n, a, b)).2 = (a ++ (tk n l).1, b ++ (tk n l).2)
  | [], n, a, b, _, _, _ => by simp [tk]
  | s :: t, n, a, b, h, h0, hb => by
    obtain ⟨s1, s2, s3⟩ := h.head
    rw [List.foldl_cons]
    unfold tk
    by_cases hn : n ≤ 0
    · have e0 : n = 0 := by omega
      subst e0
      have hm : mn 0 s.f1 = 0 := by unfold mn; rw [if_neg (by omega)]
      have hst : takeStep (0, a, b) s = (0, a, b ++ [s]) := by
        unfold takeStep
        simp only [hm]
        rw [if_neg (by omega), if_pos (by omega), wrap64_id (n := 0 - 0) (by omega) (by omega), wrap64_id (n := s.f0 + 0) (by omega) (by omega), wrap64_id (n := s.f1 - 0) (by omega) (by omega)]
        simp
      rw [hst, takeStep_fold h2 t 0 a _ h.tail (by omega) (by omega), if_pos hn, tk_zero (Int.le_refl _)]
      simp
    · rw [if_neg hn]
      by_cases hlt : n < s.f1
      · have hm : mn n s.f1 = n := by unfold mn; rw [if_neg (by omega)]
        have hst : takeStep (n, a, b) s = (0, a ++ [⟨s.f0, n⟩], b ++ [⟨s.f0 + n, s.f1 - n⟩]) := by
          unfold takeStep
          simp only [hm]
          rw [if_pos (by omega), if_pos (by omega), wrap64_id (n := n - n) (by omega) (by omega), wrap64_id (n := s.f0 + n) (by omega) (by omega), wrap64_id (n := s.f1 - n) (by omega) (by omega)]
          simp
        rw [hst, takeStep_fold h2 t 0 _ _ h.tail (by omega) (by omega), if_pos hlt, tk_zero (Int.le_refl _)]
        simp
      · have hm : mn n s.f1 = s.f1 := by unfold mn; split <;> omega
        have hst : takeStep (n, a, b) s = (n - s.f1, a ++ [s], b) := by
          unfold takeStep
          simp only [hm]
          rw [if_pos (by omega), if_neg (by omega), wrap64_id (by omega) (by omega)]
        rw [hst, takeStep_fold h2 t _ _ _ h.tail (by omega) (by omega), if_neg hlt]
        simp
theorem takeF_ok {size : Int} (h2 : size ≤ 8192) {l : List Sp} {n : Int} (ho : OkL size l) (h0 : 0 ≤ n) (hb : n < 4611686018427387904) (ht : n ≤ totF l) : takeF l n = ((tk n l).1, (tk n l).2, true) := by
  unfold takeF
  rw [if_neg (by omega)]
  have := takeStep_fold h2 l n [] [] ho h0 hb
  rw [this]
  simp
theorem tk_spec {size : Int} : ∀ (l : List Sp) (n : Int), OkL size l → Canon l → 0 ≤ n → n ≤ sumF l →
    OkL size (tk n l).1 ∧ Canon (tk n l).1 ∧ OkL size (tk n l).2 ∧ Canon (tk n l).2 ∧ (∀ x, cnt (tk n l).1 x + cnt (tk n l).2 x = cnt l x) ∧ sumF (tk n l).1 = n ∧ sumF (tk n l).2 = sumF l - n ∧
    (∀ a ∈ (tk n l).1, ∃ s ∈ l, a.f0 = s.f0) ∧ (∀ a ∈ (tk n l).1, ∀ b ∈ (tk n l).2, a.f0 + a.f1 ≤ b.f0) ∧ (∀ a ∈ (tk n l).2, ∃ s ∈ l, s.f0 ≤ a.f0)
  | [], n, _, _, h0, hn => by
    simp only [sumF] at hn
    simp only [tk, sumF]
    exact ⟨OkL.nil, List.Pairwise.nil, OkL.nil, List.Pairwise.nil, fun x => rfl, by omega, by omega, fun _ h => (nomatch h), fun _ h => (nomatch h), fun _ h => (nomatch h)⟩
  | s :: t, n, ho, hc, h0, hn => by
    obtain ⟨c1, c2⟩ := List.pairwise_cons.1 hc
    obtain ⟨s1, s2, s3⟩ := ho.head
    unfold tk
    by_cases hz : n ≤ 0
    · rw [if_pos hz]
      refine ⟨OkL.nil, List.Pairwise.nil, ho, hc, fun x => by show cnt [] x + cnt (s :: t) x = _; rw [cnt_nil]; omega, by simp only [sumF]; omega, by show sumF (s :: t) = sumF (s :: t) - n; omega, fun _ h => (nomatch h), fun _ h => (nomatch h), fun a h => ⟨a, h, Int.le_refl _⟩⟩
    · rw [if_neg hz]
      by_cases hlt : n < s.f1
      · rw [if_pos hlt]
        refine ⟨OkL.cons ⟨by show 0 < n; omega, s2, by show s.f0 + n ≤ size; omega⟩ OkL.nil, List.pairwise_singleton _ _, OkL.cons ⟨by show 0 < s.f1 - n; omega, by show 0 ≤ s.f0 + n; omega, by show s.f0 + n + (s.f1 - n) ≤ size; omega⟩ ho.tail,
          List.Pairwise.cons (fun b hb => by have := c1 b hb; show s.f0 + n + (s.f1 - n) < b.f0; omega) c2, fun x => ?_, by simp only [sumF]; omega, by simp only [sumF]; omega, fun a h => ?_, fun a h b hb => ?_, fun a h => ?_⟩
        · rw [cnt_one, cnt_cons, cnt_cons]
          simp only
          split <;> split <;> split <;> omega
        · obtain rfl := List.mem_singleton.1 h
          exact ⟨s, List.mem_cons_self .., rfl⟩
        · obtain rfl := List.mem_singleton.1 h
          show s.f0 + n ≤ b.f0
          rcases List.mem_cons.1 hb with rfl | hb
          · exact Int.le_refl _
          · have := c1 b hb; omega
        · rcases List.mem_cons.1 h with rfl | h
          · exact ⟨s, List.mem_cons_self .., by show s.f0 ≤ s.f0 + n; omega⟩
          · exact ⟨a, List.mem_cons_of_mem _ h, Int.le_refl _⟩
      · rw [if_neg hlt]
        have hn' : n - s.f1 ≤ sumF t := by simp only [sumF] at hn; omega
        obtain ⟨k1, k2, k3, k4, k5, k6, k7, k8, k9, k10⟩ := tk_spec t (n - s.f1) ho.tail c2 (by omega) hn'
        refine ⟨OkL.cons ho.head k1, List.Pairwise.cons (fun b hb => by obtain ⟨u, hu, e⟩ := k8 b hb; have := c1 u hu; omega) k2, k3, k4, fun x => ?_, by simp only [sumF]; omega, by simp only [sumF]; omega, fun a h => ?_, fun a h b hb => ?_, fun a h => ?_⟩
        · have := k5 x
          show cnt (s :: (tk (n - s.f1) t).1) x + cnt (tk (n - s.f1) t).2 x = cnt (s :: t) x
          rw [cnt_cons, cnt_cons s t]
          omega
        · rcases List.mem_cons.1 h with rfl | h
          · exact ⟨_, List.mem_cons_self .., rfl⟩
          · obtain ⟨u, hu, e⟩ := k8 a h
            exact ⟨u, List.mem_cons_of_mem _ hu, e⟩
        · rcases List.mem_cons.1 h with rfl | h
          · obtain ⟨u, hu, e⟩ := k10 b hb
            have := c1 u hu
            omega
          · exact k9 a h b hb
        · obtain ⟨u, hu, e⟩ := k10 a h
          exact ⟨u, List.mem_cons_of_mem _ hu, e⟩
theorem tk_len (l : List Sp) : ∀ n : Int, (tk n l).1.length ≤ l.length ∧ (tk n l).2.length ≤ l.length := by
  induction l with
  | nil => intro n; simp [tk]
  | cons s t ih =>
    intro n
    unfold tk
    split
    · simp
    · split
      · simp
      · have := ih (n - s.f1)
        simp only [List.length_cons]
        omega
/-! ### How many sectors -/
theorem sum_map_zero {α : Type} (f : α → Nat) (l : List α) (h : ∀ x ∈ l, f x = 0) : (l.map f).sum = 0 := by
  induction l with
  | nil => rfl
  | cons x t ih => rw [List.map_cons, List.sum_cons, h x (by simp), ih fun y hy => h y (by simp [hy])]
theorem cnt_sum_one (a b : Int) : ∀ n : Nat, 0 ≤ a → a ≤ b → b ≤ n → ((List.range n).map fun (i : Nat) => (if a ≤ (i : Int) ∧ (i : Int) < b then 1 else 0 : Nat)).sum = (b - a).toNat := by
  intro n
  induction n generalizing b with
  | zero => intro h1 h2 h3; simp; omega
  | succ n ih =>
    intro h1 h2 h3
    rw [List.range_succ, List.map_append, List.sum_append]
    simp only [List.map_cons, List.map_nil, List.sum_cons, List.sum_nil]
    by_cases hb : b ≤ n
    · rw [ih b h1 h2 hb, if_neg (by omega)]
      rfl
    · by_cases ha : a ≤ n
      · have e := ih n h1 ha (Int.le_refl _)
        have e2 : ((List.range n).map fun (i : Nat) => (if a ≤ (i : Int) ∧ (i : Int) < b then 1 else 0 : Nat)) = ((List.range n).map fun (i : Nat) => (if a ≤ (i : Int) ∧ (i : Int) < (n : Int) then 1 else 0 : Nat)) := by
          refine List.map_congr_left fun i hi => ?_
          have := List.mem_range.1 hi
          congr 1
          simp only [eq_iff_iff]
          omega
        rw [e2, e, if_pos (by omega)]
        omega
      · have e : a = b := by omega
        subst e
        have e2 : ((List.range n).map fun (i : Nat) => (if a ≤ (i : Int) ∧ (i : Int) < a then 1 else 0 : Nat)).sum = 0 := sum_map_zero _ _ fun i _ => if_neg (by omega)
        rw [e2, if_neg (by omega)]
        omega
theorem sum_map_add {α : Type} (f g : α → Nat) (l : List α) : (l.map fun x => f x + g x).sum = (l.map f).sum + (l.map g).sum := by
  induction l with
  | nil => rfl
  | cons x t ih => simp only [List.map_cons, List.sum_cons, ih]; omega
theorem cnt_sum {size : Int} : ∀ {l : List Sp}, OkL size l → ((List.range size.toNat).map fun (i : Nat) => cnt l (i : Int)).sum = (sumF l).toNat ∧ 0 ≤ sumF l
  | [], _ => by
    refine ⟨?_, Int.le_refl _⟩
    exact sum_map_zero _ _ fun i _ => cnt_nil _
  | s :: t, h => by
    obtain ⟨e, h0⟩ := cnt_sum h.tail
    obtain ⟨s1, s2, s3⟩ := h.head
    have e1 := cnt_sum_one s.f0 (s.f0 + s.f1) size.toNat s2 (by omega) (by omega)
    have : ((List.range size.toNat).map fun (i : Nat) => cnt (s :: t) (i : Int)) = ((List.range size.toNat).map fun (i : Nat) => (if s.f0 ≤ (i : Int) ∧ (i : Int) < s.f0 + s.f1 then 1 else 0) + cnt t (i : Int)) := List.map_congr_left fun i _ => cnt_cons s t _
    rw [this, sum_map_add, e1, e]
    simp only [sumF]
    omega
theorem sumF_of_cnt {size : Int} {a b : List Sp} (ha : OkL size a) (hb : OkL size b) (h : ∀ x, cnt a x = cnt b x) : sumF a = sumF b := by
  obtain ⟨a1, a2⟩ := cnt_sum ha
  obtain ⟨b1, b2⟩ := cnt_sum hb
  have : ((List.range size.toNat).map fun (i : Nat) => cnt a (i : Int)) = ((List.range size.toNat).map fun (i : Nat) => cnt b (i : Int)) := List.map_congr_left fun i _ => h _
  rw [this, b1] at a1
  omega
theorem sum_const_one (n : Nat) : ((List.range n).map fun _ => 1).sum = n := by
  induction n with
  | zero => rfl
  | succ n ih => rw [List.range_succ, List.map_append, List.sum_append, ih]; rfl
theorem sumF_compl {size : Int} (h1 : 0 ≤ size) {a b : List Sp} (ha : OkL size a) (hb : OkL size b) (h : ∀ x, cnt b x + cnt a x = if 0 ≤ x ∧ x < size then 1 else 0) : sumF a + sumF b = size := by
  obtain ⟨a1, a2⟩ := cnt_sum ha
  obtain ⟨b1, b2⟩ := cnt_sum hb
  have e := sum_map_add (fun (i : Nat) => cnt a (i : Int)) (fun (i : Nat) => cnt b (i : Int)) (List.range size.toNat)
  have e2 : ((List.range size.toNat).map fun (i : Nat) => cnt a (i : Int) + cnt b (i : Int)) = ((List.range size.toNat).map fun _ => 1) := List.map_congr_left fun i hi => by
    have := List.mem_range.1 hi
    have := h (i : Int)
    rw [if_pos (by omega)] at this
    omega
  rw [e2, sum_const_one, a1, b1] at e
  omega
/-- Right rows are no longer than they have sectors. -/
theorem len_sum {size : Int} : ∀ {l : List Sp}, OkL size l → (l.length : Int) ≤ sumF l
  | [], _ => by simp [sumF]
  | s :: t, h => by
    have := len_sum h.tail
    have := h.head.1
    simp only [List.length_cons, sumF]
    omega
theorem len_canon {size : Int} (h0 : 0 ≤ size) {l : List Sp} (h : OkL size l) (hd : ∀ x, cnt l x ≤ 1) : (l.length : Int) ≤ size := by
  have h1 := len_sum h
  obtain ⟨a1, a2⟩ := cnt_sum h
  have : ((List.range size.toNat).map fun (i : Nat) => cnt l (i : Int)).sum ≤ ((List.range size.toNat).map fun _ => 1).sum := by
    generalize List.range size.toNat = r
    induction r with
    | nil => simp
    | cons i t ih => simp only [List.map_cons, List.sum_cons]; have := hd (i : Int); omega
  rw [a1, sum_const_one] at this
  omega
end Go.Proofs.Ytjmplchknbgmgaa.Th
