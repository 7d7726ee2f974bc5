import Derived.Test.YtjmplchknbgmgaaPSpanx10
import Derived.Test.YtjmplchknbgmgaaPSpanx6
import Derived.Test.YtjmplchknbgmgaaPSpanx5
import Derived.Test.YtjmplchknbgmgaaPSpanx12
import Derived.Test.YtjmplchknbgmgaaPSpanx14
namespace Go.Proofs.Ytjmplchknbgmgaa.Th
open Go.RowKit Go.Proofs.Ytjmplchknbgmgaa.PSpan
set_option linter.unusedVariables false
set_option linter.unusedSimpArgs false
abbrev Sp := S32
/-! ### Sectors, counted -/
def cnt (l : List Sp) (x : Int) : Nat := l.countP fun s => decide (s.f0 ≤ x ∧ x < s.f0 + s.f1)
theorem cnt_nil (x : Int) : cnt [] x = 0 := rfl
theorem cnt_cons (s : Sp) (t : List Sp) (x : Int) : cnt (s :: t) x = (if s.f0 ≤ x ∧ x < s.f0 + s.f1 then 1 else 0) + cnt t x := by
  unfold cnt; rw [List.countP_cons]; simp only [decide_eq_true_eq]; omega
theorem cnt_append (a b : List Sp) (x : Int) : cnt (a ++ b) x = cnt a x + cnt b x := List.countP_append
theorem cnt_perm {a b : List Sp} (h : a.Perm b) (x : Int) : cnt a x = cnt b x := h.countP_eq _
theorem cnt_one (s : Sp) (x : Int) : cnt [s] x = if s.f0 ≤ x ∧ x < s.f0 + s.f1 then 1 else 0 := by rw [cnt_cons, cnt_nil]; omega
theorem cnt_pos {l : List Sp} {x : Int} : 0 < cnt l x ↔ ∃ s ∈ l, s.f0 ≤ x ∧ x < s.f0 + s.f1 := by
  unfold cnt; rw [List.countP_pos_iff]; simp
theorem cnt_zero {l : List Sp} {x : Int} : cnt l x = 0 ↔ ∀ s ∈ l, ¬ (s.f0 ≤ x ∧ x < s.f0 + s.f1) := by
  unfold cnt; rw [List.countP_eq_zero]; simp
theorem cnt_mem {l : List Sp} {s : Sp} (h : s ∈ l) {x : Int} (h1 : s.f0 ≤ x) (h2 : x < s.f0 + s.f1) : 0 < cnt l x := cnt_pos.2 ⟨s, h, h1, h2⟩
/-! ### Rows that are right -/
def Ok (size : Int) (s : Sp) : Prop := 0 < s.f1 ∧ 0 ≤ s.f0 ∧ s.f0 + s.f1 ≤ size
def OkL (size : Int) (l : List Sp) : Prop := ∀ s ∈ l, Ok size s
def Canon (l : List Sp) : Prop := l.Pairwise fun a b => a.f0 + a.f1 < b.f0
def Dis (l : List Sp) : Prop := l.Pairwise fun a b => a.f0 + a.f1 ≤ b.f0
theorem OkL.nil {size : Int} : OkL size [] := fun _ h => nomatch h
theorem OkL.cons {size : Int} {s : Sp} {t : List Sp} (h : Ok size s) (k : OkL size t) : OkL size (s :: t) := fun u hu => by
  rcases List.mem_cons.1 hu with rfl | hu
  · exact h
  · exact k u hu
theorem OkL.append {size : Int} {a b : List Sp} (h : OkL size a) (k : OkL size b) : OkL size (a ++ b) := fun u hu => by
  rcases List.mem_append.1 hu with hu | hu
  · exact h u hu
  · exact k u hu
theorem OkL.tail {size : Int} {s : Sp} {t : List Sp} (h : OkL size (s :: t)) : OkL size t := fun u hu => h u (List.mem_cons_of_mem _ hu)
theorem OkL.head {size : Int} {s : Sp} {t : List Sp} (h : OkL size (s :: t)) : Ok size s := h s (List.mem_cons_self ..)
theorem OkL.perm {size : Int} {a b : List Sp} (h : OkL size a) (p : a.Perm b) : OkL size b := fun u hu => h u (p.mem_iff.2 hu)
theorem Canon.dis {l : List Sp} (h : Canon l) : Dis l := h.imp fun h => by omega
theorem Sp.ext' {a b : Sp} (h0 : a.f0 = b.f0) (h1 : a.f1 = b.f1) : a = b := by cases a; cases b; simp_all
theorem cnt_out {size : Int} {l : List Sp} (h : OkL size l) {x : Int} (hx : x < 0 ∨ size ≤ x) : cnt l x = 0 := cnt_zero.2 fun s hs => by
  obtain ⟨_, _, _⟩ := h s hs
  omega
theorem cnt_dis {size : Int} : ∀ {l : List Sp}, OkL size l → Dis l → ∀ x, cnt l x ≤ 1
  | [], _, _, x => by rw [cnt_nil]; omega
  | s :: t, h, hd, x => by
    obtain ⟨h1, h2⟩ := List.pairwise_cons.1 hd
    have ih := cnt_dis h.tail h2 x
    rw [cnt_cons]
    split
    · rename_i hx
      have : cnt t x = 0 := cnt_zero.2 fun u hu => by have := h1 u hu; omega
      omega
    · omega
/-- Two right rows of the same sectors are one. -/
theorem canon_unique {size : Int} : ∀ {a b : List Sp}, OkL size a → OkL size b → Canon a → Canon b → (∀ x, cnt a x = cnt b x) → a = b
  | [], [], _, _, _, _, _ => rfl
  | [], s :: t, _, hb, _, _, h => by
    have h1 := cnt_mem (l := s :: t) (List.mem_cons_self ..) (Int.le_refl s.f0) (by have := hb.head.1; omega)
    have h2 := h s.f0
    rw [cnt_nil] at h2
    omega
  | s :: t, [], ha, _, _, _, h => by
    have h1 := cnt_mem (l := s :: t) (List.mem_cons_self ..) (Int.le_refl s.f0) (by have := ha.head.1; omega)
    have h2 := h s.f0
    rw [cnt_nil] at h2
    omega
  | s :: t, u :: v, ha, hb, ca, cb, h => by
    obtain ⟨a1, a2⟩ := List.pairwise_cons.1 ca
    obtain ⟨b1, b2⟩ := List.pairwise_cons.1 cb
    have hs := ha.head
    have hu := hb.head
    have e0 : s.f0 = u.f0 := by
      have h1 := cnt_mem (l := s :: t) (List.mem_cons_self ..) (Int.le_refl s.f0) (by have := hs.1; omega)
      have h2 := cnt_mem (l := u :: v) (List.mem_cons_self ..) (Int.le_refl u.f0) (by have := hu.1; omega)
      rw [h s.f0] at h1
      rw [← h u.f0] at h2
      obtain ⟨p, hp, p1, _⟩ := cnt_pos.1 h1
      obtain ⟨q, hq, q1, _⟩ := cnt_pos.1 h2
      have k1 : u.f0 ≤ p.f0 := by
        rcases List.mem_cons.1 hp with rfl | hp
        · omega
        · have := b1 p hp; have := hu.1; omega
      have k2 : s.f0 ≤ q.f0 := by
        rcases List.mem_cons.1 hq with rfl | hq
        · omega
        · have := a1 q hq; have := hs.1; omega
      omega
    have e1 : s.f1 = u.f1 := by
      have z1 : cnt (s :: t) (s.f0 + s.f1) = 0 := cnt_zero.2 fun p hp => by
        rcases List.mem_cons.1 hp with rfl | hp
        · omega
        · have := a1 p hp; omega
      have z2 : cnt (u :: v) (u.f0 + u.f1) = 0 := cnt_zero.2 fun p hp => by
        rcases List.mem_cons.1 hp with rfl | hp
        · omega
        · have := b1 p hp; omega
      rw [h] at z1
      rw [← h] at z2
      have y1 := cnt_zero.1 z1 u (List.mem_cons_self ..)
      have y2 := cnt_zero.1 z2 s (List.mem_cons_self ..)
      have := hs.1
      have := hu.1
      omega
    obtain rfl := Sp.ext' e0 e1
    have := canon_unique ha.tail hb.tail a2 b2 fun x => by
      have := h x
      rw [cnt_cons, cnt_cons] at this
      omega
    rw [this]
/-! ### What sorted tells -/
theorem insB_iff {size : Int} (h1 : 1 ≤ size) (h2 : size ≤ 8192) (s : Sp) : insB size s = true ↔ Ok size s := by
  constructor
  · intro h
    exact insB_spec h1 h2 h
  · rintro ⟨a, b, c⟩
    unfold insB wrap64
    simp only [Bool.and_eq_true, decide_eq_true_eq]
    omega
theorem outF_iff {size : Int} (h1 : 1 ≤ size) (h2 : size ≤ 8192) (l : List Sp) : outF size l = false ↔ OkL size l := by
  unfold outF OkL
  rw [List.any_eq_false]
  constructor
  · intro h s hs
    have := h s hs
    exact (insB_iff h1 h2 s).1 (by simpa using this)
  · intro h s hs
    have := (insB_iff h1 h2 s).2 (h s hs)
    simp [this]
theorem chkF_of_cnt {size : Int} (h2 : size ≤ 8192) : ∀ (l : List Sp) (e : Int), OkL size l → l.Pairwise (fun a b => a.f0 ≤ b.f0) → (∀ x, cnt l x ≤ 1) → (∀ s ∈ l, e ≤ s.f0) → chkF e l = true
  | [], _, _, _, _, _ => rfl
  | s :: t, e, ho, hp, hc, he => by
    obtain ⟨p1, p2⟩ := List.pairwise_cons.1 hp
    have hs := ho.head
    unfold chkF
    rw [if_neg (by have := he s (List.mem_cons_self ..); omega)]
    have hw : wrap64 (s.f0 + s.f1) = s.f0 + s.f1 := by obtain ⟨_, _, _⟩ := hs; unfold wrap64; omega
    rw [hw]
    refine chkF_of_cnt h2 t _ ho.tail p2 (fun x => by have := hc x; rw [cnt_cons] at this; omega) fun u hu => ?_
    rcases Int.lt_or_le u.f0 (s.f0 + s.f1) with hlt | hge
    · have h3 := hc u.f0
      rw [cnt_cons, if_pos ⟨p1 u hu, hlt⟩] at h3
      have h4 := cnt_mem hu (Int.le_refl u.f0) (by have := (ho.tail u hu).1; omega)
      omega
    · exact hge
theorem dis_of_chkF {size : Int} (h2 : size ≤ 8192) : ∀ (l : List Sp) (e : Int), OkL size l → chkF e l = true → Dis l ∧ ∀ s ∈ l, e ≤ s.f0
  | [], _, _, _ => ⟨List.Pairwise.nil, fun _ h => nomatch h⟩
  | s :: t, e, ho, hc => by
    have hs := ho.head
    unfold chkF at hc
    split at hc
    · cases hc
    · rename_i hse
      have hw : wrap64 (s.f0 + s.f1) = s.f0 + s.f1 := by obtain ⟨_, _, _⟩ := hs; unfold wrap64; omega
      rw [hw] at hc
      obtain ⟨hd, hge⟩ := dis_of_chkF h2 t _ ho.tail hc
      refine ⟨List.Pairwise.cons hge hd, fun u hu => ?_⟩
      rcases List.mem_cons.1 hu with rfl | hu
      · omega
      · have := hge u hu; have := hs.1; omega
/-- How two spans may be told: sized, all inside, no sector twice. -/
def Sized (size : Int) : Prop := 1 ≤ size ∧ size ≤ 8192
theorem sorted_bad {l : List Sp} {size : Int} (h : ¬ (Sized size ∧ OkL size l)) : sortedF l size = ([], 11) := by
  unfold sortedF
  rw [if_pos]
  by_cases h1 : Sized size
  · refine .inr (.inr ?_)
    have : ¬ OkL size l := fun k => h ⟨h1, k⟩
    rw [← outF_iff h1.1 h1.2] at this
    simpa using this
  · unfold Sized at h1; omega
theorem sorted_twice {l : List Sp} {size : Int} (h1 : Sized size) (h2 : OkL size l) (h3 : ¬ ∀ x, cnt l x ≤ 1) : sortedF l size = ([], 5) := by
  unfold sortedF
  rw [if_neg (by rw [(outF_iff h1.1 h1.2 l).2 h2]; obtain ⟨_, _⟩ := h1; simp; omega), if_neg]
  intro hc
  have hok := h2.perm (sortF_perm l).symm
  obtain ⟨hd, _⟩ := dis_of_chkF h1.2 _ _ hok hc
  exact h3 fun x => by rw [← cnt_perm (sortF_perm l) x]; exact cnt_dis hok hd x
theorem sorted_ok {l : List Sp} {size : Int} (h1 : Sized size) (h2 : OkL size l) (h3 : ∀ x, cnt l x ≤ 1) : ∃ z, sortedF l size = (z, 0) ∧ OkL size z ∧ Dis z ∧ ∀ x, cnt z x = cnt l x := by
  have hok := h2.perm (sortF_perm l).symm
  have hc := chkF_of_cnt h1.2 (sortF l) 0 hok (sortF_pairwise l) (fun x => by rw [cnt_perm (sortF_perm l) x]; exact h3 x) (fun s hs => (hok s hs).2.1)
  refine ⟨sortF l, ?_, hok, (dis_of_chkF h1.2 _ _ hok hc).1, cnt_perm (sortF_perm l)⟩
  unfold sortedF
  rw [if_neg (by rw [(outF_iff h1.1 h1.2 l).2 h2]; obtain ⟨_, _⟩ := h1; simp; omega), if_pos hc]
/-! ### Joined -/
theorem getLast_split {α : Type} {l : List α} {t : α} (h : l.getLast? = some t) : l = l.dropLast ++ [t] := by
  rw [List.getLast?_eq_some_iff] at h
  obtain ⟨i, rfl⟩ := h
  simp
theorem joinStep_spec {size : Int} (h2 : size ≤ 8192) {acc : List Sp} {s : Sp} (ha : OkL size acc) (hc : Canon acc) (hs : Ok size s) (he : ∀ a ∈ acc, a.f0 + a.f1 ≤ s.f0) :
    OkL size (joinStep acc s) ∧ Canon (joinStep acc s) ∧ (∀ x, cnt (joinStep acc s) x = cnt acc x + cnt [s] x) ∧ ∀ a ∈ joinStep acc s, a.f0 + a.f1 ≤ s.f0 + s.f1 := by
  unfold joinStep
  split
  · rename_i t ht
    have hsp := getLast_split ht
    generalize acc.dropLast = i at hsp
    subst hsp
    have hto := ha t (by simp)
    obtain ⟨o1, o2, o3⟩ := hto
    obtain ⟨s1, s2, s3⟩ := hs
    have hw : wrap64 (t.f0 + t.f1) = t.f0 + t.f1 := by unfold wrap64; omega
    rw [hw]
    obtain ⟨ci, _, cit⟩ := List.pairwise_append.1 hc
    split
    · rename_i heq
      have hw2 : wrap64 (t.f1 + s.f1) = t.f1 + s.f1 := by unfold wrap64; omega
      rw [hw2]
      refine ⟨OkL.append (fun u hu => ha u (by simp [hu])) (OkL.cons ⟨by show 0 < t.f1 + s.f1; omega, by show 0 ≤ t.f0; omega, by show t.f0 + (t.f1 + s.f1) ≤ size; omega⟩ OkL.nil), ?_, fun x => ?_, fun a h => ?_⟩
      · refine List.pairwise_append.2 ⟨ci, List.pairwise_singleton _ _, fun a h b hb => ?_⟩
        obtain rfl := List.mem_singleton.1 hb
        exact cit a h t (by simp)
      · rw [cnt_append, cnt_append, cnt_one, cnt_one, cnt_one]
        simp only
        split <;> split <;> split <;> omega
      · rcases List.mem_append.1 h with h | h
        · have := cit a h t (by simp)
          omega
        · obtain rfl := List.mem_singleton.1 h
          show t.f0 + (t.f1 + s.f1) ≤ s.f0 + s.f1
          omega
    · rename_i hne
      have := he t (by simp)
      refine ⟨OkL.append ha (OkL.cons ⟨s1, s2, s3⟩ OkL.nil), ?_, fun x => cnt_append _ _ x, fun a h => ?_⟩
      · refine List.pairwise_append.2 ⟨hc, List.pairwise_singleton _ _, fun a h b hb => ?_⟩
        obtain rfl := List.mem_singleton.1 hb
        rcases List.mem_append.1 h with h | h
        · have := cit a h t (by simp)
          omega
        · obtain rfl := List.mem_singleton.1 h
          omega
      · rcases List.mem_append.1 h with h | h
        · have := he a h; omega
        · obtain rfl := List.mem_singleton.1 h
          omega
  · rename_i ht
    have : acc = [] := by simpa using ht
    subst this
    refine ⟨OkL.cons hs OkL.nil, List.pairwise_singleton _ _, fun x => by rw [cnt_nil]; omega, fun a h => ?_⟩
    obtain rfl := List.mem_singleton.1 h
    omega
theorem join_spec {size : Int} (h2 : size ≤ 8192) : ∀ (z acc : List Sp), OkL size acc → Canon acc → OkL size z → Dis z → (∀ a ∈ acc, ∀ b ∈ z, a.f0 + a.f1 ≤ b.f0) →
    OkL size (z.foldl joinStep acc) ∧ Canon (z.foldl joinStep acc) ∧ ∀ x, cnt (z.foldl joinStep acc) x = cnt acc x + cnt z x
  | [], acc, ha, hc, _, _, _ => ⟨ha, hc, fun x => by rw [cnt_nil]; rfl⟩
  | s :: t, acc, ha, hc, hz, hd, he => by
    obtain ⟨d1, d2⟩ := List.pairwise_cons.1 hd
    obtain ⟨j1, j2, j3, j4⟩ := joinStep_spec h2 ha hc hz.head (fun a h => he a h s (List.mem_cons_self ..))
    obtain ⟨k1, k2, k3⟩ := join_spec h2 t _ j1 j2 hz.tail d2 (fun a h b hb => by have := j4 a h; have := d1 b hb; omega)
    refine ⟨k1, k2, fun x => ?_⟩
    rw [List.foldl_cons, k3 x, j3 x, cnt_cons s t x, cnt_one]
    omega
theorem joinF_spec {size : Int} (h2 : size ≤ 8192) {z : List Sp} (hz : OkL size z) (hd : Dis z) : OkL size (joinF z) ∧ Canon (joinF z) ∧ ∀ x, cnt (joinF z) x = cnt z x := by
  obtain ⟨a, b, c⟩ := join_spec h2 z [] OkL.nil List.Pairwise.nil hz hd (fun _ h => nomatch h)
  exact ⟨a, b, fun x => by have := c x; rw [cnt_nil] at this; unfold joinF; omega⟩
/-! ### Gaps -/
theorem gap_spec {size : Int} (h2 : size ≤ 8192) : ∀ (z : List Sp) (at_ : Int) (acc : List Sp), 0 ≤ at_ → OkL size acc → Dis acc → (∀ a ∈ acc, a.f0 + a.f1 ≤ at_) → OkL size z → Dis z → (∀ s ∈ z, at_ ≤ s.f0) →
    ∃ e g, z.foldl gapStep (at_, acc) = (e, acc ++ g) ∧ at_ ≤ e ∧ (at_ ≤ size → e ≤ size) ∧ OkL size (acc ++ g) ∧ Dis (acc ++ g) ∧ (∀ a ∈ acc ++ g, a.f0 + a.f1 ≤ e) ∧ ∀ x, cnt g x + cnt z x = if at_ ≤ x ∧ x < e then 1 else 0
  | [], at_, acc, h0, ha, hd, hl, _, _, _ => ⟨at_, [], by simp, Int.le_refl _, fun h => h, by simpa using ha, by simpa using hd, by simpa using hl, fun x => by rw [cnt_nil, if_neg (by omega)]⟩
  | s :: t, at_, acc, h0, ha, hd, hl, hz, hdz, hge => by
    obtain ⟨d1, d2⟩ := List.pairwise_cons.1 hdz
    obtain ⟨s1, s2, s3⟩ := hz.head
    have hg := hge s (List.mem_cons_self ..)
    have hw : wrap64 (s.f0 + s.f1) = s.f0 + s.f1 := by unfold wrap64; omega
    have hw2 : wrap64 (s.f0 - at_) = s.f0 - at_ := by unfold wrap64; omega
    by_cases hlt : at_ < s.f0
    · have hst : gapStep (at_, acc) s = (s.f0 + s.f1, acc ++ [⟨at_, s.f0 - at_⟩]) := by unfold gapStep; simp only [hw, hw2]; rw [if_pos hlt]
      have ha' : OkL size (acc ++ [(⟨at_, s.f0 - at_⟩ : Sp)]) := OkL.append ha (OkL.cons ⟨by show 0 < s.f0 - at_; omega, h0, by show at_ + (s.f0 - at_) ≤ size; omega⟩ OkL.nil)
      have hd' : Dis (acc ++ [(⟨at_, s.f0 - at_⟩ : Sp)]) := List.pairwise_append.2 ⟨hd, List.pairwise_singleton _ _, fun a h b hb => by obtain rfl := List.mem_singleton.1 hb; exact hl a h⟩
      obtain ⟨e, g, r1, r2, r3, r4, r5, r6, r7⟩ := gap_spec h2 t (s.f0 + s.f1) (acc ++ [⟨at_, s.f0 - at_⟩]) (by omega) ha' hd' (fun a h => by
        rcases List.mem_append.1 h with h | h
        · have := hl a h; omega
        · obtain rfl := List.mem_singleton.1 h
          show at_ + (s.f0 - at_) ≤ _
          omega) hz.tail d2 d1
      refine ⟨e, ⟨at_, s.f0 - at_⟩ :: g, by rw [List.foldl_cons, hst, r1]; simp, by omega, fun _ => r3 (by omega), by simpa using r4, by simpa using r5, by simpa using r6, fun x => ?_⟩
      have := r7 x
      rw [cnt_cons, cnt_cons]
      simp only
      split at this <;> split <;> split <;> split <;> omega
    · have hst : gapStep (at_, acc) s = (s.f0 + s.f1, acc) := by unfold gapStep; simp only [hw, hw2]; rw [if_neg hlt]
      obtain ⟨e, g, r1, r2, r3, r4, r5, r6, r7⟩ := gap_spec h2 t (s.f0 + s.f1) acc (by omega) ha hd (fun a h => by have := hl a h; omega) hz.tail d2 d1
      refine ⟨e, g, by rw [List.foldl_cons, hst, r1], by omega, fun _ => r3 (by omega), r4, r5, r6, fun x => ?_⟩
      have := r7 x
      rw [cnt_cons]
      split at this <;> split <;> split <;> omega
theorem gapsF_spec {size : Int} (h1 : 1 ≤ size) (h2 : size ≤ 8192) {z : List Sp} (hz : OkL size z) (hd : Dis z) : OkL size (gapsF size z) ∧ Dis (gapsF size z) ∧ ∀ x, cnt (gapsF size z) x + cnt z x = if 0 ≤ x ∧ x < size then 1 else 0 := by
  obtain ⟨e, g, r1, r2, r3, r4, r5, r6, r7⟩ := gap_spec h2 z 0 [] (Int.le_refl _) OkL.nil List.Pairwise.nil (fun _ h => nomatch h) hz hd (fun s hs => (hz s hs).2.1)
  have hes := r3 (by omega)
  unfold gapsF
  rw [r1]
  simp only [List.nil_append] at r4 r5 r6 ⊢
  have hw : wrap64 (size - e) = size - e := by unfold wrap64; omega
  rw [hw]
  split
  · rename_i hlt
    refine ⟨OkL.append r4 (OkL.cons ⟨by show 0 < size - e; omega, r2, by show e + (size - e) ≤ size; omega⟩ OkL.nil), List.pairwise_append.2 ⟨r5, List.pairwise_singleton _ _, fun a h b hb => by obtain rfl := List.mem_singleton.1 hb; exact r6 a h⟩, fun x => ?_⟩
    have := r7 x
    rw [cnt_append, cnt_one]
    simp only
    split at this <;> split <;> split <;> omega
  · refine ⟨r4, r5, fun x => ?_⟩
    rw [r7 x]
    split <;> split <;> omega
/-! ### Norm and Rest, told -/
theorem norm_bad {l : List Sp} {size : Int} (hl : l.length < 8796092000000) (h : ¬ (Sized size ∧ OkL size l)) : span_Norm.f l size = some ([], 11) ∧ span_Rest.f l size = some ([], 11) := by
  unfold span_Norm.f span_Rest.f
  rw [if_pos hl, if_pos hl, sorted_bad h]
  exact ⟨rfl, rfl⟩
theorem norm_twice {l : List Sp} {size : Int} (hl : l.length < 8796092000000) (h1 : Sized size) (h2 : OkL size l) (h3 : ¬ ∀ x, cnt l x ≤ 1) : span_Norm.f l size = some ([], 5) ∧ span_Rest.f l size = some ([], 5) := by
  unfold span_Norm.f span_Rest.f
  rw [if_pos hl, if_pos hl, sorted_twice h1 h2 h3]
  exact ⟨rfl, rfl⟩
theorem norm_ok {l : List Sp} {size : Int} (hl : l.length < 8796092000000) (h1 : Sized size) (h2 : OkL size l) (h3 : ∀ x, cnt l x ≤ 1) :
    ∃ a b, span_Norm.f l size = some (a, 0) ∧ span_Rest.f l size = some (b, 0) ∧ OkL size a ∧ Canon a ∧ (∀ x, cnt a x = cnt l x) ∧ OkL size b ∧ Canon b ∧ ∀ x, cnt b x + cnt l x = if 0 ≤ x ∧ x < size then 1 else 0 := by
  obtain ⟨z, e, z1, z2, z3⟩ := sorted_ok h1 h2 h3
  obtain ⟨j1, j2, j3⟩ := joinF_spec h1.2 z1 z2
  obtain ⟨g1, g2, g3⟩ := gapsF_spec h1.1 h1.2 z1 z2
  obtain ⟨k1, k2, k3⟩ := joinF_spec h1.2 g1 g2
  refine ⟨joinF z, joinF (gapsF size z), ?_, ?_, j1, j2, fun x => by rw [j3, z3], k1, k2, fun x => by rw [k3, ← z3]; exact g3 x⟩
  · unfold span_Norm.f; rw [if_pos hl, e]; rfl
  · unfold span_Rest.f; rw [if_pos hl, e]; rfl
end Go.Proofs.Ytjmplchknbgmgaa.Th
