/-
  What files use, and how many sectors that is.
-/
import Derived.Test.YtppbcankhkgpfaaDoorPDkx34
import Derived.Test.YtppbcankhkgpfaaDoorPureWk
import Derived.Test.YtppbcankhkgpfaaDoorPureFo
--compressed
namespace Go.Proofs.YtppbcankhkgpfaaDoor.Th
open Go.RowKit Go.Proofs.YtppbcankhkgpfaaDoor.PDk
set_option linter.unusedVariables false
set_option linter.unusedSimpArgs false
def usedV (l : List Fi) : List Sp := l.flatMap fun f => f.f2
theorem used_len {l : List Fi} (h : BdL l) : (usedV l).length ≤ 100000 * l.length := by
 replace h := h.2
 induction l with
 | nil => exact Nat.zero_le _
 | cons f t ih =>
  have h1 := (h f (List.mem_cons_self ..)).2
  have h2 := ih (fun u hu => h u (List.mem_cons_of_mem _ hu))
  show (f.f2 ++ usedV t).length ≤ _
  rw [List.length_append, List.length_cons]
  omega
theorem used_ev (l : List Fi) (hb : BdL l) : Evt (fun k => dir_Used.f k l) (usedV l) := by
 have hl := hb.1
 have hu := used_len hb
 have key : ∀ r d : List Fi, l = d ++ r → Evt (fun k => dir_Used.l0 k (usedV d) l (l.length : Int) (d.length : Int)) (usedV l) := by
  intro r
  induction r with
  | nil =>
   intro d hd
   rw [List.append_nil] at hd
   subst hd
   refine Evt.step (fun k => by rw [dir_Used.l0]) ?_
   exact Evt.neg (by omega) (Evt.val _)
  | cons f r ih =>
   intro d hd
   have hlen : l.length = d.length + (r.length + 1) := by rw [hd]; simp
   have hr1 : rd_T43 l (d.length : Int) = f := by
    have := rdF_mid d f r
    rwa [← hd] at this
   have hsum : (usedV d).length + f.f2.length ≤ (usedV l).length := by
    rw [hd]
    unfold usedV
    rw [List.flatMap_append, List.flatMap_cons]
    simp only [List.length_append]
    omega
   refine Evt.step (fun k => by rw [dir_Used.l0]) ?_
   refine Evt.pos (by omega) ?_
   refine Evt.pos (by omega) ?_
   refine Evt.pos (by omega) ?_
   rw [hr1]
   refine Evt.pos (by omega) ?_
   rw [idx _ (by omega)]
   have := ih (d ++ [f]) (by rw [hd]; simp)
   rw [List.length_append] at this
   rw [show usedV d ++ f.f2 = usedV (d ++ [f]) by unfold usedV; rw [List.flatMap_append]; simp]
   exact this
 unfold dir_Used.f
 exact key l [] rfl
/-- How many sectors spans have, as Go adds them up. -/
def secF (l : List Sp) : Int := l.foldl (fun n s => wrap64 (n + s.f1)) 0
theorem sectors_ev (l : List Sp) (hl : l.length ≤ 9223372036854775807) : Evt (fun k => rootcellarlaw7_sectors.f k l) (secF l) := by
 unfold rootcellarlaw7_sectors.f secF
 have key : ∀ n i : Nat, ∀ x : Int, l.length - i = n → i ≤ l.length → Evt (fun k => rootcellarlaw7_sectors.l0 k l x (i : Int)) ((l.drop i).foldl (fun n s => wrap64 (n + s.f1)) x) := by
  intro n
  induction n with
  | zero =>
   intro i x hn hi
   refine Evt.step (fun k => by rw [rootcellarlaw7_sectors.l0]) ?_
   refine Evt.neg (by omega) (Evt.val' ?_)
   rw [List.drop_eq_nil_of_le (by omega)]; rfl
  | succ n ih =>
   intro i x hn hi
   refine Evt.step (fun k => by rw [rootcellarlaw7_sectors.l0]) ?_
   refine Evt.pos (by omega) (Evt.pos (by omega) ?_)
   have hlt : i < l.length := by omega
   rw [wrap64_id (n := (i : Int) + 1) (by omega) (by omega), rd_T64_get l i hlt, List.drop_eq_getElem_cons hlt]
   exact ih (i + 1) _ (by omega) (by omega)
 exact key _ 0 0 rfl (Nat.zero_le _)
theorem secF_sum {size : Int} (h1 : 0 ≤ size) (h2 : size ≤ 8192) {l : List Sp} (h : OkL size l) (hl : l.length < 1000000) : secF l = sumF l := by
 have key : ∀ (l : List Sp) (x : Int), OkL size l → 0 ≤ x → x + size * l.length < 9223372036854775808 → l.foldl (fun n s => wrap64 (n + s.f1)) x = x + sumF l := by
  intro l
  induction l with
  | nil => intro x _ _ _; simp [sumF]
  | cons s t ih =>
   intro x ho hx hb
   obtain ⟨s1, s2, s3⟩ := ho.head
   have e : size * ((s :: t).length : Int) = size * (t.length : Int) + size := by rw [List.length_cons, Int.natCast_add, Int.mul_add]; simp
   rw [e] at hb
   have hp : 0 ≤ size * (t.length : Int) := Int.mul_nonneg h1 (by omega)
   rw [List.foldl_cons, wrap64_id (by omega) (by omega), ih _ ho.tail (by omega) (by omega)]
   simp only [sumF]
   omega
 have hp : size * (l.length : Int) ≤ 8192 * 1000000 := Int.mul_le_mul h2 (by omega) (by omega) (by omega)
 unfold secF
 rw [key l 0 h (Int.le_refl _) (by omega)]
 omega
theorem sumF_append (a b : List Sp) : sumF (a ++ b) = sumF a + sumF b := by
 induction a with
 | nil => simp [sumF]
 | cons s t ih => simp only [List.cons_append, sumF, ih]; omega
theorem well_ok {f : Fi} (h : wellB f = true) : OkL 8192 f.f2 ∧ f.f2.length ≤ 200 ∧ Bd f := by
 have hf := well_fits h
 unfold wellB at h
 simp only [Bool.and_eq_true, decide_eq_true_eq] at h
 obtain ⟨_, _, _, h4, h5, _⟩ := h
 exact ⟨((rightF_iff sz8 f.f2 (-1)).1 h5).1, h4, by have := hf.1; omega, by omega⟩
theorem used_ok : ∀ l : List Fi, (∀ f ∈ l, wellB f = true) → OkL 8192 (usedV l) ∧ (usedV l).length ≤ 200 * l.length
 | [], _ => ⟨OkL.nil, Nat.zero_le _⟩
 | f :: t, h => by
  obtain ⟨a, b, _⟩ := well_ok (h f (List.mem_cons_self ..))
  obtain ⟨c, d⟩ := used_ok t fun g hg => h g (List.mem_cons_of_mem _ hg)
  refine ⟨OkL.append a c, ?_⟩
  show (f.f2 ++ usedV t).length ≤ _
  rw [List.length_append, List.length_cons]
  omega
theorem used_sec {l : List Fi} (h : ∀ f ∈ l, wellB f = true) (hl : l.length ≤ 1000) : secF (usedV l) = sumF (usedV l) ∧ 0 ≤ sumF (usedV l) ∧ sumF (usedV l) ≤ 2000000000 ∧ (usedV l).length ≤ 200000 := by
 obtain ⟨a, b⟩ := used_ok l h
 have c := sumF_bound a (by decide)
 exact ⟨secF_sum (by decide) (by decide) a (by omega), c.1, by omega, by omega⟩
theorem well_bd {l : List Fi} (h : ∀ f ∈ l, wellB f = true) (hl : l.length ≤ 1000) : BdL l := ⟨by omega, fun f hf => (well_ok (h f hf)).2.2⟩
theorem used_app (a b : List Fi) : usedV (a ++ b) = usedV a ++ usedV b := by unfold usedV; rw [List.flatMap_append]
theorem used_cons (f : Fi) (b : List Fi) : usedV (f :: b) = f.f2 ++ usedV b := by unfold usedV; rw [List.flatMap_cons]
end Go.Proofs.YtppbcankhkgpfaaDoor.Th
