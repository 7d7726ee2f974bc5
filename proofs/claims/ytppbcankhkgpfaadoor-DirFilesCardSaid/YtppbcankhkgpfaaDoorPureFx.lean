/-
  The reference's Find and Without; as and same for files whose spans are as many as may be; With beside the reference's.
-/
import Derived.Test.YtppbcankhkgpfaaDoorPDqx34
import Derived.Test.YtppbcankhkgpfaaDoorPDqx31
import Derived.Test.YtppbcankhkgpfaaDoorPureWk
import Derived.Test.YtppbcankhkgpfaaDoorPureFo
import Derived.Test.YtppbcankhkgpfaaDoorPureRw
--compressed
namespace Go.Proofs.YtppbcankhkgpfaaDoor.Th
open Go.RowKit Go.Proofs.YtppbcankhkgpfaaDoor.PDq Go.Proofs.YtppbcankhkgpfaaDoorW.PrintWords
set_option linter.unusedVariables false
set_option linter.unusedSimpArgs false
theorem reffind_ev (l : List Fi) (a : ByteArray) (hl : l.length ≤ 1000) : Evt (fun k => rootcellarref7_Find.f k (l.map toR) a) ((findV a l).1.f0, (findV a l).1.f1, (findV a l).1.f2, (findV a l).2) := by
 have hml : (l.map toR).length = l.length := List.length_map ..
 have key : ∀ r d : List Fi, l = d ++ r → (∀ x ∈ d, (x.f0.toList == a.toList) = false) → Evt (fun k => rootcellarref7_Find.l0 k (l.map toR) a (d.length : Int)) ((findV a l).1.f0, (findV a l).1.f1, (findV a l).1.f2, (findV a l).2) := by
  intro r
  induction r with
  | nil =>
   intro d hd hn
   rw [List.append_nil] at hd
   subst hd
   rw [find_none hn]
   refine Evt.step (fun k => by rw [rootcellarref7_Find.l0]) ?_
   exact Evt.neg (by omega) (Evt.val _)
  | cons f r ih =>
   intro d hd hn
   have hlen : l.length = d.length + (r.length + 1) := by rw [hd]; simp
   have hr2 : rd_T45 (l.map toR) (d.length : Int) = toR f := by
    have := rdR_mid (d.map toR) (toR f) (r.map toR)
    rwa [← List.map_cons, ← List.map_append, ← hd, List.length_map] at this
   refine Evt.step (fun k => by rw [rootcellarref7_Find.l0]) ?_
   refine Evt.pos (by omega) ?_
   refine Evt.pos (by omega) ?_
   rw [hr2]
   by_cases hf : f.f0.toList = a.toList
   ·rw [show findV a l = (f, true) from by rw [hd]; exact find_at hn (ba_ext hf)]
    exact Evt.pos hf (Evt.val _)
   ·refine Evt.neg hf ?_
    rw [idx _ (by omega)]
    have := ih (d ++ [f]) (by rw [hd]; simp) (fun x hx => by
     rcases List.mem_append.1 hx with hx | hx
     ·exact hn x hx
     ·rw [List.mem_singleton.1 hx]; exact beq_eq_false_iff_ne.2 hf)
    rw [List.length_append] at this
    exact this
 unfold rootcellarref7_Find.f
 exact key l [] rfl (fun _ h => nomatch h)
theorem refwithout_ev (l : List Fi) (a : ByteArray) (hl : l.length ≤ 1000) : Evt (fun k => rootcellarref7_Without.f k (l.map toR) a) ((withoutV a l).map toR) := by
 have hml : (l.map toR).length = l.length := List.length_map ..
 have key : ∀ r d : List Fi, l = d ++ r → Evt (fun k => rootcellarref7_Without.l0 k (l.map toR) a ((withoutV a d).map toR) (d.length : Int)) ((withoutV a l).map toR) := by
  intro r
  induction r with
  | nil =>
   intro d hd
   rw [List.append_nil] at hd
   subst hd
   refine Evt.step (fun k => by rw [rootcellarref7_Without.l0]) ?_
   exact Evt.neg (by omega) (Evt.val _)
  | cons f r ih =>
   intro d hd
   have hlen : l.length = d.length + (r.length + 1) := by rw [hd]; simp
   have hr2 : rd_T45 (l.map toR) (d.length : Int) = toR f := by
    have := rdR_mid (d.map toR) (toR f) (r.map toR)
    rwa [← List.map_cons, ← List.map_append, ← hd, List.length_map] at this
   have hi := ih (d ++ [f]) (by rw [hd]; simp)
   rw [List.length_append] at hi
   refine Evt.step (fun k => by rw [rootcellarref7_Without.l0]) ?_
   refine Evt.pos (by omega) ?_
   refine Evt.pos (by omega) ?_
   rw [hr2]
   by_cases hf : f.f0.toList = a.toList
   ·refine Evt.pos hf ?_
    rw [idx _ (by omega)]
    rw [show withoutV a (d ++ [f]) = withoutV a d from by unfold withoutV; rw [List.filter_append, List.filter_cons_of_neg (by rw [beq_iff_eq.2 hf]; decide), List.filter_nil, List.append_nil]] at hi
    exact hi
   ·refine Evt.neg hf ?_
    refine Evt.pos (by
     have h1 : (withoutV a d).length ≤ d.length := List.length_filter_le ..
     rw [List.length_map]; omega) ?_
    rw [idx _ (by omega)]
    rw [show withoutV a (d ++ [f]) = withoutV a d ++ [f] from by unfold withoutV; rw [List.filter_append, List.filter_cons_of_pos (by rw [beq_eq_false_iff_ne.2 hf]; rfl), List.filter_nil], List.map_append] at hi
    exact hi
 unfold rootcellarref7_Without.f
 exact key l [] rfl
theorem samespans_evW (l : List Sp) (hl : l.length ≤ 9223372036854775807) : Evt (fun k => rootcellarlaw7_sameSpans.f k l l) true := by
 have key : ∀ r d : List Sp, l = d ++ r → Evt (fun k => rootcellarlaw7_sameSpans.l0 k l l (d.length : Int)) true := by
  intro r
  induction r with
  | nil =>
   intro d hd
   rw [List.append_nil] at hd
   subst hd
   refine Evt.step (fun k => by rw [rootcellarlaw7_sameSpans.l0]) ?_
   exact Evt.neg (by omega) (Evt.val _)
  | cons s r ih =>
   intro d hd
   have hlen : l.length = d.length + (r.length + 1) := by rw [hd]; simp
   refine Evt.step (fun k => by rw [rootcellarlaw7_sameSpans.l0]) ?_
   refine Evt.pos (by omega) ?_
   refine Evt.pos (by omega) ?_
   refine Evt.pos (by omega) ?_
   refine Evt.neg (by simp) ?_
   rw [idxW _ (by omega)]
   have := ih (d ++ [s]) (by rw [hd]; simp)
   rw [List.length_append] at this
   exact this
 unfold rootcellarlaw7_sameSpans.f
 exact Evt.pos rfl (key l [] rfl)
theorem same_evW (l : List Fi) (hl : l.length ≤ 100000) (hw : ∀ f ∈ l, f.f2.length ≤ 9223372036854775807) : Evt (fun k => rootcellarlaw7_same.f k l (l.map toR)) true := by
 have hml : (l.map toR).length = l.length := List.length_map ..
 have key : ∀ r d : List Fi, l = d ++ r → Evt (fun k => rootcellarlaw7_same.l0 k l (l.map toR) (d.length : Int)) true := by
  intro r
  induction r with
  | nil =>
   intro d hd
   rw [List.append_nil] at hd
   subst hd
   refine Evt.step (fun k => by rw [rootcellarlaw7_same.l0]) ?_
   exact Evt.neg (by omega) (Evt.val _)
  | cons f r ih =>
   intro d hd
   have hlen : l.length = d.length + (r.length + 1) := by rw [hd]; simp
   have hr1 : rd_T43 l (d.length : Int) = f := by
    have := rdF_mid d f r
    rwa [← hd] at this
   have hr2 : rd_T45 (l.map toR) (d.length : Int) = toR f := by
    have := rdR_mid (d.map toR) (toR f) (r.map toR)
    rwa [← List.map_cons, ← List.map_append, ← hd, List.length_map] at this
   refine Evt.step (fun k => by rw [rootcellarlaw7_same.l0]) ?_
   refine Evt.pos (by omega) ?_
   refine Evt.pos (by omega) ?_
   refine Evt.pos (by omega) ?_
   rw [hr1, hr2]
   refine Evt.pos rfl ?_
   refine Evt.pos rfl ?_
   refine Evt.bind (samespans_evW f.f2 (hw f (by rw [hd]; simp))) ?_
   refine Evt.step (fun k => by rw [rootcellarlaw7_same.j1]) ?_
   refine Evt.neg (by decide) ?_
   rw [idx _ (by omega)]
   have := ih (d ++ [f]) (by rw [hd]; simp)
   rw [List.length_append] at this
   exact this
 unfold rootcellarlaw7_same.f
 refine Evt.pos (by rw [hml]) ?_
 exact key l [] rfl
/-- A file put in among those ahead of it and those behind it. -/
theorem insR_part {a : Rf} : ∀ {P S : List Rf}, (∀ x ∈ P, aheadN x.f0 a.f0 = true) → (∀ x ∈ S, aheadN a.f0 x.f0 = true) → insR a (P ++ S) = P ++ a :: S
 | [], [], _, _ => rfl
 | [], x :: t, _, h => by
  have := h x (List.mem_cons_self ..)
  unfold aheadN at this
  show insR a (x :: t) = _
  unfold insR
  rw [if_pos this]; rfl
 | x :: t, S, h, hS => by
  have := h x (List.mem_cons_self ..)
  unfold aheadN at this
  show insR a (x :: (t ++ S)) = _
  unfold insR
  rw [if_neg (by rw [less_asymm this]; decide), insR_part (fun y hy => h y (List.mem_cons_of_mem _ hy)) hS]
  rfl
/-- With, and the reference's. -/
theorem with_ins {l : List Fi} (sd : Sd l) (f : Fi) : insR (toR f) ((withoutV f.f0 l).map toR) = (withV f l).map toR := by
 obtain ⟨P, E, S, e1, hP, hS, hE⟩ := parted f.f0 l sd
 have hW := with_part (f := f) rfl hP hS hE
 have hO := without_part hP hS hE
 rw [← e1] at hW hO
 rw [hW, hO, List.map_append, List.map_append, List.map_cons]
 refine insR_part (fun x hx => ?_) (fun x hx => ?_)
 ·obtain ⟨y, hy, rfl⟩ := List.mem_map.1 hx
  exact hP y hy
 ·obtain ⟨y, hy, rfl⟩ := List.mem_map.1 hx
  exact hS y hy
end Go.Proofs.YtppbcankhkgpfaaDoor.Th
