-- laid by gprint.py (this session's own program) out of the translation: Lean checks it
import Derived.Test.YtjmplchknbgmgaaPSpanx0
import Derived.Shelf.SlSortCmp.WholeK
import Derived.Shelf.SlSortCmp.NoneTotal
namespace Go.Proofs.Ytjmplchknbgmgaa.PSpan
open Go.RowKit Go.Proofs.YtjmplchknbgmgaaW.PrintWords Go.Proofs.YtjmplchknbgmgaaW.PrintLast Go.Proofs.YtjmplchknbgmgaaW.PrintMore
attribute [local go_sem] max2_int min2_int max_two min_two max_three min_three max_four min_four   -- for this text's walks alone
set_option linter.unusedVariables false
set_option linter.unusedSimpArgs false

/-! ### part:sortwords -/
section
open Go.Sort
variable {α : Type} [Inhabited α] {enc : α → List Value} {k : Nat}
theorem hw_flat_list (xs : List α) (hk : ∀ x, (enc x).length = k) (inner : List Value) (hr : Reps (fun x cs => cs = enc x) k xs inner) : (flatK enc k xs.toArray).toList = inner := by
  have hl := hr.1
  apply List.ext_getElem
  · simp [hl]
  · intro t h1 h2
    have ht : t < xs.length * k := by omega
    have hk0 : 0 < k := by rcases Nat.eq_zero_or_pos k with h | h; · subst h; simp at ht
                           · exact h
    have hq : t / k < xs.length := Nat.div_lt_of_lt_mul (by rw [Nat.mul_comm]; exact ht)
    have hp := hr.2 (t / k) xs[t / k] (List.getElem?_eq_getElem hq)
    have e1 : (flatK enc k xs.toArray).toList[t] = (flatK enc k xs.toArray)[t]! := by
      rw [getElem!_pos (flatK enc k xs.toArray) t (by simpa using ht)]; simp
    rw [e1, get_flatK _ _ _ _ (by simpa using ht)]
    have e2 : (xs.toArray)[t / k]! = xs[t / k] := by rw [getElem!_pos xs.toArray (t / k) (by simpa using hq)]; simp
    rw [e2, ← hp]
    have hm : t % k < k := Nat.mod_lt _ hk0
    have e3 : t / k * k + t % k = t := Nat.div_add_mod' t k
    have hlen : t % k < ((inner.drop (t / k * k)).take k).length := by
      rw [hp, hk]; exact hm
    rw [getElem!_pos ((inner.drop (t / k * k)).take k) (t % k) hlen]
    simp [e3]
theorem hw_holds {w : World} {base e g cap : Nat} {xs : List α} {inner : List Value} (hk : ∀ x, (enc x).length = k) (ho : w.ownsRow base e k (.slice (some ⟨g, 0, none⟩) xs.length cap) xs.length inner) (hr : Reps (fun x cs => cs = enc x) k xs inner) : HoldsK enc k w g 0 xs.toArray := by
  have hf := hw_flat_list xs hk inner hr
  rcases ho.2 with ⟨h, _⟩ | ⟨g', cap', cur, he, hb, hh, h1, h2, h3, h4⟩
  · simp at h
  · simp only [Value.slice.injEq, Option.some.injEq, Addr.mk.injEq] at he
    obtain ⟨⟨rfl, _⟩, _, rfl⟩ := he
    intro j hj
    have hj' : j < xs.length * k := by simpa using hj
    have hle : xs.length * k ≤ cap * k := Nat.mul_le_mul_right _ h1
    have hc : j < cur.size := by omega
    have e1 : (flatK enc k xs.toArray)[j]! = cur[j] := by
      rw [getElem!_pos (flatK enc k xs.toArray) j hj]
      have : (flatK enc k xs.toArray).toList[j]'(by simpa using hj') = (cur.toList.take (xs.length * k))[j]'(by simp; omega) := by
        congr 1; rw [hf, h4]
      simpa using this
    refine ⟨?_, ?_⟩
    · simp only [World.cell?, hh]
      simp [e1, hc]
    · simp [World.frozen?, hh]
theorem hw_sorted {w : World} {base e g cap m : Nat} {xs : List α} {inner : List Value} {d' : Array α} {os : Array Obj} (hk : ∀ x, (enc x).length = k)
    (ho : w.ownsRow base e k (.slice (some ⟨g, 0, none⟩) xs.length cap) xs.length inner) (hs : d'.size = xs.length) :
    (sortWorldK enc k w g 0 m d' os).ownsRow base e k (.slice (some ⟨g, 0, none⟩) xs.length cap) xs.length (flatK enc k d').toList ∧ w.grownBy (sortWorldK enc k w g 0 m d' os) (some g) := by
  have hgl := own_lt ho g (by simp [Value.ownBlock])
  rcases ho.2 with ⟨h, _⟩ | ⟨g', cap', cur, he, hb, hh, h1, h2, h3, h4⟩
  · simp at h
  · simp only [Value.slice.injEq, Option.some.injEq, Addr.mk.injEq] at he
    obtain ⟨⟨rfl, _⟩, _, rfl⟩ := he
    have hle : xs.length * k ≤ cap * k := Nat.mul_le_mul_right _ h1
    have hblk : (sortWorldK enc k w g 0 m d' os).heap[g]? = some (.cells (putCells id 0 (flatK enc k d') cur) e (0, 0)) := by
      unfold sortWorldK putRowK putRow
      rw [heap_grow_old _ _ (by simpa [mapBlock] using hgl)]
      simp [mapBlock, Array.getElem?_modify, hh, onCells]
    refine ⟨⟨by simp [hs], .inr ⟨g, cap, _, rfl, hb, hblk, h1, h2, by simp [putCells, h3], ?_⟩⟩, ?_⟩
    · apply List.ext_getElem
      · simp only [List.length_take, Array.length_toList, size_flatK, hs]
        rw [show (putCells id 0 (flatK enc k d') cur).size = cap * k by simp [putCells, h3], Nat.min_eq_left hle]
      · intro t ht1 ht2
        have ht : t < d'.size * k := by simpa using ht2
        simp [putCells, Array.getElem_mapIdx, ht, getElem!_pos (flatK enc k d') t (by simpa using ht)]
    · refine ⟨rfl, rfl, rfl, ?_, ?_⟩
      · simp [sortWorldK, putRowK]
      · intro i hi hne
        have hig : g ≠ i := fun h => hne (by rw [h])
        unfold sortWorldK putRowK putRow
        rw [heap_grow_old _ _ (by simpa [mapBlock] using hi)]
        simp [mapBlock, Array.getElem?_modify, hig]
theorem hw_reps (d' : Array α) (hk : ∀ x, (enc x).length = k) : Reps (fun x cs => cs = enc x) k d'.toList (flatK enc k d').toList := by
  refine ⟨by simp, fun j p hj => ?_⟩
  obtain ⟨hjl, hp⟩ := List.getElem?_eq_some_iff.1 hj
  have hjl' : j < d'.size := by simpa using hjl
  subst hp
  have hle : j * k + k ≤ d'.size * k := by rw [← Nat.succ_mul]; exact Nat.mul_le_mul_right _ hjl'
  apply List.ext_getElem
  · simp [hk]; omega
  · intro t h1 h2
    have ht : t < k := by simpa [hk] using h2
    have hlt : j * k + t < d'.size * k := by omega
    have hq : (j * k + t) / k = j := (blk_iff k j _ (by omega)).1 ⟨by omega, by omega⟩
    have hm : (j * k + t) % k = t := by rw [Nat.mod_eq_sub_div_mul, hq]; omega
    have e1 : (flatK enc k d')[j * k + t]'(by simpa using hlt) = (flatK enc k d')[j * k + t]! := by rw [getElem!_pos (flatK enc k d') (j * k + t) (by simpa using hlt)]
    simp only [List.getElem_take, List.getElem_drop, Array.getElem_toList]
    rw [e1, get_flatK _ _ _ _ hlt, hq, hm, getElem!_pos d' j hjl', getElem!_pos (enc d'[j]) t (by rw [hk]; exact ht)]
end

end Go.Proofs.Ytjmplchknbgmgaa.PSpan
