/-
  Rows of files in order: what With, Without and Find make of them.
-/
import Derived.Test.YtppbcankhkgpfaaDoorPureRd
import Derived.Test.YtppbcankhkgpfaaDoorPureFd
--compressed
namespace Go.Proofs.YtppbcankhkgpfaaDoor.Th
open Go.RowKit Go.Proofs.YtppbcankhkgpfaaDoor.PDq Go.Proofs.YtppbcankhkgpfaaDoorW.PrintWords
set_option linter.unusedVariables false
set_option linter.unusedSimpArgs false
theorem less_irrefl (a : List UInt8) : Op.bytesLess a a = false := by
 have := hw_less_asymm a a
 cases h : Op.bytesLess a a with
 | false => rfl
 | true => rw [h] at this; simp at this
theorem less_eq {a b : List UInt8} (h1 : Op.bytesLess a b = false) (h2 : Op.bytesLess b a = false) : a = b := by
 have := hw_less_asymm a b
 rw [h1, h2] at this
 simpa using this
theorem less_asymm {a b : List UInt8} (h1 : Op.bytesLess a b = true) : Op.bytesLess b a = false := by
 have := hw_less_asymm a b
 rw [h1] at this
 simpa using this
theorem less_trans : ∀ (a b c : List UInt8), Op.bytesLess a b = true → Op.bytesLess b c = true → Op.bytesLess a c = true
 | _, _, [], _, h => by cases ‹List UInt8› <;> simp [Op.bytesLess] at h
 | _, [], _ :: _, h, _ => by cases ‹List UInt8› <;> simp [Op.bytesLess] at h
 | [], _ :: _, _ :: _, _, _ => rfl
 | x :: a, y :: b, z :: c, h1, h2 => by
  have ih := less_trans a b c
  simp only [Op.bytesLess, Bool.or_eq_true, Bool.and_eq_true, beq_iff_eq, decide_eq_true_eq] at h1 h2 ⊢
  rcases h1 with h1 | ⟨rfl, h1⟩
  ·rcases h2 with h2 | ⟨rfl, h2⟩
   ·exact .inl (UInt8.lt_trans h1 h2)
   ·exact .inl h1
  ·rcases h2 with h2 | ⟨rfl, h2⟩
   ·exact .inl h2
   ·exact .inr ⟨rfl, ih h1 h2⟩
theorem ba_ext {a b : ByteArray} (h : a.toList = b.toList) : a = b := by
 have h1 : a.data.toList = b.data.toList := by rw [← Lib.toList_data, ← Lib.toList_data]; exact h
 have h2 : a.data = b.data := by rw [← Array.toArray_toList (xs := a.data), h1, Array.toArray_toList]
 cases a; cases b
 simpa using h2
/-- In order, by the names, none twice. -/
def Sd (l : List Fi) : Prop := l.Pairwise fun a b => aheadN a.f0 b.f0 = true
theorem goB_sd : ∀ (l : List Fi), goB none l = true ↔ (∀ f ∈ l, wellB f = true) ∧ Sd l := by
 have key : ∀ (l : List Fi) (q : ByteArray), goB (some q) l = true ↔ (∀ f ∈ l, wellB f = true) ∧ Sd l ∧ ∀ f ∈ l, aheadN q f.f0 = true := by
  intro l
  induction l with
  | nil => exact fun q => ⟨fun _ => ⟨fun _ h => (nomatch h), List.Pairwise.nil, fun _ h => nomatch h⟩, fun _ => rfl⟩
  | cons f t ih =>
   intro q
   unfold goB
   simp only [Bool.and_eq_true]
   rw [ih f.f0]
   constructor
   ·rintro ⟨h1, h2, h3, h4, h5⟩
    refine ⟨fun g hg => ?_, List.pairwise_cons.2 ⟨h5, h4⟩, fun g hg => ?_⟩
    ·rcases List.mem_cons.1 hg with rfl | hg
     ·exact h1
     ·exact h3 g hg
    ·rcases List.mem_cons.1 hg with rfl | hg
     ·exact h2
     ·exact less_trans _ _ _ h2 (h5 g hg)
   ·rintro ⟨h1, h2, h3⟩
    obtain ⟨h4, h5⟩ := List.pairwise_cons.1 h2
    exact ⟨h1 f (List.mem_cons_self ..), h3 f (List.mem_cons_self ..), fun g hg => h1 g (List.mem_cons_of_mem _ hg), h5, h4⟩
 intro l
 cases l with
 | nil => exact ⟨fun _ => ⟨fun _ h => (nomatch h), List.Pairwise.nil⟩, fun _ => rfl⟩
 | cons f t =>
  unfold goB
  simp only [Bool.and_eq_true]
  rw [key t f.f0]
  constructor
  ·rintro ⟨h1, h3, h4, h5⟩
   refine ⟨fun g hg => ?_, List.pairwise_cons.2 ⟨h5, h4⟩⟩
   rcases List.mem_cons.1 hg with rfl | hg
   ·exact h1
   ·exact h3 g hg
  ·rintro ⟨h1, h2⟩
   obtain ⟨h4, h5⟩ := List.pairwise_cons.1 h2
   exact ⟨h1 f (List.mem_cons_self ..), fun g hg => h1 g (List.mem_cons_of_mem _ hg), h5, h4⟩
theorem dirB_iff (l : List Fi) : dirB l = true ↔ (∀ f ∈ l, wellB f = true) ∧ Sd l ∧ l.length ≤ 120 := by
 unfold dirB
 rw [Bool.and_eq_true, decide_eq_true_eq, goB_sd, and_assoc]
/-- What is ahead of a name, what has it, what is behind it. -/
theorem parted (a : ByteArray) : ∀ (l : List Fi), Sd l → ∃ P E S : List Fi, l = P ++ E ++ S ∧ (∀ x ∈ P, aheadN x.f0 a = true) ∧ (∀ x ∈ S, aheadN a x.f0 = true) ∧ (E = [] ∨ ∃ e, E = [e] ∧ e.f0 = a)
 | [], _ => ⟨[], [], [], rfl, fun _ h => (nomatch h), fun _ h => (nomatch h), .inl rfl⟩
 | f :: t, h => by
  obtain ⟨h1, h2⟩ := List.pairwise_cons.1 h
  cases hq : aheadN f.f0 a with
  | true =>
   obtain ⟨P, E, S, e1, e2, e3, e4⟩ := parted a t h2
   refine ⟨f :: P, E, S, by rw [e1]; rfl, fun x hx => ?_, e3, e4⟩
   rcases List.mem_cons.1 hx with rfl | hx
   ·exact hq
   ·exact e2 x hx
  | false =>
   cases hp : aheadN a f.f0 with
   | true =>
    refine ⟨[], [], f :: t, rfl, fun _ h => (nomatch h), fun x hx => ?_, .inl rfl⟩
    rcases List.mem_cons.1 hx with rfl | hx
    ·exact hp
    ·exact less_trans _ _ _ hp (h1 x hx)
   | false =>
    have he : f.f0 = a := ba_ext (less_eq hq hp)
    refine ⟨[], [f], t, rfl, fun _ h => (nomatch h), fun x hx => ?_, .inr ⟨f, rfl, he⟩⟩
    rw [← he]
    exact h1 x hx
theorem ahead_ne {a b : ByteArray} (h : aheadN a b = true) : (a.toList == b.toList) = false := by
 rw [beq_eq_false_iff_ne]
 intro e
 unfold aheadN at h
 rw [e, less_irrefl] at h
 cases h
theorem ahead_ne' {a b : ByteArray} (h : aheadN a b = true) : (b.toList == a.toList) = false := by
 have := ahead_ne h
 rw [beq_eq_false_iff_ne] at this ⊢
 exact fun e => this e.symm
section
variable {a : ByteArray} {P E S : List Fi}
theorem cnt_part (hP : ∀ x ∈ P, aheadN x.f0 a = true) (hS : ∀ x ∈ S, aheadN a x.f0 = true) (hE : E = [] ∨ ∃ e, E = [e] ∧ e.f0 = a) : cntN a (P ++ E ++ S) = P.length := by
 unfold cntN
 rw [List.countP_append, List.countP_append, List.countP_eq_length.2 hP, List.countP_eq_zero (l := S) |>.2 fun x hx => by rw [show aheadN x.f0 a = false from less_asymm (hS x hx)]; decide]
 have : E.countP (fun x => aheadN x.f0 a) = 0 := by
  rcases hE with rfl | ⟨e, rfl, he⟩
  ·rfl
  ·rw [List.countP_eq_zero]
   intro x hx
   obtain rfl := List.mem_singleton.1 hx
   rw [he, show aheadN a a = false from less_irrefl _]
   decide
 rw [this]
 rfl
theorem is_part (hP : ∀ x ∈ P, aheadN x.f0 a = true) (hS : ∀ x ∈ S, aheadN a x.f0 = true) (hE : E = [] ∨ ∃ e, E = [e] ∧ e.f0 = a) : isN a (P ++ E ++ S) = !E.isEmpty := by
 unfold isN
 rw [cnt_part hP hS hE]
 rcases hE with rfl | ⟨e, rfl, he⟩
 ·cases S with
  | nil => simp
  | cons s t =>
   have : rd_T43 (P ++ [] ++ s :: t) (P.length : Int) = s := by rw [List.append_nil]; exact rdF_mid P s t
   rw [this]
   have h1 := hS s (List.mem_cons_self ..)
   have h2 : cmpN s.f0 a = 1 := by unfold cmpN; rw [if_neg (by rw [show aheadN s.f0 a = false from less_asymm h1]; decide), if_pos h1]
   rw [h2]
   simp
 ·have : rd_T43 (P ++ [e] ++ S) (P.length : Int) = e := by rw [List.append_assoc]; exact rdF_mid P e S
  rw [this, he]
  have h2 : cmpN a a = 0 := by unfold cmpN; rw [if_neg (by rw [show aheadN a a = false from less_irrefl _]; decide), if_neg (by rw [show aheadN a a = false from less_irrefl _]; decide)]
  rw [h2]
  simp
theorem with_part {f : Fi} (hf : f.f0 = a) (hP : ∀ x ∈ P, aheadN x.f0 a = true) (hS : ∀ x ∈ S, aheadN a x.f0 = true) (hE : E = [] ∨ ∃ e, E = [e] ∧ e.f0 = a) : withV f (P ++ E ++ S) = P ++ f :: S := by
 unfold withV
 rw [hf, is_part hP hS hE, cnt_part hP hS hE]
 rcases hE with rfl | ⟨e, rfl, he⟩
 ·rw [if_neg (by decide), List.append_nil, List.take_left, List.drop_left]
 ·rw [if_pos (show (![e].isEmpty) = true from rfl), List.append_assoc, List.set_append_right _ _ (Nat.le_refl _), Nat.sub_self]
  rfl
theorem without_part (hP : ∀ x ∈ P, aheadN x.f0 a = true) (hS : ∀ x ∈ S, aheadN a x.f0 = true) (hE : E = [] ∨ ∃ e, E = [e] ∧ e.f0 = a) : withoutV a (P ++ E ++ S) = P ++ S := by
 unfold withoutV
 rw [List.filter_append, List.filter_append, List.filter_eq_self.2 fun x hx => by rw [ahead_ne (hP x hx)]; rfl, List.filter_eq_self (l := S) |>.2 fun x hx => by rw [ahead_ne' (hS x hx)]; rfl]
 have : E.filter (fun x => !(x.f0.toList == a.toList)) = [] := by
  rcases hE with rfl | ⟨e, rfl, he⟩
  ·rfl
  ·rw [List.filter_cons_of_neg (by rw [he]; simp), List.filter_nil]
 rw [this, List.append_nil]
end
theorem find_at {a : ByteArray} {P S : List Fi} {e : Fi} (hP : ∀ x ∈ P, (x.f0.toList == a.toList) = false) (he : e.f0 = a) : findV a (P ++ e :: S) = (e, true) := by
 have : (P ++ e :: S).findIdx? (fun x => x.f0.toList == a.toList) = some P.length := by
  rw [List.findIdx?_append, List.findIdx?_eq_none_iff.2 hP, List.findIdx?_cons, if_pos (by rw [he]; simp)]
  simp
 unfold findV
 rw [this]
 show (rd_T43 (P ++ e :: S) (P.length : Int), true) = _
 rw [rdF_mid P e S]
theorem find_none {a : ByteArray} {l : List Fi} (h : ∀ x ∈ l, (x.f0.toList == a.toList) = false) : findV a l = (z43, false) := by
 have : l.findIdx? (fun x => x.f0.toList == a.toList) = none := List.findIdx?_eq_none_iff.2 h
 unfold findV
 rw [this]
theorem find_sd {l : List Fi} (h : Sd l) {e : Fi} (he : e ∈ l) : findV e.f0 l = (e, true) := by
 obtain ⟨P, S, rfl⟩ := List.append_of_mem he
 refine find_at (fun x hx => ?_) rfl
 obtain ⟨_, _, h3⟩ := List.pairwise_append.1 h
 exact ahead_ne (h3 x hx e (List.mem_cons_self ..))
theorem mono_sd {l : List Fi} (h : Sd l) (name : ByteArray) : ∀ a b (ha : a < l.length) (hb : b < l.length), a ≤ b → aheadN l[b].f0 name = true → aheadN l[a].f0 name = true := fun a b ha hb hab hq => by
 rcases Nat.lt_or_ge a b with hlt | hge
 ·exact less_trans _ _ _ (List.pairwise_iff_getElem.1 h a b ha hb hlt) hq
 ·obtain rfl : a = b := by omega
  exact hq
end Go.Proofs.YtppbcankhkgpfaaDoor.Th
