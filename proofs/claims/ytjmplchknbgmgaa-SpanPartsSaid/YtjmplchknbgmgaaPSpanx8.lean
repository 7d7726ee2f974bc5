-- laid by gprint.py (this session's own program) out of the translation: Lean checks it
import Derived.Test.YtjmplchknbgmgaaPSpanx0
import Derived.Test.YtjmplchknbgmgaaPSpanx7
import Derived.Test.YtjmplchknbgmgaaLayS
namespace Go.Proofs.Ytjmplchknbgmgaa.PSpan
open Go.RowKit Go.Proofs.YtjmplchknbgmgaaW.PrintWords Go.Proofs.YtjmplchknbgmgaaW.PrintLast Go.Proofs.YtjmplchknbgmgaaW.PrintMore
attribute [local go_sem] max2_int min2_int max_two min_two max_three min_three max_four min_four   -- for this text's walks alone
set_option linter.unusedVariables false
set_option linter.unusedSimpArgs false

/-! ### part:spansort -/
section
open Go.Sort
def cmpI (x y : Int) : Int := if x < y then -1 else if y < x then 1 else 0
def encL (x : S32) : List Value := [.int .i64 x.f0, .int .i64 x.f1]
theorem ltCmp (x y : S32) : ltOf (fun x y : S32 => cmpI x.f0 y.f0) x y = decide (x.f0 < y.f0) := by
  unfold ltOf cmpI
  by_cases h1 : x.f0 < y.f0
  · simp [h1]
  · by_cases h2 : y.f0 < x.f0 <;> simp [h1, h2]
theorem swoCmp : SWO (ltOf fun x y : S32 => cmpI x.f0 y.f0) where
  irrefl x := by rw [ltCmp]; simp
  trans x y z h1 h2 := by rw [ltCmp] at *; simp at *; omega
  ntrans x y z h1 h2 := by rw [ltCmp] at *; simp at *; omega
set_option maxHeartbeats 1000000 in
/-- The closure by which spans are sorted. -/
theorem span_sorted_2.calls (x y : S32) (W : World) : Calls Try.prog 36 #[.agg #[.int .i64 x.f0, .int .i64 x.f1], .agg #[.int .i64 y.f0, .int .i64 y.f1]] W fun e w' => e = .returned (.int .i64 (cmpI x.f0 y.f0)) ∧ ∃ q os', w' = grow (W.drewN q) os' := by
  have hu := Try.underlying32
  unfold cmpI
  by_cases h1 : x.f0 < y.f0
  · have b1 : decide (x.f0 < y.f0) = true := decide_eq_true h1
    rw [if_pos h1]
    clear h1
    go_enter Try.func36, Try.ntmps36
    go_wp2
    go_ret
    exact ⟨rfl, 0, _, by rw [alloc_eq_grow, alloc_eq_grow, grow_grow]; rfl⟩
  · have b1 : decide (x.f0 < y.f0) = false := decide_eq_false h1
    rw [if_neg h1]
    by_cases h2 : y.f0 < x.f0
    · have b2 : decide (y.f0 < x.f0) = true := decide_eq_true h2
      rw [if_pos h2]
      clear h1 h2
      go_enter Try.func36, Try.ntmps36
      go_wp2
      go_ret
      exact ⟨rfl, 0, _, by rw [alloc_eq_grow, alloc_eq_grow, grow_grow]; rfl⟩
    · have b2 : decide (y.f0 < x.f0) = false := decide_eq_false h2
      rw [if_neg h2]
      clear h1 h2
      go_enter Try.func36, Try.ntmps36
      go_wp2
      go_ret
      exact ⟨rfl, 0, _, by rw [alloc_eq_grow, alloc_eq_grow, grow_grow]; rfl⟩
theorem sortedIn_list [Inhabited S32] (d : Array S32) (h : SortedIn (ltOf fun x y : S32 => cmpI x.f0 y.f0) 0 d.size d) : d.toList.Pairwise (fun a b => a.f0 ≤ b.f0) := by
  rw [List.pairwise_iff_getElem]
  intro i j hi hj hij
  have h1 := h i j (Nat.zero_le _) hij (by simpa using hj)
  rw [ltCmp] at h1
  have hi' : i < d.size := by simpa using hi
  have hj' : j < d.size := by simpa using hj
  rw [getElem!_pos d i hi', getElem!_pos d j hj'] at h1
  simp at h1 ⊢
  exact h1
set_option maxHeartbeats 1000000 in
theorem sortSpan.calls (v : Value) (l0 : List S32) (w : World) (base : Nat) (hR : Kd.R k32 32 w base (fun _ => True) v l0) (hl : l0.length < 4611686018427387904) :
    Calls Try.prog 35 #[v, .func (.func 36) #[] #[]] w fun e w' => e = .returned (.tuple #[]) ∧ ∃ l1 : List S32, l1.Perm l0 ∧ l1.Pairwise (fun a b => a.f0 ≤ b.f0) ∧ Kd.R k32 32 w' base (fun _ => True) v l1 ∧ w.grownBy w' v.ownBlock := by
  haveI : Inhabited S32 := ⟨z32⟩
  have eg : ∀ args w, (callFunc 36 args).run Try.prog w = .ok (.enter 36 args) w := enters_of Try.func36 (by kernel_rfl) rfl
  by_cases h0 : l0 = []
  · subst h0
    obtain ⟨A, c, rfl⟩ := Kd.R_slice hR
    refine (AnyF.slices_SortFunc_none Try.laySort A c (.func (.func 36) #[] #[]) w).mono ?_
    rintro e w' ⟨rfl, rfl⟩
    exact ⟨rfl, [], List.Perm.refl _, List.Pairwise.nil, hR, World.grownBy.refl _ _⟩
  · obtain ⟨g, c, rfl, hgb, hgl, hgc⟩ := Kd.R_form hR (List.length_pos_iff.2 h0)
    obtain ⟨_, inner, ho, hr⟩ := hR
    have hr' : Reps (fun x cs => cs = encL x) 2 l0 inner := ⟨hr.1, fun j p hj => k32_openM (hr.2 j p hj)⟩
    have hH : HoldsK encL 2 w g 0 l0.toArray := hw_holds (fun _ => rfl) ho hr'
    have hcon := AnyQ.slices_SortFunc Try.laySort 2 Try.isAgg32 Try.sizeOf32 encL (fun _ => rfl) (fun x v hv => by simp [encL] at hv; rcases hv with hv | hv <;> (rw [hv]; rfl)) (fun x y => cmpI x.f0 y.f0) swoCmp 36 #[] g 0 c l0.toArray w eg
      (fun _ _ _ _ x y => span_sorted_2.calls x y _) hH hgl (by simpa using hl)
    refine Calls.mono hcon ?_
    rintro e w' ⟨rfl, d', n, os, hp, hs, rfl⟩
    obtain ⟨hp1, _, hp3⟩ := hp
    have hs1 : d'.size = l0.length := by simpa using hp1
    obtain ⟨h1, h2⟩ := hw_sorted (enc := encL) (k := 2) (m := n) (os := os) (fun _ => rfl) ho hs1
    refine ⟨rfl, d'.toList, ?_, sortedIn_list d' (by rw [hp1]; exact hs), ⟨fun _ _ => trivial, _, by rw [show d'.toList.length = l0.length by simpa using hs1]; exact h1, ?_⟩, h2⟩
    · have e1 : (d'.extract 0 (l0.toArray).size).toList = d'.toList := by
        rw [show (l0.toArray).size = d'.size by simp [hs1], Array.extract_size]
      have e2 : ((l0.toArray).extract 0 (l0.toArray).size).toList = l0 := by simp
      rw [e1, e2] at hp3
      exact hp3
    · have h3 := hw_reps (enc := encL) (k := 2) d' (fun _ => rfl)
      exact ⟨h3.1, fun j p hj => by have h4 := h3.2 j p hj; exact h4 ▸ k32_mkM _ _ _ p⟩
end

end Go.Proofs.Ytjmplchknbgmgaa.PSpan
