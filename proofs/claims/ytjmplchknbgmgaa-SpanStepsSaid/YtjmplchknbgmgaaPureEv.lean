import Derived.RowKit
namespace Go.Proofs.Ytjmplchknbgmgaa.Th
/-! Printed functions have rounds: what one tells from some number of rounds on. -/
def Evt {α : Type} (g : Nat → Option α) (v : α) : Prop := ∃ K, ∀ k, K ≤ k → g k = some v
theorem Evt.of {α : Type} {g : Nat → Option α} {v : α} (h : ∀ k, g k = some v) : Evt g v := ⟨0, fun k _ => h k⟩
theorem Evt.bind {α β : Type} {g : Nat → Option α} {h : Nat → α → Option β} {a : α} {b : β} (hg : Evt g a) (hh : Evt (fun k => h k a) b) : Evt (fun k => (g k).bind (h k)) b := by
  obtain ⟨K, hK⟩ := hg
  obtain ⟨L, hL⟩ := hh
  exact ⟨max K L, fun k hk => by show (g k).bind (h k) = some b; rw [hK k (by omega)]; exact hL k (by omega)⟩
theorem Evt.step {α : Type} {g g' : Nat → Option α} {v : α} (h : ∀ k, g' (k + 1) = g k) (hg : Evt g v) : Evt g' v := by
  obtain ⟨K, hK⟩ := hg
  refine ⟨K + 1, fun k hk => ?_⟩
  obtain ⟨j, rfl⟩ : ∃ j, k = j + 1 := ⟨k - 1, by omega⟩
  rw [h]
  exact hK j (by omega)
theorem Evt.congr {α : Type} {g g' : Nat → Option α} {v : α} (h : ∀ k, g' k = g k) (hg : Evt g v) : Evt g' v := by
  obtain ⟨K, hK⟩ := hg
  exact ⟨K, fun k hk => (h k).trans (hK k hk)⟩
theorem Evt.pos {α : Type} {c : Prop} [Decidable c] {g g' : Nat → Option α} {v : α} (hc : c) (h : Evt g v) : Evt (fun k => if c then g k else g' k) v := Evt.congr (fun k => if_pos hc) h
theorem Evt.neg {α : Type} {c : Prop} [Decidable c] {g g' : Nat → Option α} {v : α} (hc : ¬ c) (h : Evt g' v) : Evt (fun k => if c then g k else g' k) v := Evt.congr (fun k => if_neg hc) h
theorem Evt.val {α : Type} (v : α) : Evt (fun _ => some v) v := Evt.of fun _ => rfl
theorem Evt.val' {α : Type} {v v' : α} (h : v' = v) : Evt (fun _ => some v') v := Evt.of fun _ => by rw [h]
theorem Evt.get {α : Type} {g : Nat → Option α} {v : α} (h : Evt g v) : ∃ k, g k = some v := by
  obtain ⟨K, hK⟩ := h
  exact ⟨K, hK K (Nat.le_refl _)⟩
theorem Evt.bind' {α β : Type} {x : Option α} {h : Nat → α → Option β} {a : α} {b : β} (hg : x = some a) (hh : Evt (fun k => h k a) b) : Evt (fun k => x.bind (h k)) b := Evt.bind (Evt.of fun _ => hg) hh
theorem wrap64_id {n : Int} (h1 : -9223372036854775808 ≤ n) (h2 : n < 9223372036854775808) : Go.RowKit.wrap64 n = n := by unfold Go.RowKit.wrap64; omega
end Go.Proofs.Ytjmplchknbgmgaa.Th
