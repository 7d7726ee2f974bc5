-- laid by gprint.py (this session's own program) out of the translation: Lean checks it
import Derived.Test.YtjmplchknbgmgaaPSpanx0
import Derived.Test.YtjmplchknbgmgaaPSpanx5
import Derived.Test.YtjmplchknbgmgaaPSpanx6
import Derived.Test.YtjmplchknbgmgaaPSpanx10
namespace Go.Proofs.Ytjmplchknbgmgaa.PSpan
open Go.RowKit Go.Proofs.YtjmplchknbgmgaaW.PrintWords Go.Proofs.YtjmplchknbgmgaaW.PrintLast Go.Proofs.YtjmplchknbgmgaaW.PrintMore
attribute [local go_sem] max2_int min2_int max_two min_two max_three min_three max_four min_four   -- for this text's walks alone
set_option linter.unusedVariables false
set_option linter.unusedSimpArgs false

/-! ### part:spanends -/
theorem valsSpan.calls (A1 : Option Addr) (n1 c1 : Nat) (w : World) : Calls Try.prog 25 #[.slice A1 n1 c1] w fun e w' => e = .returned (.func (.func 38) #[] #[.pointer (some ⟨w.heap.size, 0, none⟩)]) ∧ w' = w.alloc (.cells #[.slice A1 n1 c1] 22) := by
  go_enter Try.func25, Try.ntmps25
  go_wp2
  go_ret
  exact ⟨rfl, rfl⟩
theorem gapsSpan.calls (A1 : Option Addr) (n1 c1 : Nat) (size : Int) (w : World) : Calls Try.prog 30 #[.slice A1 n1 c1, .int .i64 size] w fun e w' => e = .returned (.func (.func 40) #[] #[.pointer (some ⟨w.heap.size, 0, none⟩), .pointer (some ⟨w.heap.size + 1, 0, none⟩)]) ∧ w' = (w.alloc (.cells #[.slice A1 n1 c1] 22)).alloc (.cells #[.int .i64 size] 3) := by
  go_enter Try.func30, Try.ntmps30
  go_wp2
  go_ret
  exact ⟨rfl, rfl⟩
theorem joinedVals.calls (A1 : Option Addr) (c1 : Nat) (zs : List S32) (w : World) (hC : Kd.C k32 w A1 zs.length zs) (hl : zs.length < 8796093000000) :
    Calls Try.prog 24 #[.func (.func 38) #[] #[.pointer (some ⟨w.heap.size, 0, none⟩)]] (w.alloc (.cells #[.slice A1 zs.length c1] 22)) fun e W' => ∃ v, e = .returned v ∧ Kd.R k32 32 W' w.heap.size (fun _ => True) v (joinF zs) ∧ Below w.heap.size w W' := by
  have eg : ∀ args w, (callFunc 38 args).run Try.prog w = .ok (.enter 38 args) w := enters_of Try.func38 (by kernel_rfl) rfl
  have hb1 : Below w.heap.size w (w.alloc (.cells #[.slice A1 zs.length c1] 22)) := (Below.refl _ w).alloc (Nat.le_refl _) _
  have hC1 := Kd.C_alloc hC (.cells #[.slice A1 zs.length c1] 22)
  have hB : (w.alloc (.cells #[.slice A1 zs.length c1] 22)).cell? ⟨w.heap.size, 0, none⟩ = some (.slice A1 zs.length c1) := by simp
  generalize hW : w.alloc (.cells #[.slice A1 zs.length c1] 22) = W1 at hb1 hC1 hB ⊢
  have hs1 : w.heap.size < W1.heap.size := World.block_lt_of_cell? W1 _ hB
  refine (callsIn_wide (n := 2)).1 ((joined_in Fence.wide 2 trivial rfl (Nat.le_refl _) _ _ trivial eg zs (fun _ => True) zs.length hl W1 (fun l J Jx W hb hJ hJx hY h0 => ?_)).mono ?_)
  · exact vals1_in Fence.wide 1 trivial rfl (Nat.le_refl _) l w.heap.size W1.heap.size c1 A1 zs W1 (Nat.le_refl _) J Jx hC1 hY W hJ hb.size hb ((hb.cell (p := ⟨w.heap.size, 0, none⟩) hs1).trans hB) h0
  · rintro e W' ⟨v, rfl, hR, hb2⟩
    exact ⟨v, rfl, Kd.R_lower hR (Nat.le_of_lt hs1), below_step hb1 hb2⟩
theorem joinedGaps.calls (A1 : Option Addr) (c1 : Nat) (zs : List S32) (size : Int) (w : World) (hC : Kd.C k32 w A1 zs.length zs) (hl : zs.length + 1 < 8796093000000) :
    Calls Try.prog 24 #[.func (.func 40) #[] #[.pointer (some ⟨w.heap.size, 0, none⟩), .pointer (some ⟨w.heap.size + 1, 0, none⟩)]] ((w.alloc (.cells #[.slice A1 zs.length c1] 22)).alloc (.cells #[.int .i64 size] 3)) fun e W' => ∃ v, e = .returned v ∧ Kd.R k32 32 W' w.heap.size (fun _ => True) v (joinF (gapsF size zs)) ∧ Below w.heap.size w W' := by
  have eg : ∀ args w, (callFunc 40 args).run Try.prog w = .ok (.enter 40 args) w := enters_of Try.func40 (by kernel_rfl) rfl
  have hb1 : Below w.heap.size w ((w.alloc (.cells #[.slice A1 zs.length c1] 22)).alloc (.cells #[.int .i64 size] 3)) := ((Below.refl _ w).alloc (Nat.le_refl _) _).alloc (by simp) _
  have hC1 := Kd.C_alloc (Kd.C_alloc hC (.cells #[.slice A1 zs.length c1] 22)) (.cells #[.int .i64 size] 3)
  have hB : ((w.alloc (.cells #[.slice A1 zs.length c1] 22)).alloc (.cells #[.int .i64 size] 3)).cell? ⟨w.heap.size, 0, none⟩ = some (.slice A1 zs.length c1) := by
    rw [((Below.refl _ (w.alloc (.cells #[.slice A1 zs.length c1] 22))).alloc (Nat.le_refl _) _).cell (by simp)]
    simp
  have hZ : ((w.alloc (.cells #[.slice A1 zs.length c1] 22)).alloc (.cells #[.int .i64 size] 3)).cell? ⟨w.heap.size + 1, 0, none⟩ = some (.int .i64 size) := by
    simp
  generalize hW : (w.alloc (.cells #[.slice A1 zs.length c1] 22)).alloc (.cells #[.int .i64 size] 3) = W1 at hb1 hC1 hB hZ ⊢
  have hs1 : w.heap.size < W1.heap.size := World.block_lt_of_cell? W1 _ hB
  have hs2 : w.heap.size + 1 < W1.heap.size := World.block_lt_of_cell? W1 _ hZ
  refine (callsIn_wide (n := 2)).1 ((joined_in Fence.wide 2 trivial rfl (Nat.le_refl _) _ _ trivial eg (gapsF size zs) (fun _ => True) (zs.length + 1) hl W1 (fun l J Jx W hb hJ hJx hY h0 => ?_)).mono ?_)
  · exact gaps1_in Fence.wide 1 trivial rfl (Nat.le_refl _) l w.heap.size (w.heap.size + 1) W1.heap.size c1 A1 zs size W1 (Nat.le_refl _) hs2 J Jx hC1 hY W hJ hb.size hb ((hb.cell (p := ⟨w.heap.size, 0, none⟩) hs1).trans hB) ((hb.cell (p := ⟨w.heap.size + 1, 0, none⟩) hs2).trans hZ) h0
  · rintro e W' ⟨v, rfl, hR, hb2⟩
    exact ⟨v, rfl, Kd.R_lower hR (Nat.le_of_lt hs1), below_step hb1 hb2⟩
theorem sortedF_cases (l0 : List S32) (a1 : Int) : (sortedF l0 a1).2 = 0 → (sortedF l0 a1).1.length = l0.length := by
  unfold sortedF
  split
  · intro h; cases h
  · split
    · intro _; exact (sortF_perm l0).length_eq
    · intro h; cases h

end Go.Proofs.Ytjmplchknbgmgaa.PSpan
