-- laid by gprint.py (this session's own program) out of the translation: Lean checks it
import Derived.Test.YtjmplchknbgmgaaPSpanx0
import Derived.Test.YtjmplchknbgmgaaPSpanx3
namespace Go.Proofs.Ytjmplchknbgmgaa.PSpan
open Go.RowKit Go.Proofs.YtjmplchknbgmgaaW.PrintWords Go.Proofs.YtjmplchknbgmgaaW.PrintLast Go.Proofs.YtjmplchknbgmgaaW.PrintMore
attribute [local go_sem] max2_int min2_int max_two min_two max_three min_three max_four min_four   -- for this text's walks alone
set_option linter.unusedVariables false
set_option linter.unusedSimpArgs false

/-! ### span_Has: function 21, given -/
/-- The closure of Has. -/
theorem span_Has_1.calls (a1 : Int) (B : Nat) (x0 x1 : Int) (W : World) (hc : W.cell? ⟨B, 0, none⟩ = some (.int .i64 a1)) :
    Calls Try.prog 32 #[.agg #[.int .i64 x0, .int .i64 x1], .pointer (some ⟨B, 0, none⟩)] W fun e W' => e = .returned (.bool (decide (x0 ≤ a1) && decide (wrap64 (a1 - x0) < x1))) ∧ Below W.heap.size W W' := by
  have hu := Try.underlying32
  have hBW : B < W.heap.size := World.block_lt_of_cell? W _ hc
  have hne : B ≠ W.heap.size := by omega
  by_cases h1 : x0 ≤ a1
  · have h1' : decide (x0 ≤ a1) = true := decide_eq_true h1
    go_enter Try.func32, Try.ntmps32
    go_wp2
    all_goals (go_ret; exact ⟨by simp_all, (Below.refl _ _).alloc (Nat.le_refl _) _⟩)
  · have h1' : decide (x0 ≤ a1) = false := decide_eq_false h1
    go_enter Try.func32, Try.ntmps32
    go_wp2
    all_goals (go_ret; exact ⟨by simp_all, (Below.refl _ _).alloc (Nat.le_refl _) _⟩)
def span_Has.f (l0 : List S32) (a1 : Int) : Option Bool := some (l0.any fun s => decide (s.f0 ≤ a1) && decide (wrap64 (a1 - s.f0) < s.f1))
theorem span_Has.calls (A0 : Option Addr) (c0 : Nat) (l0 : List S32) (a1 : Int) (r : Bool) (w : World) (hr0 : Kd.C k32 w A0 l0.length l0) (hc0 : l0.length ≤ c0) (h : span_Has.f l0 a1 = some r) :
    Calls Try.prog 21 #[.slice A0 l0.length c0, .int .i64 a1] w fun e w' => e = .returned (.bool r) ∧ Below w.heap.size w w' := by
  have eg : ∀ args w, (callFunc 32 args).run Try.prog w = .ok (.enter 32 args) w := enters_of Try.func32 (by kernel_rfl) rfl
  have hcon := hasSpan.calls (fun s => decide (s.f0 ≤ a1) && decide (wrap64 (a1 - s.f0) < s.f1)) 32 #[.pointer (some ⟨w.heap.size, 0, none⟩)] eg A0 c0 l0 (w.alloc (.cells #[.int .i64 a1] 3))
    (Kd.C_alloc hr0 _) (fun W x cs hb hk => by
      obtain rfl := k32_open hk
      exact span_Has_1.calls a1 w.heap.size x.f0 x.f1 W ((hb.cell (p := ⟨w.heap.size, 0, none⟩) (by simp)).trans (by simp)))
  obtain rfl := Option.some.inj h
  clear hr0
  generalize l0.any _ = b at hcon ⊢
  go_enter Try.func21, Try.ntmps21
  go_wp2_with (go_at_call 31; refine hcon.mono ?_; rintro e w' ⟨rfl, hb'⟩)
  go_ret
  exact ⟨rfl, ((Below.refl _ w).alloc (Nat.le_refl _) _).trans (hb'.mono (by simp))⟩

end Go.Proofs.Ytjmplchknbgmgaa.PSpan
