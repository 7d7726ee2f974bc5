-- laid by gprint.py (this session's own program) out of the translation: Lean checks it
import Derived.Test.YtjmplchknbgmgaaPSpanx0
import Derived.Test.YtjmplchknbgmgaaPSpanx5
import Derived.Test.YtjmplchknbgmgaaPSpanx6
import Derived.Test.YtjmplchknbgmgaaPSpanx10
import Derived.Test.YtjmplchknbgmgaaPSpanx11
namespace Go.Proofs.Ytjmplchknbgmgaa.PSpan
open Go.RowKit Go.Proofs.YtjmplchknbgmgaaW.PrintWords Go.Proofs.YtjmplchknbgmgaaW.PrintLast Go.Proofs.YtjmplchknbgmgaaW.PrintMore
attribute [local go_sem] max2_int min2_int max_two min_two max_three min_three max_four min_four   -- for this text's walks alone
set_option linter.unusedVariables false
set_option linter.unusedSimpArgs false

/-! ### span_Rest: function 17, given -/
def span_Rest.f (l0 : List S32) (a1 : Int) : Option (List S32 × Int) := if l0.length < 8796092000000 then (if (sortedF l0 a1).2 = 0 then some (joinF (gapsF a1 (sortedF l0 a1).1), 0) else some ([], (sortedF l0 a1).2)) else none
theorem span_Rest.calls (A0 : Option Addr) (c0 : Nat) (l0 : List S32) (a1 : Int) (r1 : List S32) (r2 : Int) (w : World) (hr0 : Kd.C k32 w A0 l0.length l0) (hc0 : l0.length ≤ c0) (h : span_Rest.f l0 a1 = some (r1, r2)) :
    Calls Try.prog 17 #[.slice A0 l0.length c0, .int .i64 a1] w fun e w' => ∃ v0_ : Value, e = .returned (.tuple #[v0_, .int .i64 r2]) ∧ Kd.R k32 32 w' w.heap.size (fun _ => True) v0_ r1 ∧ Below w.heap.size w w' := by
  unfold span_Rest.f at h
  by_cases hl : l0.length < 8796092000000
  · rw [if_pos hl] at h
    have HS := Aside0.mk (span_sortedH.calls A0 c0 l0 a1 w hr0 (by omega))
    have hlen := sortedF_cases l0 a1
    clear hr0 hc0
    generalize sortedF l0 a1 = res at h HS hlen
    obtain ⟨zs, er⟩ := res
    dsimp only at h HS hlen
    by_cases he : er = 0
    · rw [if_pos he] at h
      obtain ⟨rfl, rfl⟩ := Prod.mk.inj (Option.some.inj h)
      have HL := Aside0.mk (show zs.length + 1 < 8796093000000 by rw [hlen he]; omega)
      clear h hlen hl
      subst he
      go_enter Try.func17, Try.ntmps17
      go_wp2_with (first | (go_at_call 23; refine HS.out.mono ?_; rintro e w1 ⟨v0, rfl, hR, hb⟩; obtain ⟨A1, c1, rfl⟩ := Kd.R_slice hR; have HC := Aside0.mk (Kd.R_reads' hR).2.2; have HB := Aside0.mk hb; clear hR hb) | (go_at_call 30; refine (gapsSpan.calls _ _ _ _ _).mono ?_; rintro e w2 ⟨rfl, rfl⟩) | (go_at_call 24; refine (joinedGaps.calls A1 c1 zs a1 w1 HC.out HL.out).mono ?_; rintro e w3 ⟨v3, rfl, hR3, hb3⟩))
      go_ret2
      exact ⟨_, rfl, Kd.R_lower hR3 (below_size HB.out), below_step HB.out hb3⟩
    · rw [if_neg he] at h
      obtain ⟨rfl, rfl⟩ := Prod.mk.inj (Option.some.inj h)
      have hb : decide (er = 0) = false := decide_eq_false he
      clear h hlen hl
      go_enter Try.func17, Try.ntmps17
      go_wp2_with (go_at_call 23; refine HS.out.mono ?_; rintro e w1 ⟨v0, rfl, hR, hb⟩; have HB := Aside0.mk hb; clear hR hb)
      go_ret2
      exact ⟨_, rfl, Kd.R_nil _ _ _ _ _, HB.out⟩
  · rw [if_neg hl] at h
    cases h


end Go.Proofs.Ytjmplchknbgmgaa.PSpan
