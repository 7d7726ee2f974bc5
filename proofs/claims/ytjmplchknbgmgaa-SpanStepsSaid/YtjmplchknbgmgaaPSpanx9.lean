-- laid by gprint.py (this session's own program) out of the translation: Lean checks it
import Derived.Test.YtjmplchknbgmgaaPSpanx0
import Derived.Lib.SliceRun
namespace Go.Proofs.Ytjmplchknbgmgaa.PSpan
open Go.RowKit Go.Proofs.YtjmplchknbgmgaaW.PrintWords Go.Proofs.YtjmplchknbgmgaaW.PrintLast Go.Proofs.YtjmplchknbgmgaaW.PrintMore
attribute [local go_sem] max2_int min2_int max_two min_two max_three min_three max_four min_four   -- for this text's walks alone
set_option linter.unusedVariables false
set_option linter.unusedSimpArgs false

/-! ### part:spanclone -/
set_option maxHeartbeats 2000000 in
/-- slices.Clone of spans. -/
theorem cloneSpan.calls (A0 : Option Addr) (c0 : Nat) (l0 : List S32) (w : World) (hr0 : Kd.C k32 w A0 l0.length l0) (hl : l0.length < 8796093022208) :
    Calls Try.prog 34 #[.slice A0 l0.length c0] w fun e w' => ∃ v0_ : Value, e = .returned v0_ ∧ Kd.R k32 32 w' w.heap.size (fun _ => True) v0_ l0 ∧ Below w.heap.size w w' := by
  have q22 : ∀ (w : World) (a : Option Addr) (n c n' c' : Nat), (binOp .eql 22 (.slice a n c) (.slice none n' c')).run Try.prog w = .ok (.bool a.isNone) w := fun w a n c n' c' => Lib.run_eql_slice_nil w _ _ a n c n' c' Try.underlying22
  have HR0 := Aside0.mk hr0
  clear hr0
  cases A0 with
  | none =>
    have h0 : l0 = [] := by
      rcases Nat.eq_zero_or_pos l0.length with h | h
      · exact List.eq_nil_of_length_eq_zero h
      · obtain ⟨ad, he, _⟩ := HR0.out.2.2 h
        cases he
    subst h0
    go_enter Try.func34, Try.ntmps34
    go_wp2
    go_ret
    exact ⟨_, rfl, Kd.R_nil _ _ _ _ _, Below.refl _ _⟩
  | some ad =>
    go_enter Try.func34, Try.ntmps34
    go_wp2_with (at_builtin; refine Kd.R_append_rows k32 (w0 := w) w.heap.size rfl (.tmp 5) (.tmp 6) 22 32 (.agg #[(.int .i64 0), (.int .i64 0)]) 16 rfl Try.underlying22 info32 rfl (by decide) (by omega) (.slice (some ⟨w.heap.size, 0, none⟩) 0 0) ([] : List S32) l0 (some ad) l0.length c0 (fun _ => True) (fun _ => False) rfl rfl ?aO ?aR (fun _ _ h => h) (fun _ h => h.elim) ?aF ?aB ?aS ?aL ?_; (case aR => exact Kd.C_alloc HR0.out _); (case aB => exact (Below.refl _ w).alloc (Nat.le_refl _) _); (case aF => exact (fun _ _ => trivial)); (case aO => exact ⟨fun _ _ => trivial, [], World.ownsRow_made w #[] 0 (Nat.le_refl _) (Nat.zero_le _) (by simp), Reps.none _ _⟩); (case aS => exact below_size ((Below.refl _ w).alloc (Nat.le_refl _) _)); (case aL => simp; omega); intro v1 w1 ho hb hg hat)
    go_ret
    exact ⟨_, rfl, ho, hb⟩

end Go.Proofs.Ytjmplchknbgmgaa.PSpan
