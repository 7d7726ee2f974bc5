/- Proved: rootcellarlaw5.SpanTurns returns true for every input, and the input reads behind the call as it read before. Conditions: none but the statement's own. -/
-- laid by row.py (this session's own program)
import Derived.Test.YtjmplchknbgmgaaRows
import Derived.Test.YtjmplchknbgmgaaPSpanx26
import Derived.Test.YtjmplchknbgmgaaPureSpanTurns
import Derived.WalkKit
import Derived.ProofKit
import Derived.OpenShut
import Derived.ShutString
import Derived.ChangeOld
import Derived.Below
import Derived.SizedLaws
import Derived.Deep.SlicePairs
namespace Go.Proofs.Ytjmplchknbgmgaa.spanTurns
open Go.ChangeShapes Go.WideShapes Go.ChangeAt Go.RowKit Go.Proofs.Ytjmplchknbgmgaa.PSpan Go.Proofs.YtjmplchknbgmgaaW.PrintWords
open Go.ChangeMaps (open_string shut_string)
set_option linter.unusedVariables false
theorem own : ownKnob Try.prog.godebug = none := by kernel_rfl
theorem laidOut : laidOutB Try.prog = true := by kernel_rfl
theorem open_pairs22 {H : Type} {enc : TypeId × Value → H} {W : World} {sp : Nat → Bool} {fuel : Nat} {cs : List Value} {x : DataW H × List MemPlace} (h : DataW.trod enc Try.prog W 0 sp true fuel 22 cs = some x) :
    ∃ (a : Option Addr) (cap : Nat) (l : List S32), cs = [.slice a l.length cap] ∧ l.length ≤ cap ∧ Kd.C k32 W a l.length l ∧ ∀ s ∈ l, (Lit.int .i64 s.f0).wf = true ∧ (Lit.int .i64 s.f1).wf = true := by
  rcases Go.Deep.open_slice_pairs Try.underlying22 Try.underlying32 (by kernel_rfl) rfl rfl (by kernel_rfl) (by kernel_rfl) h with ⟨rfl, _⟩ | ⟨a, len, cap, m, n, V0, V1, D0, D1, P0, P1, rfl, _, hl, hm, hmm, _, hx⟩
  · exact ⟨none, 0, [], rfl, Nat.le_refl _, ⟨rfl, by simp, fun h => absurd h (by simp)⟩, by simp⟩
  · have hlm : len ≤ m := by rw [hmm]; split <;> omega
    have each : ∀ i, i < m → ∃ q : S32, W.cell? (a.add (i * 2)) = some (.int .i64 q.f0) ∧ W.cell? (a.add (i * 2 + 1)) = some (.int .i64 q.f1) ∧ (Lit.int .i64 q.f0).wf = true ∧ (Lit.int .i64 q.f1).wf = true := by
      intro i hi
      obtain ⟨h0, h1, t0, t1⟩ := hx i hi
      obtain ⟨n0, e0, _, y0⟩ := DataW.trod_int Try.underlying3 t0
      obtain ⟨n1, e1, _, y1⟩ := DataW.trod_int Try.underlying3 t1
      simp only [List.cons.injEq, and_true] at e0 e1
      rw [e0] at h0
      rw [e1] at h1
      exact ⟨⟨n0, n1⟩, h0, h1, y0, y1⟩
    obtain ⟨Q, hQ⟩ : ∃ Q : Nat → S32, ∀ i, i < m → W.cell? (a.add (i * 2)) = some (.int .i64 (Q i).f0) ∧ W.cell? (a.add (i * 2 + 1)) = some (.int .i64 (Q i).f1) ∧ (Lit.int .i64 (Q i).f0).wf = true ∧ (Lit.int .i64 (Q i).f1).wf = true :=
      ⟨fun i => if h : i < m then (each i h).choose else z32, fun i hi => by simp only [hi, dif_pos]; exact (each i hi).choose_spec⟩
    have hlen : ((List.range len).map Q).length = len := by simp
    refine ⟨some a, cap, (List.range len).map Q, by rw [hlen], by rw [hlen]; exact hl, ⟨rfl, by rw [hlen]; unfold maxLen at hm; omega, fun _ => ⟨a, rfl, fun j p hj => ?_⟩⟩, fun s hs => ?_⟩
    · obtain ⟨hjl, hjp⟩ := List.getElem?_eq_some_iff.1 hj
      have hj2 : j < len := by simpa using hjl
      have : Q j = p := by simpa using hjp
      obtain ⟨c0, c1, _, _⟩ := hQ j (by omega)
      rw [this] at c0 c1
      refine ⟨_, rfl, k32_mk W p, fun i u hu => ?_⟩
      match i, hu with
      | 0, hu => cases hu; exact c0
      | 1, hu => cases hu; exact c1
      | i + 2, hu => simp at hu
    · obtain ⟨i, hi, rfl⟩ := List.mem_map.1 hs
      have := hQ i (by have := List.mem_range.1 hi; omega)
      exact this.2.2
set_option maxRecDepth 100000 in
theorem lifted (os : Os) (started : os.Started) (H : Type) (enc : TypeId × Value → H) :
    ReturnsInHanded {} Try.checked os 8 .any (Rows.spanTurnsSpec.pre6 enc Try.prog Try.f8 Rows.spanTurnsRow.domain false) (Rows.spanTurnsSpec.post enc Try.prog Try.f8 false true false false) := by
  refine returnsInHanded_of_change_sized (C := Try.checked) own started (by kernel_rfl) Try.func8
    (ChangeSpec.witness6 (enc := enc) (C := Try.checked) false ⟨#[], #[.slice none 0 0, .int .i64 0], []⟩ 8 (by kernel_rfl) (by kernel_rfl) (by kernel_rfl) (by kernel_rfl)) ?_
  intro W base args ds gs before hval0 hW hcnd hsz0 _
  have hsz : (DataW.weightsEach Try.prog (Try.f8.params.toList ++ Rows.spanTurnsSpec.plain.varTypes Try.prog) (ds ++ gs)).all (· ≤ reachBytes) = true := hsz0
  have hval : ∀ (j : Nat) t v, Try.f8.params[j]? = some t → args[j]? = some v → Value.okWide Try.prog W .any base t v := hval0
  have hW' := hW
  obtain ⟨p, q, hA0, hV, rfl, hfz, hnd⟩ := hW
  have hA : DataW.TrodAll enc Try.prog W 0 (fun _ => true) true Try.f8.params.toList args.toList ds p := hA0
  rw [Try.params8] at hA hval hsz
  obtain ⟨v0, vs0, d0, ds0, p0, q0, hargs, rfl, rfl, h0, r0⟩ := trodAll_cons hA
  obtain ⟨v1, vs1, d1, ds1, p1, q1, rfl, rfl, rfl, h1, r1⟩ := trodAll_cons r0
  obtain ⟨rfl, rfl, rfl⟩ := trodAll_nil r1
  obtain rfl : args = #[v0, v1] := by cases args; simp_all
  obtain ⟨rfl, rfl⟩ := trodVars_none hV
  obtain ⟨a0, len0, cap0, rfl⟩ := okWide_slice Try.underlying22 (hval 0 22 v0 rfl rfl)
  have k0 := h0
  have lt0 : ∀ x ∈ p0, x.block < W.heap.size := by obtain ⟨m, hm⟩ := k0; exact DataW.trod_lt m _ _ _ hm
  obtain ⟨l0, hl0, hc0, hC0, w0⟩ : ∃ l : List S32, len0 = l.length ∧ l.length ≤ cap0 ∧ Kd.C k32 W a0 l.length l ∧ ∀ s ∈ l, (Lit.int .i64 s.f0).wf = true ∧ (Lit.int .i64 s.f1).wf = true := by
    obtain ⟨fuel, hf⟩ := h0
    obtain ⟨a', c', l', e1, e2, e3, e4⟩ := open_pairs22 hf
    simp [Value.cells] at e1
    obtain ⟨rfl, rfl, rfl⟩ := e1
    exact ⟨l', rfl, e2, e3, e4⟩
  subst hl0
  obtain ⟨a1, rfl, rfl, rfl, w1⟩ := open_int Try.underlying3 (hval 1 3 v1 rfl rfl) h1
  clear hA0 hval0 hsz0 hsz
  obtain ⟨k, hk⟩ := Pure.SpanTurns l0 a1 w0 w1
  refine (rootcellarlaw5_SpanTurns.calls k a0 cap0 l0 a1 true W hC0 hc0 hk).mono fun e W' ⟨he, bel⟩ => ?_
  subst he
  exact ⟨_, rfl, _, _, _, [], _, [], hW', trodAll_mk1 (shut_bool Try.underlying4 _), (trodAll_cons_mk (Below.trod laidOut (by kernel_rfl) (of_decide_eq_true (by kernel_rfl)) k0 bel lt0) (trodAll_cons_mk (shut_int Try.underlying3 w1) trodAll_mk0)), rfl, bel.frame _, fun h => by cases h⟩
theorem over : Rows.spanTurnsRow.holds Try.pinned (OpenSpec.ofChange Rows.spanTurnsSpec) :=
  OpenClaim.holds_of_wide 8 Try.f8 rfl rfl rfl rfl rfl rfl rfl ⟨rfl, rfl, rfl, rfl, rfl⟩ rfl rfl rfl rfl rfl (by kernel_rfl) Try.func8 (by kernel_rfl)
    (of_decide_eq_true (by kernel_rfl)) (by unfold Func.isWrapper; first | (rw [if_pos (by decide +kernel)]; kernel_rfl) | (rw [if_neg (by decide +kernel)]; exact ⟨rfl, rfl⟩))
    (fun os started H enc _ => lifted os started H enc)
theorem proved : Rows.SpanTurnsSaid := over
#print axioms proved
end Go.Proofs.Ytjmplchknbgmgaa.spanTurns
namespace Go.Proofs.Ytjmplchknbgmgaa
/-- The row, under a short name, for the claim. -/
theorem spanTurns_holds : Rows.SpanTurnsSaid := spanTurns.proved
end Go.Proofs.Ytjmplchknbgmgaa
