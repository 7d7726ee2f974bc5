-- laid by gprint.py (this session's own program) out of the translation: Lean checks it
import Derived.Test.YtjmplchknbgmgaaPSpanx0
import Derived.Test.YtjmplchknbgmgaaPSpanx4
import Derived.Test.YtjmplchknbgmgaaPSpanx5
import Derived.RangeFuncBox
import Derived.RangeFuncLeaves
import Derived.RangeFuncCalls
import Derived.Shelf.Abstract
import Derived.Shelf.RegionOpen
import Derived.OwnWalkIn
import Derived.TacticsInMore
import Derived.LoopNIn
import Derived.LoopIn
import Derived.Outline
import Derived.Deep.DeepMust
namespace Go.Proofs.Ytjmplchknbgmgaa.PSpan
open Go.RowKit Go.Proofs.YtjmplchknbgmgaaW.PrintWords Go.Proofs.YtjmplchknbgmgaaW.PrintLast Go.Proofs.YtjmplchknbgmgaaW.PrintMore
attribute [local go_sem] max2_int min2_int max_two min_two max_three min_three max_four min_four   -- for this text's walks alone
set_option linter.unusedVariables false
set_option linter.unusedSimpArgs false

/-! ### part:spanjoin -/
attribute [local go_sem] Oper.semAt_some
open Go.Shelf
def joinStep (l : List S32) (s : S32) : List S32 := match l.getLast? with
  | some t => if wrap64 (t.f0 + t.f1) = s.f0 then l.dropLast ++ [⟨t.f0, wrap64 (t.f1 + s.f1)⟩] else l ++ [s]
  | none => [s]
def joinF (l : List S32) : List S32 := l.foldl joinStep []
theorem joinStep_len (l : List S32) (s : S32) : (joinStep l s).length ≤ l.length + 1 := by
  unfold joinStep
  split
  · split <;> simp
  · simp
theorem joinF_len (l : List S32) : (joinF l).length ≤ l.length := by
  unfold joinF
  suffices h : ∀ a, (l.foldl joinStep a).length ≤ a.length + l.length by simpa using h []
  induction l with
  | nil => simp
  | cons s t ih =>
    intro a
    have h1 := ih (joinStep a s)
    have h2 := joinStep_len a s
    simp only [List.foldl_cons, List.length_cons]
    omega
theorem own_ltW1 {w : World} {base : Nat} {v : Value} {xs : List S32} (h : Kd.R k32 32 w base (fun _ => True) v xs) : ∀ k, v.ownBlock = some k → k < w.heap.size := Kd.R_lt h
theorem cells_two_new (w : World) (a b : Value) (T : TypeId) : ∀ j u, ([a, b] : List Value)[j]? = some u → (w.alloc (.cells #[a, b] T)).cell? ((⟨w.heap.size, 0, none⟩ : Addr).add j) = some u := by
  intro j u h
  rw [add_plain]
  have hb := World.alloc_heap_new w (.cells #[a, b] T)
  match j, h with
  | 0, h => simp at h; subst h; simp only [World.cell?, hb]; rfl
  | 1, h => simp at h; subst h; simp only [World.cell?, hb]; rfl
  | j + 2, h => simp at h
theorem joinF_snoc (l : List S32) (s : S32) : joinF (l ++ [s]) = joinStep (joinF l) s := by simp [joinF]
set_option maxRecDepth 100000 in
set_option maxHeartbeats 4000000 in
/-- joined: spans that touch are put together. -/
theorem joined_in (F : Fence) (n : Nat) (h24 : F.fn 24) (hro : F.round = none) (hn : 2 ≤ n) (gf : Nat) (lb : Array Value) (hFg : F.fn gf) (eg : ∀ args w, (callFunc gf args).run Try.prog w = .ok (.enter gf args) w) (zs : List S32) (Sp : List S32 → Prop) (N : Nat) (hN : N < 8796093000000) (w : World)
    (hseq : SeqStopsP F (n - 1) Try.prog gf lb encS w.heap.size (fun ys => ys = zs) Sp N w) :
    CallsIn F n Try.prog 24 #[.func (.func gf) #[] lb] w fun e W' => ∃ v, e = .returned v ∧ Kd.R k32 32 W' w.heap.size (fun _ => True) v (joinF zs) ∧ Below w.heap.size w W' := by
  have hu := Try.underlying32
  obtain ⟨i0, hi, hz0, hz1, hz2⟩ := info_parts info32
  refine callsIn_of_wp_marks Try.func24 rfl h24 ?_ hro
  simp only [Try.ntmps24, List.size_toArray, List.length_cons, List.length_nil, Nat.reduceAdd, Nat.reduceSub, Array.replicate_succ, Array.replicate_zero, List.push_toArray, List.append_toArray, List.nil_append, List.cons_append]
  gi_wp2
  have bO := Boxed.new w 22 (.slice none 0 0)
  have hB0 : Below w.heap.size w (w.alloc (.cells #[.slice none 0 0] 22)) := (Below.refl _ w).alloc (Nat.le_refl _) _
  refine wpIn_rangeFunc_ownP hro (by omega) (gf := gf) (lb := lb) rfl hFg eg hseq (by simp) hB0 (fun _ => rfl)
    (fun pre W => (∃ v, Boxed W w.heap.size 22 v ∧ Kd.R k32 32 W w.heap.size (fun _ => True) v (joinF pre)) ∧ Below w.heap.size w W)
    (fun _ _ _ => False)
    (OwnFrom.and (fun s A B row hs hg hr => by
      obtain ⟨v, h1, h2⟩ := hs
      refine ⟨v, h1.kept hg (fun e => ?_), R_ownGrown h2 hg (fun r e => (hr r e).2)⟩
      obtain ⟨_, o, ho, hc⟩ := hr _ e.symm
      rw [show A.heap[w.heap.size]? = _ from h1] at ho; cases ho; cases hc) (ownFrom_below (Nat.le_refl _) (by simp)))
    (fun _ _ _ _ _ hs _ _ => hs)
    ⟨⟨_, bO, Kd.R_nil _ _ _ _ _⟩, hB0⟩
    (fun x a' m W => ∃ Bx, m ≤ Bx ∧ W.heap[Bx]? = some (.cells #[.int .i64 x.f0, .int .i64 x.f1] 32 (0, 0)) ∧ a' = { tmps := #[.func (.func gf) #[] lb, undef, .slice none 0 0, .pointer (some ⟨w.heap.size, 0, none⟩), .pointer (some ⟨Bx, 0, none⟩), undef, .func (.func gf) #[] lb, .agg #[.int .i64 x.f0, .int .i64 x.f1], undef, undef, undef, undef, undef, undef, undef, undef, undef, undef, undef, undef, undef, undef, undef, undef, undef, undef, undef, undef, undef, undef, undef, undef, undef, undef, undef, undef, undef, undef, undef, undef, undef, undef, undef, undef], defers := [] })
    (fun a' m s A B row hs hg hr => by
      obtain ⟨Bx, h1, h2, h3⟩ := hs
      refine ⟨Bx, h1, (hg.block _ (Array.getElem?_eq_some_iff.1 h2).1 (fun e => ?_)).trans h2, h3⟩
      obtain ⟨_, o, ho, hc⟩ := hr _ e.symm
      rw [h2] at ho; cases ho; cases hc)
    ?assign ?body ?done ?stop
  case assign =>
    intro l x m W K hm hwm hK
    unfold encS
    gi_wp2
    exact hK _ _ (World.grownBy_alloc W _ none) ⟨W.heap.size, hm, World.alloc_heap_new W _, rfl⟩
  case body =>
    rintro l pre x a' mx W1 W ⟨⟨v, hv0, hR0⟩, hB1⟩ hgr hno hmx hlt ⟨Bx, hBx, hbx, rfl⟩
    have hv : Boxed W w.heap.size 22 v := hv0.kept hgr (by simp)
    have hRW := Kd.R_grown hR0 hgr (fun _ _ => by simp)
    have hBW : Below w.heap.size w W := hB1.grown hgr hno (fun k e => by cases e)
    have hc := hv.cell
    have hf := hv.frozen
    have hx0 : W.cell? ⟨Bx, 0, none⟩ = some (.int .i64 x.f0) := by simp [World.cell?, hbx]
    have hx1 : W.cell? ⟨Bx, 1, none⟩ = some (.int .i64 x.f1) := by simp [World.cell?, hbx]
    have hmx : Try.prog.follows .mixedOrders = true := by kernel_rfl
    have hJl : (joinF pre).length < 8796093000000 := by have := joinF_len pre; omega
    have hS0 := Aside0.mk (joinF_snoc pre x)
    have HRW := Aside0.mk hRW
    have HBW := Aside0.mk hBW
    have HV := Aside0.mk hv
    have hR1 := hR0
    have hBlt : w.heap.size < W1.heap.size := hv0.lt
    clear hRW hBW hv hv0 hR0 hB1
    have HRB := Aside0.mk hR1
    clear hR1
    by_cases hz : joinF pre = []
    · obtain ⟨A, c, rfl⟩ := Kd.R_slice HRW.out
      rw [hz] at hS0 HRW hc HV HRB
      have hS1 := Aside0.mk (show joinF (pre ++ [x]) = [] ++ [x] from hS0.out)
      clear hz hS0 hJl hgr hlt
      simp only [List.length_nil] at hc HRW HV HRB
      gi_wp2
      refine hw_region_quiet l hro rfl hmx (by kernel_rfl) ?_
      repeat (gi_big_quiet_step (fail))
      refine wpQuietIn_nil ?_
      intro _ hw'
      obtain ⟨nq, hw''⟩ := hw'
      subst hw''
      obtain ⟨W2, hW2⟩ : ∃ W2, W.drewN nq = W2 := ⟨_, rfl⟩
      have hkq : KeepsOthers W W2 := by rw [← hW2]; exact ⟨Nat.le_refl _, fun _ _ h _ => h⟩
      have hbq : Below w.heap.size W W2 := by rw [← hW2]; exact pw_below_drewN (Below.refl _ _) nq
      have hv : Boxed W2 w.heap.size 22 (.slice A 0 c) := by rw [← hW2]; exact HV.out
      have hR2 := Kd.R_drewN HRW.out nq
      have hy0 : W2.cell? ⟨Bx, 0, none⟩ = some (.int .i64 x.f0) := by rw [← hW2]; exact hx0
      have hy1 : W2.cell? ⟨Bx, 1, none⟩ = some (.int .i64 x.f1) := by rw [← hW2]; exact hx1
      have hpq := Aside0.mk (show ∀ k, W1.heap.size ≤ k → k < mx → W2.heap[k]? = W.heap[k]? by rw [← hW2]; intros; rfl)
      have hsz : W2.heap.size = W.heap.size := by rw [← hW2]; rfl
      rw [hW2] at hR2 ⊢
      have hc2 := hv.cell
      have HKQ := Aside0.mk hkq
      have HBQ := Aside0.mk hbq
      have HSZ := Aside0.mk hsz
      clear hW2 hkq hbq hsz hx0 hx1 hc hf HV HRW
      have hOB := Aside0.mk (own_ltW1 HRB.out)
      obtain ⟨_, inner, ho, hr⟩ := hR2
      (try simp only [List.length_append, List.length_singleton] at ho)
      have HR := Aside0.mk hr
      clear hr
      gi_wp2_with (gi_at_builtin; go_must (refine wpListIn_append_own _ rfl _ _ 22 rfl w.heap.size 32 i0 (.agg #[.int .i64 0, .int .i64 0]) 2 16 Try.underlying22 hi hz0 hz1 hz2 rfl (by decide) _ _ _ rfl (ho.alloc _) ⟨W2.heap.size, 0, none⟩ 1 1 [.int .i64 x.f0, .int .i64 x.f1] rfl rfl ?qc1 ?qc2 ?qc3 ?qc4 ?qc5 ?_); go_must (case qc1 => exact cells_two_new _ _ _ _); go_must (case qc2 => simp [Value.oneCell']); go_must (case qc3 => first | (simp only [maxLen]; omega) | (simp [maxLen])); go_must (case qc4 => first | omega | simp); go_must (case qc5 => have := HBW.out.size; have := HSZ.out; simp; omega); intro v' w1 hown' hgrow _; go_must (obtain ⟨g', cap', rfl⟩ := ownsRow_succ hown'); go_must (obtain ⟨hv1, hv2, hr2, hk2, hb2⟩ := hv.appended (by decide) ho (by have := HBW.out.size; have := HSZ.out; omega) (Nat.le_refl _) hown' hgrow); have hc1 := hv1.cell; have hf1 := hv1.frozen; have HG := Aside0.mk hgrow; have HHR := Aside0.mk hr2; clear hgrow hown' hr2)
      refine ⟨HKQ.out.trans hk2, HBQ.out.trans hb2, ?_, ⟨_, hv2, ?_⟩, (HBW.out.trans HBQ.out).trans hb2⟩
      · intro k hk1 hk2
        have hkW : k < W2.heap.size := by have := HSZ.out; omega
        rw [← hpq.out k hk1 hk2, Below.heap_setCell _ _ _ _ (by simp; omega), HG.out.block k (by rw [World.size_alloc]; omega) (fun e => by have := hOB.out k e.symm; omega), Below.heap_alloc _ _ _ hkW]
      · rw [hS1.out]
        exact ⟨fun _ _ => trivial, _, by have h_ := HHR.out; simpa [List.length_append] using h_, HR.out.snoc (k32_mkM _ _ _ x) rfl⟩
    · obtain ⟨init, tl, hit⟩ : ∃ init tl, joinF pre = init ++ [tl] := ⟨_, _, (List.dropLast_concat_getLast hz).symm⟩
      rw [hit] at hS0 HRW hJl HRB
      have hJl2 : init.length < 8796093000000 := by simp at hJl; omega
      obtain ⟨g, c, rfl, hgb, hgl, hgc⟩ := Kd.R_form HRW.out (by simp)
      simp only [List.length_append, List.length_singleton] at hc HV HRW HRB
      have HGB := Aside0.mk hgb
      have HGC := Aside0.mk hgc
      obtain ⟨ce, hcl, hM, hcc, hfr⟩ := Kd.R_elem HRW.out z32 (init.length : Int) (by omega) (by omega)
      have htl : (init ++ [tl]).getD (init.length : Int).toNat z32 = tl := by simp
      rw [htl] at hM
      obtain rfl := k32_openM hM
      have he0 : W.cell? ⟨g, init.length * 2, none⟩ = some (.int .i64 tl.f0) := hcc 0 _ rfl
      have he1 : W.cell? ⟨g, init.length * 2 + 1, none⟩ = some (.int .i64 tl.f1) := hcc 1 _ rfl
      have hfe1 : W.frozen? ⟨g, init.length * 2 + 1, none⟩ = false := hfr 1
      have HCC := Aside0.mk hcc
      clear hgb hgl hgc hM hcc hfr hcl htl hJl hgr hlt hz
      by_cases hq : wrap64 (tl.f0 + tl.f1) = x.f0
      · have hS1 := Aside0.mk (show joinF (pre ++ [x]) = init ++ [⟨tl.f0, wrap64 (tl.f1 + x.f1)⟩] by rw [hS0.out]; simp [joinStep, hq])
        have hqb : (wrap64 (tl.f0 + tl.f1) == x.f0) = true := beq_iff_eq.mpr hq
        clear hS0 hq hit
        gi_wp2
        refine hw_region_quiet l hro rfl hmx (by kernel_rfl) ?_
        repeat (gi_big_quiet_step (fail))
        refine wpQuietIn_nil ?_
        intro _ hw'
        obtain ⟨nq, hw''⟩ := hw'
        subst hw''
        obtain ⟨W2, hW2⟩ : ∃ W2, W.drewN nq = W2 := ⟨_, rfl⟩
        have HKQ := Aside0.mk (show KeepsOthers W W2 by rw [← hW2]; exact ⟨Nat.le_refl _, fun _ _ h _ => h⟩)
        have HBQ := Aside0.mk (show Below w.heap.size W W2 by rw [← hW2]; exact pw_below_drewN (Below.refl _ _) nq)
        have hv : Boxed W2 w.heap.size 22 (.slice (some ⟨g, 0, none⟩) (init.length + 1) c) := by rw [← hW2]; exact HV.out
        have HR2 := Aside0.mk (show Kd.R k32 32 W2 w.heap.size (fun _ => True) (.slice (some ⟨g, 0, none⟩) (init.length + 1) c) (init ++ [tl]) by rw [← hW2]; exact Kd.R_drewN HRW.out nq)
        have hy1 : W2.cell? ⟨Bx, 1, none⟩ = some (.int .i64 x.f1) := by rw [← hW2]; exact hx1
        have hg1 : W2.cell? ⟨g, init.length * 2 + 1, none⟩ = some (.int .i64 tl.f1) := by rw [← hW2]; exact he1
        have hgf1 : W2.frozen? ⟨g, init.length * 2 + 1, none⟩ = false := by rw [← hW2]; exact hfe1
        have HPQ := Aside0.mk (show ∀ k : Nat, W2.heap[k]? = W.heap[k]? by rw [← hW2]; intros; rfl)
        have HC2 := Aside0.mk (show ∀ (j : Nat) (u : Value), ([.int .i64 tl.f0, .int .i64 tl.f1] : List Value)[j]? = some u → W2.cell? ⟨g, (init.length : Int).toNat * 2 + j, none⟩ = some u by rw [← hW2]; exact HCC.out)
        have HSZ := Aside0.mk (show W2.heap.size = W.heap.size by rw [← hW2]; rfl)
        rw [hW2]
        have hc2 := hv.cell
        have HV2 := Aside0.mk hv
        have HOB := Aside0.mk (own_ltW1 HRB.out)
        have HFIN := Aside0.mk (show ∀ (a : Act) (X : World), X = W2.drew.setCell ⟨g, init.length * 2 + 1, none⟩ (.int .i64 (wrap64 (tl.f1 + x.f1))) → ownPostP w.heap.size (fun pre W => (∃ v, Boxed W w.heap.size 22 v ∧ Kd.R k32 32 W w.heap.size (fun _ => True) v (joinF pre)) ∧ Below w.heap.size w W) (fun _ _ _ => False) (pre ++ [x]) W1.heap.size mx W .normal a X from fun a X hX => by
          have hR3 := Kd.R_seg (Kd.R_drew HR2.out) (init.length : Int) (by omega) (by omega) (seg := [.int .i64 (wrap64 (tl.f1 + x.f1))]) (j := 1) (c := [.int .i64 tl.f0, .int .i64 tl.f1]) rfl (fun j u hj => HC2.out j u hj) (show 2 ≤ 2 from by decide) (x' := (⟨tl.f0, wrap64 (tl.f1 + x.f1)⟩ : S32)) (k32_mkM _ _ _ (⟨tl.f0, wrap64 (tl.f1 + x.f1)⟩ : S32)) (fun _ hk => hk)
          obtain ⟨h1, h2⟩ := hR3
          have e1 : (W2.drew.setCells g ((init.length : Int).toNat * k32.sz + 1) [.int .i64 (wrap64 (tl.f1 + x.f1))]) = X := by rw [hX]; rfl
          rw [e1] at h1 h2
          replace h2 : W2.grownBy X (some g) := ⟨h2.os, h2.tape, h2.output, h2.size, h2.block⟩
          have hset : (init ++ [tl]).set (init.length : Int).toNat (⟨tl.f0, wrap64 (tl.f1 + x.f1)⟩ : S32) = init ++ [⟨tl.f0, wrap64 (tl.f1 + x.f1)⟩] := by
            rw [Int.toNat_natCast, List.set_append_right _ _ (Nat.le_refl _)]; simp
          rw [hset, ← hS1.out] at h1
          have hgl : g < W1.heap.size := HOB.out g (by simp [Value.ownBlock])
          have hgne : g ≠ w.heap.size := fun e => by
            obtain ⟨cells, hcc⟩ := HGC.out
            have h5 := HV2.out
            rw [e] at hcc
            have h6 : W2.heap[w.heap.size]? = W.heap[w.heap.size]? := HPQ.out _
            rw [show W2.heap[w.heap.size]? = _ from h5, hcc] at h6
            cases h6
          have hkx : KeepsOthers W2 X := ⟨h2.size, fun k o hk ho => (h2.block k (Array.getElem?_eq_some_iff.1 hk).1 (fun e => by
            cases e
            obtain ⟨cells, hcc⟩ := HGC.out
            rw [HPQ.out, hcc] at hk
            cases hk; cases ho)).trans hk⟩
          have hbx : Below w.heap.size W2 X := (Below.refl _ _).grown h2 (by have := HSZ.out; have := HBW.out.size; omega) (fun k e => by cases e; exact HGB.out)
          refine ⟨HKQ.out.trans hkx, HBQ.out.trans hbx, ?_, ⟨_, (HV2.out.kept h2 (fun e => hgne (by cases e; rfl))), h1⟩, (HBW.out.trans HBQ.out).trans hbx⟩
          intro k hk1 hk2
          rw [h2.block k (by have := HSZ.out; show k < W2.heap.size; omega) (fun e => by cases e; omega)]
          exact HPQ.out k)
        clear hW2 hx0 hx1 hc hf HV HRW he0 he1 hfe1 HCC hv hqb HKQ HBQ HR2 HPQ HC2 HV2 HOB HGC HGB hS1 HRB HBW
        gi_wp2
        gi_region_with_o (fail)
        all_goals gi_wp2
        all_goals refine HFIN.out _ _ ?_
        all_goals (simp only [i64_w]; rfl)
      · have hS1 := Aside0.mk (show joinF (pre ++ [x]) = (init ++ [tl]) ++ [x] by rw [hS0.out]; simp [joinStep, hq])
        have hqb : (wrap64 (tl.f0 + tl.f1) == x.f0) = false := beq_eq_false_iff_ne.mpr hq
        clear hS0 hq hit
        gi_wp2
        refine hw_region_quiet l hro rfl hmx (by kernel_rfl) ?_
        repeat (gi_big_quiet_step (fail))
        refine wpQuietIn_nil ?_
        intro _ hw'
        obtain ⟨nq, hw''⟩ := hw'
        subst hw''
        obtain ⟨W2, hW2⟩ : ∃ W2, W.drewN nq = W2 := ⟨_, rfl⟩
        have hkq : KeepsOthers W W2 := by rw [← hW2]; exact ⟨Nat.le_refl _, fun _ _ h _ => h⟩
        have hbq : Below w.heap.size W W2 := by rw [← hW2]; exact pw_below_drewN (Below.refl _ _) nq
        have hv : Boxed W2 w.heap.size 22 (.slice (some ⟨g, 0, none⟩) (init.length + 1) c) := by rw [← hW2]; exact HV.out
        have hR2 := Kd.R_drewN HRW.out nq
        have hy0 : W2.cell? ⟨Bx, 0, none⟩ = some (.int .i64 x.f0) := by rw [← hW2]; exact hx0
        have hy1 : W2.cell? ⟨Bx, 1, none⟩ = some (.int .i64 x.f1) := by rw [← hW2]; exact hx1
        have hpq := Aside0.mk (show ∀ k, W1.heap.size ≤ k → k < mx → W2.heap[k]? = W.heap[k]? by rw [← hW2]; intros; rfl)
        have hsz : W2.heap.size = W.heap.size := by rw [← hW2]; rfl
        rw [hW2] at hR2 ⊢
        have hc2 := hv.cell
        have HKQ := Aside0.mk hkq
        have HBQ := Aside0.mk hbq
        have HSZ := Aside0.mk hsz
        clear hW2 hkq hbq hsz hx0 hx1 hc hf HV HRW
        have hOB := Aside0.mk (own_ltW1 HRB.out)
        obtain ⟨_, inner, ho, hr⟩ := hR2
        (try simp only [List.length_append, List.length_singleton] at ho)
        have HR := Aside0.mk hr
        clear hr
        gi_wp2_with (gi_at_builtin; go_must (refine wpListIn_append_own _ rfl _ _ 22 rfl w.heap.size 32 i0 (.agg #[.int .i64 0, .int .i64 0]) 2 16 Try.underlying22 hi hz0 hz1 hz2 rfl (by decide) _ _ _ rfl (ho.alloc _) ⟨W2.heap.size, 0, none⟩ 1 1 [.int .i64 x.f0, .int .i64 x.f1] rfl rfl ?qc1 ?qc2 ?qc3 ?qc4 ?qc5 ?_); go_must (case qc1 => exact cells_two_new _ _ _ _); go_must (case qc2 => simp [Value.oneCell']); go_must (case qc3 => first | (simp only [maxLen]; omega) | (simp [maxLen])); go_must (case qc4 => first | omega | simp); go_must (case qc5 => have := HBW.out.size; have := HSZ.out; simp; omega); intro v' w1 hown' hgrow _; go_must (obtain ⟨g', cap', rfl⟩ := ownsRow_succ hown'); go_must (obtain ⟨hv1, hv2, hr2, hk2, hb2⟩ := hv.appended (by decide) ho (by have := HBW.out.size; have := HSZ.out; omega) (Nat.le_refl _) hown' hgrow); have hc1 := hv1.cell; have hf1 := hv1.frozen; have HG := Aside0.mk hgrow; have HHR := Aside0.mk hr2; clear hgrow hown' hr2)
        refine ⟨HKQ.out.trans hk2, HBQ.out.trans hb2, ?_, ⟨_, hv2, ?_⟩, (HBW.out.trans HBQ.out).trans hb2⟩
        · intro k hk1 hk2
          have hkW : k < W2.heap.size := by have := HSZ.out; omega
          rw [← hpq.out k hk1 hk2, Below.heap_setCell _ _ _ _ (by simp; omega), HG.out.block k (by rw [World.size_alloc]; omega) (fun e => by have := hOB.out k e.symm; omega), Below.heap_alloc _ _ _ hkW]
        · rw [hS1.out]
          exact ⟨fun _ _ => trivial, _, by have h_ := HHR.out; simpa [List.length_append] using h_, HR.out.snoc (k32_mkM _ _ _ x) rfl⟩
  case done =>
    rintro D ys W hD rfl ⟨⟨v, hv, hR⟩, hB⟩ hK
    have hc := hv.cell
    gi_wp2
    refine ⟨by simp, .inl ⟨_, _, rfl, run_takeDeferred hK, ?_⟩⟩
    exact ⟨_, results_tmp rfl _ _ _, v, rfl, R_ownGrown hR (grownBy_putObj' W D _) (fun r e => by cases e; exact ⟨_, hK, rfl⟩), hB.trans (belowK_b (w := w) (Nat.le_refl _) W D _ _ (by simp at hD; omega) hK rfl rfl)⟩
  case stop =>
    rintro D c pre W _ _ h _
    exact h.elim

end Go.Proofs.Ytjmplchknbgmgaa.PSpan
