import Derived.Test.YtcclaidbikjhiaaGreatDoorPVox0
import Derived.Test.YtcclaidbikjhiaaGreatDoorPVox33
import Derived.RangeFuncBox
import Derived.RangeFuncLeaves
import Derived.RangeFuncCalls
import Derived.Shelf.Abstract
import Derived.Shelf.RegionOpen
import Derived.OwnWalkIn
import Derived.TacticsInMore
import Derived.LoopNIn
import Derived.LoopIn
import Derived.Outline
import Derived.Deep.DeepMust
import Derived.Shelf.SlSortCmp.WholeK
import Derived.Shelf.SlSortCmp.NoneTotal
import Derived.Test.YtcclaidbikjhiaaGreatDoorLayS
import Derived.Lib.SliceRun
import Derived.Test.YtcclaidbikjhiaaGreatDoorPVox9
--compressed
namespace Go.Proofs.YtcclaidbikjhiaaGreatDoor.PVo
open Go.RowKit Go.Proofs.YtcclaidbikjhiaaGreatDoorW.PrintWords Go.Proofs.YtcclaidbikjhiaaGreatDoorW.PrintLast Go.Proofs.YtcclaidbikjhiaaGreatDoorW.PrintMore
attribute [local go_sem] max2_int min2_int max_two min_two max_three min_three max_four min_four   -- for this text's walks alone
attribute [local go_sem high] hw_str_leq hw_str_gtr
set_option linter.unusedVariables false
set_option linter.unusedSimpArgs false
attribute [local go_sem] Oper.semAt_some
open Go.Shelf
def joinStep (l : List S87) (s : S87) : List S87 := match l.getLast? with
  | some t => if wrap64 (t.f0 + t.f1) = s.f0 then l.dropLast ++ [⟨t.f0, wrap64 (t.f1 + s.f1)⟩] else l ++ [s]
  | none => [s]
def joinF (l : List S87) : List S87 := l.foldl joinStep []
theorem joinStep_len (l : List S87) (s : S87) : (joinStep l s).length ≤ l.length + 1 := by
  unfold joinStep
  split
  · split <;> simp
  · simp
theorem joinF_len (l : List S87) : (joinF l).length ≤ l.length := by
  unfold joinF
  suffices h : ∀ a, (l.foldl joinStep a).length ≤ a.length + l.length by simpa using h []
  induction l with
  | nil => simp
  | cons s t ih =>
    intro a
    have h1 := ih (joinStep a s)
    have h2 := joinStep_len a s
    simp only [List.foldl_cons, List.length_cons]
    omega
theorem own_ltW1 {w : World} {base : Nat} {v : Value} {xs : List S87} (h : Kd.R k87 87 w base (fun _ => True) v xs) : ∀ k, v.ownBlock = some k → k < w.heap.size := Kd.R_lt h
theorem cells_two_new (w : World) (a b : Value) (T : TypeId) : ∀ j u, ([a, b] : List Value)[j]? = some u → (w.alloc (.cells #[a, b] T)).cell? ((⟨w.heap.size, 0, none⟩ : Addr).add j) = some u := by
  intro j u h
  rw [add_plain]
  have hb := World.alloc_heap_new w (.cells #[a, b] T)
  match j, h with
  | 0, h => simp at h; subst h; simp only [World.cell?, hb]; rfl
  | 1, h => simp at h; subst h; simp only [World.cell?, hb]; rfl
  | j + 2, h => simp at h
theorem joinF_snoc (l : List S87) (s : S87) : joinF (l ++ [s]) = joinStep (joinF l) s := by simp [joinF]
set_option maxRecDepth 100000 in
set_option maxHeartbeats 4000000 in
theorem joined_in (F : Fence) (n : Nat) (h24 : F.fn 138) (hro : F.round = none) (hn : 2 ≤ n) (gf : Nat) (lb : Array Value) (hFg : F.fn gf) (eg : ∀ args w, (callFunc gf args).run Tryz.prog w = .ok (.enter gf args) w) (zs : List S87) (Sp : List S87 → Prop) (N : Nat) (hN : N < 8796093000000) (w : World)
    (hseq : SeqStopsP F (n - 1) Tryz.prog gf lb encS w.heap.size (fun ys => ys = zs) Sp N w) :
    CallsIn F n Tryz.prog 138 #[.func (.func gf) #[] lb] w fun e W' => ∃ v, e = .returned v ∧ Kd.R k87 87 W' w.heap.size (fun _ => True) v (joinF zs) ∧ Below w.heap.size w W' := by
  have hu := Tryz.underlying87
  obtain ⟨i0, hi, hz0, hz1, hz2⟩ := info_parts info87
  refine callsIn_of_wp_marks Tryz.func138 rfl h24 ?_ hro
  simp only [Tryz.ntmps138, List.size_toArray, List.length_cons, List.length_nil, Nat.reduceAdd, Nat.reduceSub, Array.replicate_succ, Array.replicate_zero, List.push_toArray, List.append_toArray, List.nil_append, List.cons_append]
  gi_wp2
  have bO := Boxed.new w 44 (.slice none 0 0)
  have hB0 : Below w.heap.size w (w.alloc (.cells #[.slice none 0 0] 44)) := (Below.refl _ w).alloc (Nat.le_refl _) _
  refine wpIn_rangeFunc_ownP hro (by omega) (gf := gf) (lb := lb) rfl hFg eg hseq (by simp) hB0 (fun _ => rfl)
    (fun pre W => (∃ v, Boxed W w.heap.size 44 v ∧ Kd.R k87 87 W w.heap.size (fun _ => True) v (joinF pre)) ∧ Below w.heap.size w W)
    (fun _ _ _ => False)
    (OwnFrom.and (fun s A B row hs hg hr => by
      obtain ⟨v, h1, h2⟩ := hs
      refine ⟨v, h1.kept hg (fun e => ?_), R_ownGrown h2 hg (fun r e => (hr r e).2)⟩
      obtain ⟨_, o, ho, hc⟩ := hr _ e.symm
      rw [show A.heap[w.heap.size]? = _ from h1] at ho; cases ho; cases hc) (ownFrom_below (Nat.le_refl _) (by simp)))
    (fun _ _ _ _ _ hs _ _ => hs)
    ⟨⟨_, bO, Kd.R_nil _ _ _ _ _⟩, hB0⟩
    (fun x a' m W => ∃ Bx, m ≤ Bx ∧ W.heap[Bx]? = some (.cells #[.int .i64 x.f0, .int .i64 x.f1] 87 (0, 0)) ∧ a' = { tmps := #[.func (.func gf) #[] lb, undef, .slice none 0 0, .pointer (some ⟨w.heap.size, 0, none⟩), .pointer (some ⟨Bx, 0, none⟩), undef, .func (.func gf) #[] lb, .agg #[.int .i64 x.f0, .int .i64 x.f1], undef, undef, undef, undef, undef, undef, undef, undef, undef, undef, undef, undef, undef, undef, undef, undef, undef, undef, undef, undef, undef, undef, undef, undef, undef, undef, undef, undef, undef, undef, undef, undef, undef, undef, undef, undef], defers := [] })
    (fun a' m s A B row hs hg hr => by
      obtain ⟨Bx, h1, h2, h3⟩ := hs
      refine ⟨Bx, h1, (hg.block _ (Array.getElem?_eq_some_iff.1 h2).1 (fun e => ?_)).trans h2, h3⟩
      obtain ⟨_, o, ho, hc⟩ := hr _ e.symm
      rw [h2] at ho; cases ho; cases hc)
    ?assign ?body ?done ?stop
  case assign =>
    intro l x m W K hm hwm hK
    unfold encS
    gi_wp2
    exact hK _ _ (World.grownBy_alloc W _ none) ⟨W.heap.size, hm, World.alloc_heap_new W _, rfl⟩
  case body =>
    rintro l pre x a' mx W1 W ⟨⟨v, hv0, hR0⟩, hB1⟩ hgr hno hmx hlt ⟨Bx, hBx, hbx, rfl⟩
    have hv : Boxed W w.heap.size 44 v := hv0.kept hgr (by simp)
    have hRW := Kd.R_grown hR0 hgr (fun _ _ => by simp)
    have hBW : Below w.heap.size w W := hB1.grown hgr hno (fun k e => by cases e)
    have hc := hv.cell
    have hf := hv.frozen
    have hx0 : W.cell? ⟨Bx, 0, none⟩ = some (.int .i64 x.f0) := by simp [World.cell?, hbx]
    have hx1 : W.cell? ⟨Bx, 1, none⟩ = some (.int .i64 x.f1) := by simp [World.cell?, hbx]
    have hmx : Tryz.prog.follows .mixedOrders = true := by kernel_rfl
    have hJl : (joinF pre).length < 8796093000000 := by have := joinF_len pre; omega
    have hS0 := zA (joinF_snoc pre x)
    have HRW := zA hRW
    have HBW := zA hBW
    have HV := zA hv
    have hR1 := hR0
    have hBlt : w.heap.size < W1.heap.size := hv0.lt
    clear hRW hBW hv hv0 hR0 hB1
    have HRB := zA hR1
    clear hR1
    by_cases hz : joinF pre = []
    · obtain ⟨A, c, rfl⟩ := Kd.R_slice HRW.out
      rw [hz] at hS0 HRW hc HV HRB
      have hS1 := zA (show joinF (pre ++ [x]) = [] ++ [x] from hS0.out)
      clear hz hS0 hJl hgr hlt
      simp only [List.length_nil] at hc HRW HV HRB
      gi_wp2
      refine hw_region_quiet l hro rfl hmx (by kernel_rfl) ?_
      repeat (gi_big_quiet_step (fail))
      refine wpQuietIn_nil ?_
      intro _ hw'
      obtain ⟨nq, hw''⟩ := hw'
      subst hw''
      obtain ⟨W2, hW2⟩ : ∃ W2, W.drewN nq = W2 := ⟨_, rfl⟩
      have hkq : KeepsOthers W W2 := by rw [← hW2]; exact ⟨Nat.le_refl _, fun _ _ h _ => h⟩
      have hbq : Below w.heap.size W W2 := by rw [← hW2]; exact zF (Below.refl _ _) nq
      have hv : Boxed W2 w.heap.size 44 (.slice A 0 c) := by rw [← hW2]; exact HV.out
      have hR2 := Kd.R_drewN HRW.out nq
      have hy0 : W2.cell? ⟨Bx, 0, none⟩ = some (.int .i64 x.f0) := by rw [← hW2]; exact hx0
      have hy1 : W2.cell? ⟨Bx, 1, none⟩ = some (.int .i64 x.f1) := by rw [← hW2]; exact hx1
      have hpq := zA (show ∀ k, W1.heap.size ≤ k → k < mx → W2.heap[k]? = W.heap[k]? by rw [← hW2]; intros; rfl)
      have hsz : W2.heap.size = W.heap.size := by rw [← hW2]; rfl
      rw [hW2] at hR2 ⊢
      have hc2 := hv.cell
      have HKQ := zA hkq
      have HBQ := zA hbq
      have HSZ := zA hsz
      clear hW2 hkq hbq hsz hx0 hx1 hc hf HV HRW
      have hOB := zA (own_ltW1 HRB.out)
      obtain ⟨_, inner, ho, hr⟩ := hR2
      (try simp only [zO, List.length_singleton] at ho)
      have HR := zA hr
      clear hr
      gi_wp2_with (gi_at_builtin; go_must (refine wpListIn_append_own _ rfl _ _ 44 rfl w.heap.size 87 i0 (.agg #[.int .i64 0, .int .i64 0]) 2 16 Tryz.underlying44 hi hz0 hz1 hz2 rfl (by decide) _ _ _ rfl (ho.alloc _) ⟨W2.heap.size, 0, none⟩ 1 1 [.int .i64 x.f0, .int .i64 x.f1] rfl rfl ?qc1 ?qc2 ?qc3 ?qc4 ?qc5 ?_); go_must (case qc1 => exact cells_two_new _ _ _ _); go_must (case qc2 => simp [Value.oneCell']); go_must (case qc3 => first | (simp only [maxLen]; omega) | (simp [maxLen])); go_must (case qc4 => first | omega | simp); go_must (case qc5 => have := HBW.out.size; have := HSZ.out; simp; omega); intro v' w1 hown' hgrow _; go_must (obtain ⟨g', cap', rfl⟩ := ownsRow_succ hown'); go_must (obtain ⟨hv1, hv2, hr2, hk2, hb2⟩ := hv.appended (by decide) ho (by have := HBW.out.size; have := HSZ.out; omega) (Nat.le_refl _) hown' hgrow); have hc1 := hv1.cell; have hf1 := hv1.frozen; have HG := zA hgrow; have HHR := zA hr2; clear hgrow hown' hr2)
      refine ⟨HKQ.out.trans hk2, HBQ.out.trans hb2, ?_, ⟨_, hv2, ?_⟩, (HBW.out.trans HBQ.out).trans hb2⟩
      · intro k hk1 hk2
        have hkW : k < W2.heap.size := by have := HSZ.out; omega
        rw [← hpq.out k hk1 hk2, Below.heap_setCell _ _ _ _ (by simp; omega), HG.out.block k (by rw [World.size_alloc]; omega) (fun e => by have := hOB.out k e.symm; omega), Below.heap_alloc _ _ _ hkW]
      · rw [hS1.out]
        exact ⟨fun _ _ => trivial, _, by have h_ := HHR.out; simpa [zO] using h_, HR.out.snoc (k87_mkM _ _ _ x) rfl⟩
    · obtain ⟨init, tl, hit⟩ : ∃ init tl, joinF pre = init ++ [tl] := ⟨_, _, (List.dropLast_concat_getLast hz).symm⟩
      rw [hit] at hS0 HRW hJl HRB
      have hJl2 : init.length < 8796093000000 := by simp at hJl; omega
      obtain ⟨g, c, rfl, hgb, hgl, hgc⟩ := Kd.R_form HRW.out (by simp)
      simp only [zO, List.length_singleton] at hc HV HRW HRB
      have HGB := zA hgb
      have HGC := zA hgc
      obtain ⟨ce, hcl, hM, hcc, hfr⟩ := Kd.R_elem HRW.out z87 (init.length : Int) (by omega) (by omega)
      have htl : (init ++ [tl]).getD (init.length : Int).toNat z87 = tl := by simp
      rw [htl] at hM
      obtain rfl := k87_openM hM
      have he0 : W.cell? ⟨g, init.length * 2, none⟩ = some (.int .i64 tl.f0) := hcc 0 _ rfl
      have he1 : W.cell? ⟨g, init.length * 2 + 1, none⟩ = some (.int .i64 tl.f1) := hcc 1 _ rfl
      have hfe1 : W.frozen? ⟨g, init.length * 2 + 1, none⟩ = false := hfr 1
      have HCC := zA hcc
      clear hgb hgl hgc hM hcc hfr hcl htl hJl hgr hlt hz
      by_cases hq : wrap64 (tl.f0 + tl.f1) = x.f0
      · have hS1 := zA (show joinF (pre ++ [x]) = init ++ [⟨tl.f0, wrap64 (tl.f1 + x.f1)⟩] by rw [hS0.out]; simp [joinStep, hq])
        have hqb : (wrap64 (tl.f0 + tl.f1) == x.f0) = true := beq_iff_eq.mpr hq
        clear hS0 hq hit
        gi_wp2
        refine hw_region_quiet l hro rfl hmx (by kernel_rfl) ?_
        repeat (gi_big_quiet_step (fail))
        refine wpQuietIn_nil ?_
        intro _ hw'
        obtain ⟨nq, hw''⟩ := hw'
        subst hw''
        obtain ⟨W2, hW2⟩ : ∃ W2, W.drewN nq = W2 := ⟨_, rfl⟩
        have HKQ := zA (show KeepsOthers W W2 by rw [← hW2]; exact ⟨Nat.le_refl _, fun _ _ h _ => h⟩)
        have HBQ := zA (show Below w.heap.size W W2 by rw [← hW2]; exact zF (Below.refl _ _) nq)
        have hv : Boxed W2 w.heap.size 44 (.slice (some ⟨g, 0, none⟩) (init.length + 1) c) := by rw [← hW2]; exact HV.out
        have HR2 := zA (show Kd.R k87 87 W2 w.heap.size (fun _ => True) (.slice (some ⟨g, 0, none⟩) (init.length + 1) c) (init ++ [tl]) by rw [← hW2]; exact Kd.R_drewN HRW.out nq)
        have hy1 : W2.cell? ⟨Bx, 1, none⟩ = some (.int .i64 x.f1) := by rw [← hW2]; exact hx1
        have hg1 : W2.cell? ⟨g, init.length * 2 + 1, none⟩ = some (.int .i64 tl.f1) := by rw [← hW2]; exact he1
        have hgf1 : W2.frozen? ⟨g, init.length * 2 + 1, none⟩ = false := by rw [← hW2]; exact hfe1
        have HPQ := zA (show ∀ k : Nat, W2.heap[k]? = W.heap[k]? by rw [← hW2]; intros; rfl)
        have HC2 := zA (show ∀ (j : Nat) (u : Value), ([.int .i64 tl.f0, .int .i64 tl.f1] : List Value)[j]? = some u → W2.cell? ⟨g, (init.length : Int).toNat * 2 + j, none⟩ = some u by rw [← hW2]; exact HCC.out)
        have HSZ := zA (show W2.heap.size = W.heap.size by rw [← hW2]; rfl)
        rw [hW2]
        have hc2 := hv.cell
        have HV2 := zA hv
        have HOB := zA (own_ltW1 HRB.out)
        have HFIN := zA (show ∀ (a : Act) (X : World), X = W2.drew.setCell ⟨g, init.length * 2 + 1, none⟩ (.int .i64 (wrap64 (tl.f1 + x.f1))) → ownPostP w.heap.size (fun pre W => (∃ v, Boxed W w.heap.size 44 v ∧ Kd.R k87 87 W w.heap.size (fun _ => True) v (joinF pre)) ∧ Below w.heap.size w W) (fun _ _ _ => False) (pre ++ [x]) W1.heap.size mx W .normal a X from fun a X hX => by
          have hR3 := Kd.R_seg (Kd.R_drew HR2.out) (init.length : Int) (by omega) (by omega) (seg := [.int .i64 (wrap64 (tl.f1 + x.f1))]) (j := 1) (c := [.int .i64 tl.f0, .int .i64 tl.f1]) rfl (fun j u hj => HC2.out j u hj) (show 2 ≤ 2 from by decide) (x' := (⟨tl.f0, wrap64 (tl.f1 + x.f1)⟩ : S87)) (k87_mkM _ _ _ (⟨tl.f0, wrap64 (tl.f1 + x.f1)⟩ : S87)) (fun _ hk => hk)
          obtain ⟨h1, h2⟩ := hR3
          have e1 : (W2.drew.setCells g ((init.length : Int).toNat * k87.sz + 1) [.int .i64 (wrap64 (tl.f1 + x.f1))]) = X := by rw [hX]; rfl
          rw [e1] at h1 h2
          replace h2 : W2.grownBy X (some g) := ⟨h2.os, h2.tape, h2.output, h2.size, h2.block⟩
          have hset : (init ++ [tl]).set (init.length : Int).toNat (⟨tl.f0, wrap64 (tl.f1 + x.f1)⟩ : S87) = init ++ [⟨tl.f0, wrap64 (tl.f1 + x.f1)⟩] := by
            rw [Int.toNat_natCast, List.set_append_right _ _ (Nat.le_refl _)]; simp
          rw [hset, ← hS1.out] at h1
          have hgl : g < W1.heap.size := HOB.out g (by simp [Value.ownBlock])
          have hgne : g ≠ w.heap.size := fun e => by
            obtain ⟨cells, hcc⟩ := HGC.out
            have h5 := HV2.out
            rw [e] at hcc
            have h6 : W2.heap[w.heap.size]? = W.heap[w.heap.size]? := HPQ.out _
            rw [show W2.heap[w.heap.size]? = _ from h5, hcc] at h6
            cases h6
          have hkx : KeepsOthers W2 X := ⟨h2.size, fun k o hk ho => (h2.block k (Array.getElem?_eq_some_iff.1 hk).1 (fun e => by
            cases e
            obtain ⟨cells, hcc⟩ := HGC.out
            rw [HPQ.out, hcc] at hk
            cases hk; cases ho)).trans hk⟩
          have hbx : Below w.heap.size W2 X := (Below.refl _ _).grown h2 (by have := HSZ.out; have := HBW.out.size; omega) (fun k e => by cases e; exact HGB.out)
          refine ⟨HKQ.out.trans hkx, HBQ.out.trans hbx, ?_, ⟨_, (HV2.out.kept h2 (fun e => hgne (by cases e; rfl))), h1⟩, (HBW.out.trans HBQ.out).trans hbx⟩
          intro k hk1 hk2
          rw [h2.block k (by have := HSZ.out; show k < W2.heap.size; omega) (fun e => by cases e; omega)]
          exact HPQ.out k)
        clear hW2 hx0 hx1 hc hf HV HRW he0 he1 hfe1 HCC hv hqb HKQ HBQ HR2 HPQ HC2 HV2 HOB HGC HGB hS1 HRB HBW
        gi_wp2
        gi_region_with_o (fail)
        all_goals gi_wp2
        all_goals refine HFIN.out _ _ ?_
        all_goals (simp only [i64_w]; rfl)
      · have hS1 := zA (show joinF (pre ++ [x]) = (init ++ [tl]) ++ [x] by rw [hS0.out]; simp [joinStep, hq])
        have hqb : (wrap64 (tl.f0 + tl.f1) == x.f0) = false := beq_eq_false_iff_ne.mpr hq
        clear hS0 hq hit
        gi_wp2
        refine hw_region_quiet l hro rfl hmx (by kernel_rfl) ?_
        repeat (gi_big_quiet_step (fail))
        refine wpQuietIn_nil ?_
        intro _ hw'
        obtain ⟨nq, hw''⟩ := hw'
        subst hw''
        obtain ⟨W2, hW2⟩ : ∃ W2, W.drewN nq = W2 := ⟨_, rfl⟩
        have hkq : KeepsOthers W W2 := by rw [← hW2]; exact ⟨Nat.le_refl _, fun _ _ h _ => h⟩
        have hbq : Below w.heap.size W W2 := by rw [← hW2]; exact zF (Below.refl _ _) nq
        have hv : Boxed W2 w.heap.size 44 (.slice (some ⟨g, 0, none⟩) (init.length + 1) c) := by rw [← hW2]; exact HV.out
        have hR2 := Kd.R_drewN HRW.out nq
        have hy0 : W2.cell? ⟨Bx, 0, none⟩ = some (.int .i64 x.f0) := by rw [← hW2]; exact hx0
        have hy1 : W2.cell? ⟨Bx, 1, none⟩ = some (.int .i64 x.f1) := by rw [← hW2]; exact hx1
        have hpq := zA (show ∀ k, W1.heap.size ≤ k → k < mx → W2.heap[k]? = W.heap[k]? by rw [← hW2]; intros; rfl)
        have hsz : W2.heap.size = W.heap.size := by rw [← hW2]; rfl
        rw [hW2] at hR2 ⊢
        have hc2 := hv.cell
        have HKQ := zA hkq
        have HBQ := zA hbq
        have HSZ := zA hsz
        clear hW2 hkq hbq hsz hx0 hx1 hc hf HV HRW
        have hOB := zA (own_ltW1 HRB.out)
        obtain ⟨_, inner, ho, hr⟩ := hR2
        (try simp only [zO, List.length_singleton] at ho)
        have HR := zA hr
        clear hr
        gi_wp2_with (gi_at_builtin; go_must (refine wpListIn_append_own _ rfl _ _ 44 rfl w.heap.size 87 i0 (.agg #[.int .i64 0, .int .i64 0]) 2 16 Tryz.underlying44 hi hz0 hz1 hz2 rfl (by decide) _ _ _ rfl (ho.alloc _) ⟨W2.heap.size, 0, none⟩ 1 1 [.int .i64 x.f0, .int .i64 x.f1] rfl rfl ?qc1 ?qc2 ?qc3 ?qc4 ?qc5 ?_); go_must (case qc1 => exact cells_two_new _ _ _ _); go_must (case qc2 => simp [Value.oneCell']); go_must (case qc3 => first | (simp only [maxLen]; omega) | (simp [maxLen])); go_must (case qc4 => first | omega | simp); go_must (case qc5 => have := HBW.out.size; have := HSZ.out; simp; omega); intro v' w1 hown' hgrow _; go_must (obtain ⟨g', cap', rfl⟩ := ownsRow_succ hown'); go_must (obtain ⟨hv1, hv2, hr2, hk2, hb2⟩ := hv.appended (by decide) ho (by have := HBW.out.size; have := HSZ.out; omega) (Nat.le_refl _) hown' hgrow); have hc1 := hv1.cell; have hf1 := hv1.frozen; have HG := zA hgrow; have HHR := zA hr2; clear hgrow hown' hr2)
        refine ⟨HKQ.out.trans hk2, HBQ.out.trans hb2, ?_, ⟨_, hv2, ?_⟩, (HBW.out.trans HBQ.out).trans hb2⟩
        · intro k hk1 hk2
          have hkW : k < W2.heap.size := by have := HSZ.out; omega
          rw [← hpq.out k hk1 hk2, Below.heap_setCell _ _ _ _ (by simp; omega), HG.out.block k (by rw [World.size_alloc]; omega) (fun e => by have := hOB.out k e.symm; omega), Below.heap_alloc _ _ _ hkW]
        · rw [hS1.out]
          exact ⟨fun _ _ => trivial, _, by have h_ := HHR.out; simpa [zO] using h_, HR.out.snoc (k87_mkM _ _ _ x) rfl⟩
  case done =>
    rintro D ys W hD rfl ⟨⟨v, hv, hR⟩, hB⟩ hK
    have hc := hv.cell
    gi_wp2
    refine ⟨by simp, .inl ⟨_, _, rfl, run_takeDeferred hK, ?_⟩⟩
    exact ⟨_, results_tmp rfl _ _ _, v, rfl, R_ownGrown hR (grownBy_putObj' W D _) (fun r e => by cases e; exact ⟨_, hK, rfl⟩), hB.trans (belowK_b (w := w) (Nat.le_refl _) W D _ _ (by simp at hD; omega) hK rfl rfl)⟩
  case stop =>
    rintro D c pre W _ _ h _
    exact h.elim
section
open Go.Sort
variable {α : Type} [Inhabited α] {enc : α → List Value} {k : Nat}
theorem hw_flat_list (xs : List α) (hk : ∀ x, (enc x).length = k) (inner : List Value) (hr : Reps (fun x cs => cs = enc x) k xs inner) : (flatK enc k xs.toArray).toList = inner := by
  have hl := hr.1
  apply List.ext_getElem
  · simp [hl]
  · intro t h1 h2
    have ht : t < xs.length * k := by omega
    have hk0 : 0 < k := by rcases Nat.eq_zero_or_pos k with h | h; · subst h; simp at ht
                           · exact h
    have hq : t / k < xs.length := Nat.div_lt_of_lt_mul (by rw [Nat.mul_comm]; exact ht)
    have hp := hr.2 (t / k) xs[t / k] (List.getElem?_eq_getElem hq)
    have e1 : (flatK enc k xs.toArray).toList[t] = (flatK enc k xs.toArray)[t]! := by
      rw [getElem!_pos (flatK enc k xs.toArray) t (by simpa using ht)]; simp
    rw [e1, get_flatK _ _ _ _ (by simpa using ht)]
    have e2 : (xs.toArray)[t / k]! = xs[t / k] := by rw [getElem!_pos xs.toArray (t / k) (by simpa using hq)]; simp
    rw [e2, ← hp]
    have hm : t % k < k := Nat.mod_lt _ hk0
    have e3 : t / k * k + t % k = t := Nat.div_add_mod' t k
    have hlen : t % k < ((inner.drop (t / k * k)).take k).length := by
      rw [hp, hk]; exact hm
    rw [getElem!_pos ((inner.drop (t / k * k)).take k) (t % k) hlen]
    simp [e3]
theorem hw_holds {w : World} {base e g cap : Nat} {xs : List α} {inner : List Value} (hk : ∀ x, (enc x).length = k) (ho : w.ownsRow base e k (.slice (some ⟨g, 0, none⟩) xs.length cap) xs.length inner) (hr : Reps (fun x cs => cs = enc x) k xs inner) : HoldsK enc k w g 0 xs.toArray := by
  have hf := hw_flat_list xs hk inner hr
  rcases ho.2 with ⟨h, _⟩ | ⟨g', cap', cur, he, hb, hh, h1, h2, h3, h4⟩
  · simp at h
  · simp only [Value.slice.injEq, Option.some.injEq, Addr.mk.injEq] at he
    obtain ⟨⟨rfl, _⟩, _, rfl⟩ := he
    intro j hj
    have hj' : j < xs.length * k := by simpa using hj
    have hle : xs.length * k ≤ cap * k := Nat.mul_le_mul_right _ h1
    have hc : j < cur.size := by omega
    have e1 : (flatK enc k xs.toArray)[j]! = cur[j] := by
      rw [getElem!_pos (flatK enc k xs.toArray) j hj]
      have : (flatK enc k xs.toArray).toList[j]'(by simpa using hj') = (cur.toList.take (xs.length * k))[j]'(by simp; omega) := by
        congr 1; rw [hf, h4]
      simpa using this
    refine ⟨?_, ?_⟩
    · simp only [World.cell?, hh]
      simp [e1, hc]
    · simp [World.frozen?, hh]
theorem hw_sorted {w : World} {base e g cap m : Nat} {xs : List α} {inner : List Value} {d' : Array α} {os : Array Obj} (hk : ∀ x, (enc x).length = k)
    (ho : w.ownsRow base e k (.slice (some ⟨g, 0, none⟩) xs.length cap) xs.length inner) (hs : d'.size = xs.length) :
    (sortWorldK enc k w g 0 m d' os).ownsRow base e k (.slice (some ⟨g, 0, none⟩) xs.length cap) xs.length (flatK enc k d').toList ∧ w.grownBy (sortWorldK enc k w g 0 m d' os) (some g) := by
  have hgl := own_lt ho g (by simp [Value.ownBlock])
  rcases ho.2 with ⟨h, _⟩ | ⟨g', cap', cur, he, hb, hh, h1, h2, h3, h4⟩
  · simp at h
  · simp only [Value.slice.injEq, Option.some.injEq, Addr.mk.injEq] at he
    obtain ⟨⟨rfl, _⟩, _, rfl⟩ := he
    have hle : xs.length * k ≤ cap * k := Nat.mul_le_mul_right _ h1
    have hblk : (sortWorldK enc k w g 0 m d' os).heap[g]? = some (.cells (putCells id 0 (flatK enc k d') cur) e (0, 0)) := by
      unfold sortWorldK putRowK putRow
      rw [heap_grow_old _ _ (by simpa [mapBlock] using hgl)]
      simp [mapBlock, Array.getElem?_modify, hh, onCells]
    refine ⟨⟨by simp [hs], .inr ⟨g, cap, _, rfl, hb, hblk, h1, h2, by simp [putCells, h3], ?_⟩⟩, ?_⟩
    · apply List.ext_getElem
      · simp only [List.length_take, Array.length_toList, size_flatK, hs]
        rw [show (putCells id 0 (flatK enc k d') cur).size = cap * k by simp [putCells, h3], Nat.min_eq_left hle]
      · intro t ht1 ht2
        have ht : t < d'.size * k := by simpa using ht2
        simp [putCells, Array.getElem_mapIdx, ht, getElem!_pos (flatK enc k d') t (by simpa using ht)]
    · refine ⟨rfl, rfl, rfl, ?_, ?_⟩
      · simp [sortWorldK, putRowK]
      · intro i hi hne
        have hig : g ≠ i := fun h => hne (by rw [h])
        unfold sortWorldK putRowK putRow
        rw [heap_grow_old _ _ (by simpa [mapBlock] using hi)]
        simp [mapBlock, Array.getElem?_modify, hig]
theorem hw_reps (d' : Array α) (hk : ∀ x, (enc x).length = k) : Reps (fun x cs => cs = enc x) k d'.toList (flatK enc k d').toList := by
  refine ⟨by simp, fun j p hj => ?_⟩
  obtain ⟨hjl, hp⟩ := List.getElem?_eq_some_iff.1 hj
  have hjl' : j < d'.size := by simpa using hjl
  subst hp
  have hle : j * k + k ≤ d'.size * k := by rw [← Nat.succ_mul]; exact Nat.mul_le_mul_right _ hjl'
  apply List.ext_getElem
  · simp [hk]; omega
  · intro t h1 h2
    have ht : t < k := by simpa [hk] using h2
    have hlt : j * k + t < d'.size * k := by omega
    have hq : (j * k + t) / k = j := (blk_iff k j _ (by omega)).1 ⟨by omega, by omega⟩
    have hm : (j * k + t) % k = t := by rw [Nat.mod_eq_sub_div_mul, hq]; omega
    have e1 : (flatK enc k d')[j * k + t]'(by simpa using hlt) = (flatK enc k d')[j * k + t]! := by rw [getElem!_pos (flatK enc k d') (j * k + t) (by simpa using hlt)]
    simp only [List.getElem_take, List.getElem_drop, Array.getElem_toList]
    rw [e1, get_flatK _ _ _ _ hlt, hq, hm, getElem!_pos d' j hjl', getElem!_pos (enc d'[j]) t (by rw [hk]; exact ht)]
end
section
open Go.Sort
def cmpI (x y : Int) : Int := if x < y then -1 else if y < x then 1 else 0
def encL (x : S87) : List Value := [.int .i64 x.f0, .int .i64 x.f1]
theorem ltCmp (x y : S87) : ltOf (fun x y : S87 => cmpI x.f0 y.f0) x y = decide (x.f0 < y.f0) := by
  unfold ltOf cmpI
  by_cases h1 : x.f0 < y.f0
  · simp [h1]
  · by_cases h2 : y.f0 < x.f0 <;> simp [h1, h2]
theorem swoCmp : SWO (ltOf fun x y : S87 => cmpI x.f0 y.f0) where
  irrefl x := by rw [ltCmp]; simp
  trans x y z h1 h2 := by rw [ltCmp] at *; simp at *; omega
  ntrans x y z h1 h2 := by rw [ltCmp] at *; simp at *; omega
set_option maxHeartbeats 2000000 in
set_option maxRecDepth 100000 in
theorem span_sorted_2.calls (x y : S87) (W : World) : Calls Tryz.prog 179 #[.agg #[.int .i64 x.f0, .int .i64 x.f1], .agg #[.int .i64 y.f0, .int .i64 y.f1]] W fun e w' => e = .returned (.int .i64 (cmpI x.f0 y.f0)) ∧ ∃ q os', w' = grow (W.drewN q) os' := by
  have hu := Tryz.underlying87
  unfold cmpI
  by_cases h1 : x.f0 < y.f0
  · have b1 : decide (x.f0 < y.f0) = true := zH h1
    rw [if_pos h1]
    clear h1
    go_enter Tryz.func179, Tryz.ntmps179
    go_wp2
    go_ret
    exact ⟨rfl, 0, _, by rw [alloc_eq_grow, alloc_eq_grow, grow_grow]; rfl⟩
  · have b1 : decide (x.f0 < y.f0) = false := zI h1
    rw [if_neg h1]
    by_cases h2 : y.f0 < x.f0
    · have b2 : decide (y.f0 < x.f0) = true := zH h2
      rw [if_pos h2]
      clear h1 h2
      go_enter Tryz.func179, Tryz.ntmps179
      go_wp2
      go_ret
      exact ⟨rfl, 0, _, by rw [alloc_eq_grow, alloc_eq_grow, grow_grow]; rfl⟩
    · have b2 : decide (y.f0 < x.f0) = false := zI h2
      rw [if_neg h2]
      clear h1 h2
      go_enter Tryz.func179, Tryz.ntmps179
      go_wp2
      go_ret
      exact ⟨rfl, 0, _, by rw [alloc_eq_grow, alloc_eq_grow, grow_grow]; rfl⟩
theorem sortedIn_list [Inhabited S87] (d : Array S87) (h : SortedIn (ltOf fun x y : S87 => cmpI x.f0 y.f0) 0 d.size d) : d.toList.Pairwise (fun a b => a.f0 ≤ b.f0) := by
  rw [List.pairwise_iff_getElem]
  intro i j hi hj hij
  have h1 := h i j (Nat.zero_le _) hij (by simpa using hj)
  rw [ltCmp] at h1
  have hi' : i < d.size := by simpa using hi
  have hj' : j < d.size := by simpa using hj
  rw [getElem!_pos d i hi', getElem!_pos d j hj'] at h1
  simp at h1 ⊢
  exact h1
set_option maxHeartbeats 2000000 in
set_option maxRecDepth 100000 in
theorem sortSpan.calls (v : Value) (l0 : List S87) (w : World) (base : Nat) (hR : Kd.R k87 87 w base (fun _ => True) v l0) (hl : l0.length < 4611686018427387904) :
    Calls Tryz.prog 178 #[v, .func (.func 179) #[] #[]] w fun e w' => e = .returned (.tuple #[]) ∧ ∃ l1 : List S87, l1.Perm l0 ∧ l1.Pairwise (fun a b => a.f0 ≤ b.f0) ∧ Kd.R k87 87 w' base (fun _ => True) v l1 ∧ w.grownBy w' v.ownBlock := by
  haveI : Inhabited S87 := ⟨z87⟩
  have eg : ∀ args w, (callFunc 179 args).run Tryz.prog w = .ok (.enter 179 args) w := enters_of Tryz.func179 (by kernel_rfl) rfl
  by_cases h0 : l0 = []
  · subst h0
    obtain ⟨A, c, rfl⟩ := Kd.R_slice hR
    refine (AnyF.slices_SortFunc_none Tryz.laySort A c (.func (.func 179) #[] #[]) w).mono ?_
    rintro e w' ⟨rfl, rfl⟩
    exact ⟨rfl, [], List.Perm.refl _, List.Pairwise.nil, hR, World.grownBy.refl _ _⟩
  · obtain ⟨g, c, rfl, hgb, hgl, hgc⟩ := Kd.R_form hR (List.length_pos_iff.2 h0)
    obtain ⟨_, inner, ho, hr⟩ := hR
    have hr' : Reps (fun x cs => cs = encL x) 2 l0 inner := ⟨hr.1, fun j p hj => k87_openM (hr.2 j p hj)⟩
    have hH : HoldsK encL 2 w g 0 l0.toArray := hw_holds (fun _ => rfl) ho hr'
    have hcon := AnyQ.slices_SortFunc Tryz.laySort 2 Tryz.isAgg87 Tryz.sizeOf87 encL (fun _ => rfl) (fun x v hv => by simp [encL] at hv; rcases hv with hv | hv <;> (rw [hv]; rfl)) (fun x y => cmpI x.f0 y.f0) swoCmp 179 #[] g 0 c l0.toArray w eg
      (fun _ _ _ _ x y => span_sorted_2.calls x y _) hH hgl (by simpa using hl)
    refine Calls.mono hcon ?_
    rintro e w' ⟨rfl, d', n, os, hp, hs, rfl⟩
    obtain ⟨hp1, _, hp3⟩ := hp
    have hs1 : d'.size = l0.length := by simpa using hp1
    obtain ⟨h1, h2⟩ := hw_sorted (enc := encL) (k := 2) (m := n) (os := os) (fun _ => rfl) ho hs1
    refine ⟨rfl, d'.toList, ?_, sortedIn_list d' (by rw [hp1]; exact hs), ⟨fun _ _ => trivial, _, by rw [show d'.toList.length = l0.length by simpa using hs1]; exact h1, ?_⟩, h2⟩
    · have e1 : (d'.extract 0 (l0.toArray).size).toList = d'.toList := by
        rw [show (l0.toArray).size = d'.size by simp [hs1], Array.extract_size]
      have e2 : ((l0.toArray).extract 0 (l0.toArray).size).toList = l0 := by simp
      rw [e1, e2] at hp3
      exact hp3
    · have h3 := hw_reps (enc := encL) (k := 2) d' (fun _ => rfl)
      exact ⟨h3.1, fun j p hj => by have h4 := h3.2 j p hj; exact h4 ▸ k87_mkM _ _ _ p⟩
end
set_option maxHeartbeats 2000000 in
theorem cloneSpan.calls (A0 : Option Addr) (c0 : Nat) (l0 : List S87) (w : World) (hr0 : Kd.C k87 w A0 l0.length l0) (hl : l0.length < 8796093022208) :
    Calls Tryz.prog 56 #[.slice A0 l0.length c0] w fun e w' => ∃ v0_ : Value, e = .returned v0_ ∧ Kd.R k87 87 w' w.heap.size (fun _ => True) v0_ l0 ∧ Below w.heap.size w w' := by
  have q22 : ∀ (w : World) (a : Option Addr) (n c n' c' : Nat), (binOp .eql 44 (.slice a n c) (.slice none n' c')).run Tryz.prog w = .ok (.bool a.isNone) w := fun w a n c n' c' => Lib.run_eql_slice_nil w _ _ a n c n' c' Tryz.underlying44
  have HR0 := zA hr0
  clear hr0
  cases A0 with
  | none =>
    have h0 : l0 = [] := by
      rcases Nat.eq_zero_or_pos l0.length with h | h
      · exact List.eq_nil_of_length_eq_zero h
      · obtain ⟨ad, he, _⟩ := HR0.out.2.2 h
        cases he
    subst h0
    go_enter Tryz.func56, Tryz.ntmps56
    go_wp2
    go_ret
    exact ⟨_, rfl, Kd.R_nil _ _ _ _ _, Below.refl _ _⟩
  | some ad =>
    go_enter Tryz.func56, Tryz.ntmps56
    go_wp2_with (at_builtin; refine Kd.R_append_rows k87 (w0 := w) w.heap.size rfl (.tmp 5) (.tmp 6) 44 87 (.agg #[(.int .i64 0), (.int .i64 0)]) 16 rfl Tryz.underlying44 info87 rfl (by decide) (by omega) (.slice (some ⟨w.heap.size, 0, none⟩) 0 0) ([] : List S87) l0 (some ad) l0.length c0 (fun _ => True) (fun _ => False) rfl rfl ?aO ?aR (fun _ _ h => h) (fun _ h => h.elim) ?aF ?aB ?aS ?aL ?_; (case aR => exact Kd.C_alloc HR0.out _); (case aB => exact (Below.refl _ w).alloc (Nat.le_refl _) _); (case aF => exact (fun _ _ => trivial)); (case aO => exact ⟨fun _ _ => trivial, [], World.ownsRow_made w #[] 0 (Nat.le_refl _) (Nat.zero_le _) (by simp), Reps.none _ _⟩); (case aS => exact below_size ((Below.refl _ w).alloc (Nat.le_refl _) _)); (case aL => simp; omega); intro v1 w1 ho hb hg hat)
    go_ret
    exact ⟨_, rfl, ho, hb⟩
def insB (size : Int) (s : S87) : Bool := decide (0 < s.f1) && (decide (0 ≤ s.f0) && (decide (s.f0 < size) && decide (s.f1 ≤ wrap64 (size - s.f0))))
theorem insB_f (size : Int) (s : S87) : span_inside.f s.f0 s.f1 size = some (insB size s) := by
  unfold span_inside.f insB
  by_cases h1 : 0 < s.f1 <;> by_cases h2 : 0 ≤ s.f0 <;> by_cases h3 : s.f0 < size <;> simp [h1, h2, h3, GT.gt, GE.ge] <;> omega
theorem span_sorted_1.calls (size : Int) (B : Nat) (x : S87) (W : World) (hc : W.cell? ⟨B, 0, none⟩ = some (.int .i64 size)) :
    Calls Tryz.prog 175 #[.agg #[.int .i64 x.f0, .int .i64 x.f1], .pointer (some ⟨B, 0, none⟩)] W fun e W' => e = .returned (.bool (!insB size x)) ∧ Below W.heap.size W W' := by
  have hu := Tryz.underlying87
  have hBW : B < W.heap.size := zB W _ hc
  have hne : B ≠ W.heap.size := by omega
  have hin := fun W' => span_inside.calls x.f0 x.f1 size (insB size x) W' (insB_f size x)
  generalize insB size x = b at hin ⊢
  go_enter Tryz.func175, Tryz.ntmps175
  go_wp2_with (go_at_call 176; refine (hin _).mono ?_; rintro e w' ⟨rfl, hb⟩)
  go_ret
  exact ⟨rfl, ((Below.refl _ W).alloc (Nat.le_refl _) _).trans (hb.mono (by simp))⟩
def chkF : Int → List S87 → Bool
  | _, [] => true
  | e, s :: t => if s.f0 < e then false else chkF (wrap64 (s.f0 + s.f1)) t
def outF (size : Int) (l : List S87) : Bool := l.any fun s => !insB size s
def sortF (l : List S87) : List S87 := l.mergeSort (fun a b => decide (a.f0 ≤ b.f0))
def sortedF (l : List S87) (size : Int) : List S87 × Int :=
  if size < 1 ∨ 8192 < size ∨ outF size l = true then ([], 11) else if chkF 0 (sortF l) = true then (sortF l, 0) else ([], 5)
theorem insB_spec {size : Int} (h1 : 1 ≤ size) (h2 : size ≤ 8192) {s : S87} (h : insB size s = true) : 0 < s.f1 ∧ 0 ≤ s.f0 ∧ s.f0 + s.f1 ≤ size := by
  unfold insB at h
  simp only [Bool.and_eq_true, decide_eq_true_eq] at h
  obtain ⟨a, b, c, d⟩ := h
  unfold wrap64 at d
  omega
theorem chkF_strict {size : Int} (h1 : 1 ≤ size) (h2 : size ≤ 8192) : ∀ (l : List S87) (e : Int), (∀ s ∈ l, insB size s = true) → chkF e l = true → l.Pairwise (fun a b => a.f0 < b.f0) ∧ ∀ s ∈ l, e ≤ s.f0
  | [], _, _, _ => ⟨List.Pairwise.nil, by simp⟩
  | s :: t, e, hin, hc => by
    unfold chkF at hc
    split at hc
    · cases hc
    · rename_i hse
      have hs := insB_spec h1 h2 (hin s (by simp))
      have hw : wrap64 (s.f0 + s.f1) = s.f0 + s.f1 := by unfold wrap64; omega
      rw [hw] at hc
      obtain ⟨hp, he⟩ := chkF_strict h1 h2 t _ (fun x hx => hin x (by simp [hx])) hc
      refine ⟨List.Pairwise.cons (fun b hb => ?_) hp, fun x hx => ?_⟩
      · have := he b hb; omega
      · rcases List.mem_cons.1 hx with rfl | hx
        · omega
        · have := he x hx; omega
theorem strict_inj {l : List S87} (h : l.Pairwise (fun a b => a.f0 < b.f0)) {a b : S87} (ha : a ∈ l) (hb : b ∈ l) (e : a.f0 = b.f0) : a = b := by
  induction h with
  | nil => cases ha
  | cons h1 _ ih =>
    rcases List.mem_cons.1 ha with rfl | ha'
    · rcases List.mem_cons.1 hb with rfl | hb'
      · rfl
      · have := h1 b hb'; omega
    · rcases List.mem_cons.1 hb with rfl | hb'
      · have := h1 a ha'; omega
      · exact ih ha' hb'
theorem sorted_unique {size : Int} (h1 : 1 ≤ size) (h2 : size ≤ 8192) {l m : List S87} (hp : l.Perm m) (hl : l.Pairwise (fun a b => a.f0 ≤ b.f0)) (hm : m.Pairwise (fun a b => a.f0 ≤ b.f0)) (hin : ∀ s ∈ l, insB size s = true) (hc : chkF 0 l = true) : l = m := by
  obtain ⟨hs, _⟩ := chkF_strict h1 h2 l 0 hin hc
  exact List.Perm.eq_of_pairwise (fun a b ha hb hab hba => strict_inj hs ha (hp.mem_iff.2 hb) (by omega)) hl hm hp
theorem sortF_perm (l : List S87) : (sortF l).Perm l := List.mergeSort_perm _ _
theorem sortF_pairwise (l : List S87) : (sortF l).Pairwise (fun a b => a.f0 ≤ b.f0) := by
  have := List.pairwise_mergeSort (le := fun a b : S87 => decide (a.f0 ≤ b.f0)) (by intro a b c; simp; omega) (by intro a b; simp; omega) l
  exact this.imp (by intro a b h; simpa using h)
theorem sorted_told {size : Int} (h1 : 1 ≤ size) (h2 : size ≤ 8192) {l m : List S87} (hp : m.Perm l) (hm : m.Pairwise (fun a b => a.f0 ≤ b.f0)) (ho : outF size l = false) :
    chkF 0 (sortF l) = chkF 0 m ∧ (chkF 0 m = true → m = sortF l) := by
  have hin : ∀ s ∈ l, insB size s = true := by
    intro s hs
    have := List.any_eq_false.1 ho s hs
    simpa using this
  have hmm : chkF 0 m = true → m = sortF l := fun hc => sorted_unique h1 h2 (hp.trans (sortF_perm l).symm) hm (sortF_pairwise l) (fun s hs => hin s (hp.mem_iff.1 hs)) hc
  have hss : chkF 0 (sortF l) = true → sortF l = m := fun hc => sorted_unique h1 h2 ((sortF_perm l).trans hp.symm) (sortF_pairwise l) hm (fun s hs => hin s ((sortF_perm l).mem_iff.1 hs)) hc
  refine ⟨?_, hmm⟩
  cases hb : chkF 0 m with
  | true => rw [← hmm hb]; exact hb
  | false =>
    cases hc : chkF 0 (sortF l) with
    | false => rfl
    | true => rw [hss hc] at hc; rw [hc] at hb; cases hb
set_option maxHeartbeats 2000000 in
theorem span_sortedH.calls (A0 : Option Addr) (c0 : Nat) (l0 : List S87) (a1 : Int) (w : World) (hr0 : Kd.C k87 w A0 l0.length l0) (hl : l0.length < 8796093000000) :
    Calls Tryz.prog 137 #[.slice A0 l0.length c0, .int .i64 a1] w fun e w' => ∃ v0_ : Value, e = .returned (.tuple #[v0_, .int .i64 (sortedF l0 a1).2]) ∧ Kd.R k87 87 w' w.heap.size (fun _ => True) v0_ (sortedF l0 a1).1 ∧ Below w.heap.size w w' := by
  have hu := Tryz.underlying87
  have eg : ∀ args w, (callFunc 175 args).run Tryz.prog w = .ok (.enter 175 args) w := enters_of Tryz.func175 (by kernel_rfl) rfl
  have HR0 := zA hr0
  clear hr0
  have HBX := zA ((Below.refl _ w).alloc (Nat.le_refl _) (.cells #[.int .i64 a1] 3))
  have hcell : (w.alloc (.cells #[.int .i64 a1] 3)).cell? ⟨w.heap.size, 0, none⟩ = some (.int .i64 a1) := by simp
  by_cases hs : 1 ≤ a1 ∧ a1 ≤ 8192
  · have hsz : span_sized.f a1 = some true := by unfold span_sized.f; rw [if_pos hs.1]; simp [hs.2]
    have hcon := zA (show ∀ W, Below (w.heap.size + 1) (w.alloc (.cells #[.int .i64 a1] 3)) W → Calls Tryz.prog 157 #[.slice A0 l0.length c0, .func (.func 175) #[] #[.pointer (some ⟨w.heap.size, 0, none⟩)]] W fun e w' => e = .returned (.bool (outF a1 l0)) ∧ Below W.heap.size W w' from fun W hW =>
      hasSpan.calls (fun s => !insB a1 s) 175 #[.pointer (some ⟨w.heap.size, 0, none⟩)] eg A0 c0 l0 W (Kd.C_below (Kd.C_alloc HR0.out _) (by simpa using hW)) (fun W' x cs hb hk => by
        obtain rfl := k87_open hk
        have h1 : W.cell? ⟨w.heap.size, 0, none⟩ = some (.int .i64 a1) := (hW.cell (p := ⟨w.heap.size, 0, none⟩) (by simp)).trans hcell
        exact span_sorted_1.calls a1 w.heap.size x W' ((hb.cell (p := ⟨w.heap.size, 0, none⟩) (zB W _ h1)).trans h1)))
    cases ho : outF a1 l0 with
    | true =>
      have hres : sortedF l0 a1 = ([], 11) := by unfold sortedF; rw [if_pos (.inr (.inr ho))]
      rw [hres]
      have hcon2 := hcon.out
      rw [ho] at hcon2
      have HC := zA hcon2
      clear hcon hcon2 ho hres hs
      go_enter Tryz.func137, Tryz.ntmps137
      go_wp2_with (first | (go_at_call 177; refine (span_sized.calls a1 true _ hsz).mono ?_; rintro e w' ⟨rfl, ⟨nd, rfl⟩⟩) | (go_at_call 157; refine (HC.out _ (by first | exact Below.refl _ _ | exact zF (Below.refl _ _) _)).mono ?_; rintro e w' ⟨rfl, hb⟩))
      go_ret2
      exact ⟨_, rfl, Kd.R_nil _ _ _ _ _, HBX.out.trans (Below.mono (by first | exact hb | exact (zF (Below.refl _ _) _).trans hb) (by simp))⟩
    | false =>
      have hres : sortedF l0 a1 = if chkF 0 (sortF l0) = true then (sortF l0, 0) else ([], 5) := by unfold sortedF; rw [if_neg (by rw [ho]; simp; omega)]
      have hcon2 := hcon.out
      rw [ho] at hcon2
      have HC := zA hcon2
      have HTOLD := zA (show ∀ m : List S87, m.Perm l0 → m.Pairwise (fun a b => a.f0 ≤ b.f0) → (chkF 0 m = true → sortedF l0 a1 = (m, 0)) ∧ (chkF 0 m = false → sortedF l0 a1 = ([], 5)) from fun m hpm hsm => by
        obtain ⟨h1, h2⟩ := sorted_told hs.1 hs.2 hpm hsm ho
        rw [hres, h1]
        exact ⟨fun h => by rw [if_pos h, h2 h], fun h => by rw [h]; rfl⟩)
      have HL := zA hl
      clear hcon hcon2 ho hres hs hl
      generalize sortedF l0 a1 = res at HTOLD ⊢
      go_enter Tryz.func137, Tryz.ntmps137
      go_wp2_with (first | (go_at_call 177; refine (span_sized.calls a1 true _ hsz).mono ?_; rintro e w' ⟨rfl, ⟨nd, rfl⟩⟩) | (go_at_call 157; refine (HC.out _ (by first | exact Below.refl _ _ | exact zF (Below.refl _ _) _)).mono ?_; rintro e w1 ⟨rfl, hb1⟩; have HB1 := zA (HBX.out.trans (Below.mono (by first | exact hb1 | exact (zF (Below.refl _ _) _).trans hb1) (by simp) : Below w.heap.size _ w1)); clear hb1 HC HBX) | (go_at_call 56; refine (cloneSpan.calls A0 c0 l0 _ (Kd.C_below HR0.out HB1.out) (by have := HL.out; omega)).mono ?_; rintro e w2 ⟨v0, rfl, hR1, hb2⟩; obtain ⟨A1, c1, rfl⟩ := Kd.R_slice hR1; have HR1 := zA hR1; have HB2 := zA (zL HB1.out hb2); clear hR1 hb2) | (go_at_call 178; refine (sortSpan.calls _ l0 _ w1.heap.size HR1.out (by have := HL.out; omega)).mono ?_; rintro e w3 ⟨rfl, m, hpm, hsm, hR2, hg2⟩; have hml := hpm.length_eq; have HT := zA (HTOLD.out m hpm hsm); have HR2 := zA hR2; have HB3 := zA (Below.grown HB2.out hg2 (below_size HB2.out) (fun k hk => Nat.le_trans (below_size HB1.out) (Kd.R_base HR1.out k hk))); clear HTOLD hpm hsm hR2 hg2))
      rw [← hml] at HR2 ⊢
      clear hml
      have HC2 := zA (Kd.R_reads' HR2.out).2.2
      have hbig : m.length ≤ 9223372036854775807 := HC2.out.2.1
      go_loopg [7, 25] m.length (fun gg s7 s25 wr => ∃ (kk : Nat) (e : Int), kk ≤ m.length ∧ m.length - kk ≤ gg ∧ s7 = .int .i64 e ∧ s25 = .int .i64 kk ∧ Aside0 (Below w3.heap.size w3 wr) ∧ Aside0 (chkF 0 m = chkF e (m.drop kk)))
      case atStart => exact ⟨0, 0, Nat.zero_le _, by omega, rfl, rfl, ⟨Below.refl _ w3⟩, ⟨rfl⟩⟩
      case round =>
        obtain ⟨kk, e, hkk, hg, rfl, rfl, BW, AA⟩ := hrel
        by_cases hlt : kk < m.length
        · have hltz : (kk : Int) < (m.length : Int) := by omega
          obtain ⟨ad, e0, hx0, hx1⟩ := at_T87 HC2.out (kk : Int) (by omega) hltz
          cases e0
          rw [rd_T87_get m kk hlt] at hx0 hx1
          simp only [Int.toNat_natCast] at hx0 hx1
          replace hx0 := (BW.out.cell (zB w3 _ hx0)).trans hx0
          replace hx1 := (BW.out.cell (zB w3 _ hx1)).trans hx1
          have AS : Aside0 (chkF 0 m = if m[kk].f0 < e then false else chkF (wrap64 (m[kk].f0 + m[kk].f1)) (m.drop (kk + 1))) := ⟨by rw [AA.out, List.drop_eq_getElem_cons hlt]; rfl⟩
          clear AA
          generalize m[kk] = y at hx0 hx1 AS
          by_cases hq : y.f0 < e
          · have hb : decide (y.f0 < e) = true := zH hq
            have hres := zA (HT.out.2 (by rw [AS.out, if_pos hq]))
            clear hq AS HT
            go_wp2
            go_ret2
            rw [hres.out]
            exact ⟨_, rfl, Kd.R_nil _ _ _ _ _, zL HB3.out (by first | exact BW.out | apply zL BW.out; repeat (first | exact Below.refl _ _ | apply zJ | apply zF | refine below_set ?_ (Nat.le_refl _)))⟩
          · have hb : decide (y.f0 < e) = false := zI hq
            have AA := zA (AS.out.trans (if_neg hq))
            clear hq AS
            go_wp2
            go_roundg (m.length - (kk + 1))
            case measure => omega
            case rel => exact ⟨kk + 1, _, by omega, by omega, rfl, by go_num, ⟨zL BW.out (by repeat (first | exact Below.refl _ _ | apply zJ | apply zF | refine below_set ?_ (Nat.le_refl _)))⟩, AA⟩
        · have hltz : ¬ (kk : Int) < (m.length : Int) := by omega
          have hkl : kk = m.length := by omega
          subst hkl
          have hres := zA (HT.out.1 (by rw [AA.out, List.drop_length]; rfl))
          clear HT AA
          go_wp2
          go_ret2
          rw [hres.out]
          exact ⟨_, rfl, Kd.R_lower (Kd.R_below HR2.out BW.out) (below_size HB1.out), zL HB3.out BW.out⟩
  · have hsz : span_sized.f a1 = some false := by
      unfold span_sized.f
      by_cases h1 : 1 ≤ a1
      · rw [if_pos h1]
        have : ¬ a1 ≤ 8192 := fun h => hs ⟨h1, h⟩
        simp [this]
      · rw [if_neg h1]
    have hres : sortedF l0 a1 = ([], 11) := by unfold sortedF; rw [if_pos (by omega)]
    rw [hres]
    clear hs hres
    go_enter Tryz.func137, Tryz.ntmps137
    go_wp2_with (go_at_call 177; refine (span_sized.calls a1 false _ hsz).mono ?_; rintro e w' ⟨rfl, ⟨nd, rfl⟩⟩)
    go_ret2
    exact ⟨_, rfl, Kd.R_nil _ _ _ _ _, by first | exact HBX.out | exact zF HBX.out _⟩
theorem valsSpan.calls (A1 : Option Addr) (n1 c1 : Nat) (w : World) : Calls Tryz.prog 139 #[.slice A1 n1 c1] w fun e w' => e = .returned (.func (.func 181) #[] #[.pointer (some ⟨w.heap.size, 0, none⟩)]) ∧ w' = w.alloc (.cells #[.slice A1 n1 c1] 44) := by
  go_enter Tryz.func139, Tryz.ntmps139
  go_wp2
  go_ret
  exact ⟨rfl, rfl⟩
theorem joinedVals.calls (A1 : Option Addr) (c1 : Nat) (zs : List S87) (w : World) (hC : Kd.C k87 w A1 zs.length zs) (hl : zs.length < 8796093000000) :
    Calls Tryz.prog 138 #[.func (.func 181) #[] #[.pointer (some ⟨w.heap.size, 0, none⟩)]] (w.alloc (.cells #[.slice A1 zs.length c1] 44)) fun e W' => ∃ v, e = .returned v ∧ Kd.R k87 87 W' w.heap.size (fun _ => True) v (joinF zs) ∧ Below w.heap.size w W' := by
  have eg : ∀ args w, (callFunc 181 args).run Tryz.prog w = .ok (.enter 181 args) w := enters_of Tryz.func181 (by kernel_rfl) rfl
  have hb1 : Below w.heap.size w (w.alloc (.cells #[.slice A1 zs.length c1] 44)) := (Below.refl _ w).alloc (Nat.le_refl _) _
  have hC1 := Kd.C_alloc hC (.cells #[.slice A1 zs.length c1] 44)
  have hB : (w.alloc (.cells #[.slice A1 zs.length c1] 44)).cell? ⟨w.heap.size, 0, none⟩ = some (.slice A1 zs.length c1) := by simp
  generalize hW : w.alloc (.cells #[.slice A1 zs.length c1] 44) = W1 at hb1 hC1 hB ⊢
  have hs1 : w.heap.size < W1.heap.size := zB W1 _ hB
  refine (callsIn_wide (n := 2)).1 ((joined_in Fence.wide 2 trivial rfl (Nat.le_refl _) _ _ trivial eg zs (fun _ => True) zs.length hl W1 (fun l J Jx W hb hJ hJx hY h0 => ?_)).mono ?_)
  · exact vals1_in Fence.wide 1 trivial rfl (Nat.le_refl _) l w.heap.size W1.heap.size c1 A1 zs W1 (Nat.le_refl _) J Jx hC1 hY W hJ hb.size hb ((hb.cell (p := ⟨w.heap.size, 0, none⟩) hs1).trans hB) h0
  · rintro e W' ⟨v, rfl, hR, hb2⟩
    exact ⟨v, rfl, Kd.R_lower hR (Nat.le_of_lt hs1), zL hb1 hb2⟩
theorem sortedF_cases (l0 : List S87) (a1 : Int) : (sortedF l0 a1).2 = 0 → (sortedF l0 a1).1.length = l0.length := by
  unfold sortedF
  split
  · intro h; cases h
  · split
    · intro _; exact (sortF_perm l0).length_eq
    · intro h; cases h
def gapStep (st : Int × List S87) (s : S87) : Int × List S87 := (wrap64 (s.f0 + s.f1), if st.1 < s.f0 then st.2 ++ [⟨st.1, wrap64 (s.f0 - st.1)⟩] else st.2)
def gapsF (size : Int) (l : List S87) : List S87 := if (l.foldl gapStep (0, [])).1 < size then (l.foldl gapStep (0, [])).2 ++ [⟨(l.foldl gapStep (0, [])).1, wrap64 (size - (l.foldl gapStep (0, [])).1)⟩] else (l.foldl gapStep (0, [])).2
theorem gapStep_len (l : List S87) : ∀ st, (l.foldl gapStep st).2.length ≤ st.2.length + l.length := by
  induction l with
  | nil => intro st; simp
  | cons s t ih =>
    intro st
    have := ih (gapStep st s)
    simp only [List.foldl_cons, List.length_cons]
    have h2 : (gapStep st s).2.length ≤ st.2.length + 1 := by unfold gapStep; split <;> simp
    omega
set_option maxRecDepth 100000 in
set_option maxHeartbeats 4000000 in
theorem gaps1_in (F : Fence) (n : Nat) (h7 : F.fn 190) (hro : F.round = none) (hn : 1 ≤ n) (l Bs Bz n₀ c0 : Nat) (A0 : Option Addr) (zs : List S87) (size : Int) (W0 : World) (hn₀ : W0.heap.size ≤ n₀) (hBz : Bz < n₀) (J Jx : List S87 → World → Prop)
    (hC : Kd.C k87 W0 A0 zs.length zs)
    (hY : ∀ pre x W1 Wx, J pre W1 → W1.grownBy Wx none → n₀ ≤ W1.heap.size → pre.length < zs.length + 1 → YieldAt F (n - 1) Tryz.prog l (encS x) Wx fun e W' =>
      (e = .returned (.bool true) ∧ J (pre ++ [x]) W' ∧ Below n₀ Wx W' ∧ (∀ k, W1.heap.size ≤ k → k < Wx.heap.size → W'.heap[k]? = Wx.heap[k]?)) ∨ (e = .returned (.bool false) ∧ Jx (pre ++ [x]) W'))
    (W : World) (hJ : AbidesFrom W.heap.size J) (hWn : n₀ ≤ W.heap.size) (hb0 : Below W0.heap.size W0 W) (hBs : W.cell? ⟨Bs, 0, none⟩ = some (.slice A0 zs.length c0)) (hBzc : W.cell? ⟨Bz, 0, none⟩ = some (.int .i64 size)) (h0 : J [] W) :
    CallsIn F n Tryz.prog 190 #[.func (.yield l) #[] #[], .pointer (some ⟨Bs, 0, none⟩), .pointer (some ⟨Bz, 0, none⟩)] W fun e W' => (∃ v, e = .returned v) ∧
      ((∃ ys, ys = gapsF size zs ∧ J ys W') ∨ (∃ pre, True ∧ Jx pre W')) := by
  have hlen : zs.length ≤ 9223372036854775807 := hC.2.1
  have HC := zA hC
  have HZ := zA hBzc
  clear hC hBzc
  have hu := Tryz.underlying87
  refine callsIn_of_wp Tryz.func190 rfl h7 ?_ hro
  simp only [Tryz.ntmps190, List.size_toArray, List.length_cons, List.length_nil, Nat.reduceAdd, Nat.reduceSub, Array.replicate_succ, Array.replicate_zero, List.push_toArray, List.append_toArray, List.nil_append, List.cons_append]
  gi_wp2
  gi_loopw [4, 6, 9] (fun a _ i wr => ∃ (k : Nat) (at_ : Int), k ≤ zs.length ∧ i = .int .i64 k ∧ a = .int .i64 at_ ∧ Aside0 (((zs.take k).foldl gapStep (0, [])).1 = at_) ∧ Aside0 (J ((zs.take k).foldl gapStep (0, [])).2 wr) ∧ Aside0 (Below n₀ W wr))
    (fun _ _ i _ => zs.length - (intOf i).toNat)
  case atStart => exact ⟨0, 0, Nat.zero_le _, rfl, rfl, ⟨rfl⟩, ⟨h0⟩, ⟨Below.refl _ _⟩⟩
  case round =>
    obtain ⟨k, at_, hk, rfl, rfl, hAt, hJs, hnx⟩ := hrel
    by_cases hlt : k < zs.length
    · obtain ⟨ad, e0, hx0, hx1⟩ := at_T87 HC.out (k : Int) (by omega) (by omega)
      cases e0
      rw [rd_T87_get zs k hlt] at hx0 hx1
      simp only [Int.toNat_natCast] at hx0 hx1
      have hW0 : Below W0.heap.size W0 wr := hb0.trans (hnx.out.mono hn₀)
      replace hx0 := (hW0.cell (zB _ _ hx0)).trans hx0
      replace hx1 := (hW0.cell (zB _ _ hx1)).trans hx1
      have hJ1 := zA (hJ _ wr _ none hJs.out (World.grownBy_alloc wr (.cells #[.int .i64 zs[k].f0, .int .i64 zs[k].f1] 87) none) (fun r e => by cases e))
      have hT : Aside0 ((zs.take (k + 1)).foldl gapStep (0, []) = gapStep ((zs.take k).foldl gapStep (0, [])) zs[k]) := ⟨by rw [List.take_succ_eq_append_getElem hlt, List.foldl_append]; rfl⟩
      have hL : Aside0 (((zs.take k).foldl gapStep (0, [])).2.length ≤ k) := ⟨by have := gapStep_len (zs.take k) (0, []); simp only [List.length_nil, List.length_take] at this; omega⟩
      have hbig : (k : Int) < (zs.length : Int) := by omega
      generalize zs[k] = y at hx0 hx1 hJ1 hT
      generalize hP : (zs.take k).foldl gapStep (0, []) = st at hAt hJs hJ1 hT hL
      clear hP hW0
      by_cases hgt : at_ < y.f0
      · have hgt' : decide (at_ < y.f0) = true := zH hgt
        obtain ⟨fn, tmps, assign, body, hy, hR⟩ := hY _ (⟨at_, wrap64 (y.f0 - at_)⟩ : S87) wr _ hJs.out (World.grownBy_alloc wr (.cells #[.int .i64 y.f0, .int .i64 y.f1] 87) none) (Nat.le_trans hWn hnx.out.size) (by have := hL.out; omega)
        have hS : Aside0 (gapStep st y = (wrap64 (y.f0 + y.f1), st.2 ++ [⟨at_, wrap64 (y.f0 - at_)⟩])) := ⟨by unfold gapStep; rw [hAt.out, if_pos hgt]⟩
        unfold encS at hy
        dsimp only at hy
        gi_wp2
        refine hR.mono ?_
        rintro e W3 (⟨rfl, hJ3, hk3, hp3⟩ | ⟨rfl, hJx3⟩)
        · have hb3 : W3.heap[wr.heap.size]? = some (.cells #[.int .i64 y.f0, .int .i64 y.f1] 87) := (hp3 wr.heap.size (Nat.le_refl _) (by simp)).trans (World.alloc_heap_new wr _)
          have hc3 : W3.cell? ⟨wr.heap.size, 0, none⟩ = some (.int .i64 y.f0) := by simp [World.cell?, hb3]
          have hc4 : W3.cell? ⟨wr.heap.size, 1, none⟩ = some (.int .i64 y.f1) := by simp [World.cell?, hb3]
          clear hb3 hp3
          gi_wp2
          go_roundw
          case rel => exact ⟨k + 1, _, by omega, by simp, rfl, ⟨by rw [hT.out, hS.out]⟩, ⟨by rw [hT.out, hS.out]; exact hJ3⟩, ⟨(hnx.out.alloc (Nat.le_trans hWn hnx.out.size) _).trans hk3⟩⟩
          case measure => simp [intOf]; omega
        · gi_wp2
          refine bodyPost_ret (results_none rfl _ _ _) rfl ?_
          exact ⟨⟨_, rfl⟩, .inr ⟨_, trivial, hJx3⟩⟩
      · have hgt' : decide (at_ < y.f0) = false := zI hgt
        have hS : Aside0 (gapStep st y = (wrap64 (y.f0 + y.f1), st.2)) := ⟨by unfold gapStep; rw [hAt.out, if_neg hgt]⟩
        gi_wp2
        refine ⟨(fun f h => by cases h), ?_⟩
        gi_wp2
        go_roundw
        case rel => exact ⟨k + 1, _, by omega, by simp, rfl, ⟨by rw [hT.out, hS.out]⟩, ⟨by rw [hT.out, hS.out]; exact hJ1.out⟩, ⟨hnx.out.alloc (Nat.le_trans hWn hnx.out.size) _⟩⟩
        case measure => simp [intOf]; omega
    · have hkl : k = zs.length := by omega
      subst hkl
      have hzc : wr.cell? ⟨Bz, 0, none⟩ = some (.int .i64 size) := (hnx.out.cell (p := ⟨Bz, 0, none⟩) hBz).trans HZ.out
      have hL : Aside0 (((zs.take zs.length).foldl gapStep (0, [])).2.length ≤ zs.length) := ⟨by have := gapStep_len (zs.take zs.length) (0, []); simp only [List.length_nil, List.length_take] at this; omega⟩
      rw [List.take_length] at hAt hJs hL
      by_cases hlt2 : at_ < size
      · obtain ⟨fn, tmps, assign, body, hy, hR⟩ := hY _ (⟨at_, wrap64 (size - at_)⟩ : S87) wr wr hJs.out (World.grownBy.refl wr none) (Nat.le_trans hWn hnx.out.size) (by have := hL.out; omega)
        have hS : Aside0 (gapsF size zs = (zs.foldl gapStep (0, [])).2 ++ [⟨at_, wrap64 (size - at_)⟩]) := ⟨by unfold gapsF; rw [hAt.out, if_pos hlt2]⟩
        unfold encS at hy
        dsimp only at hy
        gi_wp2
        refine hR.mono ?_
        rintro e W3 (⟨rfl, hJ3, hk3, _⟩ | ⟨rfl, hJx3⟩)
        · gi_wp2
          go_end0
          exact ⟨⟨_, rfl⟩, .inl ⟨_, rfl, by rw [hS.out]; exact hJ3⟩⟩
        · gi_wp2
          go_end0
          exact ⟨⟨_, rfl⟩, .inr ⟨_, trivial, hJx3⟩⟩
      · have hS : Aside0 (gapsF size zs = (zs.foldl gapStep (0, [])).2) := ⟨by unfold gapsF; rw [hAt.out, if_neg hlt2]⟩
        have hJS := zA (show J (gapsF size zs) wr by rw [hS.out]; exact hJs.out)
        gi_wp2
        go_end0
        first | exact ⟨⟨_, rfl⟩, .inl ⟨_, rfl, hJS.out⟩⟩ | exact ⟨⟨_, rfl⟩, .inl hJS.out⟩ | exact ⟨.inl hJS.out⟩ | exact .inl hJS.out
theorem gapsSpan.calls (A1 : Option Addr) (n1 c1 : Nat) (size : Int) (w : World) : Calls Tryz.prog 147 #[.slice A1 n1 c1, .int .i64 size] w fun e w' => e = .returned (.func (.func 190) #[] #[.pointer (some ⟨w.heap.size, 0, none⟩), .pointer (some ⟨w.heap.size + 1, 0, none⟩)]) ∧ w' = (w.alloc (.cells #[.slice A1 n1 c1] 44)).alloc (.cells #[.int .i64 size] 3) := by
  go_enter Tryz.func147, Tryz.ntmps147
  go_wp2
  go_ret
  exact ⟨rfl, rfl⟩
theorem joinedGaps.calls (A1 : Option Addr) (c1 : Nat) (zs : List S87) (size : Int) (w : World) (hC : Kd.C k87 w A1 zs.length zs) (hl : zs.length + 1 < 8796093000000) :
    Calls Tryz.prog 138 #[.func (.func 190) #[] #[.pointer (some ⟨w.heap.size, 0, none⟩), .pointer (some ⟨w.heap.size + 1, 0, none⟩)]] ((w.alloc (.cells #[.slice A1 zs.length c1] 44)).alloc (.cells #[.int .i64 size] 3)) fun e W' => ∃ v, e = .returned v ∧ Kd.R k87 87 W' w.heap.size (fun _ => True) v (joinF (gapsF size zs)) ∧ Below w.heap.size w W' := by
  have eg : ∀ args w, (callFunc 190 args).run Tryz.prog w = .ok (.enter 190 args) w := enters_of Tryz.func190 (by kernel_rfl) rfl
  have hb1 : Below w.heap.size w ((w.alloc (.cells #[.slice A1 zs.length c1] 44)).alloc (.cells #[.int .i64 size] 3)) := ((Below.refl _ w).alloc (Nat.le_refl _) _).alloc (by simp) _
  have hC1 := Kd.C_alloc (Kd.C_alloc hC (.cells #[.slice A1 zs.length c1] 44)) (.cells #[.int .i64 size] 3)
  have hB : ((w.alloc (.cells #[.slice A1 zs.length c1] 44)).alloc (.cells #[.int .i64 size] 3)).cell? ⟨w.heap.size, 0, none⟩ = some (.slice A1 zs.length c1) := by
    rw [((Below.refl _ (w.alloc (.cells #[.slice A1 zs.length c1] 44))).alloc (Nat.le_refl _) _).cell (by simp)]
    simp
  have hZ : ((w.alloc (.cells #[.slice A1 zs.length c1] 44)).alloc (.cells #[.int .i64 size] 3)).cell? ⟨w.heap.size + 1, 0, none⟩ = some (.int .i64 size) := by
    simp
  generalize hW : (w.alloc (.cells #[.slice A1 zs.length c1] 44)).alloc (.cells #[.int .i64 size] 3) = W1 at hb1 hC1 hB hZ ⊢
  have hs1 : w.heap.size < W1.heap.size := zB W1 _ hB
  have hs2 : w.heap.size + 1 < W1.heap.size := zB W1 _ hZ
  refine (callsIn_wide (n := 2)).1 ((joined_in Fence.wide 2 trivial rfl (Nat.le_refl _) _ _ trivial eg (gapsF size zs) (fun _ => True) (zs.length + 1) hl W1 (fun l J Jx W hb hJ hJx hY h0 => ?_)).mono ?_)
  · exact gaps1_in Fence.wide 1 trivial rfl (Nat.le_refl _) l w.heap.size (w.heap.size + 1) W1.heap.size c1 A1 zs size W1 (Nat.le_refl _) hs2 J Jx hC1 hY W hJ hb.size hb ((hb.cell (p := ⟨w.heap.size, 0, none⟩) hs1).trans hB) ((hb.cell (p := ⟨w.heap.size + 1, 0, none⟩) hs2).trans hZ) h0
  · rintro e W' ⟨v, rfl, hR, hb2⟩
    exact ⟨v, rfl, Kd.R_lower hR (Nat.le_of_lt hs1), zL hb1 hb2⟩
def span_Rest.f (l0 : List S87) (a1 : Int) : Option (List S87 × Int) := if l0.length < 8796092000000 then (if (sortedF l0 a1).2 = 0 then some (joinF (gapsF a1 (sortedF l0 a1).1), 0) else some ([], (sortedF l0 a1).2)) else none
theorem span_Rest.calls (A0 : Option Addr) (c0 : Nat) (l0 : List S87) (a1 : Int) (r1 : List S87) (r2 : Int) (w : World) (hr0 : Kd.C k87 w A0 l0.length l0) (hc0 : l0.length ≤ c0) (h : span_Rest.f l0 a1 = some (r1, r2)) :
    Calls Tryz.prog 100 #[.slice A0 l0.length c0, .int .i64 a1] w fun e w' => ∃ v0_ : Value, e = .returned (.tuple #[v0_, .int .i64 r2]) ∧ Kd.R k87 87 w' w.heap.size (fun _ => True) v0_ r1 ∧ Below w.heap.size w w' := by
  unfold span_Rest.f at h
  by_cases hl : l0.length < 8796092000000
  · rw [if_pos hl] at h
    have HS := zA (span_sortedH.calls A0 c0 l0 a1 w hr0 (by omega))
    have hlen := sortedF_cases l0 a1
    clear hr0 hc0
    generalize sortedF l0 a1 = res at h HS hlen
    obtain ⟨zs, er⟩ := res
    dsimp only at h HS hlen
    by_cases he : er = 0
    · rw [if_pos he] at h
      obtain ⟨rfl, rfl⟩ := Prod.mk.inj (Option.some.inj h)
      have HL := zA (show zs.length + 1 < 8796093000000 by rw [hlen he]; omega)
      clear h hlen hl
      subst he
      go_enter Tryz.func100, Tryz.ntmps100
      go_wp2_with (first | (go_at_call 137; refine HS.out.mono ?_; rintro e w1 ⟨v0, rfl, hR, hb⟩; obtain ⟨A1, c1, rfl⟩ := Kd.R_slice hR; have HC := zA (Kd.R_reads' hR).2.2; have HB := zA hb; clear hR hb) | (go_at_call 147; refine (gapsSpan.calls _ _ _ _ _).mono ?_; rintro e w2 ⟨rfl, rfl⟩) | (go_at_call 138; refine (joinedGaps.calls A1 c1 zs a1 w1 HC.out HL.out).mono ?_; rintro e w3 ⟨v3, rfl, hR3, hb3⟩))
      go_ret2
      exact ⟨_, rfl, Kd.R_lower hR3 (below_size HB.out), zL HB.out hb3⟩
    · rw [if_neg he] at h
      obtain ⟨rfl, rfl⟩ := Prod.mk.inj (Option.some.inj h)
      have hb : decide (er = 0) = false := zI he
      clear h hlen hl
      go_enter Tryz.func100, Tryz.ntmps100
      go_wp2_with (go_at_call 137; refine HS.out.mono ?_; rintro e w1 ⟨v0, rfl, hR, hb⟩; have HB := zA hb; clear hR hb)
      go_ret2
      exact ⟨_, rfl, Kd.R_nil _ _ _ _ _, HB.out⟩
  · rw [if_neg hl] at h
    cases h
-- NOT PRINTED: function 43 (vol_Volume_free)
-- NOT PRINTED: function 12 (vol_Volume_Begin)
-- NOT PRINTED: function 44 (vol_Tx_over)
mutual
def span_Take.j0 : Nat → List (S87) → Int → Bool → Option ((List (S87)) × (List (S87)) × Bool)
  | 0, _, _, _ => none
  | k + 1, x0, x1, x19 => if x19 = true then (some (([] : List (S87)), ([] : List (S87)), false)) else (span_Take.l0 k x1 ([] : List (S87)) ([] : List (S87)) x0 (x0.length : Int) 0)
def span_Take.l0 : Nat → Int → List (S87) → List (S87) → List (S87) → Int → Int → Option ((List (S87)) × (List (S87)) × Bool)
  | 0, _, _, _, _, _, _ => none
  | k + 1, x1, x7, x8, x20, x21, x22 => if x22 < x21 then (if 0 ≤ x22 then (if x22 < (x20.length : Int) then (if (mn x1 ((rd_T87 x20 x22).f1)) > 0 then (if x7.length < 8796093022208 then (span_Take.j2 k (wrap64 (x1 - (mn x1 ((rd_T87 x20 x22).f1)))) (x7 ++ [(⟨(rd_T87 x20 x22).f0, mn x1 ((rd_T87 x20 x22).f1)⟩ : S87)]) x8 (mn x1 ((rd_T87 x20 x22).f1)) x20 x21 x22 ((rd_T87 x20 x22).f0) ((rd_T87 x20 x22).f1)) else (none)) else (span_Take.j2 k (wrap64 (x1 - (mn x1 ((rd_T87 x20 x22).f1)))) x7 x8 (mn x1 ((rd_T87 x20 x22).f1)) x20 x21 x22 ((rd_T87 x20 x22).f0) ((rd_T87 x20 x22).f1))) else (none)) else (none)) else (some (x7, x8, true))
def span_Take.j2 : Nat → Int → List (S87) → List (S87) → Int → List (S87) → Int → Int → Int → Int → Option ((List (S87)) × (List (S87)) × Bool)
  | 0, _, _, _, _, _, _, _, _, _ => none
  | k + 1, x1, x7, x8, x11, x20, x21, x22, x265000, x265001 => if x11 < x265001 then (if x8.length < 8796093022208 then (span_Take.l0 k x1 x7 (x8 ++ [(⟨wrap64 (x265000 + x11), wrap64 (x265001 - x11)⟩ : S87)]) x20 x21 (wrap64 (x22 + 1))) else (none)) else (span_Take.l0 k x1 x7 x8 x20 x21 (wrap64 (x22 + 1)))
end
def span_Take.f (k : Nat) (l0 : List (S87)) (a1 : Int) : Option ((List (S87)) × (List (S87)) × Bool) := if a1 < 0 then (span_Take.j0 k l0 a1 true) else ((span_Total.f k l0).bind fun t262 => (span_Take.j0 k l0 a1 (decide (a1 > t262))))
set_option maxHeartbeats 8000000 in
set_option maxRecDepth 100000 in
theorem span_Take.calls (k : Nat) (A0 : Option Addr) (c0 : Nat) (l0 : List (S87)) (a1 : Int) (r1 : List (S87)) (r2 : List (S87)) (r3 : Bool) (w : World) (hr0 : Kd.C k87 w A0 l0.length l0) (hc0 : l0.length ≤ c0) (h : span_Take.f k l0 a1 = some (r1, r2, r3)) :
    Calls Tryz.prog 46 #[.slice A0 l0.length c0, .int .i64 a1] w fun e w' => ∃ v0_ v1_ : Value, e = .returned (.tuple #[v0_, v1_, .bool r3]) ∧ Kd.R k87 87 w' w.heap.size (fun k_ => some k_ ≠ (v1_ : Value).ownBlock) v0_ r1 ∧ Kd.R k87 87 w' w.heap.size (fun k_ => some k_ ≠ (v0_ : Value).ownBlock) v1_ r2 ∧ Below w.heap.size w w' := by
  have hu87 := Tryz.underlying87
  have HR0 := zA hr0
  have HC0 := zA hc0
  clear hr0 hc0
  have HB := zA (Below.refl w.heap.size w)
  have H : (if a1 < 0 then (span_Take.j0 k l0 a1 true) else ((span_Total.f k l0).bind fun t262 => (span_Take.j0 k l0 a1 (decide (a1 > t262))))) = some (r1, r2, r3) := h
  clear h
  have HC3 := zA H
  clear H
  go_enter Tryz.func46, Tryz.ntmps46
  go_upto_region 1 with (fail)
  go_cut [19] (fun v19 wc => ∃ (kq : Nat) (x19_2 : Bool), v19 = .bool x19_2 ∧ Aside0 (span_Take.j0 kq l0 a1 x19_2 = some (r1, r2, r3)) ∧ Aside0 (kq ≤ k) ∧ Aside0 (Below w.heap.size w wc))
  case first =>
    have H := HC3.out
    clear HC3
    by_cases c4 : a1 < 0
    · rw [if_pos c4] at H
      have c4b0 : decide (a1 < 0) = true := zH c4
      clear c4
      (first | rw [c4b0] | (simp only [i64_w, i32_w]; rw [c4b0]) | skip)
      have H' := zA H
      clear H
      go_wp2
      go_meet
      case rel => exact ⟨_, (true), (rfB), H', ⟨by first | omega | exact Nat.le_refl _⟩, ⟨rW0⟩⟩
    · rw [if_neg c4] at H
      have c4b0 : decide (a1 < 0) = false := zI c4
      clear c4
      (first | rw [c4b0] | (simp only [i64_w, i32_w]; rw [c4b0]) | skip)
      replace H := Option.bind_eq_some_iff.mp H
      obtain ⟨t262, A50, H⟩ := H
      replace H : (span_Take.j0 k l0 a1 (decide (a1 > t262))) = some (r1, r2, r3) := H
      have A5 := zA A50
      clear A50
      have H' := zA H
      clear H
      go_wp2_with (first | (go_at_call 76; (with_reducible refine (span_Total.calls k _ _ l0 t262 _ ?side1 ?side2 A5.out).mono ?_); (case side1 => repeat (first | exact (Kd.C_below HR0.out HB.out) | (with_reducible refine Kd.C_alloc ?_ _) | (with_reducible refine Kd.C_drewN ?_ _) | (with_reducible refine Kd.C_drew ?_))); (case side2 => exact HC0.out); rintro e w6 ⟨rfl, hb⟩; have n0_ := zA (zL belA hb); clear HB; have HB := n0_; clear n0_; (try clear hb); (try clear hb2); (try clear hk); (try clear hi)))
      go_meet
      case rel => exact ⟨_, (decide (a1 > t262)), (rfB), H', ⟨by first | omega | exact Nat.le_refl _⟩, ⟨rW0⟩⟩
  case rest =>
    clear HC3
    try clear p2
    try clear c4
    try clear c4b0
    obtain ⟨kq, x19_2, rfl, HA, HJ2, HB⟩ := hcut
    cases kq with
    | zero => exact absurd HA.out (by simp [span_Take.j0])
    | succ kj2 =>
      have H := HA.out
      clear HA
      simp only [span_Take.j0] at H
      by_cases c7 : x19_2 = true
      · subst c7
        have H1 : (some (([] : List (S87)), ([] : List (S87)), false)) = some (r1, r2, r3) := by rw [if_pos rfl] at H; exact H
        clear H
        have H := H1
        clear H1
        simp only [Option.some.injEq, Prod.mk.injEq] at H
        obtain ⟨rfl, rfl, rfl⟩ := H
        go_wp2
        go_ret3
        exact ⟨_, _, rfA, by first | exact Kd.R_nil _ _ _ _ _ | exact Kd.N_nil _ _ _ _ _ | exact Kd.V_nil _ _ _ _ _ | exact Kd.Q_nil _ _ _ _ _ | exact Kd.S_nil _ _ _ _ _, by first | exact Kd.R_nil _ _ _ _ _ | exact Kd.N_nil _ _ _ _ _ | exact Kd.V_nil _ _ _ _ _ | exact Kd.Q_nil _ _ _ _ _ | exact Kd.S_nil _ _ _ _ _, rW0⟩
      · replace c7 := Bool.eq_false_iff.mpr c7
        subst c7
        have H1 : (span_Take.l0 kj2 a1 ([] : List (S87)) ([] : List (S87)) l0 (l0.length : Int) 0) = some (r1, r2, r3) := by rw [if_neg (show ¬ (false = true) by decide)] at H; exact H
        clear H
        have H := H1
        clear H1
        have H' := zA H
        clear H
        go_wp2
        go_loopg [1, 7, 8, 22] kj2 (fun kq v1 v7 v8 v22 w' => ∃ (x1_2 : Int) (x7_2 : List (S87)) (x8_2 : List (S87)) (x22_2 : Int), v1 = .int .i64 x1_2 ∧ v22 = .int .i64 x22_2 ∧ Aside0 (span_Take.l0 kq x1_2 x7_2 x8_2 l0 (l0.length : Int) x22_2 = some (r1, r2, r3)) ∧ Aside0 (kq ≤ kj2) ∧ Aside0 (Kd.R k87 87 w' w.heap.size (fun k_ => some k_ ≠ (v8 : Value).ownBlock) v7 x7_2) ∧ Aside0 (Kd.R k87 87 w' w.heap.size (fun k_ => some k_ ≠ (v7 : Value).ownBlock) v8 x8_2) ∧ Aside0 (Below w.heap.size w w'))
        case atStart => exact ⟨(a1), (([] : List (S87))), (([] : List (S87))), (0), (rfB), (rfB), H', ⟨Nat.le_refl _⟩, ⟨by first | exact Kd.R_nil _ _ _ _ _ | exact Kd.N_nil _ _ _ _ _ | exact Kd.V_nil _ _ _ _ _ | exact Kd.Q_nil _ _ _ _ _ | exact Kd.S_nil _ _ _ _ _⟩, ⟨by first | exact Kd.R_nil _ _ _ _ _ | exact Kd.N_nil _ _ _ _ _ | exact Kd.V_nil _ _ _ _ _ | exact Kd.Q_nil _ _ _ _ _ | exact Kd.S_nil _ _ _ _ _⟩, ⟨rW0⟩⟩
        case round =>
          clear H'
          try clear p2
          try clear c4
          try clear c4b0
          try clear c7
          try clear p2
          obtain ⟨x1_2, x7_2, x8_2, x22_2, rfl, rfl, HA, HK2, HO_7, HO_8, HB⟩ := hrel
          cases gk with
          | zero => exact absurd HA.out (by simp [span_Take.l0])
          | succ k2 =>
            have H := HA.out
            clear HA
            simp only [span_Take.l0] at H
            by_cases c8 : x22_2 < (l0.length : Int)
            · rw [if_pos c8] at H
              have c8b0 : decide (x22_2 < (l0.length : Int)) = true := zH c8
              clear c8
              by_cases c9 : 0 ≤ x22_2
              · rw [if_pos c9] at H
                have c9b0 : decide (0 ≤ x22_2) = true := zH c9
                clear c9
                by_cases c10 : x22_2 < (l0.length : Int)
                · rw [if_pos c10] at H
                  have c10b0 : decide (x22_2 < (l0.length : Int)) = true := zH c10
                  clear c10
                  obtain ⟨ji11, hji11⟩ : ∃ j_ : Int, (mn x1_2 ((rd_T87 l0 x22_2).f1)) = j_ := ⟨_, rfl⟩
                  replace H : (if (ji11) > 0 then (if x7_2.length < 8796093022208 then (span_Take.j2 k2 (wrap64 (x1_2 - (ji11))) (x7_2 ++ [(⟨(rd_T87 l0 x22_2).f0, ji11⟩ : S87)]) x8_2 ji11 l0 (l0.length : Int) x22_2 ((rd_T87 l0 x22_2).f0) ((rd_T87 l0 x22_2).f1)) else (none)) else (span_Take.j2 k2 (wrap64 (x1_2 - (ji11))) x7_2 x8_2 ji11 l0 (l0.length : Int) x22_2 ((rd_T87 l0 x22_2).f0) ((rd_T87 l0 x22_2).f1))) = some (r1, r2, r3) := by first | (rw [hji11] at H; exact H) | (simp only [hji11] at H ⊢; exact H)
                  have hji11_ : (if ((rd_T87 l0 x22_2).f1) < x1_2 then ((rd_T87 l0 x22_2).f1) else x1_2) = ji11 := hji11
                  have HC12 := zA H
                  clear H
                  have p263 : 0 ≤ (x22_2 : Int) := zG asA
                  have q263 : x22_2 < (l0.length : Int) := zG asA
                  obtain ⟨ad263, e263, hx263_0, hx263_1⟩ := at_T87 HR0.out x22_2 p263 q263
                  cases e263
                  replace hx263_0 := (HB.out.cell (zB w _ hx263_0)).trans hx263_0
                  replace hx263_1 := (HB.out.cell (zB w _ hx263_1)).trans hx263_1
                  replace p263 := eq_true p263
                  replace q263 := eq_true q263
                  go_upto_if 34 with (first | ((with_reducible refine gate_dst (N := 10) rfl ?_); refine box_event ?hg (N := 10) ?hd (cs := #[.int .i64 0, .int .i64 0]) (t := 87) ?hr ?_; (case hd => rfl); (case hg => rfl); (case hr => first | (go_simp; done) | (go_simp; rfl)); intro gb264 hg w13 hbox hb; have n0_ := zA (Kd.R_below (Kd.R_elderB (kdR_ HO_7.out) gb264 (Nat.le_of_eq hg.symm)) hb); have n1_ := zA (Kd.R_below (Kd.R_elderB (kdR_ HO_8.out) gb264 (Nat.le_of_eq hg.symm)) hb); have n2_ := zA (zL belA hb); have n3_ := zA (hbox); have n4_ := zA ((by rw [hg]; exact (below_size belA) : w.heap.size ≤ gb264)); have n5_ := zA ((by rw [hg]; exact (below_size belA) : w.heap.size ≤ gb264)); clear HO_7; clear HO_8; clear HB; have HO_7 := n0_; have HO_8 := n1_; have HB := n2_; have BK264 := n3_; have GW264 := n4_; have GE264 := n5_; clear n0_ n1_ n2_ n3_ n4_ n5_; clear hb hbox hg; have hcz14_0 : w13.cell? ⟨gb264, 0, none⟩ = some (.int .i64 0) := (zN BK264.out 0).trans rfl; have hcz14_1 : w13.cell? ⟨gb264, 1, none⟩ = some (.int .i64 0) := (zN BK264.out 1).trans rfl; have hfz14_0 := zM BK264.out 0; have hfz14_1 := zM BK264.out 1))
                  (try simp only [Act.put, zC, zD, zE])
                  go_cut [7] (fun v7 wc => ∃ (kq : Nat) (x7_11 : List (S87)), Aside0 (span_Take.j2 kq (wrap64 (x1_2 - (ji11))) x7_11 x8_2 ji11 l0 (l0.length : Int) x22_2 ((rd_T87 l0 x22_2).f0) ((rd_T87 l0 x22_2).f1) = some (r1, r2, r3)) ∧ Aside0 (kq ≤ k2) ∧ Aside0 (Kd.R k87 87 wc w.heap.size (fun k_ => some k_ ≠ (u8 : Value).ownBlock ∧ k_ ≠ gb264) v7 x7_11) ∧ Aside0 (Kd.R k87 87 wc w.heap.size (fun k_ => some k_ ≠ (v7 : Value).ownBlock ∧ k_ ≠ gb264) u8 x8_2) ∧ Aside0 (wc.heap[gb264]? = some (.cells #[.int .i64 ((rd_T87 l0 x22_2).f0), .int .i64 ((rd_T87 l0 x22_2).f1)] 87 (0, 0))) ∧ Aside0 (Below w.heap.size w wc))
                  case first =>
                    have H := HC12.out
                    clear HC12
                    by_cases c15 : (ji11) > 0
                    · rw [if_pos c15] at H
                      have c15b0 : decide (0 < (ji11)) = true := zH c15
                      clear c15
                      (first | rw [c15b0] | (simp only [i64_w, i32_w]; rw [c15b0]) | skip)
                      by_cases c16 : x7_2.length < 8796093022208
                      · rw [if_pos c16] at H
                        have LMc16 := zA c16
                        clear c16
                        obtain ⟨y265, hy265⟩ : ∃ y_ : List (S87), y_ = (x7_2 ++ [(⟨(rd_T87 l0 x22_2).f0, ji11⟩ : S87)]) := ⟨_, rfl⟩
                        replace H : (span_Take.j2 k2 (wrap64 (x1_2 - (ji11))) y265 x8_2 ji11 l0 (l0.length : Int) x22_2 ((rd_T87 l0 x22_2).f0) ((rd_T87 l0 x22_2).f1)) = some (r1, r2, r3) := by first | (rw [hy265]; with_reducible exact H) | (have H2_ := (Option.bind_some _ _).symm.trans H; rw [hy265]; with_reducible exact H2_) | (have H2_ := (Option.bind_some _ _).symm.trans H; with_reducible exact H2_) | with_reducible exact H | (rw [hy265]; exact H) | exact H
                        have Ny265 := zA hy265
                        clear hy265
                        have H' := zA H
                        clear H
                        have hcz17_0 : w13.cell? ⟨gb264, 0, none⟩ = some (.int .i64 0) := (zN BK264.out 0).trans rfl
                        have hcz17_1 : w13.cell? ⟨gb264, 1, none⟩ = some (.int .i64 0) := (zN BK264.out 1).trans rfl
                        have hfz17_0 := zM BK264.out 0
                        have hfz17_1 := zM BK264.out 1
                        go_wp2_with (first | ((with_reducible refine gate_builtin (b := .append) (xs := #[.tmp 35, .tmp 40]) rfl ?_); at_builtin; refine Kd.R_append k87 (w0 := w) w.heap.size rfl (.tmp 35) (.tmp 40) 44 87 (.agg #[(.int .i64 0), (.int .i64 0)]) 16 rfl Tryz.underlying44 info87 rfl (by decide) (by omega) u7 x7_2 (⟨(rd_T87 l0 x22_2).f0, ji11⟩ : S87) [.int .i64 ((rd_T87 l0 x22_2).f0), .int .i64 ji11] (fun k_ => some k_ ≠ (u8 : Value).ownBlock ∧ k_ ≠ gb264) (fun _ => False) rfl (by first | (go_simp; done) | (go_simp; rfl)) ?aP (fun _ hk => hk.elim) ?aF ?aO ?aB ?aS ?aL ?_; (case aP => exact k87_mkM _ _ _ (⟨(rd_T87 l0 x22_2).f0, ji11⟩ : S87)); (case aB => exact (rW1)); (case aF => exact (fun k_ hk => ⟨Kd.fresh' (Kd.R_lt (by (with_reducible repeat (first | apply Kd.R_alloc | apply Kd.R_drewN | apply Kd.R_drew)); exact (Kd.R_mono (Kd.R_far (p := ⟨gb264, 1, none⟩) (Kd.R_far (p := ⟨gb264, 0, none⟩) (Kd.R_mono HO_8.out (fun k_ hk => (⟨hk, hk.2⟩ : _ ∧ k_ ≠ gb264))) (fun _ hk => hk.2) (.int .i64 ((rd_T87 l0 x22_2).f0))) (fun _ hk => hk.2) (.int .i64 ((rd_T87 l0 x22_2).f1))) (fun _ h_ => h_.1)))) k_ hk, Kd.freshB (g := gb264) (o := .cells #[.int .i64 ((rd_T87 l0 x22_2).f0), .int .i64 ((rd_T87 l0 x22_2).f1)] 87 (0, 0)) (by (with_reducible repeat (first | refine blk_drewN ?_ _ | refine blk_drew ?_ | refine blk_alloc ?_ _)); refine blk_put (cs := #[.int .i64 ((rd_T87 l0 x22_2).f0), .int .i64 0]) ?_ 1 _ rfl; (with_reducible repeat (first | refine blk_drewN ?_ _ | refine blk_drew ?_ | refine blk_alloc ?_ _)); refine blk_put (cs := #[.int .i64 0, .int .i64 0]) ?_ 0 _ rfl; (with_reducible repeat (first | refine blk_drewN ?_ _ | refine blk_drew ?_ | refine blk_alloc ?_ _)); exact BK264.out) k_ hk⟩)); (case aO => exact (by (with_reducible repeat (first | apply Kd.R_alloc | apply Kd.R_drewN | apply Kd.R_drew)); exact Kd.R_mono (Kd.R_far (p := ⟨gb264, 1, none⟩) (Kd.R_far (p := ⟨gb264, 0, none⟩) (Kd.R_mono HO_7.out (fun k_ hk => (⟨hk, hk.2⟩ : _ ∧ k_ ≠ gb264))) (fun _ hk => hk.2) (.int .i64 ((rd_T87 l0 x22_2).f0))) (fun _ hk => hk.2) (.int .i64 ((rd_T87 l0 x22_2).f1))) (fun _ hk => ⟨hk.1.1, hk.1.2⟩))); (case aS => exact (below_size (rW1))); (case aL => have := LMc16.out; omega); intro v266 w18 ho hb hg hat; rw [← Ny265.out] at ho; have n0_ := zA (Kd.R_after (ok := (fun k_ => k_ ≠ gb264)) (by (with_reducible repeat (first | apply Kd.R_alloc | apply Kd.R_drewN | apply Kd.R_drew)); exact Kd.R_mono (Kd.R_far (p := ⟨gb264, 1, none⟩) (Kd.R_far (p := ⟨gb264, 0, none⟩) (Kd.R_mono HO_8.out (fun k_ hk => (⟨hk, hk.2⟩ : _ ∧ k_ ≠ gb264))) (fun _ hk => hk.2) (.int .i64 ((rd_T87 l0 x22_2).f0))) (fun _ hk => hk.2) (.int .i64 ((rd_T87 l0 x22_2).f1))) (fun _ hk => ⟨hk.1.2, hk.1.1⟩)) hg hat); have n1_ := zA (blk_grown (g := gb264) (o := .cells #[.int .i64 ((rd_T87 l0 x22_2).f0), .int .i64 ((rd_T87 l0 x22_2).f1)] 87 (0, 0)) (by (with_reducible repeat (first | refine blk_drewN ?_ _ | refine blk_drew ?_ | refine blk_alloc ?_ _)); refine blk_put (cs := #[.int .i64 ((rd_T87 l0 x22_2).f0), .int .i64 0]) ?_ 1 _ rfl; (with_reducible repeat (first | refine blk_drewN ?_ _ | refine blk_drew ?_ | refine blk_alloc ?_ _)); refine blk_put (cs := #[.int .i64 0, .int .i64 0]) ?_ 0 _ rfl; (with_reducible repeat (first | refine blk_drewN ?_ _ | refine blk_drew ?_ | refine blk_alloc ?_ _)); exact BK264.out) hg (Kd.R_away HO_7.out (fun _ hk => hk.2))); have n2_ := zA (hb); have n3_ := zA (ho); clear HO_8; clear BK264; clear HB; clear HO_7; have HO_8 := n0_; have BK264 := n1_; have HB := n2_; have HO267 := n3_; clear n0_ n1_ n2_ n3_; clear ho hb hg hat))
                        go_meet
                        case rel => exact ⟨_, (y265), H', ⟨by have := HJ2.out; have := HK2.out; first | omega | exact Nat.le_refl _⟩, ⟨by (with_reducible repeat (first | apply Kd.R_alloc | apply Kd.R_drewN | apply Kd.R_drew)); exact HO267.out⟩, ⟨by (with_reducible repeat (first | apply Kd.R_alloc | apply Kd.R_drewN | apply Kd.R_drew)); exact Kd.R_mono HO_8.out (fun _ hk => ⟨hk.2, hk.1⟩)⟩, ⟨by (with_reducible repeat (first | refine blk_drewN ?_ _ | refine blk_drew ?_ | refine blk_alloc ?_ _)); exact BK264.out⟩, ⟨rW1⟩⟩
                      · rw [if_neg c16] at H
                        exact absurd H (by simp)
                    · rw [if_neg c15] at H
                      have c15b0 : decide (0 < (ji11)) = false := zI c15
                      clear c15
                      (first | rw [c15b0] | (simp only [i64_w, i32_w]; rw [c15b0]) | skip)
                      have H' := zA H
                      clear H
                      go_wp2
                      go_meet
                      case rel => exact ⟨_, (x7_2), H', ⟨by have := HJ2.out; have := HK2.out; first | omega | exact Nat.le_refl _⟩, ⟨by (with_reducible repeat (first | apply Kd.R_alloc | apply Kd.R_drewN | apply Kd.R_drew)); exact Kd.R_mono (Kd.R_far (p := ⟨gb264, 1, none⟩) (Kd.R_far (p := ⟨gb264, 0, none⟩) (Kd.R_mono HO_7.out (fun k_ hk => (⟨hk, hk.2⟩ : _ ∧ k_ ≠ gb264))) (fun _ hk => hk.2) (.int .i64 ((rd_T87 l0 x22_2).f0))) (fun _ hk => hk.2) (.int .i64 ((rd_T87 l0 x22_2).f1))) (fun _ hk => ⟨hk.1.1, hk.1.2⟩)⟩, ⟨by (with_reducible repeat (first | apply Kd.R_alloc | apply Kd.R_drewN | apply Kd.R_drew)); exact Kd.R_mono (Kd.R_far (p := ⟨gb264, 1, none⟩) (Kd.R_far (p := ⟨gb264, 0, none⟩) (Kd.R_mono HO_8.out (fun k_ hk => (⟨hk, hk.2⟩ : _ ∧ k_ ≠ gb264))) (fun _ hk => hk.2) (.int .i64 ((rd_T87 l0 x22_2).f0))) (fun _ hk => hk.2) (.int .i64 ((rd_T87 l0 x22_2).f1))) (fun _ hk => ⟨hk.1.1, hk.1.2⟩)⟩, ⟨by (with_reducible repeat (first | refine blk_drewN ?_ _ | refine blk_drew ?_ | refine blk_alloc ?_ _)); refine blk_put (cs := #[.int .i64 ((rd_T87 l0 x22_2).f0), .int .i64 0]) ?_ 1 _ rfl; (with_reducible repeat (first | refine blk_drewN ?_ _ | refine blk_drew ?_ | refine blk_alloc ?_ _)); refine blk_put (cs := #[.int .i64 0, .int .i64 0]) ?_ 0 _ rfl; (with_reducible repeat (first | refine blk_drewN ?_ _ | refine blk_drew ?_ | refine blk_alloc ?_ _)); exact BK264.out⟩, ⟨rW1⟩⟩
                  case rest =>
                    clear HC12
                    try clear c1
                    try clear p2
                    try clear q2
                    try clear hx2
                    try clear c4
                    try clear c4b0
                    try clear p6
                    try clear c7
                    try clear c8
                    try clear c8b0
                    try clear c9
                    try clear c9b0
                    try clear c10
                    try clear c10b0
                    try clear c15
                    try clear c15b0
                    try clear c16
                    try clear hcz14_0
                    try clear hcz14_1
                    try clear hcz17_0
                    try clear hcz17_1
                    try clear hfz14_0
                    try clear hfz14_1
                    try clear hfz17_0
                    try clear hfz17_1
                    try clear hx263_0
                    try clear hx263_1
                    try clear p2
                    try clear p263
                    try clear q263
                    obtain ⟨kq, x7_11, HA, HJ11, HO_7, HO_8, BK264, HB⟩ := hcut
                    cases kq with
                    | zero => exact absurd HA.out (by simp [span_Take.j2])
                    | succ kj11 =>
                      have H := HA.out
                      clear HA
                      simp only [span_Take.j2] at H
                      by_cases c19 : ji11 < ((rd_T87 l0 x22_2).f1)
                      · rw [if_pos c19] at H
                        have c19b0 : decide (ji11 < ((rd_T87 l0 x22_2).f1)) = true := zH c19
                        clear c19
                        by_cases c20 : x8_2.length < 8796093022208
                        · rw [if_pos c20] at H
                          have LMc20 := zA c20
                          clear c20
                          obtain ⟨y268, hy268⟩ : ∃ y_ : List (S87), y_ = (x8_2 ++ [(⟨wrap64 (((rd_T87 l0 x22_2).f0) + ji11), wrap64 (((rd_T87 l0 x22_2).f1) - ji11)⟩ : S87)]) := ⟨_, rfl⟩
                          replace H : (span_Take.l0 kj11 (wrap64 (x1_2 - (ji11))) x7_11 y268 l0 (l0.length : Int) (wrap64 (x22_2 + 1))) = some (r1, r2, r3) := by first | (rw [hy268]; with_reducible exact H) | (have H2_ := (Option.bind_some _ _).symm.trans H; rw [hy268]; with_reducible exact H2_) | (have H2_ := (Option.bind_some _ _).symm.trans H; with_reducible exact H2_) | with_reducible exact H | (rw [hy268]; exact H) | exact H
                          have Ny268 := zA hy268
                          clear hy268
                          have H' := zA H
                          clear H
                          have hcz21_0 : wc.cell? ⟨gb264, 0, none⟩ = some (.int .i64 ((rd_T87 l0 x22_2).f0)) := (zN BK264.out 0).trans rfl
                          have hcz21_1 : wc.cell? ⟨gb264, 1, none⟩ = some (.int .i64 ((rd_T87 l0 x22_2).f1)) := (zN BK264.out 1).trans rfl
                          have hfz21_0 := zM BK264.out 0
                          have hfz21_1 := zM BK264.out 1
                          go_wp2_with (first | ((with_reducible refine gate_builtin (b := .append) (xs := #[.tmp 46, .tmp 56]) rfl ?_); at_builtin; refine Kd.R_append k87 (w0 := w) w.heap.size rfl (.tmp 46) (.tmp 56) 44 87 (.agg #[(.int .i64 0), (.int .i64 0)]) 16 rfl Tryz.underlying44 info87 rfl (by decide) (by omega) u8 x8_2 (⟨wrap64 (((rd_T87 l0 x22_2).f0) + ji11), wrap64 (((rd_T87 l0 x22_2).f1) - ji11)⟩ : S87) [.int .i64 (wrap64 (((rd_T87 l0 x22_2).f0) + ji11)), .int .i64 (wrap64 (((rd_T87 l0 x22_2).f1) - ji11))] (fun k_ => some k_ ≠ (u7 : Value).ownBlock ∧ k_ ≠ gb264) (fun _ => False) rfl rfl ?aP (fun _ hk => hk.elim) ?aF ?aO ?aB ?aS ?aL ?_; (case aP => exact k87_mkM _ _ _ (⟨wrap64 (((rd_T87 l0 x22_2).f0) + ji11), wrap64 (((rd_T87 l0 x22_2).f1) - ji11)⟩ : S87)); (case aB => exact (rW1)); (case aF => exact (fun k_ hk => ⟨Kd.fresh' (Kd.R_lt (kdR_ HO_7.out)) k_ hk, Kd.freshB (g := gb264) (o := .cells #[.int .i64 ((rd_T87 l0 x22_2).f0), .int .i64 ((rd_T87 l0 x22_2).f1)] 87 (0, 0)) (blkN BK264.out) k_ hk⟩)); (case aO => exact (kdR_ HO_8.out)); (case aS => exact (below_size (rW1))); (case aL => have := LMc20.out; omega); intro v269 w22 ho hb hg hat; rw [← Ny268.out] at ho; have n0_ := zA (Kd.R_after (ok := (fun k_ => k_ ≠ gb264)) (by (with_reducible repeat (first | apply Kd.R_alloc | apply Kd.R_drewN | apply Kd.R_drew)); exact Kd.R_mono HO_7.out (fun _ hk => ⟨hk.2, hk.1⟩)) hg hat); have n1_ := zA (blk_grown (g := gb264) (o := .cells #[.int .i64 ((rd_T87 l0 x22_2).f0), .int .i64 ((rd_T87 l0 x22_2).f1)] 87 (0, 0)) (blkN BK264.out) hg (Kd.R_away HO_8.out (fun _ hk => hk.2))); have n2_ := zA (hb); have n3_ := zA (ho); clear HO_7; clear BK264; clear HB; clear HO_8; have HO_7 := n0_; have BK264 := n1_; have HB := n2_; have HO270 := n3_; clear n0_ n1_ n2_ n3_; clear ho hb hg hat))
                          go_roundg kj11
                          case measure => have := HJ2.out; have := HK2.out; have := HJ11.out; omega
                          case rel => exact ⟨((wrap64 (x1_2 - (ji11)))), (x7_11), (y268), (wrap64 (x22_2 + 1)), (by first | rfl | (simp; done) | (simp only [← hji11] <;> (first | rfl | simp)) | (simp [*]; done)), (rfB), H', ⟨by have := HJ2.out; have := HK2.out; have := HJ11.out; omega⟩, ⟨by (with_reducible repeat (first | apply Kd.R_alloc | apply Kd.R_drewN | apply Kd.R_drew)); exact Kd.R_mono HO_7.out (fun _ hk => hk.2)⟩, ⟨by (with_reducible repeat (first | apply Kd.R_alloc | apply Kd.R_drewN | apply Kd.R_drew)); exact Kd.R_mono HO270.out (fun _ hk => hk.1)⟩, ⟨rW1⟩⟩
                        · rw [if_neg c20] at H
                          exact absurd H (by simp)
                      · rw [if_neg c19] at H
                        have c19b0 : decide (ji11 < ((rd_T87 l0 x22_2).f1)) = false := zI c19
                        clear c19
                        have H' := zA H
                        clear H
                        have hcz23_0 : wc.cell? ⟨gb264, 0, none⟩ = some (.int .i64 ((rd_T87 l0 x22_2).f0)) := (zN BK264.out 0).trans rfl
                        have hcz23_1 : wc.cell? ⟨gb264, 1, none⟩ = some (.int .i64 ((rd_T87 l0 x22_2).f1)) := (zN BK264.out 1).trans rfl
                        have hfz23_0 := zM BK264.out 0
                        have hfz23_1 := zM BK264.out 1
                        go_wp2
                        go_roundg kj11
                        case measure => have := HJ2.out; have := HK2.out; have := HJ11.out; omega
                        case rel => exact ⟨((wrap64 (x1_2 - (ji11)))), (x7_11), (x8_2), (wrap64 (x22_2 + 1)), (by first | rfl | (simp; done) | (simp only [← hji11] <;> (first | rfl | simp)) | (simp [*]; done)), (rfB), H', ⟨by have := HJ2.out; have := HK2.out; have := HJ11.out; omega⟩, ⟨by (with_reducible repeat (first | apply Kd.R_alloc | apply Kd.R_drewN | apply Kd.R_drew)); exact Kd.R_mono HO_7.out (fun _ hk => hk.1)⟩, ⟨by (with_reducible repeat (first | apply Kd.R_alloc | apply Kd.R_drewN | apply Kd.R_drew)); exact Kd.R_mono HO_8.out (fun _ hk => hk.1)⟩, ⟨rW1⟩⟩
                · rw [if_neg c10] at H
                  exact absurd H (by simp)
              · rw [if_neg c9] at H
                exact absurd H (by simp)
            · rw [if_neg c8] at H
              have c8b0 : decide (x22_2 < (l0.length : Int)) = false := zI c8
              clear c8
              simp only [Option.some.injEq, Prod.mk.injEq] at H
              obtain ⟨rfl, rfl, rfl⟩ := H
              go_wp2
              go_ret3
              exact ⟨_, _, rfA, by (with_reducible repeat (first | apply Kd.R_alloc | apply Kd.R_drewN | apply Kd.R_drew)); exact HO_7.out, by (with_reducible repeat (first | apply Kd.R_alloc | apply Kd.R_drewN | apply Kd.R_drew)); exact HO_8.out, rW0⟩
-- NOT PRINTED: function 48 (vol_Tx_lay)
-- NOT PRINTED: function 55 (dir_File_55)
-- NOT PRINTED: function 149 (dir_File_string)
-- NOT PRINTED: function 103 (dir_place)
-- NOT PRINTED: function 151 (dir_File_151)
-- NOT PRINTED: function 211 (dir_File_211)
-- NOT PRINTED: function 193 (dir_File_193)
-- NOT PRINTED: function 152 (dir_File_152)
-- NOT PRINTED: function 104 (dir_File_104)
-- NOT PRINTED: function 49 (dir_With)
-- NOT PRINTED: function 13 (vol_Tx_Write)
-- NOT PRINTED: function 56 (api_Span_56)
-- NOT PRINTED: function 107 (api_Span_107)
-- NOT PRINTED: function 153 (api_Span_153)
def span_Norm.f (l0 : List S87) (a1 : Int) : Option (List S87 × Int) := if l0.length < 8796092000000 then (if (sortedF l0 a1).2 = 0 then some (joinF (sortedF l0 a1).1, 0) else some ([], (sortedF l0 a1).2)) else none
theorem span_Norm.calls (A0 : Option Addr) (c0 : Nat) (l0 : List S87) (a1 : Int) (r1 : List S87) (r2 : Int) (w : World) (hr0 : Kd.C k87 w A0 l0.length l0) (hc0 : l0.length ≤ c0) (h : span_Norm.f l0 a1 = some (r1, r2)) :
    Calls Tryz.prog 85 #[.slice A0 l0.length c0, .int .i64 a1] w fun e w' => ∃ v0_ : Value, e = .returned (.tuple #[v0_, .int .i64 r2]) ∧ Kd.R k87 87 w' w.heap.size (fun _ => True) v0_ r1 ∧ Below w.heap.size w w' := by
  unfold span_Norm.f at h
  by_cases hl : l0.length < 8796092000000
  · rw [if_pos hl] at h
    have HS := zA (span_sortedH.calls A0 c0 l0 a1 w hr0 (by omega))
    have hlen := sortedF_cases l0 a1
    clear hr0 hc0
    generalize sortedF l0 a1 = res at h HS hlen
    obtain ⟨zs, er⟩ := res
    dsimp only at h HS hlen
    by_cases he : er = 0
    · rw [if_pos he] at h
      obtain ⟨rfl, rfl⟩ := Prod.mk.inj (Option.some.inj h)
      have HL := zA (show zs.length < 8796093000000 by rw [hlen he]; omega)
      clear h hlen hl
      subst he
      go_enter Tryz.func85, Tryz.ntmps85
      go_wp2_with (first | (go_at_call 137; refine HS.out.mono ?_; rintro e w1 ⟨v0, rfl, hR, hb⟩; obtain ⟨A1, c1, rfl⟩ := Kd.R_slice hR; have HC := zA (Kd.R_reads' hR).2.2; have HB := zA hb; clear hR hb) | (go_at_call 139; refine (valsSpan.calls _ _ _ _).mono ?_; rintro e w2 ⟨rfl, rfl⟩) | (go_at_call 138; refine (joinedVals.calls A1 c1 zs w1 HC.out HL.out).mono ?_; rintro e w3 ⟨v3, rfl, hR3, hb3⟩))
      go_ret2
      exact ⟨_, rfl, Kd.R_lower hR3 (below_size HB.out), zL HB.out hb3⟩
    · rw [if_neg he] at h
      obtain ⟨rfl, rfl⟩ := Prod.mk.inj (Option.some.inj h)
      have hb : decide (er = 0) = false := zI he
      clear h hlen hl
      go_enter Tryz.func85, Tryz.ntmps85
      go_wp2_with (go_at_call 137; refine HS.out.mono ?_; rintro e w1 ⟨v0, rfl, hR, hb⟩; have HB := zA hb; clear hR hb)
      go_ret2
      exact ⟨_, rfl, Kd.R_nil _ _ _ _ _, HB.out⟩
  · rw [if_neg hl] at h
    cases h
end Go.Proofs.YtcclaidbikjhiaaGreatDoor.PVo
