-- laid by gprint.py (this session's own program) out of the translation: Lean checks it
import Derived.Test.YtjmplchknbgmgaaPSpanx0
import Derived.Test.YtjmplchknbgmgaaPSpanx3
import Derived.RangeFuncBox
import Derived.RangeFuncLeaves
import Derived.RangeFuncCalls
import Derived.Shelf.Abstract
import Derived.Shelf.RegionOpen
import Derived.OwnWalkIn
import Derived.TacticsInMore
import Derived.LoopNIn
import Derived.LoopIn
import Derived.Outline
import Derived.Deep.DeepMust
namespace Go.Proofs.Ytjmplchknbgmgaa.PSpan
open Go.RowKit Go.Proofs.YtjmplchknbgmgaaW.PrintWords Go.Proofs.YtjmplchknbgmgaaW.PrintLast Go.Proofs.YtjmplchknbgmgaaW.PrintMore
attribute [local go_sem] max2_int min2_int max_two min_two max_three min_three max_four min_four   -- for this text's walks alone
set_option linter.unusedVariables false
set_option linter.unusedSimpArgs false

/-! ### part:spaniter -/
attribute [local go_sem] Oper.semAt_some
open Go.Shelf
def encS (x : S32) : Array Value := #[.agg #[.int .i64 x.f0, .int .i64 x.f1]]
set_option maxRecDepth 100000 in
set_option maxHeartbeats 2000000 in
/-- slices.Values' closure over spans. -/
theorem vals1_in (F : Fence) (n : Nat) (h7 : F.fn 38) (hro : F.round = none) (hn : 1 ≤ n) (l Bs n₀ c0 : Nat) (A0 : Option Addr) (zs : List S32) (W0 : World) (hn₀ : W0.heap.size ≤ n₀) (J Jx : List S32 → World → Prop)
    (hC : Kd.C k32 W0 A0 zs.length zs)
    (hY : ∀ pre x W1 Wx, J pre W1 → W1.grownBy Wx none → n₀ ≤ W1.heap.size → pre.length < zs.length → YieldAt F (n - 1) Try.prog l (encS x) Wx fun e W' =>
      (e = .returned (.bool true) ∧ J (pre ++ [x]) W' ∧ Below n₀ Wx W' ∧ (∀ k, W1.heap.size ≤ k → k < Wx.heap.size → W'.heap[k]? = Wx.heap[k]?)) ∨ (e = .returned (.bool false) ∧ Jx (pre ++ [x]) W'))
    (W : World) (hJ : AbidesFrom W.heap.size J) (hWn : n₀ ≤ W.heap.size) (hb0 : Below W0.heap.size W0 W) (hBs : W.cell? ⟨Bs, 0, none⟩ = some (.slice A0 zs.length c0)) (h0 : J [] W) :
    CallsIn F n Try.prog 38 #[.func (.yield l) #[] #[], .pointer (some ⟨Bs, 0, none⟩)] W fun e W' => (∃ v, e = .returned v) ∧
      ((∃ ys, ys = zs ∧ J ys W') ∨ (∃ pre, True ∧ Jx pre W')) := by
  have hlen : zs.length ≤ 9223372036854775807 := hC.2.1
  have HC := Aside0.mk hC
  clear hC
  have hu := Try.underlying32
  refine callsIn_of_wp Try.func38 rfl h7 ?_ hro
  simp only [Try.ntmps38, List.size_toArray, List.length_cons, List.length_nil, Nat.reduceAdd, Nat.reduceSub, Array.replicate_succ, Array.replicate_zero, List.push_toArray, List.append_toArray, List.nil_append, List.cons_append]
  gi_wp2
  gi_loopw [4, 7] (fun _ i wr => ∃ k : Nat, k ≤ zs.length ∧ i = .int .i64 k ∧ Aside0 (J (zs.take k) wr) ∧ Aside0 (Below n₀ W wr))
    (fun _ i _ => zs.length - (intOf i).toNat)
  case atStart => exact ⟨0, Nat.zero_le _, rfl, ⟨h0⟩, ⟨Below.refl _ _⟩⟩
  case round =>
    obtain ⟨k, hk, rfl, hJs, hnx⟩ := hrel
    by_cases hlt : k < zs.length
    · obtain ⟨ad, e0, hx0, hx1⟩ := at_T32 HC.out (k : Int) (by omega) (by omega)
      cases e0
      rw [rd_T32_get zs k hlt] at hx0 hx1
      simp only [Int.toNat_natCast] at hx0 hx1
      have hW0 : Below W0.heap.size W0 wr := hb0.trans (hnx.out.mono hn₀)
      replace hx0 := (hW0.cell (World.block_lt_of_cell? _ _ hx0)).trans hx0
      replace hx1 := (hW0.cell (World.block_lt_of_cell? _ _ hx1)).trans hx1
      obtain ⟨fn, tmps, assign, body, hy, hR⟩ := hY _ zs[k] wr _ hJs.out (World.grownBy_alloc wr (.cells #[.int .i64 zs[k].f0, .int .i64 zs[k].f1] 32) none) (Nat.le_trans hWn hnx.out.size) (by rw [List.length_take, Nat.min_eq_left hk]; exact hlt)
      have hT : Aside0 (zs.take k ++ [zs[k]] = zs.take (k + 1)) := ⟨by rw [List.take_succ_eq_append_getElem hlt]⟩
      unfold encS at hy
      have hbig : (k : Int) < (zs.length : Int) := by omega
      generalize zs[k] = y at hx0 hx1 hy hR hT
      generalize hP : zs.take k = pre at hJs hR hT
      clear hP hW0
      gi_wp2
      refine hR.mono ?_
      rintro e W3 (⟨rfl, hJ3, hk3, _⟩ | ⟨rfl, hJx3⟩)
      · gi_wp2
        go_roundw
        case rel => exact ⟨k + 1, by omega, by simp, ⟨by rw [← hT.out]; exact hJ3⟩, ⟨(hnx.out.alloc (Nat.le_trans hWn hnx.out.size) _).trans hk3⟩⟩
        case measure => simp [intOf]; omega
      · gi_wp2
        refine bodyPost_ret (results_none rfl _ _ _) rfl ?_
        exact ⟨⟨_, rfl⟩, .inr ⟨_, trivial, hJx3⟩⟩
    · have hkl : k = zs.length := by omega
      subst hkl
      gi_wp2
      go_end0
      exact ⟨⟨_, rfl⟩, .inl ⟨_, rfl, by have := hJs.out; rwa [List.take_length] at this⟩⟩
def gapStep (st : Int × List S32) (s : S32) : Int × List S32 := (wrap64 (s.f0 + s.f1), if st.1 < s.f0 then st.2 ++ [⟨st.1, wrap64 (s.f0 - st.1)⟩] else st.2)
def gapsF (size : Int) (l : List S32) : List S32 := if (l.foldl gapStep (0, [])).1 < size then (l.foldl gapStep (0, [])).2 ++ [⟨(l.foldl gapStep (0, [])).1, wrap64 (size - (l.foldl gapStep (0, [])).1)⟩] else (l.foldl gapStep (0, [])).2
theorem gapStep_len (l : List S32) : ∀ st, (l.foldl gapStep st).2.length ≤ st.2.length + l.length := by
  induction l with
  | nil => intro st; simp
  | cons s t ih =>
    intro st
    have := ih (gapStep st s)
    simp only [List.foldl_cons, List.length_cons]
    have h2 : (gapStep st s).2.length ≤ st.2.length + 1 := by unfold gapStep; split <;> simp
    omega
theorem gapsF_len (size : Int) (l : List S32) : (gapsF size l).length ≤ l.length + 1 := by
  have := gapStep_len l (0, [])
  unfold gapsF
  split <;> simp_all <;> omega
set_option maxRecDepth 100000 in
set_option maxHeartbeats 4000000 in
/-- gaps' closure. -/
theorem gaps1_in (F : Fence) (n : Nat) (h7 : F.fn 40) (hro : F.round = none) (hn : 1 ≤ n) (l Bs Bz n₀ c0 : Nat) (A0 : Option Addr) (zs : List S32) (size : Int) (W0 : World) (hn₀ : W0.heap.size ≤ n₀) (hBz : Bz < n₀) (J Jx : List S32 → World → Prop)
    (hC : Kd.C k32 W0 A0 zs.length zs)
    (hY : ∀ pre x W1 Wx, J pre W1 → W1.grownBy Wx none → n₀ ≤ W1.heap.size → pre.length < zs.length + 1 → YieldAt F (n - 1) Try.prog l (encS x) Wx fun e W' =>
      (e = .returned (.bool true) ∧ J (pre ++ [x]) W' ∧ Below n₀ Wx W' ∧ (∀ k, W1.heap.size ≤ k → k < Wx.heap.size → W'.heap[k]? = Wx.heap[k]?)) ∨ (e = .returned (.bool false) ∧ Jx (pre ++ [x]) W'))
    (W : World) (hJ : AbidesFrom W.heap.size J) (hWn : n₀ ≤ W.heap.size) (hb0 : Below W0.heap.size W0 W) (hBs : W.cell? ⟨Bs, 0, none⟩ = some (.slice A0 zs.length c0)) (hBzc : W.cell? ⟨Bz, 0, none⟩ = some (.int .i64 size)) (h0 : J [] W) :
    CallsIn F n Try.prog 40 #[.func (.yield l) #[] #[], .pointer (some ⟨Bs, 0, none⟩), .pointer (some ⟨Bz, 0, none⟩)] W fun e W' => (∃ v, e = .returned v) ∧
      ((∃ ys, ys = gapsF size zs ∧ J ys W') ∨ (∃ pre, True ∧ Jx pre W')) := by
  have hlen : zs.length ≤ 9223372036854775807 := hC.2.1
  have HC := Aside0.mk hC
  have HZ := Aside0.mk hBzc
  clear hC hBzc
  have hu := Try.underlying32
  refine callsIn_of_wp Try.func40 rfl h7 ?_ hro
  simp only [Try.ntmps40, List.size_toArray, List.length_cons, List.length_nil, Nat.reduceAdd, Nat.reduceSub, Array.replicate_succ, Array.replicate_zero, List.push_toArray, List.append_toArray, List.nil_append, List.cons_append]
  gi_wp2
  gi_loopw [4, 6, 9] (fun a _ i wr => ∃ (k : Nat) (at_ : Int), k ≤ zs.length ∧ i = .int .i64 k ∧ a = .int .i64 at_ ∧ Aside0 (((zs.take k).foldl gapStep (0, [])).1 = at_) ∧ Aside0 (J ((zs.take k).foldl gapStep (0, [])).2 wr) ∧ Aside0 (Below n₀ W wr))
    (fun _ _ i _ => zs.length - (intOf i).toNat)
  case atStart => exact ⟨0, 0, Nat.zero_le _, rfl, rfl, ⟨rfl⟩, ⟨h0⟩, ⟨Below.refl _ _⟩⟩
  case round =>
    obtain ⟨k, at_, hk, rfl, rfl, hAt, hJs, hnx⟩ := hrel
    by_cases hlt : k < zs.length
    · obtain ⟨ad, e0, hx0, hx1⟩ := at_T32 HC.out (k : Int) (by omega) (by omega)
      cases e0
      rw [rd_T32_get zs k hlt] at hx0 hx1
      simp only [Int.toNat_natCast] at hx0 hx1
      have hW0 : Below W0.heap.size W0 wr := hb0.trans (hnx.out.mono hn₀)
      replace hx0 := (hW0.cell (World.block_lt_of_cell? _ _ hx0)).trans hx0
      replace hx1 := (hW0.cell (World.block_lt_of_cell? _ _ hx1)).trans hx1
      have hJ1 := Aside0.mk (hJ _ wr _ none hJs.out (World.grownBy_alloc wr (.cells #[.int .i64 zs[k].f0, .int .i64 zs[k].f1] 32) none) (fun r e => by cases e))
      have hT : Aside0 ((zs.take (k + 1)).foldl gapStep (0, []) = gapStep ((zs.take k).foldl gapStep (0, [])) zs[k]) := ⟨by rw [List.take_succ_eq_append_getElem hlt, List.foldl_append]; rfl⟩
      have hL : Aside0 (((zs.take k).foldl gapStep (0, [])).2.length ≤ k) := ⟨by have := gapStep_len (zs.take k) (0, []); simp only [List.length_nil, List.length_take] at this; omega⟩
      have hbig : (k : Int) < (zs.length : Int) := by omega
      generalize zs[k] = y at hx0 hx1 hJ1 hT
      generalize hP : (zs.take k).foldl gapStep (0, []) = st at hAt hJs hJ1 hT hL
      clear hP hW0
      by_cases hgt : at_ < y.f0
      · have hgt' : decide (at_ < y.f0) = true := decide_eq_true hgt
        obtain ⟨fn, tmps, assign, body, hy, hR⟩ := hY _ (⟨at_, wrap64 (y.f0 - at_)⟩ : S32) wr _ hJs.out (World.grownBy_alloc wr (.cells #[.int .i64 y.f0, .int .i64 y.f1] 32) none) (Nat.le_trans hWn hnx.out.size) (by have := hL.out; omega)
        have hS : Aside0 (gapStep st y = (wrap64 (y.f0 + y.f1), st.2 ++ [⟨at_, wrap64 (y.f0 - at_)⟩])) := ⟨by unfold gapStep; rw [hAt.out, if_pos hgt]⟩
        unfold encS at hy
        dsimp only at hy
        gi_wp2
        refine hR.mono ?_
        rintro e W3 (⟨rfl, hJ3, hk3, hp3⟩ | ⟨rfl, hJx3⟩)
        · have hb3 : W3.heap[wr.heap.size]? = some (.cells #[.int .i64 y.f0, .int .i64 y.f1] 32) := (hp3 wr.heap.size (Nat.le_refl _) (by simp)).trans (World.alloc_heap_new wr _)
          have hc3 : W3.cell? ⟨wr.heap.size, 0, none⟩ = some (.int .i64 y.f0) := by simp [World.cell?, hb3]
          have hc4 : W3.cell? ⟨wr.heap.size, 1, none⟩ = some (.int .i64 y.f1) := by simp [World.cell?, hb3]
          clear hb3 hp3
          gi_wp2
          go_roundw
          case rel => exact ⟨k + 1, _, by omega, by simp, rfl, ⟨by rw [hT.out, hS.out]⟩, ⟨by rw [hT.out, hS.out]; exact hJ3⟩, ⟨(hnx.out.alloc (Nat.le_trans hWn hnx.out.size) _).trans hk3⟩⟩
          case measure => simp [intOf]; omega
        · gi_wp2
          refine bodyPost_ret (results_none rfl _ _ _) rfl ?_
          exact ⟨⟨_, rfl⟩, .inr ⟨_, trivial, hJx3⟩⟩
      · have hgt' : decide (at_ < y.f0) = false := decide_eq_false hgt
        have hS : Aside0 (gapStep st y = (wrap64 (y.f0 + y.f1), st.2)) := ⟨by unfold gapStep; rw [hAt.out, if_neg hgt]⟩
        gi_wp2
        refine ⟨(fun f h => by cases h), ?_⟩
        gi_wp2
        go_roundw
        case rel => exact ⟨k + 1, _, by omega, by simp, rfl, ⟨by rw [hT.out, hS.out]⟩, ⟨by rw [hT.out, hS.out]; exact hJ1.out⟩, ⟨hnx.out.alloc (Nat.le_trans hWn hnx.out.size) _⟩⟩
        case measure => simp [intOf]; omega
    · have hkl : k = zs.length := by omega
      subst hkl
      have hzc : wr.cell? ⟨Bz, 0, none⟩ = some (.int .i64 size) := (hnx.out.cell (p := ⟨Bz, 0, none⟩) hBz).trans HZ.out
      have hL : Aside0 (((zs.take zs.length).foldl gapStep (0, [])).2.length ≤ zs.length) := ⟨by have := gapStep_len (zs.take zs.length) (0, []); simp only [List.length_nil, List.length_take] at this; omega⟩
      rw [List.take_length] at hAt hJs hL
      by_cases hlt2 : at_ < size
      · obtain ⟨fn, tmps, assign, body, hy, hR⟩ := hY _ (⟨at_, wrap64 (size - at_)⟩ : S32) wr wr hJs.out (World.grownBy.refl wr none) (Nat.le_trans hWn hnx.out.size) (by have := hL.out; omega)
        have hS : Aside0 (gapsF size zs = (zs.foldl gapStep (0, [])).2 ++ [⟨at_, wrap64 (size - at_)⟩]) := ⟨by unfold gapsF; rw [hAt.out, if_pos hlt2]⟩
        unfold encS at hy
        dsimp only at hy
        gi_wp2
        refine hR.mono ?_
        rintro e W3 (⟨rfl, hJ3, hk3, _⟩ | ⟨rfl, hJx3⟩)
        · gi_wp2
          go_end0
          exact ⟨⟨_, rfl⟩, .inl ⟨_, rfl, by rw [hS.out]; exact hJ3⟩⟩
        · gi_wp2
          go_end0
          exact ⟨⟨_, rfl⟩, .inr ⟨_, trivial, hJx3⟩⟩
      · have hS : Aside0 (gapsF size zs = (zs.foldl gapStep (0, [])).2) := ⟨by unfold gapsF; rw [hAt.out, if_neg hlt2]⟩
        have hJS := Aside0.mk (show J (gapsF size zs) wr by rw [hS.out]; exact hJs.out)
        gi_wp2
        go_end0
        first | exact ⟨⟨_, rfl⟩, .inl ⟨_, rfl, hJS.out⟩⟩ | exact ⟨⟨_, rfl⟩, .inl hJS.out⟩ | exact ⟨.inl hJS.out⟩ | exact .inl hJS.out

end Go.Proofs.Ytjmplchknbgmgaa.PSpan
