/-
  PolicyKeeps, walked.
-/
import Derived.Test.YtfdlbnfjohpdlaaGreatDoorPureDp
import Derived.Test.YtfdlbnfjohpdlaaGreatDoorPPox16
import Derived.Test.YtfdlbnfjohpdlaaGreatDoorPPox7
import Derived.Test.YtfdlbnfjohpdlaaGreatDoorPureRn
import Derived.KernelRfl
import Derived.Test.YtfdlbnfjohpdlaaGreatDoorPPox0
import Derived.Test.YtfdlbnfjohpdlaaGreatDoorLayP
import Derived.Test.YtfdlbnfjohpdlaaGreatDoorPureTR
import Derived.Lib.OthersKept
import Derived.Outline
import Derived.Lib.ConvBytes
import Derived.Lib.LazyBuf
import Derived.Test.YtfdlbnfjohpdlaaGreatDoorPPox23
--compressed
namespace Go.Proofs.YtfdlbnfjohpdlaaGreatDoor.PPo
open Go.RowKit Go.Proofs.YtfdlbnfjohpdlaaGreatDoor.Th Go.Proofs.YtfdlbnfjohpdlaaGreatDoorW.PrintWords Go.Proofs.YtfdlbnfjohpdlaaGreatDoorW.PrintLast Go.Proofs.YtfdlbnfjohpdlaaGreatDoorW.PrintMore
attribute [local go_sem] max2_int min2_int max_two min_two max_three min_three max_four min_four
set_option linter.unusedVariables false
set_option linter.unusedSimpArgs false
theorem refright_f (a b c d : Int) : rootcellarref16_Right.f a b c d = some (rightP a b c d) := by
 have ok : ∀ n : Int, okN n = (decide (n ≥ 0) && decide (n ≤ 1000)) := fun n => by
  unfold okN
  rw [Bool.eq_iff_iff]
  simp
 unfold rootcellarref16_Right.f rightP
 rw [ok, ok, ok, ok]
 by_cases a1 : a ≥ 0
 ·by_cases a2 : a ≤ 1000
  ·by_cases b1 : b ≥ 0
   ·by_cases b2 : b ≤ 1000
    ·by_cases c1 : c ≥ 0
     ·by_cases c2 : c ≤ 1000
      ·by_cases d1 : d ≥ 0
       ·simp [a1, a2, b1, b2, c1, c2, d1]
       ·simp [a1, a2, b1, b2, c1, c2, d1]
      ·simp [a1, a2, b1, b2, c1, c2]
     ·simp [a1, a2, b1, b2, c1]
    ·simp [a1, a2, b1, b2]
   ·simp [a1, a2, b1]
  ·simp [a1, a2]
 ·simp [a1]
theorem rints_stay {W w1 : World} {v u : Value} {xs : List Int} {ys : List Lr} {base : Nat} (h : Kd.R (Kd.int .i64) 3 W base (fun _ => True) v xs) (hu : Kd.R k81 81 W base (fun _ => True) u ys) (hg : W.grownBy w1 u.ownBlock) : Kd.R (Kd.int .i64) 3 w1 base (fun _ => True) v xs :=
 Kd.R_mono (Kd.R_grown (Kd.R_apartR h hu (by decide)) hg (fun k hk => hk.2)) (fun _ _ => trivial)
theorem rlinks_stay {W w1 : World} {v u : Value} {xs : List Int} {ys : List Lr} {base : Nat} (h : Kd.R k81 81 W base (fun _ => True) u ys) (hu : Kd.R (Kd.int .i64) 3 W base (fun _ => True) v xs) (hg : W.grownBy w1 v.ownBlock) : Kd.R k81 81 w1 base (fun _ => True) u ys :=
 Kd.R_mono (Kd.R_grown (Kd.R_apartR h hu (by decide)) hg (fun k hk => hk.2)) (fun _ _ => trivial)
/-- Two rows whose blocks are two. -/
def TwoB (u v : Value) : Prop := ∀ k, u.ownBlock = some k → some k ≠ v.ownBlock
theorem TwoB.symm {u v : Value} (h : TwoB u v) : TwoB v u := fun k hk he => h k he.symm hk.symm
theorem TwoB.step {W : World} {u u1 v : Value} {ys : List Int} {base : Nat} (h : TwoB u v) (hv : Kd.R (Kd.int .i64) 3 W base (fun _ => True) v ys) (hat : u1.ownBlock = u.ownBlock ∨ ∃ b, u1.ownBlock = some b ∧ W.heap.size ≤ b) : TwoB u1 v := fun k hk he => by
 rcases hat with h1 | ⟨b, h1, h2⟩
 ·exact h k (h1 ▸ hk) he
 ·rw [h1] at hk
  injection hk with hk
  have := Kd.R_lt hv k he.symm
  omega
theorem two_stay {W w1 : World} {u v : Value} {ys : List Int} {base : Nat} (h : TwoB u v) (hv : Kd.R (Kd.int .i64) 3 W base (fun _ => True) v ys) (hg : W.grownBy w1 u.ownBlock) : Kd.R (Kd.int .i64) 3 w1 base (fun _ => True) v ys := Kd.R_grown2 hv rfl hg h
theorem take_drop1 {l : List Lr} {i : Nat} (h1 : 1 ≤ i) (h : i < l.length) : (l.take (i + 1)).drop 1 = (l.take i).drop 1 ++ [l[i]] := by
 rw [List.take_succ_eq_append_getElem h, List.drop_append_of_le_length (by rw [List.length_take]; omega)]
set_option maxHeartbeats 8000000 in
set_option maxRecDepth 100000 in
theorem partedR.calls (a b d e : Int) (A : Option Addr) (c : Nat) (l : List Lr) (live next now : Int) (w : World) (hr : Kd.C k81 w A l.length l) (hc : l.length ≤ c) (hs : ∀ x ∈ l, x.f2.size ≤ 4611686018427387900) (htm : ∀ x ∈ l, Tm (toL x)) :
  Calls Tryz.prog 42 #[.agg #[.int .i64 a, .int .i64 b, .int .i64 d, .int .i64 e], .agg #[.slice A l.length c, .int .i64 live, .int .i64 next, .int .u64 now]] w fun ex w' => ∃ v1 v2, ex = .returned (.tuple #[v1, v2]) ∧ Kd.R (Kd.int .i64) 3 w' w.heap.size (fun _ => True) v1 (keepV a b d e (l.map toL) live next) ∧ Kd.R (Kd.int .i64) 3 w' w.heap.size (fun _ => True) v2 (dropsV a b d e (l.map toL) live next) ∧ Below w.heap.size w w' := by
 have hu := Tryz.underlying41
 have hu3 := Tryz.underlying81
 have hup := Tryz.underlying37
 have HB := Aside0.mk (Below.refl w.heap.size w)
 have HP := Aside0.mk (fun (W : World) (hW : Below w.heap.size w W) => (rootcellarref16_Right.calls a b d e _ W (refright_f a b d e)).mono fun ex w' q => (show ex = .returned (.bool (rightP a b d e)) ∧ Below w.heap.size w w' ∧ Below W.heap.size W w' from ⟨q.1, hW.trans (q.2.mono (below_size hW)), q.2⟩))
 have HR := Aside0.mk (fun (W : World) (hW : Below w.heap.size w W) => (rightRf.calls A c l live next now W (Kd.C_below hr hW) hc hs).mono fun ex w' q => (show ex = .returned (.bool (rightT (l.map toL) live next)) ∧ Below w.heap.size w w' ∧ Below W.heap.size W w' from ⟨q.1, hW.trans (q.2.mono (below_size hW)), q.2⟩))
 by_cases hbad : rightP a b d e = true ∧ rightT (l.map toL) live next = true
 ·obtain ⟨hp, htr⟩ := hbad
  have hkd : keepV a b d e (l.map toL) live next = 1 :: ((candV (l.map toL)).filter (keptB a b d e live (candV (l.map toL)))).map (·.f0) := by unfold keepV; rw [if_pos ⟨hp, htr⟩]
  have hdd : dropsV a b d e (l.map toL) live next = ((candV (l.map toL)).filter fun x => !keptB a b d e live (candV (l.map toL)) x).map (·.f0) := by unfold dropsV; rw [if_pos ⟨hp, htr⟩]
  rw [hkd, hdd]
  rw [hp] at HP
  rw [htr] at HR
  obtain ⟨-, -, -, -, -, -, hc1⟩ := right_cand htr
  obtain ⟨h0, h60, -⟩ := rightT_iff.1 htr
  rw [List.length_map] at h0 h60
  have hcm : candV (l.map toL) = ((l.drop 1).filter fun x => !x.f4).map toL := by
   unfold candV
   rw [← List.map_drop, List.filter_map]
   rfl
  rw [hcm] at hc1 ⊢
  rw [List.filter_map, List.filter_map, List.map_map, List.map_map]
  obtain ⟨CR, hCR⟩ : ∃ CR, CR = (l.drop 1).filter fun x => !x.f4 := ⟨_, rfl⟩
  rw [← hCR] at hc1 ⊢
  obtain ⟨kb, hkb⟩ : ∃ kb : Lr → Bool, kb = fun x => keptB a b d e live (CR.map toL) (toL x) := ⟨_, rfl⟩
  have hg1 : (keptB a b d e live (CR.map toL) ∘ toL) = kb := by rw [hkb]; rfl
  have hg2 : ((fun x => !keptB a b d e live (CR.map toL) x) ∘ toL) = fun x => !kb x := by rw [hkb]; rfl
  have hg3 : ((fun x : Lk => x.f0) ∘ toL) = fun x : Lr => x.f0 := rfl
  rw [hg1, hg2, hg3]
  have hCl : CR.length ≤ 60 := by
   have h4 := List.length_filter_le (fun x : Lr => !x.f4) (l.drop 1)
   have h5 : (l.drop 1).length = l.length - 1 := List.length_drop
   rw [hCR]
   omega
  have hCm : ∀ x ∈ CR, x ∈ l := fun x hx => by
   rw [hCR] at hx
   exact List.mem_of_mem_drop (List.mem_filter.1 hx).1
  have HKP := Aside0.mk (show ∀ (W : World) (A8 : Option Addr) (c8 : Nat) (x : Lr), x ∈ CR → Below w.heap.size w W → Kd.C k81 W A8 CR.length CR → CR.length ≤ c8 → Calls Tryz.prog 68 #[.agg #[.int .i64 a, .int .i64 b, .int .i64 d, .int .i64 e], .agg #[.slice A l.length c, .int .i64 live, .int .i64 next, .int .u64 now], .slice A8 CR.length c8, .agg #[.int .i64 x.f0, .int .i64 x.f1, .string x.f2, .int .u64 x.f3, .bool x.f4, .bool x.f5]] W fun ex w' => ex = .returned (.bool (kb x)) ∧ Below w.heap.size w w' ∧ Below W.heap.size W w' from fun W A8 c8 x hx hW hC h8 => by
   have hx1 := hc1 (toL x) (List.mem_map.2 ⟨x, hx, rfl⟩)
   obtain ⟨k, hk⟩ := (kept_ev a b d e l live next now CR x (by omega) (fun y hy => htm y (hCm y hy)) (htm x (hCm x hx)) (by have : (1 : Int) < x.f0 := hx1; omega)).get
   rw [hkb]
   exact (rootcellarref16_kept.calls k a b d e A c l live next now A8 c8 CR x.f0 x.f1 x.f2 x.f3 x.f4 x.f5 _ W (Kd.C_below hr hW) hc hC h8 hk).mono fun ex w' q => ⟨q.1, hW.trans (q.2.mono (below_size hW)), q.2⟩)
  have HCR := Aside0.mk hCR
  have HCL := Aside0.mk hCl
  have HCT := Aside0.mk (And.intro h0 h60)
  have HK := Aside0.mk hr
  have hl60 := h60
  have mixed : Tryz.prog.follows .mixedOrders = true := by kernel_rfl
  clear hr hc hs htm hp htr hkd hdd hc1 hcm hg1 hg2 hg3 hCm hCR h60 hkb hCl
  go_enter Tryz.func42, Tryz.ntmps42
  go_wp2_with (first
   | ((with_reducible refine gate_dst (N := 2) rfl ?_); refine box_event ?hg (N := 2) ?hd (cs := #[.int .i64 a, .int .i64 b, .int .i64 d, .int .i64 e]) (t := 37) ?hr ?_; (case hd => rfl); (case hg => rfl); (case hr => first | (go_simp; done) | (go_simp; rfl)); intro g2 hg2 wb2 hbox hb; have HB2 := Aside0.mk (below_step HB.out hb); have BK2 := Aside0.mk hbox; have HG2 := Aside0.mk (show w.heap.size ≤ g2 by rw [hg2]; exact below_size HB.out); clear hg2 hb hbox; have hb2_0 := blk_cell BK2.out 0; have hb2_1 := blk_cell BK2.out 1; have hb2_2 := blk_cell BK2.out 2; have hb2_3 := blk_cell BK2.out 3)
   | ((with_reducible refine gate_dst (N := 3) rfl ?_); refine box_event ?hg (N := 3) ?hd (cs := #[.slice A l.length c, .int .i64 live, .int .i64 next, .int .u64 now]) (t := 41) ?hr ?_; (case hd => rfl); (case hg => rfl); (case hr => first | (go_simp; done) | (go_simp; rfl)); intro g3 hg3 wb3 hbox hb; have HB3 := Aside0.mk (below_step HB2.out hb); have BK3 := Aside0.mk hbox; have HG3 := Aside0.mk (show w.heap.size ≤ g3 by rw [hg3]; exact below_size HB2.out); have BP3 := Aside0.mk (blk_below BK2.out hb); clear hg3 hb hbox; have hb3_0 := blk_cell BK3.out 0; have hb3_1 := blk_cell BK3.out 1; have hb3_2 := blk_cell BK3.out 2; have hb3_3 := blk_cell BK3.out 3; have hp0 := blk_cell BP3.out 0; have hp1 := blk_cell BP3.out 1; have hp2 := blk_cell BP3.out 2; have hp3 := blk_cell BP3.out 3)
   | (go_at_call 30; go_loud (refine (HP.out _ HB3.out).mono ?_; rintro ex w4 ⟨rfl, q1, q2⟩; have HB4 := Aside0.mk q1; have BT4 := Aside0.mk (blk_below BK3.out q2); have BP4 := Aside0.mk (blk_below BP3.out q2); clear q1 q2 hb2_0 hb2_1 hb2_2 hb2_3 hb3_0 hb3_1 hb3_2 hb3_3 hp0 hp1 hp2 hp3; have ht0 := blk_cell BT4.out 0; have ht1 := blk_cell BT4.out 1; have ht2 := blk_cell BT4.out 2; have ht3 := blk_cell BT4.out 3))
   | (go_at_call 67; go_loud (refine (HR.out _ HB4.out).mono ?_; rintro ex w5 ⟨rfl, q1, q2⟩; have HB5 := Aside0.mk q1; have BT5 := Aside0.mk (blk_below BT4.out q2); have BP5 := Aside0.mk (blk_below BP4.out q2); clear q1 q2 ht0 ht1 ht2 ht3; have hv0 := blk_cell BT5.out 0)))
  go_loopg [8, 9] l.length (fun gg s8 s9 wr => ∃ i : Nat, s9 = .int .i64 i ∧ 1 ≤ i ∧ i ≤ l.length ∧ l.length - i ≤ gg ∧ Aside0 (Below w.heap.size w wr) ∧ Aside0 (wr.heap[g3]? = some (.cells #[.slice A l.length c, .int .i64 live, .int .i64 next, .int .u64 now] 41 (0, 0))) ∧ Aside0 (wr.heap[g2]? = some (.cells #[.int .i64 a, .int .i64 b, .int .i64 d, .int .i64 e] 37 (0, 0))) ∧ Aside0 (Kd.R k81 81 wr w.heap.size (fun _ => True) s8 (((l.take i).drop 1).filter fun x => !x.f4)))
  case atStart => exact ⟨1, rfl, Nat.le_refl _, by have := HCT.out.1; omega, by omega, HB5, BT5, BP5, ⟨by
   have : ((l.take 1).drop 1).filter (fun x => !x.f4) = [] := by
    rw [List.drop_of_length_le (by rw [List.length_take]; omega)]
    rfl
   rw [this]
   exact Kd.R_nil _ _ _ _ _⟩⟩
  case round =>
   obtain ⟨i, rfl, hi1, hi, hg, HBr, HTr, HPr, HLr⟩ := hrel
   by_cases hlt : i < l.length
   ·have hltz : decide ((i : Int) < (l.length : Int)) = true := decide_eq_true (by omega)
    have hi0 : (0 : Int) ≤ (i : Int) := by omega
    have hi2 : (i : Int) < (l.length : Int) := by omega
    obtain ⟨ad, e', hx0, hx1, hx2, hx3, hx4, hx5⟩ := at_T81 HK.out (i : Int) hi0 hi2
    cases e'
    replace hx0 := (HBr.out.cell (World.block_lt_of_cell? w _ hx0)).trans hx0
    replace hx1 := (HBr.out.cell (World.block_lt_of_cell? w _ hx1)).trans hx1
    replace hx2 := (HBr.out.cell (World.block_lt_of_cell? w _ hx2)).trans hx2
    replace hx3 := (HBr.out.cell (World.block_lt_of_cell? w _ hx3)).trans hx3
    replace hx4 := (HBr.out.cell (World.block_lt_of_cell? w _ hx4)).trans hx4
    replace hx5 := (HBr.out.cell (World.block_lt_of_cell? w _ hx5)).trans hx5
    simp only [Int.toNat_natCast] at hx0 hx1 hx2 hx3 hx4 hx5
    have HTK := Aside0.mk (take_drop1 hi1 hlt)
    rw [lr_get hlt] at hx0 hx1 hx2 hx3 hx4 hx5
    generalize l[i] = x at hx0 hx1 hx2 hx3 hx4 hx5 HTK
    have HLN := Aside0.mk (show (((l.take i).drop 1).filter fun x => !x.f4).length ≤ 60 from by have h4 := List.length_filter_le (fun x : Lr => !x.f4) ((l.take i).drop 1); rw [List.length_drop, List.length_take] at h4; omega)
    have ht0 := blk_cell HTr.out 0
    cases hgh : x.f4 with
    | true =>
     have HNX := Aside0.mk (show (((l.take (i + 1)).drop 1).filter fun x => !x.f4) = (((l.take i).drop 1).filter fun x => !x.f4) by rw [HTK.out, List.filter_append, List.filter_cons_of_neg (by rw [hgh]; decide)]; simp)
     go_wp2
     go_roundg (l.length - (i + 1))
     case measure => omega
     case rel => exact ⟨i + 1, by go_num, by omega, by omega, by omega, HBr, HTr, HPr, ⟨by rw [HNX.out]; exact HLr.out⟩⟩
    | false =>
     have HNX := Aside0.mk (show (((l.take (i + 1)).drop 1).filter fun x => !x.f4) = (((l.take i).drop 1).filter fun x => !x.f4) ++ [x] by rw [HTK.out, List.filter_append, List.filter_cons_of_pos (by rw [hgh]; decide)]; simp)
     go_wp2_with ((with_reducible refine gate_builtin (b := .append) (xs := #[.tmp 37, .tmp 43]) rfl ?_); at_builtin; refine Kd.R_append k81 (w0 := w) w.heap.size rfl (.tmp 37) (.tmp 43) 39 81 (.agg #[(.int .i64 0), (.int .i64 0), (.string ⟨#[]⟩), (.int .u64 0), (.bool false), (.bool false)]) 48 rfl Tryz.underlying39 info81 rfl (by decide) (by omega) u8 (((l.take i).drop 1).filter fun x => !x.f4) x [.int .i64 x.f0, .int .i64 x.f1, .string x.f2, .int .u64 x.f3, .bool false, .bool x.f5] (fun _ => True) (fun _ => False) rfl ?aX ?aP (fun _ hk => hk.elim) (fun _ _ => trivial) HLr.out HBr.out (below_size HBr.out) (Nat.le_trans (Nat.mul_le_mul_right 48 (Nat.succ_le_succ HLN.out)) (by decide)) ?_; (case aX => first | rfl | (go_simp; done)); (case aP => (have q := k81_mkM wr w.heap.size (fun _ => False) x; rw [hgh] at q; exact q)); intro v44 w44 ho hb hg hat; have HL44 := Aside0.mk ho; have HB44 := Aside0.mk hb; have HT44 := Aside0.mk (blk_grown HTr.out hg (Kd.R_ne HLr.out HTr.out (by decide))); have HP44 := Aside0.mk (blk_grown HPr.out hg (Kd.R_ne HLr.out HPr.out (by decide))); clear ho hb hg hat)
     go_roundg (l.length - (i + 1))
     case measure => omega
     case rel => exact ⟨i + 1, by go_num, by omega, by omega, by omega, HB44, HT44, HP44, ⟨by rw [HNX.out]; exact HL44.out⟩⟩
   ·have hltz : decide ((i : Int) < (l.length : Int)) = false := decide_eq_false (by omega)
    have hcs : (((l.take i).drop 1).filter fun x => !x.f4) = CR := by rw [List.take_of_length_le (by omega), HCR.out]
    rw [hcs] at HLr
    clear hcs
    obtain ⟨A8, c8, h8⟩ := Kd.R_slice HLr.out
    subst h8
    have ht0 := blk_cell HTr.out 0
    have hC60 := HCL.out
    go_wp2_with ((with_reducible refine gate_dst (N := 45) rfl ?_); refine Kd.R_lit (Kd.int .i64) (w0 := w) w.heap.size 3 rfl (N := 45) rfl (xs := [1]) (inner := [.int .i64 1]) (ok := fun _ => True) (okp := fun _ => True) ?hr (ints_reps _ _ _ [1]) (fun _ _ => trivial) trivial HBr.out (below_size HBr.out) (by decide) ?_; (case hr => first | (go_simp; done) | (go_simp; rfl)); intro v45 w45 ho hb hg hat; have HI45 := Aside0.mk ho; have HB45 := Aside0.mk hb; have HT45 := Aside0.mk (blk_grown HTr.out hg (by simp)); have HP45 := Aside0.mk (blk_grown HPr.out hg (by simp)); have HL45 := Aside0.mk (Kd.R_grown HLr.out hg (fun k _ => by simp)); clear ho hb hg hat)
    clear ht0
    go_loopg [10, 11, 12] CR.length (fun gg s10 s11 s12 wr => ∃ i : Nat, s12 = .int .i64 i ∧ i ≤ CR.length ∧ CR.length - i ≤ gg ∧ Aside0 (Below w.heap.size w wr) ∧ Aside0 (wr.heap[g3]? = some (.cells #[.slice A l.length c, .int .i64 live, .int .i64 next, .int .u64 now] 41 (0, 0))) ∧ Aside0 (wr.heap[g2]? = some (.cells #[.int .i64 a, .int .i64 b, .int .i64 d, .int .i64 e] 37 (0, 0))) ∧ Aside0 (Kd.R (Kd.int .i64) 3 wr w.heap.size (fun _ => True) s10 (1 :: ((CR.take i).filter kb).map (·.f0))) ∧ Aside0 (Kd.R (Kd.int .i64) 3 wr w.heap.size (fun _ => True) s11 (((CR.take i).filter fun x => !kb x).map (·.f0))) ∧ Aside0 (TwoB s10 s11) ∧ Aside0 (Kd.R k81 81 wr w.heap.size (fun _ => True) (.slice A8 CR.length c8) CR))
    case atStart => exact ⟨0, rfl, Nat.zero_le _, by omega, HB45, HT45, HP45, HI45, ⟨Kd.R_nil _ _ _ _ _⟩, ⟨fun k hk he => by simp [Value.ownBlock] at he⟩, HL45⟩
    case round =>
     clear HLr HBr HTr HPr HI45 HB45 HT45 HP45 HL45 hltz
     obtain ⟨i, rfl, hi, hg, HBr, HTr, HPr, HI, HO, HTW, HLr⟩ := hrel
     by_cases hlt : i < CR.length
     ·have hltz : decide ((i : Int) < (CR.length : Int)) = true := decide_eq_true (by omega)
      have hi0 : (0 : Int) ≤ (i : Int) := by omega
      have hi2 : (i : Int) < (CR.length : Int) := by omega
      have HC8 := Aside0.mk (Kd.R_reads' HLr.out)
      obtain ⟨ad, e', hx0, hx1, hx2, hx3, hx4, hx5⟩ := at_T81 HC8.out.2.2 (i : Int) hi0 hi2
      cases e'
      simp only [Int.toNat_natCast] at hx0 hx1 hx2 hx3 hx4 hx5
      have HTK := Aside0.mk (List.take_succ_eq_append_getElem hlt)
      rw [lr_get hlt] at hx0 hx1 hx2 hx3 hx4 hx5
      have HXM := Aside0.mk (List.getElem_mem hlt)
      generalize CR[i] = x at hx0 hx1 hx2 hx3 hx4 hx5 HTK HXM
      have HLN := Aside0.mk (show (CR.take i).length ≤ 60 by rw [List.length_take]; omega)
      have HIN := Aside0.mk (show (1 :: ((CR.take i).filter kb).map (·.f0)).length ≤ 61 by have h1 := List.length_filter_le kb (CR.take i); have h2 := HLN.out; rw [List.length_cons, List.length_map]; omega)
      have HON := Aside0.mk (show (((CR.take i).filter fun x => !kb x).map (·.f0)).length ≤ 61 by have h1 := List.length_filter_le (fun x => !kb x) (CR.take i); have h2 := HLN.out; rw [List.length_map]; omega)
      have HKX := Aside0.mk (show ∀ W, Below wr.heap.size wr W → Calls Tryz.prog 68 #[.agg #[.int .i64 a, .int .i64 b, .int .i64 d, .int .i64 e], .agg #[.slice A l.length c, .int .i64 live, .int .i64 next, .int .u64 now], .slice (some ad) CR.length c8, .agg #[.int .i64 x.f0, .int .i64 x.f1, .string x.f2, .int .u64 x.f3, .bool x.f4, .bool x.f5]] W fun ex w' => ex = .returned (.bool (kb x)) ∧ Below w.heap.size w w' ∧ Below wr.heap.size wr w' from fun W hW => (HKP.out W _ c8 x HXM.out (below_step HBr.out hW) (Kd.C_below HC8.out.2.2 hW) HC8.out.2.1).mono fun ex w' q => ⟨q.1, q.2.1, below_step hW q.2.2⟩)
      have HKEEP := Aside0.mk (show ∀ w', Below wr.heap.size wr w' → (Below wr.heap.size wr w' ∧ w'.cell? ⟨g2, 0, none⟩ = some (.int .i64 a) ∧ w'.cell? ⟨g2, 1, none⟩ = some (.int .i64 b) ∧ w'.cell? ⟨g2, 2, none⟩ = some (.int .i64 d) ∧ w'.cell? ⟨g2, 3, none⟩ = some (.int .i64 e) ∧ w'.cell? ⟨g3, 0, none⟩ = some (.slice A l.length c) ∧ w'.cell? ⟨g3, 1, none⟩ = some (.int .i64 live) ∧ w'.cell? ⟨g3, 2, none⟩ = some (.int .i64 next) ∧ w'.cell? ⟨g3, 3, none⟩ = some (.int .u64 now) ∧ w'.cell? (ad.add (i * 6)) = some (.int .i64 x.f0) ∧ w'.cell? ⟨(ad.add (i * 6)).block, (ad.add (i * 6)).off + 1, none⟩ = some (.int .i64 x.f1) ∧ w'.cell? ⟨(ad.add (i * 6)).block, (ad.add (i * 6)).off + 2, none⟩ = some (.string x.f2) ∧ w'.cell? ⟨(ad.add (i * 6)).block, (ad.add (i * 6)).off + 3, none⟩ = some (.int .u64 x.f3) ∧ w'.cell? ⟨(ad.add (i * 6)).block, (ad.add (i * 6)).off + 4, none⟩ = some (.bool x.f4) ∧ w'.cell? ⟨(ad.add (i * 6)).block, (ad.add (i * 6)).off + 5, none⟩ = some (.bool x.f5)) from fun w' hb =>
       have h2 := blk_below HPr.out hb
       have h3 := blk_below HTr.out hb
       ⟨hb, blk_cell h2 0, blk_cell h2 1, blk_cell h2 2, blk_cell h2 3, blk_cell h3 0, blk_cell h3 1, blk_cell h3 2, blk_cell h3 3, (hb.cell (World.block_lt_of_cell? wr _ hx0)).trans hx0, (hb.cell (World.block_lt_of_cell? wr _ hx1)).trans hx1, (hb.cell (World.block_lt_of_cell? wr _ hx2)).trans hx2, (hb.cell (World.block_lt_of_cell? wr _ hx3)).trans hx3, (hb.cell (World.block_lt_of_cell? wr _ hx4)).trans hx4, (hb.cell (World.block_lt_of_cell? wr _ hx5)).trans hx5⟩)
      cases hkx : kb x with
      | true =>
       rw [hkx] at HKX
       have HNX := Aside0.mk (show 1 :: ((CR.take (i + 1)).filter kb).map (·.f0) = (1 :: ((CR.take i).filter kb).map (·.f0)) ++ [x.f0] by rw [HTK.out, List.filter_append, List.filter_cons_of_pos hkx]; simp)
       have HNY := Aside0.mk (show ((CR.take (i + 1)).filter fun x => !kb x).map (·.f0) = ((CR.take i).filter fun x => !kb x).map (·.f0) by rw [HTK.out, List.filter_append, List.filter_cons_of_neg (by rw [hkx]; decide)]; simp)
       clear hkx
       go_upto_region 16 with fail
       clear hx0 hx1 hx2 hx3 hx4 hx5
       go_region_held3 (fun w' => Below wr.heap.size wr w' ∧ w'.cell? ⟨g2, 0, none⟩ = some (.int .i64 a) ∧ w'.cell? ⟨g2, 1, none⟩ = some (.int .i64 b) ∧ w'.cell? ⟨g2, 2, none⟩ = some (.int .i64 d) ∧ w'.cell? ⟨g2, 3, none⟩ = some (.int .i64 e) ∧ w'.cell? ⟨g3, 0, none⟩ = some (.slice A l.length c) ∧ w'.cell? ⟨g3, 1, none⟩ = some (.int .i64 live) ∧ w'.cell? ⟨g3, 2, none⟩ = some (.int .i64 next) ∧ w'.cell? ⟨g3, 3, none⟩ = some (.int .u64 now) ∧ w'.cell? (ad.add (i * 6)) = some (.int .i64 x.f0) ∧ w'.cell? ⟨(ad.add (i * 6)).block, (ad.add (i * 6)).off + 1, none⟩ = some (.int .i64 x.f1) ∧ w'.cell? ⟨(ad.add (i * 6)).block, (ad.add (i * 6)).off + 2, none⟩ = some (.string x.f2) ∧ w'.cell? ⟨(ad.add (i * 6)).block, (ad.add (i * 6)).off + 3, none⟩ = some (.int .u64 x.f3) ∧ w'.cell? ⟨(ad.add (i * 6)).block, (ad.add (i * 6)).off + 4, none⟩ = some (.bool x.f4) ∧ w'.cell? ⟨(ad.add (i * 6)).block, (ad.add (i * 6)).off + 5, none⟩ = some (.bool x.f5)) (exact HKEEP.out _ (by repeat (with_reducible first | exact Below.refl _ _ | exact And.left (by assumption) | exact HQK.out | apply below_alloc | apply below_drew1))) (first
        | (go_at_call 68; go_loud (with_reducible refine (HKX.out _ ?hb).mono ?_; (case hb => repeat (with_reducible first | exact Below.refl _ _ | apply below_alloc | apply below_drew1)); rintro e wk ⟨rfl, q1, q2⟩; have HBk := Aside0.mk q1; have HQK := Aside0.mk q2; clear q1 q2)))
       have HTk := Aside0.mk (blk_below HTr.out HQK.out)
       have HPk := Aside0.mk (blk_below HPr.out HQK.out)
       have HIk := Aside0.mk (Kd.R_below HI.out HQK.out)
       have HOk := Aside0.mk (Kd.R_below HO.out HQK.out)
       have HLk := Aside0.mk (Kd.R_below HLr.out HQK.out)
       have hxk := (HKEEP.out _ HQK.out).2.2.2.2.2.2.2.2.2.1
       go_wp2_with ((with_reducible refine gate_builtin (b := .append) (xs := #[.tmp 60, .tmp 66]) rfl ?_); at_builtin; refine Kd.R_append (Kd.int .i64) (w0 := w) w.heap.size rfl (.tmp 60) (.tmp 66) 34 3 (.int .i64 0) 8 rfl Tryz.underlying34 info3 rfl (by decide) (by omega) u10 (1 :: ((CR.take i).filter kb).map (·.f0)) x.f0 [.int .i64 x.f0] (fun _ => True) (fun _ => False) rfl ?aX rfl (fun _ hk => hk.elim) (fun _ _ => trivial) HIk.out HBk.out (below_size HBk.out) (Nat.le_trans (Nat.mul_le_mul_right 8 (Nat.succ_le_succ HIN.out)) (by decide)) ?_; (case aX => first | rfl | (go_simp; done)); intro v7 w7 ho hb hg hat; have HN7 := Aside0.mk ho; have HB7 := Aside0.mk hb; have HT7 := Aside0.mk (blk_grown HTk.out hg (Kd.R_ne HIk.out HTk.out (by decide))); have HP7 := Aside0.mk (blk_grown HPk.out hg (Kd.R_ne HIk.out HPk.out (by decide))); have HL7 := Aside0.mk (rlinks_stay HLk.out HIk.out hg); have HM7 := Aside0.mk (two_stay HTW.out HOk.out hg); have HW7 := Aside0.mk (TwoB.step HTW.out HOk.out hat); clear ho hb hg hat)
       go_roundg (CR.length - (i + 1))
       case measure => omega
       case rel => exact ⟨i + 1, by go_num, by omega, by omega, HB7, HT7, HP7, ⟨by rw [HNX.out]; exact HN7.out⟩, ⟨by rw [HNY.out]; exact HM7.out⟩, HW7, HL7⟩
      | false =>
       rw [hkx] at HKX
       have HNX := Aside0.mk (show 1 :: ((CR.take (i + 1)).filter kb).map (·.f0) = 1 :: ((CR.take i).filter kb).map (·.f0) by rw [HTK.out, List.filter_append, List.filter_cons_of_neg (by rw [hkx]; decide)]; simp)
       have HNY := Aside0.mk (show ((CR.take (i + 1)).filter fun x => !kb x).map (·.f0) = ((CR.take i).filter fun x => !kb x).map (·.f0) ++ [x.f0] by rw [HTK.out, List.filter_append, List.filter_cons_of_pos (by rw [hkx]; rfl)]; simp)
       clear hkx
       go_upto_region 16 with fail
       clear hx0 hx1 hx2 hx3 hx4 hx5
       go_region_held3 (fun w' => Below wr.heap.size wr w' ∧ w'.cell? ⟨g2, 0, none⟩ = some (.int .i64 a) ∧ w'.cell? ⟨g2, 1, none⟩ = some (.int .i64 b) ∧ w'.cell? ⟨g2, 2, none⟩ = some (.int .i64 d) ∧ w'.cell? ⟨g2, 3, none⟩ = some (.int .i64 e) ∧ w'.cell? ⟨g3, 0, none⟩ = some (.slice A l.length c) ∧ w'.cell? ⟨g3, 1, none⟩ = some (.int .i64 live) ∧ w'.cell? ⟨g3, 2, none⟩ = some (.int .i64 next) ∧ w'.cell? ⟨g3, 3, none⟩ = some (.int .u64 now) ∧ w'.cell? (ad.add (i * 6)) = some (.int .i64 x.f0) ∧ w'.cell? ⟨(ad.add (i * 6)).block, (ad.add (i * 6)).off + 1, none⟩ = some (.int .i64 x.f1) ∧ w'.cell? ⟨(ad.add (i * 6)).block, (ad.add (i * 6)).off + 2, none⟩ = some (.string x.f2) ∧ w'.cell? ⟨(ad.add (i * 6)).block, (ad.add (i * 6)).off + 3, none⟩ = some (.int .u64 x.f3) ∧ w'.cell? ⟨(ad.add (i * 6)).block, (ad.add (i * 6)).off + 4, none⟩ = some (.bool x.f4) ∧ w'.cell? ⟨(ad.add (i * 6)).block, (ad.add (i * 6)).off + 5, none⟩ = some (.bool x.f5)) (exact HKEEP.out _ (by repeat (with_reducible first | exact Below.refl _ _ | exact And.left (by assumption) | exact HQK.out | apply below_alloc | apply below_drew1))) (first
        | (go_at_call 68; go_loud (with_reducible refine (HKX.out _ ?hb).mono ?_; (case hb => repeat (with_reducible first | exact Below.refl _ _ | apply below_alloc | apply below_drew1)); rintro e wk ⟨rfl, q1, q2⟩; have HBk := Aside0.mk q1; have HQK := Aside0.mk q2; clear q1 q2)))
       have HTk := Aside0.mk (blk_below HTr.out HQK.out)
       have HPk := Aside0.mk (blk_below HPr.out HQK.out)
       have HIk := Aside0.mk (Kd.R_below HI.out HQK.out)
       have HOk := Aside0.mk (Kd.R_below HO.out HQK.out)
       have HLk := Aside0.mk (Kd.R_below HLr.out HQK.out)
       have hxk := (HKEEP.out _ HQK.out).2.2.2.2.2.2.2.2.2.1
       go_wp2_with ((with_reducible refine gate_builtin (b := .append) (xs := #[.tmp 68, .tmp 74]) rfl ?_); at_builtin; refine Kd.R_append (Kd.int .i64) (w0 := w) w.heap.size rfl (.tmp 68) (.tmp 74) 34 3 (.int .i64 0) 8 rfl Tryz.underlying34 info3 rfl (by decide) (by omega) u11 (((CR.take i).filter fun x => !kb x).map (·.f0)) x.f0 [.int .i64 x.f0] (fun _ => True) (fun _ => False) rfl ?aX rfl (fun _ hk => hk.elim) (fun _ _ => trivial) HOk.out HBk.out (below_size HBk.out) (Nat.le_trans (Nat.mul_le_mul_right 8 (Nat.succ_le_succ HON.out)) (by decide)) ?_; (case aX => first | rfl | (go_simp; done)); intro v7 w7 ho hb hg hat; have HN7 := Aside0.mk ho; have HB7 := Aside0.mk hb; have HT7 := Aside0.mk (blk_grown HTk.out hg (Kd.R_ne HOk.out HTk.out (by decide))); have HP7 := Aside0.mk (blk_grown HPk.out hg (Kd.R_ne HOk.out HPk.out (by decide))); have HL7 := Aside0.mk (rlinks_stay HLk.out HOk.out hg); have HM7 := Aside0.mk (two_stay HTW.out.symm HIk.out hg); have HW7 := Aside0.mk (TwoB.step HTW.out.symm HIk.out hat).symm; clear ho hb hg hat)
       go_roundg (CR.length - (i + 1))
       case measure => omega
       case rel => exact ⟨i + 1, by go_num, by omega, by omega, HB7, HT7, HP7, ⟨by rw [HNX.out]; exact HM7.out⟩, ⟨by rw [HNY.out]; exact HN7.out⟩, HW7, HL7⟩
     ·have hltz : decide ((i : Int) < (CR.length : Int)) = false := decide_eq_false (by omega)
      rw [List.take_of_length_le (by omega)] at HI HO
      go_wp2
      refine bodyPost_ret (results_tmp2 rfl _ _ _) rfl ?_
      exact ⟨_, _, rfl, HI.out, HO.out, HBr.out⟩
 ·have HN := Aside0.mk (show keepV a b d e (l.map toL) live next = [] ∧ dropsV a b d e (l.map toL) live next = [] by unfold keepV dropsV; rw [if_neg hbad, if_neg hbad]; exact ⟨rfl, rfl⟩)
  obtain ⟨K, hK⟩ : ∃ K, K = keepV a b d e (l.map toL) live next := ⟨_, rfl⟩
  obtain ⟨D, hD⟩ : ∃ D, D = dropsV a b d e (l.map toL) live next := ⟨_, rfl⟩
  rw [← hK, ← hD] at HN ⊢
  clear hK hD
  cases hp : rightP a b d e with
  | false =>
   rw [hp] at HP
   generalize rightT (l.map toL) live next = rt at HR
   clear hr hc hs htm hp hbad
   go_enter Tryz.func42, Tryz.ntmps42
   go_wp2_with (first
   | ((with_reducible refine gate_dst (N := 2) rfl ?_); refine box_event ?hg (N := 2) ?hd (cs := #[.int .i64 a, .int .i64 b, .int .i64 d, .int .i64 e]) (t := 37) ?hr ?_; (case hd => rfl); (case hg => rfl); (case hr => first | (go_simp; done) | (go_simp; rfl)); intro g2 hg2 wb2 hbox hb; have HB2 := Aside0.mk (below_step HB.out hb); have BK2 := Aside0.mk hbox; have HG2 := Aside0.mk (show w.heap.size ≤ g2 by rw [hg2]; exact below_size HB.out); clear hg2 hb hbox; have hb2_0 := blk_cell BK2.out 0; have hb2_1 := blk_cell BK2.out 1; have hb2_2 := blk_cell BK2.out 2; have hb2_3 := blk_cell BK2.out 3)
   | ((with_reducible refine gate_dst (N := 3) rfl ?_); refine box_event ?hg (N := 3) ?hd (cs := #[.slice A l.length c, .int .i64 live, .int .i64 next, .int .u64 now]) (t := 41) ?hr ?_; (case hd => rfl); (case hg => rfl); (case hr => first | (go_simp; done) | (go_simp; rfl)); intro g3 hg3 wb3 hbox hb; have HB3 := Aside0.mk (below_step HB2.out hb); have BK3 := Aside0.mk hbox; have HG3 := Aside0.mk (show w.heap.size ≤ g3 by rw [hg3]; exact below_size HB2.out); have BP3 := Aside0.mk (blk_below BK2.out hb); clear hg3 hb hbox; have hb3_0 := blk_cell BK3.out 0; have hb3_1 := blk_cell BK3.out 1; have hb3_2 := blk_cell BK3.out 2; have hb3_3 := blk_cell BK3.out 3; have hp0 := blk_cell BP3.out 0; have hp1 := blk_cell BP3.out 1; have hp2 := blk_cell BP3.out 2; have hp3 := blk_cell BP3.out 3)
   | (go_at_call 30; go_loud (refine (HP.out _ HB3.out).mono ?_; rintro ex w4 ⟨rfl, q1, q2⟩; have HB4 := Aside0.mk q1; have BT4 := Aside0.mk (blk_below BK3.out q2); have BP4 := Aside0.mk (blk_below BP3.out q2); clear q1 q2 hb2_0 hb2_1 hb2_2 hb2_3 hb3_0 hb3_1 hb3_2 hb3_3 hp0 hp1 hp2 hp3; have ht0 := blk_cell BT4.out 0; have ht1 := blk_cell BT4.out 1; have ht2 := blk_cell BT4.out 2; have ht3 := blk_cell BT4.out 3))
   | (go_at_call 67; go_loud (refine (HR.out _ HB4.out).mono ?_; rintro ex w5 ⟨rfl, q1, q2⟩; have HB5 := Aside0.mk q1; have BT5 := Aside0.mk (blk_below BT4.out q2); have BP5 := Aside0.mk (blk_below BP4.out q2); clear q1 q2 ht0 ht1 ht2 ht3; have hv0 := blk_cell BT5.out 0)))
   refine bodyPost_ret (results_tmp2 rfl _ _ _) rfl ?_
   exact ⟨_, _, rfl, by rw [HN.out.1]; exact Kd.R_nil _ _ _ _ _, by rw [HN.out.2]; exact Kd.R_nil _ _ _ _ _, HB5.out⟩
  | true =>
   have hrt : rightT (l.map toL) live next = false := by
    cases h : rightT (l.map toL) live next with
    | false => rfl
    | true => exact absurd ⟨hp, h⟩ hbad
   rw [hp] at HP
   rw [hrt] at HR
   clear hr hc hs htm hp hbad hrt
   go_enter Tryz.func42, Tryz.ntmps42
   go_wp2_with (first
   | ((with_reducible refine gate_dst (N := 2) rfl ?_); refine box_event ?hg (N := 2) ?hd (cs := #[.int .i64 a, .int .i64 b, .int .i64 d, .int .i64 e]) (t := 37) ?hr ?_; (case hd => rfl); (case hg => rfl); (case hr => first | (go_simp; done) | (go_simp; rfl)); intro g2 hg2 wb2 hbox hb; have HB2 := Aside0.mk (below_step HB.out hb); have BK2 := Aside0.mk hbox; have HG2 := Aside0.mk (show w.heap.size ≤ g2 by rw [hg2]; exact below_size HB.out); clear hg2 hb hbox; have hb2_0 := blk_cell BK2.out 0; have hb2_1 := blk_cell BK2.out 1; have hb2_2 := blk_cell BK2.out 2; have hb2_3 := blk_cell BK2.out 3)
   | ((with_reducible refine gate_dst (N := 3) rfl ?_); refine box_event ?hg (N := 3) ?hd (cs := #[.slice A l.length c, .int .i64 live, .int .i64 next, .int .u64 now]) (t := 41) ?hr ?_; (case hd => rfl); (case hg => rfl); (case hr => first | (go_simp; done) | (go_simp; rfl)); intro g3 hg3 wb3 hbox hb; have HB3 := Aside0.mk (below_step HB2.out hb); have BK3 := Aside0.mk hbox; have HG3 := Aside0.mk (show w.heap.size ≤ g3 by rw [hg3]; exact below_size HB2.out); have BP3 := Aside0.mk (blk_below BK2.out hb); clear hg3 hb hbox; have hb3_0 := blk_cell BK3.out 0; have hb3_1 := blk_cell BK3.out 1; have hb3_2 := blk_cell BK3.out 2; have hb3_3 := blk_cell BK3.out 3; have hp0 := blk_cell BP3.out 0; have hp1 := blk_cell BP3.out 1; have hp2 := blk_cell BP3.out 2; have hp3 := blk_cell BP3.out 3)
   | (go_at_call 30; go_loud (refine (HP.out _ HB3.out).mono ?_; rintro ex w4 ⟨rfl, q1, q2⟩; have HB4 := Aside0.mk q1; have BT4 := Aside0.mk (blk_below BK3.out q2); have BP4 := Aside0.mk (blk_below BP3.out q2); clear q1 q2 hb2_0 hb2_1 hb2_2 hb2_3 hb3_0 hb3_1 hb3_2 hb3_3 hp0 hp1 hp2 hp3; have ht0 := blk_cell BT4.out 0; have ht1 := blk_cell BT4.out 1; have ht2 := blk_cell BT4.out 2; have ht3 := blk_cell BT4.out 3))
   | (go_at_call 67; go_loud (refine (HR.out _ HB4.out).mono ?_; rintro ex w5 ⟨rfl, q1, q2⟩; have HB5 := Aside0.mk q1; have BT5 := Aside0.mk (blk_below BT4.out q2); have BP5 := Aside0.mk (blk_below BP4.out q2); clear q1 q2 ht0 ht1 ht2 ht3; have hv0 := blk_cell BT5.out 0)))
   refine bodyPost_ret (results_tmp2 rfl _ _ _) rfl ?_
   exact ⟨_, _, rfl, by rw [HN.out.1]; exact Kd.R_nil _ _ _ _ _, by rw [HN.out.2]; exact Kd.R_nil _ _ _ _ _, HB5.out⟩
end Go.Proofs.YtfdlbnfjohpdlaaGreatDoor.PPo
namespace Go.Proofs.YtfdlbnfjohpdlaaGreatDoor.PPo
open Go.RowKit Go.Proofs.YtfdlbnfjohpdlaaGreatDoor.Th Go.Proofs.YtfdlbnfjohpdlaaGreatDoorW.PrintWords Go.Proofs.YtfdlbnfjohpdlaaGreatDoorW.PrintLast Go.Proofs.YtfdlbnfjohpdlaaGreatDoorW.PrintMore
attribute [local go_sem] max2_int min2_int max_two min_two max_three min_three max_four min_four
set_option linter.unusedVariables false
set_option linter.unusedSimpArgs false
set_option maxHeartbeats 4000000 in
set_option maxRecDepth 100000 in
theorem refKeep.calls (a b d e : Int) (A : Option Addr) (c : Nat) (l : List Lr) (live next now : Int) (w : World) (hr : Kd.C k81 w A l.length l) (hc : l.length ≤ c) (hs : ∀ x ∈ l, x.f2.size ≤ 4611686018427387900) (htm : ∀ x ∈ l, Tm (toL x)) :
  Calls Tryz.prog 14 #[.agg #[.int .i64 a, .int .i64 b, .int .i64 d, .int .i64 e], .agg #[.slice A l.length c, .int .i64 live, .int .i64 next, .int .u64 now]] w fun ex w' => ∃ v, ex = .returned v ∧ Kd.R (Kd.int .i64) 3 w' w.heap.size (fun _ => True) v (keepV a b d e (l.map toL) live next) ∧ Below w.heap.size w w' := by
 have hu := Tryz.underlying41
 have hup := Tryz.underlying37
 have HB := Aside0.mk (Below.refl w.heap.size w)
 have HP := Aside0.mk (show ∀ W, Below w.heap.size w W → Calls Tryz.prog 42 #[.agg #[.int .i64 a, .int .i64 b, .int .i64 d, .int .i64 e], .agg #[.slice A l.length c, .int .i64 live, .int .i64 next, .int .u64 now]] W fun ex w' => ∃ v1 v2, ex = .returned (.tuple #[v1, v2]) ∧ Kd.R (Kd.int .i64) 3 w' w.heap.size (fun _ => True) v1 (keepV a b d e (l.map toL) live next) ∧ Kd.R (Kd.int .i64) 3 w' w.heap.size (fun _ => True) v2 (dropsV a b d e (l.map toL) live next) ∧ Below w.heap.size w w' from fun W hW =>
  (partedR.calls a b d e A c l live next now W (Kd.C_below hr hW) hc hs htm).mono fun ex w' ⟨v1, v2, q0, q1, q2, q3⟩ => ⟨v1, v2, q0, Kd.R_lower q1 (below_size hW), Kd.R_lower q2 (below_size hW), hW.trans (q3.mono (below_size hW))⟩)
 generalize keepV a b d e (l.map toL) live next = K at HP ⊢
 generalize dropsV a b d e (l.map toL) live next = D at HP ⊢
 clear hr hc hs htm
 go_enter Tryz.func14, Tryz.ntmps14
 go_wp2_with (first
  | ((with_reducible refine gate_dst (N := 2) rfl ?_); refine box_event ?hg (N := 2) ?hd (cs := #[.int .i64 a, .int .i64 b, .int .i64 d, .int .i64 e]) (t := 37) ?hr ?_; (case hd => rfl); (case hg => rfl); (case hr => first | (go_simp; done) | (go_simp; rfl)); intro g2 hg2 wb2 hbox hb; have HB2 := Aside0.mk (below_step HB.out hb); have BK2 := Aside0.mk hbox; have HG2 := Aside0.mk (show w.heap.size ≤ g2 by rw [hg2]; exact below_size HB.out); clear hg2 hb hbox; have hb2_0 := blk_cell BK2.out 0; have hb2_1 := blk_cell BK2.out 1; have hb2_2 := blk_cell BK2.out 2; have hb2_3 := blk_cell BK2.out 3)
  | ((with_reducible refine gate_dst (N := 3) rfl ?_); refine box_event ?hg (N := 3) ?hd (cs := #[.slice A l.length c, .int .i64 live, .int .i64 next, .int .u64 now]) (t := 41) ?hr ?_; (case hd => rfl); (case hg => rfl); (case hr => first | (go_simp; done) | (go_simp; rfl)); intro g3 hg3 wb3 hbox hb; have HB3 := Aside0.mk (below_step HB2.out hb); have BK3 := Aside0.mk hbox; have HG3 := Aside0.mk (show w.heap.size ≤ g3 by rw [hg3]; exact below_size HB2.out); have BP3 := Aside0.mk (blk_below BK2.out hb); clear hg3 hb hbox; have hb3_0 := blk_cell BK3.out 0; have hb3_1 := blk_cell BK3.out 1; have hb3_2 := blk_cell BK3.out 2; have hb3_3 := blk_cell BK3.out 3; have hp0 := blk_cell BP3.out 0; have hp1 := blk_cell BP3.out 1; have hp2 := blk_cell BP3.out 2; have hp3 := blk_cell BP3.out 3)
  | (go_at_call 42; go_loud (refine (HP.out _ HB3.out).mono ?_; rintro ex w4 ⟨v1, v2, rfl, q1, q2, q3⟩; have HV := Aside0.mk q1; have HB4 := Aside0.mk q3; clear q1 q2 q3)))
 go_ret
 exact ⟨_, rfl, HV.out, HB4.out⟩
set_option maxHeartbeats 4000000 in
set_option maxRecDepth 100000 in
theorem refDrops.calls (a b d e : Int) (A : Option Addr) (c : Nat) (l : List Lr) (live next now : Int) (w : World) (hr : Kd.C k81 w A l.length l) (hc : l.length ≤ c) (hs : ∀ x ∈ l, x.f2.size ≤ 4611686018427387900) (htm : ∀ x ∈ l, Tm (toL x)) :
  Calls Tryz.prog 18 #[.agg #[.int .i64 a, .int .i64 b, .int .i64 d, .int .i64 e], .agg #[.slice A l.length c, .int .i64 live, .int .i64 next, .int .u64 now]] w fun ex w' => ∃ v, ex = .returned v ∧ Kd.R (Kd.int .i64) 3 w' w.heap.size (fun _ => True) v (dropsV a b d e (l.map toL) live next) ∧ Below w.heap.size w w' := by
 have hu := Tryz.underlying41
 have hup := Tryz.underlying37
 have HB := Aside0.mk (Below.refl w.heap.size w)
 have HP := Aside0.mk (show ∀ W, Below w.heap.size w W → Calls Tryz.prog 42 #[.agg #[.int .i64 a, .int .i64 b, .int .i64 d, .int .i64 e], .agg #[.slice A l.length c, .int .i64 live, .int .i64 next, .int .u64 now]] W fun ex w' => ∃ v1 v2, ex = .returned (.tuple #[v1, v2]) ∧ Kd.R (Kd.int .i64) 3 w' w.heap.size (fun _ => True) v1 (keepV a b d e (l.map toL) live next) ∧ Kd.R (Kd.int .i64) 3 w' w.heap.size (fun _ => True) v2 (dropsV a b d e (l.map toL) live next) ∧ Below w.heap.size w w' from fun W hW =>
  (partedR.calls a b d e A c l live next now W (Kd.C_below hr hW) hc hs htm).mono fun ex w' ⟨v1, v2, q0, q1, q2, q3⟩ => ⟨v1, v2, q0, Kd.R_lower q1 (below_size hW), Kd.R_lower q2 (below_size hW), hW.trans (q3.mono (below_size hW))⟩)
 generalize keepV a b d e (l.map toL) live next = K at HP ⊢
 generalize dropsV a b d e (l.map toL) live next = D at HP ⊢
 clear hr hc hs htm
 go_enter Tryz.func18, Tryz.ntmps18
 go_wp2_with (first
  | ((with_reducible refine gate_dst (N := 2) rfl ?_); refine box_event ?hg (N := 2) ?hd (cs := #[.int .i64 a, .int .i64 b, .int .i64 d, .int .i64 e]) (t := 37) ?hr ?_; (case hd => rfl); (case hg => rfl); (case hr => first | (go_simp; done) | (go_simp; rfl)); intro g2 hg2 wb2 hbox hb; have HB2 := Aside0.mk (below_step HB.out hb); have BK2 := Aside0.mk hbox; have HG2 := Aside0.mk (show w.heap.size ≤ g2 by rw [hg2]; exact below_size HB.out); clear hg2 hb hbox; have hb2_0 := blk_cell BK2.out 0; have hb2_1 := blk_cell BK2.out 1; have hb2_2 := blk_cell BK2.out 2; have hb2_3 := blk_cell BK2.out 3)
  | ((with_reducible refine gate_dst (N := 3) rfl ?_); refine box_event ?hg (N := 3) ?hd (cs := #[.slice A l.length c, .int .i64 live, .int .i64 next, .int .u64 now]) (t := 41) ?hr ?_; (case hd => rfl); (case hg => rfl); (case hr => first | (go_simp; done) | (go_simp; rfl)); intro g3 hg3 wb3 hbox hb; have HB3 := Aside0.mk (below_step HB2.out hb); have BK3 := Aside0.mk hbox; have HG3 := Aside0.mk (show w.heap.size ≤ g3 by rw [hg3]; exact below_size HB2.out); have BP3 := Aside0.mk (blk_below BK2.out hb); clear hg3 hb hbox; have hb3_0 := blk_cell BK3.out 0; have hb3_1 := blk_cell BK3.out 1; have hb3_2 := blk_cell BK3.out 2; have hb3_3 := blk_cell BK3.out 3; have hp0 := blk_cell BP3.out 0; have hp1 := blk_cell BP3.out 1; have hp2 := blk_cell BP3.out 2; have hp3 := blk_cell BP3.out 3)
  | (go_at_call 42; go_loud (refine (HP.out _ HB3.out).mono ?_; rintro ex w4 ⟨v1, v2, rfl, q1, q2, q3⟩; have HV := Aside0.mk q2; have HB4 := Aside0.mk q3; clear q1 q2 q3)))
 go_ret
 exact ⟨_, rfl, HV.out, HB4.out⟩
end Go.Proofs.YtfdlbnfjohpdlaaGreatDoor.PPo
namespace Go.Proofs.YtfdlbnfjohpdlaaGreatDoor.Th
open Go.RowKit Go.Lib Go.Proofs.YtfdlbnfjohpdlaaGreatDoor.PPo Go.Proofs.YtfdlbnfjohpdlaaGreatDoorW.PrintWords
set_option linter.unusedVariables false
abbrev Nd := S68
def TmN (x : Nd) : Prop := 0 ≤ x.f0 ∧ x.f0 < 18446744073709551616
/-- Links that are no great ones. -/
def Small (l : List Lk) : Prop := ∀ x ∈ l, x.f2.size ≤ 120 ∧ Tm x
theorem rdN_get (l : List Nd) (i : Nat) (h : i < l.length) : rd_T68 l (i : Int) = l[i] := by simp [rd_T68, List.getD_eq_getElem?_getD, h]
theorem grown_ev (l : List Nd) (live : Int) (ht : ∀ x ∈ l, TmN x) : ∃ lu lv nx nw, Evt (fun k => rootcellarlaw16_grown.f k l live) (lu, lv, nx, nw) ∧ lu.length ≤ 51 ∧ Small lu := by
 have key : ∀ (m i : Nat) (acc : List Lk) (nx : Int), i + m = min l.length 50 → acc.length ≤ i + 1 → Small acc → ∃ lu lv nx' nw, Evt (fun k => rootcellarlaw16_grown.l0 k l live (i : Int) acc 1 nx 0) (lu, lv, nx', nw) ∧ lu.length ≤ 51 ∧ Small lu := by
  intro m
  induction m with
  | zero =>
   intro i acc nx hi hl hs
   refine ⟨acc, wrap64 (1 + (mx 0 (mn live (wrap64 ((acc.length : Int) - 1))))), nx, 0, Evt.step (fun k => by rw [rootcellarlaw16_grown.l0]) ?_, by omega, hs⟩
   by_cases h1 : (i : Int) < (l.length : Int)
   ·refine Evt.pos h1 (Evt.neg (by omega) (Evt.val _))
   ·exact Evt.neg h1 (Evt.val _)
  | succ m ih =>
   intro i acc nx hi hl hs
   have hil : i < l.length := by omega
   have hx := ht l[i] (List.getElem_mem hil)
   obtain ⟨lu, lv, nx', nw, h1, h2, h3⟩ := ih (i + 1) (acc ++ [(⟨wrap64 ((i : Int) + 2), wrap64 (1 + (mx 0 (mn ((rd_T68 l (i : Int)).f2) (i : Int)))), (⟨#[110]⟩ : ByteArray), (rd_T68 l (i : Int)).f0, false, (rd_T68 l (i : Int)).f1⟩ : Lk)]) (wrap64 ((i : Int) + 3)) (by omega) (by rw [List.length_append]; simp; omega) (fun x hx' => by
    rcases List.mem_append.1 hx' with h | h
    ·exact hs x h
    ·obtain rfl := List.mem_singleton.1 h
     rw [rdN_get l i hil]
     exact ⟨show (⟨#[110]⟩ : ByteArray).size ≤ 120 by decide, hx⟩)
   refine ⟨lu, lv, nx', nw, Evt.step (fun k => by rw [rootcellarlaw16_grown.l0]) ?_, h2, h3⟩
   refine Evt.pos (by omega) (Evt.pos (by omega) (Evt.pos (by omega) (Evt.pos (by omega) ?_)))
   rw [idxP i (by omega)]
   exact h1
 unfold rootcellarlaw16_grown.f
 exact key (min l.length 50) 0 _ 2 (by omega) (by simp) (fun x hx => by
  obtain rfl := List.mem_singleton.1 hx
  exact ⟨by decide, by unfold Tm; decide⟩)
def nodes4 : List Nd := [⟨432000, false, 0⟩, ⟨432001, false, 0⟩, ⟨604800, false, 0⟩, ⟨777600, false, 0⟩]
def links5 : List Lk := [⟨1, 0, ⟨#[114, 111, 111, 116]⟩, 0, false, false⟩, ⟨2, 1, ⟨#[110]⟩, 432000, false, false⟩, ⟨3, 1, ⟨#[110]⟩, 432001, false, false⟩, ⟨4, 1, ⟨#[110]⟩, 604800, false, false⟩, ⟨5, 1, ⟨#[110]⟩, 777600, false, false⟩]
theorem grown4 : rootcellarlaw16_grown.f 9 nodes4 0 = some (links5, 1, 6, 0) := by kernel_rfl
theorem keep4 : keepV 2 0 0 0 links5 1 6 = [1, 4, 5] := by decide +kernel
theorem drops4 : dropsV 2 0 0 0 links5 1 6 = [2, 3] := by decide +kernel
end Go.Proofs.YtfdlbnfjohpdlaaGreatDoor.Th
namespace Go.Proofs.YtfdlbnfjohpdlaaGreatDoor.PPo
open Go.RowKit Go.Proofs.YtfdlbnfjohpdlaaGreatDoorW.PrintWords Go.Proofs.YtfdlbnfjohpdlaaGreatDoorW.PrintLast Go.Proofs.YtfdlbnfjohpdlaaGreatDoorW.PrintMore
attribute [local go_sem] max2_int min2_int max_two min_two max_three min_three max_four min_four
set_option linter.unusedVariables false
set_option linter.unusedSimpArgs false
/-- The one variable that a split reads: it holds some number. -/
def MaxW (w : World) : Prop := ∃ m : Int, w.cell? ⟨Tryz.laySplit_ren.g 1, 0, none⟩ = some (.int .i64 m)
theorem MaxW.below {w w' : World} (h : MaxW w) (hb : Below w.heap.size w w') : MaxW w' := by
 obtain ⟨m, hm⟩ := h
 exact ⟨m, (hb.cell (World.block_lt_of_cell? w _ hm)).trans hm⟩
theorem strOfNums_bytesOf (s : ByteArray) : strOfNums (bytesOf s) = s := by
 unfold bytesOf
 rw [Lib.Lz.strOfNums_map]
/-- A text without capitals is as it is. -/
def plainS (s : ByteArray) : Prop := ∀ j, j < s.size → ¬ (65 ≤ (bytesOf s).getD j 0 ∧ (bytesOf s).getD j 0 ≤ 90)
set_option maxHeartbeats 2000000 in
set_option maxRecDepth 100000 in
theorem foldId.calls (s : ByteArray) (hs : s.size ≤ 1000) (hp : plainS s) (w : World) : Calls Tryz.prog 49 #[.string s] w fun e w' => e = .returned (.string s) ∧ Below w.heap.size w w' := by
 have kb := print_bytes (P := Tryz.prog) 9 114 5 Tryz.underlying9 Tryz.underlying114 Tryz.underlying5 s w
 have hrd := bytes_reads w 5 s (by omega)
 have HB0 := Aside0.mk (bytes_below (Below.refl w.heap.size w) (Nat.le_refl _) 5 s)
 have hlen := bytesOf_length s
 have HRD := Aside0.mk (show ∀ W, Below (Lib.bytesWorld w 5 s).heap.size (Lib.bytesWorld w 5 s) W → ReadsInt W .u8 (some ⟨w.heap.size, 0, none⟩) s.size (bytesOf s) from fun W hW => ⟨hrd.1, hrd.2.1, fun hp => by
  obtain ⟨ad, e, h⟩ := hrd.2.2 hp
  exact ⟨ad, e, fun j hj => (hW.cell (World.block_lt_of_cell? _ _ (h j hj))).trans (h j hj)⟩⟩)
 have HPL := Aside0.mk hp
 have HST := Aside0.mk (strOfNums_bytesOf s)
 generalize grownCap w s.size 0 5 = cap at kb
 clear hrd hp
 go_enter Tryz.func49, Tryz.ntmps49
 go_wp2
 generalize hwb : Lib.bytesWorld w 5 s = wb at HRD HB0 ⊢
 clear hwb kb
 go_loopg [10] s.size (fun gg s10 wr => ∃ i : Nat, s10 = .int .i64 i ∧ i ≤ s.size ∧ s.size - i ≤ gg ∧ Aside0 (Below wb.heap.size wb wr))
 case atStart => exact ⟨0, rfl, Nat.zero_le _, by omega, ⟨Below.refl _ _⟩⟩
 case round =>
  obtain ⟨i, rfl, hi, hg, HBr⟩ := hrel
  by_cases hlt : i < s.size
  ·have hltz : decide ((i : Int) < (s.size : Int)) = true := decide_eq_true (by omega)
   have hi0 : (0 : Int) ≤ (i : Int) := by omega
   have hi1 : (i : Int) < (s.size : Int) := by omega
   obtain ⟨ad, e, hcl⟩ := (HRD.out wr HBr.out).2.2 (by omega)
   cases e
   have hx := hcl i hlt
   rw [add_plain] at hx
   have hnot := HPL.out i hlt
   clear hcl
   generalize (bytesOf s).getD i 0 = x at hx hnot
   have hz0 : (⟨w.heap.size, 0, none⟩ : Addr).add i = ⟨w.heap.size, i, none⟩ := add_plain _ _
   cases h65 : decide (65 ≤ x) with
   | false =>
    clear hnot
    go_wp2
    go_roundg (s.size - (i + 1))
    case measure => omega
    case rel => exact ⟨i + 1, by go_num, by omega, by omega, HBr⟩
   | true =>
    have h90 : decide (x ≤ 90) = false := decide_eq_false (fun h => hnot ⟨of_decide_eq_true h65, h⟩)
    clear hnot
    go_wp2
    go_roundg (s.size - (i + 1))
    case measure => omega
    case rel => exact ⟨i + 1, by go_num, by omega, by omega, HBr⟩
  ·have hltz : decide ((i : Int) < (s.size : Int)) = false := decide_eq_false (by omega)
   have hcv : (convert 114 9 (.slice (some ⟨w.heap.size, 0, none⟩) s.size cap)).run Tryz.prog wr = .ok (.string s) wr := by
    have h := string_of_reads (P := Tryz.prog) (src := 114) (dst := 9) (e := 5) (c := cap) Tryz.underlying114 Tryz.underlying5 Tryz.underlying9 (HRD.out wr HBr.out)
    rw [HST.out] at h
    exact h
   go_wp2
   go_ret
   exact ⟨rfl, HB0.out.trans (HBr.out.mono (below_size HB0.out))⟩
/-- The first rune of a text. -/
def first1 (s : ByteArray) : ByteArray := s.extract 0 (Utf8.decode s 0).2
set_option maxHeartbeats 2000000 in
set_option maxRecDepth 100000 in
theorem first1.calls (s : ByteArray) (hs : 0 < s.size) (hw : 1 ≤ (Utf8.decode s 0).2 ∧ (Utf8.decode s 0).2 ≤ s.size) (hs2 : s.size ≤ 1000) (w : World) : Calls Tryz.prog 50 #[.string s, .int .i64 1] w fun e w' => e = .returned (.string (first1 s)) ∧ Below w.heap.size w w' := by
 have HF := Aside0.mk (show first1 s = s.extract 0 (Utf8.decode s 0).2 from rfl)
 generalize first1 s = F at HF ⊢
 have hdc : ∃ d, d = (Utf8.decode s 0).2 := ⟨_, rfl⟩
 obtain ⟨d, hd⟩ := hdc
 rw [← hd] at hw HF
 have HD := Aside0.mk hd
 clear hd
 go_enter Tryz.func50, Tryz.ntmps50
 go_wp2
 go_loopw [1] (fun s1 wr => ∃ (pos n : Nat), s1 = .int .i64 n ∧ wr.heap[w.heap.size]? = some (.stringIter s pos) ∧ Aside0 (Below w.heap.size w wr) ∧ ((pos = 0 ∧ n = 1) ∨ (pos = d ∧ n = 0))) (fun _ wr => s.size - wr.iterPos w.heap.size)
 case atStart => exact ⟨0, 1, rfl, World.iter_heap w s 0, ⟨(Below.refl _ w).alloc (Nat.le_refl _) _⟩, .inl ⟨rfl, rfl⟩⟩
 case round =>
  obtain ⟨pos, n, rfl, hit, hbw, hpn⟩ := hrel
  rcases hpn with ⟨rfl, rfl⟩ | ⟨rfl, rfl⟩
  ·have hnx : ∀ ty, (Instr.next (.pointer (some ⟨w.heap.size, 0, none⟩)) true ty).run Tryz.prog wr = _ := fun ty => Lib.run_next_any_at wr w.heap.size s 0 ty hit hs
   have hit2 := Lib.iterAt_heap wr w.heap.size s 0 (0 + (Utf8.decode s 0).2) hit
   have hbw2 := Aside0.mk (Lib.below_iterAt hbw.out (k := w.heap.size) (Nat.le_refl _) s (0 + (Utf8.decode s 0).2))
   rw [Nat.zero_add] at hit2 hbw2
   have HI2 := Aside0.mk hit2
   go_wp2
   go_roundw
   case rel => exact ⟨d, 0, by first | rfl | go_num, by rw [HD.out]; exact HI2.out, hbw2, .inr ⟨rfl, rfl⟩⟩
   case measure =>
    have h2 := HI2.out
    have h3 := HD.out
    simp only [World.iterPos, h2, hit]
    omega
  ·by_cases hp : pos < s.size
   ·have hnx : ∀ ty, (Instr.next (.pointer (some ⟨w.heap.size, 0, none⟩)) true ty).run Tryz.prog wr = _ := fun ty => Lib.run_next_any_at wr w.heap.size s pos ty hit hp
    have hbw2 := Aside0.mk (Lib.below_iterAt hbw.out (k := w.heap.size) (Nat.le_refl _) s (pos + (Utf8.decode s pos).2))
    have hpi : (pos : Int) ≤ (s.size : Int) := by omega
    go_wp2
    go_ret
    exact ⟨by rw [HF.out]; rfl, hbw2.out⟩
   ·have hnx : ∀ ty, (Instr.next (.pointer (some ⟨w.heap.size, 0, none⟩)) true ty).run Tryz.prog wr = _ := fun ty => Lib.run_next_end_at wr w.heap.size s pos ty hit hp
    have hps : pos = s.size := by omega
    have HE := Aside0.mk (show F = s by rw [HF.out, hps]; exact ByteArray.extract_zero_size)
    go_wp2
    go_ret
    exact ⟨by rw [HE.out]; rfl, hbw.out⟩
theorem itoa2 : (⟨(Lib.decDigits 2).toArray⟩ : ByteArray) = ⟨#[50]⟩ := by simp [Lib.decDigits]
set_option maxHeartbeats 2000000 in
set_option maxRecDepth 100000 in
theorem count2.calls (w : World) : Calls Tryz.prog 52 #[.string ⟨#[50]⟩] w fun e w' => e = .returned (.tuple #[.int .i64 2, .bool true]) ∧ Below w.heap.size w w' := by
 have HIT := Aside0.mk (show ∀ W, Calls Tryz.prog 58 #[.int .i64 2] W fun e w' => e = .returned (.string ⟨#[50]⟩) ∧ w' = W from fun W => by
  have h := Any.strconv_Itoa_small { Tryz.layItoa with } 2 (by decide) W
  rw [itoa2] at h
  exact h)
 obtain ⟨s, hs⟩ : ∃ s : ByteArray, s = ⟨#[50]⟩ := ⟨_, rfl⟩
 rw [← hs] at HIT ⊢
 have hsz : s.size = 1 := by rw [hs]; rfl
 have hdc : Utf8.decode s 0 = (50, 1) := by rw [hs]; rfl
 clear hs
 go_enter Tryz.func52, Tryz.ntmps52
 go_wp2
 go_loopw [4] (fun s4 wr => ∃ (pos n : Nat), s4 = .int .i64 n ∧ wr.heap[w.heap.size]? = some (.stringIter s pos) ∧ Aside0 (Below w.heap.size w wr) ∧ ((pos = 0 ∧ n = 0) ∨ (pos = 1 ∧ n = 2))) (fun _ wr => s.size - wr.iterPos w.heap.size)
 case atStart => exact ⟨0, 0, rfl, World.iter_heap w s 0, ⟨(Below.refl _ w).alloc (Nat.le_refl _) _⟩, .inl ⟨rfl, rfl⟩⟩
 case round =>
  obtain ⟨pos, n, rfl, hit, hbw, hpn⟩ := hrel
  rcases hpn with ⟨rfl, rfl⟩ | ⟨rfl, rfl⟩
  ·have hnx0 : ∀ ty, (Instr.next (.pointer (some ⟨w.heap.size, 0, none⟩)) true ty).run Tryz.prog wr = _ := fun ty => Lib.run_next_any_at wr w.heap.size s 0 ty hit (by omega)
   have hit2 := Lib.iterAt_heap wr w.heap.size s 0 (0 + (Utf8.decode s 0).2) hit
   have hbw2 := Aside0.mk (Lib.below_iterAt hbw.out (k := w.heap.size) (Nat.le_refl _) s (0 + (Utf8.decode s 0).2))
   have hnx := hnx0
   clear hnx0
   simp only [hdc, Nat.zero_add] at hnx hit2 hbw2
   have HI2 := Aside0.mk hit2
   go_wp2
   go_roundw
   case rel => exact ⟨1, 2, by first | rfl | go_num, HI2.out, hbw2, .inr ⟨rfl, rfl⟩⟩
   case measure =>
    have h2 := HI2.out
    simp only [World.iterPos, h2, hit]
    omega
  ·have hnx : ∀ ty, (Instr.next (.pointer (some ⟨w.heap.size, 0, none⟩)) true ty).run Tryz.prog wr = _ := fun ty => Lib.run_next_end_at wr w.heap.size s 1 ty hit (by omega)
   go_wp2_with (go_at_call 58; go_loud (refine (HIT.out _).mono ?_; rintro e w2 ⟨rfl, rfl⟩))
   refine bodyPost_ret (results_tmp2 rfl _ _ _) rfl ?_
   exact ⟨by simp, hbw.out⟩
end Go.Proofs.YtfdlbnfjohpdlaaGreatDoor.PPo
namespace Go.Proofs.YtfdlbnfjohpdlaaGreatDoor.PPo
open Go.RowKit Go.Proofs.YtfdlbnfjohpdlaaGreatDoorW.PrintWords Go.Proofs.YtfdlbnfjohpdlaaGreatDoorW.PrintLast Go.Proofs.YtfdlbnfjohpdlaaGreatDoorW.PrintMore
attribute [local go_sem] max2_int min2_int max_two min_two max_three min_three max_four min_four
set_option linter.unusedVariables false
set_option linter.unusedSimpArgs false
theorem cnt_d2 : Lib.countB ⟨#[100, 50]⟩ ⟨#[32]⟩ = 0 := by decide +kernel
theorem spl_d2 : Lib.splitB ⟨#[32]⟩ 0 0 ⟨#[100, 50]⟩ = [⟨#[100, 50]⟩] := by decide +kernel
theorem fst_d2 : first1 ⟨#[100, 50]⟩ = ⟨#[100]⟩ := by decide +kernel
theorem dec_d2 : (Utf8.decode ⟨#[100, 50]⟩ 0).2 = 1 := by decide +kernel
theorem idx_d : Lib.indexByte [100, 119, 109, 121] 100 = 0 := by decide +kernel
theorem idx_0 : decide (0 ≤ Lib.indexByte [] 100) = false := by decide +kernel
theorem trm_d2 : strings_TrimPrefix.f ⟨#[100, 50]⟩ ⟨#[100]⟩ = some ⟨#[50]⟩ := by decide +kernel
set_option maxHeartbeats 4000000 in
set_option maxRecDepth 100000 in
theorem parse2.calls (w : World) (hm : MaxW w) : Calls Tryz.prog 28 #[.string ⟨#[100, 50]⟩] w fun e w' => e = .returned (.tuple #[.agg #[.int .i64 2, .int .i64 0, .int .i64 0, .int .i64 0], .int .i64 0]) ∧ Below w.heap.size w w' := by
 have hu := Tryz.underlying23
 have hu2 := Tryz.underlying74
 have HB := Aside0.mk (Below.refl w.heap.size w)
 have HSP := Aside0.mk (show ∀ W, Below w.heap.size w W → Calls Tryz.prog 48 #[.string ⟨#[100, 50]⟩, .string ⟨#[32]⟩] W fun e w' => ∃ g, e = .returned (.slice (some ⟨g, 0, none⟩) 1 1) ∧ w'.heap[g]? = some (.cells #[.string ⟨#[100, 50]⟩] 9 (0, 0)) ∧ Below W.heap.size W w' from fun W hW => by
  obtain ⟨m, hm2⟩ := hm.below hW
  refine (Any.strings_Split { Tryz.laySplit with } Tryz.laySplit.i9 ⟨#[100, 50]⟩ ⟨#[32]⟩ m W (by decide) hm2 (by decide)).mono ?_
  rw [cnt_d2, spl_d2]
  rintro e w' ⟨rfl, rfl⟩
  exact ⟨_, rfl, blk_new W _, below_alloc (Below.refl _ _) _⟩)
 have HF1 := Aside0.mk (fun W => first1.calls ⟨#[100, 50]⟩ (by decide) (by rw [dec_d2]; decide) (by decide) W)
 rw [fst_d2] at HF1
 have HFA := Aside0.mk (fun W => foldId.calls ⟨#[100]⟩ (by decide) (by unfold plainS; decide +kernel) W)
 have HFB := Aside0.mk (fun W => foldId.calls ⟨#[100, 50]⟩ (by decide) (by unfold plainS; decide +kernel) W)
 have HIX := Aside0.mk (show ∀ W, Calls Tryz.prog 51 #[.string ⟨#[100, 119, 109, 121]⟩, .string ⟨#[100]⟩] W fun e w' => e = .returned (.int .i64 0) ∧ w' = W from fun W => (Any.strings_Index_one { Tryz.layIndex with } ⟨#[100, 119, 109, 121]⟩ 100 W).mono fun e w' q => ⟨by rw [q.1]; exact congrArg (fun z => Ending.returned (.int .i64 z)) idx_d, q.2⟩)
 have HCT := Aside0.mk (show ∀ W, Calls Tryz.prog 54 #[.string ⟨#[]⟩, .string ⟨#[100]⟩] W fun e w' => e = .returned (.bool false) ∧ w' = W from fun W => (Any.strings_Contains_one { Tryz.layContains with } ⟨#[]⟩ 100 W).mono fun e w' q => ⟨by rw [q.1]; exact congrArg (fun z => Ending.returned (.bool z)) idx_0, q.2⟩)
 have HTP := Aside0.mk (fun W => strings_TrimPrefix.calls _ _ _ W trm_d2)
 have HC2 := Aside0.mk (fun W => count2.calls W)
 go_enter Tryz.func28, Tryz.ntmps28
 go_wp2_with (first
  | ((with_reducible refine gate_dst (N := 2) rfl ?_); refine box_event ?hg (N := 2) ?hd (cs := #[.int .i64 0, .int .i64 0, .int .i64 0, .int .i64 0]) (t := 23) ?hr ?_; (case hd => rfl); (case hg => rfl); (case hr => first | (go_simp; done) | (go_simp; rfl)); intro g2 hg2 wb2 hbox hb; have HB2 := Aside0.mk (below_step HB.out hb); have BK2 := Aside0.mk hbox; have HG2 := Aside0.mk (show w.heap.size ≤ g2 by rw [hg2]; exact below_size HB.out); clear hg2 hb hbox; have hb2_0 := blk_cell BK2.out 0; have hb2_1 := blk_cell BK2.out 1; have hb2_2 := blk_cell BK2.out 2; have hb2_3 := blk_cell BK2.out 3)
  | ((with_reducible refine gate_dst (N := 4) rfl ?_); refine box_event ?hg (N := 4) ?hd (cs := #[.int .i64 0, .int .i64 0, .int .i64 0, .int .i64 0]) (t := 74) ?hr ?_; (case hd => rfl); (case hg => rfl); (case hr => first | (go_simp; done) | (go_simp; rfl)); intro g4 hg4 wb4 hbox hb; have HB4 := Aside0.mk (below_step HB2.out hb); have BK4 := Aside0.mk hbox; have HG4 := Aside0.mk (show w.heap.size ≤ g4 by rw [hg4]; exact below_size HB2.out); have BP4 := Aside0.mk (blk_below BK2.out hb); clear hg4 hb hbox; have hb4_0 := blk_cell BK4.out 0; have hb4_1 := blk_cell BK4.out 1; have hb4_2 := blk_cell BK4.out 2; have hb4_3 := blk_cell BK4.out 3)
  | (go_at_call 48; go_loud (refine (HSP.out _ HB4.out).mono ?_; rintro e w5 ⟨g5, rfl, q1, q2⟩; have HB5 := Aside0.mk (below_step HB4.out q2); have HG5 := Aside0.mk q1; have BP5 := Aside0.mk (blk_below BP4.out q2); have BA5 := Aside0.mk (blk_below BK4.out q2); clear q1 q2 hb2_0 hb2_1 hb2_2 hb2_3 hb4_0 hb4_1 hb4_2 hb4_3)))
 go_loopg [5, 15] 1 (fun gg s5 s15 wr => ∃ (i : Nat) (sn : ByteArray) (c0 : Int), s5 = .string sn ∧ s15 = .int .i64 i ∧ i ≤ 1 ∧ 1 - i ≤ gg ∧ ((i = 0 ∧ sn = ⟨#[]⟩ ∧ c0 = 0) ∨ (i = 1 ∧ c0 = 2)) ∧ Aside0 (Below w.heap.size w wr) ∧ Aside0 (wr.heap[g5]? = some (.cells #[.string ⟨#[100, 50]⟩] 9 (0, 0))) ∧ Aside0 (wr.heap[g2]? = some (.cells #[.int .i64 0, .int .i64 0, .int .i64 0, .int .i64 0] 23 (0, 0))) ∧ Aside0 (wr.heap[g4]? = some (.cells #[.int .i64 c0, .int .i64 0, .int .i64 0, .int .i64 0] 74 (0, 0))))
 case atStart => exact ⟨0, ⟨#[]⟩, 0, rfl, rfl, by omega, by omega, .inl ⟨rfl, rfl, rfl⟩, HB5, HG5, BP5, BA5⟩
 case round =>
  obtain ⟨i, sn, c0, rfl, rfl, hi, hg, hst, HBr, HGr, BPr, BAr⟩ := hrel
  rcases hst with ⟨rfl, rfl, rfl⟩ | ⟨rfl, rfl⟩
  ·have hg0 := blk_cell HGr.out 0
   go_wp2_with (first
    | (go_at_call 50; go_loud (refine (HF1.out _).mono ?_; rintro e wa ⟨rfl, q1⟩; have HA := Aside0.mk q1; clear q1))
    | (go_at_call 49; with_reducible refine (HFA.out _).mono ?_; rintro e wb ⟨rfl, q1⟩; have HBB := Aside0.mk (below_step HA.out q1); clear q1)
    | (go_at_call 51; go_loud (refine (HIX.out _).mono ?_; rintro e wi ⟨rfl, rfl⟩))
    | (go_at_call 49; with_reducible refine (HFB.out _).mono ?_; rintro e wc ⟨rfl, q1⟩; have HCC := Aside0.mk (below_step HBB.out q1); clear q1)
    | (go_at_call 53; go_loud (refine (HTP.out _).mono ?_; rintro e wd ⟨rfl, q1⟩; have HDD := Aside0.mk (below_step HCC.out q1.below); clear q1))
    | (go_at_call 52; go_loud (refine (HC2.out _).mono ?_; rintro e we ⟨rfl, q1⟩; have HEE := Aside0.mk (below_step HDD.out q1); have BAe := Aside0.mk (blk_below BAr.out HEE.out); have BPe := Aside0.mk (blk_below BPr.out HEE.out); have HGe := Aside0.mk (blk_below HGr.out HEE.out); clear q1 hg0; have hc0 := blk_cell BAe.out 0; have hf0 := blk_frozen BAe.out 0))
    | (go_at_call 54; go_loud (refine (HCT.out _).mono ?_; rintro e wg ⟨rfl, rfl⟩)))
   go_roundg (1 - (0 + 1))
   case measure => omega
   case rel => exact ⟨1, _, 2, rfl, by first | rfl | go_num, by omega, by omega, .inr ⟨rfl, rfl⟩, ⟨below_set (below_step HBr.out HEE.out) HG4.out⟩, ⟨blk_far HGe.out (p := ⟨g4, 0, none⟩) (blk_ne HGe.out BAe.out (by decide)) _⟩, ⟨blk_far BPe.out (p := ⟨g4, 0, none⟩) (blk_ne BPe.out BAe.out (by decide)) _⟩, ⟨blk_put BAe.out 0 _ rfl⟩⟩
  ·have ha0 := blk_cell BAr.out 0
   have ha1 := blk_cell BAr.out 1
   have ha2 := blk_cell BAr.out 2
   have ha3 := blk_cell BAr.out 3
   have hp0 := blk_cell BPr.out 0
   have hp1 := blk_cell BPr.out 1
   have hp2 := blk_cell BPr.out 2
   have hp3 := blk_cell BPr.out 3
   have hq0 := blk_frozen BPr.out 0
   have hq1 := blk_frozen BPr.out 1
   have hq2 := blk_frozen BPr.out 2
   have hq3 := blk_frozen BPr.out 3
   go_wp2
   refine bodyPost_ret (results_ct rfl _ _ g2 23 #[.int .i64 2, .int .i64 0, .int .i64 0, .int .i64 0] (0, 0) _ rfl (blk_put (cs := #[.int .i64 2, .int .i64 0, .int .i64 0, .int .i64 0]) (blk_put (cs := #[.int .i64 2, .int .i64 0, .int .i64 0, .int .i64 0]) (blk_put (cs := #[.int .i64 2, .int .i64 0, .int .i64 0, .int .i64 0]) (blk_put (cs := #[.int .i64 0, .int .i64 0, .int .i64 0, .int .i64 0]) BPr.out 0 _ rfl) 1 _ rfl) 2 _ rfl) 3 _ rfl) Tryz.underlying23 rfl (by kernel_rfl)) rfl ?_
   exact ⟨rfl, below_set (below_set (below_set (below_set HBr.out HG2.out) HG2.out) HG2.out) HG2.out⟩
end Go.Proofs.YtfdlbnfjohpdlaaGreatDoor.PPo
namespace Go.Proofs.YtfdlbnfjohpdlaaGreatDoor.PPo
open Go.RowKit Go.Proofs.YtfdlbnfjohpdlaaGreatDoor.Th Go.Proofs.YtfdlbnfjohpdlaaGreatDoorW.PrintWords Go.Proofs.YtfdlbnfjohpdlaaGreatDoorW.PrintLast Go.Proofs.YtfdlbnfjohpdlaaGreatDoorW.PrintMore
set_option linter.unusedVariables false
/-- A call gives a row of ints that is read. -/
abbrev givesI (L : List Int) (w : World) (ex : Ending) (w' : World) : Prop := ∃ A c, ex = .returned (.slice A L.length c) ∧ L.length ≤ c ∧ Kd.C (Kd.int .i64) w' A L.length L ∧ Below w.heap.size w w'
theorem givesI_of {L : List Int} {w w' : World} {ex : Ending} (h : ∃ v, ex = .returned v ∧ Kd.R (Kd.int .i64) 3 w' w.heap.size (fun _ => True) v L ∧ Below w.heap.size w w') : givesI L w ex w' := by
 obtain ⟨v, rfl, h1, h2⟩ := h
 obtain ⟨A, c, rfl, h3, h4⟩ := Kd.R_reads h1
 exact ⟨A, c, rfl, h3, h4, h2⟩
theorem small_size {l : List Lk} (h : Small l) : ∀ x ∈ l, x.f2.size ≤ 9223372036854775807 := fun x hx => by have := (h x hx).1; omega
theorem small_R {l : List Lk} (h : Small l) : (∀ x ∈ l.map toR, x.f2.size ≤ 4611686018427387900) ∧ ∀ x ∈ l.map toR, Tm (toL x) := by
 refine ⟨fun x hx => ?_, fun x hx => ?_⟩
 ·obtain ⟨y, hy, rfl⟩ := List.mem_map.1 hx
  have := (h y hy).1
  show y.f2.size ≤ _
  omega
 ·obtain ⟨y, hy, rfl⟩ := List.mem_map.1 hx
  exact (h y hy).2
theorem keepC.calls (a b d e : Int) (A : Option Addr) (c : Nat) (l : List Lk) (live next now : Int) (w : World) (hr : Kd.C k31 w A l.length l) (hc : l.length ≤ c) (hs : Small l) (ht : TabsW w) :
  Calls Tryz.prog 13 #[.agg #[.int .i64 a, .int .i64 b, .int .i64 d, .int .i64 e], .agg #[.slice A l.length c, .int .i64 live, .int .i64 next, .int .u64 now]] w (givesI (keepV a b d e l live next) w) :=
 (keepR.calls a b d e A c l live next now w hr hc (small_size hs) (fun x hx => (hs x hx).2) ht).mono fun ex w' ⟨v, q1, _, q2, q3⟩ => givesI_of ⟨v, q1, q2, q3⟩
theorem dropsC.calls (a b d e : Int) (A : Option Addr) (c : Nat) (l : List Lk) (live next now : Int) (w : World) (hr : Kd.C k31 w A l.length l) (hc : l.length ≤ c) (hs : Small l) (ht : TabsW w) :
  Calls Tryz.prog 17 #[.agg #[.int .i64 a, .int .i64 b, .int .i64 d, .int .i64 e], .agg #[.slice A l.length c, .int .i64 live, .int .i64 next, .int .u64 now]] w (givesI (dropsV a b d e l live next) w) :=
 (dropsR.calls a b d e A c l live next now w hr hc (small_size hs) (fun x hx => (hs x hx).2) ht).mono fun ex w' q => givesI_of q
theorem refKeepC.calls (a b d e : Int) (A : Option Addr) (c : Nat) (l : List Lk) (live next now : Int) (w : World) (hr : Kd.C k81 w A l.length (l.map toR)) (hc : l.length ≤ c) (hs : Small l) :
  Calls Tryz.prog 14 #[.agg #[.int .i64 a, .int .i64 b, .int .i64 d, .int .i64 e], .agg #[.slice A l.length c, .int .i64 live, .int .i64 next, .int .u64 now]] w (givesI (keepV a b d e l live next) w) := by
 have h := refKeep.calls a b d e A c (l.map toR) live next now w (by rw [List.length_map]; exact hr) (by rw [List.length_map]; exact hc) (small_R hs).1 (small_R hs).2
 rw [map_toL_toR, List.length_map] at h
 exact h.mono fun ex w' q => givesI_of q
theorem refDropsC.calls (a b d e : Int) (A : Option Addr) (c : Nat) (l : List Lk) (live next now : Int) (w : World) (hr : Kd.C k81 w A l.length (l.map toR)) (hc : l.length ≤ c) (hs : Small l) :
  Calls Tryz.prog 18 #[.agg #[.int .i64 a, .int .i64 b, .int .i64 d, .int .i64 e], .agg #[.slice A l.length c, .int .i64 live, .int .i64 next, .int .u64 now]] w (givesI (dropsV a b d e l live next) w) := by
 have h := refDrops.calls a b d e A c (l.map toR) live next now w (by rw [List.length_map]; exact hr) (by rw [List.length_map]; exact hc) (small_R hs).1 (small_R hs).2
 rw [map_toL_toR, List.length_map] at h
 exact h.mono fun ex w' q => givesI_of q
theorem asC.calls (A : Option Addr) (c : Nat) (l : List Lk) (live next now : Int) (w : World) (hl : l.length ≤ 1000) (hr : Kd.C k31 w A l.length l) (hc : l.length ≤ c) :
  Calls Tryz.prog 16 #[.agg #[.slice A l.length c, .int .i64 live, .int .i64 next, .int .u64 now]] w fun ex w' => ∃ A' c', ex = .returned (.agg #[.slice A' l.length c', .int .i64 live, .int .i64 next, .int .u64 now]) ∧ l.length ≤ c' ∧ Kd.C k81 w' A' l.length (l.map toR) ∧ Below w.heap.size w w' := by
 obtain ⟨k, hk⟩ := (as_ev l live next now hl).get
 refine (rootcellarlaw16_as.calls k A c l live next now _ _ _ _ w hr hc hk).mono ?_
 rintro ex w' ⟨v, rfl, h1, h2⟩
 obtain ⟨A', c', rfl, h3, h4⟩ := Kd.R_reads h1
 rw [List.length_map] at h3 h4
 exact ⟨A', c', by rw [List.length_map], h3, h4, h2⟩
theorem mustC.calls (a b d e : Int) (w : World) : Calls Tryz.prog 15 #[.agg #[.int .i64 a, .int .i64 b, .int .i64 d, .int .i64 e]] w fun ex w' => ex = .returned (.agg #[.int .i64 a, .int .i64 b, .int .i64 d, .int .i64 e]) ∧ Below w.heap.size w w' := rootcellarlaw16_must.calls a b d e a b d e w rfl
theorem sameC.calls (L : List Int) (A : Option Addr) (c : Nat) (A' : Option Addr) (c' : Nat) (w : World) (hl : L.length ≤ 1000) (hr : Kd.C (Kd.int .i64) w A L.length L) (hc : L.length ≤ c) (hr' : Kd.C (Kd.int .i64) w A' L.length L) (hc' : L.length ≤ c') :
  Calls Tryz.prog 12 #[.slice A L.length c, .slice A' L.length c'] w fun ex w' => ex = .returned (.bool true) ∧ Below w.heap.size w w' := by
 obtain ⟨k, hk⟩ := (same_ev L L hl).get
 rw [decide_eq_true (rfl : L = L)] at hk
 exact (rootcellarlaw16_sameInts.calls k A c L A' c' L true w hr hc hr' hc' hk).mono fun ex w' q => ⟨q.1, q.2.below⟩
theorem keepV_len {a b d e : Int} {l : List Lk} {live next : Int} : (keepV a b d e l live next).length ≤ 61 := by
 by_cases h : keepV a b d e l live next = []
 ·rw [h]; simp
 ·exact (drops_of h).2.2
theorem dropsV_len {a b d e : Int} {l : List Lk} {live next : Int} : (dropsV a b d e l live next).length ≤ 60 := by
 unfold dropsV
 split
 ·rename_i hn
  obtain ⟨_, h60, _⟩ := rightT_iff.1 hn.2
  rw [List.length_map]
  have h1 := List.length_filter_le (fun x => !keptB a b d e live (candV l) x) (candV l)
  have h4 := List.length_filter_le (fun x : Lk => !x.f4) (l.drop 1)
  have h5 : (l.drop 1).length = l.length - 1 := List.length_drop
  have h6 : (candV l).length ≤ l.length := by unfold candV; omega
  omega
 ·simp
end Go.Proofs.YtfdlbnfjohpdlaaGreatDoor.PPo
namespace Go.Proofs.YtfdlbnfjohpdlaaGreatDoor.PPo
open Go.RowKit Go.Proofs.YtfdlbnfjohpdlaaGreatDoor.Th Go.Proofs.YtfdlbnfjohpdlaaGreatDoorW.PrintWords Go.Proofs.YtfdlbnfjohpdlaaGreatDoorW.PrintLast Go.Proofs.YtfdlbnfjohpdlaaGreatDoorW.PrintMore
attribute [local go_sem] max2_int min2_int max_two min_two max_three min_three max_four min_four
set_option linter.unusedVariables false
set_option linter.unusedSimpArgs false
theorem pol_put {W : World} {g : Nat} {z0 z1 z2 z3 : Value} (a0 a1 a2 a3 : Value) (h : W.heap[g]? = some (.cells #[z0, z1, z2, z3] 23 (0, 0))) :
  ((((W.setCell ⟨g, 0, none⟩ a0).setCell ⟨g, 1, none⟩ a1).setCell ⟨g, 2, none⟩ a2).setCell ⟨g, 3, none⟩ a3).heap[g]? = some (.cells #[a0, a1, a2, a3] 23 (0, 0)) :=
 blk_put (blk_put (blk_put (blk_put h 0 a0 rfl) 1 a1 rfl) 2 a2 rfl) 3 a3 rfl
theorem pol_below {w0 W : World} {g : Nat} (a0 a1 a2 a3 : Value) (hb : Below w0.heap.size w0 W) (hg : w0.heap.size ≤ g) :
  Below w0.heap.size w0 ((((W.setCell ⟨g, 0, none⟩ a0).setCell ⟨g, 1, none⟩ a1).setCell ⟨g, 2, none⟩ a2).setCell ⟨g, 3, none⟩ a3) :=
 below_set (below_set (below_set (below_set hb hg) hg) hg) hg
theorem nodes_C {W : World} {g : Nat} (h : W.heap[g]? = some (.cells #[.int .u64 432000, .bool false, .int .i64 0, .int .u64 432001, .bool false, .int .i64 0, .int .u64 604800, .bool false, .int .i64 0, .int .u64 777600, .bool false, .int .i64 0] 68 (0, 0))) : Kd.C k68 W (some ⟨g, 0, none⟩) 4 nodes4 := by
 have hc : ∀ q v, (#[.int .u64 432000, .bool false, .int .i64 0, .int .u64 432001, .bool false, .int .i64 0, .int .u64 604800, .bool false, .int .i64 0, .int .u64 777600, .bool false, .int .i64 0] : Array Value)[q]? = some v → W.cell? ((⟨g, 0, none⟩ : Addr).add q) = some v := fun q v hv => by
  rw [add_plain]
  exact (blk_cell h q).trans hv
 refine ⟨rfl, by decide, fun _ => ⟨_, rfl, fun j p hj => ?_⟩⟩
 have hj4 : j < 4 := by
  have := (List.getElem?_eq_some_iff.1 hj).1
  simpa [nodes4] using this
 have h5 : j = 0 ∨ j = 1 ∨ j = 2 ∨ j = 3 := by omega
 rcases h5 with rfl | rfl | rfl | rfl <;>
 ·obtain rfl := Option.some.inj hj
  refine ⟨_, rfl, k68_mk W _, fun q v hv => ?_⟩
  have hq : q < 3 := (List.getElem?_eq_some_iff.1 hv).1
  have h6 : q = 0 ∨ q = 1 ∨ q = 2 := by omega
  rcases h6 with rfl | rfl | rfl <;> exact hc _ _ hv
theorem ints_C {W : World} {g : Nat} {l : List Int} (h : W.heap[g]? = some (.cells (l.map (Value.int .i64)).toArray 3 (0, 0))) (hl : l.length ≤ 1000) : Kd.C (Kd.int .i64) W (some ⟨g, 0, none⟩) l.length l := by
 refine ⟨rfl, by omega, fun _ => ⟨_, rfl, fun j p hj => ⟨[.int .i64 p], rfl, rfl, fun q v hv => ?_⟩⟩⟩
 obtain ⟨hq, rfl⟩ := List.getElem?_eq_some_iff.1 hv
 have hq0 : q = 0 := by simpa using hq
 subst hq0
 obtain ⟨hjl, rfl⟩ := List.getElem?_eq_some_iff.1 hj
 rw [add_plain]
 refine (blk_cell h _).trans ?_
 show (l.map (Value.int .i64)).toArray[j * 1 + 0]? = _
 simp [hjl]
set_option maxHeartbeats 8000000 in
set_option maxRecDepth 100000 in
theorem shownR.calls (w : World) (ht : TabsW w) (hm : MaxW w) : Calls Tryz.prog 10 #[] w fun e w' => e = .returned (.bool true) ∧ Below w.heap.size w w' := by
 have hu := Tryz.underlying23
 have hu2 := Tryz.underlying28
 have hu3 := Tryz.underlying68
 have hu4 := Tryz.underlying56
 have HB := Aside0.mk (Below.refl w.heap.size w)
 have HPA := Aside0.mk (parse2.calls w hm)
 have HGR := Aside0.mk (show ∀ (W : World) (g : Nat), W.heap[g]? = some (.cells #[.int .u64 432000, .bool false, .int .i64 0, .int .u64 432001, .bool false, .int .i64 0, .int .u64 604800, .bool false, .int .i64 0, .int .u64 777600, .bool false, .int .i64 0] 68 (0, 0)) → Calls Tryz.prog 11 #[.slice (some ⟨g, 0, none⟩) 4 4, .int .i64 0] W fun e w' => ∃ A c, e = .returned (.agg #[.slice A 5 c, .int .i64 1, .int .i64 6, .int .u64 0]) ∧ 5 ≤ c ∧ Kd.C k31 w' A 5 links5 ∧ Below W.heap.size W w' from fun W g hg => by
  refine (rootcellarlaw16_grown.calls 9 _ 4 nodes4 0 links5 1 6 0 W (nodes_C hg) (by decide) grown4).mono ?_
  rintro e w' ⟨v, rfl, h1, h2⟩
  obtain ⟨A, c, rfl, h3, h4⟩ := Kd.R_reads h1
  exact ⟨A, c, rfl, h3, h4, h2⟩)
 have hsm : Small links5 := by unfold Small links5 Tm; decide +kernel
 have HKE := Aside0.mk (show ∀ (W : World) (A : Option Addr) (c : Nat), Below w.heap.size w W → 5 ≤ c → Kd.C k31 W A 5 links5 → Calls Tryz.prog 13 #[.agg #[.int .i64 2, .int .i64 0, .int .i64 0, .int .i64 0], .agg #[.slice A 5 c, .int .i64 1, .int .i64 6, .int .u64 0]] W fun e w' => ∃ A c, e = .returned (.slice A 3 c) ∧ 3 ≤ c ∧ Kd.C (Kd.int .i64) w' A 3 [1, 4, 5] ∧ Below W.heap.size W w' from fun W A c hW h1 h2 => by
  have h := keepC.calls 2 0 0 0 A c links5 1 6 0 W h2 h1 hsm (ht.below hW)
  unfold givesI at h
  rw [keep4] at h
  exact h)
 have HDE := Aside0.mk (show ∀ (W : World) (A : Option Addr) (c : Nat), Below w.heap.size w W → 5 ≤ c → Kd.C k31 W A 5 links5 → Calls Tryz.prog 17 #[.agg #[.int .i64 2, .int .i64 0, .int .i64 0, .int .i64 0], .agg #[.slice A 5 c, .int .i64 1, .int .i64 6, .int .u64 0]] W fun e w' => ∃ A c, e = .returned (.slice A 2 c) ∧ 2 ≤ c ∧ Kd.C (Kd.int .i64) w' A 2 [2, 3] ∧ Below W.heap.size W w' from fun W A c hW h1 h2 => by
  have h := dropsC.calls 2 0 0 0 A c links5 1 6 0 W h2 h1 hsm (ht.below hW)
  unfold givesI at h
  rw [drops4] at h
  exact h)
 have HS3 := Aside0.mk (fun (W : World) (A : Option Addr) (c g : Nat) (h1 : 3 ≤ c) (h2 : Kd.C (Kd.int .i64) W A 3 [1, 4, 5]) (h3 : W.heap[g]? = some (.cells #[.int .i64 1, .int .i64 4, .int .i64 5] 3 (0, 0))) => sameC.calls [1, 4, 5] A c (some ⟨g, 0, none⟩) 3 W (by decide) h2 h1 (ints_C (l := [1, 4, 5]) h3 (by decide)) (by decide))
 have HS2 := Aside0.mk (fun (W : World) (A : Option Addr) (c g : Nat) (h1 : 2 ≤ c) (h2 : Kd.C (Kd.int .i64) W A 2 [2, 3]) (h3 : W.heap[g]? = some (.cells #[.int .i64 2, .int .i64 3] 3 (0, 0))) => sameC.calls [2, 3] A c (some ⟨g, 0, none⟩) 2 W (by decide) h2 h1 (ints_C (l := [2, 3]) h3 (by decide)) (by decide))
 clear ht hm hsm
 go_enter Tryz.func10, Tryz.ntmps10
 go_upto_region 3 with (first
  | (go_at_call 28; go_loud (refine HPA.out.mono ?_; rintro e w5 ⟨rfl, q1⟩; have HB5 := Aside0.mk q1; clear q1))
  | ((with_reducible refine gate_dst (N := 1) rfl ?_); refine box_event ?hg (N := 1) ?hd (cs := #[.int .i64 0, .int .i64 0, .int .i64 0, .int .i64 0]) (t := 23) ?hr ?_; (case hd => rfl); (case hg => rfl); (case hr => first | (go_simp; done) | (go_simp; rfl)); intro g1 hg1 wa1 hbox hb; have HX1 := Aside0.mk hb; have BZ1 := Aside0.mk hbox; have HG1 := Aside0.mk (Nat.le_of_eq hg1.symm); clear hg1 hb hbox; have hc1_0 := blk_cell BZ1.out 0; have hf1_0 := blk_frozen BZ1.out 0; have hc1_1 := blk_cell BZ1.out 1; have hf1_1 := blk_frozen BZ1.out 1; have hc1_2 := blk_cell BZ1.out 2; have hf1_2 := blk_frozen BZ1.out 2; have hc1_3 := blk_cell BZ1.out 3; have hf1_3 := blk_frozen BZ1.out 3)
  | ((with_reducible refine gate_store (t := 23) (p := 1) rfl ?_); refine store_event (t := 23) (p := 1) (v := .tmp 6) (w1 := ((((wa1.setCell ⟨g1, 0, none⟩ (.int .i64 2)).setCell ⟨g1, 1, none⟩ (.int .i64 0)).setCell ⟨g1, 2, none⟩ (.int .i64 0)).setCell ⟨g1, 3, none⟩ (.int .i64 0))) rfl rfl rfl ?hr ?_; (case hr => first | (go_simp; done) | (go_simp; rfl)); intro w1 hw1; have q1 := pol_put (.int .i64 2) (.int .i64 0) (.int .i64 0) (.int .i64 0) BZ1.out; have q2 := pol_below (.int .i64 2) (.int .i64 0) (.int .i64 0) (.int .i64 0) HX1.out HG1.out; rw [← hw1] at q1 q2; clear hw1; have BK1 := Aside0.mk q1; have HY1 := Aside0.mk q2; have HB1 := Aside0.mk (below_step HB5.out q2); clear hc1_0 hf1_0 hc1_1 hf1_1 hc1_2 hf1_2 hc1_3 hf1_3 q1 q2; have hd1_0 := blk_cell BK1.out 0; have hd1_1 := blk_cell BK1.out 1; have hd1_2 := blk_cell BK1.out 2; have hd1_3 := blk_cell BK1.out 3)
  | (go_at_call 11; go_loud (refine (HGR.out _ _ (blk_new w1 _)).mono ?_; rintro e wg ⟨Ag, cg, rfl, q1, q2, q3⟩; have HBg := Aside0.mk (below_step (below_alloc HB1.out _) q3); have BPg := Aside0.mk (blk_below (blk_alloc BK1.out _) q3); have HCg := Aside0.mk (And.intro q1 q2); clear q1 q2 q3 hd1_0 hd1_1 hd1_2 hd1_3))
  | ((with_reducible refine gate_dst (N := 3) rfl ?_); refine box_event ?hg (N := 3) ?hd (cs := #[.slice none 0 0, .int .i64 0, .int .i64 0, .int .u64 0]) (t := 28) ?hr ?_; (case hd => rfl); (case hg => rfl); (case hr => first | (go_simp; done) | (go_simp; rfl)); intro g3 hg3 wa3 hbox hb; have HX3 := Aside0.mk hb; have BZ3 := Aside0.mk hbox; have HG3 := Aside0.mk (Nat.le_of_eq hg3.symm); clear hg3 hb hbox; have hc3_0 := blk_cell BZ3.out 0; have hf3_0 := blk_frozen BZ3.out 0; have hc3_1 := blk_cell BZ3.out 1; have hf3_1 := blk_frozen BZ3.out 1; have hc3_2 := blk_cell BZ3.out 2; have hf3_2 := blk_frozen BZ3.out 2; have hc3_3 := blk_cell BZ3.out 3; have hf3_3 := blk_frozen BZ3.out 3)
  | ((with_reducible refine gate_store (t := 28) (p := 3) rfl ?_); refine store_event (t := 28) (p := 3) (v := .tmp 13) (w1 := ((((wa3.setCell ⟨g3, 0, none⟩ (.slice Ag 5 cg)).setCell ⟨g3, 1, none⟩ (.int .i64 1)).setCell ⟨g3, 2, none⟩ (.int .i64 6)).setCell ⟨g3, 3, none⟩ (.int .u64 0))) rfl rfl rfl ?hr ?_; (case hr => first | (go_simp; done) | (go_simp; rfl)); intro w3 hw3; have q1 := tree_put (.slice Ag 5 cg) (.int .i64 1) (.int .i64 6) (.int .u64 0) BZ3.out; have q2 := tree_below (.slice Ag 5 cg) (.int .i64 1) (.int .i64 6) (.int .u64 0) HX3.out HG3.out; rw [← hw3] at q1 q2; clear hw3; have BK3 := Aside0.mk q1; have HY3 := Aside0.mk q2; have HB3 := Aside0.mk (below_step HBg.out q2); have BP3 := Aside0.mk (blk_below BPg.out q2); clear hc3_0 hf3_0 hc3_1 hf3_1 hc3_2 hf3_2 hc3_3 hf3_3 q1 q2; have hd3_0 := blk_cell BK3.out 0; have hd3_1 := blk_cell BK3.out 1; have hd3_2 := blk_cell BK3.out 2; have hd3_3 := blk_cell BK3.out 3; have hp0 := blk_cell BP3.out 0; have hp1 := blk_cell BP3.out 1; have hp2 := blk_cell BP3.out 2; have hp3 := blk_cell BP3.out 3; have HC3 := Aside0.mk (Kd.C_below HCg.out.2 HY3.out)))
 go_wp2_with (first
  | (go_at_call 13; go_loud (refine (HKE.out _ Ag cg HB3.out HCg.out.1 HC3.out).mono ?_; rintro e wk ⟨Ak, ck, rfl, q1, q2, q3⟩; have HBk := Aside0.mk (below_step HB3.out q3); have HCk := Aside0.mk (And.intro q1 q2); have BPk := Aside0.mk (blk_below BP3.out q3); have BTk := Aside0.mk (blk_below BK3.out q3); have HCt := Aside0.mk (Kd.C_below HC3.out q3); clear q1 q2 q3))
  | (go_at_call 12; (with_reducible show Calls _ _ #[.slice Ak 3 ck, _] _ _); refine (HS3.out _ Ak ck wk.heap.size HCk.out.1 (Kd.C_alloc HCk.out.2 _) (blk_new wk _)).mono ?_; rintro e ws ⟨rfl, q1⟩; have q2 := below_step (below_alloc (Below.refl wk.heap.size wk) _) q1; have HBs := Aside0.mk (below_step HBk.out q2); have BPs := Aside0.mk (blk_below BPk.out q2); have BTs := Aside0.mk (blk_below BTk.out q2); have HCs := Aside0.mk (Kd.C_below HCt.out q2); clear q1 q2 hp0 hp1 hp2 hp3 hd3_0 hd3_1 hd3_2 hd3_3; have hp0 := blk_cell BPs.out 0; have hp1 := blk_cell BPs.out 1; have hp2 := blk_cell BPs.out 2; have hp3 := blk_cell BPs.out 3; have hv0 := blk_cell BTs.out 0; have hv1 := blk_cell BTs.out 1; have hv2 := blk_cell BTs.out 2; have hv3 := blk_cell BTs.out 3)
  | (go_at_call 17; go_loud (refine (HDE.out _ Ag cg HBs.out HCg.out.1 HCs.out).mono ?_; rintro e wd ⟨Ad, cd, rfl, q1, q2, q3⟩; have HBd := Aside0.mk (below_step HBs.out q3); have HCd := Aside0.mk (And.intro q1 q2); clear q1 q2 q3))
  | (go_at_call 12; (with_reducible show Calls _ _ #[.slice Ad 2 cd, _] _ _); refine (HS2.out _ Ad cd wd.heap.size HCd.out.1 (Kd.C_alloc HCd.out.2 _) (blk_new wd _)).mono ?_; rintro e we ⟨rfl, q1⟩; have HBe := Aside0.mk (below_step (below_alloc HBd.out _) q1); clear q1))
 go_ret
 exact ⟨rfl, HBe.out⟩
end Go.Proofs.YtfdlbnfjohpdlaaGreatDoor.PPo
namespace Go.Proofs.YtfdlbnfjohpdlaaGreatDoor.PPo
open Go.RowKit Go.Proofs.YtfdlbnfjohpdlaaGreatDoor.Th Go.Proofs.YtfdlbnfjohpdlaaGreatDoorW.PrintWords Go.Proofs.YtfdlbnfjohpdlaaGreatDoorW.PrintLast Go.Proofs.YtfdlbnfjohpdlaaGreatDoorW.PrintMore
attribute [local go_sem] max2_int min2_int max_two min_two max_three min_three max_four min_four
set_option linter.unusedVariables false
set_option linter.unusedSimpArgs false
set_option maxHeartbeats 8000000 in
set_option maxRecDepth 100000 in
theorem PolicyKeeps_walk (a b d e : Int) (A1 : Option Addr) (c1 : Nat) (l1 : List Nd) (live : Int) (A3 : Option Addr) (c3 : Nat) (l3 : List Lk) (lv nx nw : Int) (w : World) (hr1 : Kd.C k68 w A1 l1.length l1) (hc1 : l1.length ≤ c1) (hr3 : Kd.C k31 w A3 l3.length l3) (hc3 : l3.length ≤ c3) (ht : TabsW w) (hm : MaxW w) (htn : ∀ x ∈ l1, TmN x) (htm : ∀ x ∈ l3, Tm x) (hsz : l3.length ≤ 9223372036854775807) :
  Calls Tryz.prog 3 #[.agg #[.int .i64 a, .int .i64 b, .int .i64 d, .int .i64 e], .slice A1 l1.length c1, .int .i64 live, .agg #[.slice A3 l3.length c3, .int .i64 lv, .int .i64 nx, .int .u64 nw]] w fun ex w' => ex = .returned (.bool true) ∧ Below w.heap.size w w' := by
 have hu := Tryz.underlying23
 have hu2 := Tryz.underlying28
 have hu3 := Tryz.underlying31
 have mixed : Tryz.prog.follows .mixedOrders = true := by kernel_rfl
 have HB := Aside0.mk (Below.refl w.heap.size w)
 have HSH := Aside0.mk (fun (W : World) (hW : Below w.heap.size w W) => (shownR.calls W (ht.below hW) (hm.below hW)).mono fun ex w' q => (show ex = .returned (.bool true) ∧ Below w.heap.size w w' ∧ Below W.heap.size W w' from ⟨q.1, hW.trans (q.2.mono (below_size hW)), q.2⟩))
 by_cases h62 : 62 < l3.length
 ·have z1 : decide ((62 : Int) < (l3.length : Int)) = true := decide_eq_true (by omega)
  clear hr1 hr3 htn htm ht hm
  go_enter Tryz.func3, Tryz.ntmps3
  go_wp2_with (first
   | ((with_reducible refine gate_dst (N := 4) rfl ?_); refine box_event ?hg (N := 4) ?hd (cs := #[.int .i64 a, .int .i64 b, .int .i64 d, .int .i64 e]) (t := 23) ?hr ?_; (case hd => rfl); (case hg => rfl); (case hr => first | (go_simp; done) | (go_simp; rfl)); intro g4 hg4 wb4 hbox hb; have HB4 := Aside0.mk (below_step HB.out hb); have BK4 := Aside0.mk hbox; have HG4 := Aside0.mk (show w.heap.size ≤ g4 by rw [hg4]; exact below_size HB.out); clear hg4 hb hbox; have hb4_0 := blk_cell BK4.out 0; have hb4_1 := blk_cell BK4.out 1; have hb4_2 := blk_cell BK4.out 2; have hb4_3 := blk_cell BK4.out 3)
   | ((with_reducible refine gate_dst (N := 7) rfl ?_); refine box_event ?hg (N := 7) ?hd (cs := #[.slice A3 l3.length c3, .int .i64 lv, .int .i64 nx, .int .u64 nw]) (t := 28) ?hr ?_; (case hd => rfl); (case hg => rfl); (case hr => first | (go_simp; done) | (go_simp; rfl)); intro g7 hg7 wb7 hbox hb; have HB7 := Aside0.mk (below_step HB4.out hb); have BK7 := Aside0.mk hbox; have HG7 := Aside0.mk (show w.heap.size ≤ g7 by rw [hg7]; exact below_size HB4.out); have BP7 := Aside0.mk (blk_below BK4.out hb); clear hg7 hb hbox; have hb7_0 := blk_cell BK7.out 0; have hb7_1 := blk_cell BK7.out 1; have hb7_2 := blk_cell BK7.out 2; have hb7_3 := blk_cell BK7.out 3)
   | (go_at_call 10; go_loud (refine (HSH.out _ HB7.out).mono ?_; rintro ex w1 ⟨rfl, q1, q2⟩; have HB1 := Aside0.mk q1; have BT1 := Aside0.mk (blk_below BK7.out q2); clear q1 q2 hb4_0 hb4_1 hb4_2 hb4_3 hb7_0 hb7_1 hb7_2 hb7_3; have ht0 := blk_cell BT1.out 0)))
  go_ret
  exact ⟨rfl, HB1.out⟩
 ·have z1 : decide ((62 : Int) < (l3.length : Int)) = false := decide_eq_false (by omega)
  have hl62 : l3.length ≤ 62 := by omega
  have HK3 := Aside0.mk hr3
  have HGRW := Aside0.mk (grown_ev l1 live htn)
  have HG := Aside0.mk (show ∀ (k : Nat) (lu : List Lk) (lvu nxu nwu : Int) (W : World), Below w.heap.size w W → rootcellarlaw16_grown.f k l1 live = some (lu, lvu, nxu, nwu) → Calls Tryz.prog 11 #[.slice A1 l1.length c1, .int .i64 live] W fun ex w' => ∃ A c, ex = .returned (.agg #[.slice A lu.length c, .int .i64 lvu, .int .i64 nxu, .int .u64 nwu]) ∧ lu.length ≤ c ∧ Kd.C k31 w' A lu.length lu ∧ Below W.heap.size W w' from fun k lu lvu nxu nwu W hW hk => by
   refine (rootcellarlaw16_grown.calls k A1 c1 l1 live lu lvu nxu nwu W (Kd.C_below hr1 hW) hc1 hk).mono ?_
   rintro ex w' ⟨v, rfl, h1, h2⟩
   obtain ⟨A, c, rfl, h3, h4⟩ := Kd.R_reads h1
   exact ⟨A, c, rfl, h3, h4, h2⟩)
  have HTB := Aside0.mk ht
  have HTM := Aside0.mk htm
  have HC3 := Aside0.mk hc3
  clear hr1 hr3 htn htm ht hm h62 hc1 hc3
  go_enter Tryz.func3, Tryz.ntmps3
  go_wp2_with (first
   | ((with_reducible refine gate_dst (N := 4) rfl ?_); refine box_event ?hg (N := 4) ?hd (cs := #[.int .i64 a, .int .i64 b, .int .i64 d, .int .i64 e]) (t := 23) ?hr ?_; (case hd => rfl); (case hg => rfl); (case hr => first | (go_simp; done) | (go_simp; rfl)); intro g4 hg4 wb4 hbox hb; have HB4 := Aside0.mk (below_step HB.out hb); have BK4 := Aside0.mk hbox; have HG4 := Aside0.mk (show w.heap.size ≤ g4 by rw [hg4]; exact below_size HB.out); clear hg4 hb hbox; have hb4_0 := blk_cell BK4.out 0; have hb4_1 := blk_cell BK4.out 1; have hb4_2 := blk_cell BK4.out 2; have hb4_3 := blk_cell BK4.out 3)
   | ((with_reducible refine gate_dst (N := 7) rfl ?_); refine box_event ?hg (N := 7) ?hd (cs := #[.slice A3 l3.length c3, .int .i64 lv, .int .i64 nx, .int .u64 nw]) (t := 28) ?hr ?_; (case hd => rfl); (case hg => rfl); (case hr => first | (go_simp; done) | (go_simp; rfl)); intro g7 hg7 wb7 hbox hb; have HB7 := Aside0.mk (below_step HB4.out hb); have BK7 := Aside0.mk hbox; have HG7 := Aside0.mk (show w.heap.size ≤ g7 by rw [hg7]; exact below_size HB4.out); have BP7 := Aside0.mk (blk_below BK4.out hb); clear hg7 hb hbox; have hb7_0 := blk_cell BK7.out 0; have hb7_1 := blk_cell BK7.out 1; have hb7_2 := blk_cell BK7.out 2; have hb7_3 := blk_cell BK7.out 3)
   | (go_at_call 10; go_loud (refine (HSH.out _ HB7.out).mono ?_; rintro ex w1 ⟨rfl, q1, q2⟩; have HB1 := Aside0.mk q1; have BT1 := Aside0.mk (blk_below BK7.out q2); have BP1 := Aside0.mk (blk_below BP7.out q2); clear q1 q2 hb4_0 hb4_1 hb4_2 hb4_3 hb7_0 hb7_1 hb7_2 hb7_3; have ht0 := blk_cell BT1.out 0)))
  clear HSH
  go_loopg [10] l3.length (fun gg s10 wr => ∃ i : Nat, s10 = .int .i64 i ∧ i ≤ l3.length ∧ l3.length - i ≤ gg ∧ Aside0 (∀ j (hj : j < l3.length), j < i → (l3[j]).f2.size ≤ 120) ∧ wr = w1)
  case atStart => exact ⟨0, rfl, Nat.zero_le _, by omega, ⟨fun j hj h => absurd h (Nat.not_lt_zero _)⟩, rfl⟩
  case round =>
   obtain ⟨i, rfl, hi, hg, HA, rfl⟩ := hrel
   by_cases hlt : i < l3.length
   ·have hltz : decide ((i : Int) < (l3.length : Int)) = true := decide_eq_true (by omega)
    have hi0 : (0 : Int) ≤ (i : Int) := by omega
    have hi1 : (i : Int) < (l3.length : Int) := by omega
    obtain ⟨ad, e', hx0, hx1, hx2, -⟩ := at_T31 HK3.out (i : Int) hi0 hi1
    cases e'
    replace hx2 := (HB1.out.cell (World.block_lt_of_cell? w _ hx2)).trans hx2
    simp only [Int.toNat_natCast] at hx2
    rw [rdT_at hlt] at hx2
    have HX := Aside0.mk (show ∀ j (hj : j < l3.length), j = i → (l3[j]).f2 = (l3[i]).f2 from fun j hj h => by subst h; rfl)
    generalize (l3[i]).f2 = nm at hx2 HX
    clear hx0 hx1
    by_cases h120 : 120 < nm.size
    ·have z2 : decide ((120 : Int) < (nm.size : Int)) = true := decide_eq_true (by omega)
     go_wp2
     go_ret
     exact ⟨rfl, HB1.out⟩
    ·have z2 : decide ((120 : Int) < (nm.size : Int)) = false := decide_eq_false (by omega)
     go_wp2
     go_roundg (l3.length - (i + 1))
     case measure => omega
     case rel =>
      refine ⟨i + 1, by go_num, by omega, by omega, ⟨fun j hj h => ?_⟩, rfl⟩
      rcases Nat.lt_succ_iff_lt_or_eq.1 h with h | h
      ·exact HA.out j hj h
      ·rw [HX.out j hj h]; omega
   ·have hltz : decide ((i : Int) < (l3.length : Int)) = false := decide_eq_false (by omega)
    have hS3 : Small l3 := fun x hx => by
     obtain ⟨j, hj, rfl⟩ := List.getElem_of_mem hx
     exact ⟨HA.out j hj (by omega), HTM.out _ hx⟩
    obtain ⟨lu, lvu, nxu, nwu, hev, hlu, hSu⟩ := HGRW.out
    obtain ⟨k, hk⟩ := hev.get
    have HGX := Aside0.mk (HG.out k lu lvu nxu nwu wr HB1.out hk)
    clear hev hk HG HGRW HA
    have ht0 := blk_cell BT1.out 0
    go_upto_region 10 with (first
     | (go_at_call 11; go_loud (refine HGX.out.mono ?_; rintro ex wg ⟨Au, cu, rfl, q1, q2, q3⟩; have HBg := Aside0.mk (below_step HB1.out q3); have BTg := Aside0.mk (blk_below BT1.out q3); have BPg := Aside0.mk (blk_below BP1.out q3); have HCg := Aside0.mk (And.intro q1 q2); clear q1 q2 q3 ht0))
     | ((with_reducible refine gate_dst (N := 11) rfl ?_); refine box_event ?hg (N := 11) ?hd (cs := #[.slice none 0 0, .int .i64 0, .int .i64 0, .int .u64 0]) (t := 28) ?hr ?_; (case hd => rfl); (case hg => rfl); (case hr => first | (go_simp; done) | (go_simp; rfl)); intro g11 hg11 wa11 hbox hb; have HX11 := Aside0.mk hb; have BZ11 := Aside0.mk hbox; have HG11 := Aside0.mk (Nat.le_of_eq hg11.symm); clear hg11 hb hbox; have hc11_0 := blk_cell BZ11.out 0; have hf11_0 := blk_frozen BZ11.out 0; have hc11_1 := blk_cell BZ11.out 1; have hf11_1 := blk_frozen BZ11.out 1; have hc11_2 := blk_cell BZ11.out 2; have hf11_2 := blk_frozen BZ11.out 2; have hc11_3 := blk_cell BZ11.out 3; have hf11_3 := blk_frozen BZ11.out 3)
     | ((with_reducible refine gate_store (t := 28) (p := 11) rfl ?_); refine store_event (t := 28) (p := 11) (v := .tmp 39) (w1 := ((((wa11.setCell ⟨g11, 0, none⟩ (.slice Au lu.length cu)).setCell ⟨g11, 1, none⟩ (.int .i64 lvu)).setCell ⟨g11, 2, none⟩ (.int .i64 nxu)).setCell ⟨g11, 3, none⟩ (.int .u64 nwu))) rfl rfl rfl ?hr ?_; (case hr => first | (go_simp; done) | (go_simp; rfl)); intro w11 hw11; have q1 := tree_put (.slice Au lu.length cu) (.int .i64 lvu) (.int .i64 nxu) (.int .u64 nwu) BZ11.out; have q2 := tree_below (.slice Au lu.length cu) (.int .i64 lvu) (.int .i64 nxu) (.int .u64 nwu) HX11.out HG11.out; rw [← hw11] at q1 q2; clear hw11; have BK11 := Aside0.mk q1; have HY11 := Aside0.mk q2; have HB11 := Aside0.mk (below_step HBg.out q2); have BT11 := Aside0.mk (blk_below BTg.out q2); have BP11 := Aside0.mk (blk_below BPg.out q2); clear hc11_0 hf11_0 hc11_1 hf11_1 hc11_2 hf11_2 hc11_3 hf11_3 q1 q2; have hd11_0 := blk_cell BK11.out 0; have hd11_1 := blk_cell BK11.out 1; have hd11_2 := blk_cell BK11.out 2; have hd11_3 := blk_cell BK11.out 3; have HC11 := Aside0.mk (Kd.C_below HCg.out.2 HY11.out)))
    clear hd11_0 hd11_1 hd11_2 hd11_3
    have HKEEP := Aside0.mk (show ∀ w', Below w11.heap.size w11 w' → (Below w11.heap.size w11 w' ∧ w'.cell? ⟨g4, 0, none⟩ = some (.int .i64 a) ∧ w'.cell? ⟨g4, 1, none⟩ = some (.int .i64 b) ∧ w'.cell? ⟨g4, 2, none⟩ = some (.int .i64 d) ∧ w'.cell? ⟨g4, 3, none⟩ = some (.int .i64 e) ∧ w'.cell? ⟨g11, 0, none⟩ = some (.slice Au lu.length cu) ∧ w'.cell? ⟨g11, 1, none⟩ = some (.int .i64 lvu) ∧ w'.cell? ⟨g11, 2, none⟩ = some (.int .i64 nxu) ∧ w'.cell? ⟨g11, 3, none⟩ = some (.int .u64 nwu) ∧ w'.cell? ⟨g7, 0, none⟩ = some (.slice A3 l3.length c3) ∧ w'.cell? ⟨g7, 1, none⟩ = some (.int .i64 lv) ∧ w'.cell? ⟨g7, 2, none⟩ = some (.int .i64 nx) ∧ w'.cell? ⟨g7, 3, none⟩ = some (.int .u64 nw)) from fun w' hb =>
     have h4 := blk_below BP11.out hb
     have h11 := blk_below BK11.out hb
     have h7 := blk_below BT11.out hb
     ⟨hb, blk_cell h4 0, blk_cell h4 1, blk_cell h4 2, blk_cell h4 3, blk_cell h11 0, blk_cell h11 1, blk_cell h11 2, blk_cell h11 3, blk_cell h7 0, blk_cell h7 1, blk_cell h7 2, blk_cell h7 3⟩)
    have hlu' : lu.length ≤ 1000 := by omega
    have hl3' : l3.length ≤ 1000 := by omega
    have hcu := HCg.out.1
    have hc3 := HC3.out
    have hC3 := Kd.C_below HK3.out HB11.out
    have hCu := HC11.out
    have htb := HTB.out
    have hb11 := HB11.out
    have HKu := Aside0.mk (fun (W : World) (hW : Below w11.heap.size w11 W) => keepC.calls a b d e Au cu lu lvu nxu nwu W (Kd.C_below hCu hW) hcu hSu (htb.below (below_step hb11 hW)))
    have HKt := Aside0.mk (fun (W : World) (hW : Below w11.heap.size w11 W) => keepC.calls a b d e A3 c3 l3 lv nx nw W (Kd.C_below hC3 hW) hc3 hS3 (htb.below (below_step hb11 hW)))
    have HDu := Aside0.mk (fun (W : World) (hW : Below w11.heap.size w11 W) => dropsC.calls a b d e Au cu lu lvu nxu nwu W (Kd.C_below hCu hW) hcu hSu (htb.below (below_step hb11 hW)))
    have HDt := Aside0.mk (fun (W : World) (hW : Below w11.heap.size w11 W) => dropsC.calls a b d e A3 c3 l3 lv nx nw W (Kd.C_below hC3 hW) hc3 hS3 (htb.below (below_step hb11 hW)))
    have HAu := Aside0.mk (fun (W : World) (hW : Below w11.heap.size w11 W) => asC.calls Au cu lu lvu nxu nwu W hlu' (Kd.C_below hCu hW) hcu)
    have HAt := Aside0.mk (fun (W : World) (hW : Below w11.heap.size w11 W) => asC.calls A3 c3 l3 lv nx nw W hl3' (Kd.C_below hC3 hW) hc3)
    have HRu := Aside0.mk (fun (W : World) (A : Option Addr) (c : Nat) (h1 : lu.length ≤ c) (h2 : Kd.C k81 W A lu.length (lu.map toR)) => refKeepC.calls a b d e A c lu lvu nxu nwu W h2 h1 hSu)
    have HRt := Aside0.mk (fun (W : World) (A : Option Addr) (c : Nat) (h1 : l3.length ≤ c) (h2 : Kd.C k81 W A l3.length (l3.map toR)) => refKeepC.calls a b d e A c l3 lv nx nw W h2 h1 hS3)
    have HQu := Aside0.mk (fun (W : World) (A : Option Addr) (c : Nat) (h1 : lu.length ≤ c) (h2 : Kd.C k81 W A lu.length (lu.map toR)) => refDropsC.calls a b d e A c lu lvu nxu nwu W h2 h1 hSu)
    have HQt := Aside0.mk (fun (W : World) (A : Option Addr) (c : Nat) (h1 : l3.length ≤ c) (h2 : Kd.C k81 W A l3.length (l3.map toR)) => refDropsC.calls a b d e A c l3 lv nx nw W h2 h1 hS3)
    have HL1 := Aside0.mk (show (keepV a b d e lu lvu nxu).length ≤ 1000 by have := keepV_len (a := a) (b := b) (d := d) (e := e) (l := lu) (live := lvu) (next := nxu); omega)
    have HL2 := Aside0.mk (show (dropsV a b d e lu lvu nxu).length ≤ 1000 by have := dropsV_len (a := a) (b := b) (d := d) (e := e) (l := lu) (live := lvu) (next := nxu); omega)
    have HL3 := Aside0.mk (show (keepV a b d e l3 lv nx).length ≤ 1000 by have := keepV_len (a := a) (b := b) (d := d) (e := e) (l := l3) (live := lv) (next := nx); omega)
    have HL4 := Aside0.mk (show (dropsV a b d e l3 lv nx).length ≤ 1000 by have := dropsV_len (a := a) (b := b) (d := d) (e := e) (l := l3) (live := lv) (next := nx); omega)
    clear hcu hc3 hC3 hCu htb hb11 hS3 hSu hlu' hl3' hlu hltz hlt
    unfold givesI at HKu HKt HDu HDt HRu HRt HQu HQt
    generalize keepV a b d e lu lvu nxu = K1 at HKu HRu HL1
    generalize dropsV a b d e lu lvu nxu = D1 at HDu HQu HL2
    generalize keepV a b d e l3 lv nx = K3 at HKt HRt HL3
    generalize dropsV a b d e l3 lv nx = D3 at HDt HQt HL4
    have HBd := Aside0.mk (below_drew1 (Below.refl w11.heap.size w11))
    go_region_held3 (fun w' => Below w11.heap.size w11 w' ∧ w'.cell? ⟨g4, 0, none⟩ = some (.int .i64 a) ∧ w'.cell? ⟨g4, 1, none⟩ = some (.int .i64 b) ∧ w'.cell? ⟨g4, 2, none⟩ = some (.int .i64 d) ∧ w'.cell? ⟨g4, 3, none⟩ = some (.int .i64 e) ∧ w'.cell? ⟨g11, 0, none⟩ = some (.slice Au lu.length cu) ∧ w'.cell? ⟨g11, 1, none⟩ = some (.int .i64 lvu) ∧ w'.cell? ⟨g11, 2, none⟩ = some (.int .i64 nxu) ∧ w'.cell? ⟨g11, 3, none⟩ = some (.int .u64 nwu) ∧ w'.cell? ⟨g7, 0, none⟩ = some (.slice A3 l3.length c3) ∧ w'.cell? ⟨g7, 1, none⟩ = some (.int .i64 lv) ∧ w'.cell? ⟨g7, 2, none⟩ = some (.int .i64 nx) ∧ w'.cell? ⟨g7, 3, none⟩ = some (.int .u64 nw)) (exact HKEEP.out _ (by with_reducible first | exact HBd.out | exact And.left (by assumption))) (first
     | (go_at_call 13; (with_reducible show Calls _ _ #[_, .agg #[.slice Au lu.length cu, _, _, _]] _ _); go_loud (refine (HKu.out _ HBd.out).mono ?_; rintro ex wk ⟨Ak, ck, rfl, q1, q2, q3⟩; have GK := Aside0.mk (And.intro q1 q2); have HBd := Aside0.mk (below_step HBd.out q3); clear q1 q2 q3))
     | (go_at_call 13; (with_reducible show Calls _ _ #[_, .agg #[.slice A3 l3.length c3, _, _, _]] _ _); go_loud (refine (HKt.out _ HBd.out).mono ?_; rintro ex wk ⟨Ak, ck, rfl, q1, q2, q3⟩; have GK := Aside0.mk (And.intro q1 q2); have HBd := Aside0.mk (below_step HBd.out q3); clear q1 q2 q3))
     | (go_at_call 17; (with_reducible show Calls _ _ #[_, .agg #[.slice Au lu.length cu, _, _, _]] _ _); go_loud (refine (HDu.out _ HBd.out).mono ?_; rintro ex wk ⟨Ak, ck, rfl, q1, q2, q3⟩; have GK := Aside0.mk (And.intro q1 q2); have HBd := Aside0.mk (below_step HBd.out q3); clear q1 q2 q3))
     | (go_at_call 17; (with_reducible show Calls _ _ #[_, .agg #[.slice A3 l3.length c3, _, _, _]] _ _); go_loud (refine (HDt.out _ HBd.out).mono ?_; rintro ex wk ⟨Ak, ck, rfl, q1, q2, q3⟩; have GK := Aside0.mk (And.intro q1 q2); have HBd := Aside0.mk (below_step HBd.out q3); clear q1 q2 q3))
     | (go_at_call 15; go_loud (refine (mustC.calls a b d e _).mono ?_; rintro ex wm ⟨rfl, q3⟩; have GK := Aside0.mk (And.intro GK.out.1 (Kd.C_below GK.out.2 q3)); have HBd := Aside0.mk (below_step HBd.out q3); clear q3))
     | (go_at_call 16; (with_reducible show Calls _ _ #[.agg #[.slice Au lu.length cu, _, _, _]] _ _); go_loud (refine (HAu.out _ HBd.out).mono ?_; rintro ex wa ⟨Aa, ca, rfl, q1, q2, q3⟩; have GA := Aside0.mk (And.intro q1 q2); clear q1 q2; have GK := Aside0.mk (And.intro GK.out.1 (Kd.C_below GK.out.2 q3)); have HBd := Aside0.mk (below_step HBd.out q3); clear q3))
     | (go_at_call 16; (with_reducible show Calls _ _ #[.agg #[.slice A3 l3.length c3, _, _, _]] _ _); go_loud (refine (HAt.out _ HBd.out).mono ?_; rintro ex wa ⟨Aa, ca, rfl, q1, q2, q3⟩; have GA := Aside0.mk (And.intro q1 q2); clear q1 q2; have GK := Aside0.mk (And.intro GK.out.1 (Kd.C_below GK.out.2 q3)); have HBd := Aside0.mk (below_step HBd.out q3); clear q3))
     | (go_at_call 14; (with_reducible show Calls _ _ #[_, .agg #[.slice Aa lu.length ca, _, _, _]] _ _); go_loud (refine (HRu.out _ Aa ca GA.out.1 GA.out.2).mono ?_; rintro ex wf ⟨Ar, cr, rfl, q1, q2, q3⟩; have GR := Aside0.mk (And.intro q1 q2); clear q1 q2; have GK := Aside0.mk (And.intro GK.out.1 (Kd.C_below GK.out.2 q3)); have HBd := Aside0.mk (below_step HBd.out q3); clear q3))
     | (go_at_call 14; (with_reducible show Calls _ _ #[_, .agg #[.slice Aa l3.length ca, _, _, _]] _ _); go_loud (refine (HRt.out _ Aa ca GA.out.1 GA.out.2).mono ?_; rintro ex wf ⟨Ar, cr, rfl, q1, q2, q3⟩; have GR := Aside0.mk (And.intro q1 q2); clear q1 q2; have GK := Aside0.mk (And.intro GK.out.1 (Kd.C_below GK.out.2 q3)); have HBd := Aside0.mk (below_step HBd.out q3); clear q3))
     | (go_at_call 18; (with_reducible show Calls _ _ #[_, .agg #[.slice Aa lu.length ca, _, _, _]] _ _); go_loud (refine (HQu.out _ Aa ca GA.out.1 GA.out.2).mono ?_; rintro ex wf ⟨Ar, cr, rfl, q1, q2, q3⟩; have GR := Aside0.mk (And.intro q1 q2); clear q1 q2; have GK := Aside0.mk (And.intro GK.out.1 (Kd.C_below GK.out.2 q3)); have HBd := Aside0.mk (below_step HBd.out q3); clear q3))
     | (go_at_call 18; (with_reducible show Calls _ _ #[_, .agg #[.slice Aa l3.length ca, _, _, _]] _ _); go_loud (refine (HQt.out _ Aa ca GA.out.1 GA.out.2).mono ?_; rintro ex wf ⟨Ar, cr, rfl, q1, q2, q3⟩; have GR := Aside0.mk (And.intro q1 q2); clear q1 q2; have GK := Aside0.mk (And.intro GK.out.1 (Kd.C_below GK.out.2 q3)); have HBd := Aside0.mk (below_step HBd.out q3); clear q3))
     | (go_at_call 12; go_loud (refine (sameC.calls _ Ak ck Ar cr _ ?hl GK.out.2 GK.out.1 GR.out.2 GR.out.1).mono ?_; (case hl => first | exact HL1.out | exact HL2.out | exact HL3.out | exact HL4.out); rintro ex ws ⟨rfl, q3⟩; have HBd := Aside0.mk (below_step HBd.out q3); clear q3)))
    go_wp2
    go_ret
    exact ⟨rfl, below_step HB11.out HBd.out⟩
end Go.Proofs.YtfdlbnfjohpdlaaGreatDoor.PPo
