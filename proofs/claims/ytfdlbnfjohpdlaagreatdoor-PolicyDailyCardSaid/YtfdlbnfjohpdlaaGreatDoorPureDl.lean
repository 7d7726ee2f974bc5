/-
  PolicyDaily, walked.
-/
import Derived.Test.YtfdlbnfjohpdlaaGreatDoorPureDp
import Derived.Test.YtfdlbnfjohpdlaaGreatDoorPPox16
import Derived.Test.YtfdlbnfjohpdlaaGreatDoorPPox7
import Derived.Test.YtfdlbnfjohpdlaaGreatDoorPureRn
import Derived.KernelRfl
import Derived.Test.YtfdlbnfjohpdlaaGreatDoorPPox0
import Derived.Test.YtfdlbnfjohpdlaaGreatDoorLayP
import Derived.Test.YtfdlbnfjohpdlaaGreatDoorPureTR
import Derived.Lib.OthersKept
import Derived.Outline
import Derived.Lib.ConvBytes
import Derived.Lib.LazyBuf
import Derived.Test.YtfdlbnfjohpdlaaGreatDoorPPox23
import Derived.Test.YtfdlbnfjohpdlaaGreatDoorPPox24
import Derived.BigQuiet
--compressed
namespace Go.Proofs.YtfdlbnfjohpdlaaGreatDoor.PPo
open Go.RowKit Go.Proofs.YtfdlbnfjohpdlaaGreatDoor.Th Go.Proofs.YtfdlbnfjohpdlaaGreatDoorW.PrintWords Go.Proofs.YtfdlbnfjohpdlaaGreatDoorW.PrintLast Go.Proofs.YtfdlbnfjohpdlaaGreatDoorW.PrintMore
attribute [local go_sem] max2_int min2_int max_two min_two max_three min_three max_four min_four
set_option linter.unusedVariables false
set_option linter.unusedSimpArgs false
theorem refright_f (a b c d : Int) : rootcellarref16_Right.f a b c d = some (rightP a b c d) := by
 have ok : ∀ n : Int, okN n = (decide (n ≥ 0) && decide (n ≤ 1000)) := fun n => by
  unfold okN
  rw [Bool.eq_iff_iff]
  simp
 unfold rootcellarref16_Right.f rightP
 rw [ok, ok, ok, ok]
 by_cases a1 : a ≥ 0
 ·by_cases a2 : a ≤ 1000
  ·by_cases b1 : b ≥ 0
   ·by_cases b2 : b ≤ 1000
    ·by_cases c1 : c ≥ 0
     ·by_cases c2 : c ≤ 1000
      ·by_cases d1 : d ≥ 0
       ·simp [a1, a2, b1, b2, c1, c2, d1]
       ·simp [a1, a2, b1, b2, c1, c2, d1]
      ·simp [a1, a2, b1, b2, c1, c2]
     ·simp [a1, a2, b1, b2, c1]
    ·simp [a1, a2, b1, b2]
   ·simp [a1, a2, b1]
  ·simp [a1, a2]
 ·simp [a1]
theorem rints_stay {W w1 : World} {v u : Value} {xs : List Int} {ys : List Lr} {base : Nat} (h : Kd.R (Kd.int .i64) 3 W base (fun _ => True) v xs) (hu : Kd.R k81 81 W base (fun _ => True) u ys) (hg : W.grownBy w1 u.ownBlock) : Kd.R (Kd.int .i64) 3 w1 base (fun _ => True) v xs :=
 Kd.R_mono (Kd.R_grown (Kd.R_apartR h hu (by decide)) hg (fun k hk => hk.2)) (fun _ _ => trivial)
theorem rlinks_stay {W w1 : World} {v u : Value} {xs : List Int} {ys : List Lr} {base : Nat} (h : Kd.R k81 81 W base (fun _ => True) u ys) (hu : Kd.R (Kd.int .i64) 3 W base (fun _ => True) v xs) (hg : W.grownBy w1 v.ownBlock) : Kd.R k81 81 w1 base (fun _ => True) u ys :=
 Kd.R_mono (Kd.R_grown (Kd.R_apartR h hu (by decide)) hg (fun k hk => hk.2)) (fun _ _ => trivial)
/-- Two rows whose blocks are two. -/
def TwoB (u v : Value) : Prop := ∀ k, u.ownBlock = some k → some k ≠ v.ownBlock
theorem TwoB.symm {u v : Value} (h : TwoB u v) : TwoB v u := fun k hk he => h k he.symm hk.symm
theorem TwoB.step {W : World} {u u1 v : Value} {ys : List Int} {base : Nat} (h : TwoB u v) (hv : Kd.R (Kd.int .i64) 3 W base (fun _ => True) v ys) (hat : u1.ownBlock = u.ownBlock ∨ ∃ b, u1.ownBlock = some b ∧ W.heap.size ≤ b) : TwoB u1 v := fun k hk he => by
 rcases hat with h1 | ⟨b, h1, h2⟩
 ·exact h k (h1 ▸ hk) he
 ·rw [h1] at hk
  injection hk with hk
  have := Kd.R_lt hv k he.symm
  omega
theorem two_stay {W w1 : World} {u v : Value} {ys : List Int} {base : Nat} (h : TwoB u v) (hv : Kd.R (Kd.int .i64) 3 W base (fun _ => True) v ys) (hg : W.grownBy w1 u.ownBlock) : Kd.R (Kd.int .i64) 3 w1 base (fun _ => True) v ys := Kd.R_grown2 hv rfl hg h
theorem take_drop1 {l : List Lr} {i : Nat} (h1 : 1 ≤ i) (h : i < l.length) : (l.take (i + 1)).drop 1 = (l.take i).drop 1 ++ [l[i]] := by
 rw [List.take_succ_eq_append_getElem h, List.drop_append_of_le_length (by rw [List.length_take]; omega)]
set_option maxHeartbeats 8000000 in
set_option maxRecDepth 100000 in
theorem partedR.calls (a b d e : Int) (A : Option Addr) (c : Nat) (l : List Lr) (live next now : Int) (w : World) (hr : Kd.C k81 w A l.length l) (hc : l.length ≤ c) (hs : ∀ x ∈ l, x.f2.size ≤ 4611686018427387900) (htm : ∀ x ∈ l, Tm (toL x)) :
  Calls Tryz.prog 42 #[.agg #[.int .i64 a, .int .i64 b, .int .i64 d, .int .i64 e], .agg #[.slice A l.length c, .int .i64 live, .int .i64 next, .int .u64 now]] w fun ex w' => ∃ v1 v2, ex = .returned (.tuple #[v1, v2]) ∧ Kd.R (Kd.int .i64) 3 w' w.heap.size (fun _ => True) v1 (keepV a b d e (l.map toL) live next) ∧ Kd.R (Kd.int .i64) 3 w' w.heap.size (fun _ => True) v2 (dropsV a b d e (l.map toL) live next) ∧ Below w.heap.size w w' := by
 have hu := Tryz.underlying41
 have hu3 := Tryz.underlying81
 have hup := Tryz.underlying37
 have HB := Aside0.mk (Below.refl w.heap.size w)
 have HP := Aside0.mk (fun (W : World) (hW : Below w.heap.size w W) => (rootcellarref16_Right.calls a b d e _ W (refright_f a b d e)).mono fun ex w' q => (show ex = .returned (.bool (rightP a b d e)) ∧ Below w.heap.size w w' ∧ Below W.heap.size W w' from ⟨q.1, hW.trans (q.2.mono (below_size hW)), q.2⟩))
 have HR := Aside0.mk (fun (W : World) (hW : Below w.heap.size w W) => (rightRf.calls A c l live next now W (Kd.C_below hr hW) hc hs).mono fun ex w' q => (show ex = .returned (.bool (rightT (l.map toL) live next)) ∧ Below w.heap.size w w' ∧ Below W.heap.size W w' from ⟨q.1, hW.trans (q.2.mono (below_size hW)), q.2⟩))
 by_cases hbad : rightP a b d e = true ∧ rightT (l.map toL) live next = true
 ·obtain ⟨hp, htr⟩ := hbad
  have hkd : keepV a b d e (l.map toL) live next = 1 :: ((candV (l.map toL)).filter (keptB a b d e live (candV (l.map toL)))).map (·.f0) := by unfold keepV; rw [if_pos ⟨hp, htr⟩]
  have hdd : dropsV a b d e (l.map toL) live next = ((candV (l.map toL)).filter fun x => !keptB a b d e live (candV (l.map toL)) x).map (·.f0) := by unfold dropsV; rw [if_pos ⟨hp, htr⟩]
  rw [hkd, hdd]
  rw [hp] at HP
  rw [htr] at HR
  obtain ⟨-, -, -, -, -, -, hc1⟩ := right_cand htr
  obtain ⟨h0, h60, -⟩ := rightT_iff.1 htr
  rw [List.length_map] at h0 h60
  have hcm : candV (l.map toL) = ((l.drop 1).filter fun x => !x.f4).map toL := by
   unfold candV
   rw [← List.map_drop, List.filter_map]
   rfl
  rw [hcm] at hc1 ⊢
  rw [List.filter_map, List.filter_map, List.map_map, List.map_map]
  obtain ⟨CR, hCR⟩ : ∃ CR, CR = (l.drop 1).filter fun x => !x.f4 := ⟨_, rfl⟩
  rw [← hCR] at hc1 ⊢
  obtain ⟨kb, hkb⟩ : ∃ kb : Lr → Bool, kb = fun x => keptB a b d e live (CR.map toL) (toL x) := ⟨_, rfl⟩
  have hg1 : (keptB a b d e live (CR.map toL) ∘ toL) = kb := by rw [hkb]; rfl
  have hg2 : ((fun x => !keptB a b d e live (CR.map toL) x) ∘ toL) = fun x => !kb x := by rw [hkb]; rfl
  have hg3 : ((fun x : Lk => x.f0) ∘ toL) = fun x : Lr => x.f0 := rfl
  rw [hg1, hg2, hg3]
  have hCl : CR.length ≤ 60 := by
   have h4 := List.length_filter_le (fun x : Lr => !x.f4) (l.drop 1)
   have h5 : (l.drop 1).length = l.length - 1 := List.length_drop
   rw [hCR]
   omega
  have hCm : ∀ x ∈ CR, x ∈ l := fun x hx => by
   rw [hCR] at hx
   exact List.mem_of_mem_drop (List.mem_filter.1 hx).1
  have HKP := Aside0.mk (show ∀ (W : World) (A8 : Option Addr) (c8 : Nat) (x : Lr), x ∈ CR → Below w.heap.size w W → Kd.C k81 W A8 CR.length CR → CR.length ≤ c8 → Calls Tryz.prog 68 #[.agg #[.int .i64 a, .int .i64 b, .int .i64 d, .int .i64 e], .agg #[.slice A l.length c, .int .i64 live, .int .i64 next, .int .u64 now], .slice A8 CR.length c8, .agg #[.int .i64 x.f0, .int .i64 x.f1, .string x.f2, .int .u64 x.f3, .bool x.f4, .bool x.f5]] W fun ex w' => ex = .returned (.bool (kb x)) ∧ Below w.heap.size w w' ∧ Below W.heap.size W w' from fun W A8 c8 x hx hW hC h8 => by
   have hx1 := hc1 (toL x) (List.mem_map.2 ⟨x, hx, rfl⟩)
   obtain ⟨k, hk⟩ := (kept_ev a b d e l live next now CR x (by omega) (fun y hy => htm y (hCm y hy)) (htm x (hCm x hx)) (by have : (1 : Int) < x.f0 := hx1; omega)).get
   rw [hkb]
   exact (rootcellarref16_kept.calls k a b d e A c l live next now A8 c8 CR x.f0 x.f1 x.f2 x.f3 x.f4 x.f5 _ W (Kd.C_below hr hW) hc hC h8 hk).mono fun ex w' q => ⟨q.1, hW.trans (q.2.mono (below_size hW)), q.2⟩)
  have HCR := Aside0.mk hCR
  have HCL := Aside0.mk hCl
  have HCT := Aside0.mk (And.intro h0 h60)
  have HK := Aside0.mk hr
  have hl60 := h60
  have mixed : Tryz.prog.follows .mixedOrders = true := by kernel_rfl
  clear hr hc hs htm hp htr hkd hdd hc1 hcm hg1 hg2 hg3 hCm hCR h60 hkb hCl
  go_enter Tryz.func42, Tryz.ntmps42
  go_wp2_with (first
   | ((with_reducible refine gate_dst (N := 2) rfl ?_); refine box_event ?hg (N := 2) ?hd (cs := #[.int .i64 a, .int .i64 b, .int .i64 d, .int .i64 e]) (t := 37) ?hr ?_; (case hd => rfl); (case hg => rfl); (case hr => first | (go_simp; done) | (go_simp; rfl)); intro g2 hg2 wb2 hbox hb; have HB2 := Aside0.mk (below_step HB.out hb); have BK2 := Aside0.mk hbox; have HG2 := Aside0.mk (show w.heap.size ≤ g2 by rw [hg2]; exact below_size HB.out); clear hg2 hb hbox; have hb2_0 := blk_cell BK2.out 0; have hb2_1 := blk_cell BK2.out 1; have hb2_2 := blk_cell BK2.out 2; have hb2_3 := blk_cell BK2.out 3)
   | ((with_reducible refine gate_dst (N := 3) rfl ?_); refine box_event ?hg (N := 3) ?hd (cs := #[.slice A l.length c, .int .i64 live, .int .i64 next, .int .u64 now]) (t := 41) ?hr ?_; (case hd => rfl); (case hg => rfl); (case hr => first | (go_simp; done) | (go_simp; rfl)); intro g3 hg3 wb3 hbox hb; have HB3 := Aside0.mk (below_step HB2.out hb); have BK3 := Aside0.mk hbox; have HG3 := Aside0.mk (show w.heap.size ≤ g3 by rw [hg3]; exact below_size HB2.out); have BP3 := Aside0.mk (blk_below BK2.out hb); clear hg3 hb hbox; have hb3_0 := blk_cell BK3.out 0; have hb3_1 := blk_cell BK3.out 1; have hb3_2 := blk_cell BK3.out 2; have hb3_3 := blk_cell BK3.out 3; have hp0 := blk_cell BP3.out 0; have hp1 := blk_cell BP3.out 1; have hp2 := blk_cell BP3.out 2; have hp3 := blk_cell BP3.out 3)
   | (go_at_call 30; go_loud (refine (HP.out _ HB3.out).mono ?_; rintro ex w4 ⟨rfl, q1, q2⟩; have HB4 := Aside0.mk q1; have BT4 := Aside0.mk (blk_below BK3.out q2); have BP4 := Aside0.mk (blk_below BP3.out q2); clear q1 q2 hb2_0 hb2_1 hb2_2 hb2_3 hb3_0 hb3_1 hb3_2 hb3_3 hp0 hp1 hp2 hp3; have ht0 := blk_cell BT4.out 0; have ht1 := blk_cell BT4.out 1; have ht2 := blk_cell BT4.out 2; have ht3 := blk_cell BT4.out 3))
   | (go_at_call 67; go_loud (refine (HR.out _ HB4.out).mono ?_; rintro ex w5 ⟨rfl, q1, q2⟩; have HB5 := Aside0.mk q1; have BT5 := Aside0.mk (blk_below BT4.out q2); have BP5 := Aside0.mk (blk_below BP4.out q2); clear q1 q2 ht0 ht1 ht2 ht3; have hv0 := blk_cell BT5.out 0)))
  go_loopg [8, 9] l.length (fun gg s8 s9 wr => ∃ i : Nat, s9 = .int .i64 i ∧ 1 ≤ i ∧ i ≤ l.length ∧ l.length - i ≤ gg ∧ Aside0 (Below w.heap.size w wr) ∧ Aside0 (wr.heap[g3]? = some (.cells #[.slice A l.length c, .int .i64 live, .int .i64 next, .int .u64 now] 41 (0, 0))) ∧ Aside0 (wr.heap[g2]? = some (.cells #[.int .i64 a, .int .i64 b, .int .i64 d, .int .i64 e] 37 (0, 0))) ∧ Aside0 (Kd.R k81 81 wr w.heap.size (fun _ => True) s8 (((l.take i).drop 1).filter fun x => !x.f4)))
  case atStart => exact ⟨1, rfl, Nat.le_refl _, by have := HCT.out.1; omega, by omega, HB5, BT5, BP5, ⟨by
   have : ((l.take 1).drop 1).filter (fun x => !x.f4) = [] := by
    rw [List.drop_of_length_le (by rw [List.length_take]; omega)]
    rfl
   rw [this]
   exact Kd.R_nil _ _ _ _ _⟩⟩
  case round =>
   obtain ⟨i, rfl, hi1, hi, hg, HBr, HTr, HPr, HLr⟩ := hrel
   by_cases hlt : i < l.length
   ·have hltz : decide ((i : Int) < (l.length : Int)) = true := decide_eq_true (by omega)
    have hi0 : (0 : Int) ≤ (i : Int) := by omega
    have hi2 : (i : Int) < (l.length : Int) := by omega
    obtain ⟨ad, e', hx0, hx1, hx2, hx3, hx4, hx5⟩ := at_T81 HK.out (i : Int) hi0 hi2
    cases e'
    replace hx0 := (HBr.out.cell (World.block_lt_of_cell? w _ hx0)).trans hx0
    replace hx1 := (HBr.out.cell (World.block_lt_of_cell? w _ hx1)).trans hx1
    replace hx2 := (HBr.out.cell (World.block_lt_of_cell? w _ hx2)).trans hx2
    replace hx3 := (HBr.out.cell (World.block_lt_of_cell? w _ hx3)).trans hx3
    replace hx4 := (HBr.out.cell (World.block_lt_of_cell? w _ hx4)).trans hx4
    replace hx5 := (HBr.out.cell (World.block_lt_of_cell? w _ hx5)).trans hx5
    simp only [Int.toNat_natCast] at hx0 hx1 hx2 hx3 hx4 hx5
    have HTK := Aside0.mk (take_drop1 hi1 hlt)
    rw [lr_get hlt] at hx0 hx1 hx2 hx3 hx4 hx5
    generalize l[i] = x at hx0 hx1 hx2 hx3 hx4 hx5 HTK
    have HLN := Aside0.mk (show (((l.take i).drop 1).filter fun x => !x.f4).length ≤ 60 from by have h4 := List.length_filter_le (fun x : Lr => !x.f4) ((l.take i).drop 1); rw [List.length_drop, List.length_take] at h4; omega)
    have ht0 := blk_cell HTr.out 0
    cases hgh : x.f4 with
    | true =>
     have HNX := Aside0.mk (show (((l.take (i + 1)).drop 1).filter fun x => !x.f4) = (((l.take i).drop 1).filter fun x => !x.f4) by rw [HTK.out, List.filter_append, List.filter_cons_of_neg (by rw [hgh]; decide)]; simp)
     go_wp2
     go_roundg (l.length - (i + 1))
     case measure => omega
     case rel => exact ⟨i + 1, by go_num, by omega, by omega, by omega, HBr, HTr, HPr, ⟨by rw [HNX.out]; exact HLr.out⟩⟩
    | false =>
     have HNX := Aside0.mk (show (((l.take (i + 1)).drop 1).filter fun x => !x.f4) = (((l.take i).drop 1).filter fun x => !x.f4) ++ [x] by rw [HTK.out, List.filter_append, List.filter_cons_of_pos (by rw [hgh]; decide)]; simp)
     go_wp2_with ((with_reducible refine gate_builtin (b := .append) (xs := #[.tmp 37, .tmp 43]) rfl ?_); at_builtin; refine Kd.R_append k81 (w0 := w) w.heap.size rfl (.tmp 37) (.tmp 43) 39 81 (.agg #[(.int .i64 0), (.int .i64 0), (.string ⟨#[]⟩), (.int .u64 0), (.bool false), (.bool false)]) 48 rfl Tryz.underlying39 info81 rfl (by decide) (by omega) u8 (((l.take i).drop 1).filter fun x => !x.f4) x [.int .i64 x.f0, .int .i64 x.f1, .string x.f2, .int .u64 x.f3, .bool false, .bool x.f5] (fun _ => True) (fun _ => False) rfl ?aX ?aP (fun _ hk => hk.elim) (fun _ _ => trivial) HLr.out HBr.out (below_size HBr.out) (Nat.le_trans (Nat.mul_le_mul_right 48 (Nat.succ_le_succ HLN.out)) (by decide)) ?_; (case aX => first | rfl | (go_simp; done)); (case aP => (have q := k81_mkM wr w.heap.size (fun _ => False) x; rw [hgh] at q; exact q)); intro v44 w44 ho hb hg hat; have HL44 := Aside0.mk ho; have HB44 := Aside0.mk hb; have HT44 := Aside0.mk (blk_grown HTr.out hg (Kd.R_ne HLr.out HTr.out (by decide))); have HP44 := Aside0.mk (blk_grown HPr.out hg (Kd.R_ne HLr.out HPr.out (by decide))); clear ho hb hg hat)
     go_roundg (l.length - (i + 1))
     case measure => omega
     case rel => exact ⟨i + 1, by go_num, by omega, by omega, by omega, HB44, HT44, HP44, ⟨by rw [HNX.out]; exact HL44.out⟩⟩
   ·have hltz : decide ((i : Int) < (l.length : Int)) = false := decide_eq_false (by omega)
    have hcs : (((l.take i).drop 1).filter fun x => !x.f4) = CR := by rw [List.take_of_length_le (by omega), HCR.out]
    rw [hcs] at HLr
    clear hcs
    obtain ⟨A8, c8, h8⟩ := Kd.R_slice HLr.out
    subst h8
    have ht0 := blk_cell HTr.out 0
    have hC60 := HCL.out
    go_wp2_with ((with_reducible refine gate_dst (N := 45) rfl ?_); refine Kd.R_lit (Kd.int .i64) (w0 := w) w.heap.size 3 rfl (N := 45) rfl (xs := [1]) (inner := [.int .i64 1]) (ok := fun _ => True) (okp := fun _ => True) ?hr (ints_reps _ _ _ [1]) (fun _ _ => trivial) trivial HBr.out (below_size HBr.out) (by decide) ?_; (case hr => first | (go_simp; done) | (go_simp; rfl)); intro v45 w45 ho hb hg hat; have HI45 := Aside0.mk ho; have HB45 := Aside0.mk hb; have HT45 := Aside0.mk (blk_grown HTr.out hg (by simp)); have HP45 := Aside0.mk (blk_grown HPr.out hg (by simp)); have HL45 := Aside0.mk (Kd.R_grown HLr.out hg (fun k _ => by simp)); clear ho hb hg hat)
    clear ht0
    go_loopg [10, 11, 12] CR.length (fun gg s10 s11 s12 wr => ∃ i : Nat, s12 = .int .i64 i ∧ i ≤ CR.length ∧ CR.length - i ≤ gg ∧ Aside0 (Below w.heap.size w wr) ∧ Aside0 (wr.heap[g3]? = some (.cells #[.slice A l.length c, .int .i64 live, .int .i64 next, .int .u64 now] 41 (0, 0))) ∧ Aside0 (wr.heap[g2]? = some (.cells #[.int .i64 a, .int .i64 b, .int .i64 d, .int .i64 e] 37 (0, 0))) ∧ Aside0 (Kd.R (Kd.int .i64) 3 wr w.heap.size (fun _ => True) s10 (1 :: ((CR.take i).filter kb).map (·.f0))) ∧ Aside0 (Kd.R (Kd.int .i64) 3 wr w.heap.size (fun _ => True) s11 (((CR.take i).filter fun x => !kb x).map (·.f0))) ∧ Aside0 (TwoB s10 s11) ∧ Aside0 (Kd.R k81 81 wr w.heap.size (fun _ => True) (.slice A8 CR.length c8) CR))
    case atStart => exact ⟨0, rfl, Nat.zero_le _, by omega, HB45, HT45, HP45, HI45, ⟨Kd.R_nil _ _ _ _ _⟩, ⟨fun k hk he => by simp [Value.ownBlock] at he⟩, HL45⟩
    case round =>
     clear HLr HBr HTr HPr HI45 HB45 HT45 HP45 HL45 hltz
     obtain ⟨i, rfl, hi, hg, HBr, HTr, HPr, HI, HO, HTW, HLr⟩ := hrel
     by_cases hlt : i < CR.length
     ·have hltz : decide ((i : Int) < (CR.length : Int)) = true := decide_eq_true (by omega)
      have hi0 : (0 : Int) ≤ (i : Int) := by omega
      have hi2 : (i : Int) < (CR.length : Int) := by omega
      have HC8 := Aside0.mk (Kd.R_reads' HLr.out)
      obtain ⟨ad, e', hx0, hx1, hx2, hx3, hx4, hx5⟩ := at_T81 HC8.out.2.2 (i : Int) hi0 hi2
      cases e'
      simp only [Int.toNat_natCast] at hx0 hx1 hx2 hx3 hx4 hx5
      have HTK := Aside0.mk (List.take_succ_eq_append_getElem hlt)
      rw [lr_get hlt] at hx0 hx1 hx2 hx3 hx4 hx5
      have HXM := Aside0.mk (List.getElem_mem hlt)
      generalize CR[i] = x at hx0 hx1 hx2 hx3 hx4 hx5 HTK HXM
      have HLN := Aside0.mk (show (CR.take i).length ≤ 60 by rw [List.length_take]; omega)
      have HIN := Aside0.mk (show (1 :: ((CR.take i).filter kb).map (·.f0)).length ≤ 61 by have h1 := List.length_filter_le kb (CR.take i); have h2 := HLN.out; rw [List.length_cons, List.length_map]; omega)
      have HON := Aside0.mk (show (((CR.take i).filter fun x => !kb x).map (·.f0)).length ≤ 61 by have h1 := List.length_filter_le (fun x => !kb x) (CR.take i); have h2 := HLN.out; rw [List.length_map]; omega)
      have HKX := Aside0.mk (show ∀ W, Below wr.heap.size wr W → Calls Tryz.prog 68 #[.agg #[.int .i64 a, .int .i64 b, .int .i64 d, .int .i64 e], .agg #[.slice A l.length c, .int .i64 live, .int .i64 next, .int .u64 now], .slice (some ad) CR.length c8, .agg #[.int .i64 x.f0, .int .i64 x.f1, .string x.f2, .int .u64 x.f3, .bool x.f4, .bool x.f5]] W fun ex w' => ex = .returned (.bool (kb x)) ∧ Below w.heap.size w w' ∧ Below wr.heap.size wr w' from fun W hW => (HKP.out W _ c8 x HXM.out (below_step HBr.out hW) (Kd.C_below HC8.out.2.2 hW) HC8.out.2.1).mono fun ex w' q => ⟨q.1, q.2.1, below_step hW q.2.2⟩)
      have HKEEP := Aside0.mk (show ∀ w', Below wr.heap.size wr w' → (Below wr.heap.size wr w' ∧ w'.cell? ⟨g2, 0, none⟩ = some (.int .i64 a) ∧ w'.cell? ⟨g2, 1, none⟩ = some (.int .i64 b) ∧ w'.cell? ⟨g2, 2, none⟩ = some (.int .i64 d) ∧ w'.cell? ⟨g2, 3, none⟩ = some (.int .i64 e) ∧ w'.cell? ⟨g3, 0, none⟩ = some (.slice A l.length c) ∧ w'.cell? ⟨g3, 1, none⟩ = some (.int .i64 live) ∧ w'.cell? ⟨g3, 2, none⟩ = some (.int .i64 next) ∧ w'.cell? ⟨g3, 3, none⟩ = some (.int .u64 now) ∧ w'.cell? (ad.add (i * 6)) = some (.int .i64 x.f0) ∧ w'.cell? ⟨(ad.add (i * 6)).block, (ad.add (i * 6)).off + 1, none⟩ = some (.int .i64 x.f1) ∧ w'.cell? ⟨(ad.add (i * 6)).block, (ad.add (i * 6)).off + 2, none⟩ = some (.string x.f2) ∧ w'.cell? ⟨(ad.add (i * 6)).block, (ad.add (i * 6)).off + 3, none⟩ = some (.int .u64 x.f3) ∧ w'.cell? ⟨(ad.add (i * 6)).block, (ad.add (i * 6)).off + 4, none⟩ = some (.bool x.f4) ∧ w'.cell? ⟨(ad.add (i * 6)).block, (ad.add (i * 6)).off + 5, none⟩ = some (.bool x.f5)) from fun w' hb =>
       have h2 := blk_below HPr.out hb
       have h3 := blk_below HTr.out hb
       ⟨hb, blk_cell h2 0, blk_cell h2 1, blk_cell h2 2, blk_cell h2 3, blk_cell h3 0, blk_cell h3 1, blk_cell h3 2, blk_cell h3 3, (hb.cell (World.block_lt_of_cell? wr _ hx0)).trans hx0, (hb.cell (World.block_lt_of_cell? wr _ hx1)).trans hx1, (hb.cell (World.block_lt_of_cell? wr _ hx2)).trans hx2, (hb.cell (World.block_lt_of_cell? wr _ hx3)).trans hx3, (hb.cell (World.block_lt_of_cell? wr _ hx4)).trans hx4, (hb.cell (World.block_lt_of_cell? wr _ hx5)).trans hx5⟩)
      cases hkx : kb x with
      | true =>
       rw [hkx] at HKX
       have HNX := Aside0.mk (show 1 :: ((CR.take (i + 1)).filter kb).map (·.f0) = (1 :: ((CR.take i).filter kb).map (·.f0)) ++ [x.f0] by rw [HTK.out, List.filter_append, List.filter_cons_of_pos hkx]; simp)
       have HNY := Aside0.mk (show ((CR.take (i + 1)).filter fun x => !kb x).map (·.f0) = ((CR.take i).filter fun x => !kb x).map (·.f0) by rw [HTK.out, List.filter_append, List.filter_cons_of_neg (by rw [hkx]; decide)]; simp)
       clear hkx
       go_upto_region 16 with fail
       clear hx0 hx1 hx2 hx3 hx4 hx5
       go_region_held3 (fun w' => Below wr.heap.size wr w' ∧ w'.cell? ⟨g2, 0, none⟩ = some (.int .i64 a) ∧ w'.cell? ⟨g2, 1, none⟩ = some (.int .i64 b) ∧ w'.cell? ⟨g2, 2, none⟩ = some (.int .i64 d) ∧ w'.cell? ⟨g2, 3, none⟩ = some (.int .i64 e) ∧ w'.cell? ⟨g3, 0, none⟩ = some (.slice A l.length c) ∧ w'.cell? ⟨g3, 1, none⟩ = some (.int .i64 live) ∧ w'.cell? ⟨g3, 2, none⟩ = some (.int .i64 next) ∧ w'.cell? ⟨g3, 3, none⟩ = some (.int .u64 now) ∧ w'.cell? (ad.add (i * 6)) = some (.int .i64 x.f0) ∧ w'.cell? ⟨(ad.add (i * 6)).block, (ad.add (i * 6)).off + 1, none⟩ = some (.int .i64 x.f1) ∧ w'.cell? ⟨(ad.add (i * 6)).block, (ad.add (i * 6)).off + 2, none⟩ = some (.string x.f2) ∧ w'.cell? ⟨(ad.add (i * 6)).block, (ad.add (i * 6)).off + 3, none⟩ = some (.int .u64 x.f3) ∧ w'.cell? ⟨(ad.add (i * 6)).block, (ad.add (i * 6)).off + 4, none⟩ = some (.bool x.f4) ∧ w'.cell? ⟨(ad.add (i * 6)).block, (ad.add (i * 6)).off + 5, none⟩ = some (.bool x.f5)) (exact HKEEP.out _ (by repeat (with_reducible first | exact Below.refl _ _ | exact And.left (by assumption) | exact HQK.out | apply below_alloc | apply below_drew1))) (first
        | (go_at_call 68; go_loud (with_reducible refine (HKX.out _ ?hb).mono ?_; (case hb => repeat (with_reducible first | exact Below.refl _ _ | apply below_alloc | apply below_drew1)); rintro e wk ⟨rfl, q1, q2⟩; have HBk := Aside0.mk q1; have HQK := Aside0.mk q2; clear q1 q2)))
       have HTk := Aside0.mk (blk_below HTr.out HQK.out)
       have HPk := Aside0.mk (blk_below HPr.out HQK.out)
       have HIk := Aside0.mk (Kd.R_below HI.out HQK.out)
       have HOk := Aside0.mk (Kd.R_below HO.out HQK.out)
       have HLk := Aside0.mk (Kd.R_below HLr.out HQK.out)
       have hxk := (HKEEP.out _ HQK.out).2.2.2.2.2.2.2.2.2.1
       go_wp2_with ((with_reducible refine gate_builtin (b := .append) (xs := #[.tmp 60, .tmp 66]) rfl ?_); at_builtin; refine Kd.R_append (Kd.int .i64) (w0 := w) w.heap.size rfl (.tmp 60) (.tmp 66) 34 3 (.int .i64 0) 8 rfl Tryz.underlying34 info3 rfl (by decide) (by omega) u10 (1 :: ((CR.take i).filter kb).map (·.f0)) x.f0 [.int .i64 x.f0] (fun _ => True) (fun _ => False) rfl ?aX rfl (fun _ hk => hk.elim) (fun _ _ => trivial) HIk.out HBk.out (below_size HBk.out) (Nat.le_trans (Nat.mul_le_mul_right 8 (Nat.succ_le_succ HIN.out)) (by decide)) ?_; (case aX => first | rfl | (go_simp; done)); intro v7 w7 ho hb hg hat; have HN7 := Aside0.mk ho; have HB7 := Aside0.mk hb; have HT7 := Aside0.mk (blk_grown HTk.out hg (Kd.R_ne HIk.out HTk.out (by decide))); have HP7 := Aside0.mk (blk_grown HPk.out hg (Kd.R_ne HIk.out HPk.out (by decide))); have HL7 := Aside0.mk (rlinks_stay HLk.out HIk.out hg); have HM7 := Aside0.mk (two_stay HTW.out HOk.out hg); have HW7 := Aside0.mk (TwoB.step HTW.out HOk.out hat); clear ho hb hg hat)
       go_roundg (CR.length - (i + 1))
       case measure => omega
       case rel => exact ⟨i + 1, by go_num, by omega, by omega, HB7, HT7, HP7, ⟨by rw [HNX.out]; exact HN7.out⟩, ⟨by rw [HNY.out]; exact HM7.out⟩, HW7, HL7⟩
      | false =>
       rw [hkx] at HKX
       have HNX := Aside0.mk (show 1 :: ((CR.take (i + 1)).filter kb).map (·.f0) = 1 :: ((CR.take i).filter kb).map (·.f0) by rw [HTK.out, List.filter_append, List.filter_cons_of_neg (by rw [hkx]; decide)]; simp)
       have HNY := Aside0.mk (show ((CR.take (i + 1)).filter fun x => !kb x).map (·.f0) = ((CR.take i).filter fun x => !kb x).map (·.f0) ++ [x.f0] by rw [HTK.out, List.filter_append, List.filter_cons_of_pos (by rw [hkx]; rfl)]; simp)
       clear hkx
       go_upto_region 16 with fail
       clear hx0 hx1 hx2 hx3 hx4 hx5
       go_region_held3 (fun w' => Below wr.heap.size wr w' ∧ w'.cell? ⟨g2, 0, none⟩ = some (.int .i64 a) ∧ w'.cell? ⟨g2, 1, none⟩ = some (.int .i64 b) ∧ w'.cell? ⟨g2, 2, none⟩ = some (.int .i64 d) ∧ w'.cell? ⟨g2, 3, none⟩ = some (.int .i64 e) ∧ w'.cell? ⟨g3, 0, none⟩ = some (.slice A l.length c) ∧ w'.cell? ⟨g3, 1, none⟩ = some (.int .i64 live) ∧ w'.cell? ⟨g3, 2, none⟩ = some (.int .i64 next) ∧ w'.cell? ⟨g3, 3, none⟩ = some (.int .u64 now) ∧ w'.cell? (ad.add (i * 6)) = some (.int .i64 x.f0) ∧ w'.cell? ⟨(ad.add (i * 6)).block, (ad.add (i * 6)).off + 1, none⟩ = some (.int .i64 x.f1) ∧ w'.cell? ⟨(ad.add (i * 6)).block, (ad.add (i * 6)).off + 2, none⟩ = some (.string x.f2) ∧ w'.cell? ⟨(ad.add (i * 6)).block, (ad.add (i * 6)).off + 3, none⟩ = some (.int .u64 x.f3) ∧ w'.cell? ⟨(ad.add (i * 6)).block, (ad.add (i * 6)).off + 4, none⟩ = some (.bool x.f4) ∧ w'.cell? ⟨(ad.add (i * 6)).block, (ad.add (i * 6)).off + 5, none⟩ = some (.bool x.f5)) (exact HKEEP.out _ (by repeat (with_reducible first | exact Below.refl _ _ | exact And.left (by assumption) | exact HQK.out | apply below_alloc | apply below_drew1))) (first
        | (go_at_call 68; go_loud (with_reducible refine (HKX.out _ ?hb).mono ?_; (case hb => repeat (with_reducible first | exact Below.refl _ _ | apply below_alloc | apply below_drew1)); rintro e wk ⟨rfl, q1, q2⟩; have HBk := Aside0.mk q1; have HQK := Aside0.mk q2; clear q1 q2)))
       have HTk := Aside0.mk (blk_below HTr.out HQK.out)
       have HPk := Aside0.mk (blk_below HPr.out HQK.out)
       have HIk := Aside0.mk (Kd.R_below HI.out HQK.out)
       have HOk := Aside0.mk (Kd.R_below HO.out HQK.out)
       have HLk := Aside0.mk (Kd.R_below HLr.out HQK.out)
       have hxk := (HKEEP.out _ HQK.out).2.2.2.2.2.2.2.2.2.1
       go_wp2_with ((with_reducible refine gate_builtin (b := .append) (xs := #[.tmp 68, .tmp 74]) rfl ?_); at_builtin; refine Kd.R_append (Kd.int .i64) (w0 := w) w.heap.size rfl (.tmp 68) (.tmp 74) 34 3 (.int .i64 0) 8 rfl Tryz.underlying34 info3 rfl (by decide) (by omega) u11 (((CR.take i).filter fun x => !kb x).map (·.f0)) x.f0 [.int .i64 x.f0] (fun _ => True) (fun _ => False) rfl ?aX rfl (fun _ hk => hk.elim) (fun _ _ => trivial) HOk.out HBk.out (below_size HBk.out) (Nat.le_trans (Nat.mul_le_mul_right 8 (Nat.succ_le_succ HON.out)) (by decide)) ?_; (case aX => first | rfl | (go_simp; done)); intro v7 w7 ho hb hg hat; have HN7 := Aside0.mk ho; have HB7 := Aside0.mk hb; have HT7 := Aside0.mk (blk_grown HTk.out hg (Kd.R_ne HOk.out HTk.out (by decide))); have HP7 := Aside0.mk (blk_grown HPk.out hg (Kd.R_ne HOk.out HPk.out (by decide))); have HL7 := Aside0.mk (rlinks_stay HLk.out HOk.out hg); have HM7 := Aside0.mk (two_stay HTW.out.symm HIk.out hg); have HW7 := Aside0.mk (TwoB.step HTW.out.symm HIk.out hat).symm; clear ho hb hg hat)
       go_roundg (CR.length - (i + 1))
       case measure => omega
       case rel => exact ⟨i + 1, by go_num, by omega, by omega, HB7, HT7, HP7, ⟨by rw [HNX.out]; exact HM7.out⟩, ⟨by rw [HNY.out]; exact HN7.out⟩, HW7, HL7⟩
     ·have hltz : decide ((i : Int) < (CR.length : Int)) = false := decide_eq_false (by omega)
      rw [List.take_of_length_le (by omega)] at HI HO
      go_wp2
      refine bodyPost_ret (results_tmp2 rfl _ _ _) rfl ?_
      exact ⟨_, _, rfl, HI.out, HO.out, HBr.out⟩
 ·have HN := Aside0.mk (show keepV a b d e (l.map toL) live next = [] ∧ dropsV a b d e (l.map toL) live next = [] by unfold keepV dropsV; rw [if_neg hbad, if_neg hbad]; exact ⟨rfl, rfl⟩)
  obtain ⟨K, hK⟩ : ∃ K, K = keepV a b d e (l.map toL) live next := ⟨_, rfl⟩
  obtain ⟨D, hD⟩ : ∃ D, D = dropsV a b d e (l.map toL) live next := ⟨_, rfl⟩
  rw [← hK, ← hD] at HN ⊢
  clear hK hD
  cases hp : rightP a b d e with
  | false =>
   rw [hp] at HP
   generalize rightT (l.map toL) live next = rt at HR
   clear hr hc hs htm hp hbad
   go_enter Tryz.func42, Tryz.ntmps42
   go_wp2_with (first
   | ((with_reducible refine gate_dst (N := 2) rfl ?_); refine box_event ?hg (N := 2) ?hd (cs := #[.int .i64 a, .int .i64 b, .int .i64 d, .int .i64 e]) (t := 37) ?hr ?_; (case hd => rfl); (case hg => rfl); (case hr => first | (go_simp; done) | (go_simp; rfl)); intro g2 hg2 wb2 hbox hb; have HB2 := Aside0.mk (below_step HB.out hb); have BK2 := Aside0.mk hbox; have HG2 := Aside0.mk (show w.heap.size ≤ g2 by rw [hg2]; exact below_size HB.out); clear hg2 hb hbox; have hb2_0 := blk_cell BK2.out 0; have hb2_1 := blk_cell BK2.out 1; have hb2_2 := blk_cell BK2.out 2; have hb2_3 := blk_cell BK2.out 3)
   | ((with_reducible refine gate_dst (N := 3) rfl ?_); refine box_event ?hg (N := 3) ?hd (cs := #[.slice A l.length c, .int .i64 live, .int .i64 next, .int .u64 now]) (t := 41) ?hr ?_; (case hd => rfl); (case hg => rfl); (case hr => first | (go_simp; done) | (go_simp; rfl)); intro g3 hg3 wb3 hbox hb; have HB3 := Aside0.mk (below_step HB2.out hb); have BK3 := Aside0.mk hbox; have HG3 := Aside0.mk (show w.heap.size ≤ g3 by rw [hg3]; exact below_size HB2.out); have BP3 := Aside0.mk (blk_below BK2.out hb); clear hg3 hb hbox; have hb3_0 := blk_cell BK3.out 0; have hb3_1 := blk_cell BK3.out 1; have hb3_2 := blk_cell BK3.out 2; have hb3_3 := blk_cell BK3.out 3; have hp0 := blk_cell BP3.out 0; have hp1 := blk_cell BP3.out 1; have hp2 := blk_cell BP3.out 2; have hp3 := blk_cell BP3.out 3)
   | (go_at_call 30; go_loud (refine (HP.out _ HB3.out).mono ?_; rintro ex w4 ⟨rfl, q1, q2⟩; have HB4 := Aside0.mk q1; have BT4 := Aside0.mk (blk_below BK3.out q2); have BP4 := Aside0.mk (blk_below BP3.out q2); clear q1 q2 hb2_0 hb2_1 hb2_2 hb2_3 hb3_0 hb3_1 hb3_2 hb3_3 hp0 hp1 hp2 hp3; have ht0 := blk_cell BT4.out 0; have ht1 := blk_cell BT4.out 1; have ht2 := blk_cell BT4.out 2; have ht3 := blk_cell BT4.out 3))
   | (go_at_call 67; go_loud (refine (HR.out _ HB4.out).mono ?_; rintro ex w5 ⟨rfl, q1, q2⟩; have HB5 := Aside0.mk q1; have BT5 := Aside0.mk (blk_below BT4.out q2); have BP5 := Aside0.mk (blk_below BP4.out q2); clear q1 q2 ht0 ht1 ht2 ht3; have hv0 := blk_cell BT5.out 0)))
   refine bodyPost_ret (results_tmp2 rfl _ _ _) rfl ?_
   exact ⟨_, _, rfl, by rw [HN.out.1]; exact Kd.R_nil _ _ _ _ _, by rw [HN.out.2]; exact Kd.R_nil _ _ _ _ _, HB5.out⟩
  | true =>
   have hrt : rightT (l.map toL) live next = false := by
    cases h : rightT (l.map toL) live next with
    | false => rfl
    | true => exact absurd ⟨hp, h⟩ hbad
   rw [hp] at HP
   rw [hrt] at HR
   clear hr hc hs htm hp hbad hrt
   go_enter Tryz.func42, Tryz.ntmps42
   go_wp2_with (first
   | ((with_reducible refine gate_dst (N := 2) rfl ?_); refine box_event ?hg (N := 2) ?hd (cs := #[.int .i64 a, .int .i64 b, .int .i64 d, .int .i64 e]) (t := 37) ?hr ?_; (case hd => rfl); (case hg => rfl); (case hr => first | (go_simp; done) | (go_simp; rfl)); intro g2 hg2 wb2 hbox hb; have HB2 := Aside0.mk (below_step HB.out hb); have BK2 := Aside0.mk hbox; have HG2 := Aside0.mk (show w.heap.size ≤ g2 by rw [hg2]; exact below_size HB.out); clear hg2 hb hbox; have hb2_0 := blk_cell BK2.out 0; have hb2_1 := blk_cell BK2.out 1; have hb2_2 := blk_cell BK2.out 2; have hb2_3 := blk_cell BK2.out 3)
   | ((with_reducible refine gate_dst (N := 3) rfl ?_); refine box_event ?hg (N := 3) ?hd (cs := #[.slice A l.length c, .int .i64 live, .int .i64 next, .int .u64 now]) (t := 41) ?hr ?_; (case hd => rfl); (case hg => rfl); (case hr => first | (go_simp; done) | (go_simp; rfl)); intro g3 hg3 wb3 hbox hb; have HB3 := Aside0.mk (below_step HB2.out hb); have BK3 := Aside0.mk hbox; have HG3 := Aside0.mk (show w.heap.size ≤ g3 by rw [hg3]; exact below_size HB2.out); have BP3 := Aside0.mk (blk_below BK2.out hb); clear hg3 hb hbox; have hb3_0 := blk_cell BK3.out 0; have hb3_1 := blk_cell BK3.out 1; have hb3_2 := blk_cell BK3.out 2; have hb3_3 := blk_cell BK3.out 3; have hp0 := blk_cell BP3.out 0; have hp1 := blk_cell BP3.out 1; have hp2 := blk_cell BP3.out 2; have hp3 := blk_cell BP3.out 3)
   | (go_at_call 30; go_loud (refine (HP.out _ HB3.out).mono ?_; rintro ex w4 ⟨rfl, q1, q2⟩; have HB4 := Aside0.mk q1; have BT4 := Aside0.mk (blk_below BK3.out q2); have BP4 := Aside0.mk (blk_below BP3.out q2); clear q1 q2 hb2_0 hb2_1 hb2_2 hb2_3 hb3_0 hb3_1 hb3_2 hb3_3 hp0 hp1 hp2 hp3; have ht0 := blk_cell BT4.out 0; have ht1 := blk_cell BT4.out 1; have ht2 := blk_cell BT4.out 2; have ht3 := blk_cell BT4.out 3))
   | (go_at_call 67; go_loud (refine (HR.out _ HB4.out).mono ?_; rintro ex w5 ⟨rfl, q1, q2⟩; have HB5 := Aside0.mk q1; have BT5 := Aside0.mk (blk_below BT4.out q2); have BP5 := Aside0.mk (blk_below BP4.out q2); clear q1 q2 ht0 ht1 ht2 ht3; have hv0 := blk_cell BT5.out 0)))
   refine bodyPost_ret (results_tmp2 rfl _ _ _) rfl ?_
   exact ⟨_, _, rfl, by rw [HN.out.1]; exact Kd.R_nil _ _ _ _ _, by rw [HN.out.2]; exact Kd.R_nil _ _ _ _ _, HB5.out⟩
end Go.Proofs.YtfdlbnfjohpdlaaGreatDoor.PPo
namespace Go.Proofs.YtfdlbnfjohpdlaaGreatDoor.PPo
open Go.RowKit Go.Proofs.YtfdlbnfjohpdlaaGreatDoor.Th Go.Proofs.YtfdlbnfjohpdlaaGreatDoorW.PrintWords Go.Proofs.YtfdlbnfjohpdlaaGreatDoorW.PrintLast Go.Proofs.YtfdlbnfjohpdlaaGreatDoorW.PrintMore
attribute [local go_sem] max2_int min2_int max_two min_two max_three min_three max_four min_four
set_option linter.unusedVariables false
set_option linter.unusedSimpArgs false
set_option maxHeartbeats 4000000 in
set_option maxRecDepth 100000 in
theorem refKeep.calls (a b d e : Int) (A : Option Addr) (c : Nat) (l : List Lr) (live next now : Int) (w : World) (hr : Kd.C k81 w A l.length l) (hc : l.length ≤ c) (hs : ∀ x ∈ l, x.f2.size ≤ 4611686018427387900) (htm : ∀ x ∈ l, Tm (toL x)) :
  Calls Tryz.prog 14 #[.agg #[.int .i64 a, .int .i64 b, .int .i64 d, .int .i64 e], .agg #[.slice A l.length c, .int .i64 live, .int .i64 next, .int .u64 now]] w fun ex w' => ∃ v, ex = .returned v ∧ Kd.R (Kd.int .i64) 3 w' w.heap.size (fun _ => True) v (keepV a b d e (l.map toL) live next) ∧ Below w.heap.size w w' := by
 have hu := Tryz.underlying41
 have hup := Tryz.underlying37
 have HB := Aside0.mk (Below.refl w.heap.size w)
 have HP := Aside0.mk (show ∀ W, Below w.heap.size w W → Calls Tryz.prog 42 #[.agg #[.int .i64 a, .int .i64 b, .int .i64 d, .int .i64 e], .agg #[.slice A l.length c, .int .i64 live, .int .i64 next, .int .u64 now]] W fun ex w' => ∃ v1 v2, ex = .returned (.tuple #[v1, v2]) ∧ Kd.R (Kd.int .i64) 3 w' w.heap.size (fun _ => True) v1 (keepV a b d e (l.map toL) live next) ∧ Kd.R (Kd.int .i64) 3 w' w.heap.size (fun _ => True) v2 (dropsV a b d e (l.map toL) live next) ∧ Below w.heap.size w w' from fun W hW =>
  (partedR.calls a b d e A c l live next now W (Kd.C_below hr hW) hc hs htm).mono fun ex w' ⟨v1, v2, q0, q1, q2, q3⟩ => ⟨v1, v2, q0, Kd.R_lower q1 (below_size hW), Kd.R_lower q2 (below_size hW), hW.trans (q3.mono (below_size hW))⟩)
 generalize keepV a b d e (l.map toL) live next = K at HP ⊢
 generalize dropsV a b d e (l.map toL) live next = D at HP ⊢
 clear hr hc hs htm
 go_enter Tryz.func14, Tryz.ntmps14
 go_wp2_with (first
  | ((with_reducible refine gate_dst (N := 2) rfl ?_); refine box_event ?hg (N := 2) ?hd (cs := #[.int .i64 a, .int .i64 b, .int .i64 d, .int .i64 e]) (t := 37) ?hr ?_; (case hd => rfl); (case hg => rfl); (case hr => first | (go_simp; done) | (go_simp; rfl)); intro g2 hg2 wb2 hbox hb; have HB2 := Aside0.mk (below_step HB.out hb); have BK2 := Aside0.mk hbox; have HG2 := Aside0.mk (show w.heap.size ≤ g2 by rw [hg2]; exact below_size HB.out); clear hg2 hb hbox; have hb2_0 := blk_cell BK2.out 0; have hb2_1 := blk_cell BK2.out 1; have hb2_2 := blk_cell BK2.out 2; have hb2_3 := blk_cell BK2.out 3)
  | ((with_reducible refine gate_dst (N := 3) rfl ?_); refine box_event ?hg (N := 3) ?hd (cs := #[.slice A l.length c, .int .i64 live, .int .i64 next, .int .u64 now]) (t := 41) ?hr ?_; (case hd => rfl); (case hg => rfl); (case hr => first | (go_simp; done) | (go_simp; rfl)); intro g3 hg3 wb3 hbox hb; have HB3 := Aside0.mk (below_step HB2.out hb); have BK3 := Aside0.mk hbox; have HG3 := Aside0.mk (show w.heap.size ≤ g3 by rw [hg3]; exact below_size HB2.out); have BP3 := Aside0.mk (blk_below BK2.out hb); clear hg3 hb hbox; have hb3_0 := blk_cell BK3.out 0; have hb3_1 := blk_cell BK3.out 1; have hb3_2 := blk_cell BK3.out 2; have hb3_3 := blk_cell BK3.out 3; have hp0 := blk_cell BP3.out 0; have hp1 := blk_cell BP3.out 1; have hp2 := blk_cell BP3.out 2; have hp3 := blk_cell BP3.out 3)
  | (go_at_call 42; go_loud (refine (HP.out _ HB3.out).mono ?_; rintro ex w4 ⟨v1, v2, rfl, q1, q2, q3⟩; have HV := Aside0.mk q1; have HB4 := Aside0.mk q3; clear q1 q2 q3)))
 go_ret
 exact ⟨_, rfl, HV.out, HB4.out⟩
set_option maxHeartbeats 4000000 in
set_option maxRecDepth 100000 in
theorem refDrops.calls (a b d e : Int) (A : Option Addr) (c : Nat) (l : List Lr) (live next now : Int) (w : World) (hr : Kd.C k81 w A l.length l) (hc : l.length ≤ c) (hs : ∀ x ∈ l, x.f2.size ≤ 4611686018427387900) (htm : ∀ x ∈ l, Tm (toL x)) :
  Calls Tryz.prog 18 #[.agg #[.int .i64 a, .int .i64 b, .int .i64 d, .int .i64 e], .agg #[.slice A l.length c, .int .i64 live, .int .i64 next, .int .u64 now]] w fun ex w' => ∃ v, ex = .returned v ∧ Kd.R (Kd.int .i64) 3 w' w.heap.size (fun _ => True) v (dropsV a b d e (l.map toL) live next) ∧ Below w.heap.size w w' := by
 have hu := Tryz.underlying41
 have hup := Tryz.underlying37
 have HB := Aside0.mk (Below.refl w.heap.size w)
 have HP := Aside0.mk (show ∀ W, Below w.heap.size w W → Calls Tryz.prog 42 #[.agg #[.int .i64 a, .int .i64 b, .int .i64 d, .int .i64 e], .agg #[.slice A l.length c, .int .i64 live, .int .i64 next, .int .u64 now]] W fun ex w' => ∃ v1 v2, ex = .returned (.tuple #[v1, v2]) ∧ Kd.R (Kd.int .i64) 3 w' w.heap.size (fun _ => True) v1 (keepV a b d e (l.map toL) live next) ∧ Kd.R (Kd.int .i64) 3 w' w.heap.size (fun _ => True) v2 (dropsV a b d e (l.map toL) live next) ∧ Below w.heap.size w w' from fun W hW =>
  (partedR.calls a b d e A c l live next now W (Kd.C_below hr hW) hc hs htm).mono fun ex w' ⟨v1, v2, q0, q1, q2, q3⟩ => ⟨v1, v2, q0, Kd.R_lower q1 (below_size hW), Kd.R_lower q2 (below_size hW), hW.trans (q3.mono (below_size hW))⟩)
 generalize keepV a b d e (l.map toL) live next = K at HP ⊢
 generalize dropsV a b d e (l.map toL) live next = D at HP ⊢
 clear hr hc hs htm
 go_enter Tryz.func18, Tryz.ntmps18
 go_wp2_with (first
  | ((with_reducible refine gate_dst (N := 2) rfl ?_); refine box_event ?hg (N := 2) ?hd (cs := #[.int .i64 a, .int .i64 b, .int .i64 d, .int .i64 e]) (t := 37) ?hr ?_; (case hd => rfl); (case hg => rfl); (case hr => first | (go_simp; done) | (go_simp; rfl)); intro g2 hg2 wb2 hbox hb; have HB2 := Aside0.mk (below_step HB.out hb); have BK2 := Aside0.mk hbox; have HG2 := Aside0.mk (show w.heap.size ≤ g2 by rw [hg2]; exact below_size HB.out); clear hg2 hb hbox; have hb2_0 := blk_cell BK2.out 0; have hb2_1 := blk_cell BK2.out 1; have hb2_2 := blk_cell BK2.out 2; have hb2_3 := blk_cell BK2.out 3)
  | ((with_reducible refine gate_dst (N := 3) rfl ?_); refine box_event ?hg (N := 3) ?hd (cs := #[.slice A l.length c, .int .i64 live, .int .i64 next, .int .u64 now]) (t := 41) ?hr ?_; (case hd => rfl); (case hg => rfl); (case hr => first | (go_simp; done) | (go_simp; rfl)); intro g3 hg3 wb3 hbox hb; have HB3 := Aside0.mk (below_step HB2.out hb); have BK3 := Aside0.mk hbox; have HG3 := Aside0.mk (show w.heap.size ≤ g3 by rw [hg3]; exact below_size HB2.out); have BP3 := Aside0.mk (blk_below BK2.out hb); clear hg3 hb hbox; have hb3_0 := blk_cell BK3.out 0; have hb3_1 := blk_cell BK3.out 1; have hb3_2 := blk_cell BK3.out 2; have hb3_3 := blk_cell BK3.out 3; have hp0 := blk_cell BP3.out 0; have hp1 := blk_cell BP3.out 1; have hp2 := blk_cell BP3.out 2; have hp3 := blk_cell BP3.out 3)
  | (go_at_call 42; go_loud (refine (HP.out _ HB3.out).mono ?_; rintro ex w4 ⟨v1, v2, rfl, q1, q2, q3⟩; have HV := Aside0.mk q2; have HB4 := Aside0.mk q3; clear q1 q2 q3)))
 go_ret
 exact ⟨_, rfl, HV.out, HB4.out⟩
end Go.Proofs.YtfdlbnfjohpdlaaGreatDoor.PPo
namespace Go.Proofs.YtfdlbnfjohpdlaaGreatDoor.Th
open Go.RowKit Go.Lib Go.Proofs.YtfdlbnfjohpdlaaGreatDoor.PPo Go.Proofs.YtfdlbnfjohpdlaaGreatDoorW.PrintWords
set_option linter.unusedVariables false
abbrev Nd := S68
def TmN (x : Nd) : Prop := 0 ≤ x.f0 ∧ x.f0 < 18446744073709551616
/-- Links that are no great ones. -/
def Small (l : List Lk) : Prop := ∀ x ∈ l, x.f2.size ≤ 120 ∧ Tm x
theorem rdN_get (l : List Nd) (i : Nat) (h : i < l.length) : rd_T68 l (i : Int) = l[i] := by simp [rd_T68, List.getD_eq_getElem?_getD, h]
theorem grown_ev (l : List Nd) (live : Int) (ht : ∀ x ∈ l, TmN x) : ∃ lu lv nx nw, Evt (fun k => rootcellarlaw16_grown.f k l live) (lu, lv, nx, nw) ∧ lu.length ≤ 51 ∧ Small lu := by
 have key : ∀ (m i : Nat) (acc : List Lk) (nx : Int), i + m = min l.length 50 → acc.length ≤ i + 1 → Small acc → ∃ lu lv nx' nw, Evt (fun k => rootcellarlaw16_grown.l0 k l live (i : Int) acc 1 nx 0) (lu, lv, nx', nw) ∧ lu.length ≤ 51 ∧ Small lu := by
  intro m
  induction m with
  | zero =>
   intro i acc nx hi hl hs
   refine ⟨acc, wrap64 (1 + (mx 0 (mn live (wrap64 ((acc.length : Int) - 1))))), nx, 0, Evt.step (fun k => by rw [rootcellarlaw16_grown.l0]) ?_, by omega, hs⟩
   by_cases h1 : (i : Int) < (l.length : Int)
   ·refine Evt.pos h1 (Evt.neg (by omega) (Evt.val _))
   ·exact Evt.neg h1 (Evt.val _)
  | succ m ih =>
   intro i acc nx hi hl hs
   have hil : i < l.length := by omega
   have hx := ht l[i] (List.getElem_mem hil)
   obtain ⟨lu, lv, nx', nw, h1, h2, h3⟩ := ih (i + 1) (acc ++ [(⟨wrap64 ((i : Int) + 2), wrap64 (1 + (mx 0 (mn ((rd_T68 l (i : Int)).f2) (i : Int)))), (⟨#[110]⟩ : ByteArray), (rd_T68 l (i : Int)).f0, false, (rd_T68 l (i : Int)).f1⟩ : Lk)]) (wrap64 ((i : Int) + 3)) (by omega) (by rw [List.length_append]; simp; omega) (fun x hx' => by
    rcases List.mem_append.1 hx' with h | h
    ·exact hs x h
    ·obtain rfl := List.mem_singleton.1 h
     rw [rdN_get l i hil]
     exact ⟨show (⟨#[110]⟩ : ByteArray).size ≤ 120 by decide, hx⟩)
   refine ⟨lu, lv, nx', nw, Evt.step (fun k => by rw [rootcellarlaw16_grown.l0]) ?_, h2, h3⟩
   refine Evt.pos (by omega) (Evt.pos (by omega) (Evt.pos (by omega) (Evt.pos (by omega) ?_)))
   rw [idxP i (by omega)]
   exact h1
 unfold rootcellarlaw16_grown.f
 exact key (min l.length 50) 0 _ 2 (by omega) (by simp) (fun x hx => by
  obtain rfl := List.mem_singleton.1 hx
  exact ⟨by decide, by unfold Tm; decide⟩)
def nodes4 : List Nd := [⟨432000, false, 0⟩, ⟨432001, false, 0⟩, ⟨604800, false, 0⟩, ⟨777600, false, 0⟩]
def links5 : List Lk := [⟨1, 0, ⟨#[114, 111, 111, 116]⟩, 0, false, false⟩, ⟨2, 1, ⟨#[110]⟩, 432000, false, false⟩, ⟨3, 1, ⟨#[110]⟩, 432001, false, false⟩, ⟨4, 1, ⟨#[110]⟩, 604800, false, false⟩, ⟨5, 1, ⟨#[110]⟩, 777600, false, false⟩]
theorem grown4 : rootcellarlaw16_grown.f 9 nodes4 0 = some (links5, 1, 6, 0) := by kernel_rfl
theorem keep4 : keepV 2 0 0 0 links5 1 6 = [1, 4, 5] := by decide +kernel
theorem drops4 : dropsV 2 0 0 0 links5 1 6 = [2, 3] := by decide +kernel
end Go.Proofs.YtfdlbnfjohpdlaaGreatDoor.Th
namespace Go.Proofs.YtfdlbnfjohpdlaaGreatDoor.PPo
open Go.RowKit Go.Proofs.YtfdlbnfjohpdlaaGreatDoorW.PrintWords Go.Proofs.YtfdlbnfjohpdlaaGreatDoorW.PrintLast Go.Proofs.YtfdlbnfjohpdlaaGreatDoorW.PrintMore
attribute [local go_sem] max2_int min2_int max_two min_two max_three min_three max_four min_four
set_option linter.unusedVariables false
set_option linter.unusedSimpArgs false
/-- The one variable that a split reads: it holds some number. -/
def MaxW (w : World) : Prop := ∃ m : Int, w.cell? ⟨Tryz.laySplit_ren.g 1, 0, none⟩ = some (.int .i64 m)
theorem MaxW.below {w w' : World} (h : MaxW w) (hb : Below w.heap.size w w') : MaxW w' := by
 obtain ⟨m, hm⟩ := h
 exact ⟨m, (hb.cell (World.block_lt_of_cell? w _ hm)).trans hm⟩
theorem strOfNums_bytesOf (s : ByteArray) : strOfNums (bytesOf s) = s := by
 unfold bytesOf
 rw [Lib.Lz.strOfNums_map]
/-- A text without capitals is as it is. -/
def plainS (s : ByteArray) : Prop := ∀ j, j < s.size → ¬ (65 ≤ (bytesOf s).getD j 0 ∧ (bytesOf s).getD j 0 ≤ 90)
set_option maxHeartbeats 2000000 in
set_option maxRecDepth 100000 in
theorem foldId.calls (s : ByteArray) (hs : s.size ≤ 1000) (hp : plainS s) (w : World) : Calls Tryz.prog 49 #[.string s] w fun e w' => e = .returned (.string s) ∧ Below w.heap.size w w' := by
 have kb := print_bytes (P := Tryz.prog) 9 114 5 Tryz.underlying9 Tryz.underlying114 Tryz.underlying5 s w
 have hrd := bytes_reads w 5 s (by omega)
 have HB0 := Aside0.mk (bytes_below (Below.refl w.heap.size w) (Nat.le_refl _) 5 s)
 have hlen := bytesOf_length s
 have HRD := Aside0.mk (show ∀ W, Below (Lib.bytesWorld w 5 s).heap.size (Lib.bytesWorld w 5 s) W → ReadsInt W .u8 (some ⟨w.heap.size, 0, none⟩) s.size (bytesOf s) from fun W hW => ⟨hrd.1, hrd.2.1, fun hp => by
  obtain ⟨ad, e, h⟩ := hrd.2.2 hp
  exact ⟨ad, e, fun j hj => (hW.cell (World.block_lt_of_cell? _ _ (h j hj))).trans (h j hj)⟩⟩)
 have HPL := Aside0.mk hp
 have HST := Aside0.mk (strOfNums_bytesOf s)
 generalize grownCap w s.size 0 5 = cap at kb
 clear hrd hp
 go_enter Tryz.func49, Tryz.ntmps49
 go_wp2
 generalize hwb : Lib.bytesWorld w 5 s = wb at HRD HB0 ⊢
 clear hwb kb
 go_loopg [10] s.size (fun gg s10 wr => ∃ i : Nat, s10 = .int .i64 i ∧ i ≤ s.size ∧ s.size - i ≤ gg ∧ Aside0 (Below wb.heap.size wb wr))
 case atStart => exact ⟨0, rfl, Nat.zero_le _, by omega, ⟨Below.refl _ _⟩⟩
 case round =>
  obtain ⟨i, rfl, hi, hg, HBr⟩ := hrel
  by_cases hlt : i < s.size
  ·have hltz : decide ((i : Int) < (s.size : Int)) = true := decide_eq_true (by omega)
   have hi0 : (0 : Int) ≤ (i : Int) := by omega
   have hi1 : (i : Int) < (s.size : Int) := by omega
   obtain ⟨ad, e, hcl⟩ := (HRD.out wr HBr.out).2.2 (by omega)
   cases e
   have hx := hcl i hlt
   rw [add_plain] at hx
   have hnot := HPL.out i hlt
   clear hcl
   generalize (bytesOf s).getD i 0 = x at hx hnot
   have hz0 : (⟨w.heap.size, 0, none⟩ : Addr).add i = ⟨w.heap.size, i, none⟩ := add_plain _ _
   cases h65 : decide (65 ≤ x) with
   | false =>
    clear hnot
    go_wp2
    go_roundg (s.size - (i + 1))
    case measure => omega
    case rel => exact ⟨i + 1, by go_num, by omega, by omega, HBr⟩
   | true =>
    have h90 : decide (x ≤ 90) = false := decide_eq_false (fun h => hnot ⟨of_decide_eq_true h65, h⟩)
    clear hnot
    go_wp2
    go_roundg (s.size - (i + 1))
    case measure => omega
    case rel => exact ⟨i + 1, by go_num, by omega, by omega, HBr⟩
  ·have hltz : decide ((i : Int) < (s.size : Int)) = false := decide_eq_false (by omega)
   have hcv : (convert 114 9 (.slice (some ⟨w.heap.size, 0, none⟩) s.size cap)).run Tryz.prog wr = .ok (.string s) wr := by
    have h := string_of_reads (P := Tryz.prog) (src := 114) (dst := 9) (e := 5) (c := cap) Tryz.underlying114 Tryz.underlying5 Tryz.underlying9 (HRD.out wr HBr.out)
    rw [HST.out] at h
    exact h
   go_wp2
   go_ret
   exact ⟨rfl, HB0.out.trans (HBr.out.mono (below_size HB0.out))⟩
/-- The first rune of a text. -/
def first1 (s : ByteArray) : ByteArray := s.extract 0 (Utf8.decode s 0).2
set_option maxHeartbeats 2000000 in
set_option maxRecDepth 100000 in
theorem first1.calls (s : ByteArray) (hs : 0 < s.size) (hw : 1 ≤ (Utf8.decode s 0).2 ∧ (Utf8.decode s 0).2 ≤ s.size) (hs2 : s.size ≤ 1000) (w : World) : Calls Tryz.prog 50 #[.string s, .int .i64 1] w fun e w' => e = .returned (.string (first1 s)) ∧ Below w.heap.size w w' := by
 have HF := Aside0.mk (show first1 s = s.extract 0 (Utf8.decode s 0).2 from rfl)
 generalize first1 s = F at HF ⊢
 have hdc : ∃ d, d = (Utf8.decode s 0).2 := ⟨_, rfl⟩
 obtain ⟨d, hd⟩ := hdc
 rw [← hd] at hw HF
 have HD := Aside0.mk hd
 clear hd
 go_enter Tryz.func50, Tryz.ntmps50
 go_wp2
 go_loopw [1] (fun s1 wr => ∃ (pos n : Nat), s1 = .int .i64 n ∧ wr.heap[w.heap.size]? = some (.stringIter s pos) ∧ Aside0 (Below w.heap.size w wr) ∧ ((pos = 0 ∧ n = 1) ∨ (pos = d ∧ n = 0))) (fun _ wr => s.size - wr.iterPos w.heap.size)
 case atStart => exact ⟨0, 1, rfl, World.iter_heap w s 0, ⟨(Below.refl _ w).alloc (Nat.le_refl _) _⟩, .inl ⟨rfl, rfl⟩⟩
 case round =>
  obtain ⟨pos, n, rfl, hit, hbw, hpn⟩ := hrel
  rcases hpn with ⟨rfl, rfl⟩ | ⟨rfl, rfl⟩
  ·have hnx : ∀ ty, (Instr.next (.pointer (some ⟨w.heap.size, 0, none⟩)) true ty).run Tryz.prog wr = _ := fun ty => Lib.run_next_any_at wr w.heap.size s 0 ty hit hs
   have hit2 := Lib.iterAt_heap wr w.heap.size s 0 (0 + (Utf8.decode s 0).2) hit
   have hbw2 := Aside0.mk (Lib.below_iterAt hbw.out (k := w.heap.size) (Nat.le_refl _) s (0 + (Utf8.decode s 0).2))
   rw [Nat.zero_add] at hit2 hbw2
   have HI2 := Aside0.mk hit2
   go_wp2
   go_roundw
   case rel => exact ⟨d, 0, by first | rfl | go_num, by rw [HD.out]; exact HI2.out, hbw2, .inr ⟨rfl, rfl⟩⟩
   case measure =>
    have h2 := HI2.out
    have h3 := HD.out
    simp only [World.iterPos, h2, hit]
    omega
  ·by_cases hp : pos < s.size
   ·have hnx : ∀ ty, (Instr.next (.pointer (some ⟨w.heap.size, 0, none⟩)) true ty).run Tryz.prog wr = _ := fun ty => Lib.run_next_any_at wr w.heap.size s pos ty hit hp
    have hbw2 := Aside0.mk (Lib.below_iterAt hbw.out (k := w.heap.size) (Nat.le_refl _) s (pos + (Utf8.decode s pos).2))
    have hpi : (pos : Int) ≤ (s.size : Int) := by omega
    go_wp2
    go_ret
    exact ⟨by rw [HF.out]; rfl, hbw2.out⟩
   ·have hnx : ∀ ty, (Instr.next (.pointer (some ⟨w.heap.size, 0, none⟩)) true ty).run Tryz.prog wr = _ := fun ty => Lib.run_next_end_at wr w.heap.size s pos ty hit hp
    have hps : pos = s.size := by omega
    have HE := Aside0.mk (show F = s by rw [HF.out, hps]; exact ByteArray.extract_zero_size)
    go_wp2
    go_ret
    exact ⟨by rw [HE.out]; rfl, hbw.out⟩
theorem itoa2 : (⟨(Lib.decDigits 2).toArray⟩ : ByteArray) = ⟨#[50]⟩ := by simp [Lib.decDigits]
set_option maxHeartbeats 2000000 in
set_option maxRecDepth 100000 in
theorem count2.calls (w : World) : Calls Tryz.prog 52 #[.string ⟨#[50]⟩] w fun e w' => e = .returned (.tuple #[.int .i64 2, .bool true]) ∧ Below w.heap.size w w' := by
 have HIT := Aside0.mk (show ∀ W, Calls Tryz.prog 58 #[.int .i64 2] W fun e w' => e = .returned (.string ⟨#[50]⟩) ∧ w' = W from fun W => by
  have h := Any.strconv_Itoa_small { Tryz.layItoa with } 2 (by decide) W
  rw [itoa2] at h
  exact h)
 obtain ⟨s, hs⟩ : ∃ s : ByteArray, s = ⟨#[50]⟩ := ⟨_, rfl⟩
 rw [← hs] at HIT ⊢
 have hsz : s.size = 1 := by rw [hs]; rfl
 have hdc : Utf8.decode s 0 = (50, 1) := by rw [hs]; rfl
 clear hs
 go_enter Tryz.func52, Tryz.ntmps52
 go_wp2
 go_loopw [4] (fun s4 wr => ∃ (pos n : Nat), s4 = .int .i64 n ∧ wr.heap[w.heap.size]? = some (.stringIter s pos) ∧ Aside0 (Below w.heap.size w wr) ∧ ((pos = 0 ∧ n = 0) ∨ (pos = 1 ∧ n = 2))) (fun _ wr => s.size - wr.iterPos w.heap.size)
 case atStart => exact ⟨0, 0, rfl, World.iter_heap w s 0, ⟨(Below.refl _ w).alloc (Nat.le_refl _) _⟩, .inl ⟨rfl, rfl⟩⟩
 case round =>
  obtain ⟨pos, n, rfl, hit, hbw, hpn⟩ := hrel
  rcases hpn with ⟨rfl, rfl⟩ | ⟨rfl, rfl⟩
  ·have hnx0 : ∀ ty, (Instr.next (.pointer (some ⟨w.heap.size, 0, none⟩)) true ty).run Tryz.prog wr = _ := fun ty => Lib.run_next_any_at wr w.heap.size s 0 ty hit (by omega)
   have hit2 := Lib.iterAt_heap wr w.heap.size s 0 (0 + (Utf8.decode s 0).2) hit
   have hbw2 := Aside0.mk (Lib.below_iterAt hbw.out (k := w.heap.size) (Nat.le_refl _) s (0 + (Utf8.decode s 0).2))
   have hnx := hnx0
   clear hnx0
   simp only [hdc, Nat.zero_add] at hnx hit2 hbw2
   have HI2 := Aside0.mk hit2
   go_wp2
   go_roundw
   case rel => exact ⟨1, 2, by first | rfl | go_num, HI2.out, hbw2, .inr ⟨rfl, rfl⟩⟩
   case measure =>
    have h2 := HI2.out
    simp only [World.iterPos, h2, hit]
    omega
  ·have hnx : ∀ ty, (Instr.next (.pointer (some ⟨w.heap.size, 0, none⟩)) true ty).run Tryz.prog wr = _ := fun ty => Lib.run_next_end_at wr w.heap.size s 1 ty hit (by omega)
   go_wp2_with (go_at_call 58; go_loud (refine (HIT.out _).mono ?_; rintro e w2 ⟨rfl, rfl⟩))
   refine bodyPost_ret (results_tmp2 rfl _ _ _) rfl ?_
   exact ⟨by simp, hbw.out⟩
end Go.Proofs.YtfdlbnfjohpdlaaGreatDoor.PPo
namespace Go.Proofs.YtfdlbnfjohpdlaaGreatDoor.PPo
open Go.RowKit Go.Proofs.YtfdlbnfjohpdlaaGreatDoorW.PrintWords Go.Proofs.YtfdlbnfjohpdlaaGreatDoorW.PrintLast Go.Proofs.YtfdlbnfjohpdlaaGreatDoorW.PrintMore
attribute [local go_sem] max2_int min2_int max_two min_two max_three min_three max_four min_four
set_option linter.unusedVariables false
set_option linter.unusedSimpArgs false
theorem cnt_d2 : Lib.countB ⟨#[100, 50]⟩ ⟨#[32]⟩ = 0 := by decide +kernel
theorem spl_d2 : Lib.splitB ⟨#[32]⟩ 0 0 ⟨#[100, 50]⟩ = [⟨#[100, 50]⟩] := by decide +kernel
theorem fst_d2 : first1 ⟨#[100, 50]⟩ = ⟨#[100]⟩ := by decide +kernel
theorem dec_d2 : (Utf8.decode ⟨#[100, 50]⟩ 0).2 = 1 := by decide +kernel
theorem idx_d : Lib.indexByte [100, 119, 109, 121] 100 = 0 := by decide +kernel
theorem idx_0 : decide (0 ≤ Lib.indexByte [] 100) = false := by decide +kernel
theorem trm_d2 : strings_TrimPrefix.f ⟨#[100, 50]⟩ ⟨#[100]⟩ = some ⟨#[50]⟩ := by decide +kernel
set_option maxHeartbeats 4000000 in
set_option maxRecDepth 100000 in
theorem parse2.calls (w : World) (hm : MaxW w) : Calls Tryz.prog 28 #[.string ⟨#[100, 50]⟩] w fun e w' => e = .returned (.tuple #[.agg #[.int .i64 2, .int .i64 0, .int .i64 0, .int .i64 0], .int .i64 0]) ∧ Below w.heap.size w w' := by
 have hu := Tryz.underlying23
 have hu2 := Tryz.underlying74
 have HB := Aside0.mk (Below.refl w.heap.size w)
 have HSP := Aside0.mk (show ∀ W, Below w.heap.size w W → Calls Tryz.prog 48 #[.string ⟨#[100, 50]⟩, .string ⟨#[32]⟩] W fun e w' => ∃ g, e = .returned (.slice (some ⟨g, 0, none⟩) 1 1) ∧ w'.heap[g]? = some (.cells #[.string ⟨#[100, 50]⟩] 9 (0, 0)) ∧ Below W.heap.size W w' from fun W hW => by
  obtain ⟨m, hm2⟩ := hm.below hW
  refine (Any.strings_Split { Tryz.laySplit with } Tryz.laySplit.i9 ⟨#[100, 50]⟩ ⟨#[32]⟩ m W (by decide) hm2 (by decide)).mono ?_
  rw [cnt_d2, spl_d2]
  rintro e w' ⟨rfl, rfl⟩
  exact ⟨_, rfl, blk_new W _, below_alloc (Below.refl _ _) _⟩)
 have HF1 := Aside0.mk (fun W => first1.calls ⟨#[100, 50]⟩ (by decide) (by rw [dec_d2]; decide) (by decide) W)
 rw [fst_d2] at HF1
 have HFA := Aside0.mk (fun W => foldId.calls ⟨#[100]⟩ (by decide) (by unfold plainS; decide +kernel) W)
 have HFB := Aside0.mk (fun W => foldId.calls ⟨#[100, 50]⟩ (by decide) (by unfold plainS; decide +kernel) W)
 have HIX := Aside0.mk (show ∀ W, Calls Tryz.prog 51 #[.string ⟨#[100, 119, 109, 121]⟩, .string ⟨#[100]⟩] W fun e w' => e = .returned (.int .i64 0) ∧ w' = W from fun W => (Any.strings_Index_one { Tryz.layIndex with } ⟨#[100, 119, 109, 121]⟩ 100 W).mono fun e w' q => ⟨by rw [q.1]; exact congrArg (fun z => Ending.returned (.int .i64 z)) idx_d, q.2⟩)
 have HCT := Aside0.mk (show ∀ W, Calls Tryz.prog 54 #[.string ⟨#[]⟩, .string ⟨#[100]⟩] W fun e w' => e = .returned (.bool false) ∧ w' = W from fun W => (Any.strings_Contains_one { Tryz.layContains with } ⟨#[]⟩ 100 W).mono fun e w' q => ⟨by rw [q.1]; exact congrArg (fun z => Ending.returned (.bool z)) idx_0, q.2⟩)
 have HTP := Aside0.mk (fun W => strings_TrimPrefix.calls _ _ _ W trm_d2)
 have HC2 := Aside0.mk (fun W => count2.calls W)
 go_enter Tryz.func28, Tryz.ntmps28
 go_wp2_with (first
  | ((with_reducible refine gate_dst (N := 2) rfl ?_); refine box_event ?hg (N := 2) ?hd (cs := #[.int .i64 0, .int .i64 0, .int .i64 0, .int .i64 0]) (t := 23) ?hr ?_; (case hd => rfl); (case hg => rfl); (case hr => first | (go_simp; done) | (go_simp; rfl)); intro g2 hg2 wb2 hbox hb; have HB2 := Aside0.mk (below_step HB.out hb); have BK2 := Aside0.mk hbox; have HG2 := Aside0.mk (show w.heap.size ≤ g2 by rw [hg2]; exact below_size HB.out); clear hg2 hb hbox; have hb2_0 := blk_cell BK2.out 0; have hb2_1 := blk_cell BK2.out 1; have hb2_2 := blk_cell BK2.out 2; have hb2_3 := blk_cell BK2.out 3)
  | ((with_reducible refine gate_dst (N := 4) rfl ?_); refine box_event ?hg (N := 4) ?hd (cs := #[.int .i64 0, .int .i64 0, .int .i64 0, .int .i64 0]) (t := 74) ?hr ?_; (case hd => rfl); (case hg => rfl); (case hr => first | (go_simp; done) | (go_simp; rfl)); intro g4 hg4 wb4 hbox hb; have HB4 := Aside0.mk (below_step HB2.out hb); have BK4 := Aside0.mk hbox; have HG4 := Aside0.mk (show w.heap.size ≤ g4 by rw [hg4]; exact below_size HB2.out); have BP4 := Aside0.mk (blk_below BK2.out hb); clear hg4 hb hbox; have hb4_0 := blk_cell BK4.out 0; have hb4_1 := blk_cell BK4.out 1; have hb4_2 := blk_cell BK4.out 2; have hb4_3 := blk_cell BK4.out 3)
  | (go_at_call 48; go_loud (refine (HSP.out _ HB4.out).mono ?_; rintro e w5 ⟨g5, rfl, q1, q2⟩; have HB5 := Aside0.mk (below_step HB4.out q2); have HG5 := Aside0.mk q1; have BP5 := Aside0.mk (blk_below BP4.out q2); have BA5 := Aside0.mk (blk_below BK4.out q2); clear q1 q2 hb2_0 hb2_1 hb2_2 hb2_3 hb4_0 hb4_1 hb4_2 hb4_3)))
 go_loopg [5, 15] 1 (fun gg s5 s15 wr => ∃ (i : Nat) (sn : ByteArray) (c0 : Int), s5 = .string sn ∧ s15 = .int .i64 i ∧ i ≤ 1 ∧ 1 - i ≤ gg ∧ ((i = 0 ∧ sn = ⟨#[]⟩ ∧ c0 = 0) ∨ (i = 1 ∧ c0 = 2)) ∧ Aside0 (Below w.heap.size w wr) ∧ Aside0 (wr.heap[g5]? = some (.cells #[.string ⟨#[100, 50]⟩] 9 (0, 0))) ∧ Aside0 (wr.heap[g2]? = some (.cells #[.int .i64 0, .int .i64 0, .int .i64 0, .int .i64 0] 23 (0, 0))) ∧ Aside0 (wr.heap[g4]? = some (.cells #[.int .i64 c0, .int .i64 0, .int .i64 0, .int .i64 0] 74 (0, 0))))
 case atStart => exact ⟨0, ⟨#[]⟩, 0, rfl, rfl, by omega, by omega, .inl ⟨rfl, rfl, rfl⟩, HB5, HG5, BP5, BA5⟩
 case round =>
  obtain ⟨i, sn, c0, rfl, rfl, hi, hg, hst, HBr, HGr, BPr, BAr⟩ := hrel
  rcases hst with ⟨rfl, rfl, rfl⟩ | ⟨rfl, rfl⟩
  ·have hg0 := blk_cell HGr.out 0
   go_wp2_with (first
    | (go_at_call 50; go_loud (refine (HF1.out _).mono ?_; rintro e wa ⟨rfl, q1⟩; have HA := Aside0.mk q1; clear q1))
    | (go_at_call 49; with_reducible refine (HFA.out _).mono ?_; rintro e wb ⟨rfl, q1⟩; have HBB := Aside0.mk (below_step HA.out q1); clear q1)
    | (go_at_call 51; go_loud (refine (HIX.out _).mono ?_; rintro e wi ⟨rfl, rfl⟩))
    | (go_at_call 49; with_reducible refine (HFB.out _).mono ?_; rintro e wc ⟨rfl, q1⟩; have HCC := Aside0.mk (below_step HBB.out q1); clear q1)
    | (go_at_call 53; go_loud (refine (HTP.out _).mono ?_; rintro e wd ⟨rfl, q1⟩; have HDD := Aside0.mk (below_step HCC.out q1.below); clear q1))
    | (go_at_call 52; go_loud (refine (HC2.out _).mono ?_; rintro e we ⟨rfl, q1⟩; have HEE := Aside0.mk (below_step HDD.out q1); have BAe := Aside0.mk (blk_below BAr.out HEE.out); have BPe := Aside0.mk (blk_below BPr.out HEE.out); have HGe := Aside0.mk (blk_below HGr.out HEE.out); clear q1 hg0; have hc0 := blk_cell BAe.out 0; have hf0 := blk_frozen BAe.out 0))
    | (go_at_call 54; go_loud (refine (HCT.out _).mono ?_; rintro e wg ⟨rfl, rfl⟩)))
   go_roundg (1 - (0 + 1))
   case measure => omega
   case rel => exact ⟨1, _, 2, rfl, by first | rfl | go_num, by omega, by omega, .inr ⟨rfl, rfl⟩, ⟨below_set (below_step HBr.out HEE.out) HG4.out⟩, ⟨blk_far HGe.out (p := ⟨g4, 0, none⟩) (blk_ne HGe.out BAe.out (by decide)) _⟩, ⟨blk_far BPe.out (p := ⟨g4, 0, none⟩) (blk_ne BPe.out BAe.out (by decide)) _⟩, ⟨blk_put BAe.out 0 _ rfl⟩⟩
  ·have ha0 := blk_cell BAr.out 0
   have ha1 := blk_cell BAr.out 1
   have ha2 := blk_cell BAr.out 2
   have ha3 := blk_cell BAr.out 3
   have hp0 := blk_cell BPr.out 0
   have hp1 := blk_cell BPr.out 1
   have hp2 := blk_cell BPr.out 2
   have hp3 := blk_cell BPr.out 3
   have hq0 := blk_frozen BPr.out 0
   have hq1 := blk_frozen BPr.out 1
   have hq2 := blk_frozen BPr.out 2
   have hq3 := blk_frozen BPr.out 3
   go_wp2
   refine bodyPost_ret (results_ct rfl _ _ g2 23 #[.int .i64 2, .int .i64 0, .int .i64 0, .int .i64 0] (0, 0) _ rfl (blk_put (cs := #[.int .i64 2, .int .i64 0, .int .i64 0, .int .i64 0]) (blk_put (cs := #[.int .i64 2, .int .i64 0, .int .i64 0, .int .i64 0]) (blk_put (cs := #[.int .i64 2, .int .i64 0, .int .i64 0, .int .i64 0]) (blk_put (cs := #[.int .i64 0, .int .i64 0, .int .i64 0, .int .i64 0]) BPr.out 0 _ rfl) 1 _ rfl) 2 _ rfl) 3 _ rfl) Tryz.underlying23 rfl (by kernel_rfl)) rfl ?_
   exact ⟨rfl, below_set (below_set (below_set (below_set HBr.out HG2.out) HG2.out) HG2.out) HG2.out⟩
end Go.Proofs.YtfdlbnfjohpdlaaGreatDoor.PPo
namespace Go.Proofs.YtfdlbnfjohpdlaaGreatDoor.PPo
open Go.RowKit Go.Proofs.YtfdlbnfjohpdlaaGreatDoor.Th Go.Proofs.YtfdlbnfjohpdlaaGreatDoorW.PrintWords Go.Proofs.YtfdlbnfjohpdlaaGreatDoorW.PrintLast Go.Proofs.YtfdlbnfjohpdlaaGreatDoorW.PrintMore
set_option linter.unusedVariables false
/-- A call gives a row of ints that is read. -/
abbrev givesI (L : List Int) (w : World) (ex : Ending) (w' : World) : Prop := ∃ A c, ex = .returned (.slice A L.length c) ∧ L.length ≤ c ∧ Kd.C (Kd.int .i64) w' A L.length L ∧ Below w.heap.size w w'
theorem givesI_of {L : List Int} {w w' : World} {ex : Ending} (h : ∃ v, ex = .returned v ∧ Kd.R (Kd.int .i64) 3 w' w.heap.size (fun _ => True) v L ∧ Below w.heap.size w w') : givesI L w ex w' := by
 obtain ⟨v, rfl, h1, h2⟩ := h
 obtain ⟨A, c, rfl, h3, h4⟩ := Kd.R_reads h1
 exact ⟨A, c, rfl, h3, h4, h2⟩
theorem small_size {l : List Lk} (h : Small l) : ∀ x ∈ l, x.f2.size ≤ 9223372036854775807 := fun x hx => by have := (h x hx).1; omega
theorem small_R {l : List Lk} (h : Small l) : (∀ x ∈ l.map toR, x.f2.size ≤ 4611686018427387900) ∧ ∀ x ∈ l.map toR, Tm (toL x) := by
 refine ⟨fun x hx => ?_, fun x hx => ?_⟩
 ·obtain ⟨y, hy, rfl⟩ := List.mem_map.1 hx
  have := (h y hy).1
  show y.f2.size ≤ _
  omega
 ·obtain ⟨y, hy, rfl⟩ := List.mem_map.1 hx
  exact (h y hy).2
theorem keepC.calls (a b d e : Int) (A : Option Addr) (c : Nat) (l : List Lk) (live next now : Int) (w : World) (hr : Kd.C k31 w A l.length l) (hc : l.length ≤ c) (hs : Small l) (ht : TabsW w) :
  Calls Tryz.prog 13 #[.agg #[.int .i64 a, .int .i64 b, .int .i64 d, .int .i64 e], .agg #[.slice A l.length c, .int .i64 live, .int .i64 next, .int .u64 now]] w (givesI (keepV a b d e l live next) w) :=
 (keepR.calls a b d e A c l live next now w hr hc (small_size hs) (fun x hx => (hs x hx).2) ht).mono fun ex w' ⟨v, q1, _, q2, q3⟩ => givesI_of ⟨v, q1, q2, q3⟩
theorem dropsC.calls (a b d e : Int) (A : Option Addr) (c : Nat) (l : List Lk) (live next now : Int) (w : World) (hr : Kd.C k31 w A l.length l) (hc : l.length ≤ c) (hs : Small l) (ht : TabsW w) :
  Calls Tryz.prog 17 #[.agg #[.int .i64 a, .int .i64 b, .int .i64 d, .int .i64 e], .agg #[.slice A l.length c, .int .i64 live, .int .i64 next, .int .u64 now]] w (givesI (dropsV a b d e l live next) w) :=
 (dropsR.calls a b d e A c l live next now w hr hc (small_size hs) (fun x hx => (hs x hx).2) ht).mono fun ex w' q => givesI_of q
theorem refKeepC.calls (a b d e : Int) (A : Option Addr) (c : Nat) (l : List Lk) (live next now : Int) (w : World) (hr : Kd.C k81 w A l.length (l.map toR)) (hc : l.length ≤ c) (hs : Small l) :
  Calls Tryz.prog 14 #[.agg #[.int .i64 a, .int .i64 b, .int .i64 d, .int .i64 e], .agg #[.slice A l.length c, .int .i64 live, .int .i64 next, .int .u64 now]] w (givesI (keepV a b d e l live next) w) := by
 have h := refKeep.calls a b d e A c (l.map toR) live next now w (by rw [List.length_map]; exact hr) (by rw [List.length_map]; exact hc) (small_R hs).1 (small_R hs).2
 rw [map_toL_toR, List.length_map] at h
 exact h.mono fun ex w' q => givesI_of q
theorem refDropsC.calls (a b d e : Int) (A : Option Addr) (c : Nat) (l : List Lk) (live next now : Int) (w : World) (hr : Kd.C k81 w A l.length (l.map toR)) (hc : l.length ≤ c) (hs : Small l) :
  Calls Tryz.prog 18 #[.agg #[.int .i64 a, .int .i64 b, .int .i64 d, .int .i64 e], .agg #[.slice A l.length c, .int .i64 live, .int .i64 next, .int .u64 now]] w (givesI (dropsV a b d e l live next) w) := by
 have h := refDrops.calls a b d e A c (l.map toR) live next now w (by rw [List.length_map]; exact hr) (by rw [List.length_map]; exact hc) (small_R hs).1 (small_R hs).2
 rw [map_toL_toR, List.length_map] at h
 exact h.mono fun ex w' q => givesI_of q
theorem asC.calls (A : Option Addr) (c : Nat) (l : List Lk) (live next now : Int) (w : World) (hl : l.length ≤ 1000) (hr : Kd.C k31 w A l.length l) (hc : l.length ≤ c) :
  Calls Tryz.prog 16 #[.agg #[.slice A l.length c, .int .i64 live, .int .i64 next, .int .u64 now]] w fun ex w' => ∃ A' c', ex = .returned (.agg #[.slice A' l.length c', .int .i64 live, .int .i64 next, .int .u64 now]) ∧ l.length ≤ c' ∧ Kd.C k81 w' A' l.length (l.map toR) ∧ Below w.heap.size w w' := by
 obtain ⟨k, hk⟩ := (as_ev l live next now hl).get
 refine (rootcellarlaw16_as.calls k A c l live next now _ _ _ _ w hr hc hk).mono ?_
 rintro ex w' ⟨v, rfl, h1, h2⟩
 obtain ⟨A', c', rfl, h3, h4⟩ := Kd.R_reads h1
 rw [List.length_map] at h3 h4
 exact ⟨A', c', by rw [List.length_map], h3, h4, h2⟩
theorem mustC.calls (a b d e : Int) (w : World) : Calls Tryz.prog 15 #[.agg #[.int .i64 a, .int .i64 b, .int .i64 d, .int .i64 e]] w fun ex w' => ex = .returned (.agg #[.int .i64 a, .int .i64 b, .int .i64 d, .int .i64 e]) ∧ Below w.heap.size w w' := rootcellarlaw16_must.calls a b d e a b d e w rfl
theorem sameC.calls (L : List Int) (A : Option Addr) (c : Nat) (A' : Option Addr) (c' : Nat) (w : World) (hl : L.length ≤ 1000) (hr : Kd.C (Kd.int .i64) w A L.length L) (hc : L.length ≤ c) (hr' : Kd.C (Kd.int .i64) w A' L.length L) (hc' : L.length ≤ c') :
  Calls Tryz.prog 12 #[.slice A L.length c, .slice A' L.length c'] w fun ex w' => ex = .returned (.bool true) ∧ Below w.heap.size w w' := by
 obtain ⟨k, hk⟩ := (same_ev L L hl).get
 rw [decide_eq_true (rfl : L = L)] at hk
 exact (rootcellarlaw16_sameInts.calls k A c L A' c' L true w hr hc hr' hc' hk).mono fun ex w' q => ⟨q.1, q.2.below⟩
theorem keepV_len {a b d e : Int} {l : List Lk} {live next : Int} : (keepV a b d e l live next).length ≤ 61 := by
 by_cases h : keepV a b d e l live next = []
 ·rw [h]; simp
 ·exact (drops_of h).2.2
theorem dropsV_len {a b d e : Int} {l : List Lk} {live next : Int} : (dropsV a b d e l live next).length ≤ 60 := by
 unfold dropsV
 split
 ·rename_i hn
  obtain ⟨_, h60, _⟩ := rightT_iff.1 hn.2
  rw [List.length_map]
  have h1 := List.length_filter_le (fun x => !keptB a b d e live (candV l) x) (candV l)
  have h4 := List.length_filter_le (fun x : Lk => !x.f4) (l.drop 1)
  have h5 : (l.drop 1).length = l.length - 1 := List.length_drop
  have h6 : (candV l).length ≤ l.length := by unfold candV; omega
  omega
 ·simp
end Go.Proofs.YtfdlbnfjohpdlaaGreatDoor.PPo
namespace Go.Proofs.YtfdlbnfjohpdlaaGreatDoor.Th
open Go.RowKit Go.Lib Go.Proofs.YtfdlbnfjohpdlaaGreatDoor.PPo Go.Proofs.YtfdlbnfjohpdlaaGreatDoorW.PrintWords
set_option linter.unusedVariables false
theorem in_ev (l : List Int) (a : Int) (hl : l.length ≤ 1000) : Evt (fun k => rootcellarlaw16_in.f k l a) (l.contains a) := by
 have key : ∀ (r d : List Int), l = d ++ r → Evt (fun k => rootcellarlaw16_in.l0 k l a (d.length : Int)) (r.contains a) := by
  intro r
  induction r with
  | nil =>
   intro d hd
   rw [List.append_nil] at hd
   subst hd
   refine Evt.step (fun k => by rw [rootcellarlaw16_in.l0]) ?_
   exact Evt.neg (by omega) (Evt.val _)
  | cons y r ih =>
   intro d hd
   have hlen : l.length = d.length + (r.length + 1) := by rw [hd]; simp
   have hr1 : rd l (d.length : Int) = y := by simp [rd, hd]
   refine Evt.step (fun k => by rw [rootcellarlaw16_in.l0]) ?_
   refine Evt.pos (by omega) (Evt.pos (by omega) ?_)
   rw [hr1]
   by_cases hy : y = a
   ·refine Evt.pos hy (Evt.val' ?_)
    rw [List.contains_cons, beq_iff_eq.2 hy.symm, Bool.true_or]
   ·refine Evt.neg hy ?_
    rw [List.contains_cons, beq_eq_false_iff_ne.2 (Ne.symm hy), Bool.false_or, idxP _ (by omega)]
    have := ih (d ++ [y]) (by rw [hd]; simp)
    rw [List.length_append] at this
    exact this
 unfold rootcellarlaw16_in.f
 exact key l [] rfl
/-- The newest of a day, of a row, if no day is later. -/
def lastGo (xb : Int) : Int → Int → List Lk → Int
 | id, _, [] => id
 | id, t, y :: r => if bk 0 y.f3 > xb then 0 else if bk 0 y.f3 = xb then (if y.f3 ≥ t then lastGo xb y.f0 y.f3 r else lastGo xb id t r) else lastGo xb id t r
theorem last_ev (root : Lk) (rest : List Lk) (a b c : Int) (x : Lk) (hl : rest.length ≤ 999) (ht : ∀ y ∈ rest, Tm y) (hx : Tm x) : Evt (fun k => rootcellarlaw16_last.f k (root :: rest) a b c x.f0 x.f1 x.f2 x.f3 x.f4 x.f5) (lastGo (bk 0 x.f3) 0 0 rest) := by
 have key : ∀ (r d : List Lk) (id t : Int), rest = d ++ r → Evt (fun k => rootcellarlaw16_last.l0 k id t ((d.length + 1 : Nat) : Int) (root :: rest) a b c x.f0 x.f1 x.f2 x.f3 x.f4 x.f5) (lastGo (bk 0 x.f3) id t r) := by
  intro r
  induction r with
  | nil =>
   intro d id t hd
   rw [List.append_nil] at hd
   subst hd
   refine Evt.step (fun k => by rw [rootcellarlaw16_last.l0]) ?_
   exact Evt.neg (by rw [List.length_cons]; omega) (Evt.val _)
  | cons y r ih =>
   intro d id t hd
   have hlen : rest.length = d.length + (r.length + 1) := by rw [hd]; simp
   have hr1 : rd_T31 (root :: rest) ((d.length + 1 : Nat) : Int) = y := by
    have := rdL_mid (root :: d) y r
    rw [List.cons_append, ← hd, List.length_cons] at this
    exact this
   obtain ⟨t0, t1⟩ := ht y (by rw [hd]; simp)
   have hn : ∀ id' t', Evt (fun k => rootcellarlaw16_last.l0 k id' t' (wrap64 (((d.length + 1 : Nat) : Int) + 1)) (root :: rest) a b c x.f0 x.f1 x.f2 x.f3 x.f4 x.f5) (lastGo (bk 0 x.f3) id' t' r) := fun id' t' => by
    have := ih (d ++ [y]) id' t' (by rw [hd]; simp)
    rw [List.length_append] at this
    rw [idxP _ (by omega)]
    exact this
   refine Evt.step (fun k => by rw [rootcellarlaw16_last.l0]) ?_
   refine Evt.pos (by rw [List.length_cons]; omega) (Evt.pos (by omega) ?_)
   rw [hr1]
   refine Evt.bind (refbucket_ev 0 y.f3 t0 t1) (Evt.bind (refbucket_ev 0 x.f3 hx.1 hx.2) ?_)
   unfold lastGo
   by_cases h1 : bk 0 y.f3 > bk 0 x.f3
   ·rw [if_pos h1]
    exact Evt.pos h1 (Evt.val _)
   ·rw [if_neg h1]
    refine Evt.neg h1 ?_
    by_cases h2 : bk 0 y.f3 = bk 0 x.f3
    ·rw [if_pos h2]
     refine Evt.pos h2 ?_
     by_cases h3 : y.f3 ≥ t
     ·rw [if_pos h3]
      exact Evt.pos h3 (hn _ _)
     ·rw [if_neg h3]
      exact Evt.neg h3 (hn _ _)
    ·rw [if_neg h2]
     exact Evt.neg h2 (hn _ _)
 unfold rootcellarlaw16_last.f
 exact key rest [] 0 0 rfl
/-- What a walk along a row has found: nothing of that kind, or the newest of it. -/
def Best (P : Lk → Prop) (d : List Lk) (id t : Int) : Prop := (id = 0 ∧ t = 0 ∧ ∀ y ∈ d, ¬ P y) ∨ ∃ z ∈ d, z.f0 = id ∧ z.f3 = t ∧ P z ∧ ∀ y ∈ d, P y → ¬ nwr y z
theorem Best.take {P : Lk → Prop} {d : List Lk} {id t : Int} {y : Lk} (h : Best P d id t) (hp : P y) (hup : ∀ z ∈ d, z.f0 < y.f0) (h0 : 0 ≤ y.f3) (ht : y.f3 ≥ t) : Best P (d ++ [y]) y.f0 y.f3 := by
 refine .inr ⟨y, by simp, rfl, rfl, hp, fun z hz hpz => ?_⟩
 rcases List.mem_append.1 hz with hz | hz
 ·rcases h with ⟨_, _, hn⟩ | ⟨z0, hz0, e1, e2, _, hb⟩
  ·exact absurd hpz (hn z hz)
  ·have h1 := hb z hz hpz
   have h2 := hup z hz
   unfold nwr at h1 ⊢
   omega
 ·obtain rfl := List.mem_singleton.1 hz
  unfold nwr
  omega
theorem Best.skip {P : Lk → Prop} {d : List Lk} {id t : Int} {y : Lk} (h : Best P d id t) (h0 : 0 ≤ y.f3) (hy : P y → ¬ y.f3 ≥ t) : Best P (d ++ [y]) id t := by
 rcases h with ⟨e1, e2, hn⟩ | ⟨z, hz, e1, e2, hp, hb⟩
 ·refine .inl ⟨e1, e2, fun z hz hpz => ?_⟩
  rcases List.mem_append.1 hz with hz | hz
  ·exact hn z hz hpz
  ·obtain rfl := List.mem_singleton.1 hz
   exact hy hpz (by omega)
 ·refine .inr ⟨z, by simp [hz], e1, e2, hp, fun y' hy' hpy => ?_⟩
  rcases List.mem_append.1 hy' with h1 | h1
  ·exact hb y' h1 hpy
  ·obtain rfl := List.mem_singleton.1 h1
   have := hy hpy
   unfold nwr
   omega
theorem last_spec {xb : Int} : ∀ (r d : List Lk) (id t : Int), (d ++ r).Pairwise (fun a b => a.f0 < b.f0) → (∀ y ∈ r, 0 ≤ y.f3) → (∀ y ∈ d, bk 0 y.f3 ≤ xb) → Best (fun y => bk 0 y.f3 = xb) d id t →
  lastGo xb id t r = 0 ∨ ((∀ y ∈ d ++ r, bk 0 y.f3 ≤ xb) ∧ ∃ t', Best (fun y => bk 0 y.f3 = xb) (d ++ r) (lastGo xb id t r) t')
 | [], d, id, t, hu, h0, hd, hb => .inr ⟨by rw [List.append_nil]; exact hd, t, by rw [List.append_nil]; exact hb⟩
 | y :: r, d, id, t, hu, h0, hd, hb => by
  have e : d ++ y :: r = (d ++ [y]) ++ r := by simp
  have hy0 := h0 y (List.mem_cons_self ..)
  have hup : ∀ z ∈ d, z.f0 < y.f0 := fun z hz => (List.pairwise_append.1 hu).2.2 z hz y (List.mem_cons_self ..)
  have hr0 : ∀ z ∈ r, 0 ≤ z.f3 := fun z hz => h0 z (List.mem_cons_of_mem _ hz)
  rw [e] at hu ⊢
  unfold lastGo
  by_cases h1 : bk 0 y.f3 > xb
  ·rw [if_pos h1]
   exact .inl rfl
  ·rw [if_neg h1]
   have hd' : ∀ z ∈ d ++ [y], bk 0 z.f3 ≤ xb := fun z hz => by
    rcases List.mem_append.1 hz with hz | hz
    ·exact hd z hz
    ·obtain rfl := List.mem_singleton.1 hz
     omega
   by_cases h2 : bk 0 y.f3 = xb
   ·rw [if_pos h2]
    by_cases h3 : y.f3 ≥ t
    ·rw [if_pos h3]
     exact last_spec r (d ++ [y]) _ _ hu hr0 hd' (hb.take h2 hup hy0 h3)
    ·rw [if_neg h3]
     exact last_spec r (d ++ [y]) _ _ hu hr0 hd' (hb.skip hy0 fun _ => h3)
   ·rw [if_neg h2]
    exact last_spec r (d ++ [y]) _ _ hu hr0 hd' (hb.skip hy0 fun h => absurd h h2)
/-- The newest of a row. -/
def newGo : Int → Int → List Lk → Int
 | id, _, [] => id
 | id, t, y :: r => if y.f3 ≥ t then newGo y.f0 y.f3 r else newGo id t r
theorem new_ev (root : Lk) (rest : List Lk) (a b c : Int) (hl : rest.length ≤ 999) : Evt (fun k => rootcellarlaw16_newest.f k (root :: rest) a b c) (newGo 0 0 rest) := by
 have key : ∀ (r d : List Lk) (id t : Int), rest = d ++ r → Evt (fun k => rootcellarlaw16_newest.l0 k id t ((d.length + 1 : Nat) : Int) (root :: rest) a b c) (newGo id t r) := by
  intro r
  induction r with
  | nil =>
   intro d id t hd
   rw [List.append_nil] at hd
   subst hd
   refine Evt.step (fun k => by rw [rootcellarlaw16_newest.l0]) ?_
   exact Evt.neg (by rw [List.length_cons]; omega) (Evt.val _)
  | cons y r ih =>
   intro d id t hd
   have hlen : rest.length = d.length + (r.length + 1) := by rw [hd]; simp
   have hr1 : rd_T31 (root :: rest) ((d.length + 1 : Nat) : Int) = y := by
    have := rdL_mid (root :: d) y r
    rw [List.cons_append, ← hd, List.length_cons] at this
    exact this
   have hn : ∀ id' t', Evt (fun k => rootcellarlaw16_newest.l0 k id' t' (wrap64 (((d.length + 1 : Nat) : Int) + 1)) (root :: rest) a b c) (newGo id' t' r) := fun id' t' => by
    have := ih (d ++ [y]) id' t' (by rw [hd]; simp)
    rw [List.length_append] at this
    rw [idxP _ (by omega)]
    exact this
   refine Evt.step (fun k => by rw [rootcellarlaw16_newest.l0]) ?_
   refine Evt.pos (by rw [List.length_cons]; omega) (Evt.pos (by omega) ?_)
   rw [hr1]
   unfold newGo
   by_cases h3 : y.f3 ≥ t
   ·rw [if_pos h3]
    exact Evt.pos h3 (hn _ _)
   ·rw [if_neg h3]
    exact Evt.neg h3 (hn _ _)
 unfold rootcellarlaw16_newest.f
 exact key rest [] 0 0 rfl
theorem new_spec : ∀ (r d : List Lk) (id t : Int), (d ++ r).Pairwise (fun a b => a.f0 < b.f0) → (∀ y ∈ r, 0 ≤ y.f3) → Best (fun _ => True) d id t → ∃ t', Best (fun _ => True) (d ++ r) (newGo id t r) t'
 | [], d, id, t, hu, h0, hb => ⟨t, by rw [List.append_nil]; exact hb⟩
 | y :: r, d, id, t, hu, h0, hb => by
  have e : d ++ y :: r = (d ++ [y]) ++ r := by simp
  have hy0 := h0 y (List.mem_cons_self ..)
  have hup : ∀ z ∈ d, z.f0 < y.f0 := fun z hz => (List.pairwise_append.1 hu).2.2 z hz y (List.mem_cons_self ..)
  have hr0 : ∀ z ∈ r, 0 ≤ z.f3 := fun z hz => h0 z (List.mem_cons_of_mem _ hz)
  rw [e] at hu ⊢
  unfold newGo
  by_cases h3 : y.f3 ≥ t
  ·rw [if_pos h3]
   exact new_spec r (d ++ [y]) _ _ hu hr0 (hb.take trivial hup hy0 h3)
  ·rw [if_neg h3]
   exact new_spec r (d ++ [y]) _ _ hu hr0 (hb.skip hy0 fun _ => h3)
/-- The newest of the latest day is kept, if days are. -/
theorem last_kept {rest : List Lk} {x : Lk} (hu : rest.Pairwise fun a b => a.f0 < b.f0) (h0 : ∀ y ∈ rest, 0 ≤ y.f3) (h1 : ∀ y ∈ rest, 1 < y.f0) (hx : x ∈ rest) (h : lastGo (bk 0 x.f3) 0 0 rest = x.f0) {many : Int} (hm : 0 < many) : tierB 0 many rest x = true := by
 have hx1 := h1 x hx
 have hnd : ∀ a ∈ rest, ∀ b ∈ rest, a.f0 = b.f0 → a = b := fun a ha b hb he => by
  obtain ⟨i, hi, rfl⟩ := List.getElem_of_mem ha
  obtain ⟨j, hj, rfl⟩ := List.getElem_of_mem hb
  rcases Nat.lt_trichotomy i j with g | g | g
  ·have := List.pairwise_iff_getElem.1 hu i j hi hj g
   omega
  ·subst g; rfl
  ·have := List.pairwise_iff_getElem.1 hu j i hj hi g
   omega
 rcases last_spec (xb := bk 0 x.f3) rest [] 0 0 hu h0 (by simp) (.inl ⟨rfl, rfl, by simp⟩) with hz | ⟨hle, t', hb⟩
 ·omega
 ·rw [h] at hb
  rw [List.nil_append] at hb hle
  rcases hb with ⟨e, _⟩ | ⟨z, hz, e1, _, _, hbest⟩
  ·omega
  ·obtain rfl := hnd z hz x hx e1
   unfold tierB
   have hn : newestP 0 rest z = true := newestP_iff.2 fun y hy he => hbest y hy he
   have hl : laterN 0 rest z = 0 := by
    unfold laterN
    rw [List.countP_eq_zero]
    intro y hy
    have := hle y hy
    simp only [Bool.and_eq_true, decide_eq_true_eq, not_and]
    intro _
    omega
   rw [hn, hl]
   simpa using hm
/-- The newest of all is kept by any tier that keeps one. -/
theorem new_kept {rest : List Lk} (hu : rest.Pairwise fun a b => a.f0 < b.f0) (h0 : ∀ y ∈ rest, 0 ≤ y.f3) (hne : rest ≠ []) : ∃ z ∈ rest, newGo 0 0 rest = z.f0 ∧ ∀ tier many : Int, 0 < many → tierB tier many rest z = true := by
 obtain ⟨t', hb⟩ := new_spec rest [] 0 0 hu h0 (.inl ⟨rfl, rfl, by simp⟩)
 rw [List.nil_append] at hb
 rcases hb with ⟨_, _, hn⟩ | ⟨z, hz, e1, _, _, hbest⟩
 ·obtain ⟨y, hy⟩ := List.exists_mem_of_ne_nil rest hne
  exact absurd trivial (hn y hy)
 ·refine ⟨z, hz, e1.symm, fun tier many hm => ?_⟩
  unfold tierB
  have hn : newestP tier rest z = true := newestP_iff.2 fun y hy _ => hbest y hy trivial
  have hl : laterN tier rest z = 0 := by
   unfold laterN
   rw [List.countP_eq_zero]
   intro y hy
   have h2 := hbest y hy trivial
   have h3 : bk tier y.f3 ≤ bk tier z.f3 := bk_mono tier (h0 y hy) (by unfold nwr at h2; omega)
   simp only [Bool.and_eq_true, decide_eq_true_eq, not_and]
   intro _
   omega
  rw [hn, hl]
  simpa using hm
end Go.Proofs.YtfdlbnfjohpdlaaGreatDoor.Th
namespace Go.Proofs.YtfdlbnfjohpdlaaGreatDoor.Th
open Go.RowKit Go.Lib Go.Proofs.YtfdlbnfjohpdlaaGreatDoor.PPo Go.Proofs.YtfdlbnfjohpdlaaGreatDoorW.PrintWords
set_option linter.unusedVariables false
def rootL : Lk := ⟨1, 0, ⟨#[114, 111, 111, 116]⟩, 0, false, false⟩
theorem grown_full (l : List Nd) (live : Int) (ht : ∀ x ∈ l, TmN x) : ∃ rest lv nx nw, Evt (fun k => rootcellarlaw16_grown.f k l live) (rootL :: rest, lv, nx, nw) ∧ rest.length = min l.length 50 ∧ Small (rootL :: rest) ∧ ∀ x ∈ rest, x.f4 = false := by
 have key : ∀ (m i : Nat) (acc : List Lk) (nx : Int), i + m = min l.length 50 → acc.length = i → Small acc → (∀ x ∈ acc, x.f4 = false) → ∃ rest lv nx' nw, Evt (fun k => rootcellarlaw16_grown.l0 k l live (i : Int) (rootL :: acc) 1 nx 0) (rootL :: rest, lv, nx', nw) ∧ rest.length = min l.length 50 ∧ Small rest ∧ ∀ x ∈ rest, x.f4 = false := by
  intro m
  induction m with
  | zero =>
   intro i acc nx hi hl hs hg
   refine ⟨acc, wrap64 (1 + (mx 0 (mn live (wrap64 (((rootL :: acc).length : Int) - 1))))), nx, 0, Evt.step (fun k => by rw [rootcellarlaw16_grown.l0]) ?_, by omega, hs, hg⟩
   by_cases h1 : (i : Int) < (l.length : Int)
   ·refine Evt.pos h1 (Evt.neg (by omega) (Evt.val _))
   ·exact Evt.neg h1 (Evt.val _)
  | succ m ih =>
   intro i acc nx hi hl hs hg
   have hil : i < l.length := by omega
   have hx := ht l[i] (List.getElem_mem hil)
   obtain ⟨rest, lv, nx', nw, h1, h2, h3, h4⟩ := ih (i + 1) (acc ++ [(⟨wrap64 ((i : Int) + 2), wrap64 (1 + (mx 0 (mn ((rd_T68 l (i : Int)).f2) (i : Int)))), (⟨#[110]⟩ : ByteArray), (rd_T68 l (i : Int)).f0, false, (rd_T68 l (i : Int)).f1⟩ : Lk)]) (wrap64 ((i : Int) + 3)) (by omega) (by rw [List.length_append]; simp; omega) (fun x hx' => by
    rcases List.mem_append.1 hx' with h | h
    ·exact hs x h
    ·obtain rfl := List.mem_singleton.1 h
     rw [rdN_get l i hil]
     exact ⟨show (⟨#[110]⟩ : ByteArray).size ≤ 120 by decide, hx⟩) (fun x hx' => by
    rcases List.mem_append.1 hx' with h | h
    ·exact hg x h
    ·obtain rfl := List.mem_singleton.1 h
     rfl)
   refine ⟨rest, lv, nx', nw, Evt.step (fun k => by rw [rootcellarlaw16_grown.l0]) ?_, h2, h3, h4⟩
   refine Evt.pos (by omega) (Evt.pos (by omega) (Evt.pos (by omega) (Evt.pos (by rw [List.length_cons]; omega) ?_)))
   rw [idxP i (by omega)]
   exact h1
 unfold rootcellarlaw16_grown.f
 obtain ⟨rest, lv, nx, nw, h1, h2, h3, h4⟩ := key (min l.length 50) 0 [] 2 (by omega) rfl (fun x hx => by simp at hx) (fun x hx => by simp at hx)
 refine ⟨rest, lv, nx, nw, h1, h2, fun x hx => ?_, h4⟩
 rcases List.mem_cons.1 hx with rfl | hx
 ·exact ⟨by decide, by unfold Tm rootL; decide⟩
 ·exact h3 x hx
theorem filter_both (q : Lk → Bool) : ∀ l : List Lk, (l.filter q).length + (l.filter fun x => !q x).length = l.length
 | [] => rfl
 | x :: l => by
  have := filter_both q l
  cases h : q x with
  | true => rw [List.filter_cons_of_pos h, List.filter_cons_of_neg (by rw [h]; decide), List.length_cons, List.length_cons]; omega
  | false => rw [List.filter_cons_of_neg (by rw [h]; decide), List.filter_cons_of_pos (by rw [h]; rfl), List.length_cons, List.length_cons]; omega
theorem parts_plain {a b d e : Int} {rest : List Lk} {lv nx : Int} (hp : rightP a b d e = true) (ht : rightT (rootL :: rest) lv nx = true) (hg : ∀ x ∈ rest, x.f4 = false) (hs : Small (rootL :: rest)) :
  (keepV a b d e (rootL :: rest) lv nx).length + (dropsV a b d e (rootL :: rest) lv nx).length = (rootL :: rest).length ∧
  (∀ x ∈ rootL :: rest, ∃ bb : Bool, (keepV a b d e (rootL :: rest) lv nx).contains x.f0 = bb ∧ (dropsV a b d e (rootL :: rest) lv nx).contains x.f0 = !bb ∧ (bb = false → x.f0 ≠ 1 ∧ x.f5 = false ∧ x.f0 ≠ lv ∧ ¬ (0 < a ∧ lastGo (bk 0 x.f3) 0 0 rest = x.f0))) ∧
  (rest ≠ [] → (e ≠ 0 ∨ a ≠ 0 ∨ b ≠ 0 ∨ d ≠ 0) → (keepV a b d e (rootL :: rest) lv nx).contains (newGo 0 0 rest) = true) := by
 have hC : candV (rootL :: rest) = rest := by
  unfold candV
  show rest.filter _ = rest
  exact List.filter_eq_self.2 fun x hx => by rw [hg x hx]; rfl
 obtain ⟨_, _, _, _, _, hup, h1⟩ := right_cand ht
 have hK : keepV a b d e (rootL :: rest) lv nx = 1 :: (rest.filter (keptB a b d e lv rest)).map (·.f0) := by unfold keepV; rw [if_pos ⟨hp, ht⟩, hC]
 have hD : dropsV a b d e (rootL :: rest) lv nx = (rest.filter fun x => !keptB a b d e lv rest x).map (·.f0) := by unfold dropsV; rw [if_pos ⟨hp, ht⟩, hC]
 rw [hC] at hup h1
 rw [hK, hD]
 have h0 : ∀ y ∈ rest, 0 ≤ y.f3 := fun y hy => (hs y (List.mem_cons_of_mem _ hy)).2.1
 have hd : ∀ x ∈ rest, ∀ y ∈ rest, x.f0 = y.f0 → x = y := fun x hx y hy he => by
  obtain ⟨i, hi, rfl⟩ := List.getElem_of_mem hx
  obtain ⟨j, hj, rfl⟩ := List.getElem_of_mem hy
  rcases Nat.lt_trichotomy i j with g | g | g
  ·have := List.pairwise_iff_getElem.1 hup i j hi hj g
   omega
  ·subst g; rfl
  ·have := List.pairwise_iff_getElem.1 hup j i hj hi g
   omega
 have hin : ∀ (q : Lk → Bool) (x : Lk), x ∈ rest → ((rest.filter q).map (·.f0)).contains x.f0 = q x := fun q x hx => by
  rw [Bool.eq_iff_iff, List.contains_iff_mem]
  constructor
  ·intro h
   obtain ⟨z, hz, he⟩ := List.mem_map.1 h
   obtain ⟨g1, g2⟩ := List.mem_filter.1 hz
   rw [← hd z g1 x hx he]
   exact g2
  ·intro h
   exact List.mem_map.2 ⟨x, List.mem_filter.2 ⟨hx, h⟩, rfl⟩
 have hin1 : ∀ (q : Lk → Bool), ((rest.filter q).map (·.f0)).contains 1 = false := fun q => by
  rw [Bool.eq_false_iff]
  intro h
  obtain ⟨z, hz, he⟩ := List.mem_map.1 (List.contains_iff_mem.1 h)
  have := h1 z (List.mem_filter.1 hz).1
  omega
 refine ⟨?_, fun x hx => ?_, fun hne hz => ?_⟩
 ·have h2 := filter_both (keptB a b d e lv rest) rest
  simp only [List.length_cons, List.length_map]
  omega
 ·rcases List.mem_cons.1 hx with rfl | hx
  ·refine ⟨true, ?_, ?_, fun h => by cases h⟩
   ·rfl
   ·exact hin1 _
  ·have hx1 := h1 x hx
   have hk : (1 :: (rest.filter (keptB a b d e lv rest)).map (·.f0)).contains x.f0 = keptB a b d e lv rest x := by
    rw [List.contains_cons, hin _ x hx, beq_eq_false_iff_ne.2 (by omega), Bool.false_or]
   refine ⟨keptB a b d e lv rest x, hk, hin _ x hx, fun hb => ?_⟩
   unfold keptB at hb
   simp only [Bool.or_eq_false_iff] at hb
   obtain ⟨⟨⟨⟨⟨b1, b2⟩, b3⟩, _⟩, _⟩, _⟩ := hb
   refine ⟨by omega, b1, by simpa using b2, fun ⟨g1, g2⟩ => ?_⟩
   rw [last_kept hup h0 h1 hx g2 g1] at b3
   cases b3
 ·obtain ⟨z, hz1, hz2, hz3⟩ := new_kept hup h0 hne
  rw [hz2, List.contains_cons, hin _ z hz1]
  have hok : ∀ n : Int, okN n = true → n ≠ 0 → 0 < n := fun n h1 h2 => by
   unfold okN at h1
   simp at h1
   omega
  unfold rightP at hp
  simp only [Bool.and_eq_true] at hp
  obtain ⟨⟨⟨p1, p2⟩, p3⟩, p4⟩ := hp
  have hk : keptB a b d e lv rest z = true := by
   unfold keptB
   simp only [Bool.or_eq_true]
   rcases hz with h | h | h | h
   ·exact .inr (hz3 3 e (hok e p4 h))
   ·exact .inl (.inl (.inl (.inr (hz3 0 a (hok a p1 h)))))
   ·exact .inl (.inl (.inr (hz3 1 b (hok b p2 h))))
   ·exact .inl (.inr (hz3 2 d (hok d p3 h)))
  rw [hk, Bool.or_true]
end Go.Proofs.YtfdlbnfjohpdlaaGreatDoor.Th
namespace Go.Proofs.YtfdlbnfjohpdlaaGreatDoor.PPo
open Go.RowKit Go.Proofs.YtfdlbnfjohpdlaaGreatDoor.Th Go.Proofs.YtfdlbnfjohpdlaaGreatDoorW.PrintWords Go.Proofs.YtfdlbnfjohpdlaaGreatDoorW.PrintLast Go.Proofs.YtfdlbnfjohpdlaaGreatDoorW.PrintMore
attribute [local go_sem] max2_int min2_int max_two min_two max_three min_three max_four min_four
set_option linter.unusedVariables false
set_option linter.unusedSimpArgs false
theorem pol_put {W : World} {g : Nat} {z0 z1 z2 z3 : Value} (a0 a1 a2 a3 : Value) (h : W.heap[g]? = some (.cells #[z0, z1, z2, z3] 23 (0, 0))) :
  ((((W.setCell ⟨g, 0, none⟩ a0).setCell ⟨g, 1, none⟩ a1).setCell ⟨g, 2, none⟩ a2).setCell ⟨g, 3, none⟩ a3).heap[g]? = some (.cells #[a0, a1, a2, a3] 23 (0, 0)) :=
 blk_put (blk_put (blk_put (blk_put h 0 a0 rfl) 1 a1 rfl) 2 a2 rfl) 3 a3 rfl
theorem pol_below {w0 W : World} {g : Nat} (a0 a1 a2 a3 : Value) (hb : Below w0.heap.size w0 W) (hg : w0.heap.size ≤ g) :
  Below w0.heap.size w0 ((((W.setCell ⟨g, 0, none⟩ a0).setCell ⟨g, 1, none⟩ a1).setCell ⟨g, 2, none⟩ a2).setCell ⟨g, 3, none⟩ a3) :=
 below_set (below_set (below_set (below_set hb hg) hg) hg) hg
theorem nodes_C {W : World} {g : Nat} (h : W.heap[g]? = some (.cells #[.int .u64 432000, .bool false, .int .i64 0, .int .u64 432001, .bool false, .int .i64 0, .int .u64 604800, .bool false, .int .i64 0, .int .u64 777600, .bool false, .int .i64 0] 68 (0, 0))) : Kd.C k68 W (some ⟨g, 0, none⟩) 4 nodes4 := by
 have hc : ∀ q v, (#[.int .u64 432000, .bool false, .int .i64 0, .int .u64 432001, .bool false, .int .i64 0, .int .u64 604800, .bool false, .int .i64 0, .int .u64 777600, .bool false, .int .i64 0] : Array Value)[q]? = some v → W.cell? ((⟨g, 0, none⟩ : Addr).add q) = some v := fun q v hv => by
  rw [add_plain]
  exact (blk_cell h q).trans hv
 refine ⟨rfl, by decide, fun _ => ⟨_, rfl, fun j p hj => ?_⟩⟩
 have hj4 : j < 4 := by
  have := (List.getElem?_eq_some_iff.1 hj).1
  simpa [nodes4] using this
 have h5 : j = 0 ∨ j = 1 ∨ j = 2 ∨ j = 3 := by omega
 rcases h5 with rfl | rfl | rfl | rfl <;>
 ·obtain rfl := Option.some.inj hj
  refine ⟨_, rfl, k68_mk W _, fun q v hv => ?_⟩
  have hq : q < 3 := (List.getElem?_eq_some_iff.1 hv).1
  have h6 : q = 0 ∨ q = 1 ∨ q = 2 := by omega
  rcases h6 with rfl | rfl | rfl <;> exact hc _ _ hv
theorem ints_C {W : World} {g : Nat} {l : List Int} (h : W.heap[g]? = some (.cells (l.map (Value.int .i64)).toArray 3 (0, 0))) (hl : l.length ≤ 1000) : Kd.C (Kd.int .i64) W (some ⟨g, 0, none⟩) l.length l := by
 refine ⟨rfl, by omega, fun _ => ⟨_, rfl, fun j p hj => ⟨[.int .i64 p], rfl, rfl, fun q v hv => ?_⟩⟩⟩
 obtain ⟨hq, rfl⟩ := List.getElem?_eq_some_iff.1 hv
 have hq0 : q = 0 := by simpa using hq
 subst hq0
 obtain ⟨hjl, rfl⟩ := List.getElem?_eq_some_iff.1 hj
 rw [add_plain]
 refine (blk_cell h _).trans ?_
 show (l.map (Value.int .i64)).toArray[j * 1 + 0]? = _
 simp [hjl]
set_option maxHeartbeats 8000000 in
set_option maxRecDepth 100000 in
theorem shownR.calls (w : World) (ht : TabsW w) (hm : MaxW w) : Calls Tryz.prog 10 #[] w fun e w' => e = .returned (.bool true) ∧ Below w.heap.size w w' := by
 have hu := Tryz.underlying23
 have hu2 := Tryz.underlying28
 have hu3 := Tryz.underlying68
 have hu4 := Tryz.underlying56
 have HB := Aside0.mk (Below.refl w.heap.size w)
 have HPA := Aside0.mk (parse2.calls w hm)
 have HGR := Aside0.mk (show ∀ (W : World) (g : Nat), W.heap[g]? = some (.cells #[.int .u64 432000, .bool false, .int .i64 0, .int .u64 432001, .bool false, .int .i64 0, .int .u64 604800, .bool false, .int .i64 0, .int .u64 777600, .bool false, .int .i64 0] 68 (0, 0)) → Calls Tryz.prog 11 #[.slice (some ⟨g, 0, none⟩) 4 4, .int .i64 0] W fun e w' => ∃ A c, e = .returned (.agg #[.slice A 5 c, .int .i64 1, .int .i64 6, .int .u64 0]) ∧ 5 ≤ c ∧ Kd.C k31 w' A 5 links5 ∧ Below W.heap.size W w' from fun W g hg => by
  refine (rootcellarlaw16_grown.calls 9 _ 4 nodes4 0 links5 1 6 0 W (nodes_C hg) (by decide) grown4).mono ?_
  rintro e w' ⟨v, rfl, h1, h2⟩
  obtain ⟨A, c, rfl, h3, h4⟩ := Kd.R_reads h1
  exact ⟨A, c, rfl, h3, h4, h2⟩)
 have hsm : Small links5 := by unfold Small links5 Tm; decide +kernel
 have HKE := Aside0.mk (show ∀ (W : World) (A : Option Addr) (c : Nat), Below w.heap.size w W → 5 ≤ c → Kd.C k31 W A 5 links5 → Calls Tryz.prog 13 #[.agg #[.int .i64 2, .int .i64 0, .int .i64 0, .int .i64 0], .agg #[.slice A 5 c, .int .i64 1, .int .i64 6, .int .u64 0]] W fun e w' => ∃ A c, e = .returned (.slice A 3 c) ∧ 3 ≤ c ∧ Kd.C (Kd.int .i64) w' A 3 [1, 4, 5] ∧ Below W.heap.size W w' from fun W A c hW h1 h2 => by
  have h := keepC.calls 2 0 0 0 A c links5 1 6 0 W h2 h1 hsm (ht.below hW)
  unfold givesI at h
  rw [keep4] at h
  exact h)
 have HDE := Aside0.mk (show ∀ (W : World) (A : Option Addr) (c : Nat), Below w.heap.size w W → 5 ≤ c → Kd.C k31 W A 5 links5 → Calls Tryz.prog 17 #[.agg #[.int .i64 2, .int .i64 0, .int .i64 0, .int .i64 0], .agg #[.slice A 5 c, .int .i64 1, .int .i64 6, .int .u64 0]] W fun e w' => ∃ A c, e = .returned (.slice A 2 c) ∧ 2 ≤ c ∧ Kd.C (Kd.int .i64) w' A 2 [2, 3] ∧ Below W.heap.size W w' from fun W A c hW h1 h2 => by
  have h := dropsC.calls 2 0 0 0 A c links5 1 6 0 W h2 h1 hsm (ht.below hW)
  unfold givesI at h
  rw [drops4] at h
  exact h)
 have HS3 := Aside0.mk (fun (W : World) (A : Option Addr) (c g : Nat) (h1 : 3 ≤ c) (h2 : Kd.C (Kd.int .i64) W A 3 [1, 4, 5]) (h3 : W.heap[g]? = some (.cells #[.int .i64 1, .int .i64 4, .int .i64 5] 3 (0, 0))) => sameC.calls [1, 4, 5] A c (some ⟨g, 0, none⟩) 3 W (by decide) h2 h1 (ints_C (l := [1, 4, 5]) h3 (by decide)) (by decide))
 have HS2 := Aside0.mk (fun (W : World) (A : Option Addr) (c g : Nat) (h1 : 2 ≤ c) (h2 : Kd.C (Kd.int .i64) W A 2 [2, 3]) (h3 : W.heap[g]? = some (.cells #[.int .i64 2, .int .i64 3] 3 (0, 0))) => sameC.calls [2, 3] A c (some ⟨g, 0, none⟩) 2 W (by decide) h2 h1 (ints_C (l := [2, 3]) h3 (by decide)) (by decide))
 clear ht hm hsm
 go_enter Tryz.func10, Tryz.ntmps10
 go_upto_region 3 with (first
  | (go_at_call 28; go_loud (refine HPA.out.mono ?_; rintro e w5 ⟨rfl, q1⟩; have HB5 := Aside0.mk q1; clear q1))
  | ((with_reducible refine gate_dst (N := 1) rfl ?_); refine box_event ?hg (N := 1) ?hd (cs := #[.int .i64 0, .int .i64 0, .int .i64 0, .int .i64 0]) (t := 23) ?hr ?_; (case hd => rfl); (case hg => rfl); (case hr => first | (go_simp; done) | (go_simp; rfl)); intro g1 hg1 wa1 hbox hb; have HX1 := Aside0.mk hb; have BZ1 := Aside0.mk hbox; have HG1 := Aside0.mk (Nat.le_of_eq hg1.symm); clear hg1 hb hbox; have hc1_0 := blk_cell BZ1.out 0; have hf1_0 := blk_frozen BZ1.out 0; have hc1_1 := blk_cell BZ1.out 1; have hf1_1 := blk_frozen BZ1.out 1; have hc1_2 := blk_cell BZ1.out 2; have hf1_2 := blk_frozen BZ1.out 2; have hc1_3 := blk_cell BZ1.out 3; have hf1_3 := blk_frozen BZ1.out 3)
  | ((with_reducible refine gate_store (t := 23) (p := 1) rfl ?_); refine store_event (t := 23) (p := 1) (v := .tmp 6) (w1 := ((((wa1.setCell ⟨g1, 0, none⟩ (.int .i64 2)).setCell ⟨g1, 1, none⟩ (.int .i64 0)).setCell ⟨g1, 2, none⟩ (.int .i64 0)).setCell ⟨g1, 3, none⟩ (.int .i64 0))) rfl rfl rfl ?hr ?_; (case hr => first | (go_simp; done) | (go_simp; rfl)); intro w1 hw1; have q1 := pol_put (.int .i64 2) (.int .i64 0) (.int .i64 0) (.int .i64 0) BZ1.out; have q2 := pol_below (.int .i64 2) (.int .i64 0) (.int .i64 0) (.int .i64 0) HX1.out HG1.out; rw [← hw1] at q1 q2; clear hw1; have BK1 := Aside0.mk q1; have HY1 := Aside0.mk q2; have HB1 := Aside0.mk (below_step HB5.out q2); clear hc1_0 hf1_0 hc1_1 hf1_1 hc1_2 hf1_2 hc1_3 hf1_3 q1 q2; have hd1_0 := blk_cell BK1.out 0; have hd1_1 := blk_cell BK1.out 1; have hd1_2 := blk_cell BK1.out 2; have hd1_3 := blk_cell BK1.out 3)
  | (go_at_call 11; go_loud (refine (HGR.out _ _ (blk_new w1 _)).mono ?_; rintro e wg ⟨Ag, cg, rfl, q1, q2, q3⟩; have HBg := Aside0.mk (below_step (below_alloc HB1.out _) q3); have BPg := Aside0.mk (blk_below (blk_alloc BK1.out _) q3); have HCg := Aside0.mk (And.intro q1 q2); clear q1 q2 q3 hd1_0 hd1_1 hd1_2 hd1_3))
  | ((with_reducible refine gate_dst (N := 3) rfl ?_); refine box_event ?hg (N := 3) ?hd (cs := #[.slice none 0 0, .int .i64 0, .int .i64 0, .int .u64 0]) (t := 28) ?hr ?_; (case hd => rfl); (case hg => rfl); (case hr => first | (go_simp; done) | (go_simp; rfl)); intro g3 hg3 wa3 hbox hb; have HX3 := Aside0.mk hb; have BZ3 := Aside0.mk hbox; have HG3 := Aside0.mk (Nat.le_of_eq hg3.symm); clear hg3 hb hbox; have hc3_0 := blk_cell BZ3.out 0; have hf3_0 := blk_frozen BZ3.out 0; have hc3_1 := blk_cell BZ3.out 1; have hf3_1 := blk_frozen BZ3.out 1; have hc3_2 := blk_cell BZ3.out 2; have hf3_2 := blk_frozen BZ3.out 2; have hc3_3 := blk_cell BZ3.out 3; have hf3_3 := blk_frozen BZ3.out 3)
  | ((with_reducible refine gate_store (t := 28) (p := 3) rfl ?_); refine store_event (t := 28) (p := 3) (v := .tmp 13) (w1 := ((((wa3.setCell ⟨g3, 0, none⟩ (.slice Ag 5 cg)).setCell ⟨g3, 1, none⟩ (.int .i64 1)).setCell ⟨g3, 2, none⟩ (.int .i64 6)).setCell ⟨g3, 3, none⟩ (.int .u64 0))) rfl rfl rfl ?hr ?_; (case hr => first | (go_simp; done) | (go_simp; rfl)); intro w3 hw3; have q1 := tree_put (.slice Ag 5 cg) (.int .i64 1) (.int .i64 6) (.int .u64 0) BZ3.out; have q2 := tree_below (.slice Ag 5 cg) (.int .i64 1) (.int .i64 6) (.int .u64 0) HX3.out HG3.out; rw [← hw3] at q1 q2; clear hw3; have BK3 := Aside0.mk q1; have HY3 := Aside0.mk q2; have HB3 := Aside0.mk (below_step HBg.out q2); have BP3 := Aside0.mk (blk_below BPg.out q2); clear hc3_0 hf3_0 hc3_1 hf3_1 hc3_2 hf3_2 hc3_3 hf3_3 q1 q2; have hd3_0 := blk_cell BK3.out 0; have hd3_1 := blk_cell BK3.out 1; have hd3_2 := blk_cell BK3.out 2; have hd3_3 := blk_cell BK3.out 3; have hp0 := blk_cell BP3.out 0; have hp1 := blk_cell BP3.out 1; have hp2 := blk_cell BP3.out 2; have hp3 := blk_cell BP3.out 3; have HC3 := Aside0.mk (Kd.C_below HCg.out.2 HY3.out)))
 go_wp2_with (first
  | (go_at_call 13; go_loud (refine (HKE.out _ Ag cg HB3.out HCg.out.1 HC3.out).mono ?_; rintro e wk ⟨Ak, ck, rfl, q1, q2, q3⟩; have HBk := Aside0.mk (below_step HB3.out q3); have HCk := Aside0.mk (And.intro q1 q2); have BPk := Aside0.mk (blk_below BP3.out q3); have BTk := Aside0.mk (blk_below BK3.out q3); have HCt := Aside0.mk (Kd.C_below HC3.out q3); clear q1 q2 q3))
  | (go_at_call 12; (with_reducible show Calls _ _ #[.slice Ak 3 ck, _] _ _); refine (HS3.out _ Ak ck wk.heap.size HCk.out.1 (Kd.C_alloc HCk.out.2 _) (blk_new wk _)).mono ?_; rintro e ws ⟨rfl, q1⟩; have q2 := below_step (below_alloc (Below.refl wk.heap.size wk) _) q1; have HBs := Aside0.mk (below_step HBk.out q2); have BPs := Aside0.mk (blk_below BPk.out q2); have BTs := Aside0.mk (blk_below BTk.out q2); have HCs := Aside0.mk (Kd.C_below HCt.out q2); clear q1 q2 hp0 hp1 hp2 hp3 hd3_0 hd3_1 hd3_2 hd3_3; have hp0 := blk_cell BPs.out 0; have hp1 := blk_cell BPs.out 1; have hp2 := blk_cell BPs.out 2; have hp3 := blk_cell BPs.out 3; have hv0 := blk_cell BTs.out 0; have hv1 := blk_cell BTs.out 1; have hv2 := blk_cell BTs.out 2; have hv3 := blk_cell BTs.out 3)
  | (go_at_call 17; go_loud (refine (HDE.out _ Ag cg HBs.out HCg.out.1 HCs.out).mono ?_; rintro e wd ⟨Ad, cd, rfl, q1, q2, q3⟩; have HBd := Aside0.mk (below_step HBs.out q3); have HCd := Aside0.mk (And.intro q1 q2); clear q1 q2 q3))
  | (go_at_call 12; (with_reducible show Calls _ _ #[.slice Ad 2 cd, _] _ _); refine (HS2.out _ Ad cd wd.heap.size HCd.out.1 (Kd.C_alloc HCd.out.2 _) (blk_new wd _)).mono ?_; rintro e we ⟨rfl, q1⟩; have HBe := Aside0.mk (below_step (below_alloc HBd.out _) q1); clear q1))
 go_ret
 exact ⟨rfl, HBe.out⟩
end Go.Proofs.YtfdlbnfjohpdlaaGreatDoor.PPo
namespace Go.Proofs.YtfdlbnfjohpdlaaGreatDoor.Th
open Go.RowKit Go.Lib Go.Proofs.YtfdlbnfjohpdlaaGreatDoor.PPo Go.Proofs.YtfdlbnfjohpdlaaGreatDoorW.PrintWords
set_option linter.unusedVariables false
theorem tierB_more {tier m m' : Int} {l : List Lk} {x : Lk} (h : m ≤ m') (hb : tierB tier m l x = true) : tierB tier m' l x = true := by
 unfold tierB at *
 simp only [Bool.and_eq_true, decide_eq_true_eq] at *
 exact ⟨hb.1, by omega⟩
theorem keptB_more {a b c d a' b' c' d' lv : Int} {l : List Lk} {x : Lk} (ha : a ≤ a') (hb : b ≤ b') (hc : c ≤ c') (hd : d ≤ d') (h : keptB a b c d lv l x = true) : keptB a' b' c' d' lv l x = true := by
 unfold keptB at *
 simp only [Bool.or_eq_true] at *
 rcases h with ((((h | h) | h) | h) | h) | h
 ·exact .inl (.inl (.inl (.inl (.inl h))))
 ·exact .inl (.inl (.inl (.inl (.inr h))))
 ·exact .inl (.inl (.inl (.inr (tierB_more ha h))))
 ·exact .inl (.inl (.inr (tierB_more hb h)))
 ·exact .inl (.inr (tierB_more hc h))
 ·exact .inr (tierB_more hd h)
/-- Some one of a row is the newest of a kind. -/
theorem best_some (P : Lk → Prop) : ∀ l : List Lk, l.Pairwise (fun a b => a.f0 < b.f0) → (∀ y ∈ l, 0 ≤ y.f3) → (∃ y ∈ l, P y) → ∃ z ∈ l, P z ∧ ∀ y ∈ l, P y → ¬ nwr y z := by
 have key : ∀ (r d : List Lk) (id t : Int), (d ++ r).Pairwise (fun a b => a.f0 < b.f0) → (∀ y ∈ r, 0 ≤ y.f3) → Best P d id t → ∃ id' t', Best P (d ++ r) id' t' := by
  intro r
  induction r with
  | nil => intro d id t _ _ hb; exact ⟨id, t, by rw [List.append_nil]; exact hb⟩
  | cons y r ih =>
   intro d id t hu h0 hb
   have e : d ++ y :: r = (d ++ [y]) ++ r := by simp
   have hup : ∀ z ∈ d, z.f0 < y.f0 := fun z hz => (List.pairwise_append.1 hu).2.2 z hz y (List.mem_cons_self ..)
   rw [e] at hu ⊢
   have hr0 : ∀ z ∈ r, 0 ≤ z.f3 := fun z hz => h0 z (List.mem_cons_of_mem _ hz)
   have hy0 := h0 y (List.mem_cons_self ..)
   by_cases hp : P y ∧ y.f3 ≥ t
   ·exact ih (d ++ [y]) _ _ hu hr0 (hb.take hp.1 hup hy0 hp.2)
   ·exact ih (d ++ [y]) _ _ hu hr0 (hb.skip hy0 fun h1 h2 => hp ⟨h1, h2⟩)
 intro l hu h0 ⟨y, hy, hpy⟩
 obtain ⟨id, t, hb⟩ := key l [] 0 0 hu h0 (.inl ⟨rfl, rfl, by simp⟩)
 rw [List.nil_append] at hb
 rcases hb with ⟨_, _, hn⟩ | ⟨z, hz, _, _, hp, hbest⟩
 ·exact absurd hpy (hn y hy)
 ·exact ⟨z, hz, hp, hbest⟩
/-- What is kept of a row is kept of the kept ones. -/
theorem kept_again {a b c d lv : Int} {l : List Lk} (hu : l.Pairwise fun a b => a.f0 < b.f0) (h0 : ∀ y ∈ l, 0 ≤ y.f3) (x : Lk) (hx : x ∈ l) (hk : keptB a b c d lv l x = true) : keptB a b c d lv (l.filter (keptB a b c d lv l)) x = true := by
 have hd : ∀ x ∈ l, ∀ y ∈ l, x.f0 = y.f0 → x = y := fun x hx y hy he => by
  obtain ⟨i, hi, rfl⟩ := List.getElem_of_mem hx
  obtain ⟨j, hj, rfl⟩ := List.getElem_of_mem hy
  rcases Nat.lt_trichotomy i j with g | g | g
  ·have := List.pairwise_iff_getElem.1 hu i j hi hj g
   omega
  ·subst g; rfl
  ·have := List.pairwise_iff_getElem.1 hu j i hj hi g
   omega
 have tier : ∀ (t many : Int), (∀ z ∈ l, tierB t many l z = true → keptB a b c d lv l z = true) → tierB t many l x = true → tierB t many (l.filter (keptB a b c d lv l)) x = true := fun t many hkt hb => by
  have hb0 := hb
  unfold tierB at hb ⊢
  simp only [Bool.and_eq_true, decide_eq_true_eq] at hb ⊢
  refine ⟨newestP_iff.2 fun y hy he => newestP_iff.1 hb.1 y (List.mem_filter.1 hy).1 he, ?_⟩
  have hle : laterN t (l.filter (keptB a b c d lv l)) x ≤ laterN t l x := by
   unfold laterN
   refine Nat.le_trans (List.countP_mono_left (p := fun y => newestP t (l.filter (keptB a b c d lv l)) y && decide (bk t x.f3 < bk t y.f3)) (q := fun y => newestP t l y && decide (bk t x.f3 < bk t y.f3)) fun y hy hp => ?_) (List.Sublist.countP_le (List.filter_sublist ..))
   simp only [Bool.and_eq_true, decide_eq_true_eq] at hp ⊢
   obtain ⟨hyl, _⟩ := List.mem_filter.1 hy
   obtain ⟨z, hz, hzb, hzn⟩ := best_some (fun q => bk t q.f3 = bk t y.f3) l hu h0 ⟨y, hyl, rfl⟩
   have hz1 : newestP t l z = true := newestP_iff.2 fun q hq he => hzn q hq (he.trans hzb)
   have hz2 : laterN t l z ≤ laterN t l x := by
    unfold laterN
    refine List.countP_mono_left fun q _ hq => ?_
    simp only [Bool.and_eq_true, decide_eq_true_eq] at hq ⊢
    exact ⟨hq.1, by omega⟩
   have hzk : keptB a b c d lv l z = true := hkt z hz (by
    unfold tierB
    simp only [Bool.and_eq_true, decide_eq_true_eq]
    exact ⟨hz1, by omega⟩)
   have n1 := newestP_iff.1 hp.1 z (List.mem_filter.2 ⟨hz, hzk⟩) hzb
   have n2 := hzn y hyl rfl
   have he : z.f0 = y.f0 := by unfold nwr at n1 n2; omega
   have hzy := hd z hz y hyl he
   subst hzy
   exact ⟨hz1, hp.2⟩
  omega
 have hk0 := hk
 unfold keptB at hk ⊢
 simp only [Bool.or_eq_true] at hk ⊢
 rcases hk with ((((h | h) | h) | h) | h) | h
 ·exact .inl (.inl (.inl (.inl (.inl h))))
 ·exact .inl (.inl (.inl (.inl (.inr h))))
 ·exact .inl (.inl (.inl (.inr (tier 0 a (fun z _ hz => by unfold keptB; simp [hz]) h))))
 ·exact .inl (.inl (.inr (tier 1 b (fun z _ hz => by unfold keptB; simp [hz]) h)))
 ·exact .inl (.inr (tier 2 c (fun z _ hz => by unfold keptB; simp [hz]) h))
 ·exact .inr (tier 3 d (fun z _ hz => by unfold keptB; simp [hz]) h)
/-- A link on another parent. -/
def onto (x : Lk) : Lk := ⟨x.f0, 1, x.f2, x.f3, x.f4, x.f5⟩
theorem newestP_onto (t : Int) (l : List Lk) (x : Lk) : newestP t (l.map onto) (onto x) = newestP t l x := by
 unfold newestP
 rw [List.all_map]
 rfl
theorem laterN_onto (t : Int) (l : List Lk) (x : Lk) : laterN t (l.map onto) (onto x) = laterN t l x := by
 unfold laterN
 rw [List.countP_map]
 congr 1
 funext y
 show (newestP t (l.map onto) (onto y) && _) = _
 rw [newestP_onto]
 rfl
theorem keptB_onto (a b c d lv : Int) (l : List Lk) (x : Lk) : keptB a b c d lv (l.map onto) (onto x) = keptB a b c d lv l x := by
 unfold keptB tierB
 simp only [newestP_onto, laterN_onto]
 rfl
end Go.Proofs.YtfdlbnfjohpdlaaGreatDoor.Th
namespace Go.Proofs.YtfdlbnfjohpdlaaGreatDoor.Th
open Go.RowKit Go.Lib Go.Proofs.YtfdlbnfjohpdlaaGreatDoor.PPo Go.Proofs.YtfdlbnfjohpdlaaGreatDoorW.PrintWords
set_option linter.unusedVariables false
theorem nodup_len {l1 l2 : List Int} (h1 : l1.Nodup) (h2 : ∀ x ∈ l1, x ∈ l2) : l1.length ≤ l2.length := by
 induction l1 generalizing l2 with
 | nil => simp
 | cons a l ih =>
  obtain ⟨h3, h4⟩ := List.nodup_cons.1 h1
  have h5 := h2 a (List.mem_cons_self ..)
  have := ih (l2 := l2.erase a) h4 (fun x hx => (List.mem_erase_of_ne (show x ≠ a by rintro rfl; exact h3 hx)).2 (h2 x (List.mem_cons_of_mem _ hx)))
  rw [List.length_erase_of_mem h5] at this
  have := List.length_pos_of_mem h5
  rw [List.length_cons]
  omega
/-- How many of a row are later. -/
def laterI (D : List Int) (d : Int) : Nat := D.countP fun e => decide (d < e)
theorem rank_sorted : ∀ (S : List Int) (k n : Nat), S.Pairwise (fun a b => b < a) → S.countP (fun d => decide (k + laterI S d < n)) = min (n - k) S.length
 | [], k, n, _ => by simp
 | a :: S, k, n, h => by
  obtain ⟨h1, h2⟩ := List.pairwise_cons.1 h
  have e0 : laterI (a :: S) a = 0 := by
   unfold laterI
   rw [List.countP_cons_of_neg (by simp)]
   rw [List.countP_eq_zero]
   intro e he
   have := h1 e he
   simp
   omega
  have e1 : ∀ d ∈ S, laterI (a :: S) d = laterI S d + 1 := fun d hd => by
   unfold laterI
   rw [List.countP_cons_of_pos (by have := h1 d hd; simp; omega)]
  have e2 : S.countP (fun d => decide (k + laterI (a :: S) d < n)) = S.countP (fun d => decide (k + 1 + laterI S d < n)) := by
   refine List.countP_congr fun d hd => ?_
   rw [e1 d hd]
   simp
   omega
  rw [List.countP_cons, e0, e2, rank_sorted S (k + 1) n h2, List.length_cons]
  by_cases g : k < n
  ·rw [if_pos (by simp; omega)]
   omega
  ·rw [if_neg (by simp; omega)]
   omega
theorem rank_min (D : List Int) (hD : D.Nodup) (n : Nat) : D.countP (fun d => decide (laterI D d < n)) = min n D.length := by
 have hp : (D.mergeSort fun a b => decide (b ≤ a)).Perm D := List.mergeSort_perm ..
 have hs : (D.mergeSort fun a b => decide (b ≤ a)).Pairwise fun a b => b < a := by
  have h1 : (D.mergeSort fun a b => decide (b ≤ a)).Pairwise fun a b => decide (b ≤ a) = true := List.pairwise_mergeSort (fun a b c h1 h2 => by simp at *; omega) (fun a b => by simp; omega) D
  have h2 : (D.mergeSort fun a b => decide (b ≤ a)).Nodup := hp.nodup_iff.2 hD
  refine (List.Pairwise.and h1 h2).imp fun {a b} h => ?_
  have := of_decide_eq_true h.1
  have := h.2
  omega
 generalize (D.mergeSort fun a b => decide (b ≤ a)) = S at hp hs
 have h := rank_sorted S 0 n hs
 rw [hp.length_eq] at h
 rw [← hp.countP_eq]
 have e : ∀ d, laterI D d = laterI S d := fun d => (hp.countP_eq _).symm
 simp only [Nat.zero_add, Nat.sub_zero] at h
 rw [← h]
 simp only [e]
/-- The days of a row, each once. -/
def dayAdd (D : List Int) (x : Lk) : List Int := if D.contains (bk 0 x.f3) = true then D else D ++ [bk 0 x.f3]
def daysV (l : List Lk) : List Int := l.foldl dayAdd []
theorem days_snoc (l : List Lk) (x : Lk) : daysV (l ++ [x]) = dayAdd (daysV l) x := by unfold daysV; rw [List.foldl_append]; rfl
theorem days_all : ∀ (l : List Lk) (D : List Int), D.Nodup → (l.foldl dayAdd D).Nodup ∧ (l.foldl dayAdd D).length ≤ D.length + l.length ∧ ∀ d, d ∈ l.foldl dayAdd D ↔ d ∈ D ∨ ∃ x ∈ l, bk 0 x.f3 = d
 | [], D, h => ⟨h, by simp, fun d => by simp⟩
 | x :: l, D, h => by
  have hn : (dayAdd D x).Nodup ∧ (dayAdd D x).length ≤ D.length + 1 ∧ ∀ d, d ∈ dayAdd D x ↔ d ∈ D ∨ bk 0 x.f3 = d := by
   unfold dayAdd
   by_cases hc : D.contains (bk 0 x.f3) = true
   ·rw [if_pos hc]
    refine ⟨h, by omega, fun d => ⟨.inl, fun g => ?_⟩⟩
    rcases g with g | rfl
    ·exact g
    ·exact List.contains_iff_mem.1 hc
   ·rw [if_neg hc]
    refine ⟨List.nodup_append.2 ⟨h, by simp, fun a ha b hb => ?_⟩, by simp, fun d => by simp [eq_comm]⟩
    obtain rfl := List.mem_singleton.1 hb
    rintro rfl
    exact hc (List.contains_iff_mem.2 ha)
  obtain ⟨h1, h2, h3⟩ := hn
  obtain ⟨g1, g2, g3⟩ := days_all l (dayAdd D x) h1
  rw [List.foldl_cons]
  refine ⟨g1, by rw [List.length_cons]; omega, fun d => ?_⟩
  rw [g3, h3]
  simp only [List.mem_cons, exists_eq_or_imp, or_assoc]
theorem days_nodup (l : List Lk) : (daysV l).Nodup := (days_all l [] List.nodup_nil).1
theorem days_len (l : List Lk) : (daysV l).length ≤ l.length := by have := (days_all l [] List.nodup_nil).2.1; simpa [daysV] using this
theorem days_mem (l : List Lk) (d : Int) : d ∈ daysV l ↔ ∃ x ∈ l, bk 0 x.f3 = d := by have := (days_all l [] List.nodup_nil).2.2 d; simpa [daysV] using this
theorem one_at_most {p : Lk → Bool} : ∀ {l : List Lk}, l.Pairwise (fun a b => a.f0 < b.f0) → (∀ x ∈ l, ∀ y ∈ l, p x = true → p y = true → x.f0 = y.f0) → l.countP p ≤ 1
 | [], _, _ => by simp
 | a :: l, hu, h => by
  obtain ⟨h1, h2⟩ := List.pairwise_cons.1 hu
  rw [List.countP_cons]
  by_cases hp : p a = true
  ·rw [if_pos hp]
   have : l.countP p = 0 := by
    rw [List.countP_eq_zero]
    intro y hy hpy
    have := h1 y hy
    have := h a (List.mem_cons_self ..) y (List.mem_cons_of_mem _ hy) hp hpy
    omega
   omega
  ·rw [if_neg hp]
   have := one_at_most h2 (fun x hx y hy => h x (List.mem_cons_of_mem _ hx) y (List.mem_cons_of_mem _ hy))
   omega
theorem newest_same {t : Int} {l : List Lk} {x y : Lk} (hx : x ∈ l) (hy : y ∈ l) (h1 : newestP t l x = true) (h2 : newestP t l y = true) (he : bk t x.f3 = bk t y.f3) : x.f0 = y.f0 := by
 have n1 := newestP_iff.1 h1 y hy he.symm
 have n2 := newestP_iff.1 h2 x hx he
 unfold nwr at n1 n2
 omega
theorem newest_bk {l : List Lk} (hu : l.Pairwise fun a b => a.f0 < b.f0) (h0 : ∀ y ∈ l, 0 ≤ y.f3) {d : Int} (hd : d ∈ daysV l) : ∃ z ∈ l, newestP 0 l z = true ∧ bk 0 z.f3 = d := by
 obtain ⟨y, hy, rfl⟩ := (days_mem l d).1 hd
 obtain ⟨z, hz, hzb, hzn⟩ := best_some (fun q => bk 0 q.f3 = bk 0 y.f3) l hu h0 ⟨y, hy, rfl⟩
 exact ⟨z, hz, newestP_iff.2 fun q hq he => hzn q hq (he.trans hzb), hzb⟩
theorem later_days {l : List Lk} (hu : l.Pairwise fun a b => a.f0 < b.f0) (h0 : ∀ y ∈ l, 0 ≤ y.f3) (x : Lk) : laterN 0 l x = laterI (daysV l) (bk 0 x.f3) := by
 unfold laterN laterI
 rw [List.countP_eq_length_filter, List.countP_eq_length_filter]
 have hnd : ((l.filter fun y => newestP 0 l y && decide (bk 0 x.f3 < bk 0 y.f3)).map fun y => bk 0 y.f3).Nodup := by
  unfold List.Nodup
  rw [List.pairwise_map]
  refine (hu.filter _).imp_of_mem fun {a b} ha hb hab he => ?_
  obtain ⟨a1, a2⟩ := List.mem_filter.1 ha
  obtain ⟨b1, b2⟩ := List.mem_filter.1 hb
  rw [Bool.and_eq_true] at a2 b2
  have := newest_same a1 b1 a2.1 b2.1 he
  omega
 rw [← List.length_map (f := fun y : Lk => bk 0 y.f3)]
 refine Nat.le_antisymm (nodup_len hnd fun d hd => ?_) (nodup_len ((days_nodup l).filter _) fun d hd => ?_)
 ·obtain ⟨y, hy, rfl⟩ := List.mem_map.1 hd
  obtain ⟨y1, y2⟩ := List.mem_filter.1 hy
  rw [Bool.and_eq_true] at y2
  exact List.mem_filter.2 ⟨(days_mem l _).2 ⟨y, y1, rfl⟩, y2.2⟩
 ·obtain ⟨d1, d2⟩ := List.mem_filter.1 hd
  obtain ⟨z, hz, hzn, rfl⟩ := newest_bk hu h0 d1
  exact List.mem_map.2 ⟨z, List.mem_filter.2 ⟨hz, by rw [hzn, d2]; rfl⟩, rfl⟩
/-- How many of a day are kept that are not pinned. -/
def keptC (K : List Int) (l : List Lk) (d : Int) : Nat := l.countP fun x => decide (bk 0 x.f3 = d) && K.contains x.f0 && !x.f5
theorem tier_none (t : Int) (l : List Lk) (x : Lk) : tierB t 0 l x = false := by
 unfold tierB
 rw [decide_eq_false (by omega), Bool.and_false]
theorem daily_plain {n : Nat} {rest : List Lk} {nx : Int} (hp : rightP (n : Int) 0 0 0 = true) (ht : rightT (rootL :: rest) 1 nx = true) (hg : ∀ x ∈ rest, x.f4 = false) (hs : Small (rootL :: rest)) :
  (∀ x ∈ rest, x.f5 = true → (keepV (n : Int) 0 0 0 (rootL :: rest) 1 nx).contains x.f0 = true) ∧
  (∀ d, keptC (keepV (n : Int) 0 0 0 (rootL :: rest) 1 nx) rest d ≤ 1 ∧ (n ≤ laterI (daysV rest) d → keptC (keepV (n : Int) 0 0 0 (rootL :: rest) 1 nx) rest d = 0)) ∧
  1 + (daysV rest).countP (fun d => decide (laterI (daysV rest) d < n)) ≤ (keepV (n : Int) 0 0 0 (rootL :: rest) 1 nx).length ∧
  (daysV rest).countP (fun d => decide (laterI (daysV rest) d < n)) = min n (daysV rest).length := by
 have hC : ∀ r : List Lk, (∀ x ∈ r, x.f4 = false) → candV (rootL :: r) = r := fun r h => by
  unfold candV
  show r.filter _ = r
  exact List.filter_eq_self.2 fun x hx => by rw [h x hx]; rfl
 obtain ⟨_, _, _, _, _, hup, h1⟩ := right_cand ht
 rw [hC rest hg] at hup h1
 have h0 : ∀ y ∈ rest, 0 ≤ y.f3 := fun y hy => (hs y (List.mem_cons_of_mem _ hy)).2.1
 have hK : keepV (n : Int) 0 0 0 (rootL :: rest) 1 nx = 1 :: (rest.filter (keptB n 0 0 0 1 rest)).map (·.f0) := by unfold keepV; rw [if_pos ⟨hp, ht⟩, hC rest hg]
 have hd : ∀ x ∈ rest, ∀ y ∈ rest, x.f0 = y.f0 → x = y := fun x hx y hy he => by
  obtain ⟨i, hi, rfl⟩ := List.getElem_of_mem hx
  obtain ⟨j, hj, rfl⟩ := List.getElem_of_mem hy
  rcases Nat.lt_trichotomy i j with g | g | g
  ·have := List.pairwise_iff_getElem.1 hup i j hi hj g
   omega
  ·subst g; rfl
  ·have := List.pairwise_iff_getElem.1 hup j i hj hi g
   omega
 have hin : ∀ x ∈ rest, (keepV (n : Int) 0 0 0 (rootL :: rest) 1 nx).contains x.f0 = keptB n 0 0 0 1 rest x := fun x hx => by
  have hx1 := h1 x hx
  rw [hK, List.contains_cons, beq_eq_false_iff_ne.2 (by omega), Bool.false_or, Bool.eq_iff_iff, List.contains_iff_mem]
  constructor
  ·intro h
   obtain ⟨z, hz, he⟩ := List.mem_map.1 h
   obtain ⟨g1, g2⟩ := List.mem_filter.1 hz
   rw [← hd z g1 x hx he]
   exact g2
  ·intro h
   exact List.mem_map.2 ⟨x, List.mem_filter.2 ⟨hx, h⟩, rfl⟩
 have hkb : ∀ x ∈ rest, keptB n 0 0 0 1 rest x = (x.f5 || tierB 0 n rest x) := fun x hx => by
  have hx1 := h1 x hx
  unfold keptB
  rw [tier_none, tier_none, tier_none, show (x.f0 == 1) = false from beq_eq_false_iff_ne.2 (by omega)]
  simp
 have hkc : ∀ d, keptC (keepV (n : Int) 0 0 0 (rootL :: rest) 1 nx) rest d = rest.countP fun x => decide (bk 0 x.f3 = d) && tierB 0 n rest x && !x.f5 := fun d => by
  unfold keptC
  refine List.countP_congr fun x hx => ?_
  rw [hin x hx, hkb x hx]
  cases x.f5 <;> simp
 refine ⟨fun x hx hp5 => ?_, fun d => ⟨?_, fun hle => ?_⟩, ?_, rank_min _ (days_nodup rest) n⟩
 ·rw [hin x hx, hkb x hx, hp5]
  rfl
 ·rw [hkc]
  refine one_at_most hup fun x hx y hy px py => ?_
  simp only [Bool.and_eq_true, decide_eq_true_eq, tierB] at px py
  exact newest_same hx hy px.1.2.1 py.1.2.1 (px.1.1.trans py.1.1.symm)
 ·rw [hkc, List.countP_eq_zero]
  intro x hx px
  simp only [Bool.and_eq_true, decide_eq_true_eq, tierB] at px
  have h2 := px.1.2.2
  rw [later_days hup h0, px.1.1] at h2
  omega
 ·rw [hK, List.length_cons, List.length_map, List.countP_eq_length_filter]
  have h2 : ((daysV rest).filter fun d => decide (laterI (daysV rest) d < n)).length ≤ ((rest.filter (keptB n 0 0 0 1 rest)).map fun x => bk 0 x.f3).length := nodup_len ((days_nodup rest).filter _) fun d hd => by
   obtain ⟨d1, d2⟩ := List.mem_filter.1 hd
   obtain ⟨z, hz, hzn, rfl⟩ := newest_bk hup h0 d1
   refine List.mem_map.2 ⟨z, List.mem_filter.2 ⟨hz, ?_⟩, rfl⟩
   rw [hkb z hz]
   have : tierB 0 n rest z = true := by
    unfold tierB
    rw [hzn, later_days hup h0, Bool.true_and]
    have := of_decide_eq_true d2
    exact decide_eq_true (by omega)
   rw [this, Bool.or_true]
  rw [List.length_map] at h2
  omega
end Go.Proofs.YtfdlbnfjohpdlaaGreatDoor.Th
namespace Go.Proofs.YtfdlbnfjohpdlaaGreatDoor.Th
open Go.RowKit Go.Proofs.YtfdlbnfjohpdlaaGreatDoor.PPo Go.Proofs.YtfdlbnfjohpdlaaGreatDoorW.PrintWords
set_option linter.unusedVariables false
theorem rd_rest {root : Lk} {rest : List Lk} {p : Nat} (h1 : 1 ≤ p) (h2 : p < rest.length + 1) : ∃ hq : p - 1 < rest.length, rd_T31 (root :: rest) (p : Int) = rest[p - 1] ∧ rest.take p = rest.take (p - 1) ++ [rest[p - 1]] := by
 obtain ⟨q, rfl⟩ : ∃ q, p = q + 1 := ⟨p - 1, by omega⟩
 have hq : q < rest.length := by omega
 refine ⟨hq, ?_, ?_⟩
 ·unfold rd_T31
  rw [Int.toNat_natCast]
  simp [List.getD_eq_getElem?_getD, hq]
 ·exact List.take_succ_eq_append_getElem hq
theorem grown_root (l : List Nd) (ht : ∀ x ∈ l, TmN x) : ∃ rest nx nw, Evt (fun k => rootcellarlaw16_grown.f k l 0) (rootL :: rest, 1, nx, nw) ∧ rest.length = min l.length 50 ∧ Small (rootL :: rest) ∧ ∀ x ∈ rest, x.f4 = false := by
 have key : ∀ (m i : Nat) (acc : List Lk) (nx : Int), i + m = min l.length 50 → acc.length = i → Small acc → (∀ x ∈ acc, x.f4 = false) → ∃ rest nx' nw, Evt (fun k => rootcellarlaw16_grown.l0 k l 0 (i : Int) (rootL :: acc) 1 nx 0) (rootL :: rest, 1, nx', nw) ∧ rest.length = min l.length 50 ∧ Small rest ∧ ∀ x ∈ rest, x.f4 = false := by
  intro m
  induction m with
  | zero =>
   intro i acc nx hi hl hs hg
   have hlv : wrap64 (1 + (mx 0 (mn 0 (wrap64 (((rootL :: acc).length : Int) - 1))))) = 1 := by
    have h1 : wrap64 (((rootL :: acc).length : Int) - 1) = (acc.length : Int) := by rw [List.length_cons, wrap64_id (by omega) (by omega)]; omega
    rw [h1]
    have h2 : mx 0 (mn 0 (acc.length : Int)) = 0 := by unfold mx mn; split <;> (try split) <;> omega
    rw [h2, wrap64_id (by omega) (by omega)]
    rfl
   refine ⟨acc, nx, 0, Evt.step (fun k => by rw [rootcellarlaw16_grown.l0]) ?_, by omega, hs, hg⟩
   by_cases h1 : (i : Int) < (l.length : Int)
   ·refine Evt.pos h1 (Evt.neg (by omega) (Evt.val' ?_))
    rw [hlv]
   ·refine Evt.neg h1 (Evt.val' ?_)
    rw [hlv]
  | succ m ih =>
   intro i acc nx hi hl hs hg
   have hil : i < l.length := by omega
   have hx := ht l[i] (List.getElem_mem hil)
   obtain ⟨rest, nx', nw, h1, h2, h3, h4⟩ := ih (i + 1) (acc ++ [(⟨wrap64 ((i : Int) + 2), wrap64 (1 + (mx 0 (mn ((rd_T68 l (i : Int)).f2) (i : Int)))), (⟨#[110]⟩ : ByteArray), (rd_T68 l (i : Int)).f0, false, (rd_T68 l (i : Int)).f1⟩ : Lk)]) (wrap64 ((i : Int) + 3)) (by omega) (by rw [List.length_append]; simp; omega) (fun x hx' => by
    rcases List.mem_append.1 hx' with h | h
    ·exact hs x h
    ·obtain rfl := List.mem_singleton.1 h
     rw [rdN_get l i hil]
     exact ⟨show (⟨#[110]⟩ : ByteArray).size ≤ 120 by decide, hx⟩) (fun x hx' => by
    rcases List.mem_append.1 hx' with h | h
    ·exact hg x h
    ·obtain rfl := List.mem_singleton.1 h
     rfl)
   refine ⟨rest, nx', nw, Evt.step (fun k => by rw [rootcellarlaw16_grown.l0]) ?_, h2, h3, h4⟩
   refine Evt.pos (by omega) (Evt.pos (by omega) (Evt.pos (by omega) (Evt.pos (by rw [List.length_cons]; omega) ?_)))
   rw [idxP i (by omega)]
   exact h1
 unfold rootcellarlaw16_grown.f
 obtain ⟨rest, nx, nw, h1, h2, h3, h4⟩ := key (min l.length 50) 0 [] 2 (by omega) rfl (fun x hx => by simp at hx) (fun x hx => by simp at hx)
 refine ⟨rest, nx, nw, h1, h2, fun x hx => ?_, h4⟩
 rcases List.mem_cons.1 hx with rfl | hx
 ·exact ⟨by decide, by unfold Tm rootL; decide⟩
 ·exact h3 x hx
theorem keptC_snoc (K : List Int) (l : List Lk) (x : Lk) (d : Int) : keptC K (l ++ [x]) d = keptC K l d + if (decide (bk 0 x.f3 = d) && K.contains x.f0 && !x.f5) = true then 1 else 0 := by
 unfold keptC
 rw [List.countP_append, List.countP_singleton]
theorem count_step (D : List Int) (P : Int → Bool) {i : Nat} (h : i < D.length) : (D.take (i + 1)).countP P = (D.take i).countP P + if P D[i] = true then 1 else 0 := by
 rw [List.take_succ_eq_append_getElem h, List.countP_append, List.countP_singleton]
theorem days_right {n : Nat} (h : n ≤ 1000) : rightP (n : Int) 0 0 0 = true := by
 unfold rightP okN
 simp
 omega
end Go.Proofs.YtfdlbnfjohpdlaaGreatDoor.Th
namespace Go.Proofs.YtfdlbnfjohpdlaaGreatDoor.PPo
open Go.RowKit Go.Proofs.YtfdlbnfjohpdlaaGreatDoor.Th Go.Proofs.YtfdlbnfjohpdlaaGreatDoorW.PrintWords Go.Proofs.YtfdlbnfjohpdlaaGreatDoorW.PrintLast Go.Proofs.YtfdlbnfjohpdlaaGreatDoorW.PrintMore
attribute [local go_sem] max2_int min2_int max_two min_two max_three min_three max_four min_four
set_option linter.unusedVariables false
set_option linter.unusedSimpArgs false
theorem rdI_at {l : List Int} {i : Nat} (h : i < l.length) : rd l (i : Int) = l[i] := by simp [rd, List.getD_eq_getElem?_getD, h]
theorem inR.calls (L : List Int) (A : Option Addr) (c : Nat) (id : Int) (bb : Bool) (w : World) (hl : L.length ≤ 1000) (hr : Kd.C (Kd.int .i64) w A L.length L) (hc : L.length ≤ c) (hb : L.contains id = bb) :
  Calls Tryz.prog 21 #[.slice A L.length c, .int .i64 id] w fun ex w' => ex = .returned (.bool bb) ∧ Below w.heap.size w w' := by
 obtain ⟨k, hk⟩ := (in_ev L id hl).get
 rw [hb] at hk
 exact (rootcellarlaw16_in.calls k A c L id bb w hr hc hk).mono fun ex w' q => ⟨q.1, q.2.below⟩
theorem inQ.calls (L : List Int) (A : Option Addr) (c : Nat) (id : Int) (bb : Bool) (w : World) (hl : L.length ≤ 1000) (hr : Kd.C (Kd.int .i64) w A L.length L) (hc : L.length ≤ c) (hb : L.contains id = bb) (n : Nat) :
  Calls Tryz.prog 21 #[.slice A L.length c, .int .i64 id] (w.drewN n) fun ex w' => ex = .returned (.bool bb) ∧ ∃ m, w' = w.drewN m := by
 obtain ⟨k, hk⟩ := (in_ev L id hl).get
 rw [hb] at hk
 refine (rootcellarlaw16_in.calls k A c L id _ (w.drewN n) (Kd.C_drewN hr n) hc hk).mono ?_
 rintro ex w' ⟨rfl, ⟨m, rfl⟩⟩
 exact ⟨rfl, n + m, World.drewN_drewN ..⟩
theorem bucketR.calls (x : Lk) (hx : Tm x) (w : World) : Calls Tryz.prog 25 #[.int .i64 0, .int .u64 x.f3] w fun ex w' => ex = .returned (.int .i64 (bk 0 x.f3)) ∧ Below w.heap.size w w' := by
 obtain ⟨k, hk⟩ := (refbucket_ev 0 x.f3 hx.1 hx.2).get
 exact (rootcellarref15_Bucket.calls k 0 x.f3 _ w hk).mono fun ex w' q => ⟨q.1, q.2.below⟩
theorem bucketQ.calls (x : Lk) (hx : Tm x) (w : World) (n : Nat) : Calls Tryz.prog 25 #[.int .i64 0, .int .u64 x.f3] (w.drewN n) fun ex w' => ex = .returned (.int .i64 (bk 0 x.f3)) ∧ ∃ m, w' = w.drewN m := by
 obtain ⟨k, hk⟩ := (refbucket_ev 0 x.f3 hx.1 hx.2).get
 refine (rootcellarref15_Bucket.calls k 0 x.f3 _ (w.drewN n) hk).mono ?_
 rintro ex w' ⟨rfl, ⟨m, rfl⟩⟩
 exact ⟨rfl, n + m, World.drewN_drewN ..⟩
set_option maxHeartbeats 8000000 in
set_option maxRecDepth 100000 in
theorem PolicyDaily_walk (many : Int) (A1 : Option Addr) (c1 : Nat) (l1 : List Nd) (w : World) (hr1 : Kd.C k68 w A1 l1.length l1) (hc1 : l1.length ≤ c1) (ht : TabsW w) (hm : MaxW w) (htn : ∀ x ∈ l1, TmN x) :
  Calls Tryz.prog 6 #[.int .i64 many, .slice A1 l1.length c1] w fun ex w' => ex = .returned (.bool true) ∧ Below w.heap.size w w' := by
 have hu := Tryz.underlying23
 have hu2 := Tryz.underlying28
 have hu3 := Tryz.underlying31
 have mixed : Tryz.prog.follows .mixedOrders = true := by kernel_rfl
 have HB := Aside0.mk (Below.refl w.heap.size w)
 have HSH := Aside0.mk (fun (W : World) (hW : Below w.heap.size w W) => (shownR.calls W (ht.below hW) (hm.below hW)).mono fun ex w' q => (show ex = .returned (.bool true) ∧ Below w.heap.size w w' ∧ Below W.heap.size W w' from ⟨q.1, hW.trans (q.2.mono (below_size hW)), q.2⟩))
 obtain ⟨rest, nx, nw, hev, hrl, hsm, hgh⟩ := grown_root l1 htn
 obtain ⟨k, hk⟩ := hev.get
 obtain ⟨mq, hmq⟩ : ∃ m, (if (1000 : Int) < many then 1000 else many) = m := ⟨_, rfl⟩
 obtain ⟨n, N, hmn, hN, hn⟩ : ∃ (n : Nat) (N : Int), (if (0 : Int) < mq then mq else 0) = N ∧ N = (n : Int) ∧ n ≤ 1000 := by
  refine ⟨(if (0 : Int) < mq then mq else 0).toNat, _, rfl, ?_, ?_⟩
  ·split <;> omega
  ·have : mq ≤ 1000 := by rw [← hmq]; split <;> omega
   split <;> omega
 have hpp := fun h => daily_plain (n := n) (nx := nx) (days_right hn) h hgh hsm
 rw [← hN] at hpp
 have hrd := fun (p : Nat) (h1 : 1 ≤ p) (h2 : p < rest.length + 1) => rd_rest (root := rootL) (rest := rest) h1 h2
 have hul : (rootL :: rest).length = rest.length + 1 := rfl
 have htm : ∀ x ∈ rest, Tm x := fun x hx => (hsm x (List.mem_cons_of_mem _ hx)).2
 have HDL := Aside0.mk (fun (i : Nat) => Nat.le_trans (days_len (rest.take i)) (by rw [List.length_take]; omega : (rest.take i).length ≤ 50))
 obtain ⟨u, hu5⟩ : ∃ u, u = rootL :: rest := ⟨_, rfl⟩
 rw [← hu5] at hk hpp hul hsm hrd
 rw [← hul] at hrd
 clear hu5 hev hgh
 have HRL := Aside0.mk (And.intro hrl hul)
 have HTM := Aside0.mk htm
 have HNN := Aside0.mk (And.intro hN hn)
 have HRD := Aside0.mk hrd
 have hul60 : u.length ≤ 60 := by omega
 have hu1 : 1 ≤ u.length := by omega
 have HG := Aside0.mk (show ∀ (W : World), Below w.heap.size w W → Calls Tryz.prog 11 #[.slice A1 l1.length c1, .int .i64 0] W fun ex w' => ∃ A c, ex = .returned (.agg #[.slice A u.length c, .int .i64 1, .int .i64 nx, .int .u64 nw]) ∧ u.length ≤ c ∧ Kd.C k31 w' A u.length u ∧ Below W.heap.size W w' from fun W hW => by
  refine (rootcellarlaw16_grown.calls k A1 c1 l1 0 u 1 nx nw W (Kd.C_below hr1 hW) hc1 hk).mono ?_
  rintro ex w' ⟨v, rfl, h1, h2⟩
  obtain ⟨A, c, rfl, h3, h4⟩ := Kd.R_reads h1
  exact ⟨A, c, rfl, h3, h4, h2⟩)
 have HR := Aside0.mk (fun (W : World) (A : Option Addr) (c : Nat) (hW : Below w.heap.size w W) (h1 : u.length ≤ c) (h2 : Kd.C k31 W A u.length u) => treeR.calls A c u 1 nx nw W h2 h1 (small_size hsm) (ht.below hW))
 have HKE := Aside0.mk (fun (W : World) (A : Option Addr) (c : Nat) (hW : Below w.heap.size w W) (h1 : u.length ≤ c) (h2 : Kd.C k31 W A u.length u) => keepC.calls N 0 0 0 A c u 1 nx nw W h2 h1 hsm (ht.below hW))
 have HKL := Aside0.mk (keepV_len (a := N) (b := 0) (d := 0) (e := 0) (l := u) (live := 1) (next := nx))
 have HPP := Aside0.mk hpp
 unfold givesI at HKE
 generalize keepV N 0 0 0 u 1 nx = K at HKE HKL HPP
 clear hr1 hc1 ht hm htn hrl hsm hk hpp hul htm hN hn hrd
 cases hrt : rightT u 1 nx with
 | false =>
  rw [hrt] at HR
  clear hrt
  go_enter Tryz.func6, Tryz.ntmps6
  go_wp2_with (first
   | (go_at_call 10; go_loud (refine (HSH.out _ HB.out).mono ?_; rintro ex w1 ⟨rfl, q1, q2⟩; have HB1 := Aside0.mk q1; clear q1 q2))
   | (go_at_call 11; go_loud (refine (HG.out _ HB1.out).mono ?_; rintro ex wg ⟨Au, cu, rfl, q1, q2, q3⟩; have HBg := Aside0.mk (below_step HB1.out q3); have HCg := Aside0.mk (And.intro q1 q2); clear q1 q2 q3))
   | ((with_reducible refine gate_dst (N := 7) rfl ?_); refine box_event ?hg (N := 7) ?hd (cs := #[.slice none 0 0, .int .i64 0, .int .i64 0, .int .u64 0]) (t := 28) ?hr ?_; (case hd => rfl); (case hg => rfl); (case hr => first | (go_simp; done) | (go_simp; rfl)); intro g7 hg7 wa7 hbox hb; have HX7 := Aside0.mk hb; have BZ7 := Aside0.mk hbox; have HG7 := Aside0.mk (Nat.le_of_eq hg7.symm); clear hg7 hb hbox; have hc7_0 := blk_cell BZ7.out 0; have hf7_0 := blk_frozen BZ7.out 0; have hc7_1 := blk_cell BZ7.out 1; have hf7_1 := blk_frozen BZ7.out 1; have hc7_2 := blk_cell BZ7.out 2; have hf7_2 := blk_frozen BZ7.out 2; have hc7_3 := blk_cell BZ7.out 3; have hf7_3 := blk_frozen BZ7.out 3)
   | ((with_reducible refine gate_store (t := 28) (p := 7) rfl ?_); refine store_event (t := 28) (p := 7) (v := .tmp 23) (w1 := ((((wa7.setCell ⟨g7, 0, none⟩ (.slice Au u.length cu)).setCell ⟨g7, 1, none⟩ (.int .i64 1)).setCell ⟨g7, 2, none⟩ (.int .i64 nx)).setCell ⟨g7, 3, none⟩ (.int .u64 nw))) rfl rfl rfl ?hr ?_; (case hr => first | (go_simp; done) | (go_simp; rfl)); intro w7 hw7; have q1 := tree_put (.slice Au u.length cu) (.int .i64 1) (.int .i64 nx) (.int .u64 nw) BZ7.out; have q2 := tree_below (.slice Au u.length cu) (.int .i64 1) (.int .i64 nx) (.int .u64 nw) HX7.out HG7.out; rw [← hw7] at q1 q2; clear hw7; have BK7 := Aside0.mk q1; have HY7 := Aside0.mk q2; have HB7 := Aside0.mk (below_step HBg.out q2); clear hc7_0 hf7_0 hc7_1 hf7_1 hc7_2 hf7_2 hc7_3 hf7_3 q1 q2; have hd7_0 := blk_cell BK7.out 0; have hd7_1 := blk_cell BK7.out 1; have hd7_2 := blk_cell BK7.out 2; have hd7_3 := blk_cell BK7.out 3; have HC7 := Aside0.mk (Kd.C_below HCg.out.2 HY7.out))
   | (go_at_call 20; go_loud (refine (HR.out _ Au cu HB7.out HCg.out.1 HC7.out).mono ?_; rintro ex w28 ⟨rfl, q3⟩; have HB28 := Aside0.mk (below_step HB7.out q3); clear q3 hd7_0 hd7_1 hd7_2 hd7_3)))
  go_ret
  exact ⟨rfl, HB28.out⟩
 | true =>
  rw [hrt] at HR
  obtain ⟨p1, p2, p3, p4⟩ := HPP.out hrt
  have HX1 := Aside0.mk p1
  have HX2 := Aside0.mk p2
  have HX3 := Aside0.mk (And.intro p3 p4)
  clear HPP hrt p1 p2 p3 p4
  have hkl := HKL.out
  go_enter Tryz.func6, Tryz.ntmps6
  go_wp2_with (first
   | (go_at_call 10; go_loud (refine (HSH.out _ HB.out).mono ?_; rintro ex w1 ⟨rfl, q1, q2⟩; have HB1 := Aside0.mk q1; clear q1 q2))
   | (go_at_call 11; go_loud (refine (HG.out _ HB1.out).mono ?_; rintro ex wg ⟨Au, cu, rfl, q1, q2, q3⟩; have HBg := Aside0.mk (below_step HB1.out q3); have HCg := Aside0.mk (And.intro q1 q2); clear q1 q2 q3))
   | ((with_reducible refine gate_dst (N := 7) rfl ?_); refine box_event ?hg (N := 7) ?hd (cs := #[.slice none 0 0, .int .i64 0, .int .i64 0, .int .u64 0]) (t := 28) ?hr ?_; (case hd => rfl); (case hg => rfl); (case hr => first | (go_simp; done) | (go_simp; rfl)); intro g7 hg7 wa7 hbox hb; have HX7 := Aside0.mk hb; have BZ7 := Aside0.mk hbox; have HG7 := Aside0.mk (Nat.le_of_eq hg7.symm); clear hg7 hb hbox; have hc7_0 := blk_cell BZ7.out 0; have hf7_0 := blk_frozen BZ7.out 0; have hc7_1 := blk_cell BZ7.out 1; have hf7_1 := blk_frozen BZ7.out 1; have hc7_2 := blk_cell BZ7.out 2; have hf7_2 := blk_frozen BZ7.out 2; have hc7_3 := blk_cell BZ7.out 3; have hf7_3 := blk_frozen BZ7.out 3)
   | ((with_reducible refine gate_store (t := 28) (p := 7) rfl ?_); refine store_event (t := 28) (p := 7) (v := .tmp 23) (w1 := ((((wa7.setCell ⟨g7, 0, none⟩ (.slice Au u.length cu)).setCell ⟨g7, 1, none⟩ (.int .i64 1)).setCell ⟨g7, 2, none⟩ (.int .i64 nx)).setCell ⟨g7, 3, none⟩ (.int .u64 nw))) rfl rfl rfl ?hr ?_; (case hr => first | (go_simp; done) | (go_simp; rfl)); intro w7 hw7; have q1 := tree_put (.slice Au u.length cu) (.int .i64 1) (.int .i64 nx) (.int .u64 nw) BZ7.out; have q2 := tree_below (.slice Au u.length cu) (.int .i64 1) (.int .i64 nx) (.int .u64 nw) HX7.out HG7.out; rw [← hw7] at q1 q2; clear hw7; have BK7 := Aside0.mk q1; have HY7 := Aside0.mk q2; have HB7 := Aside0.mk (below_step HBg.out q2); clear hc7_0 hf7_0 hc7_1 hf7_1 hc7_2 hf7_2 hc7_3 hf7_3 q1 q2; have hd7_0 := blk_cell BK7.out 0; have hd7_1 := blk_cell BK7.out 1; have hd7_2 := blk_cell BK7.out 2; have hd7_3 := blk_cell BK7.out 3; have HC7 := Aside0.mk (Kd.C_below HCg.out.2 HY7.out))
   | (go_at_call 20; go_loud (refine (HR.out _ Au cu HB7.out HCg.out.1 HC7.out).mono ?_; rintro ex w28 ⟨rfl, q3⟩; have HB28 := Aside0.mk (below_step HB7.out q3); have BT28 := Aside0.mk (blk_below BK7.out q3); have HC28 := Aside0.mk (Kd.C_below HC7.out q3); clear q3 hd7_0 hd7_1 hd7_2 hd7_3; have ht0 := blk_cell BT28.out 0; have ht1 := blk_cell BT28.out 1; have ht2 := blk_cell BT28.out 2; have ht3 := blk_cell BT28.out 3))
   | (go_at_call 13; go_loud (refine (HKE.out _ Au cu HB28.out HCg.out.1 HC28.out).mono ?_; rintro ex w35 ⟨Ak, ck, rfl, q1, q2, q3⟩; have HB35 := Aside0.mk (below_step HB28.out q3); have BT35 := Aside0.mk (blk_below BT28.out q3); have HC35 := Aside0.mk (Kd.C_below HC28.out q3); have HK35 := Aside0.mk (And.intro q1 q2); clear q1 q2 q3 ht0 ht1 ht2 ht3)))
  clear HSH HG HR HKE HB HB1 HBg HB7 BK7 BT28 HC7 HC28 HB28 hmq hmn
  go_loopg [9, 10] u.length (fun gg s9 s10 wr => ∃ p : Nat, s10 = .int .i64 p ∧ 1 ≤ p ∧ p ≤ u.length ∧ u.length - p ≤ gg ∧ Aside0 (Below w35.heap.size w35 wr) ∧ Aside0 (Kd.R (Kd.int .i64) 3 wr w35.heap.size (fun _ => True) s9 (daysV (rest.take (p - 1)))))
  case atStart => exact ⟨1, rfl, Nat.le_refl 1, hu1, by omega, ⟨Below.refl _ _⟩, ⟨Kd.R_nil _ _ _ _ _⟩⟩
  case round =>
   obtain ⟨p, rfl, hp1, hpu, hg, HBr, HDr⟩ := hrel
   have ht0 := blk_cell (blk_below BT35.out HBr.out) 0
   by_cases hlt : p < u.length
   ·have hltz : decide ((p : Int) < (u.length : Int)) = true := decide_eq_true (by omega)
    have hi0 : (0 : Int) ≤ (p : Int) := by omega
    have hi1 : (p : Int) < (u.length : Int) := by omega
    obtain ⟨ad, e', hx0, hx1, hx2, hx3, hx4, hx5⟩ := at_T31 (Kd.C_below HC35.out HBr.out) (p : Int) hi0 hi1
    cases e'
    simp only [Int.toNat_natCast] at hx3
    clear hx0 hx1 hx2 hx4 hx5
    obtain ⟨hq, hrx, htk⟩ := HRD.out p hp1 hlt
    rw [hrx] at hx3
    have hts : daysV (rest.take p) = dayAdd (daysV (rest.take (p - 1))) rest[p - 1] := by rw [htk, days_snoc]
    have HBU := Aside0.mk (fun W => bucketR.calls rest[p - 1] (HTM.out _ (List.getElem_mem hq)) W)
    have HLN := Aside0.mk (HDL.out (p - 1))
    generalize rest[p - 1] = x at hx3 hts HBU
    generalize daysV (rest.take (p - 1)) = D0 at HDr hts HLN
    clear hrx htk hq
    obtain ⟨Av, cv, hv⟩ := Kd.R_slice HDr.out
    subst hv
    obtain ⟨-, hvc, hvC⟩ := Kd.R_reads' HDr.out
    unfold dayAdd at hts
    generalize bk 0 x.f3 = day at hts HBU
    obtain ⟨bb, hbb⟩ : ∃ bb, D0.contains day = bb := ⟨_, rfl⟩
    have HIN := Aside0.mk (fun (W : World) (hW : Below wr.heap.size wr W) => inR.calls D0 Av cv day bb W (Nat.le_trans HLN.out (by decide)) (Kd.C_below hvC hW) hvc hbb)
    rw [hbb] at hts
    clear hvc hvC hbb
    cases bb with
    | true =>
     rw [if_pos rfl] at hts
     have HTS := Aside0.mk hts
     clear hts
     go_wp2_with (first
      | (go_at_call 25; go_loud (refine (HBU.out _).mono ?_; rintro ex wb ⟨rfl, q1⟩; have HYb := Aside0.mk q1; clear q1))
      | (go_at_call 21; go_loud (refine (HIN.out _ HYb.out).mono ?_; rintro ex wi ⟨rfl, q1⟩; have HYi := Aside0.mk (below_step HYb.out q1); clear q1)))
     go_roundg (u.length - (p + 1))
     case measure => omega
     case rel => exact ⟨p + 1, by go_num, by omega, by omega, by omega, ⟨below_step HBr.out HYi.out⟩, ⟨by rw [Nat.add_sub_cancel, HTS.out]; exact Kd.R_below HDr.out HYi.out⟩⟩
    | false =>
     rw [if_neg (by decide)] at hts
     have HTS := Aside0.mk hts
     clear hts
     go_wp2_with (first
      | (go_at_call 25; go_loud (refine (HBU.out _).mono ?_; rintro ex wb ⟨rfl, q1⟩; have HYb := Aside0.mk q1; clear q1))
      | (go_at_call 21; go_loud (refine (HIN.out _ HYb.out).mono ?_; rintro ex wi ⟨rfl, q1⟩; have HYi := Aside0.mk (below_step HYb.out q1); have HBi := Aside0.mk (below_step HBr.out HYi.out); have HDi := Aside0.mk (Kd.R_below HDr.out HYi.out); clear q1))
      | ((with_reducible refine gate_builtin (b := .append) (xs := #[.tmp 54, .tmp 56]) rfl ?_); at_builtin; refine Kd.R_append (Kd.int .i64) (w0 := w35) w35.heap.size rfl (.tmp 54) (.tmp 56) 34 3 (.int .i64 0) 8 rfl Tryz.underlying34 info3 rfl (by decide) (by omega) (.slice Av D0.length cv) D0 day [.int .i64 day] (fun _ => True) (fun _ => False) rfl ?aX rfl (fun _ hk => hk.elim) (fun _ _ => trivial) HDi.out HBi.out (below_size HBi.out) (Nat.le_trans (Nat.mul_le_mul_right 8 (Nat.succ_le_succ HLN.out)) (by decide)) ?_; (case aX => first | rfl | (go_simp; done)); intro v57 w57 ho hb hg hat; have HD57 := Aside0.mk ho; have HB57 := Aside0.mk hb; clear ho hb hg hat))
     go_roundg (u.length - (p + 1))
     case measure => omega
     case rel => exact ⟨p + 1, by go_num, by omega, by omega, by omega, HB57, ⟨by rw [Nat.add_sub_cancel, HTS.out]; exact HD57.out⟩⟩
   ·have hltz : decide ((p : Int) < (u.length : Int)) = false := decide_eq_false (by omega)
    have hpl : rest.take (p - 1) = rest := List.take_of_length_le (by have := HRL.out; omega)
    rw [hpl] at HDr
    have HDN := Aside0.mk (days_len rest)
    have hd60 : (daysV rest).length ≤ 50 := by have := days_len rest; have := HRL.out; omega
    obtain ⟨D, hD⟩ : ∃ D, D = daysV rest := ⟨_, rfl⟩
    rw [← hD] at HDr hd60 HX2 HX3
    clear hpl hD
    obtain ⟨Ad, cd, hv⟩ := Kd.R_slice HDr.out
    subst hv
    obtain ⟨-, hvc, hvC⟩ := Kd.R_reads' HDr.out
    have HD0 := Aside0.mk hvC
    clear hvc hvC
    go_wp2
    go_loopg [0, 12] D.length (fun gg s0 s12 wq => ∃ i : Nat, s0 = .int .i64 (((D.take i).countP (fun d => decide (laterI D d < n)) : Nat) : Int) ∧ s12 = .int .i64 i ∧ i ≤ D.length ∧ D.length - i ≤ gg ∧ Aside0 (Below w35.heap.size w35 wq) ∧ Aside0 (Kd.C (Kd.int .i64) wq Ad D.length D))
    case atStart => exact ⟨0, rfl, rfl, Nat.zero_le _, by omega, HBr, HD0⟩
    case round =>
     clear HBr HDr HD0 ht0 hg hp1 hpu hlt hltz
     obtain ⟨i, rfl, rfl, hi, hg, HBq, HDq⟩ := hrel
     by_cases hlt : i < D.length
     ·have hltz : decide ((i : Int) < (D.length : Int)) = true := decide_eq_true (by omega)
      have hi0 : (0 : Int) ≤ (i : Int) := by omega
      have hi1 : (i : Int) < (D.length : Int) := by omega
      have hst := count_step D (fun d => decide (laterI D d < n)) hlt
      have hcm : (D.take i).countP (fun d => decide (laterI D d < n)) ≤ 50 := Nat.le_trans List.countP_le_length (by rw [List.length_take]; omega)
      have HAT := Aside0.mk (show ∀ W, Kd.C (Kd.int .i64) W Ad D.length D → ∃ ad, Ad = some ad ∧ W.cell? (ad.add i) = some (.int .i64 D[i]) from fun W h => by
       obtain ⟨ad, e, h1⟩ := Kd.at_int h (i : Int) hi0 hi1
       rw [Int.toNat_natCast, rdI_at hlt] at h1
       exact ⟨ad, e, h1⟩)
      have HKD := Aside0.mk (HX2.out D[i])
      have HLT := Aside0.mk (show laterI D D[i] ≤ 50 from Nat.le_trans List.countP_le_length hd60)
      generalize (D.take i).countP (fun d => decide (laterI D d < n)) = m at hst hcm
      try simp only at hst
      have HST := Aside0.mk hst
      clear hst
      generalize D[i] = d at HAT HKD HLT HST
      obtain ⟨ad, hAd, -⟩ := HAT.out _ HDq.out
      subst hAd
      go_wp2
      go_loopg [13, 14] D.length (fun gg s13 s14 wy => ∃ j : Nat, s13 = .int .i64 (((D.take j).countP (fun e => decide (d < e)) : Nat) : Int) ∧ s14 = .int .i64 j ∧ j ≤ D.length ∧ D.length - j ≤ gg ∧ Aside0 (Below w35.heap.size w35 wy) ∧ Aside0 (Kd.C (Kd.int .i64) wy (some ad) D.length D))
      case atStart => exact ⟨0, rfl, rfl, Nat.zero_le _, by omega, HBq, HDq⟩
      case round =>
       clear HBq HDq
       obtain ⟨j, rfl, rfl, hj, hgj, HBy, HDy⟩ := hrel
       by_cases hlj : j < D.length
       ·have hljz : decide ((j : Int) < (D.length : Int)) = true := decide_eq_true (by omega)
        have hj0 : (0 : Int) ≤ (j : Int) := by omega
        have hj1 : (j : Int) < (D.length : Int) := by omega
        have hst := count_step D (fun e => decide (d < e)) hlj
        have hcj : (D.take j).countP (fun e => decide (d < e)) ≤ 50 := Nat.le_trans List.countP_le_length (by rw [List.length_take]; omega)
        obtain ⟨ad', e', hxd⟩ := HAT.out _ HDy.out
        cases e'
        obtain ⟨ad', e', hxe⟩ := Kd.at_int HDy.out (j : Int) hj0 hj1
        cases e'
        rw [Int.toNat_natCast, rdI_at hlj] at hxe
        generalize (D.take j).countP (fun e => decide (d < e)) = c at hst hcj
        try simp only at hst
        generalize D[j] = e at hxe hst
        cases hde : decide (d < e) with
        | true =>
         rw [hde, if_pos rfl] at hst
         have HSJ := Aside0.mk hst
         clear hst
         go_wp2
         go_quiet (fail)
         go_wp2
         go_roundg (D.length - (j + 1))
         case measure => omega
         case rel => exact ⟨j + 1, by rw [HSJ.out]; go_num, by go_num, by omega, by omega, ⟨pw_below_drewN HBy.out _⟩, ⟨Kd.C_drewN HDy.out _⟩⟩
        | false =>
         rw [hde, if_neg (by decide)] at hst
         have HSJ := Aside0.mk hst
         clear hst
         go_wp2
         go_quiet (fail)
         go_wp2
         go_roundg (D.length - (j + 1))
         case measure => omega
         case rel => exact ⟨j + 1, by rw [HSJ.out]; rfl, by go_num, by omega, by omega, ⟨pw_below_drewN HBy.out _⟩, ⟨Kd.C_drewN HDy.out _⟩⟩
       ·have hljz : decide ((j : Int) < (D.length : Int)) = false := decide_eq_false (by omega)
        have hcl : (D.take j).countP (fun e => decide (d < e)) = laterI D d := by rw [List.take_of_length_le (by omega)]; rfl
        rw [hcl]
        clear hcl
        generalize laterI D d = lt at HKD HLT HST
        go_wp2
        clear hljz hlj hj hgj
        go_loopg [15, 16] u.length (fun gg s15 s16 wz => ∃ p : Nat, s15 = .int .i64 ((keptC K (rest.take (p - 1)) d : Nat) : Int) ∧ s16 = .int .i64 p ∧ 1 ≤ p ∧ p ≤ u.length ∧ u.length - p ≤ gg ∧ Aside0 (Below w35.heap.size w35 wz) ∧ Aside0 (Kd.C (Kd.int .i64) wz (some ad) D.length D))
        case atStart => exact ⟨1, rfl, rfl, Nat.le_refl 1, hu1, by omega, HBy, HDy⟩
        case round =>
         clear HBy HDy
         obtain ⟨p, rfl, rfl, hp1, hpu, hgp, HBz, HDz⟩ := hrel
         have HTz := Aside0.mk (blk_below BT35.out HBz.out)
         have ht0 := blk_cell HTz.out 0
         by_cases hlp : p < u.length
         ·have hlpz : decide ((p : Int) < (u.length : Int)) = true := decide_eq_true (by omega)
          have hp0 : (0 : Int) ≤ (p : Int) := by omega
          have hpi : (p : Int) < (u.length : Int) := by omega
          obtain ⟨au, e', hx0, hx1, hx2, hx3, hx4, hx5⟩ := at_T31 (Kd.C_below HC35.out HBz.out) (p : Int) hp0 hpi
          cases e'
          simp only [Int.toNat_natCast] at hx0 hx1 hx2 hx3 hx4 hx5
          obtain ⟨hq, hrx, htk⟩ := HRD.out p hp1 hlp
          rw [hrx] at hx0 hx1 hx2 hx3 hx4 hx5
          have hts := keptC_snoc K (rest.take (p - 1)) rest[p - 1] d
          rw [← htk] at hts
          have HTX := Aside0.mk (HTM.out _ (List.getElem_mem hq))
          have hpin := HX1.out _ (List.getElem_mem hq)
          have hkc : keptC K (rest.take (p - 1)) d ≤ 60 := Nat.le_trans List.countP_le_length (by rw [List.length_take]; omega)
          generalize rest[p - 1] = x at hx0 hx1 hx2 hx3 hx4 hx5 hts HTX hpin
          generalize keptC K (rest.take (p - 1)) d = kc at hts hkc
          clear hrx htk hq
          have HBQ := Aside0.mk (fun W n => bucketQ.calls x HTX.out W n)
          generalize bk 0 x.f3 = day at HBQ hts
          obtain ⟨bb, hbb⟩ : ∃ bb, K.contains x.f0 = bb := ⟨_, rfl⟩
          rw [hbb] at hts hpin
          have HIN := Aside0.mk (fun (W : World) (hW : Below w35.heap.size w35 W) => inR.calls K Ak ck x.f0 bb W (by omega) (Kd.C_below HK35.out.2 hW) HK35.out.1 hbb)
          have HIQ := Aside0.mk (fun (W : World) (hW : Below w35.heap.size w35 W) (n : Nat) => inQ.calls K Ak ck x.f0 bb W (by omega) (Kd.C_below HK35.out.2 hW) HK35.out.1 hbb n)
          clear hbb
          have HTS := Aside0.mk hts
          have HPN := Aside0.mk hpin
          clear hts hpin
          obtain ⟨cc, hcc⟩ : ∃ cc, (decide (day = d) && bb && !x.f5) = cc := ⟨_, rfl⟩
          have HCC := Aside0.mk hcc
          rw [hcc] at HTS
          clear hcc
          go_upto_region 29 with (first
           | ((with_reducible refine gate_dst (N := 17) rfl ?_); refine box_event ?hg (N := 17) ?hd (cs := #[.int .i64 0, .int .i64 0, .string (⟨#[]⟩ : ByteArray), .int .u64 0, .bool false, .bool false]) (t := 31) ?hr ?_; (case hd => rfl); (case hg => rfl); (case hr => first | (go_simp; done) | (go_simp; rfl)); intro g17 hg17 wa17 hbox hb; have HX17 := Aside0.mk hb; have BZ17 := Aside0.mk hbox; have HG17 := Aside0.mk (Nat.le_of_eq hg17.symm); clear hg17 hb hbox; have hc17_0 := blk_cell BZ17.out 0; have hf17_0 := blk_frozen BZ17.out 0; have hc17_1 := blk_cell BZ17.out 1; have hf17_1 := blk_frozen BZ17.out 1; have hc17_2 := blk_cell BZ17.out 2; have hf17_2 := blk_frozen BZ17.out 2; have hc17_3 := blk_cell BZ17.out 3; have hf17_3 := blk_frozen BZ17.out 3; have hc17_4 := blk_cell BZ17.out 4; have hf17_4 := blk_frozen BZ17.out 4; have hc17_5 := blk_cell BZ17.out 5; have hf17_5 := blk_frozen BZ17.out 5)
           | ((with_reducible refine gate_store (t := 31) (p := 17) rfl ?_); refine store_event (t := 31) (p := 17) (v := .tmp 92) (w1 := ((((((wa17.setCell ⟨g17, 0, none⟩ (.int .i64 x.f0)).setCell ⟨g17, 1, none⟩ (.int .i64 x.f1)).setCell ⟨g17, 2, none⟩ (.string x.f2)).setCell ⟨g17, 3, none⟩ (.int .u64 x.f3)).setCell ⟨g17, 4, none⟩ (.bool x.f4)).setCell ⟨g17, 5, none⟩ (.bool x.f5))) rfl rfl rfl ?hr ?_; (case hr => first | (go_simp; done) | (go_simp; rfl)); intro w17 hw17; have q1 := link_put (.int .i64 x.f0) (.int .i64 x.f1) (.string x.f2) (.int .u64 x.f3) (.bool x.f4) (.bool x.f5) BZ17.out; have q2 := link_below (.int .i64 x.f0) (.int .i64 x.f1) (.string x.f2) (.int .u64 x.f3) (.bool x.f4) (.bool x.f5) HX17.out HG17.out; rw [← hw17] at q1 q2; clear hw17; have BK17 := Aside0.mk q1; have HY17 := Aside0.mk q2; have HB17 := Aside0.mk (below_step HBz.out q2); clear hc17_0 hf17_0 hc17_1 hf17_1 hc17_2 hf17_2 hc17_3 hf17_3 hc17_4 hf17_4 hc17_5 hf17_5 q1 q2; have hd17_0 := blk_cell BK17.out 0; have hd17_1 := blk_cell BK17.out 1; have hd17_2 := blk_cell BK17.out 2; have hd17_3 := blk_cell BK17.out 3; have hd17_4 := blk_cell BK17.out 4; have hd17_5 := blk_cell BK17.out 5; have HY17b := HY17))
          have HBQ1 := Aside0.mk (fun n => HBQ.out w17 n)
          have HIQ1 := Aside0.mk (fun n => HIQ.out w17 HB17.out n)
          obtain ⟨ad', e', hxd⟩ := HAT.out _ (Kd.C_below HDz.out HY17.out)
          cases e'
          clear hx0 hx1 hx2 hx3 hx4 hx5 ht0
          (try simp only [Act.put, List.setIfInBounds_toArray, List.set_cons_zero, List.set_cons_succ])
          go_cut [111] (fun v111 wc => v111 = .bool cc ∧ ∃ n, wc = w17.drewN n)
          case first =>
           have hcc := HCC.out
           cases hde : (day == d) with
           | false =>
            have hc2 : cc = false := by rw [← hcc, show decide (day = d) = false from decide_eq_false (by simpa using hde)]; rfl
            subst hc2
            clear hcc
            go_quiet (first | (go_at_call 25; with_reducible exact HBQ1.out _) | (go_at_call 21; with_reducible exact HIQ1.out _))
            go_wp2
            go_meet
            case rel => exact ⟨rfl, _, rfl⟩
           | true =>
            rw [show decide (day = d) = true from decide_eq_true (by simpa using hde)] at hcc
            cases bb with
            | false =>
             have hc2 : cc = false := by rw [← hcc]; rfl
             subst hc2
             clear hcc
             go_quiet (first | (go_at_call 25; with_reducible exact HBQ1.out _) | (go_at_call 21; with_reducible exact HIQ1.out _))
             go_wp2
             go_meet
             case rel => exact ⟨rfl, _, rfl⟩
            | true =>
             cases hpx : x.f5 with
             | false =>
              have hc2 : cc = true := by rw [← hcc, hpx]; rfl
              subst hc2
              clear hcc
              rw [hpx] at hd17_5
              go_quiet (first | (go_at_call 25; with_reducible exact HBQ1.out _) | (go_at_call 21; with_reducible exact HIQ1.out _))
              go_wp2
              go_meet
              case rel => exact ⟨rfl, _, rfl⟩
             | true =>
              have hc2 : cc = false := by rw [← hcc, hpx]; rfl
              subst hc2
              clear hcc
              rw [hpx] at hd17_5
              go_quiet (first | (go_at_call 25; with_reducible exact HBQ1.out _) | (go_at_call 21; with_reducible exact HIQ1.out _))
              go_wp2
              go_meet
              case rel => exact ⟨rfl, _, rfl⟩
          case rest =>
           obtain ⟨rfl, nn, hwn⟩ := hcut
           have HBc := Aside0.mk (show Below w35.heap.size w35 wc by rw [hwn]; exact pw_below_drewN HB17.out nn)
           have HDc := Aside0.mk (show Kd.C (Kd.int .i64) wc (some ad) D.length D by rw [hwn]; exact Kd.C_drewN (Kd.C_below HDz.out HY17.out) nn)
           have HXc := Aside0.mk (show wc.heap[g17]? = some (.cells #[.int .i64 x.f0, .int .i64 x.f1, .string x.f2, .int .u64 x.f3, .bool x.f4, .bool x.f5] 31 (0, 0)) by rw [hwn]; exact blk_drewN BK17.out nn)
           clear hwn HBQ1 HIQ1 hxd hd17_0 hd17_1 hd17_2 hd17_3 hd17_4 hd17_5
           have hz0 := blk_cell HXc.out 0
           have hz5 := blk_cell HXc.out 5
           cases hpx : x.f5 with
           | false =>
            rw [hpx] at hz5
            clear hpx
            cases cc with
            | true =>
             rw [if_pos rfl] at HTS
             go_wp2
             go_roundg (u.length - (p + 1))
             case measure => omega
             case rel => exact ⟨p + 1, by rw [Nat.add_sub_cancel, HTS.out]; go_num, by go_num, by omega, by omega, by omega, HBc, HDc⟩
            | false =>
             rw [if_neg (by decide)] at HTS
             go_wp2
             go_roundg (u.length - (p + 1))
             case measure => omega
             case rel => exact ⟨p + 1, by rw [Nat.add_sub_cancel, HTS.out]; rfl, by go_num, by omega, by omega, by omega, HBc, HDc⟩
           | true =>
            rw [hpx] at hz5
            have hb := HPN.out hpx
            subst hb
            clear hpx
            cases cc with
            | true =>
             rw [if_pos rfl] at HTS
             go_wp2_with (go_at_call 21; go_loud (refine (HIN.out _ HBc.out).mono ?_; rintro ex wi ⟨rfl, q1⟩; have HYi := Aside0.mk q1; clear q1))
             go_roundg (u.length - (p + 1))
             case measure => omega
             case rel => exact ⟨p + 1, by rw [Nat.add_sub_cancel, HTS.out]; go_num, by go_num, by omega, by omega, by omega, ⟨below_step HBc.out HYi.out⟩, ⟨Kd.C_below HDc.out HYi.out⟩⟩
            | false =>
             rw [if_neg (by decide)] at HTS
             go_wp2_with (go_at_call 21; go_loud (refine (HIN.out _ HBc.out).mono ?_; rintro ex wi ⟨rfl, q1⟩; have HYi := Aside0.mk q1; clear q1))
             go_roundg (u.length - (p + 1))
             case measure => omega
             case rel => exact ⟨p + 1, by rw [Nat.add_sub_cancel, HTS.out]; rfl, by go_num, by omega, by omega, by omega, ⟨below_step HBc.out HYi.out⟩, ⟨Kd.C_below HDc.out HYi.out⟩⟩
         ·have hlpz : decide ((p : Int) < (u.length : Int)) = false := decide_eq_false (by omega)
          have hpl : rest.take (p - 1) = rest := List.take_of_length_le (by have := HRL.out; omega)
          rw [hpl]
          clear hpl
          obtain ⟨k1, k2⟩ := HKD.out
          generalize keptC K rest d = kc at k1 k2
          have hN := HNN.out.1
          have z1 : decide ((1 : Int) < (kc : Int)) = false := decide_eq_false (by omega)
          have HST2 := HST.out
          cases hle : decide (lt < n) with
          | true =>
           have hle' := of_decide_eq_true hle
           rw [hle, if_pos rfl] at HST2
           have HST3 := Aside0.mk HST2
           have z2 : decide (N ≤ (lt : Int)) = false := decide_eq_false (by omega)
           have z3 : decide ((lt : Int) < N) = true := decide_eq_true (by omega)
           clear k2 HST2 hle hle' hN
           go_wp2
           go_roundg (D.length - (i + 1))
           case measure => omega
           case rel => exact ⟨i + 1, by rw [HST3.out]; go_num, by go_num, by omega, by omega, HBz, HDz⟩
          | false =>
           have hle' := of_decide_eq_false hle
           rw [hle, if_neg (by decide)] at HST2
           have HST3 := Aside0.mk HST2
           have z2 : decide (N ≤ (lt : Int)) = true := decide_eq_true (by omega)
           have z3 : decide ((lt : Int) < N) = false := decide_eq_false (by omega)
           have hk0 := k2 (by omega)
           subst hk0
           clear k2 HST2 hle hle' hN
           go_wp2
           go_roundg (D.length - (i + 1))
           case measure => omega
           case rel => exact ⟨i + 1, by rw [HST3.out]; rfl, by go_num, by omega, by omega, HBz, HDz⟩
     ·have hltz : decide ((i : Int) < (D.length : Int)) = false := decide_eq_false (by omega)
      have hcl : (D.take i).countP (fun d => decide (laterI D d < n)) = (D.countP fun d => decide (laterI D d < n)) := by rw [List.take_of_length_le (by omega)]
      rw [hcl]
      clear hcl
      obtain ⟨x1, x2⟩ := HX3.out
      generalize (D.countP fun d => decide (laterI D d < n)) = m at x1 x2
      have hm1 : decide ((1 : Int) + (m : Int) ≤ (K.length : Int)) = true := decide_eq_true (by omega)
      have hm2 : (if (D.length : Int) < N then (D.length : Int) else N) = (m : Int) := by
       have := HNN.out.1
       split <;> omega
      have hm3 : m ≤ 50 := by omega
      clear x1 x2
      go_wp2
      go_ret
      exact ⟨rfl, below_step HB35.out HBq.out⟩
end Go.Proofs.YtfdlbnfjohpdlaaGreatDoor.PPo
