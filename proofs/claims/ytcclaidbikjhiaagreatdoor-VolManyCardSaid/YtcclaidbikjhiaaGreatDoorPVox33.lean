import Derived.Test.YtcclaidbikjhiaaGreatDoorPVox0
import Derived.Test.YtcclaidbikjhiaaGreatDoorPVox25
import Derived.Test.YtcclaidbikjhiaaGreatDoorPVox18
import Derived.Test.YtcclaidbikjhiaaGreatDoorPVox21
import Derived.Outline
import Derived.Shelf.Abstract
import Derived.Sort.QuietIn
import Derived.RangeFuncBox
import Derived.RangeFuncLeaves
import Derived.RangeFuncCalls
import Derived.RangeFuncFrom
import Derived.Shelf.RegionOpen
import Derived.OwnWalkIn
import Derived.TacticsInMore
import Derived.LoopNIn
import Derived.LoopIn
import Derived.Deep.DeepMust
--compressed
namespace Go.Proofs.YtcclaidbikjhiaaGreatDoor.PVo
open Go.RowKit Go.Proofs.YtcclaidbikjhiaaGreatDoorW.PrintWords Go.Proofs.YtcclaidbikjhiaaGreatDoorW.PrintLast Go.Proofs.YtcclaidbikjhiaaGreatDoorW.PrintMore
attribute [local go_sem] max2_int min2_int max_two min_two max_three min_three max_four min_four   -- for this text's walks alone
attribute [local go_sem high] hw_str_leq hw_str_gtr
set_option linter.unusedVariables false
set_option linter.unusedSimpArgs false
-- NOT PRINTED: function 98 (rootcellarref8_lay)
-- NOT PRINTED: function 99 (rootcellarref4_Device_Flush)
-- NOT PRINTED: function 42 (rootcellarref8_Format)
-- NOT PRINTED: function 11 (rootcellarlaw8_begun)
set_option maxHeartbeats 2000000 in
set_option maxRecDepth 100000 in
theorem grow_zero.calls (w : World) : Calls Tryz.prog 140 #[.slice none 0 0, .int .i64 0] w fun e w' => ∃ v, e = .returned v ∧ Kd.R k87 87 w' w.heap.size (fun _ => True) v [] ∧ Below w.heap.size w w' := by
 go_enter Tryz.func140, Tryz.ntmps140
 go_wp2
 go_ret
 exact ⟨_, rfl, Kd.R_nil _ _ _ _ _, Below.refl _ _⟩
set_option maxHeartbeats 2000000 in
set_option maxRecDepth 100000 in
theorem grow_nil.calls (n : Nat) (h0 : 0 < n) (hn : n ≤ 1000000000) (w : World) : Calls Tryz.prog 140 #[.slice none 0 0, .int .i64 n] w fun e w' => ∃ v, e = .returned v ∧ Kd.R k87 87 w' w.heap.size (fun _ => True) v [] ∧ Below w.heap.size w w' := by
 have hw : wrap64 (n : Int) = (n : Int) := by unfold wrap64; omega
 have b1 : decide ((n : Int) < 0) = false := zI (by omega)
 have b2 : decide (0 < (n : Int)) = true := zH (by omega)
 go_enter Tryz.func140, Tryz.ntmps140
 have hB : Tryz.t87.bytes = 16 := by kernel_rfl
 have hN : Builtin.nextslicecap n 0 = n := by unfold Builtin.nextslicecap; rw [if_pos (by omega)]
 go_wp2
 all_goals try (exfalso; simp only [hB, hN] at *; omega)
 have hC : n ≤ (Question.appendCap n 0 87).cut (w.tape w.drawn (Question.appendCap n 0 87)) ∧ (Question.appendCap n 0 87).cut (w.tape w.drawn (Question.appendCap n 0 87)) ≤ maxLen := by
  show n ≤ n + (w.tape w.drawn (Question.appendCap n 0 87)) % (2 ^ 63 - n) ∧ n + (w.tape w.drawn (Question.appendCap n 0 87)) % (2 ^ 63 - n) ≤ maxLen
  have hlt := Nat.mod_lt (w.tape w.drawn (.appendCap n 0 87)) (show 0 < 2 ^ 63 - n by omega)
  unfold maxLen
  omega
 generalize (Question.appendCap n 0 87).cut (w.tape w.drawn (Question.appendCap n 0 87)) = C at hC ⊢
 go_ret
 refine ⟨_, rfl, ⟨fun _ _ => trivial, ?_⟩, zK ((Below.refl _ w).alloc (Nat.le_refl _) _)⟩
 refine ⟨[], ⟨rfl, .inr ⟨w.heap.size, C, _, rfl, Nat.le_refl _, blk_new w _, Nat.zero_le _, hC.2, ?_, by simp⟩⟩, Reps.none _ _⟩
 have hk : (k87).sz = 2 := rfl
 rw [hk]
 simp [Builtin.zeroCells]
 omega
theorem grow_any (n : Nat) (hn : n ≤ 1000000000) (w : World) : Calls Tryz.prog 140 #[.slice none 0 0, .int .i64 n] w fun e w' => ∃ v, e = .returned v ∧ Kd.R k87 87 w' w.heap.size (fun _ => True) v [] ∧ Below w.heap.size w w' := by
 by_cases h : n = 0
 ·subst h
  exact grow_zero.calls w
 ·exact grow_nil.calls n (by omega) hn w
def sumLen (ls : List (List S87)) : Nat := (ls.map List.length).sum
def api_Span_86.f (ls : List (List S87)) : Option (List S87) := if ls.length ≤ 1000000 ∧ sumLen ls ≤ 1000000000 then some ls.flatten else none
theorem sumLen_take (ls : List (List S87)) (i : Nat) (h : i < ls.length) : sumLen (ls.take (i + 1)) = sumLen (ls.take i) + ls[i].length ∧ sumLen (ls.take (i + 1)) ≤ sumLen ls := by
 constructor
 ·unfold sumLen
  rw [List.take_succ_eq_append_getElem h, List.map_append, List.sum_append]
  simp
 ·unfold sumLen
  conv => rhs; rw [← List.take_append_drop (i + 1) ls]
  rw [List.map_append, List.sum_append]
  omega
set_option maxHeartbeats 2000000 in
set_option maxRecDepth 100000 in
theorem api_Span_86.calls (A0 : Option Addr) (c0 : Nat) (l0 : List (List S87)) (r : List S87) (w : World) (hr0 : Kd.C (Kd.slice 87 k87) w A0 l0.length l0) (hc0 : l0.length ≤ c0) (h : api_Span_86.f l0 = some r) :
  Calls Tryz.prog 86 #[.slice A0 l0.length c0] w fun e w' => ∃ v0_ : Value, e = .returned (v0_) ∧ Kd.R k87 87 w' w.heap.size (fun _ => True) v0_ r ∧ Below w.heap.size w w' := by
 unfold api_Span_86.f at h
 by_cases hs : l0.length ≤ 1000000 ∧ sumLen l0 ≤ 1000000000
 ·rw [if_pos hs] at h
  obtain rfl := Option.some.inj h
  obtain ⟨hs1, hs2⟩ := hs
  have HR := zA hr0
  have HS := zA hs2
  clear h hr0 hs2
  go_enter Tryz.func86, Tryz.ntmps86
  go_wp2
  have hst := sumLen_take l0
  have HST := zA hst
  clear hst
  go_loopg [3, 11] l0.length (fun gg s3 s11 wr => ∃ i : Nat, i ≤ l0.length ∧ l0.length - i ≤ gg ∧ s11 = .int .i64 i ∧ s3 = .int .i64 (sumLen (l0.take i)) ∧ w = wr)
  case atStart => exact ⟨0, Nat.zero_le _, by omega, rfl, rfl, rfl⟩
  case round =>
   obtain ⟨i, hi, hg, rfl, rfl, rfl⟩ := hrel
   by_cases hlt : i < l0.length
   ·have hltz : decide ((i : Int) < (l0.length : Int)) = true := zH (by omega)
    have hi0 : (0 : Int) ≤ (i : Int) := by omega
    have hi1 : (i : Int) < (l0.length : Int) := by omega
    obtain ⟨ad, A1, c1, e0, hx, hl1, hC1⟩ := at_L6 HR.out (i : Int) hi0 hi1
    subst e0
    have hrd : rd_L6 l0 (i : Int) = l0[i] := by simp [rd_L6, List.getD_eq_getElem?_getD, hlt]
    rw [hrd] at hx hl1 hC1
    simp only [Int.toNat_natCast] at hx
    obtain ⟨h1, h2⟩ := HST.out i hlt
    have h3 := Nat.le_trans h2 HS.out
    rw [h1] at h3
    have HN := zA h1
    clear h1 h2 hC1 hrd
    generalize sumLen (l0.take i) = S at h3 HN ⊢
    generalize l0[i].length = L at hx hl1 h3 HN
    have hwa : wrap64 ((S : Int) + (L : Int)) = ((S + L : Nat) : Int) := by unfold wrap64; omega
    have hneg : decide (((S : Int) + (L : Int)) < 0) = false := zI (by omega)
    go_wp2
    go_roundg (l0.length - (i + 1))
    case measure => omega
    case rel => exact ⟨i + 1, by omega, by omega, by go_num, by rw [HN.out]; push_cast; rfl, rfl⟩
   ·have hltz : decide ((i : Int) < (l0.length : Int)) = false := zI (by omega)
    obtain rfl : i = l0.length := by omega
    rw [List.take_length]
    have hgrow := grow_any (sumLen l0) HS.out
    generalize sumLen l0 = S at hgrow ⊢
    have HG := zA hgrow
    clear hgrow
    go_wp2_with (go_at_call 140; go_loud (refine (HG.out _).mono ?_; rintro e w1 ⟨v1, rfl, o1, x1⟩))
    have HO0 := zA o1
    have HB0 := zA x1
    clear o1 x1
    go_loopg [6, 27] l0.length (fun gg s6 s27 wi => ∃ j : Nat, j ≤ l0.length ∧ l0.length - j ≤ gg ∧ s27 = .int .i64 j ∧ Aside0 (Kd.R k87 87 wi w.heap.size (fun _ => True) s6 (l0.take j).flatten) ∧ Aside0 (Below w.heap.size w wi))
    case atStart => exact ⟨0, Nat.zero_le _, by omega, rfl, ⟨by simpa using HO0.out⟩, HB0⟩
    case round =>
     clear HO0 HB0
     obtain ⟨j, hj, hgj, rfl, HO, HB⟩ := hrel
     by_cases hlt2 : j < l0.length
     ·have hltz2 : decide ((j : Int) < (l0.length : Int)) = true := zH (by omega)
      have hj0 : (0 : Int) ≤ (j : Int) := by omega
      have hj1 : (j : Int) < (l0.length : Int) := by omega
      obtain ⟨ad, A1, c1, e0, hx, hl1, hC1⟩ := at_L6 HR.out (j : Int) hj0 hj1
      subst e0
      have hrd : rd_L6 l0 (j : Int) = l0[j] := by simp [rd_L6, List.getD_eq_getElem?_getD, hlt2]
      rw [hrd] at hx hl1 hC1
      simp only [Int.toNat_natCast] at hx
      replace hx := (HB.out.cell (zB w _ hx)).trans hx
      have HC1 := zA (Kd.C_below hC1 HB.out)
      have hfl : (l0.take (j + 1)).flatten = (l0.take j).flatten ++ l0[j] := by rw [List.take_succ_eq_append_getElem hlt2, List.flatten_append]; simp only [List.flatten_cons, List.flatten_nil, List.append_nil]
      obtain ⟨h1, h2⟩ := HST.out j hlt2
      have hlen : (l0.take j).flatten.length = sumLen (l0.take j) := by rw [List.length_flatten]; rfl
      have h3 : (l0.take j).flatten.length + l0[j].length ≤ 1000000000 := by rw [hlen, ← h1]; exact Nat.le_trans h2 HS.out
      have HF := zA hfl
      have HL := zA h3
      clear hC1 hrd hfl h1 h2 hlen h3
      generalize (l0.take j).flatten = xs at HO HF HL
      generalize l0[j] = ys at hx hl1 HC1 HF HL
      go_wp2_with ((with_reducible refine gate_builtin (b := .append) (xs := #[.tmp 31, .tmp 32]) rfl ?_); go_loud (at_builtin; refine Kd.R_append_rows k87 (w0 := w) w.heap.size rfl (.tmp 31) (.tmp 32) 44 87 (.agg #[(.int .i64 0), (.int .i64 0)]) 16 rfl Tryz.underlying44 info87 rfl (by decide) (by omega) _ xs ys _ _ _ (fun _ => True) (fun _ => False) rfl rfl HO.out HC1.out (fun _ _ h => h) (fun _ h => h.elim) (fun _ _ => trivial) HB.out (below_size HB.out) (by have := HL.out; omega) ?_; intro v2 w2 ho2 hb2 hg2 hat2))
      go_roundg (l0.length - (j + 1))
      case measure => omega
      case rel => exact ⟨j + 1, by omega, by omega, by go_num, ⟨by rw [HF.out]; exact ho2⟩, ⟨hb2⟩⟩
     ·have hltz2 : decide ((j : Int) < (l0.length : Int)) = false := zI (by omega)
      have hjj : l0.take j = l0 := List.take_of_length_le (by omega)
      rw [hjj] at HO
      go_wp2
      go_ret
      exact ⟨_, rfl, HO.out, HB.out⟩
 ·rw [if_neg hs] at h
  cases h
def dir_Used.l0 : Nat → List (S87) → List (S85) → Int → Int → Option ((List (S87)))
 | 0, _, _, _, _ => none
 | k + 1, x3, x6, x7, x8 => if x8 < x7 then (if 0 ≤ x8 then (if x8 < (x6.length : Int) then (if x3.length + ((rd_T85 x6 x8).f2).length < 8796093022208 then (dir_Used.l0 k (x3 ++ ((rd_T85 x6 x8).f2)) x6 x7 (wrap64 (x8 + 1))) else (none)) else (none)) else (none)) else (some x3)
def dir_Used.f (k : Nat) (l0 : List (S85)) : Option ((List (S87))) := dir_Used.l0 k ([] : List (S87)) l0 (l0.length : Int) 0
set_option maxHeartbeats 8000000 in
set_option maxRecDepth 100000 in
theorem dir_Used.calls (k : Nat) (A0 : Option Addr) (c0 : Nat) (l0 : List (S85)) (r : List (S87)) (w : World) (hr0 : Kd.C k85 w A0 l0.length l0) (hc0 : l0.length ≤ c0) (h : dir_Used.f k l0 = some r) :
  Calls Tryz.prog 87 #[.slice A0 l0.length c0] w fun e w' => ∃ v0_ : Value, e = .returned (v0_) ∧ Kd.R k87 87 w' w.heap.size (fun _ => True) v0_ r ∧ Below w.heap.size w w' := by
 have hu85 := Tryz.underlying85
 have HR0 := zA hr0
 have HC0 := zA hc0
 clear hr0 hc0
 have HB := zA (Below.refl w.heap.size w)
 have H : (dir_Used.l0 k ([] : List (S87)) l0 (l0.length : Int) 0) = some r := h
 clear h
 have H' := zA H
 clear H
 go_enter Tryz.func87, Tryz.ntmps87
 go_wp2
 go_loopg [3, 8] k (fun kq v3 v8 w' => ∃ (x3_1 : List (S87)) (x8_1 : Int), v8 = .int .i64 x8_1 ∧ Aside0 (dir_Used.l0 kq x3_1 l0 (l0.length : Int) x8_1 = some r) ∧ Aside0 (kq ≤ k) ∧ Aside0 (Kd.R k87 87 w' w.heap.size (fun _ => True) v3 x3_1) ∧ Aside0 (Below w.heap.size w w'))
 case atStart => exact ⟨(([] : List (S87))), (0), (rfB), H', ⟨Nat.le_refl _⟩, ⟨by first | exact Kd.R_nil _ _ _ _ _ | exact Kd.N_nil _ _ _ _ _ | exact Kd.V_nil _ _ _ _ _ | exact Kd.Q_nil _ _ _ _ _ | exact Kd.S_nil _ _ _ _ _⟩, ⟨rW0⟩⟩
 case round =>
  clear H'
  obtain ⟨x3_1, x8_1, rfl, HA, HK1, HO_3, HB⟩ := hrel
  cases gk with
  | zero => exact absurd HA.out (by simp [dir_Used.l0])
  | succ k1 =>
   have H := HA.out
   clear HA
   simp only [dir_Used.l0] at H
   by_cases c2 : x8_1 < (l0.length : Int)
   ·rw [if_pos c2] at H
    have c2b0 : decide (x8_1 < (l0.length : Int)) = true := zH c2
    clear c2
    by_cases c3 : 0 ≤ x8_1
    ·rw [if_pos c3] at H
     have c3b0 : decide (0 ≤ x8_1) = true := zH c3
     clear c3
     by_cases c4 : x8_1 < (l0.length : Int)
     ·rw [if_pos c4] at H
      have c4b0 : decide (x8_1 < (l0.length : Int)) = true := zH c4
      clear c4
      by_cases c5 : x3_1.length + ((rd_T85 l0 x8_1).f2).length < 8796093022208
      ·rw [if_pos c5] at H
       have LMc5 := zA c5
       clear c5
       obtain ⟨y259, hy259⟩ : ∃ y_ : List (S87), y_ = (x3_1 ++ ((rd_T85 l0 x8_1).f2)) := ⟨_, rfl⟩
       replace H : (dir_Used.l0 k1 y259 l0 (l0.length : Int) (wrap64 (x8_1 + 1))) = some r := by first | (rw [hy259]; with_reducible exact H) | (have H2_ := (Option.bind_some _ _).symm.trans H; rw [hy259]; with_reducible exact H2_) | (have H2_ := (Option.bind_some _ _).symm.trans H; with_reducible exact H2_) | with_reducible exact H | (rw [hy259]; exact H) | exact H
       have Ny259 := zA hy259
       clear hy259
       have H' := zA H
       clear H
       have p257 : 0 ≤ (x8_1 : Int) := zG asA
       have q257 : x8_1 < (l0.length : Int) := zG asA
       obtain ⟨ad257, A257_2, c257_2, e257, hx257_0, hx257_1, hx257_2, hl257_2, hi257_2⟩ := at_T85 HR0.out x8_1 p257 q257
       cases e257
       replace hx257_0 := (HB.out.cell (zB w _ hx257_0)).trans hx257_0
       replace hx257_1 := (HB.out.cell (zB w _ hx257_1)).trans hx257_1
       replace hx257_2 := (HB.out.cell (zB w _ hx257_2)).trans hx257_2
       have HR257_2 := zA hi257_2
       have HC257_2 := zA hl257_2
       clear hi257_2 hl257_2
       replace p257 := eq_true p257
       replace q257 := eq_true q257
       go_wp2_with (first | ((with_reducible refine gate_dst (N := 5) rfl ?_); refine box_event ?hg (N := 5) ?hd (cs := #[.string (⟨#[]⟩ : ByteArray), .int .i64 0, .slice none 0 0]) (t := 85) ?hr ?_; (case hd => rfl); (case hg => rfl); (case hr => first | (go_simp; done) | (go_simp; rfl)); intro gb258 hg w6 hbox hb; have n0_ := zA (Kd.R_below (kdR_ HO_3.out) hb); have n1_ := zA (zL belA hb); have n2_ := zA (hbox); have n3_ := zA ((by rw [hg]; exact (below_size belA) : w.heap.size ≤ gb258)); have n4_ := zA ((by rw [hg]; exact (below_size belA) : w.heap.size ≤ gb258)); clear HO_3; clear HB; have HO_3 := n0_; have HB := n1_; have BK258 := n2_; have GW258 := n3_; have GE258 := n4_; clear n0_ n1_ n2_ n3_ n4_; clear hb hbox hg; have hcz7_0 : w6.cell? ⟨gb258, 0, none⟩ = some (.string (⟨#[]⟩ : ByteArray)) := (zN BK258.out 0).trans rfl; have hcz7_1 : w6.cell? ⟨gb258, 1, none⟩ = some (.int .i64 0) := (zN BK258.out 1).trans rfl; have hcz7_2 : w6.cell? ⟨gb258, 2, none⟩ = some (.slice none 0 0) := (zN BK258.out 2).trans rfl; have hfz7_0 := zM BK258.out 0; have hfz7_1 := zM BK258.out 1; have hfz7_2 := zM BK258.out 2) | ((with_reducible refine gate_builtin (b := .append) (xs := #[.tmp 12, .tmp 14]) rfl ?_); at_builtin; refine Kd.R_append_rows k87 (w0 := w) w.heap.size rfl (.tmp 12) (.tmp 14) 44 87 (.agg #[(.int .i64 0), (.int .i64 0)]) 16 rfl Tryz.underlying44 info87 rfl (by decide) (by omega) u3 x3_1 ((rd_T85 l0 x8_1).f2) _ _ _ (fun _ => True) (fun _ => False) rfl rfl ?aO ?aR (fun _ _ h => h) (fun _ h => h.elim) ?aF ?aB ?aS ?aL ?_; (case aR => exact Kd.C_below HR257_2.out (rW1)); (case aB => exact (rW1)); (case aF => exact (fun _ _ => trivial)); (case aO => exact (by (with_reducible repeat (first | apply Kd.R_alloc | apply Kd.R_drewN | apply Kd.R_drew)); exact Kd.R_mono (Kd.R_far (p := ⟨gb258, 2, none⟩) (Kd.R_far (p := ⟨gb258, 1, none⟩) (Kd.R_far (p := ⟨gb258, 0, none⟩) (Kd.R_types HO_3.out BK258.out (by decide)) (fun _ hk => hk.2) (.string ((rd_T85 l0 x8_1).f0))) (fun _ hk => hk.2) (.int .i64 ((rd_T85 l0 x8_1).f1))) (fun _ hk => hk.2) (.slice A257_2 ((rd_T85 l0 x8_1).f2).length c257_2)) (fun _ hk => trivial))); (case aS => exact (below_size (rW1))); (case aL => have := LMc5.out; omega); intro v260 w8 ho hb hg hat; rw [← Ny259.out] at ho; have n0_ := zA (blk_grown (g := gb258) (o := .cells #[.string ((rd_T85 l0 x8_1).f0), .int .i64 ((rd_T85 l0 x8_1).f1), .slice A257_2 ((rd_T85 l0 x8_1).f2).length c257_2] 85 (0, 0)) (by (with_reducible repeat (first | refine blk_drewN ?_ _ | refine blk_drew ?_ | refine blk_alloc ?_ _)); refine blk_put (cs := #[.string ((rd_T85 l0 x8_1).f0), .int .i64 ((rd_T85 l0 x8_1).f1), .slice none 0 0]) ?_ 2 _ rfl; (with_reducible repeat (first | refine blk_drewN ?_ _ | refine blk_drew ?_ | refine blk_alloc ?_ _)); refine blk_put (cs := #[.string ((rd_T85 l0 x8_1).f0), .int .i64 0, .slice none 0 0]) ?_ 1 _ rfl; (with_reducible repeat (first | refine blk_drewN ?_ _ | refine blk_drew ?_ | refine blk_alloc ?_ _)); refine blk_put (cs := #[.string (⟨#[]⟩ : ByteArray), .int .i64 0, .slice none 0 0]) ?_ 0 _ rfl; (with_reducible repeat (first | refine blk_drewN ?_ _ | refine blk_drew ?_ | refine blk_alloc ?_ _)); exact BK258.out) hg (Kd.R_ne HO_3.out BK258.out (by decide))); have n1_ := zA (hb); have n2_ := zA (ho); clear BK258; clear HB; clear HO_3; have BK258 := n0_; have HB := n1_; have HO261 := n2_; clear n0_ n1_ n2_; clear ho hb hg hat))
       go_roundg k1
       case measure => have := HK1.out; omega
       case rel => exact ⟨(y259), (wrap64 (x8_1 + 1)), (rfB), H', ⟨by have := HK1.out; omega⟩, ⟨by (with_reducible repeat (first | apply Kd.R_alloc | apply Kd.R_drewN | apply Kd.R_drew)); exact HO261.out⟩, ⟨rW1⟩⟩
      ·rw [if_neg c5] at H
       exact absurd H (by simp)
     ·rw [if_neg c4] at H
      exact absurd H (by simp)
    ·rw [if_neg c3] at H
     exact absurd H (by simp)
   ·rw [if_neg c2] at H
    have c2b0 : decide (x8_1 < (l0.length : Int)) = false := zI c2
    clear c2
    obtain rfl := Option.some.inj H
    go_wp2
    go_ret
    exact ⟨_, rfA, by (with_reducible repeat (first | apply Kd.R_alloc | apply Kd.R_drewN | apply Kd.R_drew)); exact HO_3.out, rW0⟩
def PredC {α : Type} (d : Kd α) (g : Nat) (lb : Array Value) (p : α → Bool) (w : World) : Prop :=
 ∀ (W : World) (x : α) (cs : List Value), Below w.heap.size w W → d.K W x cs → Calls Tryz.prog g (#[.agg cs.toArray] ++ lb) W fun e W' => e = .returned (.bool (p x)) ∧ Below W.heap.size W W'
def idxP {α : Type} (p : α → Bool) (l : List α) : Int := match l.findIdx? p with | some i => (i : Int) | none => -1
theorem idxP_hit {α : Type} (p : α → Bool) (l : List α) (i : Nat) (h : i < l.length) (hp : p l[i] = true) (hn : ∀ j (hj : j < l.length), j < i → p l[j] = false) : idxP p l = (i : Int) := by
 have : l.findIdx? p = some i := by
  rw [List.findIdx?_eq_some_iff_getElem]
  exact ⟨h, hp, fun j hj => by simp [hn j (by omega) hj]⟩
 simp [idxP, this]
theorem idxP_miss {α : Type} (p : α → Bool) (l : List α) (hn : ∀ j (hj : j < l.length), p l[j] = false) : idxP p l = -1 := by
 have : l.findIdx? p = none := by
  rw [List.findIdx?_eq_none_iff]
  intro x hx
  obtain ⟨j, hj, rfl⟩ := List.mem_iff_getElem.1 hx
  simpa using hn j hj
 simp [idxP, this]
theorem idxP_nonneg {α : Type} (p : α → Bool) (l : List α) : decide (0 ≤ idxP p l) = l.any p := by
 cases h : l.findIdx? p with
 | none =>
  have : ∀ x ∈ l, p x = false := List.findIdx?_eq_none_iff.1 h
  have h2 : l.any p = false := by rw [List.any_eq_false]; intro x hx; simp [this x hx]
  simp [idxP, h, h2]
 | some i =>
  obtain ⟨hi, hp, _⟩ := List.findIdx?_eq_some_iff_getElem.1 h
  have h2 : l.any p = true := List.any_eq_true.2 ⟨_, List.getElem_mem hi, hp⟩
  have : (0 : Int) ≤ (i : Int) := by omega
  simp [idxP, h, h2, this]
theorem rd_T87_get (l : List S87) (j : Nat) (h : j < l.length) : rd_T87 l (j : Int) = l[j] := by
 simp [rd_T87, List.getD_eq_getElem?_getD, h]
set_option maxHeartbeats 2000000 in
theorem idxSpan.calls (p : S87 → Bool) (g : Nat) (lb : Array Value) (eg : ∀ args w, (callFunc g args).run Tryz.prog w = .ok (.enter g args) w) (A0 : Option Addr) (c0 : Nat) (l0 : List S87) (w : World)
  (hr0 : Kd.C k87 w A0 l0.length l0) (hp : PredC k87 g lb p w) :
  Calls Tryz.prog 105 #[.slice A0 l0.length c0, .func (.func g) #[] lb] w fun e w' => e = .returned (.int .i64 (idxP p l0)) ∧ Below w.heap.size w w' := by
 have hbig : l0.length ≤ 9223372036854775807 := hr0.2.1
 have HR0 := zA hr0
 have HP := zA hp
 clear hr0 hp
 go_enter Tryz.func105, Tryz.ntmps105
 go_wp2
 go_loopg [5, 8] l0.length (fun gg _ s8 wr => ∃ kk : Nat, kk ≤ l0.length ∧ l0.length - kk ≤ gg ∧ s8 = .int .i64 kk ∧ Aside0 (Below w.heap.size w wr) ∧ Aside0 (∀ j (hj : j < l0.length), j < kk → p l0[j] = false))
 case atStart => exact ⟨0, Nat.zero_le _, by omega, rfl, ⟨Below.refl _ w⟩, ⟨fun j _ hj => absurd hj (Nat.not_lt_zero _)⟩⟩
 case round =>
  obtain ⟨kk, hkk, hg, rfl, BW, AA⟩ := hrel
  by_cases hlt : kk < l0.length
  ·have hltz : (kk : Int) < (l0.length : Int) := by omega
   obtain ⟨ad, e0, hx0, hx1⟩ := at_T87 HR0.out (kk : Int) (by omega) hltz
   cases e0
   rw [rd_T87_get l0 kk hlt] at hx0 hx1
   simp only [Int.toNat_natCast] at hx0 hx1
   replace hx0 := (BW.out.cell (zB w _ hx0)).trans hx0
   replace hx1 := (BW.out.cell (zB w _ hx1)).trans hx1
   have hcall := HP.out wr l0[kk] _ BW.out (k87_mk wr l0[kk])
   have hB : Aside0 (∀ q, p l0[kk] = q → (q = true → idxP p l0 = (kk : Int)) ∧ (q = false → ∀ j (hj : j < l0.length), j < kk + 1 → p l0[j] = false)) := ⟨fun q hq => ⟨fun h => idxP_hit p l0 kk hlt (hq.trans h) AA.out, fun h j hj hj2 => by
    rcases Nat.lt_succ_iff_lt_or_eq.1 hj2 with h3 | h3
    ·exact AA.out j hj h3
    ·subst h3; exact hq.trans h⟩⟩
   generalize l0[kk] = y at hx0 hx1 hcall hB
   cases hq : p y with
   | true =>
    rw [hq] at hcall hB
    have hres := zA ((hB.out true rfl).1 rfl)
    clear hB hq
    go_wp2_with (go_at_fn g; refine hcall.mono ?_; rintro e w' ⟨rfl, hb'⟩)
    go_ret
    refine ⟨?_, zL BW.out hb'⟩
    rw [hres.out]; rfl
   | false =>
    rw [hq] at hcall hB
    have hres := zA ((hB.out false rfl).2 rfl)
    clear hB hq
    go_wp2_with (go_at_fn g; refine hcall.mono ?_; rintro e w' ⟨rfl, hb'⟩)
    go_roundg (l0.length - (kk + 1))
    case measure => omega
    case rel => exact ⟨kk + 1, by omega, by omega, by go_num, ⟨zL BW.out hb'⟩, hres⟩
  ·have hltz : ¬ (kk : Int) < (l0.length : Int) := by omega
   have hkl : kk = l0.length := by omega
   have hres := zA (idxP_miss p l0 (fun j hj => AA.out j hj (by omega)))
   subst hkl
   go_wp2
   go_ret
   refine ⟨?_, BW.out⟩
   rw [hres.out]; rfl
theorem hasSpan.calls (p : S87 → Bool) (g : Nat) (lb : Array Value) (eg : ∀ args w, (callFunc g args).run Tryz.prog w = .ok (.enter g args) w) (A0 : Option Addr) (c0 : Nat) (l0 : List S87) (w : World)
  (hr0 : Kd.C k87 w A0 l0.length l0) (hp : PredC k87 g lb p w) :
  Calls Tryz.prog 157 #[.slice A0 l0.length c0, .func (.func g) #[] lb] w fun e w' => e = .returned (.bool (l0.any p)) ∧ Below w.heap.size w w' := by
 have hcon := idxSpan.calls p g lb eg A0 c0 l0 w hr0 hp
 have HN := zA (idxP_nonneg p l0)
 clear hr0 hp
 generalize idxP p l0 = q at hcon HN
 generalize l0.any p = b at HN ⊢
 go_enter Tryz.func157, Tryz.ntmps157
 go_wp2_with (go_at_call 105; refine hcon.mono ?_; rintro e w' ⟨rfl, hb'⟩)
 go_ret
 exact ⟨by rw [HN.out]; rfl, hb'⟩
def SeqStopsP {α : Type} (F : Fence) (n : Nat) (P : Program) (g : Nat) (lb : Array Value) (encs : α → Array Value) (n₀ : Nat) (S Sp : List α → Prop) (N : Nat) (w : World) : Prop :=
 ∀ (l : Nat) (J Jx : List α → World → Prop) (W : World), Below w.heap.size w W → AbidesFrom W.heap.size J → AbidesFrom W.heap.size Jx →
  (∀ pre x W1 Wx, J pre W1 → W1.grownBy Wx none → n₀ ≤ W1.heap.size → pre.length < N → YieldAt F (n - 1) P l (encs x) Wx fun e W' =>
   (e = .returned (.bool true) ∧ J (pre ++ [x]) W' ∧ Below n₀ Wx W' ∧ (∀ k, W1.heap.size ≤ k → k < Wx.heap.size → W'.heap[k]? = Wx.heap[k]?)) ∨ (e = .returned (.bool false) ∧ Jx (pre ++ [x]) W')) →
  J [] W →
  CallsIn F n P g (#[.func (.yield l) #[] #[]] ++ lb) W fun e W' => (∃ v, e = .returned v) ∧ ((∃ xs, S xs ∧ J xs W') ∨ (∃ pre, Sp pre ∧ Jx pre W'))
def ownPostP {α : Type} (n₀ : Nat) (I : List α → World → Prop) (Ix : Code → List α → World → Prop) (xs : List α) (m mx : Nat) (W : World) : Exit → Act → World → Prop
 | .normal, _, W' => KeepsOthers W W' ∧ Below n₀ W W' ∧ (∀ k, m ≤ k → k < mx → W'.heap[k]? = W.heap[k]?) ∧ I xs W'
 | .ret, _, W' => KeepsOthers W W' ∧ Ix .ret xs W'
 | .exit id, _, W' => KeepsOthers W W' ∧ Ix (.exit id) xs W'
 | .goto t, _, W' => KeepsOthers W W' ∧ Ix (.goto t) xs W'
 | .panic _, _, _ => False
 | .outgrown, _, _ => False
theorem grownBy_putObj_none {W1 Wx : World} (h : W1.grownBy Wx none) {l : Nat} (hl : l < W1.heap.size) (o : Obj) : (W1.putObj l o).grownBy (Wx.putObj l o) none := by
 refine ⟨h.os, h.tape, h.output, by simpa using h.size, fun i hi _ => ?_⟩
 have hi' : i < W1.heap.size := by simpa using hi
 by_cases e : i = l
 ·subst e
  rw [World.putObj_heap_same hi', World.putObj_heap_same (Nat.lt_of_lt_of_le hi' h.size)]
 ·rw [World.putObj_heap_other e, World.putObj_heap_other e]
  exact h.block i hi' (by simp)
theorem wpIn_rangeFunc_ownP {F : Fence} {n : Nat} {P : Program} {α : Type} {g : Operand} {ps : Array Tmp} {assign body : Code} {Q : Exit → Act → World → Prop} {a : Act} {w : World}
  (hro : F.round = none) (h1 : 1 ≤ n) {gf : Nat} {lb : Array Value} (hg : a.eval g = .func (.func gf) #[] lb) (hFg : F.fn gf) (eg : ∀ args w, (callFunc gf args).run P w = .ok (.enter gf args) w)
  {encs : α → Array Value} {n₀ : Nat} {S Sp : List α → Prop} {N : Nat} {w0 : World} (hseq : SeqStopsP F (n - 1) P gf lb encs n₀ S Sp N w0)
  (hn₀ : n₀ ≤ w.heap.size) (hb0 : Below w0.heap.size w0 w) (hps : ∀ x, (encs x).size = ps.size)
  (I : List α → World → Prop) (Ix : Code → List α → World → Prop) (hI : OwnFrom w.heap.size I) (hIx : ∀ c, OwnFrom w.heap.size (Ix c)) (h0 : I [] w) (Ax : α → Act → Nat → World → Prop) (hAx : ∀ a' m, OwnFrom w.heap.size (fun x W => Ax x a' m W))
  (hassign : ∀ (l : Nat) (x : α) (m : Nat) (W : World) (K : Act → World → Prop), m ≤ W.heap.size → w.heap.size ≤ m → (∀ a' W', W.grownBy W' none → Ax x a' m W' → K a' W') →
   assign.wpIn (F.inRound l) (n - 1 - 1) P (Exit.then K (fun _ _ _ => False)) { tmps := (ps.zip (encs x)).foldl (fun t (p, v) => t.setIfInBounds p v) a.tmps, defers := [] } W)
  (hbody : ∀ (l : Nat) (pre : List α) (x : α) (a' : Act) (mx : Nat) (W1 W : World), I pre W1 → W1.grownBy W none → n₀ ≤ W1.heap.size → mx ≤ W.heap.size → pre.length < N → Ax x a' W1.heap.size W → body.wpIn (F.inRound l) (n - 1 - 1) P (ownPostP n₀ I Ix (pre ++ [x]) W1.heap.size mx W) a' W)
  (hdone : ∀ (D : Nat) (xs : List α) (W : World), w.heap.size ≤ D → S xs → I xs W → W.heap[D]? = some (.deferred (some [])) → Q .normal { a with defers := { target := .collected D, args := #[] } :: a.defers } W)
  (hstop : ∀ (D : Nat) (c : Code) (pre : List α) (W : World), w.heap.size ≤ D → Sp pre → Ix c pre W → W.heap[D]? = some (.deferred (some [])) → c.wpIn F n P Q { a with defers := { target := .collected D, args := #[] } :: a.defers } W) :
  (Code.rangeFunc g ps assign body).wpIn F n P Q a w := by
 refine wpIn_rangeFunc ?_
 intro fn hfn
 rw [hro]
 obtain ⟨rec, hrec⟩ : ∃ rec : LoopState → Option Code → Loop, rec = fun st pe => { state := st, pending := pe, fn, tmps := a.tmps, params := ps, assign, body, defers := w.heap.size } := ⟨_, rfl⟩
 obtain ⟨W1, hW1⟩ : ∃ W1, (w.alloc (.deferred (some []))).alloc (.loop (rec .ready none)) = W1 := ⟨_, rfl⟩
 have hL1 : W1.heap[w.heap.size + 1]? = some (.loop (rec .ready none)) := by
  rw [← hW1]; have := World.alloc_heap_new (w.alloc (.deferred (some []))) (.loop (rec .ready none)); rwa [World.size_alloc] at this
 have hK1 : W1.heap[w.heap.size]? = some (.deferred (some [])) := by
  rw [← hW1]; exact (Below.heap_alloc _ _ _ (by simp)).trans (World.alloc_heap_new w _)
 have hI1 : I [] W1 := by rw [← hW1]; exact hI.alloc _ (hI.alloc _ h0)
 have hb1 : Below w0.heap.size w0 W1 := by
  rw [← hW1]; exact hb0.trans ((((Below.refl _ w).alloc (Nat.le_refl _) _).alloc (by simp) _).mono hb0.size)
 refine ⟨w.heap.size + 1, [{ target := .collected w.heap.size, args := #[] }], W1, { target := .fn (.func gf) lb, args := #[.func (.yield (w.heap.size + 1)) #[] #[]] }, W1, gf,
  #[.func (.yield (w.heap.size + 1)) #[] #[]] ++ lb, W1, ?_, ?_, ?_, ?_, fun _ => h1, ?_⟩
 ·rw [← hW1, hrec]; exact run_enterLoop_outer _ _ _ _ _
 ·simp only [resolve, hg]
  simp [go_sem]
 ·intro f' hf'; simp [Target.leads] at hf'; subst hf'; exact hFg
 ·simp [invoke, go_sem, eg]
 ·have hnw : ∀ {A B : World} {row : Option Nat}, (∀ r, row = some r → W1.heap.size ≤ r ∧ ∃ o : Obj, A.heap[r]? = some o ∧ o.isWalk = true) → (∀ r, row = some r → w.heap.size ≤ r ∧ ∃ o : Obj, A.heap[r]? = some o ∧ o.isCells = false) :=
   fun hr r e => by obtain ⟨hB, o, ho, hw⟩ := hr r e; exact ⟨by rw [← hW1] at hB; simp at hB; omega, o, ho, Obj.not_cells_of_walk hw⟩
  refine (hseq (w.heap.size + 1)
   (fun pre W => I pre W ∧ W.heap[w.heap.size + 1]? = some (.loop (rec .ready none)) ∧ W.heap[w.heap.size]? = some (.deferred (some [])))
   (fun pre W => ∃ c, Ix c pre W ∧ W.heap[w.heap.size + 1]? = some (.loop (rec .done (some c))) ∧ W.heap[w.heap.size]? = some (.deferred (some [])))
   W1 hb1
   (fun s A B row hs hg' hr => ⟨hI s A B row hs.1 hg' (hnw (B := B) hr), (grownBy_keeps hg' (fun r e => (hr r e).2) hs.2.1 rfl).trans hs.2.1, (grownBy_keeps hg' (fun r e => (hr r e).2) hs.2.2 rfl).trans hs.2.2⟩)
   (fun s A B row hs hg' hr => by
    obtain ⟨c, hc, hl, hk⟩ := hs
    exact ⟨c, hIx c s A B row hc hg' (hnw (B := B) hr), (grownBy_keeps hg' (fun r e => (hr r e).2) hl rfl).trans hl, (grownBy_keeps hg' (fun r e => (hr r e).2) hk rfl).trans hk⟩)
   ?_ ⟨hI1, hL1, hK1⟩).mono ?_
  ·rintro pre x Wo W ⟨hi, hlo, hko⟩ hgr hno hlen
   have hlto : w.heap.size + 1 < Wo.heap.size := (Array.getElem?_eq_some_iff.1 hlo).1
   have hl : W.heap[w.heap.size + 1]? = some (.loop (rec .ready none)) := (hgr.block _ hlto (by simp)).trans hlo
   have hk : W.heap[w.heap.size]? = some (.deferred (some [])) := (hgr.block _ (by omega) (by simp)).trans hko
   have hlt : w.heap.size + 1 < W.heap.size := (Array.getElem?_eq_some_iff.1 hl).1
   have hy := run_yield (P := P) (args := encs x) hl (by rw [hrec]; exact hps x)
   rw [hrec] at hy
   refine ⟨fn, _, assign, body, hy, roundIn_of_wpIn hfn (hassign _ x Wo.heap.size W _ hgr.size (by omega) fun a' W2 hgr2 hax => ?_)⟩
   have hlx : W2.heap[w.heap.size + 1]? = some (.loop (rec .ready none)) := (hgr2.block _ hlt (by simp)).trans hl
   have hkx : W2.heap[w.heap.size]? = some (.deferred (some [])) := (hgr2.block _ (by omega) (by simp)).trans hk
   have hltx : w.heap.size + 1 < W2.heap.size := (Array.getElem?_eq_some_iff.1 hlx).1
   refine ⟨_, run_beginRound hlx (by rw [hrec]), ?_⟩
   have hl2 : (W2.putObj (w.heap.size + 1) (.loop { rec .ready none with state := .busy })).heap[w.heap.size + 1]? = some (.loop { rec .ready none with state := .busy }) := World.putObj_heap_same hltx
   have hk2 : (W2.putObj (w.heap.size + 1) (.loop { rec .ready none with state := .busy })).heap[w.heap.size]? = some (.deferred (some [])) := (World.putObj_heap_other (by omega)).trans hkx
   have hw2 : Below n₀ W (W2.putObj (w.heap.size + 1) (.loop { rec .ready none with state := .busy })) := ((Below.refl n₀ W).grown hgr2 (by have := hgr.size; omega) (fun k e => by cases e)).grown (grownBy_putObj' W2 _ _) (by have := hgr.size; have := hgr2.size; omega) (fun k e => by cases e; omega)
   have hgo : Wo.grownBy W2 none := ⟨hgr2.os.trans hgr.os, hgr2.tape.trans hgr.tape, hgr2.output.trans hgr.output, Nat.le_trans hgr.size hgr2.size, fun i hi hne => (hgr2.block i (Nat.lt_of_lt_of_le hi hgr.size) hne).trans (hgr.block i hi hne)⟩
   have hg2 := grownBy_putObj_none hgo hlto (.loop { rec .ready none with state := .busy })
   refine wpIn_mono (hbody _ pre x a' W.heap.size _ _ (hI.putObj _ hi (by omega) hlo rfl) hg2 (by simpa using hno) (by simpa using hgr2.size) hlen (by
    have := (hAx a' Wo.heap.size).putObj (.loop { rec .ready none with state := .busy }) (s := x) hax (l := w.heap.size + 1) (by omega) hlx rfl
    simpa using this)) ?_
   have fin : ∀ (jump : Option Code) (W3 : World), KeepsOthers (W2.putObj (w.heap.size + 1) (.loop { rec .ready none with state := .busy })) W3 →
     (Instr.endRound (w.heap.size + 1) jump).run P W3 = .ok (.bool jump.isNone) (W3.putObj (w.heap.size + 1) (.loop (rec (if jump.isNone then .ready else .done) jump))) ∧
     W3.heap[w.heap.size + 1]? = some (.loop { rec .ready none with state := .busy }) ∧
     (W3.putObj (w.heap.size + 1) (.loop (rec (if jump.isNone then .ready else .done) jump))).heap[w.heap.size + 1]? = some (.loop (rec (if jump.isNone then .ready else .done) jump)) ∧
     (W3.putObj (w.heap.size + 1) (.loop (rec (if jump.isNone then .ready else .done) jump))).heap[w.heap.size]? = some (.deferred (some [])) := fun jump W3 hk3 => by
    have hl3 := hk3.same _ _ hl2 rfl
    have := run_endRound (P := P) jump hl3
    rw [hrec] at this ⊢
    exact ⟨this, by rw [hrec] at hl3; exact hl3, World.putObj_heap_same (Array.getElem?_eq_some_iff.1 hl3).1, (World.putObj_heap_other (by omega)).trans (hk3.same _ _ hk2 rfl)⟩
   rintro e a3 W3 hp
   cases e with
   | normal =>
    obtain ⟨hk3, hkp3, hpr3, hi3⟩ := hp
    obtain ⟨hr, hl3, hl4, hk4⟩ := fin none W3 hk3
    refine ⟨_, _, hr, .inl ⟨rfl, ⟨hI.putObj _ hi3 (by omega) hl3 rfl, hl4, hk4⟩, (hw2.trans hkp3).trans ((Below.refl n₀ W3).grown (grownBy_putObj' W3 _ _) (by have h3 := hkp3.size; have h4 := hgr.size; have h5 := hgr2.size; simp at h3; omega) (fun k e => by cases e; omega)), fun k hk1 hk2 => ?_⟩⟩
    have hne : k ≠ w.heap.size + 1 := by omega
    rw [World.putObj_heap_other hne, hpr3 k (by simpa using hk1) (by simpa using hk2), World.putObj_heap_other hne, hgr2.block k hk2 (by simp)]
   | ret =>
    obtain ⟨hk3, hi3⟩ := hp
    obtain ⟨hr, hl3, hl4, hk4⟩ := fin (some .ret) W3 hk3
    exact ⟨_, _, hr, .inr ⟨rfl, .ret, (hIx _).putObj _ hi3 (by omega) hl3 rfl, hl4, hk4⟩⟩
   | exit id =>
    obtain ⟨hk3, hi3⟩ := hp
    obtain ⟨hr, hl3, hl4, hk4⟩ := fin (some (.exit id)) W3 hk3
    exact ⟨_, _, hr, .inr ⟨rfl, .exit id, (hIx _).putObj _ hi3 (by omega) hl3 rfl, hl4, hk4⟩⟩
   | goto t =>
    obtain ⟨hk3, hi3⟩ := hp
    obtain ⟨hr, hl3, hl4, hk4⟩ := fin (some (.goto t)) W3 hk3
    exact ⟨_, _, hr, .inr ⟨rfl, .goto t, (hIx _).putObj _ hi3 (by omega) hl3 rfl, hl4, hk4⟩⟩
   | panic ch => exact hp.elim
   | outgrown => exact hp.elim
  ·rintro e W2 ⟨⟨v, rfl⟩, (⟨xs, hS, hi, hl, hk⟩ | ⟨pre, hSp, c, hi, hl, hk⟩)⟩
   ·exact ⟨none, _, by have := run_endLoop (P := P) hl (by rw [hrec]; simp); rw [hrec] at this; exact this, hdone _ xs _ (Nat.le_refl _) hS (hI.putObj _ hi (by omega) hl rfl) ((World.putObj_heap_other (by omega)).trans hk)⟩
   ·exact ⟨some c, _, by have := run_endLoop (P := P) hl (by rw [hrec]; simp); rw [hrec] at this; exact this, hstop _ c pre _ (Nat.le_refl _) hSp ((hIx c).putObj _ hi (by omega) hl rfl) ((World.putObj_heap_other (by omega)).trans hk)⟩
theorem R_ownGrown {α : Type} {d : Kd α} {e base : Nat} {ok : Nat → Prop} {w w1 : World} {v : Value} {xs : List α} {row : Option Nat} (h : d.R e w base ok v xs) (hg : w.grownBy w1 row)
  (hr : ∀ r, row = some r → ∃ o : Obj, w.heap[r]? = some o ∧ o.isCells = false) : d.R e w1 base ok v xs := by
 refine Kd.R_mono (Kd.R_grown (Kd.R_bound h) hg (fun k hk er => ?_)) (fun _ hk => hk.1)
 obtain ⟨_, _, _, q, _, cells, hc⟩ := hk
 obtain ⟨o, ho, hn⟩ := hr k er.symm
 rw [hc] at ho
 cases ho
 cases hn
theorem hw_wpIn_inRound {F : Fence} {n : Nat} {P : Program} {o : Oper} {a : Act} {w : World} {K : Act → World → Prop} {Q : Exit → Act → World → Prop} (l : Nat) (hro : F.round = none) (hd : ∀ c, o.op ≠ .defer c)
  (h : o.wpIn F n P a w K Q) : o.wpIn (F.inRound l) n P a w K Q := by
 unfold Oper.wpIn at *
 refine ⟨h.1, ?_⟩
 have h2 := h.2
 rw [hro, Oper.semAt_none] at h2
 show o.uponIn (F.inRound l) n P a K Q ((o.semAt (some l) a.eval).run P w)
 rw [Oper.semAt_some l a.eval o hd]
 exact h2
theorem hw_wpOpIn_inRound {F : Fence} {n : Nat} {P : Program} {ops : Array Oper} {i : Nat} {a : Act} {w : World} {K K' : Act → World → Prop} {Q : Exit → Act → World → Prop} (l : Nat) (hro : F.round = none) (hd : ∀ (i : Nat) (o : Oper), ops[i]? = some o → ∀ c, o.op ≠ .defer c)
  (hK : ∀ a w, K a w → K' a w) (h : wpOpIn F n P ops Q i K a w) : wpOpIn (F.inRound l) n P ops Q i K' a w := by
 have h := wpOpIn_mono hK h
 unfold wpOpIn at *
 split
 ·rename_i hn
  simpa [hn] using h
 ·rename_i o ho
  simp only [ho] at h
  split
  ·rename_i hw
   simp only [hw, if_true] at h
   exact hw_wpIn_inRound l hro (hd _ _ ho) h
  ·rename_i hw
   simp only [hw] at h
   exact h
theorem hw_wpAnyIn_inRound {F : Fence} {n : Nat} {P : Program} {md : Region.Mode} {ops : Array Oper} {Q : Exit → Act → World → Prop} (l : Nat) (hro : F.round = none) (hd : ∀ (i : Nat) (o : Oper), ops[i]? = some o → ∀ c, o.op ≠ .defer c) :
  ∀ (fuel : Nat) (listed : Array Bool) (a : Act) (w : World), wpAnyIn F n P md ops Q fuel listed a w → wpAnyIn (F.inRound l) n P md ops Q fuel listed a w
 | 0, _, _, _, h => h
 | fuel + 1, _, _, _, h => ⟨h.1, fun i hi => hw_wpOpIn_inRound l hro hd (fun a w hk => hw_wpAnyIn_inRound l hro hd fuel _ a w hk) (h.2 i hi)⟩
theorem hw_region_quiet {F : Fence} {n : Nat} {P : Program} {id : Nat} {Q : Exit → Act → World → Prop} {a : Act} {w : World} {l : List Oper} (r : Nat) (hro : F.round = none) (hd : (l.all fun (o : Oper) => match o.op with | .defer _ => false | _ => true) = true) (hm : P.follows .mixedOrders = true) (hB : Region.lexB .any l.toArray = true)
  (h : wpQuietIn F n P l.toArray (fun w' => ∃ n, w' = w.drewN n) (fun a' => ∀ w', (∃ n, w' = w.drewN n) → Q .normal a' w') l a) : (Code.region id l.toArray true).wpIn (F.inRound r) n P Q a w := by
 have hd' : ∀ (i : Nat) (o : Oper), l.toArray[i]? = some o → ∀ c, o.op ≠ .defer c := by
  intro i o ho c hc
  have hm : o ∈ l := List.mem_of_getElem? (by simpa using ho)
  have := List.all_eq_true.1 hd o hm
  rw [hc] at this
  cases this
 have hB' := hB
 simp only [Region.lexB, Bool.and_eq_true] at hB'
 refine wpIn_region_any hm (hw_wpAnyIn_inRound r hro hd' _ _ _ _ (wpAnyIn_of_quiet (C := fun w' => ∃ n, w' = w.drewN n) (Q := fun a' => ∀ w', (∃ n, w' = w.drewN n) → Q .normal a' w') hro (fun _ w' hw' h => h w' hw') _ _ _ _ ⟨1, rfl⟩ ?_))
 have := wpAnyQIn_lex (F := F) (n := n) (P := P) (C := fun w' => ∃ n, w' = w.drewN n) (md := .any) (Q := fun a' => ∀ w', (∃ n, w' = w.drewN n) → Q .normal a' w') hB'.1 l 0 (Array.replicate l.toArray.size false) a (by simp) (by simpa using hB'.2) h
 simpa using this
attribute [local go_sem] Oper.semAt_some
open Go.Shelf
def encS (x : S87) : Array Value := #[.agg #[.int .i64 x.f0, .int .i64 x.f1]]
set_option maxRecDepth 100000 in
set_option maxHeartbeats 2000000 in
theorem vals1_in (F : Fence) (n : Nat) (h7 : F.fn 181) (hro : F.round = none) (hn : 1 ≤ n) (l Bs n₀ c0 : Nat) (A0 : Option Addr) (zs : List S87) (W0 : World) (hn₀ : W0.heap.size ≤ n₀) (J Jx : List S87 → World → Prop)
  (hC : Kd.C k87 W0 A0 zs.length zs)
  (hY : ∀ pre x W1 Wx, J pre W1 → W1.grownBy Wx none → n₀ ≤ W1.heap.size → pre.length < zs.length → YieldAt F (n - 1) Tryz.prog l (encS x) Wx fun e W' =>
   (e = .returned (.bool true) ∧ J (pre ++ [x]) W' ∧ Below n₀ Wx W' ∧ (∀ k, W1.heap.size ≤ k → k < Wx.heap.size → W'.heap[k]? = Wx.heap[k]?)) ∨ (e = .returned (.bool false) ∧ Jx (pre ++ [x]) W'))
  (W : World) (hJ : AbidesFrom W.heap.size J) (hWn : n₀ ≤ W.heap.size) (hb0 : Below W0.heap.size W0 W) (hBs : W.cell? ⟨Bs, 0, none⟩ = some (.slice A0 zs.length c0)) (h0 : J [] W) :
  CallsIn F n Tryz.prog 181 #[.func (.yield l) #[] #[], .pointer (some ⟨Bs, 0, none⟩)] W fun e W' => (∃ v, e = .returned v) ∧
   ((∃ ys, ys = zs ∧ J ys W') ∨ (∃ pre, True ∧ Jx pre W')) := by
 have hlen : zs.length ≤ 9223372036854775807 := hC.2.1
 have HC := zA hC
 clear hC
 have hu := Tryz.underlying87
 refine callsIn_of_wp Tryz.func181 rfl h7 ?_ hro
 simp only [Tryz.ntmps181, List.size_toArray, List.length_cons, List.length_nil, Nat.reduceAdd, Nat.reduceSub, Array.replicate_succ, Array.replicate_zero, List.push_toArray, List.append_toArray, List.nil_append, List.cons_append]
 gi_wp2
 gi_loopw [4, 7] (fun _ i wr => ∃ k : Nat, k ≤ zs.length ∧ i = .int .i64 k ∧ Aside0 (J (zs.take k) wr) ∧ Aside0 (Below n₀ W wr))
  (fun _ i _ => zs.length - (intOf i).toNat)
 case atStart => exact ⟨0, Nat.zero_le _, rfl, ⟨h0⟩, ⟨Below.refl _ _⟩⟩
 case round =>
  obtain ⟨k, hk, rfl, hJs, hnx⟩ := hrel
  by_cases hlt : k < zs.length
  ·obtain ⟨ad, e0, hx0, hx1⟩ := at_T87 HC.out (k : Int) (by omega) (by omega)
   cases e0
   rw [rd_T87_get zs k hlt] at hx0 hx1
   simp only [Int.toNat_natCast] at hx0 hx1
   have hW0 : Below W0.heap.size W0 wr := hb0.trans (hnx.out.mono hn₀)
   replace hx0 := (hW0.cell (zB _ _ hx0)).trans hx0
   replace hx1 := (hW0.cell (zB _ _ hx1)).trans hx1
   obtain ⟨fn, tmps, assign, body, hy, hR⟩ := hY _ zs[k] wr _ hJs.out (World.grownBy_alloc wr (.cells #[.int .i64 zs[k].f0, .int .i64 zs[k].f1] 87) none) (Nat.le_trans hWn hnx.out.size) (by rw [List.length_take, Nat.min_eq_left hk]; exact hlt)
   have hT : Aside0 (zs.take k ++ [zs[k]] = zs.take (k + 1)) := ⟨by rw [List.take_succ_eq_append_getElem hlt]⟩
   unfold encS at hy
   have hbig : (k : Int) < (zs.length : Int) := by omega
   generalize zs[k] = y at hx0 hx1 hy hR hT
   generalize hP : zs.take k = pre at hJs hR hT
   clear hP hW0
   gi_wp2
   refine hR.mono ?_
   rintro e W3 (⟨rfl, hJ3, hk3, _⟩ | ⟨rfl, hJx3⟩)
   ·gi_wp2
    go_roundw
    case rel => exact ⟨k + 1, by omega, by simp, ⟨by rw [← hT.out]; exact hJ3⟩, ⟨(hnx.out.alloc (Nat.le_trans hWn hnx.out.size) _).trans hk3⟩⟩
    case measure => simp [intOf]; omega
   ·gi_wp2
    refine bodyPost_ret (results_none rfl _ _ _) rfl ?_
    exact ⟨⟨_, rfl⟩, .inr ⟨_, trivial, hJx3⟩⟩
  ·have hkl : k = zs.length := by omega
   subst hkl
   gi_wp2
   go_end0
   exact ⟨⟨_, rfl⟩, .inl ⟨_, rfl, by have := hJs.out; rwa [List.take_length] at this⟩⟩
end Go.Proofs.YtcclaidbikjhiaaGreatDoor.PVo
