import Derived.Test.YtfdlbnfjohpdlaaGreatDoorPureRn
import Derived.Test.YtfdlbnfjohpdlaaGreatDoorPureTR
import Derived.Test.YtfdlbnfjohpdlaaGreatDoorPPox16
import Derived.Lib.RowBridge
--compressed
namespace Go.Proofs.YtfdlbnfjohpdlaaGreatDoor.PPo
open Go.RowKit Go.Proofs.YtfdlbnfjohpdlaaGreatDoor.Th Go.Proofs.YtfdlbnfjohpdlaaGreatDoorW.PrintWords Go.Proofs.YtfdlbnfjohpdlaaGreatDoorW.PrintLast Go.Proofs.YtfdlbnfjohpdlaaGreatDoorW.PrintMore
attribute [local go_sem] max2_int min2_int max_two min_two max_three min_three max_four min_four
set_option linter.unusedVariables false
set_option linter.unusedSimpArgs false
end Go.Proofs.YtfdlbnfjohpdlaaGreatDoor.PPo
namespace Go.Proofs.YtfdlbnfjohpdlaaGreatDoor.PPo
open Go.RowKit Go.Proofs.YtfdlbnfjohpdlaaGreatDoor.Th Go.Proofs.YtfdlbnfjohpdlaaGreatDoorW.PrintWords Go.Proofs.YtfdlbnfjohpdlaaGreatDoorW.PrintLast Go.Proofs.YtfdlbnfjohpdlaaGreatDoorW.PrintMore
attribute [local go_sem] max2_int min2_int max_two min_two max_three min_three max_four min_four
set_option linter.unusedVariables false
set_option linter.unusedSimpArgs false
theorem cut_drop {P : Program} (t e : TypeId) {i : TypeInfo} (ht : P.underlying t = some (.slice e)) (hi : P.info? e = some i) (size : Nat) (hsz : i.size = size) (A : Option Addr) (n c : Nat) (hn : 1 ≤ n) (hc : n ≤ c) (W : World) :
  (Instr.slice t (.slice A n c) (some (.int .i64 1)) none none).run P W = .ok (.slice (if c = 1 then A else A.map (·.add (1 * size))) (n - 1) (c - 1)) W := by
 have hel : P.elem t = e := by simp [Program.elem, ht]
 have hu : P.underlying t = some (.slice (P.elem t)) := by rw [hel]; exact ht
 rw [run_slice_l W t A n c hu .i64 1 (by omega) (by omega), hel]
 simp [sizeOf, typeInfo, hi, hsz, sliced, Result.andThen]
theorem rdT_at {l : List Lk} {i : Nat} (h : i < l.length) : rd_T31 l (i : Int) = l[i] := by simp [rd_T31, List.getD_eq_getElem?_getD, h]
theorem ints_stay {w W w1 : World} {v u : Value} {xs : List Int} {ys : List Lk} {base : Nat} (h : Kd.R (Kd.int .i64) 3 W base (fun _ => True) v xs) (hu : Kd.R k31 31 W base (fun _ => True) u ys) (hg : W.grownBy w1 u.ownBlock) : Kd.R (Kd.int .i64) 3 w1 base (fun _ => True) v xs :=
 Kd.R_mono (Kd.R_grown (Kd.R_apartR h hu (by decide)) hg (fun k hk => hk.2)) (fun _ _ => trivial)
theorem links_stay {w W w1 : World} {v u : Value} {xs : List Int} {ys : List Lk} {base : Nat} (h : Kd.R k31 31 W base (fun _ => True) u ys) (hu : Kd.R (Kd.int .i64) 3 W base (fun _ => True) v xs) (hg : W.grownBy w1 v.ownBlock) : Kd.R k31 31 w1 base (fun _ => True) u ys :=
 Kd.R_mono (Kd.R_grown (Kd.R_apartR h hu (by decide)) hg (fun k hk => hk.2)) (fun _ _ => trivial)
theorem below_row {α : Type} {dd : Kd α} {ee : Nat} {ok : Nat → Prop} {w W w1 : World} {v : Value} {xs : List α} (hb : Below w.heap.size w W) (h : dd.R ee W w.heap.size ok v xs) (hg : W.grownBy w1 v.ownBlock) : Below w.heap.size w w1 := hb.grown hg (below_size hb) fun k hk => by
 rcases Kd.R_base2 h with h1 | ⟨q, h1, h2⟩
 ·rw [h1] at hk; cases hk
 ·rw [h1] at hk
  injection hk with hk
  omega
set_option maxHeartbeats 8000000 in
set_option maxRecDepth 100000 in
theorem keepR.calls (a b d e : Int) (A : Option Addr) (c : Nat) (l : List Lk) (live next now : Int) (w : World) (hr : Kd.C k31 w A l.length l) (hc : l.length ≤ c) (hs : ∀ x ∈ l, x.f2.size ≤ 9223372036854775807) (htm : ∀ x ∈ l, Tm x) (ht : TabsW w) :
  Calls Tryz.prog 13 #[.agg #[.int .i64 a, .int .i64 b, .int .i64 d, .int .i64 e], .agg #[.slice A l.length c, .int .i64 live, .int .i64 next, .int .u64 now]] w fun ex w' => ∃ v, ex = .returned v ∧ (keepV a b d e l live next = [] → v = .slice none 0 0) ∧ Kd.R (Kd.int .i64) 3 w' w.heap.size (fun _ => True) v (keepV a b d e l live next) ∧ Below w.heap.size w w' := by
 have hu := Tryz.underlying28
 have hu3 := Tryz.underlying31
 have hup := Tryz.underlying23
 have HB := Aside0.mk (Below.refl w.heap.size w)
 have HP := Aside0.mk (fun (W : World) (hW : Below w.heap.size w W) => (rightP.calls a b d e W).mono fun ex w' q => (show ex = .returned (.bool (rightP a b d e)) ∧ Below w.heap.size w w' ∧ Below W.heap.size W w' from ⟨q.1, hW.trans (q.2.mono (below_size hW)), q.2⟩))
 have HR := Aside0.mk (fun (W : World) (hW : Below w.heap.size w W) => (treeR.calls A c l live next now W (Kd.C_below hr hW) hc hs (ht.below hW)).mono fun ex w' q => (show ex = .returned (.bool (rightT l live next)) ∧ Below w.heap.size w w' ∧ Below W.heap.size W w' from ⟨q.1, hW.trans (q.2.mono (below_size hW)), q.2⟩))
 obtain ⟨K, hK⟩ : ∃ K, K = keepV a b d e l live next := ⟨_, rfl⟩
 rw [← hK]
 have HK := Aside0.mk hK
 clear hK
 cases hp : rightP a b d e with
 | false =>
  have HN := Aside0.mk (show K = [] by rw [HK.out, keepV, if_neg (by rw [hp]; simp)])
  rw [hp] at HP
  clear hr hc hs htm ht hp
  go_enter Tryz.func13, Tryz.ntmps13
  go_wp2_with (first
   | ((with_reducible refine gate_dst (N := 2) rfl ?_); refine box_event ?hg (N := 2) ?hd (cs := #[.int .i64 a, .int .i64 b, .int .i64 d, .int .i64 e]) (t := 23) ?hr ?_; (case hd => rfl); (case hg => rfl); (case hr => first | (go_simp; done) | (go_simp; rfl)); intro g2 hg2 wb2 hbox hb; have HB2 := Aside0.mk (below_step HB.out hb); have BK2 := Aside0.mk hbox; have HG2 := Aside0.mk (show w.heap.size ≤ g2 by rw [hg2]; exact below_size HB.out); clear hg2 hb hbox; have hb2_0 := blk_cell BK2.out 0; have hb2_1 := blk_cell BK2.out 1; have hb2_2 := blk_cell BK2.out 2; have hb2_3 := blk_cell BK2.out 3)
   | ((with_reducible refine gate_dst (N := 3) rfl ?_); refine box_event ?hg (N := 3) ?hd (cs := #[.slice A l.length c, .int .i64 live, .int .i64 next, .int .u64 now]) (t := 28) ?hr ?_; (case hd => rfl); (case hg => rfl); (case hr => first | (go_simp; done) | (go_simp; rfl)); intro g3 hg3 wb3 hbox hb; have HB3 := Aside0.mk (below_step HB2.out hb); have BK3 := Aside0.mk hbox; have HG3 := Aside0.mk (show w.heap.size ≤ g3 by rw [hg3]; exact below_size HB2.out); have BP3 := Aside0.mk (blk_below BK2.out hb); clear hg3 hb hbox; have hb3_0 := blk_cell BK3.out 0; have hb3_1 := blk_cell BK3.out 1; have hb3_2 := blk_cell BK3.out 2; have hb3_3 := blk_cell BK3.out 3; have hp0 := blk_cell BP3.out 0; have hp1 := blk_cell BP3.out 1; have hp2 := blk_cell BP3.out 2; have hp3 := blk_cell BP3.out 3)
   | (go_at_call 19; go_loud (refine (HP.out _ HB3.out).mono ?_; rintro ex w4 ⟨rfl, q1, q2⟩; have HB4 := Aside0.mk q1; clear q1 q2)))
  go_ret
  exact ⟨_, rfl, fun _ => rfl, by rw [HN.out]; exact Kd.R_nil _ _ _ _ _, HB4.out⟩
 | true =>
  rw [hp] at HP
  cases htr : rightT l live next with
  | false =>
   have HN := Aside0.mk (show K = [] by rw [HK.out, keepV, if_neg (by rw [htr]; simp)])
   rw [htr] at HR
   clear hr hc hs htm ht hp htr
   go_enter Tryz.func13, Tryz.ntmps13
   go_wp2_with (first
    | ((with_reducible refine gate_dst (N := 2) rfl ?_); refine box_event ?hg (N := 2) ?hd (cs := #[.int .i64 a, .int .i64 b, .int .i64 d, .int .i64 e]) (t := 23) ?hr ?_; (case hd => rfl); (case hg => rfl); (case hr => first | (go_simp; done) | (go_simp; rfl)); intro g2 hg2 wb2 hbox hb; have HB2 := Aside0.mk (below_step HB.out hb); have BK2 := Aside0.mk hbox; have HG2 := Aside0.mk (show w.heap.size ≤ g2 by rw [hg2]; exact below_size HB.out); clear hg2 hb hbox; have hb2_0 := blk_cell BK2.out 0; have hb2_1 := blk_cell BK2.out 1; have hb2_2 := blk_cell BK2.out 2; have hb2_3 := blk_cell BK2.out 3)
    | ((with_reducible refine gate_dst (N := 3) rfl ?_); refine box_event ?hg (N := 3) ?hd (cs := #[.slice A l.length c, .int .i64 live, .int .i64 next, .int .u64 now]) (t := 28) ?hr ?_; (case hd => rfl); (case hg => rfl); (case hr => first | (go_simp; done) | (go_simp; rfl)); intro g3 hg3 wb3 hbox hb; have HB3 := Aside0.mk (below_step HB2.out hb); have BK3 := Aside0.mk hbox; have HG3 := Aside0.mk (show w.heap.size ≤ g3 by rw [hg3]; exact below_size HB2.out); have BP3 := Aside0.mk (blk_below BK2.out hb); clear hg3 hb hbox; have hb3_0 := blk_cell BK3.out 0; have hb3_1 := blk_cell BK3.out 1; have hb3_2 := blk_cell BK3.out 2; have hb3_3 := blk_cell BK3.out 3; have hp0 := blk_cell BP3.out 0; have hp1 := blk_cell BP3.out 1; have hp2 := blk_cell BP3.out 2; have hp3 := blk_cell BP3.out 3)
    | (go_at_call 19; go_loud (refine (HP.out _ HB3.out).mono ?_; rintro ex w4 ⟨rfl, q1, q2⟩; have HB4 := Aside0.mk q1; have BT4 := Aside0.mk (blk_below BK3.out q2); have ht0 := blk_cell BT4.out 0; have ht1 := blk_cell BT4.out 1; have ht2 := blk_cell BT4.out 2; have ht3 := blk_cell BT4.out 3; clear q1 q2))
    | (go_at_call 20; go_loud (refine (HR.out _ HB4.out).mono ?_; rintro ex w5 ⟨rfl, q1, q2⟩; have HB5 := Aside0.mk q1; clear q1 q2)))
   go_ret
   exact ⟨_, rfl, fun _ => rfl, by rw [HN.out]; exact Kd.R_nil _ _ _ _ _, HB5.out⟩
  | true =>
   rw [htr] at HR
   obtain ⟨h0, h60, _⟩ := rightT_iff.1 htr
   obtain ⟨i0, hi0, _, hi1, _⟩ := info_parts info31
   have hcut := fun W => cut_drop (P := Tryz.prog) 25 31 Tryz.underlying25 hi0 6 hi1 A l.length c h0 hc W
   have hC1 := Kd.C_drop (m := 1) hr h0 hc
   rw [List.length_drop] at hC1
   have hkf := fun (srt : List Lk) (h1 : srt.Perm (candV l)) (h2 : Fall srt) => keep_of a b d e hp htr h1 h2 htm
   have hl1 : (l.drop 1).length = l.length - 1 := List.length_drop
   have hcd : ∀ x ∈ candV l, Tm x := fun x hx => htm x (cand_mem hx)
   have hcv : candV l = (l.drop 1).filter fun x => !x.f4 := rfl
   have hcl : (candV l).length ≤ 60 := by rw [hcv]; have := List.length_filter_le (fun x : Lk => !x.f4) (l.drop 1); omega
   have HKN := Aside0.mk (show K ≠ [] by rw [HK.out, keepV, if_pos ⟨hp, htr⟩]; simp)
   have HCV := Aside0.mk hcv
   have HCD := Aside0.mk (And.intro hcd hcl)
   have HKF := Aside0.mk hkf
   generalize candV l = C at HCV HCD HKF
   generalize hA1 : (if c = 1 then A else A.map fun x => x.add (1 * 6)) = A1 at hcut
   have hA2 : (if c = 1 then A else A.map fun x => x.add (1 * (k31).sz)) = A1 := hA1
   rw [hA2] at hC1
   rw [← hl1] at hC1 hcut
   generalize l.drop 1 = L1 at hC1 hcut hl1 HCV
   have HC1 := Aside0.mk hC1
   have HL := Aside0.mk (And.intro h0 (And.intro h60 hl1))
   have hll : L1.length ≤ 60 := by omega
   clear hr hc hs htm ht hp htr hi0 hi1 hC1 hkf hl1 hcd hcv hcl hA1 hA2 h0 h60
   go_enter Tryz.func13, Tryz.ntmps13
   go_wp2_with (first
    | ((with_reducible refine gate_dst (N := 2) rfl ?_); refine box_event ?hg (N := 2) ?hd (cs := #[.int .i64 a, .int .i64 b, .int .i64 d, .int .i64 e]) (t := 23) ?hr ?_; (case hd => rfl); (case hg => rfl); (case hr => first | (go_simp; done) | (go_simp; rfl)); intro g2 hg2 wb2 hbox hb; have HB2 := Aside0.mk (below_step HB.out hb); have BK2 := Aside0.mk hbox; have HG2 := Aside0.mk (show w.heap.size ≤ g2 by rw [hg2]; exact below_size HB.out); clear hg2 hb hbox; have hb2_0 := blk_cell BK2.out 0; have hb2_1 := blk_cell BK2.out 1; have hb2_2 := blk_cell BK2.out 2; have hb2_3 := blk_cell BK2.out 3)
    | ((with_reducible refine gate_dst (N := 3) rfl ?_); refine box_event ?hg (N := 3) ?hd (cs := #[.slice A l.length c, .int .i64 live, .int .i64 next, .int .u64 now]) (t := 28) ?hr ?_; (case hd => rfl); (case hg => rfl); (case hr => first | (go_simp; done) | (go_simp; rfl)); intro g3 hg3 wb3 hbox hb; have HB3 := Aside0.mk (below_step HB2.out hb); have BK3 := Aside0.mk hbox; have HG3 := Aside0.mk (show w.heap.size ≤ g3 by rw [hg3]; exact below_size HB2.out); have BP3 := Aside0.mk (blk_below BK2.out hb); clear hg3 hb hbox; have hb3_0 := blk_cell BK3.out 0; have hb3_1 := blk_cell BK3.out 1; have hb3_2 := blk_cell BK3.out 2; have hb3_3 := blk_cell BK3.out 3; have hp0 := blk_cell BP3.out 0; have hp1 := blk_cell BP3.out 1; have hp2 := blk_cell BP3.out 2; have hp3 := blk_cell BP3.out 3)
    | (go_at_call 19; go_loud (refine (HP.out _ HB3.out).mono ?_; rintro ex w4 ⟨rfl, q1, q2⟩; have HB4 := Aside0.mk q1; have BT4 := Aside0.mk (blk_below BK3.out q2); have BP4 := Aside0.mk (blk_below BP3.out q2); have ht0 := blk_cell BT4.out 0; have ht1 := blk_cell BT4.out 1; have ht2 := blk_cell BT4.out 2; have ht3 := blk_cell BT4.out 3; clear q1 q2 hb2_0 hb2_1 hb2_2 hb2_3 hb3_0 hb3_1 hb3_2 hb3_3 hp0 hp1 hp2 hp3))
    | (go_at_call 20; go_loud (refine (HR.out _ HB4.out).mono ?_; rintro ex w5 ⟨rfl, q1, q2⟩; have HB5 := Aside0.mk q1; have BT5 := Aside0.mk (blk_below BT4.out q2); have BP5 := Aside0.mk (blk_below BP4.out q2); clear q1 q2 ht0 ht1 ht2 ht3; have hv0 := blk_cell BT5.out 0))
    | ((with_reducible refine gate_dst (N := 19) rfl ?_); refine Kd.R_lit (Kd.int .i64) (w0 := w) w.heap.size 3 rfl (N := 19) rfl (xs := [1]) (inner := [.int .i64 1]) (ok := fun _ => True) (okp := fun _ => True) ?hr (ints_reps _ _ _ [1]) (fun _ _ => trivial) trivial HB5.out (below_size HB5.out) (by decide) ?_; (case hr => first | (go_simp; done) | (go_simp; rfl)); intro v19 w19 ho hb hg hat; have HK19 := Aside0.mk ho; have HB19 := Aside0.mk hb; have BT19 := Aside0.mk (blk_grown BT5.out hg (by simp)); have BP19 := Aside0.mk (blk_grown BP5.out hg (by simp)); clear ho hb hg hat hv0; have hv0 := blk_cell BT19.out 0))
   go_loopg [5, 6, 24] L1.length (fun gg s5 s6 s24 wr => ∃ i : Nat, s24 = .int .i64 i ∧ i ≤ L1.length ∧ L1.length - i ≤ gg ∧ Aside0 (Below w.heap.size w wr) ∧ Aside0 (wr.heap[g3]? = some (.cells #[.slice A l.length c, .int .i64 live, .int .i64 next, .int .u64 now] 28 (0, 0))) ∧ Aside0 (wr.heap[g2]? = some (.cells #[.int .i64 a, .int .i64 b, .int .i64 d, .int .i64 e] 23 (0, 0))) ∧ Aside0 (Kd.R (Kd.int .i64) 3 wr w.heap.size (fun _ => True) s5 (1 :: pinsV live ((L1.take i).filter fun x => !x.f4))) ∧ Aside0 (Kd.R k31 31 wr w.heap.size (fun _ => True) s6 (((L1.take i).filter fun x => !x.f4))))
   case atStart => exact ⟨0, rfl, Nat.zero_le _, by omega, HB19, BT19, BP19, HK19, ⟨Kd.R_nil _ _ _ _ _⟩⟩
   case round =>
    obtain ⟨i, rfl, hi, hg, HBr, HTr, HPr, HK, HLr⟩ := hrel
    by_cases hlt : i < L1.length
    ·have hltz : decide ((i : Int) < (L1.length : Int)) = true := decide_eq_true (by omega)
     have hi0 : (0 : Int) ≤ (i : Int) := by omega
     have hi1 : (i : Int) < (L1.length : Int) := by omega
     obtain ⟨ad, e', hx0, hx1, hx2, hx3, hx4, hx5⟩ := at_T31 HC1.out (i : Int) hi0 hi1
     cases e'
     replace hx0 := (HBr.out.cell (World.block_lt_of_cell? w _ hx0)).trans hx0
     replace hx1 := (HBr.out.cell (World.block_lt_of_cell? w _ hx1)).trans hx1
     replace hx2 := (HBr.out.cell (World.block_lt_of_cell? w _ hx2)).trans hx2
     replace hx3 := (HBr.out.cell (World.block_lt_of_cell? w _ hx3)).trans hx3
     replace hx4 := (HBr.out.cell (World.block_lt_of_cell? w _ hx4)).trans hx4
     replace hx5 := (HBr.out.cell (World.block_lt_of_cell? w _ hx5)).trans hx5
     simp only [Int.toNat_natCast] at hx0 hx1 hx2 hx3 hx4 hx5
     have HTK := Aside0.mk (List.take_succ_eq_append_getElem hlt)
     rw [rdT_at hlt] at hx0 hx1 hx2 hx3 hx4 hx5
     generalize L1[i] = x at hx0 hx1 hx2 hx3 hx4 hx5 HTK
     have HLN := Aside0.mk (show ((L1.take i).filter fun x => !x.f4).length ≤ 60 from by have := List.length_filter_le (fun x : Lk => !x.f4) (L1.take i); rw [List.length_take] at this; omega)
     have HPN := Aside0.mk (Nat.le_trans (pins_len live ((L1.take i).filter fun x => !x.f4)) HLN.out)
     cases hgh : x.f4 with
     | true =>
      have HNX := Aside0.mk (show ((L1.take (i + 1)).filter fun x => !x.f4) = ((L1.take i).filter fun x => !x.f4) by rw [HTK.out, List.filter_append, List.filter_cons_of_neg (by rw [hgh]; decide)]; simp)
      go_wp2_with (first
       | ((with_reducible refine gate_dst (N := 8) rfl ?_); refine box_event ?hg (N := 8) ?hd (cs := #[.int .i64 0, .int .i64 0, .string (⟨#[]⟩ : ByteArray), .int .u64 0, .bool false, .bool false]) (t := 31) ?hr ?_; (case hd => rfl); (case hg => rfl); (case hr => first | (go_simp; done) | (go_simp; rfl)); intro g8 hg8 wa8 hbox hb; have HX8 := Aside0.mk hb; have BZ8 := Aside0.mk hbox; have HG8 := Aside0.mk (Nat.le_of_eq hg8.symm); clear hg8 hb hbox; have hc8_0 := blk_cell BZ8.out 0; have hf8_0 := blk_frozen BZ8.out 0; have hc8_1 := blk_cell BZ8.out 1; have hf8_1 := blk_frozen BZ8.out 1; have hc8_2 := blk_cell BZ8.out 2; have hf8_2 := blk_frozen BZ8.out 2; have hc8_3 := blk_cell BZ8.out 3; have hf8_3 := blk_frozen BZ8.out 3; have hc8_4 := blk_cell BZ8.out 4; have hf8_4 := blk_frozen BZ8.out 4; have hc8_5 := blk_cell BZ8.out 5; have hf8_5 := blk_frozen BZ8.out 5)
       | ((with_reducible refine gate_store (t := 31) (p := 8) rfl ?_); refine store_event (t := 31) (p := 8) (v := .tmp 27) (w1 := ((((((wa8.setCell ⟨g8, 0, none⟩ (.int .i64 x.f0)).setCell ⟨g8, 1, none⟩ (.int .i64 x.f1)).setCell ⟨g8, 2, none⟩ (.string x.f2)).setCell ⟨g8, 3, none⟩ (.int .u64 x.f3)).setCell ⟨g8, 4, none⟩ (.bool x.f4)).setCell ⟨g8, 5, none⟩ (.bool x.f5))) rfl rfl rfl ?hr ?_; (case hr => first | (go_simp; done) | (go_simp; rfl)); intro w8 hw8; have q1 := link_put (.int .i64 x.f0) (.int .i64 x.f1) (.string x.f2) (.int .u64 x.f3) (.bool x.f4) (.bool x.f5) BZ8.out; have q2 := link_below (.int .i64 x.f0) (.int .i64 x.f1) (.string x.f2) (.int .u64 x.f3) (.bool x.f4) (.bool x.f5) HX8.out HG8.out; rw [← hw8] at q1 q2; clear hw8; have BK8 := Aside0.mk q1; have HY8 := Aside0.mk q2; have HB8 := Aside0.mk (below_step HBr.out q2); have HT8 := Aside0.mk (blk_below HTr.out q2); have HP8 := Aside0.mk (blk_below HPr.out q2); clear hc8_0 hf8_0 hc8_1 hf8_1 hc8_2 hf8_2 hc8_3 hf8_3 hc8_4 hf8_4 hc8_5 hf8_5 q1 q2; have hd8_0 := blk_cell BK8.out 0; have hd8_1 := blk_cell BK8.out 1; have hd8_2 := blk_cell BK8.out 2; have hd8_3 := blk_cell BK8.out 3; have hd8_4 := blk_cell BK8.out 4; have hd8_5 := blk_cell BK8.out 5; have HK8 := Aside0.mk (Kd.R_below HK.out HY8.out); have HL8 := Aside0.mk (Kd.R_below HLr.out HY8.out)))
      go_roundg (L1.length - (i + 1))
      case measure => omega
      case rel => exact ⟨i + 1, by go_num, by omega, by omega, HB8, HT8, HP8, ⟨by rw [HNX.out]; exact HK8.out⟩, ⟨by rw [HNX.out]; exact HL8.out⟩⟩
     | false =>
      have HNX := Aside0.mk (show ((L1.take (i + 1)).filter fun x => !x.f4) = ((L1.take i).filter fun x => !x.f4) ++ [x] by rw [HTK.out, List.filter_append, List.filter_cons_of_pos (by rw [hgh]; decide)]; simp)
      cases hpn : x.f5 with
      | true =>
       have HPS := Aside0.mk (show 1 :: pinsV live (((L1.take i).filter fun x => !x.f4) ++ [x]) = (1 :: pinsV live ((L1.take i).filter fun x => !x.f4)) ++ [x.f0] by rw [pins_snoc, if_pos (by rw [hpn]; rfl)]; rfl)
       go_wp2_with (first
        | ((with_reducible refine gate_dst (N := 8) rfl ?_); refine box_event ?hg (N := 8) ?hd (cs := #[.int .i64 0, .int .i64 0, .string (⟨#[]⟩ : ByteArray), .int .u64 0, .bool false, .bool false]) (t := 31) ?hr ?_; (case hd => rfl); (case hg => rfl); (case hr => first | (go_simp; done) | (go_simp; rfl)); intro g8 hg8 wa8 hbox hb; have HX8 := Aside0.mk hb; have BZ8 := Aside0.mk hbox; have HG8 := Aside0.mk (Nat.le_of_eq hg8.symm); clear hg8 hb hbox; have hc8_0 := blk_cell BZ8.out 0; have hf8_0 := blk_frozen BZ8.out 0; have hc8_1 := blk_cell BZ8.out 1; have hf8_1 := blk_frozen BZ8.out 1; have hc8_2 := blk_cell BZ8.out 2; have hf8_2 := blk_frozen BZ8.out 2; have hc8_3 := blk_cell BZ8.out 3; have hf8_3 := blk_frozen BZ8.out 3; have hc8_4 := blk_cell BZ8.out 4; have hf8_4 := blk_frozen BZ8.out 4; have hc8_5 := blk_cell BZ8.out 5; have hf8_5 := blk_frozen BZ8.out 5)
        | ((with_reducible refine gate_store (t := 31) (p := 8) rfl ?_); refine store_event (t := 31) (p := 8) (v := .tmp 27) (w1 := ((((((wa8.setCell ⟨g8, 0, none⟩ (.int .i64 x.f0)).setCell ⟨g8, 1, none⟩ (.int .i64 x.f1)).setCell ⟨g8, 2, none⟩ (.string x.f2)).setCell ⟨g8, 3, none⟩ (.int .u64 x.f3)).setCell ⟨g8, 4, none⟩ (.bool x.f4)).setCell ⟨g8, 5, none⟩ (.bool x.f5))) rfl rfl rfl ?hr ?_; (case hr => first | (go_simp; done) | (go_simp; rfl)); intro w8 hw8; have q1 := link_put (.int .i64 x.f0) (.int .i64 x.f1) (.string x.f2) (.int .u64 x.f3) (.bool x.f4) (.bool x.f5) BZ8.out; have q2 := link_below (.int .i64 x.f0) (.int .i64 x.f1) (.string x.f2) (.int .u64 x.f3) (.bool x.f4) (.bool x.f5) HX8.out HG8.out; rw [← hw8] at q1 q2; clear hw8; have BK8 := Aside0.mk q1; have HY8 := Aside0.mk q2; have HB8 := Aside0.mk (below_step HBr.out q2); have HT8 := Aside0.mk (blk_below HTr.out q2); have HP8 := Aside0.mk (blk_below HPr.out q2); clear hc8_0 hf8_0 hc8_1 hf8_1 hc8_2 hf8_2 hc8_3 hf8_3 hc8_4 hf8_4 hc8_5 hf8_5 q1 q2; have hd8_0 := blk_cell BK8.out 0; have hd8_1 := blk_cell BK8.out 1; have hd8_2 := blk_cell BK8.out 2; have hd8_3 := blk_cell BK8.out 3; have hd8_4 := blk_cell BK8.out 4; have hd8_5 := blk_cell BK8.out 5; have HK8 := Aside0.mk (Kd.R_below HK.out HY8.out); have HL8 := Aside0.mk (Kd.R_below HLr.out HY8.out); have HN8 := Aside0.mk (show some g8 ≠ u6.ownBlock from fun he => by have := Kd.R_lt HLr.out g8 he.symm; have := HG8.out; omega))
        | ((with_reducible refine gate_builtin (b := .append) (xs := #[.tmp 30, .tmp 32]) rfl ?_); at_builtin; refine Kd.R_append k31 (w0 := w) w.heap.size rfl (.tmp 30) (.tmp 32) 25 31 (.agg #[(.int .i64 0), (.int .i64 0), (.string ⟨#[]⟩), (.int .u64 0), (.bool false), (.bool false)]) 48 rfl Tryz.underlying25 info31 rfl (by decide) (by omega) u6 ((L1.take i).filter fun x => !x.f4) x [.int .i64 x.f0, .int .i64 x.f1, .string x.f2, .int .u64 x.f3, .bool false, .bool true] (fun _ => True) (fun _ => False) rfl ?aX ?aP (fun _ hk => hk.elim) (fun _ _ => trivial) HL8.out HB8.out (below_size HB8.out) (Nat.le_trans (Nat.mul_le_mul_right 48 (Nat.succ_le_succ HLN.out)) (by decide)) ?_; (case aX => first | rfl | (go_simp; done)); (case aP => (have q := k31_mkM w8 w.heap.size (fun _ => False) x; rw [hgh, hpn] at q; exact q)); intro v33 w33 ho hb hg hat; have HL33 := Aside0.mk ho; have HB33 := Aside0.mk hb; have HK33 := Aside0.mk (ints_stay (w := w) HK8.out HL8.out hg); have HT33 := Aside0.mk (blk_grown HT8.out hg (Kd.R_ne HL8.out HT8.out (by decide))); have HP33 := Aside0.mk (blk_grown HP8.out hg (Kd.R_ne HL8.out HP8.out (by decide))); have BX33 := Aside0.mk (blk_grown BK8.out hg HN8.out); clear ho hb hg hat hd8_0 hd8_1 hd8_2 hd8_3 hd8_4 hd8_5; have hq0 := blk_cell BX33.out 0; have hq5 := blk_cell BX33.out 5; have hq1 := blk_cell HT33.out 1)
        | ((with_reducible refine gate_builtin (b := .append) (xs := #[.tmp 43, .tmp 46]) rfl ?_); at_builtin; refine Kd.R_append (Kd.int .i64) (w0 := w) w.heap.size rfl (.tmp 43) (.tmp 46) 34 3 (.int .i64 0) 8 rfl Tryz.underlying34 info3 rfl (by decide) (by omega) u5 (1 :: pinsV live ((L1.take i).filter fun x => !x.f4)) x.f0 [.int .i64 x.f0] (fun _ => True) (fun _ => False) rfl ?aX rfl (fun _ hk => hk.elim) (fun _ _ => trivial) HK33.out HB33.out (below_size HB33.out) (Nat.le_trans (Nat.mul_le_mul_right 8 (Nat.succ_le_succ (Nat.succ_le_succ HPN.out))) (by decide)) ?_; (case aX => first | rfl | (go_simp; done)); intro v47 w47 ho hb hg hat; have HK47 := Aside0.mk ho; have HB47 := Aside0.mk hb; have HL47 := Aside0.mk (links_stay (w := w) HL33.out HK33.out hg); have HT47 := Aside0.mk (blk_grown HT33.out hg (Kd.R_ne HK33.out HT33.out (by decide))); have HP47 := Aside0.mk (blk_grown HP33.out hg (Kd.R_ne HK33.out HP33.out (by decide))); clear ho hb hg hat))
       go_roundg (L1.length - (i + 1))
       case measure => omega
       case rel => exact ⟨i + 1, by go_num, by omega, by omega, HB47, HT47, HP47, ⟨by rw [HNX.out, HPS.out]; exact HK47.out⟩, ⟨by rw [HNX.out]; exact HL47.out⟩⟩
      | false =>
       cases hlv : (x.f0 == live) with
       | true =>
        have HPS := Aside0.mk (show 1 :: pinsV live (((L1.take i).filter fun x => !x.f4) ++ [x]) = (1 :: pinsV live ((L1.take i).filter fun x => !x.f4)) ++ [x.f0] by rw [pins_snoc, if_pos (by rw [hpn, hlv]; rfl)]; rfl)
        go_wp2_with (first
         | ((with_reducible refine gate_dst (N := 8) rfl ?_); refine box_event ?hg (N := 8) ?hd (cs := #[.int .i64 0, .int .i64 0, .string (⟨#[]⟩ : ByteArray), .int .u64 0, .bool false, .bool false]) (t := 31) ?hr ?_; (case hd => rfl); (case hg => rfl); (case hr => first | (go_simp; done) | (go_simp; rfl)); intro g8 hg8 wa8 hbox hb; have HX8 := Aside0.mk hb; have BZ8 := Aside0.mk hbox; have HG8 := Aside0.mk (Nat.le_of_eq hg8.symm); clear hg8 hb hbox; have hc8_0 := blk_cell BZ8.out 0; have hf8_0 := blk_frozen BZ8.out 0; have hc8_1 := blk_cell BZ8.out 1; have hf8_1 := blk_frozen BZ8.out 1; have hc8_2 := blk_cell BZ8.out 2; have hf8_2 := blk_frozen BZ8.out 2; have hc8_3 := blk_cell BZ8.out 3; have hf8_3 := blk_frozen BZ8.out 3; have hc8_4 := blk_cell BZ8.out 4; have hf8_4 := blk_frozen BZ8.out 4; have hc8_5 := blk_cell BZ8.out 5; have hf8_5 := blk_frozen BZ8.out 5)
         | ((with_reducible refine gate_store (t := 31) (p := 8) rfl ?_); refine store_event (t := 31) (p := 8) (v := .tmp 27) (w1 := ((((((wa8.setCell ⟨g8, 0, none⟩ (.int .i64 x.f0)).setCell ⟨g8, 1, none⟩ (.int .i64 x.f1)).setCell ⟨g8, 2, none⟩ (.string x.f2)).setCell ⟨g8, 3, none⟩ (.int .u64 x.f3)).setCell ⟨g8, 4, none⟩ (.bool x.f4)).setCell ⟨g8, 5, none⟩ (.bool x.f5))) rfl rfl rfl ?hr ?_; (case hr => first | (go_simp; done) | (go_simp; rfl)); intro w8 hw8; have q1 := link_put (.int .i64 x.f0) (.int .i64 x.f1) (.string x.f2) (.int .u64 x.f3) (.bool x.f4) (.bool x.f5) BZ8.out; have q2 := link_below (.int .i64 x.f0) (.int .i64 x.f1) (.string x.f2) (.int .u64 x.f3) (.bool x.f4) (.bool x.f5) HX8.out HG8.out; rw [← hw8] at q1 q2; clear hw8; have BK8 := Aside0.mk q1; have HY8 := Aside0.mk q2; have HB8 := Aside0.mk (below_step HBr.out q2); have HT8 := Aside0.mk (blk_below HTr.out q2); have HP8 := Aside0.mk (blk_below HPr.out q2); clear hc8_0 hf8_0 hc8_1 hf8_1 hc8_2 hf8_2 hc8_3 hf8_3 hc8_4 hf8_4 hc8_5 hf8_5 q1 q2; have hd8_0 := blk_cell BK8.out 0; have hd8_1 := blk_cell BK8.out 1; have hd8_2 := blk_cell BK8.out 2; have hd8_3 := blk_cell BK8.out 3; have hd8_4 := blk_cell BK8.out 4; have hd8_5 := blk_cell BK8.out 5; have HK8 := Aside0.mk (Kd.R_below HK.out HY8.out); have HL8 := Aside0.mk (Kd.R_below HLr.out HY8.out); have HN8 := Aside0.mk (show some g8 ≠ u6.ownBlock from fun he => by have := Kd.R_lt HLr.out g8 he.symm; have := HG8.out; omega))
         | ((with_reducible refine gate_builtin (b := .append) (xs := #[.tmp 30, .tmp 32]) rfl ?_); at_builtin; refine Kd.R_append k31 (w0 := w) w.heap.size rfl (.tmp 30) (.tmp 32) 25 31 (.agg #[(.int .i64 0), (.int .i64 0), (.string ⟨#[]⟩), (.int .u64 0), (.bool false), (.bool false)]) 48 rfl Tryz.underlying25 info31 rfl (by decide) (by omega) u6 ((L1.take i).filter fun x => !x.f4) x [.int .i64 x.f0, .int .i64 x.f1, .string x.f2, .int .u64 x.f3, .bool false, .bool false] (fun _ => True) (fun _ => False) rfl ?aX ?aP (fun _ hk => hk.elim) (fun _ _ => trivial) HL8.out HB8.out (below_size HB8.out) (Nat.le_trans (Nat.mul_le_mul_right 48 (Nat.succ_le_succ HLN.out)) (by decide)) ?_; (case aX => first | rfl | (go_simp; done)); (case aP => (have q := k31_mkM w8 w.heap.size (fun _ => False) x; rw [hgh, hpn] at q; exact q)); intro v33 w33 ho hb hg hat; have HL33 := Aside0.mk ho; have HB33 := Aside0.mk hb; have HK33 := Aside0.mk (ints_stay (w := w) HK8.out HL8.out hg); have HT33 := Aside0.mk (blk_grown HT8.out hg (Kd.R_ne HL8.out HT8.out (by decide))); have HP33 := Aside0.mk (blk_grown HP8.out hg (Kd.R_ne HL8.out HP8.out (by decide))); have BX33 := Aside0.mk (blk_grown BK8.out hg HN8.out); clear ho hb hg hat hd8_0 hd8_1 hd8_2 hd8_3 hd8_4 hd8_5; have hq0 := blk_cell BX33.out 0; have hq5 := blk_cell BX33.out 5; have hq1 := blk_cell HT33.out 1)
         | ((with_reducible refine gate_builtin (b := .append) (xs := #[.tmp 43, .tmp 46]) rfl ?_); at_builtin; refine Kd.R_append (Kd.int .i64) (w0 := w) w.heap.size rfl (.tmp 43) (.tmp 46) 34 3 (.int .i64 0) 8 rfl Tryz.underlying34 info3 rfl (by decide) (by omega) u5 (1 :: pinsV live ((L1.take i).filter fun x => !x.f4)) x.f0 [.int .i64 x.f0] (fun _ => True) (fun _ => False) rfl ?aX rfl (fun _ hk => hk.elim) (fun _ _ => trivial) HK33.out HB33.out (below_size HB33.out) (Nat.le_trans (Nat.mul_le_mul_right 8 (Nat.succ_le_succ (Nat.succ_le_succ HPN.out))) (by decide)) ?_; (case aX => first | rfl | (go_simp; done)); intro v47 w47 ho hb hg hat; have HK47 := Aside0.mk ho; have HB47 := Aside0.mk hb; have HL47 := Aside0.mk (links_stay (w := w) HL33.out HK33.out hg); have HT47 := Aside0.mk (blk_grown HT33.out hg (Kd.R_ne HK33.out HT33.out (by decide))); have HP47 := Aside0.mk (blk_grown HP33.out hg (Kd.R_ne HK33.out HP33.out (by decide))); clear ho hb hg hat))
        go_roundg (L1.length - (i + 1))
        case measure => omega
        case rel => exact ⟨i + 1, by go_num, by omega, by omega, HB47, HT47, HP47, ⟨by rw [HNX.out, HPS.out]; exact HK47.out⟩, ⟨by rw [HNX.out]; exact HL47.out⟩⟩
       | false =>
        have HPS := Aside0.mk (show 1 :: pinsV live (((L1.take i).filter fun x => !x.f4) ++ [x]) = (1 :: pinsV live ((L1.take i).filter fun x => !x.f4)) by rw [pins_snoc, if_neg (by rw [hpn, hlv]; decide)]; simp)
        go_wp2_with (first
         | ((with_reducible refine gate_dst (N := 8) rfl ?_); refine box_event ?hg (N := 8) ?hd (cs := #[.int .i64 0, .int .i64 0, .string (⟨#[]⟩ : ByteArray), .int .u64 0, .bool false, .bool false]) (t := 31) ?hr ?_; (case hd => rfl); (case hg => rfl); (case hr => first | (go_simp; done) | (go_simp; rfl)); intro g8 hg8 wa8 hbox hb; have HX8 := Aside0.mk hb; have BZ8 := Aside0.mk hbox; have HG8 := Aside0.mk (Nat.le_of_eq hg8.symm); clear hg8 hb hbox; have hc8_0 := blk_cell BZ8.out 0; have hf8_0 := blk_frozen BZ8.out 0; have hc8_1 := blk_cell BZ8.out 1; have hf8_1 := blk_frozen BZ8.out 1; have hc8_2 := blk_cell BZ8.out 2; have hf8_2 := blk_frozen BZ8.out 2; have hc8_3 := blk_cell BZ8.out 3; have hf8_3 := blk_frozen BZ8.out 3; have hc8_4 := blk_cell BZ8.out 4; have hf8_4 := blk_frozen BZ8.out 4; have hc8_5 := blk_cell BZ8.out 5; have hf8_5 := blk_frozen BZ8.out 5)
         | ((with_reducible refine gate_store (t := 31) (p := 8) rfl ?_); refine store_event (t := 31) (p := 8) (v := .tmp 27) (w1 := ((((((wa8.setCell ⟨g8, 0, none⟩ (.int .i64 x.f0)).setCell ⟨g8, 1, none⟩ (.int .i64 x.f1)).setCell ⟨g8, 2, none⟩ (.string x.f2)).setCell ⟨g8, 3, none⟩ (.int .u64 x.f3)).setCell ⟨g8, 4, none⟩ (.bool x.f4)).setCell ⟨g8, 5, none⟩ (.bool x.f5))) rfl rfl rfl ?hr ?_; (case hr => first | (go_simp; done) | (go_simp; rfl)); intro w8 hw8; have q1 := link_put (.int .i64 x.f0) (.int .i64 x.f1) (.string x.f2) (.int .u64 x.f3) (.bool x.f4) (.bool x.f5) BZ8.out; have q2 := link_below (.int .i64 x.f0) (.int .i64 x.f1) (.string x.f2) (.int .u64 x.f3) (.bool x.f4) (.bool x.f5) HX8.out HG8.out; rw [← hw8] at q1 q2; clear hw8; have BK8 := Aside0.mk q1; have HY8 := Aside0.mk q2; have HB8 := Aside0.mk (below_step HBr.out q2); have HT8 := Aside0.mk (blk_below HTr.out q2); have HP8 := Aside0.mk (blk_below HPr.out q2); clear hc8_0 hf8_0 hc8_1 hf8_1 hc8_2 hf8_2 hc8_3 hf8_3 hc8_4 hf8_4 hc8_5 hf8_5 q1 q2; have hd8_0 := blk_cell BK8.out 0; have hd8_1 := blk_cell BK8.out 1; have hd8_2 := blk_cell BK8.out 2; have hd8_3 := blk_cell BK8.out 3; have hd8_4 := blk_cell BK8.out 4; have hd8_5 := blk_cell BK8.out 5; have HK8 := Aside0.mk (Kd.R_below HK.out HY8.out); have HL8 := Aside0.mk (Kd.R_below HLr.out HY8.out); have HN8 := Aside0.mk (show some g8 ≠ u6.ownBlock from fun he => by have := Kd.R_lt HLr.out g8 he.symm; have := HG8.out; omega))
         | ((with_reducible refine gate_builtin (b := .append) (xs := #[.tmp 30, .tmp 32]) rfl ?_); at_builtin; refine Kd.R_append k31 (w0 := w) w.heap.size rfl (.tmp 30) (.tmp 32) 25 31 (.agg #[(.int .i64 0), (.int .i64 0), (.string ⟨#[]⟩), (.int .u64 0), (.bool false), (.bool false)]) 48 rfl Tryz.underlying25 info31 rfl (by decide) (by omega) u6 ((L1.take i).filter fun x => !x.f4) x [.int .i64 x.f0, .int .i64 x.f1, .string x.f2, .int .u64 x.f3, .bool false, .bool false] (fun _ => True) (fun _ => False) rfl ?aX ?aP (fun _ hk => hk.elim) (fun _ _ => trivial) HL8.out HB8.out (below_size HB8.out) (Nat.le_trans (Nat.mul_le_mul_right 48 (Nat.succ_le_succ HLN.out)) (by decide)) ?_; (case aX => first | rfl | (go_simp; done)); (case aP => (have q := k31_mkM w8 w.heap.size (fun _ => False) x; rw [hgh, hpn] at q; exact q)); intro v33 w33 ho hb hg hat; have HL33 := Aside0.mk ho; have HB33 := Aside0.mk hb; have HK33 := Aside0.mk (ints_stay (w := w) HK8.out HL8.out hg); have HT33 := Aside0.mk (blk_grown HT8.out hg (Kd.R_ne HL8.out HT8.out (by decide))); have HP33 := Aside0.mk (blk_grown HP8.out hg (Kd.R_ne HL8.out HP8.out (by decide))); have BX33 := Aside0.mk (blk_grown BK8.out hg HN8.out); clear ho hb hg hat hd8_0 hd8_1 hd8_2 hd8_3 hd8_4 hd8_5; have hq0 := blk_cell BX33.out 0; have hq5 := blk_cell BX33.out 5; have hq1 := blk_cell HT33.out 1))
        go_roundg (L1.length - (i + 1))
        case measure => omega
        case rel => exact ⟨i + 1, by go_num, by omega, by omega, HB33, HT33, HP33, ⟨by rw [HNX.out, HPS.out]; exact HK33.out⟩, ⟨by rw [HNX.out]; exact HL33.out⟩⟩
    ·have hltz : decide ((i : Int) < (L1.length : Int)) = false := decide_eq_false (by omega)
     have hcs : ((L1.take i).filter fun x => !x.f4) = C := by rw [List.take_of_length_le (by omega), HCV.out]
     rw [hcs] at HK HLr
     clear hcs
     obtain ⟨A6, c6, h6⟩ := Kd.R_slice HLr.out
     subst h6
     have HSRT := Aside0.mk (sortLink.calls _ C wr w.heap.size HLr.out (by have := HCD.out.2; omega))
     go_upto_region 14 with (go_at_call 33; go_loud (refine HSRT.out.mono ?_; rintro ex w50 ⟨rfl, srt, q1, q2, q3, q4⟩; have HS50 := Aside0.mk q3; have HPW := Aside0.mk (And.intro q1 q2); have HK50 := Aside0.mk (ints_stay (w := w) HK.out HLr.out q4); have HP50 := Aside0.mk (blk_grown HPr.out q4 (Kd.R_ne HLr.out HPr.out (by decide))); have HB50 := Aside0.mk (below_row HBr.out HLr.out q4); clear q1 q2 q3 q4))
     have hv0 := blk_cell HP50.out 0
     have hv1 := blk_cell HP50.out 1
     have hv2 := blk_cell HP50.out 2
     have hv3 := blk_cell HP50.out 3
     have HCN := Aside0.mk (fun W => counts.calls a b d e W)
     have HLAT := Aside0.mk (show ∀ (W : World) (n : Nat), Below w.heap.size w W → Kd.R k31 31 W w.heap.size (fun _ => True) (.slice A6 C.length c6) srt → Calls Tryz.prog 39 #[.slice A6 C.length c6, .int .i64 (n : Int), .int .i64 (ofP a b d e (n : Int))] W fun ex w' => ∃ A7 c7, ex = .returned (.slice A7 (latV (n : Int) (ofP a b d e (n : Int)) srt).length c7) ∧ Kd.C (Kd.int .i64) w' A7 (latV (n : Int) (ofP a b d e (n : Int)) srt).length (latV (n : Int) (ofP a b d e (n : Int)) srt) ∧ Below w.heap.size w w' ∧ Below W.heap.size W w' from fun W n hW hR => by
      obtain ⟨e1, e2, e3⟩ := Kd.R_reads' hR
      have hsl : srt.length ≤ 1000 := by rw [← e1]; have := HCD.out.2; omega
      obtain ⟨k, hk⟩ := (latest_ev (n : Int) (ofP a b d e (n : Int)) srt hsl (fun x hx => HCD.out.1 x (HPW.out.1.mem_iff.1 hx))).get
      rw [e1]
      refine (policy_latest.calls k A6 c6 srt (n : Int) (ofP a b d e (n : Int)) _ W e3 (by rw [← e1]; exact e2) hk).mono ?_
      rintro ex w' ⟨v, rfl, q1, q2⟩
      obtain ⟨A7, c7, rfl, _, q3⟩ := Kd.R_reads q1
      exact ⟨A7, c7, rfl, q3, hW.trans (q2.mono (below_size hW)), q2⟩)
     have HSL := Aside0.mk (show srt.length ≤ 60 by rw [HPW.out.1.length_eq]; exact HCD.out.2)
     clear HSRT HLr HK HPr HTr HBr HC1 HR HP hcut
     go_wp2_with (go_at_call 38; go_loud (refine (HCN.out _).mono ?_; rintro ex w52 ⟨rfl, q2⟩; have HB52 := Aside0.mk (below_step HB50.out q2); have HK52 := Aside0.mk (Kd.R_below HK50.out q2); have HS52 := Aside0.mk (Kd.R_below HS50.out q2); clear q2 hv0 hv1 hv2 hv3))
     go_loopg [5, 53] 4 (fun gg s5 s53 wr => ∃ n : Nat, s53 = .int .i64 n ∧ n ≤ 4 ∧ 4 - n ≤ gg ∧ Aside0 (Below w.heap.size w wr) ∧ Aside0 (Kd.R (Kd.int .i64) 3 wr w.heap.size (fun _ => True) s5 ((1 :: pinsV live C) ++ tiersV a b d e srt n)) ∧ Aside0 (Kd.R k31 31 wr w.heap.size (fun _ => True) (.slice A6 C.length c6) srt))
     case atStart => exact ⟨0, rfl, by omega, by omega, HB52, ⟨by rw [show tiersV a b d e srt 0 = [] from rfl, List.append_nil]; exact HK52.out⟩, HS52⟩
     case round =>
      obtain ⟨n, rfl, hn, hgn, HBn, HKn, HLn⟩ := hrel
      by_cases hn4 : n < 4
      ·have hnz : decide ((n : Int) < 4) = true := decide_eq_true (by omega)
       have hidx : ∀ W : World, (Instr.index 74 (.agg #[.int .i64 a, .int .i64 b, .int .i64 d, .int .i64 e]) (.int .i64 (n : Int))).run Tryz.prog W = .ok (.int .i64 (ofP a b d e (n : Int))) W := by
        have h5 : n = 0 ∨ n = 1 ∨ n = 2 ∨ n = 3 := by omega
        rcases h5 with rfl | rfl | rfl | rfl <;> exact fun _ => by kernel_rfl
       have HTL := Aside0.mk (show ((1 :: pinsV live C) ++ tiersV a b d e srt n).length ≤ 400 by
        have h1 := tiers_len a b d e srt n
        have h2 := pins_len live C
        have h3 := HSL.out
        have h4 := HCD.out.2
        have h5 : n * srt.length ≤ 4 * 60 := Nat.mul_le_mul (by omega) h3
        rw [List.length_append, List.length_cons]
        omega)
       have HLL := Aside0.mk (Nat.le_trans (lat_len (n : Int) (ofP a b d e (n : Int)) srt) HSL.out)
       have HTS := Aside0.mk (show (1 :: pinsV live C) ++ tiersV a b d e srt (n + 1) = ((1 :: pinsV live C) ++ tiersV a b d e srt n) ++ latV (n : Int) (ofP a b d e (n : Int)) srt by rw [tiers_succ, List.append_assoc])
       have HLn1 := Aside0.mk (HLAT.out wr n HBn.out HLn.out)
       generalize ofP a b d e (n : Int) = mn at hidx HLL HTS HLn1
       generalize latV (n : Int) mn srt = V at HLL HTS HLn1
       go_wp2_with (first
        | (go_at_call 39; go_loud (refine HLn1.out.mono ?_; rintro ex w61 ⟨A7, c7, rfl, q1, q2, q3⟩; have HV61 := Aside0.mk q1; have HB61 := Aside0.mk q2; have HK61 := Aside0.mk (Kd.R_below HKn.out q3); have HL61 := Aside0.mk (Kd.R_below HLn.out q3); clear q1 q2 q3))
        | ((with_reducible refine gate_builtin (b := .append) (xs := #[.tmp 57, .tmp 61]) rfl ?_); refine Kd.R_append_row (w0 := w) (Value.int .i64) (0 : Int) w.heap.size rfl (.tmp 57) (.tmp 61) 34 3 (.int .i64 0) 8 rfl Tryz.underlying34 info3 rfl (by decide) u5 _ V A7 V.length c7 (fun _ => True) ?aS ?aX (fun _ _ => trivial) HK61.out HV61.out HB61.out (below_size HB61.out) (Nat.le_trans (Nat.mul_le_mul_right 8 (Nat.add_le_add HTL.out HLL.out)) (by decide)) ?_; (case aS => first | rfl | (go_simp; done)); (case aX => first | rfl | (go_simp; done)); intro v62 w62 ho hb hg hat; have HK62 := Aside0.mk ho; have HB62 := Aside0.mk hb; have HL62 := Aside0.mk (links_stay (w := w) HL61.out HK61.out hg); clear ho hb hg hat))
       go_roundg (4 - (n + 1))
       case measure => omega
       case rel => exact ⟨n + 1, by go_num, by omega, by omega, HB62, ⟨by rw [HTS.out]; exact HK62.out⟩, HL62⟩
      ·have hnz : decide ((n : Int) < 4) = false := decide_eq_false (by omega)
       obtain rfl : n = 4 := by omega
       have HTL := Aside0.mk (show ((1 :: pinsV live C) ++ tiersV a b d e srt 4).length ≤ 400 by
        have h1 := tiers_len a b d e srt 4
        have h2 := pins_len live C
        have h3 := HSL.out
        have h4 := HCD.out.2
        rw [List.length_append, List.length_cons]
        omega)
       have HEND := Aside0.mk (show Lib.compact (((1 :: pinsV live C) ++ tiersV a b d e srt 4).mergeSort fun x y => decide (x ≤ y)) = K by rw [HKF.out srt HPW.out.1 HPW.out.2, HK.out])
       have HLP := Aside0.mk (show 0 < ((1 :: pinsV live C) ++ tiersV a b d e srt 4).length by rw [List.length_append, List.length_cons]; omega)
       generalize (1 :: pinsV live C) ++ tiersV a b d e srt 4 = Z at HKn HTL HEND HLP
       have HSI := Aside0.mk (sortI.calls u5 Z wr w.heap.size HKn.out HLP.out (by have := HTL.out; omega))
       have HML := Aside0.mk (show (Z.mergeSort fun x y => decide (x ≤ y)).length = Z.length from List.length_mergeSort ..)
       go_wp2_with (first
        | (go_at_call 40; go_loud (refine HSI.out.mono ?_; rintro ex w65 ⟨rfl, q1, q2⟩; have HK65 := Aside0.mk q1; have HB65 := Aside0.mk (below_row HBn.out HKn.out q2); clear q1 q2))
        | (go_at_call 41; go_loud (refine (compactI.calls u5 _ w65 w.heap.size HK65.out (by rw [HML.out]; exact HLP.out) (by rw [HML.out]; have := HTL.out; omega) (Lib.compact_length_le _)).mono ?_; rintro ex w67 ⟨v67, rfl, q1, q2, q3⟩; have HK67 := Aside0.mk q1; have HB67 := Aside0.mk (below_row HB65.out HK65.out q3); clear q1 q2 q3)))
       go_ret
       exact ⟨_, rfl, fun h => absurd h HKN.out, by rw [← HEND.out]; exact HK67.out, HB67.out⟩
end Go.Proofs.YtfdlbnfjohpdlaaGreatDoor.PPo
namespace Go.Proofs.YtfdlbnfjohpdlaaGreatDoor.Th
open Go.RowKit Go.Proofs.YtfdlbnfjohpdlaaGreatDoor.PPo Go.Proofs.YtfdlbnfjohpdlaaGreatDoorW.PrintWords
set_option linter.unusedVariables false
theorem contains_ev (l : List Int) (a : Int) (hl : l.length ≤ 1000) : Evt (fun k => slices_Contains_int_int.f k l a) (l.contains a) := by
 have key : ∀ (r d : List Int), l = d ++ r → ∃ q : Int, Evt (fun k => slices_Index_int_int.l0 k l a (l.length : Int) (d.length : Int)) q ∧ decide (q ≥ 0) = r.contains a := by
  intro r
  induction r with
  | nil =>
   intro d hd
   rw [List.append_nil] at hd
   subst hd
   refine ⟨-1, Evt.step (fun k => by rw [slices_Index_int_int.l0]) ?_, rfl⟩
   exact Evt.neg (by omega) (Evt.val _)
  | cons y r ih =>
   intro d hd
   have hlen : l.length = d.length + (r.length + 1) := by rw [hd]; simp
   have hr1 : rd l (d.length : Int) = y := by simp [rd, hd]
   by_cases hy : a = y
   ·refine ⟨(d.length : Int), Evt.step (fun k => by rw [slices_Index_int_int.l0]) ?_, ?_⟩
    ·refine Evt.pos (by omega) (Evt.pos (by omega) (Evt.pos (by omega) ?_))
     rw [hr1]
     exact Evt.pos hy (Evt.val _)
    ·rw [decide_eq_true (by omega), List.contains_cons, beq_iff_eq.2 hy, Bool.true_or]
   ·obtain ⟨q, h1, h2⟩ := ih (d ++ [y]) (by rw [hd]; simp)
    refine ⟨q, Evt.step (fun k => by rw [slices_Index_int_int.l0]) ?_, ?_⟩
    ·refine Evt.pos (by omega) (Evt.pos (by omega) (Evt.pos (by omega) ?_))
     rw [hr1]
     refine Evt.neg hy ?_
     rw [idxP _ (by omega)]
     rw [List.length_append] at h1
     exact h1
    ·rw [h2, List.contains_cons, beq_eq_false_iff_ne.2 hy, Bool.false_or]
 obtain ⟨q, h1, h2⟩ := key l [] rfl
 unfold slices_Contains_int_int.f slices_Index_int_int.f
 exact Evt.bind h1 (Evt.val' (by rw [← h2]))
end Go.Proofs.YtfdlbnfjohpdlaaGreatDoor.Th
namespace Go.Proofs.YtfdlbnfjohpdlaaGreatDoor.Th
open Go.RowKit Go.Proofs.YtfdlbnfjohpdlaaGreatDoor.PPo Go.Proofs.YtfdlbnfjohpdlaaGreatDoorW.PrintWords
theorem drops_nil {a b d e : Int} {l : List Lk} {live next : Int} (h : keepV a b d e l live next = []) : dropsV a b d e l live next = [] := by
 unfold keepV at h
 unfold dropsV
 split at h
 ·cases h
 ·rename_i hn
  rw [if_neg hn]
theorem drops_of {a b d e : Int} {l : List Lk} {live next : Int} (h : keepV a b d e l live next ≠ []) : (l.filter fun x => !x.f4 && !(keepV a b d e l live next).contains x.f0).map (·.f0) = dropsV a b d e l live next ∧ l.length ≤ 60 ∧ (keepV a b d e l live next).length ≤ 61 := by
 unfold keepV at h ⊢
 unfold dropsV
 split at h
 ·rename_i hn
  rw [if_pos hn, if_pos hn]
  obtain ⟨root, rest, hl, hr, hc, hup, h1⟩ := right_cand hn.2
  obtain ⟨_, h60, _⟩ := rightT_iff.1 hn.2
  refine ⟨?_, h60, ?_⟩
  ·have := drops_eq hc hr hup h1 (keptB a b d e live (candV l))
   rw [← hl] at this
   exact this
  ·have h2 := List.length_filter_le (keptB a b d e live (candV l)) (candV l)
   have h3 : (candV l).length ≤ l.length := by
    have h4 := List.length_filter_le (fun x : Lk => !x.f4) (l.drop 1)
    have h5 : (l.drop 1).length = l.length - 1 := List.length_drop
    unfold candV
    omega
   rw [List.length_cons, List.length_map]
   omega
 ·exact absurd rfl h
end Go.Proofs.YtfdlbnfjohpdlaaGreatDoor.Th
namespace Go.Proofs.YtfdlbnfjohpdlaaGreatDoor.PPo
open Go.RowKit Go.Proofs.YtfdlbnfjohpdlaaGreatDoor.Th Go.Proofs.YtfdlbnfjohpdlaaGreatDoorW.PrintWords Go.Proofs.YtfdlbnfjohpdlaaGreatDoorW.PrintLast Go.Proofs.YtfdlbnfjohpdlaaGreatDoorW.PrintMore
attribute [local go_sem] max2_int min2_int max_two min_two max_three min_three max_four min_four
set_option linter.unusedVariables false
set_option linter.unusedSimpArgs false
set_option maxHeartbeats 8000000 in
set_option maxRecDepth 100000 in
theorem dropsR.calls (a b d e : Int) (A : Option Addr) (c : Nat) (l : List Lk) (live next now : Int) (w : World) (hr : Kd.C k31 w A l.length l) (hc : l.length ≤ c) (hs : ∀ x ∈ l, x.f2.size ≤ 9223372036854775807) (htm : ∀ x ∈ l, Tm x) (ht : TabsW w) :
  Calls Tryz.prog 17 #[.agg #[.int .i64 a, .int .i64 b, .int .i64 d, .int .i64 e], .agg #[.slice A l.length c, .int .i64 live, .int .i64 next, .int .u64 now]] w fun ex w' => ∃ v, ex = .returned v ∧ Kd.R (Kd.int .i64) 3 w' w.heap.size (fun _ => True) v (dropsV a b d e l live next) ∧ Below w.heap.size w w' := by
 have hu := Tryz.underlying28
 have hu3 := Tryz.underlying31
 have hup := Tryz.underlying23
 have hn0 : ∀ W : World, (binOp .eql 34 (.slice none 0 0) (.slice none 0 0)).run Tryz.prog W = .ok (.bool true) W := fun _ => by kernel_rfl
 have hn1 : ∀ (W : World) (g n c : Nat), (binOp .eql 34 (.slice (some ⟨g, 0, none⟩) n c) (.slice none 0 0)).run Tryz.prog W = .ok (.bool false) W := fun _ _ _ _ => by kernel_rfl
 have HB := Aside0.mk (Below.refl w.heap.size w)
 have HKC := Aside0.mk (show ∀ (W : World), Below w.heap.size w W → Calls Tryz.prog 13 #[.agg #[.int .i64 a, .int .i64 b, .int .i64 d, .int .i64 e], .agg #[.slice A l.length c, .int .i64 live, .int .i64 next, .int .u64 now]] W fun ex w' => ∃ v, ex = .returned v ∧ (keepV a b d e l live next = [] → v = .slice none 0 0) ∧ (keepV a b d e l live next ≠ [] → ∃ g c', v = .slice (some ⟨g, 0, none⟩) (keepV a b d e l live next).length c' ∧ (keepV a b d e l live next).length ≤ c' ∧ Kd.C (Kd.int .i64) w' (some ⟨g, 0, none⟩) (keepV a b d e l live next).length (keepV a b d e l live next)) ∧ Below w.heap.size w w' ∧ Below W.heap.size W w' from fun W hW =>
  (keepR.calls a b d e A c l live next now W (Kd.C_below hr hW) hc hs htm (ht.below hW)).mono fun ex w' q => by
   obtain ⟨v, q1, q2, q3, q4⟩ := q
   refine ⟨v, q1, q2, fun hne => ?_, hW.trans (q4.mono (below_size hW)), q4⟩
   obtain ⟨g, c', rfl, _⟩ := Kd.R_form q3 (List.length_pos_iff.2 hne)
   obtain ⟨_, h2, h3⟩ := Kd.R_reads' q3
   exact ⟨g, c', rfl, h2, h3⟩)
 obtain ⟨D, hD⟩ : ∃ D, D = dropsV a b d e l live next := ⟨_, rfl⟩
 rw [← hD]
 by_cases hk : keepV a b d e l live next = []
 ·have HN := Aside0.mk (show D = [] by rw [hD, drops_nil hk])
  have HKC1 := Aside0.mk (fun W hW => (HKC.out W hW).mono fun ex w' q => (show ex = .returned (.slice none 0 0) ∧ Below w.heap.size w w' from let ⟨v, q1, q2, _, q4, _⟩ := q; ⟨by rw [q1, q2 hk], q4⟩))
  clear hr hc hs htm ht hD hk HKC
  go_enter Tryz.func17, Tryz.ntmps17
  go_wp2_with (first
   | ((with_reducible refine gate_dst (N := 2) rfl ?_); refine box_event ?hg (N := 2) ?hd (cs := #[.int .i64 a, .int .i64 b, .int .i64 d, .int .i64 e]) (t := 23) ?hr ?_; (case hd => rfl); (case hg => rfl); (case hr => first | (go_simp; done) | (go_simp; rfl)); intro g2 hg2 wb2 hbox hb; have HB2 := Aside0.mk (below_step HB.out hb); have BK2 := Aside0.mk hbox; have HG2 := Aside0.mk (show w.heap.size ≤ g2 by rw [hg2]; exact below_size HB.out); clear hg2 hb hbox; have hb2_0 := blk_cell BK2.out 0; have hb2_1 := blk_cell BK2.out 1; have hb2_2 := blk_cell BK2.out 2; have hb2_3 := blk_cell BK2.out 3)
   | ((with_reducible refine gate_dst (N := 3) rfl ?_); refine box_event ?hg (N := 3) ?hd (cs := #[.slice A l.length c, .int .i64 live, .int .i64 next, .int .u64 now]) (t := 28) ?hr ?_; (case hd => rfl); (case hg => rfl); (case hr => first | (go_simp; done) | (go_simp; rfl)); intro g3 hg3 wb3 hbox hb; have HB3 := Aside0.mk (below_step HB2.out hb); have BK3 := Aside0.mk hbox; have HG3 := Aside0.mk (show w.heap.size ≤ g3 by rw [hg3]; exact below_size HB2.out); have BP3 := Aside0.mk (blk_below BK2.out hb); clear hg3 hb hbox; have hb3_0 := blk_cell BK3.out 0; have hb3_1 := blk_cell BK3.out 1; have hb3_2 := blk_cell BK3.out 2; have hb3_3 := blk_cell BK3.out 3; have hp0 := blk_cell BP3.out 0; have hp1 := blk_cell BP3.out 1; have hp2 := blk_cell BP3.out 2; have hp3 := blk_cell BP3.out 3)
   | (go_at_call 13; go_loud (refine (HKC1.out _ HB3.out).mono ?_; rintro ex w4 ⟨rfl, q1⟩; have HB4 := Aside0.mk q1; clear q1)))
  go_ret
  exact ⟨_, rfl, by rw [HN.out]; exact Kd.R_nil _ _ _ _ _, HB4.out⟩
 ·obtain ⟨hd1, h60, h61⟩ := drops_of hk
  have HKC1 := Aside0.mk (show ∀ (W : World), Below w.heap.size w W → Calls Tryz.prog 13 #[.agg #[.int .i64 a, .int .i64 b, .int .i64 d, .int .i64 e], .agg #[.slice A l.length c, .int .i64 live, .int .i64 next, .int .u64 now]] W fun ex w' => ∃ g c', ex = .returned (.slice (some ⟨g, 0, none⟩) (keepV a b d e l live next).length c') ∧ (keepV a b d e l live next).length ≤ c' ∧ Kd.C (Kd.int .i64) w' (some ⟨g, 0, none⟩) (keepV a b d e l live next).length (keepV a b d e l live next) ∧ Below w.heap.size w w' ∧ Below W.heap.size W w' from fun W hW => (HKC.out W hW).mono fun ex w' q => by
   obtain ⟨v, q1, q2, q3, q4⟩ := q
   obtain ⟨g, c', rfl, q5, q6⟩ := q3 hk
   exact ⟨g, c', q1, q5, q6, q4⟩)
  clear HKC
  generalize keepV a b d e l live next = K at HKC1 hd1 h61 hk
  have HDD := Aside0.mk (hD.trans hd1.symm)
  have HCK := Aside0.mk (show ∀ (W : World) (g c' : Nat) (id : Int), K.length ≤ c' → Kd.C (Kd.int .i64) W (some ⟨g, 0, none⟩) K.length K → Calls Tryz.prog 44 #[.slice (some ⟨g, 0, none⟩) K.length c', .int .i64 id] W fun ex w' => ex = .returned (.bool (K.contains id)) ∧ Drawn0 W w' from fun W g c' id h1 h2 => by
   obtain ⟨k, hk⟩ := (contains_ev K id (by omega)).get
   exact slices_Contains_int_int.calls k _ c' K id _ W h2 h1 hk)
  have HC := Aside0.mk (fun (W : World) (hW : Below w.heap.size w W) => Kd.C_below hr hW)
  have HLL := Aside0.mk h60
  clear hr hc hs htm ht hD hk hd1 h61 h60
  go_enter Tryz.func17, Tryz.ntmps17
  go_upto_region 5 with (first
   | ((with_reducible refine gate_dst (N := 2) rfl ?_); refine box_event ?hg (N := 2) ?hd (cs := #[.int .i64 a, .int .i64 b, .int .i64 d, .int .i64 e]) (t := 23) ?hr ?_; (case hd => rfl); (case hg => rfl); (case hr => first | (go_simp; done) | (go_simp; rfl)); intro g2 hg2 wb2 hbox hb; have HB2 := Aside0.mk (below_step HB.out hb); have BK2 := Aside0.mk hbox; have HG2 := Aside0.mk (show w.heap.size ≤ g2 by rw [hg2]; exact below_size HB.out); clear hg2 hb hbox; have hb2_0 := blk_cell BK2.out 0; have hb2_1 := blk_cell BK2.out 1; have hb2_2 := blk_cell BK2.out 2; have hb2_3 := blk_cell BK2.out 3)
   | ((with_reducible refine gate_dst (N := 3) rfl ?_); refine box_event ?hg (N := 3) ?hd (cs := #[.slice A l.length c, .int .i64 live, .int .i64 next, .int .u64 now]) (t := 28) ?hr ?_; (case hd => rfl); (case hg => rfl); (case hr => first | (go_simp; done) | (go_simp; rfl)); intro g3 hg3 wb3 hbox hb; have HB3 := Aside0.mk (below_step HB2.out hb); have BK3 := Aside0.mk hbox; have HG3 := Aside0.mk (show w.heap.size ≤ g3 by rw [hg3]; exact below_size HB2.out); have BP3 := Aside0.mk (blk_below BK2.out hb); clear hg3 hb hbox; have hb3_0 := blk_cell BK3.out 0; have hb3_1 := blk_cell BK3.out 1; have hb3_2 := blk_cell BK3.out 2; have hb3_3 := blk_cell BK3.out 3; have hp0 := blk_cell BP3.out 0; have hp1 := blk_cell BP3.out 1; have hp2 := blk_cell BP3.out 2; have hp3 := blk_cell BP3.out 3)
   | (go_at_call 13; go_loud (refine (HKC1.out _ HB3.out).mono ?_; rintro ex w4 ⟨gp, cp, rfl, q1, q2, q3, q4⟩; have HB4 := Aside0.mk q3; have HCK4 := Aside0.mk (And.intro q1 q2); have BT4 := Aside0.mk (blk_below BK3.out q4); clear q1 q2 q3 q4 hb2_0 hb2_1 hb2_2 hb2_3 hb3_0 hb3_1 hb3_2 hb3_3 hp0 hp1 hp2 hp3; have hv0 := blk_cell BT4.out 0)))
  have HC4 := Aside0.mk (HC.out w4 HB4.out)
  clear HC HKC1 BK2 BK3 BP3
  go_wp2
  go_loopg [6, 17] l.length (fun gg s6 s17 wr => ∃ i : Nat, s17 = .int .i64 i ∧ i ≤ l.length ∧ l.length - i ≤ gg ∧ Aside0 (Below w4.heap.size w4 wr) ∧ Aside0 (Kd.R (Kd.int .i64) 3 wr w4.heap.size (fun _ => True) s6 (((l.take i).filter fun x => !x.f4 && !K.contains x.f0).map (·.f0))))
  case atStart => exact ⟨0, rfl, Nat.zero_le _, by omega, ⟨Below.refl _ _⟩, ⟨Kd.R_nil _ _ _ _ _⟩⟩
  case round =>
   obtain ⟨i, rfl, hi, hg, HBr, HDr⟩ := hrel
   have hl60 := HLL.out
   by_cases hlt : i < l.length
   ·have hltz : decide ((i : Int) < (l.length : Int)) = true := decide_eq_true (by omega)
    have hi0 : (0 : Int) ≤ (i : Int) := by omega
    have hi1 : (i : Int) < (l.length : Int) := by omega
    obtain ⟨ad, e', hx0, hx1, hx2, hx3, hx4, hx5⟩ := at_T31 HC4.out (i : Int) hi0 hi1
    cases e'
    replace hx0 := (HBr.out.cell (World.block_lt_of_cell? w4 _ hx0)).trans hx0
    replace hx1 := (HBr.out.cell (World.block_lt_of_cell? w4 _ hx1)).trans hx1
    replace hx2 := (HBr.out.cell (World.block_lt_of_cell? w4 _ hx2)).trans hx2
    replace hx3 := (HBr.out.cell (World.block_lt_of_cell? w4 _ hx3)).trans hx3
    replace hx4 := (HBr.out.cell (World.block_lt_of_cell? w4 _ hx4)).trans hx4
    replace hx5 := (HBr.out.cell (World.block_lt_of_cell? w4 _ hx5)).trans hx5
    simp only [Int.toNat_natCast] at hx0 hx1 hx2 hx3 hx4 hx5
    have HTK := Aside0.mk (List.take_succ_eq_append_getElem hlt)
    rw [rdT_at hlt] at hx0 hx1 hx2 hx3 hx4 hx5
    generalize l[i] = x at hx0 hx1 hx2 hx3 hx4 hx5 HTK
    have HLN := Aside0.mk (show (((l.take i).filter fun x => !x.f4 && !K.contains x.f0).map (·.f0)).length ≤ 60 by have h1 := List.length_filter_le (fun x : Lk => !x.f4 && !K.contains x.f0) (l.take i); have h2 := HLL.out; rw [List.length_take] at h1; rw [List.length_map]; omega)
    cases hgh : x.f4 with
    | true =>
     have HNX := Aside0.mk (show ((l.take (i + 1)).filter fun x => !x.f4 && !K.contains x.f0).map (·.f0) = ((l.take i).filter fun x => !x.f4 && !K.contains x.f0).map (·.f0) by rw [HTK.out, List.filter_append, List.filter_cons_of_neg (by rw [hgh]; simp)]; simp)
     go_wp2_with (first
      | ((with_reducible refine gate_dst (N := 8) rfl ?_); refine box_event ?hg (N := 8) ?hd (cs := #[.int .i64 0, .int .i64 0, .string (⟨#[]⟩ : ByteArray), .int .u64 0, .bool false, .bool false]) (t := 31) ?hr ?_; (case hd => rfl); (case hg => rfl); (case hr => first | (go_simp; done) | (go_simp; rfl)); intro g8 hg8 wa8 hbox hb; have HX8 := Aside0.mk hb; have BZ8 := Aside0.mk hbox; have HG8 := Aside0.mk (Nat.le_of_eq hg8.symm); clear hg8 hb hbox; have hc8_0 := blk_cell BZ8.out 0; have hf8_0 := blk_frozen BZ8.out 0; have hc8_1 := blk_cell BZ8.out 1; have hf8_1 := blk_frozen BZ8.out 1; have hc8_2 := blk_cell BZ8.out 2; have hf8_2 := blk_frozen BZ8.out 2; have hc8_3 := blk_cell BZ8.out 3; have hf8_3 := blk_frozen BZ8.out 3; have hc8_4 := blk_cell BZ8.out 4; have hf8_4 := blk_frozen BZ8.out 4; have hc8_5 := blk_cell BZ8.out 5; have hf8_5 := blk_frozen BZ8.out 5)
      | ((with_reducible refine gate_store (t := 31) (p := 8) rfl ?_); refine store_event (t := 31) (p := 8) (v := .tmp 20) (w1 := ((((((wa8.setCell ⟨g8, 0, none⟩ (.int .i64 x.f0)).setCell ⟨g8, 1, none⟩ (.int .i64 x.f1)).setCell ⟨g8, 2, none⟩ (.string x.f2)).setCell ⟨g8, 3, none⟩ (.int .u64 x.f3)).setCell ⟨g8, 4, none⟩ (.bool x.f4)).setCell ⟨g8, 5, none⟩ (.bool x.f5))) rfl rfl rfl ?hr ?_; (case hr => first | (go_simp; done) | (go_simp; rfl)); intro w8 hw8; have q1 := link_put (.int .i64 x.f0) (.int .i64 x.f1) (.string x.f2) (.int .u64 x.f3) (.bool x.f4) (.bool x.f5) BZ8.out; have q2 := link_below (.int .i64 x.f0) (.int .i64 x.f1) (.string x.f2) (.int .u64 x.f3) (.bool x.f4) (.bool x.f5) HX8.out HG8.out; rw [← hw8] at q1 q2; clear hw8; have BK8 := Aside0.mk q1; have HY8 := Aside0.mk q2; have HB8 := Aside0.mk (below_step HBr.out q2); clear hc8_0 hf8_0 hc8_1 hf8_1 hc8_2 hf8_2 hc8_3 hf8_3 hc8_4 hf8_4 hc8_5 hf8_5 q1 q2; have hd8_0 := blk_cell BK8.out 0; have hd8_1 := blk_cell BK8.out 1; have hd8_2 := blk_cell BK8.out 2; have hd8_3 := blk_cell BK8.out 3; have hd8_4 := blk_cell BK8.out 4; have hd8_5 := blk_cell BK8.out 5; have HD8 := Aside0.mk (Kd.R_below HDr.out HY8.out)))
     go_roundg (l.length - (i + 1))
     case measure => omega
     case rel => exact ⟨i + 1, by go_num, by omega, by omega, HB8, ⟨by rw [HNX.out]; exact HD8.out⟩⟩
    | false =>
     have HCX := Aside0.mk (fun (W : World) (hW : Below w4.heap.size w4 W) => HCK.out W gp cp x.f0 HCK4.out.1 (Kd.C_below HCK4.out.2 hW))
     cases hct : K.contains x.f0 with
     | true =>
      rw [hct] at HCX
      have HNX := Aside0.mk (show ((l.take (i + 1)).filter fun x => !x.f4 && !K.contains x.f0).map (·.f0) = ((l.take i).filter fun x => !x.f4 && !K.contains x.f0).map (·.f0) by rw [HTK.out, List.filter_append, List.filter_cons_of_neg (by rw [hgh, hct]; decide)]; simp)
      go_wp2_with (first
       | ((with_reducible refine gate_dst (N := 8) rfl ?_); refine box_event ?hg (N := 8) ?hd (cs := #[.int .i64 0, .int .i64 0, .string (⟨#[]⟩ : ByteArray), .int .u64 0, .bool false, .bool false]) (t := 31) ?hr ?_; (case hd => rfl); (case hg => rfl); (case hr => first | (go_simp; done) | (go_simp; rfl)); intro g8 hg8 wa8 hbox hb; have HX8 := Aside0.mk hb; have BZ8 := Aside0.mk hbox; have HG8 := Aside0.mk (Nat.le_of_eq hg8.symm); clear hg8 hb hbox; have hc8_0 := blk_cell BZ8.out 0; have hf8_0 := blk_frozen BZ8.out 0; have hc8_1 := blk_cell BZ8.out 1; have hf8_1 := blk_frozen BZ8.out 1; have hc8_2 := blk_cell BZ8.out 2; have hf8_2 := blk_frozen BZ8.out 2; have hc8_3 := blk_cell BZ8.out 3; have hf8_3 := blk_frozen BZ8.out 3; have hc8_4 := blk_cell BZ8.out 4; have hf8_4 := blk_frozen BZ8.out 4; have hc8_5 := blk_cell BZ8.out 5; have hf8_5 := blk_frozen BZ8.out 5)
       | ((with_reducible refine gate_store (t := 31) (p := 8) rfl ?_); refine store_event (t := 31) (p := 8) (v := .tmp 20) (w1 := ((((((wa8.setCell ⟨g8, 0, none⟩ (.int .i64 x.f0)).setCell ⟨g8, 1, none⟩ (.int .i64 x.f1)).setCell ⟨g8, 2, none⟩ (.string x.f2)).setCell ⟨g8, 3, none⟩ (.int .u64 x.f3)).setCell ⟨g8, 4, none⟩ (.bool x.f4)).setCell ⟨g8, 5, none⟩ (.bool x.f5))) rfl rfl rfl ?hr ?_; (case hr => first | (go_simp; done) | (go_simp; rfl)); intro w8 hw8; have q1 := link_put (.int .i64 x.f0) (.int .i64 x.f1) (.string x.f2) (.int .u64 x.f3) (.bool x.f4) (.bool x.f5) BZ8.out; have q2 := link_below (.int .i64 x.f0) (.int .i64 x.f1) (.string x.f2) (.int .u64 x.f3) (.bool x.f4) (.bool x.f5) HX8.out HG8.out; rw [← hw8] at q1 q2; clear hw8; have BK8 := Aside0.mk q1; have HY8 := Aside0.mk q2; have HB8 := Aside0.mk (below_step HBr.out q2); clear hc8_0 hf8_0 hc8_1 hf8_1 hc8_2 hf8_2 hc8_3 hf8_3 hc8_4 hf8_4 hc8_5 hf8_5 q1 q2; have hd8_0 := blk_cell BK8.out 0; have hd8_1 := blk_cell BK8.out 1; have hd8_2 := blk_cell BK8.out 2; have hd8_3 := blk_cell BK8.out 3; have hd8_4 := blk_cell BK8.out 4; have hd8_5 := blk_cell BK8.out 5; have HD8 := Aside0.mk (Kd.R_below HDr.out HY8.out))
       | (go_at_call 44; go_loud (refine (HCX.out _ HB8.out).mono ?_; rintro ex w9 ⟨rfl, q1⟩; have HB9 := Aside0.mk (below_step HB8.out q1.below); have HD9 := Aside0.mk (Kd.R_below HD8.out q1.below); clear q1)))
      go_roundg (l.length - (i + 1))
      case measure => omega
      case rel => exact ⟨i + 1, by go_num, by omega, by omega, HB9, ⟨by rw [HNX.out]; exact HD9.out⟩⟩
     | false =>
      rw [hct] at HCX
      have HNX := Aside0.mk (show ((l.take (i + 1)).filter fun x => !x.f4 && !K.contains x.f0).map (·.f0) = ((l.take i).filter fun x => !x.f4 && !K.contains x.f0).map (·.f0) ++ [x.f0] by rw [HTK.out, List.filter_append, List.filter_cons_of_pos (by rw [hgh, hct]; decide)]; simp)
      go_wp2_with (first
       | ((with_reducible refine gate_dst (N := 8) rfl ?_); refine box_event ?hg (N := 8) ?hd (cs := #[.int .i64 0, .int .i64 0, .string (⟨#[]⟩ : ByteArray), .int .u64 0, .bool false, .bool false]) (t := 31) ?hr ?_; (case hd => rfl); (case hg => rfl); (case hr => first | (go_simp; done) | (go_simp; rfl)); intro g8 hg8 wa8 hbox hb; have HX8 := Aside0.mk hb; have BZ8 := Aside0.mk hbox; have HG8 := Aside0.mk (Nat.le_of_eq hg8.symm); clear hg8 hb hbox; have hc8_0 := blk_cell BZ8.out 0; have hf8_0 := blk_frozen BZ8.out 0; have hc8_1 := blk_cell BZ8.out 1; have hf8_1 := blk_frozen BZ8.out 1; have hc8_2 := blk_cell BZ8.out 2; have hf8_2 := blk_frozen BZ8.out 2; have hc8_3 := blk_cell BZ8.out 3; have hf8_3 := blk_frozen BZ8.out 3; have hc8_4 := blk_cell BZ8.out 4; have hf8_4 := blk_frozen BZ8.out 4; have hc8_5 := blk_cell BZ8.out 5; have hf8_5 := blk_frozen BZ8.out 5)
       | ((with_reducible refine gate_store (t := 31) (p := 8) rfl ?_); refine store_event (t := 31) (p := 8) (v := .tmp 20) (w1 := ((((((wa8.setCell ⟨g8, 0, none⟩ (.int .i64 x.f0)).setCell ⟨g8, 1, none⟩ (.int .i64 x.f1)).setCell ⟨g8, 2, none⟩ (.string x.f2)).setCell ⟨g8, 3, none⟩ (.int .u64 x.f3)).setCell ⟨g8, 4, none⟩ (.bool x.f4)).setCell ⟨g8, 5, none⟩ (.bool x.f5))) rfl rfl rfl ?hr ?_; (case hr => first | (go_simp; done) | (go_simp; rfl)); intro w8 hw8; have q1 := link_put (.int .i64 x.f0) (.int .i64 x.f1) (.string x.f2) (.int .u64 x.f3) (.bool x.f4) (.bool x.f5) BZ8.out; have q2 := link_below (.int .i64 x.f0) (.int .i64 x.f1) (.string x.f2) (.int .u64 x.f3) (.bool x.f4) (.bool x.f5) HX8.out HG8.out; rw [← hw8] at q1 q2; clear hw8; have BK8 := Aside0.mk q1; have HY8 := Aside0.mk q2; have HB8 := Aside0.mk (below_step HBr.out q2); clear hc8_0 hf8_0 hc8_1 hf8_1 hc8_2 hf8_2 hc8_3 hf8_3 hc8_4 hf8_4 hc8_5 hf8_5 q1 q2; have hd8_0 := blk_cell BK8.out 0; have hd8_1 := blk_cell BK8.out 1; have hd8_2 := blk_cell BK8.out 2; have hd8_3 := blk_cell BK8.out 3; have hd8_4 := blk_cell BK8.out 4; have hd8_5 := blk_cell BK8.out 5; have HD8 := Aside0.mk (Kd.R_below HDr.out HY8.out))
       | (go_at_call 44; go_loud (refine (HCX.out _ HB8.out).mono ?_; rintro ex w9 ⟨rfl, q1⟩; have HB9 := Aside0.mk (below_step HB8.out q1.below); have HD9 := Aside0.mk (Kd.R_below HD8.out q1.below); have BK9 := Aside0.mk (blk_below BK8.out q1.below); clear q1 hd8_0 hd8_1 hd8_2 hd8_3 hd8_4 hd8_5; have hd9 := blk_cell BK9.out 0))
       | ((with_reducible refine gate_builtin (b := .append) (xs := #[.tmp 31, .tmp 34]) rfl ?_); at_builtin; refine Kd.R_append (Kd.int .i64) (w0 := w4) w4.heap.size rfl (.tmp 31) (.tmp 34) 34 3 (.int .i64 0) 8 rfl Tryz.underlying34 info3 rfl (by decide) (by omega) u6 (((l.take i).filter fun x => !x.f4 && !K.contains x.f0).map (·.f0)) x.f0 [.int .i64 x.f0] (fun _ => True) (fun _ => False) rfl ?aX rfl (fun _ hk => hk.elim) (fun _ _ => trivial) HD9.out HB9.out (below_size HB9.out) (Nat.le_trans (Nat.mul_le_mul_right 8 (Nat.succ_le_succ HLN.out)) (by decide)) ?_; (case aX => first | rfl | (go_simp; done)); intro v35 w35 ho hb hg hat; have HD35 := Aside0.mk ho; have HB35 := Aside0.mk hb; clear ho hb hg hat))
      go_roundg (l.length - (i + 1))
      case measure => omega
      case rel => exact ⟨i + 1, by go_num, by omega, by omega, HB35, ⟨by rw [HNX.out]; exact HD35.out⟩⟩
   ·have hltz : decide ((i : Int) < (l.length : Int)) = false := decide_eq_false (by omega)
    have HE := Aside0.mk (show ((l.take i).filter fun x => !x.f4 && !K.contains x.f0).map (·.f0) = D by rw [List.take_of_length_le (by omega), HDD.out])
    go_wp2
    go_ret
    exact ⟨_, rfl, by rw [← HE.out]; exact Kd.R_lower HDr.out (below_size HB4.out), HB4.out.trans (HBr.out.mono (below_size HB4.out))⟩
end Go.Proofs.YtfdlbnfjohpdlaaGreatDoor.PPo
