import Derived.Test.YtfdlbnfjohpdlaaGreatDoorPurePw
import Derived.Test.YtfdlbnfjohpdlaaGreatDoorPureDp
import Derived.BigQuiet
import Derived.Test.YtfdlbnfjohpdlaaGreatDoorPPox18
import Derived.Deep.RegionHeld3
--compressed
namespace Go.Proofs.YtfdlbnfjohpdlaaGreatDoor.Th
open Go.RowKit Go.Proofs.YtfdlbnfjohpdlaaGreatDoor.PPo Go.Proofs.YtfdlbnfjohpdlaaGreatDoorW.PrintWords
set_option linter.unusedVariables false
def wu (a b d e : Int) : Nat → List (List UInt8)
 | 0 => []
 | k + 1 => wu a b d e k ++ wk k (ofP a b d e (k : Int))
theorem wu_four (a b d e : Int) : wu a b d e 4 = wordsP a b d e := by
 show ((([] ++ wk 0 a) ++ wk 1 b) ++ wk 2 d) ++ wk 3 e = _
 rw [List.nil_append]
 rfl
theorem wk_len (k : Nat) (n : Int) : (wk k n).length ≤ 1 := by unfold wk; split <;> simp
theorem wu_len (a b d e : Int) : ∀ k, k ≤ 4 → (wu a b d e k).length ≤ 4 := by
 have key : ∀ k, (wu a b d e k).length ≤ k := by
  intro k
  induction k with
  | zero => exact Nat.le_refl _
  | succ k ih =>
   have := wk_len k (ofP a b d e (k : Int))
   rw [wu, List.length_append]
   omega
 intro k hk
 exact Nat.le_trans (key k) hk
theorem print_len (a b d e : Int) (h : rightP a b d e = true) : (Lib.join (wordsP a b d e) [32]).length ≤ 100 := by
 obtain ⟨⟨a0, a1⟩, ⟨b0, b1⟩, ⟨d0, d1⟩, e0, e1⟩ := right_iff.1 h
 have hw : ∀ w ∈ wordsP a b d e, w.length ≤ 5 := fun w hw => by
  have hk : ∀ (k : Nat) (n : Int), 0 ≤ n → n ≤ 1000 → w ∈ wk k n → w.length ≤ 5 := fun k n h0 h1 hm => by
   unfold wk at hm
   split at hm
   ·obtain rfl := List.mem_singleton.1 hm
    have := dd_len (n := n.toNat) (by omega)
    rw [List.length_cons]
    omega
   ·cases hm
  unfold wordsP at hw
  simp only [List.mem_append] at hw
  rcases hw with ((hw | hw) | hw) | hw
  ·exact hk 0 a a0 a1 hw
  ·exact hk 1 b b0 b1 hw
  ·exact hk 2 d d0 d1 hw
  ·exact hk 3 e e0 e1 hw
 have hl : (wordsP a b d e).length ≤ 4 := by rw [← wu_four]; exact wu_len a b d e 4 (by decide)
 generalize wordsP a b d e = ws at hw hl
 have key : ∀ (n : Nat) (ws : List (List UInt8)), ws.length ≤ n → (∀ w ∈ ws, w.length ≤ 5) → (Lib.join ws [32]).length ≤ 6 * n := by
  intro n
  induction n with
  | zero => intro ws h _; obtain rfl := List.length_eq_zero_iff.1 (Nat.le_zero.1 h); exact Nat.le_refl _
  | succ n ih =>
   intro ws h hw
   match ws, h, hw with
   | [], _, _ => exact Nat.zero_le _
   | [w], _, hw => rw [Lib.join_one]; have := hw w (by simp); omega
   | w :: v :: ws, h, hw =>
    have := ih (v :: ws) (by simpa using h) (fun x hx => hw x (List.mem_cons_of_mem _ hx))
    have hw1 := hw w (by simp)
    have e : Lib.join (w :: v :: ws) [32] = w ++ 32 :: Lib.join (v :: ws) [32] := by
     rw [Lib.join_cons, Lib.join_cons]
     simp [Lib.joinTail]
    rw [e, List.length_append, List.length_cons]
    omega
 have := key 4 ws hl hw
 omega
end Go.Proofs.YtfdlbnfjohpdlaaGreatDoor.Th
namespace Go.Proofs.YtfdlbnfjohpdlaaGreatDoor.PPo
open Go.RowKit Go.Proofs.YtfdlbnfjohpdlaaGreatDoor.Th Go.Proofs.YtfdlbnfjohpdlaaGreatDoorW.PrintWords Go.Proofs.YtfdlbnfjohpdlaaGreatDoorW.PrintLast Go.Proofs.YtfdlbnfjohpdlaaGreatDoorW.PrintMore
attribute [local go_sem] max2_int min2_int max_two min_two max_three min_three max_four min_four
set_option linter.unusedVariables false
set_option linter.unusedSimpArgs false
theorem extraJoin : Go.Proofs.Builder.Extra Tryz.prog Tryz.layJoin_ren where
 sizeBuilder := by kernel_rfl
 liesBuilder := by kernel_rfl
 t5 := Tryz.underlying5
 a5 := Tryz.isAgg5
 z5 := Tryz.sizeOf5
 v5 := Tryz.zeroValue5
 infoByte := by kernel_rfl
 cellsByte := by kernel_rfl
 sizeByte := by kernel_rfl
 neB5 := by decide
set_option maxHeartbeats 8000000 in
set_option maxRecDepth 100000 in
theorem print.calls (a b d e : Int) (w : World) (hpw : PowW w) : Calls Tryz.prog 31 #[.agg #[.int .i64 a, .int .i64 b, .int .i64 d, .int .i64 e]] w fun ex w' => ex = .returned (.string (B (printL a b d e))) ∧ Below w.heap.size w w' := by
 have hup := Tryz.underlying23
 have mixed : Tryz.prog.follows .mixedOrders = true := by kernel_rfl
 have HB := Aside0.mk (Below.refl w.heap.size w)
 have HP := Aside0.mk (fun (W : World) => rightP.calls a b d e W)
 have HCN := Aside0.mk (fun (W : World) => counts.calls a b d e W)
 have HIT := Aside0.mk (fun (x : Int) (h0 : 0 ≤ x) (h1 : x ≤ 1000) (W : World) (hW : Below w.heap.size w W) => show Calls Tryz.prog 58 #[.int .i64 x] W fun e w' => e = .returned (.string (B (Lib.decDigits x.toNat))) ∧ Below W.heap.size W w' from by
  have h := itoa.calls x.toNat (by omega) W (hpw.below hW)
  rw [show ((x.toNat : Nat) : Int) = x by omega] at h
  exact h)
 obtain ⟨T, hT⟩ : ∃ T, T = printL a b d e := ⟨_, rfl⟩
 rw [← hT]
 have HT := Aside0.mk hT
 clear hpw hT
 cases hp : rightP a b d e with
 | false =>
  have HN := Aside0.mk (show T = [] by rw [HT.out]; unfold printL; rw [if_neg (by rw [hp]; decide)])
  rw [hp] at HP
  clear hp
  go_enter Tryz.func31, Tryz.ntmps31
  go_wp2_with (first
   | ((with_reducible refine gate_dst (N := 1) rfl ?_); refine box_event ?hg (N := 1) ?hd (cs := #[.int .i64 a, .int .i64 b, .int .i64 d, .int .i64 e]) (t := 23) ?hr ?_; (case hd => rfl); (case hg => rfl); (case hr => first | (go_simp; done) | (go_simp; rfl)); intro g1 hg1 wb1 hbox hb; have HB1 := Aside0.mk (below_step HB.out hb); have BK1 := Aside0.mk hbox; have HG1 := Aside0.mk (show w.heap.size ≤ g1 by rw [hg1]; exact below_size HB.out); clear hg1 hb hbox; have hb1_0 := blk_cell BK1.out 0; have hb1_1 := blk_cell BK1.out 1; have hb1_2 := blk_cell BK1.out 2; have hb1_3 := blk_cell BK1.out 3)
   | (go_at_call 19; go_loud (refine (HP.out _).mono ?_; rintro ex w7 ⟨rfl, q1⟩; have HB7 := Aside0.mk (below_step HB1.out q1); clear q1)))
  go_ret
  exact ⟨by rw [HN.out]; rfl, HB7.out⟩
 | true =>
  rw [hp] at HP
  obtain ⟨⟨a0, a1⟩, ⟨b0, b1⟩, ⟨d0, d1⟩, e0, e1⟩ := right_iff.1 hp
  have HRP := Aside0.mk hp
  clear hp
  go_enter Tryz.func31, Tryz.ntmps31
  go_wp2_with (first
   | ((with_reducible refine gate_dst (N := 1) rfl ?_); refine box_event ?hg (N := 1) ?hd (cs := #[.int .i64 a, .int .i64 b, .int .i64 d, .int .i64 e]) (t := 23) ?hr ?_; (case hd => rfl); (case hg => rfl); (case hr => first | (go_simp; done) | (go_simp; rfl)); intro g1 hg1 wb1 hbox hb; have HB1 := Aside0.mk (below_step HB.out hb); have BK1 := Aside0.mk hbox; have HG1 := Aside0.mk (show w.heap.size ≤ g1 by rw [hg1]; exact below_size HB.out); clear hg1 hb hbox; have hb1_0 := blk_cell BK1.out 0; have hb1_1 := blk_cell BK1.out 1; have hb1_2 := blk_cell BK1.out 2; have hb1_3 := blk_cell BK1.out 3)
   | (go_at_call 19; go_loud (refine (HP.out _).mono ?_; rintro ex w7 ⟨rfl, q1⟩; have HB7 := Aside0.mk (below_step HB1.out q1); have BP7 := Aside0.mk (blk_below BK1.out q1); clear q1 hb1_0 hb1_1 hb1_2 hb1_3; have hp0 := blk_cell BP7.out 0; have hp1 := blk_cell BP7.out 1; have hp2 := blk_cell BP7.out 2; have hp3 := blk_cell BP7.out 3))
   | (go_at_call 38; go_loud (refine (HCN.out _).mono ?_; rintro ex w10 ⟨rfl, q1⟩; have HB10 := Aside0.mk (below_step HB7.out q1); clear q1 hp0 hp1 hp2 hp3)))
  go_loopg [3, 11] 4 (fun gg s3 s11 wr => ∃ k : Nat, s11 = .int .i64 k ∧ k ≤ 4 ∧ 4 - k ≤ gg ∧ Aside0 (Below w.heap.size w wr) ∧ Aside0 (Kd.R Kd.string 9 wr w.heap.size (fun _ => True) s3 ((wu a b d e k).map B)))
  case atStart => exact ⟨0, rfl, by omega, by omega, HB10, ⟨Kd.R_nil _ _ _ _ _⟩⟩
  case round =>
   obtain ⟨k, rfl, hk, hg, HBr, HRr⟩ := hrel
   by_cases hk4 : k < 4
   ·have hkz : decide ((k : Int) < 4) = true := decide_eq_true (by omega)
    have h5 : k = 0 ∨ k = 1 ∨ k = 2 ∨ k = 3 := by omega
    rcases h5 with rfl | rfl | rfl | rfl
    ·have hidx : ∀ W : World, (Instr.index 74 (.agg #[.int .i64 a, .int .i64 b, .int .i64 d, .int .i64 e]) (.int .i64 0)).run Tryz.prog W = .ok (.int .i64 a) W := fun _ => by kernel_rfl
     have hsl : ∀ W : World, (Instr.slice 9 (.string ⟨#[100, 119, 109, 121]⟩) (some (.int .i64 0)) (some (.int .i64 1)) none).run Tryz.prog W = .ok (.string (B [ltr 0])) W := fun _ => by kernel_rfl
     have hwk : wrap64 1 = 1 := wrap64_id (by decide) (by decide)
     have HWU := Aside0.mk (show wu a b d e 1 = wu a b d e 0 ++ wk 0 a from rfl)
     by_cases hx : 0 < a
     ·have hz : decide (0 < a) = true := decide_eq_true hx
      have HIA := Aside0.mk (fun (W : World) (hW : Below w.heap.size w W) => HIT.out a (by omega) (by omega) W hW)
      have HWK := Aside0.mk (show (wu a b d e 1).map B = (wu a b d e 0).map B ++ [B [ltr 0] ++ B (Lib.decDigits a.toNat)] by rw [HWU.out, List.map_append]; unfold wk; rw [if_pos hx, B_append]; rfl)
      obtain ⟨hs1, hs2⟩ := str_small (B [ltr 0]) (B (Lib.decDigits a.toNat)) (by rw [B_size]; simp) (by rw [B_size]; have := dd_len (n := a.toNat) (by omega); omega)
      have HLN := Aside0.mk (show ((wu a b d e 0).map B).length ≤ 4 by rw [List.length_map]; exact wu_len a b d e 0 (by decide))
      generalize (wu a b d e 0).map B = L at HRr HWK HLN
      generalize B [ltr 0] = sP at hsl hs1 hs2 HWK
      generalize B (Lib.decDigits a.toNat) = sD at HIA hs1 hs2 HWK
      clear hx HWU
      go_upto_region 8 with (fail)
      refine start_ (n := 11) (S := fun _ => True) (ds := []) #[false, false, false, false, false, false, false, false, false, false, false] (by kernel_rfl) rfl rfl trivial (fun hHeld => ?_)
      generalize hwd : wr.drew = wd
      have HBD := Aside0.mk (show Below w.heap.size w wd by rw [← hwd]; exact below_drew1 HBr.out)
      have HRD := Aside0.mk (show Kd.R Kd.string 9 wd w.heap.size (fun _ => True) u3 L by rw [← hwd]; exact Kd.R_drew HRr.out)
      clear hwd
      refine pure_ (i := 0) (N := some 17) (v := ?_) (a' := ?_) #[true, false, false, false, false, false, false, false, false, false, false] rfl rfl (by kernel_rfl) (fun _ _ _ h => h) (Or.inl ⟨by rfl, ?_⟩) ?_ ?_
      rotate_left
      ·intro w'
       go_simp
       try with_reducible rfl
      rotate_left
      ·simp only [Act.put, List.setIfInBounds_toArray, List.set_cons_zero, List.set_cons_succ, i64_w, i32_w]
       rfl
      refine pure_ (i := 1) (N := some 18) (v := ?_) (a' := ?_) #[true, true, false, false, false, false, false, false, false, false, false] rfl rfl (by kernel_rfl) (fun _ _ _ h => h) (Or.inl ⟨by rfl, ?_⟩) ?_ ?_
      rotate_left
      ·intro w'
       go_simp
       try with_reducible rfl
      rotate_left
      ·simp only [Act.put, List.setIfInBounds_toArray, List.set_cons_zero, List.set_cons_succ, i64_w, i32_w]
       rfl
      refine pure_ (i := 2) (N := some 19) (v := ?_) (a' := ?_) #[true, true, true, false, false, false, false, false, false, false, false] rfl rfl (by kernel_rfl) (fun _ _ _ h => h) (Or.inl ⟨by rfl, ?_⟩) ?_ ?_
      rotate_left
      ·intro w'
       go_simp
       try with_reducible rfl
      rotate_left
      ·simp only [Act.put, List.setIfInBounds_toArray, List.set_cons_zero, List.set_cons_succ, i64_w, i32_w]
       rfl
      refine pure_ (i := 3) (N := some 20) (v := ?_) (a' := ?_) #[true, true, true, true, false, false, false, false, false, false, false] rfl rfl (by kernel_rfl) (fun _ _ _ h => h) (Or.inl ⟨by rfl, ?_⟩) ?_ ?_
      rotate_left
      ·intro w'
       go_simp
       try with_reducible rfl
      rotate_left
      ·simp only [Act.put, List.setIfInBounds_toArray, List.set_cons_zero, List.set_cons_succ, i64_w, i32_w]
       rfl
      refine pure_ (i := 4) (N := some 21) (v := ?_) (a' := ?_) #[true, true, true, true, true, false, false, false, false, false, false] rfl rfl (by kernel_rfl) (fun _ _ _ h => h) (Or.inl ⟨by rfl, ?_⟩) ?_ ?_
      rotate_left
      ·intro w'
       go_simp
       try with_reducible rfl
      rotate_left
      ·simp only [Act.put, List.setIfInBounds_toArray, List.set_cons_zero, List.set_cons_succ, i64_w, i32_w]
       rfl
      refine pure_ (i := 5) (N := some 22) (v := ?_) (a' := ?_) #[true, true, true, true, true, true, false, false, false, false, false] rfl rfl (by kernel_rfl) (fun _ _ _ h => h) (Or.inl ⟨by rfl, ?_⟩) ?_ ?_
      rotate_left
      ·intro w'
       go_simp
       try with_reducible rfl
      rotate_left
      ·simp only [Act.put, List.setIfInBounds_toArray, List.set_cons_zero, List.set_cons_succ, i64_w, i32_w]
       rfl
      refine one_ (i := 6) (N := some 23) #[true, true, true, true, true, true, true, false, false, false, false] rfl rfl (by kernel_rfl) (by decide) (fun K hK => ?_)
      refine goes_ Tryz.func58 (by kernel_rfl) rfl #[.int .i64 a] (by rfl) rfl rfl (by (try simp only [List.map_toArray, List.map_cons, List.map_nil]); first | done | rfl) ?_
      refine (HIA.out _ HBD.out).mono ?_
      rintro ex wi ⟨rfl, q1⟩
      have HBI := Aside0.mk (below_step HBD.out q1)
      have HRI := Aside0.mk (Kd.R_below HRD.out q1)
      clear q1
      refine ⟨_, rfl, ?_⟩
      refine hK.out _ _ trivial (fun hHeld => ?_)
      clear hK K
      refine norm_ (a' := ?_) ?_ ?_
      rotate_left
      ·show Act.put _ (some 23) _ = _
       simp only [Act.put, List.setIfInBounds_toArray, List.set_cons_zero, List.set_cons_succ]
       rfl
      refine pure_ (i := 7) (N := some 24) (v := ?_) (a' := ?_) #[true, true, true, true, true, true, true, true, false, false, false] rfl rfl (by kernel_rfl) (fun _ _ _ h => h) (Or.inl ⟨by rfl, ?_⟩) ?_ ?_
      rotate_left
      ·intro w'
       go_simp
       try with_reducible rfl
      rotate_left
      ·simp only [Act.put, List.setIfInBounds_toArray, List.set_cons_zero, List.set_cons_succ, i64_w, i32_w]
       rfl
      refine one_ (i := 8) (N := some 25) #[true, true, true, true, true, true, true, true, true, false, false] rfl rfl (by kernel_rfl) (by decide) (fun K hK => ?_)
      refine value_ (w1 := ?_) (v := ?_) (by rfl) rfl ?_ ?_
      rotate_left 2
      ·go_simp
       constructor
       ·rfl
       ·rfl
      refine hK.out _ _ trivial (fun hHeld => ?_)
      clear hK K
      refine norm_ (a' := ?_) ?_ ?_
      rotate_left
      ·show Act.put _ (some 25) _ = _
       simp only [Act.put, List.setIfInBounds_toArray, List.set_cons_zero, List.set_cons_succ]
       rfl
      refine one_ (i := 9) (N := some 26) #[true, true, true, true, true, true, true, true, true, true, false] rfl rfl (by kernel_rfl) (by decide) (fun K hK => ?_)
      refine Kd.R_append_step Kd.string (w0 := w) w.heap.size (by rfl) (.tmp 17) (.tmp 25) 87 9 (.string ⟨#[]⟩) 16 rfl Tryz.underlying87 info9 rfl (by decide) (by omega) u3 L (sP ++ sD) [.string (sP ++ sD)] (fun _ => True) (fun _ => False) rfl rfl ?aP (fun _ hk => hk.elim) (fun _ _ => trivial) HRI.out HBI.out (below_size HBI.out) (by have := HLN.out; omega) ?_
      (case aP => exact rfl)
      intro v26 w26 ho hb hg hat
      have HRW := Aside0.mk ho
      have HBW := Aside0.mk hb
      clear ho hb hg hat
      refine hK.out _ _ trivial (fun hHeld => ?_)
      clear hK K
      refine norm_ (a' := ?_) ?_ ?_
      rotate_left
      ·show Act.put _ (some 26) _ = _
       simp only [Act.put, List.setIfInBounds_toArray, List.set_cons_zero, List.set_cons_succ]
       rfl
      refine pure_ (i := 10) (N := some 3) (v := ?_) (a' := ?_) #[true, true, true, true, true, true, true, true, true, true, true] rfl rfl (by kernel_rfl) (fun _ _ _ h => h) (Or.inl ⟨by rfl, ?_⟩) ?_ ?_
      rotate_left
      ·intro w'
       go_simp
       try with_reducible rfl
      rotate_left
      ·simp only [Act.put, List.setIfInBounds_toArray, List.set_cons_zero, List.set_cons_succ, i64_w, i32_w]
       rfl
      refine done_ (by kernel_rfl) ?_
      clear hHeld
      go_wp2
      go_roundg (4 - 1)
      case measure => omega
      case rel => exact ⟨1, by go_num, by omega, by omega, HBW, ⟨by rw [HWK.out]; exact HRW.out⟩⟩
     ·have hz : decide (0 < a) = false := decide_eq_false hx
      have HWK := Aside0.mk (show (wu a b d e 1).map B = (wu a b d e 0).map B by rw [HWU.out]; unfold wk; rw [if_neg hx, List.append_nil])
      clear hx HWU
      go_wp2
      go_roundg (4 - 1)
      case measure => omega
      case rel => exact ⟨1, by go_num, by omega, by omega, HBr, ⟨by rw [HWK.out]; exact HRr.out⟩⟩
    ·have hidx : ∀ W : World, (Instr.index 74 (.agg #[.int .i64 a, .int .i64 b, .int .i64 d, .int .i64 e]) (.int .i64 1)).run Tryz.prog W = .ok (.int .i64 b) W := fun _ => by kernel_rfl
     have hsl : ∀ W : World, (Instr.slice 9 (.string ⟨#[100, 119, 109, 121]⟩) (some (.int .i64 1)) (some (.int .i64 2)) none).run Tryz.prog W = .ok (.string (B [ltr 1])) W := fun _ => by kernel_rfl
     have hwk : wrap64 2 = 2 := wrap64_id (by decide) (by decide)
     have HWU := Aside0.mk (show wu a b d e 2 = wu a b d e 1 ++ wk 1 b from rfl)
     by_cases hx : 0 < b
     ·have hz : decide (0 < b) = true := decide_eq_true hx
      have HIA := Aside0.mk (fun (W : World) (hW : Below w.heap.size w W) => HIT.out b (by omega) (by omega) W hW)
      have HWK := Aside0.mk (show (wu a b d e 2).map B = (wu a b d e 1).map B ++ [B [ltr 1] ++ B (Lib.decDigits b.toNat)] by rw [HWU.out, List.map_append]; unfold wk; rw [if_pos hx, B_append]; rfl)
      obtain ⟨hs1, hs2⟩ := str_small (B [ltr 1]) (B (Lib.decDigits b.toNat)) (by rw [B_size]; simp) (by rw [B_size]; have := dd_len (n := b.toNat) (by omega); omega)
      have HLN := Aside0.mk (show ((wu a b d e 1).map B).length ≤ 4 by rw [List.length_map]; exact wu_len a b d e 1 (by decide))
      generalize (wu a b d e 1).map B = L at HRr HWK HLN
      generalize B [ltr 1] = sP at hsl hs1 hs2 HWK
      generalize B (Lib.decDigits b.toNat) = sD at HIA hs1 hs2 HWK
      clear hx HWU
      go_upto_region 8 with (fail)
      refine start_ (n := 11) (S := fun _ => True) (ds := []) #[false, false, false, false, false, false, false, false, false, false, false] (by kernel_rfl) rfl rfl trivial (fun hHeld => ?_)
      generalize hwd : wr.drew = wd
      have HBD := Aside0.mk (show Below w.heap.size w wd by rw [← hwd]; exact below_drew1 HBr.out)
      have HRD := Aside0.mk (show Kd.R Kd.string 9 wd w.heap.size (fun _ => True) u3 L by rw [← hwd]; exact Kd.R_drew HRr.out)
      clear hwd
      refine pure_ (i := 0) (N := some 17) (v := ?_) (a' := ?_) #[true, false, false, false, false, false, false, false, false, false, false] rfl rfl (by kernel_rfl) (fun _ _ _ h => h) (Or.inl ⟨by rfl, ?_⟩) ?_ ?_
      rotate_left
      ·intro w'
       go_simp
       try with_reducible rfl
      rotate_left
      ·simp only [Act.put, List.setIfInBounds_toArray, List.set_cons_zero, List.set_cons_succ, i64_w, i32_w]
       rfl
      refine pure_ (i := 1) (N := some 18) (v := ?_) (a' := ?_) #[true, true, false, false, false, false, false, false, false, false, false] rfl rfl (by kernel_rfl) (fun _ _ _ h => h) (Or.inl ⟨by rfl, ?_⟩) ?_ ?_
      rotate_left
      ·intro w'
       go_simp
       try with_reducible rfl
      rotate_left
      ·simp only [Act.put, List.setIfInBounds_toArray, List.set_cons_zero, List.set_cons_succ, i64_w, i32_w]
       rfl
      refine pure_ (i := 2) (N := some 19) (v := ?_) (a' := ?_) #[true, true, true, false, false, false, false, false, false, false, false] rfl rfl (by kernel_rfl) (fun _ _ _ h => h) (Or.inl ⟨by rfl, ?_⟩) ?_ ?_
      rotate_left
      ·intro w'
       go_simp
       try with_reducible rfl
      rotate_left
      ·simp only [Act.put, List.setIfInBounds_toArray, List.set_cons_zero, List.set_cons_succ, i64_w, i32_w]
       rfl
      refine pure_ (i := 3) (N := some 20) (v := ?_) (a' := ?_) #[true, true, true, true, false, false, false, false, false, false, false] rfl rfl (by kernel_rfl) (fun _ _ _ h => h) (Or.inl ⟨by rfl, ?_⟩) ?_ ?_
      rotate_left
      ·intro w'
       go_simp
       try with_reducible rfl
      rotate_left
      ·simp only [Act.put, List.setIfInBounds_toArray, List.set_cons_zero, List.set_cons_succ, i64_w, i32_w]
       rfl
      refine pure_ (i := 4) (N := some 21) (v := ?_) (a' := ?_) #[true, true, true, true, true, false, false, false, false, false, false] rfl rfl (by kernel_rfl) (fun _ _ _ h => h) (Or.inl ⟨by rfl, ?_⟩) ?_ ?_
      rotate_left
      ·intro w'
       go_simp
       try with_reducible rfl
      rotate_left
      ·simp only [Act.put, List.setIfInBounds_toArray, List.set_cons_zero, List.set_cons_succ, i64_w, i32_w]
       rfl
      refine pure_ (i := 5) (N := some 22) (v := ?_) (a' := ?_) #[true, true, true, true, true, true, false, false, false, false, false] rfl rfl (by kernel_rfl) (fun _ _ _ h => h) (Or.inl ⟨by rfl, ?_⟩) ?_ ?_
      rotate_left
      ·intro w'
       go_simp
       try with_reducible rfl
      rotate_left
      ·simp only [Act.put, List.setIfInBounds_toArray, List.set_cons_zero, List.set_cons_succ, i64_w, i32_w]
       rfl
      refine one_ (i := 6) (N := some 23) #[true, true, true, true, true, true, true, false, false, false, false] rfl rfl (by kernel_rfl) (by decide) (fun K hK => ?_)
      refine goes_ Tryz.func58 (by kernel_rfl) rfl #[.int .i64 b] (by rfl) rfl rfl (by (try simp only [List.map_toArray, List.map_cons, List.map_nil]); first | done | rfl) ?_
      refine (HIA.out _ HBD.out).mono ?_
      rintro ex wi ⟨rfl, q1⟩
      have HBI := Aside0.mk (below_step HBD.out q1)
      have HRI := Aside0.mk (Kd.R_below HRD.out q1)
      clear q1
      refine ⟨_, rfl, ?_⟩
      refine hK.out _ _ trivial (fun hHeld => ?_)
      clear hK K
      refine norm_ (a' := ?_) ?_ ?_
      rotate_left
      ·show Act.put _ (some 23) _ = _
       simp only [Act.put, List.setIfInBounds_toArray, List.set_cons_zero, List.set_cons_succ]
       rfl
      refine pure_ (i := 7) (N := some 24) (v := ?_) (a' := ?_) #[true, true, true, true, true, true, true, true, false, false, false] rfl rfl (by kernel_rfl) (fun _ _ _ h => h) (Or.inl ⟨by rfl, ?_⟩) ?_ ?_
      rotate_left
      ·intro w'
       go_simp
       try with_reducible rfl
      rotate_left
      ·simp only [Act.put, List.setIfInBounds_toArray, List.set_cons_zero, List.set_cons_succ, i64_w, i32_w]
       rfl
      refine one_ (i := 8) (N := some 25) #[true, true, true, true, true, true, true, true, true, false, false] rfl rfl (by kernel_rfl) (by decide) (fun K hK => ?_)
      refine value_ (w1 := ?_) (v := ?_) (by rfl) rfl ?_ ?_
      rotate_left 2
      ·go_simp
       constructor
       ·rfl
       ·rfl
      refine hK.out _ _ trivial (fun hHeld => ?_)
      clear hK K
      refine norm_ (a' := ?_) ?_ ?_
      rotate_left
      ·show Act.put _ (some 25) _ = _
       simp only [Act.put, List.setIfInBounds_toArray, List.set_cons_zero, List.set_cons_succ]
       rfl
      refine one_ (i := 9) (N := some 26) #[true, true, true, true, true, true, true, true, true, true, false] rfl rfl (by kernel_rfl) (by decide) (fun K hK => ?_)
      refine Kd.R_append_step Kd.string (w0 := w) w.heap.size (by rfl) (.tmp 17) (.tmp 25) 87 9 (.string ⟨#[]⟩) 16 rfl Tryz.underlying87 info9 rfl (by decide) (by omega) u3 L (sP ++ sD) [.string (sP ++ sD)] (fun _ => True) (fun _ => False) rfl rfl ?aP (fun _ hk => hk.elim) (fun _ _ => trivial) HRI.out HBI.out (below_size HBI.out) (by have := HLN.out; omega) ?_
      (case aP => exact rfl)
      intro v26 w26 ho hb hg hat
      have HRW := Aside0.mk ho
      have HBW := Aside0.mk hb
      clear ho hb hg hat
      refine hK.out _ _ trivial (fun hHeld => ?_)
      clear hK K
      refine norm_ (a' := ?_) ?_ ?_
      rotate_left
      ·show Act.put _ (some 26) _ = _
       simp only [Act.put, List.setIfInBounds_toArray, List.set_cons_zero, List.set_cons_succ]
       rfl
      refine pure_ (i := 10) (N := some 3) (v := ?_) (a' := ?_) #[true, true, true, true, true, true, true, true, true, true, true] rfl rfl (by kernel_rfl) (fun _ _ _ h => h) (Or.inl ⟨by rfl, ?_⟩) ?_ ?_
      rotate_left
      ·intro w'
       go_simp
       try with_reducible rfl
      rotate_left
      ·simp only [Act.put, List.setIfInBounds_toArray, List.set_cons_zero, List.set_cons_succ, i64_w, i32_w]
       rfl
      refine done_ (by kernel_rfl) ?_
      clear hHeld
      go_wp2
      go_roundg (4 - 2)
      case measure => omega
      case rel => exact ⟨2, by go_num, by omega, by omega, HBW, ⟨by rw [HWK.out]; exact HRW.out⟩⟩
     ·have hz : decide (0 < b) = false := decide_eq_false hx
      have HWK := Aside0.mk (show (wu a b d e 2).map B = (wu a b d e 1).map B by rw [HWU.out]; unfold wk; rw [if_neg hx, List.append_nil])
      clear hx HWU
      go_wp2
      go_roundg (4 - 2)
      case measure => omega
      case rel => exact ⟨2, by go_num, by omega, by omega, HBr, ⟨by rw [HWK.out]; exact HRr.out⟩⟩
    ·have hidx : ∀ W : World, (Instr.index 74 (.agg #[.int .i64 a, .int .i64 b, .int .i64 d, .int .i64 e]) (.int .i64 2)).run Tryz.prog W = .ok (.int .i64 d) W := fun _ => by kernel_rfl
     have hsl : ∀ W : World, (Instr.slice 9 (.string ⟨#[100, 119, 109, 121]⟩) (some (.int .i64 2)) (some (.int .i64 3)) none).run Tryz.prog W = .ok (.string (B [ltr 2])) W := fun _ => by kernel_rfl
     have hwk : wrap64 3 = 3 := wrap64_id (by decide) (by decide)
     have HWU := Aside0.mk (show wu a b d e 3 = wu a b d e 2 ++ wk 2 d from rfl)
     by_cases hx : 0 < d
     ·have hz : decide (0 < d) = true := decide_eq_true hx
      have HIA := Aside0.mk (fun (W : World) (hW : Below w.heap.size w W) => HIT.out d (by omega) (by omega) W hW)
      have HWK := Aside0.mk (show (wu a b d e 3).map B = (wu a b d e 2).map B ++ [B [ltr 2] ++ B (Lib.decDigits d.toNat)] by rw [HWU.out, List.map_append]; unfold wk; rw [if_pos hx, B_append]; rfl)
      obtain ⟨hs1, hs2⟩ := str_small (B [ltr 2]) (B (Lib.decDigits d.toNat)) (by rw [B_size]; simp) (by rw [B_size]; have := dd_len (n := d.toNat) (by omega); omega)
      have HLN := Aside0.mk (show ((wu a b d e 2).map B).length ≤ 4 by rw [List.length_map]; exact wu_len a b d e 2 (by decide))
      generalize (wu a b d e 2).map B = L at HRr HWK HLN
      generalize B [ltr 2] = sP at hsl hs1 hs2 HWK
      generalize B (Lib.decDigits d.toNat) = sD at HIA hs1 hs2 HWK
      clear hx HWU
      go_upto_region 8 with (fail)
      refine start_ (n := 11) (S := fun _ => True) (ds := []) #[false, false, false, false, false, false, false, false, false, false, false] (by kernel_rfl) rfl rfl trivial (fun hHeld => ?_)
      generalize hwd : wr.drew = wd
      have HBD := Aside0.mk (show Below w.heap.size w wd by rw [← hwd]; exact below_drew1 HBr.out)
      have HRD := Aside0.mk (show Kd.R Kd.string 9 wd w.heap.size (fun _ => True) u3 L by rw [← hwd]; exact Kd.R_drew HRr.out)
      clear hwd
      refine pure_ (i := 0) (N := some 17) (v := ?_) (a' := ?_) #[true, false, false, false, false, false, false, false, false, false, false] rfl rfl (by kernel_rfl) (fun _ _ _ h => h) (Or.inl ⟨by rfl, ?_⟩) ?_ ?_
      rotate_left
      ·intro w'
       go_simp
       try with_reducible rfl
      rotate_left
      ·simp only [Act.put, List.setIfInBounds_toArray, List.set_cons_zero, List.set_cons_succ, i64_w, i32_w]
       rfl
      refine pure_ (i := 1) (N := some 18) (v := ?_) (a' := ?_) #[true, true, false, false, false, false, false, false, false, false, false] rfl rfl (by kernel_rfl) (fun _ _ _ h => h) (Or.inl ⟨by rfl, ?_⟩) ?_ ?_
      rotate_left
      ·intro w'
       go_simp
       try with_reducible rfl
      rotate_left
      ·simp only [Act.put, List.setIfInBounds_toArray, List.set_cons_zero, List.set_cons_succ, i64_w, i32_w]
       rfl
      refine pure_ (i := 2) (N := some 19) (v := ?_) (a' := ?_) #[true, true, true, false, false, false, false, false, false, false, false] rfl rfl (by kernel_rfl) (fun _ _ _ h => h) (Or.inl ⟨by rfl, ?_⟩) ?_ ?_
      rotate_left
      ·intro w'
       go_simp
       try with_reducible rfl
      rotate_left
      ·simp only [Act.put, List.setIfInBounds_toArray, List.set_cons_zero, List.set_cons_succ, i64_w, i32_w]
       rfl
      refine pure_ (i := 3) (N := some 20) (v := ?_) (a' := ?_) #[true, true, true, true, false, false, false, false, false, false, false] rfl rfl (by kernel_rfl) (fun _ _ _ h => h) (Or.inl ⟨by rfl, ?_⟩) ?_ ?_
      rotate_left
      ·intro w'
       go_simp
       try with_reducible rfl
      rotate_left
      ·simp only [Act.put, List.setIfInBounds_toArray, List.set_cons_zero, List.set_cons_succ, i64_w, i32_w]
       rfl
      refine pure_ (i := 4) (N := some 21) (v := ?_) (a' := ?_) #[true, true, true, true, true, false, false, false, false, false, false] rfl rfl (by kernel_rfl) (fun _ _ _ h => h) (Or.inl ⟨by rfl, ?_⟩) ?_ ?_
      rotate_left
      ·intro w'
       go_simp
       try with_reducible rfl
      rotate_left
      ·simp only [Act.put, List.setIfInBounds_toArray, List.set_cons_zero, List.set_cons_succ, i64_w, i32_w]
       rfl
      refine pure_ (i := 5) (N := some 22) (v := ?_) (a' := ?_) #[true, true, true, true, true, true, false, false, false, false, false] rfl rfl (by kernel_rfl) (fun _ _ _ h => h) (Or.inl ⟨by rfl, ?_⟩) ?_ ?_
      rotate_left
      ·intro w'
       go_simp
       try with_reducible rfl
      rotate_left
      ·simp only [Act.put, List.setIfInBounds_toArray, List.set_cons_zero, List.set_cons_succ, i64_w, i32_w]
       rfl
      refine one_ (i := 6) (N := some 23) #[true, true, true, true, true, true, true, false, false, false, false] rfl rfl (by kernel_rfl) (by decide) (fun K hK => ?_)
      refine goes_ Tryz.func58 (by kernel_rfl) rfl #[.int .i64 d] (by rfl) rfl rfl (by (try simp only [List.map_toArray, List.map_cons, List.map_nil]); first | done | rfl) ?_
      refine (HIA.out _ HBD.out).mono ?_
      rintro ex wi ⟨rfl, q1⟩
      have HBI := Aside0.mk (below_step HBD.out q1)
      have HRI := Aside0.mk (Kd.R_below HRD.out q1)
      clear q1
      refine ⟨_, rfl, ?_⟩
      refine hK.out _ _ trivial (fun hHeld => ?_)
      clear hK K
      refine norm_ (a' := ?_) ?_ ?_
      rotate_left
      ·show Act.put _ (some 23) _ = _
       simp only [Act.put, List.setIfInBounds_toArray, List.set_cons_zero, List.set_cons_succ]
       rfl
      refine pure_ (i := 7) (N := some 24) (v := ?_) (a' := ?_) #[true, true, true, true, true, true, true, true, false, false, false] rfl rfl (by kernel_rfl) (fun _ _ _ h => h) (Or.inl ⟨by rfl, ?_⟩) ?_ ?_
      rotate_left
      ·intro w'
       go_simp
       try with_reducible rfl
      rotate_left
      ·simp only [Act.put, List.setIfInBounds_toArray, List.set_cons_zero, List.set_cons_succ, i64_w, i32_w]
       rfl
      refine one_ (i := 8) (N := some 25) #[true, true, true, true, true, true, true, true, true, false, false] rfl rfl (by kernel_rfl) (by decide) (fun K hK => ?_)
      refine value_ (w1 := ?_) (v := ?_) (by rfl) rfl ?_ ?_
      rotate_left 2
      ·go_simp
       constructor
       ·rfl
       ·rfl
      refine hK.out _ _ trivial (fun hHeld => ?_)
      clear hK K
      refine norm_ (a' := ?_) ?_ ?_
      rotate_left
      ·show Act.put _ (some 25) _ = _
       simp only [Act.put, List.setIfInBounds_toArray, List.set_cons_zero, List.set_cons_succ]
       rfl
      refine one_ (i := 9) (N := some 26) #[true, true, true, true, true, true, true, true, true, true, false] rfl rfl (by kernel_rfl) (by decide) (fun K hK => ?_)
      refine Kd.R_append_step Kd.string (w0 := w) w.heap.size (by rfl) (.tmp 17) (.tmp 25) 87 9 (.string ⟨#[]⟩) 16 rfl Tryz.underlying87 info9 rfl (by decide) (by omega) u3 L (sP ++ sD) [.string (sP ++ sD)] (fun _ => True) (fun _ => False) rfl rfl ?aP (fun _ hk => hk.elim) (fun _ _ => trivial) HRI.out HBI.out (below_size HBI.out) (by have := HLN.out; omega) ?_
      (case aP => exact rfl)
      intro v26 w26 ho hb hg hat
      have HRW := Aside0.mk ho
      have HBW := Aside0.mk hb
      clear ho hb hg hat
      refine hK.out _ _ trivial (fun hHeld => ?_)
      clear hK K
      refine norm_ (a' := ?_) ?_ ?_
      rotate_left
      ·show Act.put _ (some 26) _ = _
       simp only [Act.put, List.setIfInBounds_toArray, List.set_cons_zero, List.set_cons_succ]
       rfl
      refine pure_ (i := 10) (N := some 3) (v := ?_) (a' := ?_) #[true, true, true, true, true, true, true, true, true, true, true] rfl rfl (by kernel_rfl) (fun _ _ _ h => h) (Or.inl ⟨by rfl, ?_⟩) ?_ ?_
      rotate_left
      ·intro w'
       go_simp
       try with_reducible rfl
      rotate_left
      ·simp only [Act.put, List.setIfInBounds_toArray, List.set_cons_zero, List.set_cons_succ, i64_w, i32_w]
       rfl
      refine done_ (by kernel_rfl) ?_
      clear hHeld
      go_wp2
      go_roundg (4 - 3)
      case measure => omega
      case rel => exact ⟨3, by go_num, by omega, by omega, HBW, ⟨by rw [HWK.out]; exact HRW.out⟩⟩
     ·have hz : decide (0 < d) = false := decide_eq_false hx
      have HWK := Aside0.mk (show (wu a b d e 3).map B = (wu a b d e 2).map B by rw [HWU.out]; unfold wk; rw [if_neg hx, List.append_nil])
      clear hx HWU
      go_wp2
      go_roundg (4 - 3)
      case measure => omega
      case rel => exact ⟨3, by go_num, by omega, by omega, HBr, ⟨by rw [HWK.out]; exact HRr.out⟩⟩
    ·have hidx : ∀ W : World, (Instr.index 74 (.agg #[.int .i64 a, .int .i64 b, .int .i64 d, .int .i64 e]) (.int .i64 3)).run Tryz.prog W = .ok (.int .i64 e) W := fun _ => by kernel_rfl
     have hsl : ∀ W : World, (Instr.slice 9 (.string ⟨#[100, 119, 109, 121]⟩) (some (.int .i64 3)) (some (.int .i64 4)) none).run Tryz.prog W = .ok (.string (B [ltr 3])) W := fun _ => by kernel_rfl
     have hwk : wrap64 4 = 4 := wrap64_id (by decide) (by decide)
     have HWU := Aside0.mk (show wu a b d e 4 = wu a b d e 3 ++ wk 3 e from rfl)
     by_cases hx : 0 < e
     ·have hz : decide (0 < e) = true := decide_eq_true hx
      have HIA := Aside0.mk (fun (W : World) (hW : Below w.heap.size w W) => HIT.out e (by omega) (by omega) W hW)
      have HWK := Aside0.mk (show (wu a b d e 4).map B = (wu a b d e 3).map B ++ [B [ltr 3] ++ B (Lib.decDigits e.toNat)] by rw [HWU.out, List.map_append]; unfold wk; rw [if_pos hx, B_append]; rfl)
      obtain ⟨hs1, hs2⟩ := str_small (B [ltr 3]) (B (Lib.decDigits e.toNat)) (by rw [B_size]; simp) (by rw [B_size]; have := dd_len (n := e.toNat) (by omega); omega)
      have HLN := Aside0.mk (show ((wu a b d e 3).map B).length ≤ 4 by rw [List.length_map]; exact wu_len a b d e 3 (by decide))
      generalize (wu a b d e 3).map B = L at HRr HWK HLN
      generalize B [ltr 3] = sP at hsl hs1 hs2 HWK
      generalize B (Lib.decDigits e.toNat) = sD at HIA hs1 hs2 HWK
      clear hx HWU
      go_upto_region 8 with (fail)
      refine start_ (n := 11) (S := fun _ => True) (ds := []) #[false, false, false, false, false, false, false, false, false, false, false] (by kernel_rfl) rfl rfl trivial (fun hHeld => ?_)
      generalize hwd : wr.drew = wd
      have HBD := Aside0.mk (show Below w.heap.size w wd by rw [← hwd]; exact below_drew1 HBr.out)
      have HRD := Aside0.mk (show Kd.R Kd.string 9 wd w.heap.size (fun _ => True) u3 L by rw [← hwd]; exact Kd.R_drew HRr.out)
      clear hwd
      refine pure_ (i := 0) (N := some 17) (v := ?_) (a' := ?_) #[true, false, false, false, false, false, false, false, false, false, false] rfl rfl (by kernel_rfl) (fun _ _ _ h => h) (Or.inl ⟨by rfl, ?_⟩) ?_ ?_
      rotate_left
      ·intro w'
       go_simp
       try with_reducible rfl
      rotate_left
      ·simp only [Act.put, List.setIfInBounds_toArray, List.set_cons_zero, List.set_cons_succ, i64_w, i32_w]
       rfl
      refine pure_ (i := 1) (N := some 18) (v := ?_) (a' := ?_) #[true, true, false, false, false, false, false, false, false, false, false] rfl rfl (by kernel_rfl) (fun _ _ _ h => h) (Or.inl ⟨by rfl, ?_⟩) ?_ ?_
      rotate_left
      ·intro w'
       go_simp
       try with_reducible rfl
      rotate_left
      ·simp only [Act.put, List.setIfInBounds_toArray, List.set_cons_zero, List.set_cons_succ, i64_w, i32_w]
       rfl
      refine pure_ (i := 2) (N := some 19) (v := ?_) (a' := ?_) #[true, true, true, false, false, false, false, false, false, false, false] rfl rfl (by kernel_rfl) (fun _ _ _ h => h) (Or.inl ⟨by rfl, ?_⟩) ?_ ?_
      rotate_left
      ·intro w'
       go_simp
       try with_reducible rfl
      rotate_left
      ·simp only [Act.put, List.setIfInBounds_toArray, List.set_cons_zero, List.set_cons_succ, i64_w, i32_w]
       rfl
      refine pure_ (i := 3) (N := some 20) (v := ?_) (a' := ?_) #[true, true, true, true, false, false, false, false, false, false, false] rfl rfl (by kernel_rfl) (fun _ _ _ h => h) (Or.inl ⟨by rfl, ?_⟩) ?_ ?_
      rotate_left
      ·intro w'
       go_simp
       try with_reducible rfl
      rotate_left
      ·simp only [Act.put, List.setIfInBounds_toArray, List.set_cons_zero, List.set_cons_succ, i64_w, i32_w]
       rfl
      refine pure_ (i := 4) (N := some 21) (v := ?_) (a' := ?_) #[true, true, true, true, true, false, false, false, false, false, false] rfl rfl (by kernel_rfl) (fun _ _ _ h => h) (Or.inl ⟨by rfl, ?_⟩) ?_ ?_
      rotate_left
      ·intro w'
       go_simp
       try with_reducible rfl
      rotate_left
      ·simp only [Act.put, List.setIfInBounds_toArray, List.set_cons_zero, List.set_cons_succ, i64_w, i32_w]
       rfl
      refine pure_ (i := 5) (N := some 22) (v := ?_) (a' := ?_) #[true, true, true, true, true, true, false, false, false, false, false] rfl rfl (by kernel_rfl) (fun _ _ _ h => h) (Or.inl ⟨by rfl, ?_⟩) ?_ ?_
      rotate_left
      ·intro w'
       go_simp
       try with_reducible rfl
      rotate_left
      ·simp only [Act.put, List.setIfInBounds_toArray, List.set_cons_zero, List.set_cons_succ, i64_w, i32_w]
       rfl
      refine one_ (i := 6) (N := some 23) #[true, true, true, true, true, true, true, false, false, false, false] rfl rfl (by kernel_rfl) (by decide) (fun K hK => ?_)
      refine goes_ Tryz.func58 (by kernel_rfl) rfl #[.int .i64 e] (by rfl) rfl rfl (by (try simp only [List.map_toArray, List.map_cons, List.map_nil]); first | done | rfl) ?_
      refine (HIA.out _ HBD.out).mono ?_
      rintro ex wi ⟨rfl, q1⟩
      have HBI := Aside0.mk (below_step HBD.out q1)
      have HRI := Aside0.mk (Kd.R_below HRD.out q1)
      clear q1
      refine ⟨_, rfl, ?_⟩
      refine hK.out _ _ trivial (fun hHeld => ?_)
      clear hK K
      refine norm_ (a' := ?_) ?_ ?_
      rotate_left
      ·show Act.put _ (some 23) _ = _
       simp only [Act.put, List.setIfInBounds_toArray, List.set_cons_zero, List.set_cons_succ]
       rfl
      refine pure_ (i := 7) (N := some 24) (v := ?_) (a' := ?_) #[true, true, true, true, true, true, true, true, false, false, false] rfl rfl (by kernel_rfl) (fun _ _ _ h => h) (Or.inl ⟨by rfl, ?_⟩) ?_ ?_
      rotate_left
      ·intro w'
       go_simp
       try with_reducible rfl
      rotate_left
      ·simp only [Act.put, List.setIfInBounds_toArray, List.set_cons_zero, List.set_cons_succ, i64_w, i32_w]
       rfl
      refine one_ (i := 8) (N := some 25) #[true, true, true, true, true, true, true, true, true, false, false] rfl rfl (by kernel_rfl) (by decide) (fun K hK => ?_)
      refine value_ (w1 := ?_) (v := ?_) (by rfl) rfl ?_ ?_
      rotate_left 2
      ·go_simp
       constructor
       ·rfl
       ·rfl
      refine hK.out _ _ trivial (fun hHeld => ?_)
      clear hK K
      refine norm_ (a' := ?_) ?_ ?_
      rotate_left
      ·show Act.put _ (some 25) _ = _
       simp only [Act.put, List.setIfInBounds_toArray, List.set_cons_zero, List.set_cons_succ]
       rfl
      refine one_ (i := 9) (N := some 26) #[true, true, true, true, true, true, true, true, true, true, false] rfl rfl (by kernel_rfl) (by decide) (fun K hK => ?_)
      refine Kd.R_append_step Kd.string (w0 := w) w.heap.size (by rfl) (.tmp 17) (.tmp 25) 87 9 (.string ⟨#[]⟩) 16 rfl Tryz.underlying87 info9 rfl (by decide) (by omega) u3 L (sP ++ sD) [.string (sP ++ sD)] (fun _ => True) (fun _ => False) rfl rfl ?aP (fun _ hk => hk.elim) (fun _ _ => trivial) HRI.out HBI.out (below_size HBI.out) (by have := HLN.out; omega) ?_
      (case aP => exact rfl)
      intro v26 w26 ho hb hg hat
      have HRW := Aside0.mk ho
      have HBW := Aside0.mk hb
      clear ho hb hg hat
      refine hK.out _ _ trivial (fun hHeld => ?_)
      clear hK K
      refine norm_ (a' := ?_) ?_ ?_
      rotate_left
      ·show Act.put _ (some 26) _ = _
       simp only [Act.put, List.setIfInBounds_toArray, List.set_cons_zero, List.set_cons_succ]
       rfl
      refine pure_ (i := 10) (N := some 3) (v := ?_) (a' := ?_) #[true, true, true, true, true, true, true, true, true, true, true] rfl rfl (by kernel_rfl) (fun _ _ _ h => h) (Or.inl ⟨by rfl, ?_⟩) ?_ ?_
      rotate_left
      ·intro w'
       go_simp
       try with_reducible rfl
      rotate_left
      ·simp only [Act.put, List.setIfInBounds_toArray, List.set_cons_zero, List.set_cons_succ, i64_w, i32_w]
       rfl
      refine done_ (by kernel_rfl) ?_
      clear hHeld
      go_wp2
      go_roundg (4 - 4)
      case measure => omega
      case rel => exact ⟨4, by go_num, by omega, by omega, HBW, ⟨by rw [HWK.out]; exact HRW.out⟩⟩
     ·have hz : decide (0 < e) = false := decide_eq_false hx
      have HWK := Aside0.mk (show (wu a b d e 4).map B = (wu a b d e 3).map B by rw [HWU.out]; unfold wk; rw [if_neg hx, List.append_nil])
      clear hx HWU
      go_wp2
      go_roundg (4 - 4)
      case measure => omega
      case rel => exact ⟨4, by go_num, by omega, by omega, HBr, ⟨by rw [HWK.out]; exact HRr.out⟩⟩
   ·have hkz : decide ((k : Int) < 4) = false := decide_eq_false (by omega)
    obtain rfl : k = 4 := by omega
    rw [wu_four] at HRr
    by_cases hw0 : wordsP a b d e = []
    ·have HN := Aside0.mk (show T = [100, 48] by rw [HT.out]; unfold printL; rw [if_pos HRP.out, if_pos hw0])
     rw [hw0] at HRr
     obtain ⟨A3, c3, hv⟩ := Kd.R_slice HRr.out
     subst hv
     go_wp2
     go_ret
     exact ⟨by rw [HN.out]; rfl, HBr.out⟩
    ·have HN := Aside0.mk (show T = Lib.join (wordsP a b d e) [32] by rw [HT.out]; unfold printL; rw [if_pos HRP.out, if_neg hw0])
     have hlp : 0 < ((wordsP a b d e).map B).length := by rw [List.length_map]; exact List.length_pos_iff.2 hw0
     obtain ⟨g3, c3, hv, _, hg3, _⟩ := Kd.R_form HRr.out hlp
     subst hv
     obtain ⟨_, hc3, hC3⟩ := Kd.R_reads' HRr.out
     have hln : ((wordsP a b d e).map B).length ≤ 4 := by rw [List.length_map, ← wu_four]; exact wu_len a b d e 4 (by decide)
     have hjn : ((wordsP a b d e).map B).map (fun x => x.data.toList) = wordsP a b d e := by
      rw [List.map_map]
      exact List.map_id'' (fun x => B_data x) _
     have HJ := Aside0.mk (show Calls Tryz.prog 59 #[.slice (some ⟨g3, 0, none⟩) ((wordsP a b d e).map B).length c3, .string ⟨#[32]⟩] wr fun ex w' => ex = .returned (.string (B T)) ∧ Below wr.heap.size wr w' from by
      have h := Any.strings_Join { Tryz.layJoin with } extraJoin g3 0 c3 ((wordsP a b d e).map B) ⟨#[32]⟩ wr (fun j x hx => by
       obtain ⟨hj, hxe⟩ := List.getElem?_eq_some_iff.1 hx
       obtain ⟨ad, he, h1⟩ := Kd.at_string hC3 (j : Int) (by omega) (by omega)
       cases he
       rw [Int.toNat_natCast, add_plain] at h1
       rw [Nat.zero_add, h1]
       unfold rdOf
       rw [Int.toNat_natCast, List.getD_eq_getElem?_getD, hx]
       rfl) hg3 (by omega) hc3 (by rw [hjn]; exact Nat.le_trans (print_len a b d e HRP.out) (by decide))
      rw [hjn, ← show T = Lib.join (wordsP a b d e) [32] from HN.out] at h
      exact h)
     generalize (wordsP a b d e).map B = L at HJ hlp hln
     have hz : ((L.length : Int) == 0) = false := by rw [beq_eq_false_iff_ne]; omega
     go_wp2_with (go_at_call 59; go_loud (refine HJ.out.mono ?_; rintro ex wj ⟨rfl, q1⟩; have HBj := Aside0.mk (below_step HBr.out q1); clear q1))
     go_ret
     exact ⟨rfl, HBj.out⟩
end Go.Proofs.YtfdlbnfjohpdlaaGreatDoor.PPo
namespace Go.Proofs.YtfdlbnfjohpdlaaGreatDoor.Th
open Go.RowKit Go.Lib Go.Proofs.YtfdlbnfjohpdlaaGreatDoor.PPo Go.Proofs.YtfdlbnfjohpdlaaGreatDoorW.PrintWords
set_option linter.unusedVariables false
theorem refdec_ev (n : Nat) (h : n ≤ 100000) : Evt (fun k => rootcellarref16_decimal.f k (n : Int)) (B (decDigits n)) := by
 have hcall : ∀ (x : Nat) (acc : List UInt8) (r : ByteArray), x ≤ 100000 → acc.length ≤ 200000 → Evt (fun k => rootcellarref16_decimal.l0 k ((x / 10 : Nat) : Int) (B (UInt8.ofNat (48 + x % 10) :: acc))) r → Evt (fun k => if 0 ≤ (Int.tmod (x : Int) 10) then (if (Int.tmod (x : Int) 10) ≤ (wrap64 ((Int.tmod (x : Int) 10) + 1)) then (if (wrap64 ((Int.tmod (x : Int) 10) + 1)) ≤ 10 then (if ((⟨#[48, 49, 50, 51, 52, 53, 54, 55, 56, 57]⟩ : ByteArray).extract ((Int.tmod (x : Int) 10) : Int).toNat ((wrap64 ((Int.tmod (x : Int) 10) + 1)) : Int).toNat).size + (B acc).size ≤ 9223372036854775807 then (rootcellarref16_decimal.l0 k (wrap64 (Int.tdiv (x : Int) 10)) (((⟨#[48, 49, 50, 51, 52, 53, 54, 55, 56, 57]⟩ : ByteArray).extract ((Int.tmod (x : Int) 10) : Int).toNat ((wrap64 ((Int.tmod (x : Int) 10) + 1)) : Int).toNat) ++ (B acc))) else (none)) else (none)) else (none)) else (none)) r := fun x acc r hx ha hr => by
  have hm : Int.tmod (x : Int) 10 = ((x % 10 : Nat) : Int) := rfl
  have hd : Int.tdiv (x : Int) 10 = ((x / 10 : Nat) : Int) := rfl
  have hlt : x % 10 < 10 := Nat.mod_lt _ (by decide)
  rw [hm, hd, idxP _ (by omega), wrap64_id (by omega) (by omega), Int.toNat_natCast, Int.toNat_natCast]
  have hx1 : (⟨#[48, 49, 50, 51, 52, 53, 54, 55, 56, 57]⟩ : ByteArray).extract (x % 10) (x % 10 + 1) = B [UInt8.ofNat (48 + x % 10)] := by
   have e : (⟨#[48, 49, 50, 51, 52, 53, 54, 55, 56, 57]⟩ : ByteArray) = B [48, 49, 50, 51, 52, 53, 54, 55, 56, 57] := rfl
   rw [e, B_extract]
   have hf : ∀ d : Fin 10, ((([48, 49, 50, 51, 52, 53, 54, 55, 56, 57] : List UInt8).drop d.val).take (d.val + 1 - d.val)) = [UInt8.ofNat (48 + d.val)] := by decide +kernel
   rw [hf ⟨x % 10, hlt⟩]
  rw [hx1, B_append]
  refine Evt.pos (by omega) (Evt.pos (by omega) (Evt.pos (by omega) (Evt.pos (by rw [B_size, B_size, List.length_singleton]; omega) ?_)))
  exact hr
 have hstop : ∀ (acc : List UInt8), acc ≠ [] → Evt (fun k => rootcellarref16_decimal.l0 k ((0 : Nat) : Int) (B acc)) (B acc) := fun acc ha => by
  refine Evt.step (fun k => by rw [rootcellarref16_decimal.l0]) ?_
  refine Evt.neg (by omega) ?_
  rw [B_toList]
  exact Evt.neg ha (Evt.val _)
 have key : ∀ (x : Nat), 1 ≤ x → x ≤ 100000 → ∀ acc : List UInt8, acc.length + x ≤ 100500 → Evt (fun k => rootcellarref16_decimal.l0 k (x : Int) (B acc)) (B (decDigits x ++ acc)) := by
  intro x
  induction x using Nat.strongRecOn with
  | _ x ih =>
   intro h1 h2 acc ha
   refine Evt.step (fun k => by rw [rootcellarref16_decimal.l0]) ?_
   refine Evt.pos (by omega) ?_
   by_cases h10 : x < 10
   ·refine hcall x acc _ h2 (by omega) ?_
    rw [show x / 10 = 0 by omega]
    rw [decDigits_one h10, show x % 10 = x by omega]
    exact hstop _ (by simp)
   ·refine hcall x acc _ h2 (by omega) ?_
    have := ih (x / 10) (by omega) (by omega) (by omega) (UInt8.ofNat (48 + x % 10) :: acc) (by rw [List.length_cons]; omega)
    rw [dd_big h10, List.append_assoc]
    exact this
 unfold rootcellarref16_decimal.f
 by_cases h0 : n = 0
 ·subst h0
  rw [decDigits_one (by decide)]
  refine Evt.step (fun k => by rw [rootcellarref16_decimal.l0]) ?_
  refine Evt.neg (by omega) ?_
  rw [B_nil, B_toList]
  refine Evt.pos rfl ?_
  exact hcall 0 [] _ (by omega) (by simp) (hstop _ (by simp))
 ·have := key n (by omega) h [] (by rw [List.length_nil]; omega)
  rw [List.append_nil] at this
  exact this
end Go.Proofs.YtfdlbnfjohpdlaaGreatDoor.Th
namespace Go.Proofs.YtfdlbnfjohpdlaaGreatDoor.Th
open Go.RowKit Go.Lib Go.Proofs.YtfdlbnfjohpdlaaGreatDoor.PPo Go.Proofs.YtfdlbnfjohpdlaaGreatDoorW.PrintWords
set_option linter.unusedVariables false
theorem joinTail_app (sep : List UInt8) (a b : List (List UInt8)) : joinTail sep (a ++ b) = joinTail sep a ++ joinTail sep b := by unfold joinTail; simp
theorem join_snoc (ws : List (List UInt8)) (w : List UInt8) (h : ws ≠ []) : join (ws ++ [w]) [32] = join ws [32] ++ [32] ++ w := by
 match ws, h with
 | x :: r, _ =>
  rw [List.cons_append, join_cons, join_cons, joinTail_app]
  simp [joinTail]
theorem join_ne {ws : List (List UInt8)} (hw : ∀ w ∈ ws, Word w) (h : ws ≠ []) : join ws [32] ≠ [] := by
 match ws, h with
 | x :: r, _ =>
  rw [join_cons]
  intro he
  exact (hw x (List.mem_cons_self ..)).1 (List.append_eq_nil_iff.1 he).1
theorem wu_word (a b d e : Int) : ∀ k, k ≤ 4 → ∀ w ∈ wu a b d e k, Word w
 | 0, _, w, hw => by cases hw
 | k + 1, hk, w, hw => by
  rw [wu] at hw
  rcases List.mem_append.1 hw with hw | hw
  ·exact wu_word a b d e k (by omega) w hw
  ·exact wk_word (by omega) _ w hw
theorem wu_join (a b d e : Int) (h : rightP a b d e = true) (k : Nat) (hk : k ≤ 4) : (join (wu a b d e k) [32]).length ≤ 100 := by
 have hle : ∀ k, k ≤ 4 → (join (wu a b d e k) [32]).length ≤ 6 * k := by
  obtain ⟨⟨a0, a1⟩, ⟨b0, b1⟩, ⟨d0, d1⟩, e0, e1⟩ := right_iff.1 h
  intro k
  induction k with
  | zero => intro _; exact Nat.le_refl _
  | succ k ih =>
   intro hk
   have h1 := ih (by omega)
   have hn : ofP a b d e (k : Int) ≤ 1000 := by
    have h5 : k = 0 ∨ k = 1 ∨ k = 2 ∨ k = 3 := by omega
    rcases h5 with rfl | rfl | rfl | rfl
    ·exact a1
    ·exact b1
    ·exact d1
    ·exact e1
   rw [wu]
   unfold wk
   by_cases hx : 0 < ofP a b d e (k : Int)
   ·rw [if_pos hx]
    have hd := dd_len (n := (ofP a b d e (k : Int)).toNat) (by omega)
    by_cases hw : wu a b d e k = []
    ·rw [hw, List.nil_append, join_one, List.length_cons]
     omega
    ·rw [join_snoc _ _ hw, List.length_append, List.length_append]
     simp only [List.length_cons, List.length_nil]
     omega
   ·rw [if_neg hx, List.append_nil]
    omega
 have := hle k hk
 omega
end Go.Proofs.YtfdlbnfjohpdlaaGreatDoor.Th
namespace Go.Proofs.YtfdlbnfjohpdlaaGreatDoor.PPo
open Go.RowKit Go.Proofs.YtfdlbnfjohpdlaaGreatDoor.Th Go.Proofs.YtfdlbnfjohpdlaaGreatDoorW.PrintWords Go.Proofs.YtfdlbnfjohpdlaaGreatDoorW.PrintLast Go.Proofs.YtfdlbnfjohpdlaaGreatDoorW.PrintMore
attribute [local go_sem] max2_int min2_int max_two min_two max_three min_three max_four min_four
attribute [local go_sem high] hw_str_leq hw_str_gtr
set_option linter.unusedVariables false
set_option linter.unusedSimpArgs false
set_option maxHeartbeats 8000000 in
set_option maxRecDepth 100000 in
theorem refPrint.calls (a b d e : Int) (w : World) : Calls Tryz.prog 32 #[.agg #[.int .i64 a, .int .i64 b, .int .i64 d, .int .i64 e]] w fun ex w' => ex = .returned (.string (B (printL a b d e))) ∧ Below w.heap.size w w' := by
 have hup := Tryz.underlying37
 have mixed : Tryz.prog.follows .mixedOrders = true := by kernel_rfl
 have HB := Aside0.mk (Below.refl w.heap.size w)
 have HP := Aside0.mk (fun (W : World) => rootcellarref16_Right.calls a b d e _ W (refright_f a b d e))
 have HDC := Aside0.mk (fun (x : Int) (h0 : 0 ≤ x) (h1 : x ≤ 1000) (W : World) => show Calls Tryz.prog 60 #[.int .i64 x] W fun e w' => e = .returned (.string (B (Lib.decDigits x.toNat))) ∧ Below W.heap.size W w' from by
  obtain ⟨k, hk⟩ := (refdec_ev x.toNat (by omega)).get
  rw [show ((x.toNat : Nat) : Int) = x by omega] at hk
  exact (rootcellarref16_decimal.calls k x _ W hk).mono fun e w' q => ⟨q.1, q.2.below⟩)
 obtain ⟨T, hT⟩ : ∃ T, T = printL a b d e := ⟨_, rfl⟩
 rw [← hT]
 have HT := Aside0.mk hT
 clear hT
 cases hp : rightP a b d e with
 | false =>
  have HN := Aside0.mk (show T = [] by rw [HT.out]; unfold printL; rw [if_neg (by rw [hp]; decide)])
  rw [hp] at HP
  clear hp
  go_enter Tryz.func32, Tryz.ntmps32
  go_wp2_with (first
   | ((with_reducible refine gate_dst (N := 1) rfl ?_); refine box_event ?hg (N := 1) ?hd (cs := #[.int .i64 a, .int .i64 b, .int .i64 d, .int .i64 e]) (t := 37) ?hr ?_; (case hd => rfl); (case hg => rfl); (case hr => first | (go_simp; done) | (go_simp; rfl)); intro g1 hg1 wb1 hbox hb; have HB1 := Aside0.mk (below_step HB.out hb); have BK1 := Aside0.mk hbox; have HG1 := Aside0.mk (show w.heap.size ≤ g1 by rw [hg1]; exact below_size HB.out); clear hg1 hb hbox; have hb1_0 := blk_cell BK1.out 0; have hb1_1 := blk_cell BK1.out 1; have hb1_2 := blk_cell BK1.out 2; have hb1_3 := blk_cell BK1.out 3)
   | (go_at_call 30; go_loud (refine (HP.out _).mono ?_; rintro ex w7 ⟨rfl, q1⟩; have HB7 := Aside0.mk (below_step HB1.out q1); clear q1)))
  go_ret
  exact ⟨by rw [HN.out]; rfl, HB7.out⟩
 | true =>
  rw [hp] at HP
  obtain ⟨⟨a0, a1⟩, ⟨b0, b1⟩, ⟨d0, d1⟩, e0, e1⟩ := right_iff.1 hp
  have HRP := Aside0.mk hp
  clear hp
  go_enter Tryz.func32, Tryz.ntmps32
  go_wp2_with (first
   | ((with_reducible refine gate_dst (N := 1) rfl ?_); refine box_event ?hg (N := 1) ?hd (cs := #[.int .i64 a, .int .i64 b, .int .i64 d, .int .i64 e]) (t := 37) ?hr ?_; (case hd => rfl); (case hg => rfl); (case hr => first | (go_simp; done) | (go_simp; rfl)); intro g1 hg1 wb1 hbox hb; have HB1 := Aside0.mk (below_step HB.out hb); have BK1 := Aside0.mk hbox; have HG1 := Aside0.mk (show w.heap.size ≤ g1 by rw [hg1]; exact below_size HB.out); clear hg1 hb hbox; have hb1_0 := blk_cell BK1.out 0; have hb1_1 := blk_cell BK1.out 1; have hb1_2 := blk_cell BK1.out 2; have hb1_3 := blk_cell BK1.out 3)
   | (go_at_call 30; go_loud (refine (HP.out _).mono ?_; rintro ex w7 ⟨rfl, q1⟩; have HB7 := Aside0.mk (below_step HB1.out q1); have BP7 := Aside0.mk (blk_below BK1.out q1); clear q1 hb1_0 hb1_1 hb1_2 hb1_3)))
  go_loopg [4, 5] 4 (fun gg s4 s5 wr => ∃ k : Nat, s4 = .string (B (Lib.join (wu a b d e k) [32])) ∧ s5 = .int .i64 k ∧ k ≤ 4 ∧ 4 - k ≤ gg ∧ Aside0 (Below w.heap.size w wr) ∧ Aside0 (wr.heap[g1]? = some (.cells #[.int .i64 a, .int .i64 b, .int .i64 d, .int .i64 e] 37 (0, 0))))
  case atStart => exact ⟨0, rfl, rfl, by omega, by omega, HB7, BP7⟩
  case round =>
   obtain ⟨k, rfl, rfl, hk, hg, HBr, BPr⟩ := hrel
   have hp0 := blk_cell BPr.out 0
   have hp1 := blk_cell BPr.out 1
   have hp2 := blk_cell BPr.out 2
   have hp3 := blk_cell BPr.out 3
   by_cases hk4 : k < 4
   ·have hkz : decide ((k : Int) < 4) = true := decide_eq_true (by omega)
    have h5 : k = 0 ∨ k = 1 ∨ k = 2 ∨ k = 3 := by omega
    rcases h5 with rfl | rfl | rfl | rfl
    ·have hsl : ∀ W : World, (Instr.slice 9 (.string ⟨#[100, 119, 109, 121]⟩) (some (.int .i64 0)) (some (.int .i64 1)) none).run Tryz.prog W = .ok (.string (B [ltr 0])) W := fun _ => by kernel_rfl
     have hwk : wrap64 1 = 1 := wrap64_id (by decide) (by decide)
     have HWU := Aside0.mk (show wu a b d e 1 = wu a b d e 0 ++ wk 0 a from rfl)
     have HOF := Aside0.mk (show ∀ W : World, Calls Tryz.prog 26 #[.agg #[.int .i64 a, .int .i64 b, .int .i64 d, .int .i64 e], .int .i64 0] W fun ex w' => ex = .returned (.int .i64 a) ∧ Below W.heap.size W w' from fun W => rootcellarref16_Of.calls a b d e 0 a W rfl)
     have HJL := Aside0.mk (show (Lib.join (wu a b d e 0) [32]).length ≤ 200 from Nat.le_trans (wu_join a b d e HRP.out 0 (by decide)) (by decide))
     by_cases hx : 0 < a
     ·have hz : (a == 0) = false := by rw [beq_eq_false_iff_ne]; omega
      have HDX := Aside0.mk (fun (W : World) => HDC.out a (by omega) (by omega) W)
      have HWK := Aside0.mk (show wk 0 a = [ltr 0 :: Lib.decDigits a.toNat] from if_pos hx)
      have hdl : (B (Lib.decDigits a.toNat)).size ≤ 4 := by rw [B_size]; exact dd_len (by omega)
      have hpl : (B [ltr 0]).size = 1 := by rw [B_size]; rfl
      have hjl : (B (Lib.join (wu a b d e 0) [32])).size ≤ 200 := by rw [B_size]; exact HJL.out
      have HPD := Aside0.mk (show B [ltr 0] ++ B (Lib.decDigits a.toNat) = B (ltr 0 :: Lib.decDigits a.toNat) from B_append _ _)
      have HJT := Aside0.mk (B_toList (Lib.join (wu a b d e 0) [32]))
      by_cases hwe : wu a b d e 0 = []
      ·have HQ := Aside0.mk (show B (Lib.join (wu a b d e 1) [32]) = B (Lib.join (wu a b d e 0) [32]) ++ B [ltr 0] ++ B (Lib.decDigits a.toNat) by
        rw [HWU.out, HWK.out, hwe, List.nil_append, Lib.join_one, show Lib.join [] [32] = [] from rfl, B_append, B_append]
        rfl)
       have hse : ((B (Lib.join (wu a b d e 0) [32])).toList == ([] : List UInt8)) = true := by rw [HJT.out, hwe]; rfl
       have hsn : ((B (Lib.join (wu a b d e 0) [32])).toList != ([] : List UInt8)) = false := by rw [HJT.out, hwe]; rfl
       generalize B (Lib.join (wu a b d e 0) [32]) = sQ at hse hsn HQ hjl ⊢
       generalize B [ltr 0] = sP at hsl HQ hpl
       generalize B (Lib.decDigits a.toNat) = sD at HDX HQ hdl
       obtain ⟨f1, f2⟩ := str_small sQ sP (by omega) (by omega)
       obtain ⟨f3, f4⟩ := str_small (sQ ++ sP) sD (by rw [ByteArray.size_append]; omega) (by omega)
       have f5 : (sQ.size + sP.size + sD.size ≤ 9223372036854775807) = True := eq_true (by omega)
       have f6 : (9223372036854775807 < sQ.size + sP.size + sD.size) = False := eq_false (by omega)
       clear hx HWU HWK HPD HJT HJL hwe hdl hpl hjl
       go_upto_region 11 with (go_at_call 26; go_loud (refine (HOF.out _).mono ?_; rintro ex wo ⟨rfl, q1⟩; have HBo := Aside0.mk (below_step HBr.out q1); have BPo := Aside0.mk (blk_below BPr.out q1); clear q1 hp0 hp1 hp2 hp3))
       refine start_ (n := 12) (S := fun w' => w'.cell? ⟨g1, 0, none⟩ = some (.int .i64 a) ∧ w'.cell? ⟨g1, 1, none⟩ = some (.int .i64 b) ∧ w'.cell? ⟨g1, 2, none⟩ = some (.int .i64 d) ∧ w'.cell? ⟨g1, 3, none⟩ = some (.int .i64 e)) (ds := []) #[false, false, false, false, false, false, false, false, false, false, false, false] (by kernel_rfl) rfl rfl ⟨blk_cell BPo.out 0, blk_cell BPo.out 1, blk_cell BPo.out 2, blk_cell BPo.out 3⟩ (fun hHeld => ?_)
       generalize hwd : wo.drew = wd at hHeld ⊢
       have HBD := Aside0.mk (show Below w.heap.size w wd by rw [← hwd]; exact below_drew1 HBo.out)
       have BPD := Aside0.mk (show wd.heap[g1]? = some (.cells #[.int .i64 a, .int .i64 b, .int .i64 d, .int .i64 e] 37 (0, 0)) by rw [← hwd]; exact BPo.out)
       clear hwd
       refine pure_ (i := 0) (N := some 22) (v := ?_) (a' := ?_) #[true, false, false, false, false, false, false, false, false, false, false, false] rfl rfl (by kernel_rfl) (fun _ _ _ h => h) (Or.inl ⟨by rfl, ?_⟩) ?_ ?_
       rotate_left
       ·intro w'
        go_simp
        try with_reducible rfl
       rotate_left
       ·simp only [Act.put, List.setIfInBounds_toArray, List.set_cons_zero, List.set_cons_succ, i64_w, i32_w]
        rfl
       refine pure_ (i := 1) (N := some 23) (v := ?_) (a' := ?_) #[true, true, false, false, false, false, false, false, false, false, false, false] rfl rfl (by kernel_rfl) (fun _ _ _ h => h) (Or.inl ⟨by rfl, ?_⟩) ?_ ?_
       rotate_left
       ·intro w'
        go_simp
        try with_reducible rfl
       rotate_left
       ·simp only [Act.put, List.setIfInBounds_toArray, List.set_cons_zero, List.set_cons_succ, i64_w, i32_w]
        rfl
       refine pure_ (i := 2) (N := some 24) (v := ?_) (a' := ?_) #[true, true, true, false, false, false, false, false, false, false, false, false] rfl rfl (by kernel_rfl) (fun _ _ _ h => h) (Or.inl ⟨by rfl, ?_⟩) ?_ ?_
       rotate_left
       ·intro w'
        go_simp
        try with_reducible rfl
       rotate_left
       ·simp only [Act.put, List.setIfInBounds_toArray, List.set_cons_zero, List.set_cons_succ, i64_w, i32_w]
        rfl
       refine pure_ (i := 3) (N := some 25) (v := ?_) (a' := ?_) #[true, true, true, true, false, false, false, false, false, false, false, false] rfl rfl (by kernel_rfl) (fun _ _ _ h => h) (Or.inl ⟨by rfl, ?_⟩) ?_ ?_
       rotate_left
       ·intro w'
        go_simp
        try with_reducible rfl
       rotate_left
       ·simp only [Act.put, List.setIfInBounds_toArray, List.set_cons_zero, List.set_cons_succ, i64_w, i32_w]
        rfl
       refine pure_ (i := 4) (N := some 26) (v := ?_) (a' := ?_) #[true, true, true, true, true, false, false, false, false, false, false, false] rfl rfl (by kernel_rfl) (fun _ _ _ h => h) (Or.inl ⟨by rfl, ?_⟩) ?_ ?_
       rotate_left
       ·intro w'
        go_simp
        try with_reducible rfl
       rotate_left
       ·simp only [Act.put, List.setIfInBounds_toArray, List.set_cons_zero, List.set_cons_succ, i64_w, i32_w]
        rfl
       refine pure_ (i := 5) (N := some 27) (v := ?_) (a' := ?_) #[true, true, true, true, true, true, false, false, false, false, false, false] rfl rfl (by kernel_rfl) (fun _ _ _ h => h) (Or.inl ⟨by rfl, ?_⟩) ?_ ?_
       rotate_left
       ·intro w'
        go_simp
        try with_reducible rfl
       rotate_left
       ·simp only [Act.put, List.setIfInBounds_toArray, List.set_cons_zero, List.set_cons_succ, i64_w, i32_w]
        rfl
       refine take_ (i := 6) (N := some 28) (v := ?_) (a' := ?_) #[true, true, true, true, true, true, true, false, false, false, false, false] rfl rfl (by kernel_rfl) (fun _ _ _ h => h) (Or.inl ⟨by rfl, ?_⟩) hHeld ?_ ?_
       rotate_left
       ·rintro w' ⟨s0_, s1_, s2_, s3_⟩
        go_simp
        try with_reducible rfl
       rotate_left
       ·simp only [Act.put, List.setIfInBounds_toArray, List.set_cons_zero, List.set_cons_succ, i64_w, i32_w]
        rfl
       refine pure_ (i := 7) (N := some 29) (v := ?_) (a' := ?_) #[true, true, true, true, true, true, true, true, false, false, false, false] rfl rfl (by kernel_rfl) (fun _ _ _ h => h) (Or.inl ⟨by rfl, ?_⟩) ?_ ?_
       rotate_left
       ·intro w'
        go_simp
        try with_reducible rfl
       rotate_left
       ·simp only [Act.put, List.setIfInBounds_toArray, List.set_cons_zero, List.set_cons_succ, i64_w, i32_w]
        rfl
       refine one_ (i := 8) (N := some 30) #[true, true, true, true, true, true, true, true, true, false, false, false] rfl rfl (by kernel_rfl) (by decide) (fun K hK => ?_)
       refine goes_ Tryz.func26 (by kernel_rfl) rfl #[.agg #[.int .i64 a, .int .i64 b, .int .i64 d, .int .i64 e], .int .i64 0] (by rfl) rfl rfl (by (try simp only [List.map_toArray, List.map_cons, List.map_nil]); first | done | rfl) ?_
       refine (HOF.out _).mono ?_
       rintro ex wf ⟨rfl, q1⟩
       have HBF := Aside0.mk (below_step HBD.out q1)
       have BPF := Aside0.mk (blk_below BPD.out q1)
       clear q1
       refine ⟨_, rfl, ?_⟩
       refine hK.out _ _ ⟨blk_cell BPF.out 0, blk_cell BPF.out 1, blk_cell BPF.out 2, blk_cell BPF.out 3⟩ (fun hHeld => ?_)
       clear hK K
       refine norm_ (a' := ?_) ?_ ?_
       rotate_left
       ·show Act.put _ (some 30) _ = _
        simp only [Act.put, List.setIfInBounds_toArray, List.set_cons_zero, List.set_cons_succ]
        rfl
       refine one_ (i := 9) (N := some 31) #[true, true, true, true, true, true, true, true, true, true, false, false] rfl rfl (by kernel_rfl) (by decide) (fun K hK => ?_)
       refine goes_ Tryz.func60 (by kernel_rfl) rfl #[.int .i64 a] (by rfl) rfl rfl (by (try simp only [List.map_toArray, List.map_cons, List.map_nil]); first | done | rfl) ?_
       refine (HDX.out _).mono ?_
       rintro ex wg ⟨rfl, q1⟩
       have HBG := Aside0.mk (below_step HBF.out q1)
       have BPG := Aside0.mk (blk_below BPF.out q1)
       clear q1
       refine ⟨_, rfl, ?_⟩
       refine hK.out _ _ ⟨blk_cell BPG.out 0, blk_cell BPG.out 1, blk_cell BPG.out 2, blk_cell BPG.out 3⟩ (fun hHeld => ?_)
       clear hK K
       refine norm_ (a' := ?_) ?_ ?_
       rotate_left
       ·show Act.put _ (some 31) _ = _
        simp only [Act.put, List.setIfInBounds_toArray, List.set_cons_zero, List.set_cons_succ]
        rfl
       refine pure_ (i := 10) (N := some 32) (v := ?_) (a' := ?_) #[true, true, true, true, true, true, true, true, true, true, true, false] rfl rfl (by kernel_rfl) (fun _ _ _ h => h) (Or.inl ⟨by rfl, ?_⟩) ?_ ?_
       rotate_left
       ·intro w'
        go_simp
        try with_reducible rfl
       rotate_left
       ·simp only [Act.put, List.setIfInBounds_toArray, List.set_cons_zero, List.set_cons_succ, i64_w, i32_w]
        rfl
       refine pure_ (i := 11) (N := some 4) (v := ?_) (a' := ?_) #[true, true, true, true, true, true, true, true, true, true, true, true] rfl rfl (by kernel_rfl) (fun _ _ _ h => h) (Or.inl ⟨by rfl, ?_⟩) ?_ ?_
       rotate_left
       ·intro w'
        go_simp
        try with_reducible rfl
       rotate_left
       ·simp only [Act.put, List.setIfInBounds_toArray, List.set_cons_zero, List.set_cons_succ, i64_w, i32_w]
        rfl
       refine done_ (by kernel_rfl) ?_
       clear hHeld
       go_wp2
       go_roundg (4 - 1)
       case measure => omega
       case rel => exact ⟨1, by rw [HQ.out], by go_num, by omega, by omega, HBG, BPG⟩
      ·have hjs : Lib.join (wu a b d e 1) [32] = Lib.join (wu a b d e 0) [32] ++ [32] ++ (ltr 0 :: Lib.decDigits a.toNat) := by
        rw [HWU.out, HWK.out]
        exact join_snoc _ _ hwe
       have HQ := Aside0.mk (show B (Lib.join (wu a b d e 1) [32]) = B (Lib.join (wu a b d e 0) [32]) ++ ⟨#[32]⟩ ++ B [ltr 0] ++ B (Lib.decDigits a.toNat) by
        rw [hjs, show (⟨#[32]⟩ : ByteArray) = B [32] from rfl, B_append, B_append, B_append]
        simp)
       have hjne : Lib.join (wu a b d e 0) [32] ≠ [] := join_ne (wu_word a b d e 0 (by decide)) hwe
       have hse : ((B (Lib.join (wu a b d e 0) [32])).toList == ([] : List UInt8)) = false := by rw [HJT.out]; exact beq_eq_false_iff_ne.2 hjne
       have hsn : ((B (Lib.join (wu a b d e 0) [32])).toList != ([] : List UInt8)) = true := by rw [HJT.out]; exact bne_iff_ne.2 hjne
       generalize B (Lib.join (wu a b d e 0) [32]) = sR at hse hsn HQ hjl ⊢
       obtain ⟨f7, f8⟩ := str_small sR ⟨#[32]⟩ (by omega) (by decide)
       have f9 : (sR.size + 1 ≤ 9223372036854775807) = True := eq_true (by omega)
       have f0 : (9223372036854775807 < sR.size + 1) = False := eq_false (by omega)
       have HQL := Aside0.mk (show (sR ++ ⟨#[32]⟩).size ≤ 300 by rw [ByteArray.size_append]; show sR.size + 1 ≤ 300; omega)
       go_upto_region 11 with (go_at_call 26; go_loud (refine (HOF.out _).mono ?_; rintro ex wo ⟨rfl, q1⟩; have HBo := Aside0.mk (below_step HBr.out q1); have BPo := Aside0.mk (blk_below BPr.out q1); clear q1 hp0 hp1 hp2 hp3))
       generalize (sR ++ ⟨#[32]⟩ : ByteArray) = sQ at HQ HQL ⊢
       have hql := HQL.out
       generalize B [ltr 0] = sP at hsl HQ hpl
       generalize B (Lib.decDigits a.toNat) = sD at HDX HQ hdl
       obtain ⟨f1, f2⟩ := str_small sQ sP (by omega) (by omega)
       obtain ⟨f3, f4⟩ := str_small (sQ ++ sP) sD (by rw [ByteArray.size_append]; omega) (by omega)
       have f5 : (sQ.size + sP.size + sD.size ≤ 9223372036854775807) = True := eq_true (by omega)
       have f6 : (9223372036854775807 < sQ.size + sP.size + sD.size) = False := eq_false (by omega)
       clear hx HWU HWK HPD HJT HJL hwe hdl hpl hjl hjs hjne hse hsn f7 f8 f9 f0 HQL hql
       refine start_ (n := 12) (S := fun w' => w'.cell? ⟨g1, 0, none⟩ = some (.int .i64 a) ∧ w'.cell? ⟨g1, 1, none⟩ = some (.int .i64 b) ∧ w'.cell? ⟨g1, 2, none⟩ = some (.int .i64 d) ∧ w'.cell? ⟨g1, 3, none⟩ = some (.int .i64 e)) (ds := []) #[false, false, false, false, false, false, false, false, false, false, false, false] (by kernel_rfl) rfl rfl ⟨blk_cell BPo.out 0, blk_cell BPo.out 1, blk_cell BPo.out 2, blk_cell BPo.out 3⟩ (fun hHeld => ?_)
       generalize hwd : wo.drew = wd at hHeld ⊢
       have HBD := Aside0.mk (show Below w.heap.size w wd by rw [← hwd]; exact below_drew1 HBo.out)
       have BPD := Aside0.mk (show wd.heap[g1]? = some (.cells #[.int .i64 a, .int .i64 b, .int .i64 d, .int .i64 e] 37 (0, 0)) by rw [← hwd]; exact BPo.out)
       clear hwd
       refine pure_ (i := 0) (N := some 22) (v := ?_) (a' := ?_) #[true, false, false, false, false, false, false, false, false, false, false, false] rfl rfl (by kernel_rfl) (fun _ _ _ h => h) (Or.inl ⟨by rfl, ?_⟩) ?_ ?_
       rotate_left
       ·intro w'
        go_simp
        try with_reducible rfl
       rotate_left
       ·simp only [Act.put, List.setIfInBounds_toArray, List.set_cons_zero, List.set_cons_succ, i64_w, i32_w]
        rfl
       refine pure_ (i := 1) (N := some 23) (v := ?_) (a' := ?_) #[true, true, false, false, false, false, false, false, false, false, false, false] rfl rfl (by kernel_rfl) (fun _ _ _ h => h) (Or.inl ⟨by rfl, ?_⟩) ?_ ?_
       rotate_left
       ·intro w'
        go_simp
        try with_reducible rfl
       rotate_left
       ·simp only [Act.put, List.setIfInBounds_toArray, List.set_cons_zero, List.set_cons_succ, i64_w, i32_w]
        rfl
       refine pure_ (i := 2) (N := some 24) (v := ?_) (a' := ?_) #[true, true, true, false, false, false, false, false, false, false, false, false] rfl rfl (by kernel_rfl) (fun _ _ _ h => h) (Or.inl ⟨by rfl, ?_⟩) ?_ ?_
       rotate_left
       ·intro w'
        go_simp
        try with_reducible rfl
       rotate_left
       ·simp only [Act.put, List.setIfInBounds_toArray, List.set_cons_zero, List.set_cons_succ, i64_w, i32_w]
        rfl
       refine pure_ (i := 3) (N := some 25) (v := ?_) (a' := ?_) #[true, true, true, true, false, false, false, false, false, false, false, false] rfl rfl (by kernel_rfl) (fun _ _ _ h => h) (Or.inl ⟨by rfl, ?_⟩) ?_ ?_
       rotate_left
       ·intro w'
        go_simp
        try with_reducible rfl
       rotate_left
       ·simp only [Act.put, List.setIfInBounds_toArray, List.set_cons_zero, List.set_cons_succ, i64_w, i32_w]
        rfl
       refine pure_ (i := 4) (N := some 26) (v := ?_) (a' := ?_) #[true, true, true, true, true, false, false, false, false, false, false, false] rfl rfl (by kernel_rfl) (fun _ _ _ h => h) (Or.inl ⟨by rfl, ?_⟩) ?_ ?_
       rotate_left
       ·intro w'
        go_simp
        try with_reducible rfl
       rotate_left
       ·simp only [Act.put, List.setIfInBounds_toArray, List.set_cons_zero, List.set_cons_succ, i64_w, i32_w]
        rfl
       refine pure_ (i := 5) (N := some 27) (v := ?_) (a' := ?_) #[true, true, true, true, true, true, false, false, false, false, false, false] rfl rfl (by kernel_rfl) (fun _ _ _ h => h) (Or.inl ⟨by rfl, ?_⟩) ?_ ?_
       rotate_left
       ·intro w'
        go_simp
        try with_reducible rfl
       rotate_left
       ·simp only [Act.put, List.setIfInBounds_toArray, List.set_cons_zero, List.set_cons_succ, i64_w, i32_w]
        rfl
       refine take_ (i := 6) (N := some 28) (v := ?_) (a' := ?_) #[true, true, true, true, true, true, true, false, false, false, false, false] rfl rfl (by kernel_rfl) (fun _ _ _ h => h) (Or.inl ⟨by rfl, ?_⟩) hHeld ?_ ?_
       rotate_left
       ·rintro w' ⟨s0_, s1_, s2_, s3_⟩
        go_simp
        try with_reducible rfl
       rotate_left
       ·simp only [Act.put, List.setIfInBounds_toArray, List.set_cons_zero, List.set_cons_succ, i64_w, i32_w]
        rfl
       refine pure_ (i := 7) (N := some 29) (v := ?_) (a' := ?_) #[true, true, true, true, true, true, true, true, false, false, false, false] rfl rfl (by kernel_rfl) (fun _ _ _ h => h) (Or.inl ⟨by rfl, ?_⟩) ?_ ?_
       rotate_left
       ·intro w'
        go_simp
        try with_reducible rfl
       rotate_left
       ·simp only [Act.put, List.setIfInBounds_toArray, List.set_cons_zero, List.set_cons_succ, i64_w, i32_w]
        rfl
       refine one_ (i := 8) (N := some 30) #[true, true, true, true, true, true, true, true, true, false, false, false] rfl rfl (by kernel_rfl) (by decide) (fun K hK => ?_)
       refine goes_ Tryz.func26 (by kernel_rfl) rfl #[.agg #[.int .i64 a, .int .i64 b, .int .i64 d, .int .i64 e], .int .i64 0] (by rfl) rfl rfl (by (try simp only [List.map_toArray, List.map_cons, List.map_nil]); first | done | rfl) ?_
       refine (HOF.out _).mono ?_
       rintro ex wf ⟨rfl, q1⟩
       have HBF := Aside0.mk (below_step HBD.out q1)
       have BPF := Aside0.mk (blk_below BPD.out q1)
       clear q1
       refine ⟨_, rfl, ?_⟩
       refine hK.out _ _ ⟨blk_cell BPF.out 0, blk_cell BPF.out 1, blk_cell BPF.out 2, blk_cell BPF.out 3⟩ (fun hHeld => ?_)
       clear hK K
       refine norm_ (a' := ?_) ?_ ?_
       rotate_left
       ·show Act.put _ (some 30) _ = _
        simp only [Act.put, List.setIfInBounds_toArray, List.set_cons_zero, List.set_cons_succ]
        rfl
       refine one_ (i := 9) (N := some 31) #[true, true, true, true, true, true, true, true, true, true, false, false] rfl rfl (by kernel_rfl) (by decide) (fun K hK => ?_)
       refine goes_ Tryz.func60 (by kernel_rfl) rfl #[.int .i64 a] (by rfl) rfl rfl (by (try simp only [List.map_toArray, List.map_cons, List.map_nil]); first | done | rfl) ?_
       refine (HDX.out _).mono ?_
       rintro ex wg ⟨rfl, q1⟩
       have HBG := Aside0.mk (below_step HBF.out q1)
       have BPG := Aside0.mk (blk_below BPF.out q1)
       clear q1
       refine ⟨_, rfl, ?_⟩
       refine hK.out _ _ ⟨blk_cell BPG.out 0, blk_cell BPG.out 1, blk_cell BPG.out 2, blk_cell BPG.out 3⟩ (fun hHeld => ?_)
       clear hK K
       refine norm_ (a' := ?_) ?_ ?_
       rotate_left
       ·show Act.put _ (some 31) _ = _
        simp only [Act.put, List.setIfInBounds_toArray, List.set_cons_zero, List.set_cons_succ]
        rfl
       refine pure_ (i := 10) (N := some 32) (v := ?_) (a' := ?_) #[true, true, true, true, true, true, true, true, true, true, true, false] rfl rfl (by kernel_rfl) (fun _ _ _ h => h) (Or.inl ⟨by rfl, ?_⟩) ?_ ?_
       rotate_left
       ·intro w'
        go_simp
        try with_reducible rfl
       rotate_left
       ·simp only [Act.put, List.setIfInBounds_toArray, List.set_cons_zero, List.set_cons_succ, i64_w, i32_w]
        rfl
       refine pure_ (i := 11) (N := some 4) (v := ?_) (a' := ?_) #[true, true, true, true, true, true, true, true, true, true, true, true] rfl rfl (by kernel_rfl) (fun _ _ _ h => h) (Or.inl ⟨by rfl, ?_⟩) ?_ ?_
       rotate_left
       ·intro w'
        go_simp
        try with_reducible rfl
       rotate_left
       ·simp only [Act.put, List.setIfInBounds_toArray, List.set_cons_zero, List.set_cons_succ, i64_w, i32_w]
        rfl
       refine done_ (by kernel_rfl) ?_
       clear hHeld
       go_wp2
       go_roundg (4 - 1)
       case measure => omega
       case rel => exact ⟨1, by rw [HQ.out], by go_num, by omega, by omega, HBG, BPG⟩
     ·have hz : (a == 0) = true := by rw [beq_iff_eq]; omega
      have HQ := Aside0.mk (show B (Lib.join (wu a b d e 1) [32]) = B (Lib.join (wu a b d e 0) [32]) by rw [HWU.out]; unfold wk; rw [if_neg hx, List.append_nil])
      generalize B (Lib.join (wu a b d e 0) [32]) = sR at *
      clear hx HWU
      go_wp2_with (go_at_call 26; go_loud (refine (HOF.out _).mono ?_; rintro ex wo ⟨rfl, q1⟩; have HBo := Aside0.mk (below_step HBr.out q1); have BPo := Aside0.mk (blk_below BPr.out q1); clear q1 hp0 hp1 hp2 hp3))
      go_roundg (4 - 1)
      case measure => omega
      case rel => exact ⟨1, by rw [HQ.out], by go_num, by omega, by omega, HBo, BPo⟩
    ·have hsl : ∀ W : World, (Instr.slice 9 (.string ⟨#[100, 119, 109, 121]⟩) (some (.int .i64 1)) (some (.int .i64 2)) none).run Tryz.prog W = .ok (.string (B [ltr 1])) W := fun _ => by kernel_rfl
     have hwk : wrap64 2 = 2 := wrap64_id (by decide) (by decide)
     have HWU := Aside0.mk (show wu a b d e 2 = wu a b d e 1 ++ wk 1 b from rfl)
     have HOF := Aside0.mk (show ∀ W : World, Calls Tryz.prog 26 #[.agg #[.int .i64 a, .int .i64 b, .int .i64 d, .int .i64 e], .int .i64 1] W fun ex w' => ex = .returned (.int .i64 b) ∧ Below W.heap.size W w' from fun W => rootcellarref16_Of.calls a b d e 1 b W rfl)
     have HJL := Aside0.mk (show (Lib.join (wu a b d e 1) [32]).length ≤ 200 from Nat.le_trans (wu_join a b d e HRP.out 1 (by decide)) (by decide))
     by_cases hx : 0 < b
     ·have hz : (b == 0) = false := by rw [beq_eq_false_iff_ne]; omega
      have HDX := Aside0.mk (fun (W : World) => HDC.out b (by omega) (by omega) W)
      have HWK := Aside0.mk (show wk 1 b = [ltr 1 :: Lib.decDigits b.toNat] from if_pos hx)
      have hdl : (B (Lib.decDigits b.toNat)).size ≤ 4 := by rw [B_size]; exact dd_len (by omega)
      have hpl : (B [ltr 1]).size = 1 := by rw [B_size]; rfl
      have hjl : (B (Lib.join (wu a b d e 1) [32])).size ≤ 200 := by rw [B_size]; exact HJL.out
      have HPD := Aside0.mk (show B [ltr 1] ++ B (Lib.decDigits b.toNat) = B (ltr 1 :: Lib.decDigits b.toNat) from B_append _ _)
      have HJT := Aside0.mk (B_toList (Lib.join (wu a b d e 1) [32]))
      by_cases hwe : wu a b d e 1 = []
      ·have HQ := Aside0.mk (show B (Lib.join (wu a b d e 2) [32]) = B (Lib.join (wu a b d e 1) [32]) ++ B [ltr 1] ++ B (Lib.decDigits b.toNat) by
        rw [HWU.out, HWK.out, hwe, List.nil_append, Lib.join_one, show Lib.join [] [32] = [] from rfl, B_append, B_append]
        rfl)
       have hse : ((B (Lib.join (wu a b d e 1) [32])).toList == ([] : List UInt8)) = true := by rw [HJT.out, hwe]; rfl
       have hsn : ((B (Lib.join (wu a b d e 1) [32])).toList != ([] : List UInt8)) = false := by rw [HJT.out, hwe]; rfl
       generalize B (Lib.join (wu a b d e 1) [32]) = sQ at hse hsn HQ hjl ⊢
       generalize B [ltr 1] = sP at hsl HQ hpl
       generalize B (Lib.decDigits b.toNat) = sD at HDX HQ hdl
       obtain ⟨f1, f2⟩ := str_small sQ sP (by omega) (by omega)
       obtain ⟨f3, f4⟩ := str_small (sQ ++ sP) sD (by rw [ByteArray.size_append]; omega) (by omega)
       have f5 : (sQ.size + sP.size + sD.size ≤ 9223372036854775807) = True := eq_true (by omega)
       have f6 : (9223372036854775807 < sQ.size + sP.size + sD.size) = False := eq_false (by omega)
       clear hx HWU HWK HPD HJT HJL hwe hdl hpl hjl
       go_upto_region 11 with (go_at_call 26; go_loud (refine (HOF.out _).mono ?_; rintro ex wo ⟨rfl, q1⟩; have HBo := Aside0.mk (below_step HBr.out q1); have BPo := Aside0.mk (blk_below BPr.out q1); clear q1 hp0 hp1 hp2 hp3))
       refine start_ (n := 12) (S := fun w' => w'.cell? ⟨g1, 0, none⟩ = some (.int .i64 a) ∧ w'.cell? ⟨g1, 1, none⟩ = some (.int .i64 b) ∧ w'.cell? ⟨g1, 2, none⟩ = some (.int .i64 d) ∧ w'.cell? ⟨g1, 3, none⟩ = some (.int .i64 e)) (ds := []) #[false, false, false, false, false, false, false, false, false, false, false, false] (by kernel_rfl) rfl rfl ⟨blk_cell BPo.out 0, blk_cell BPo.out 1, blk_cell BPo.out 2, blk_cell BPo.out 3⟩ (fun hHeld => ?_)
       generalize hwd : wo.drew = wd at hHeld ⊢
       have HBD := Aside0.mk (show Below w.heap.size w wd by rw [← hwd]; exact below_drew1 HBo.out)
       have BPD := Aside0.mk (show wd.heap[g1]? = some (.cells #[.int .i64 a, .int .i64 b, .int .i64 d, .int .i64 e] 37 (0, 0)) by rw [← hwd]; exact BPo.out)
       clear hwd
       refine pure_ (i := 0) (N := some 22) (v := ?_) (a' := ?_) #[true, false, false, false, false, false, false, false, false, false, false, false] rfl rfl (by kernel_rfl) (fun _ _ _ h => h) (Or.inl ⟨by rfl, ?_⟩) ?_ ?_
       rotate_left
       ·intro w'
        go_simp
        try with_reducible rfl
       rotate_left
       ·simp only [Act.put, List.setIfInBounds_toArray, List.set_cons_zero, List.set_cons_succ, i64_w, i32_w]
        rfl
       refine pure_ (i := 1) (N := some 23) (v := ?_) (a' := ?_) #[true, true, false, false, false, false, false, false, false, false, false, false] rfl rfl (by kernel_rfl) (fun _ _ _ h => h) (Or.inl ⟨by rfl, ?_⟩) ?_ ?_
       rotate_left
       ·intro w'
        go_simp
        try with_reducible rfl
       rotate_left
       ·simp only [Act.put, List.setIfInBounds_toArray, List.set_cons_zero, List.set_cons_succ, i64_w, i32_w]
        rfl
       refine pure_ (i := 2) (N := some 24) (v := ?_) (a' := ?_) #[true, true, true, false, false, false, false, false, false, false, false, false] rfl rfl (by kernel_rfl) (fun _ _ _ h => h) (Or.inl ⟨by rfl, ?_⟩) ?_ ?_
       rotate_left
       ·intro w'
        go_simp
        try with_reducible rfl
       rotate_left
       ·simp only [Act.put, List.setIfInBounds_toArray, List.set_cons_zero, List.set_cons_succ, i64_w, i32_w]
        rfl
       refine pure_ (i := 3) (N := some 25) (v := ?_) (a' := ?_) #[true, true, true, true, false, false, false, false, false, false, false, false] rfl rfl (by kernel_rfl) (fun _ _ _ h => h) (Or.inl ⟨by rfl, ?_⟩) ?_ ?_
       rotate_left
       ·intro w'
        go_simp
        try with_reducible rfl
       rotate_left
       ·simp only [Act.put, List.setIfInBounds_toArray, List.set_cons_zero, List.set_cons_succ, i64_w, i32_w]
        rfl
       refine pure_ (i := 4) (N := some 26) (v := ?_) (a' := ?_) #[true, true, true, true, true, false, false, false, false, false, false, false] rfl rfl (by kernel_rfl) (fun _ _ _ h => h) (Or.inl ⟨by rfl, ?_⟩) ?_ ?_
       rotate_left
       ·intro w'
        go_simp
        try with_reducible rfl
       rotate_left
       ·simp only [Act.put, List.setIfInBounds_toArray, List.set_cons_zero, List.set_cons_succ, i64_w, i32_w]
        rfl
       refine pure_ (i := 5) (N := some 27) (v := ?_) (a' := ?_) #[true, true, true, true, true, true, false, false, false, false, false, false] rfl rfl (by kernel_rfl) (fun _ _ _ h => h) (Or.inl ⟨by rfl, ?_⟩) ?_ ?_
       rotate_left
       ·intro w'
        go_simp
        try with_reducible rfl
       rotate_left
       ·simp only [Act.put, List.setIfInBounds_toArray, List.set_cons_zero, List.set_cons_succ, i64_w, i32_w]
        rfl
       refine take_ (i := 6) (N := some 28) (v := ?_) (a' := ?_) #[true, true, true, true, true, true, true, false, false, false, false, false] rfl rfl (by kernel_rfl) (fun _ _ _ h => h) (Or.inl ⟨by rfl, ?_⟩) hHeld ?_ ?_
       rotate_left
       ·rintro w' ⟨s0_, s1_, s2_, s3_⟩
        go_simp
        try with_reducible rfl
       rotate_left
       ·simp only [Act.put, List.setIfInBounds_toArray, List.set_cons_zero, List.set_cons_succ, i64_w, i32_w]
        rfl
       refine pure_ (i := 7) (N := some 29) (v := ?_) (a' := ?_) #[true, true, true, true, true, true, true, true, false, false, false, false] rfl rfl (by kernel_rfl) (fun _ _ _ h => h) (Or.inl ⟨by rfl, ?_⟩) ?_ ?_
       rotate_left
       ·intro w'
        go_simp
        try with_reducible rfl
       rotate_left
       ·simp only [Act.put, List.setIfInBounds_toArray, List.set_cons_zero, List.set_cons_succ, i64_w, i32_w]
        rfl
       refine one_ (i := 8) (N := some 30) #[true, true, true, true, true, true, true, true, true, false, false, false] rfl rfl (by kernel_rfl) (by decide) (fun K hK => ?_)
       refine goes_ Tryz.func26 (by kernel_rfl) rfl #[.agg #[.int .i64 a, .int .i64 b, .int .i64 d, .int .i64 e], .int .i64 1] (by rfl) rfl rfl (by (try simp only [List.map_toArray, List.map_cons, List.map_nil]); first | done | rfl) ?_
       refine (HOF.out _).mono ?_
       rintro ex wf ⟨rfl, q1⟩
       have HBF := Aside0.mk (below_step HBD.out q1)
       have BPF := Aside0.mk (blk_below BPD.out q1)
       clear q1
       refine ⟨_, rfl, ?_⟩
       refine hK.out _ _ ⟨blk_cell BPF.out 0, blk_cell BPF.out 1, blk_cell BPF.out 2, blk_cell BPF.out 3⟩ (fun hHeld => ?_)
       clear hK K
       refine norm_ (a' := ?_) ?_ ?_
       rotate_left
       ·show Act.put _ (some 30) _ = _
        simp only [Act.put, List.setIfInBounds_toArray, List.set_cons_zero, List.set_cons_succ]
        rfl
       refine one_ (i := 9) (N := some 31) #[true, true, true, true, true, true, true, true, true, true, false, false] rfl rfl (by kernel_rfl) (by decide) (fun K hK => ?_)
       refine goes_ Tryz.func60 (by kernel_rfl) rfl #[.int .i64 b] (by rfl) rfl rfl (by (try simp only [List.map_toArray, List.map_cons, List.map_nil]); first | done | rfl) ?_
       refine (HDX.out _).mono ?_
       rintro ex wg ⟨rfl, q1⟩
       have HBG := Aside0.mk (below_step HBF.out q1)
       have BPG := Aside0.mk (blk_below BPF.out q1)
       clear q1
       refine ⟨_, rfl, ?_⟩
       refine hK.out _ _ ⟨blk_cell BPG.out 0, blk_cell BPG.out 1, blk_cell BPG.out 2, blk_cell BPG.out 3⟩ (fun hHeld => ?_)
       clear hK K
       refine norm_ (a' := ?_) ?_ ?_
       rotate_left
       ·show Act.put _ (some 31) _ = _
        simp only [Act.put, List.setIfInBounds_toArray, List.set_cons_zero, List.set_cons_succ]
        rfl
       refine pure_ (i := 10) (N := some 32) (v := ?_) (a' := ?_) #[true, true, true, true, true, true, true, true, true, true, true, false] rfl rfl (by kernel_rfl) (fun _ _ _ h => h) (Or.inl ⟨by rfl, ?_⟩) ?_ ?_
       rotate_left
       ·intro w'
        go_simp
        try with_reducible rfl
       rotate_left
       ·simp only [Act.put, List.setIfInBounds_toArray, List.set_cons_zero, List.set_cons_succ, i64_w, i32_w]
        rfl
       refine pure_ (i := 11) (N := some 4) (v := ?_) (a' := ?_) #[true, true, true, true, true, true, true, true, true, true, true, true] rfl rfl (by kernel_rfl) (fun _ _ _ h => h) (Or.inl ⟨by rfl, ?_⟩) ?_ ?_
       rotate_left
       ·intro w'
        go_simp
        try with_reducible rfl
       rotate_left
       ·simp only [Act.put, List.setIfInBounds_toArray, List.set_cons_zero, List.set_cons_succ, i64_w, i32_w]
        rfl
       refine done_ (by kernel_rfl) ?_
       clear hHeld
       go_wp2
       go_roundg (4 - 2)
       case measure => omega
       case rel => exact ⟨2, by rw [HQ.out], by go_num, by omega, by omega, HBG, BPG⟩
      ·have hjs : Lib.join (wu a b d e 2) [32] = Lib.join (wu a b d e 1) [32] ++ [32] ++ (ltr 1 :: Lib.decDigits b.toNat) := by
        rw [HWU.out, HWK.out]
        exact join_snoc _ _ hwe
       have HQ := Aside0.mk (show B (Lib.join (wu a b d e 2) [32]) = B (Lib.join (wu a b d e 1) [32]) ++ ⟨#[32]⟩ ++ B [ltr 1] ++ B (Lib.decDigits b.toNat) by
        rw [hjs, show (⟨#[32]⟩ : ByteArray) = B [32] from rfl, B_append, B_append, B_append]
        simp)
       have hjne : Lib.join (wu a b d e 1) [32] ≠ [] := join_ne (wu_word a b d e 1 (by decide)) hwe
       have hse : ((B (Lib.join (wu a b d e 1) [32])).toList == ([] : List UInt8)) = false := by rw [HJT.out]; exact beq_eq_false_iff_ne.2 hjne
       have hsn : ((B (Lib.join (wu a b d e 1) [32])).toList != ([] : List UInt8)) = true := by rw [HJT.out]; exact bne_iff_ne.2 hjne
       generalize B (Lib.join (wu a b d e 1) [32]) = sR at hse hsn HQ hjl ⊢
       obtain ⟨f7, f8⟩ := str_small sR ⟨#[32]⟩ (by omega) (by decide)
       have f9 : (sR.size + 1 ≤ 9223372036854775807) = True := eq_true (by omega)
       have f0 : (9223372036854775807 < sR.size + 1) = False := eq_false (by omega)
       have HQL := Aside0.mk (show (sR ++ ⟨#[32]⟩).size ≤ 300 by rw [ByteArray.size_append]; show sR.size + 1 ≤ 300; omega)
       go_upto_region 11 with (go_at_call 26; go_loud (refine (HOF.out _).mono ?_; rintro ex wo ⟨rfl, q1⟩; have HBo := Aside0.mk (below_step HBr.out q1); have BPo := Aside0.mk (blk_below BPr.out q1); clear q1 hp0 hp1 hp2 hp3))
       generalize (sR ++ ⟨#[32]⟩ : ByteArray) = sQ at HQ HQL ⊢
       have hql := HQL.out
       generalize B [ltr 1] = sP at hsl HQ hpl
       generalize B (Lib.decDigits b.toNat) = sD at HDX HQ hdl
       obtain ⟨f1, f2⟩ := str_small sQ sP (by omega) (by omega)
       obtain ⟨f3, f4⟩ := str_small (sQ ++ sP) sD (by rw [ByteArray.size_append]; omega) (by omega)
       have f5 : (sQ.size + sP.size + sD.size ≤ 9223372036854775807) = True := eq_true (by omega)
       have f6 : (9223372036854775807 < sQ.size + sP.size + sD.size) = False := eq_false (by omega)
       clear hx HWU HWK HPD HJT HJL hwe hdl hpl hjl hjs hjne hse hsn f7 f8 f9 f0 HQL hql
       refine start_ (n := 12) (S := fun w' => w'.cell? ⟨g1, 0, none⟩ = some (.int .i64 a) ∧ w'.cell? ⟨g1, 1, none⟩ = some (.int .i64 b) ∧ w'.cell? ⟨g1, 2, none⟩ = some (.int .i64 d) ∧ w'.cell? ⟨g1, 3, none⟩ = some (.int .i64 e)) (ds := []) #[false, false, false, false, false, false, false, false, false, false, false, false] (by kernel_rfl) rfl rfl ⟨blk_cell BPo.out 0, blk_cell BPo.out 1, blk_cell BPo.out 2, blk_cell BPo.out 3⟩ (fun hHeld => ?_)
       generalize hwd : wo.drew = wd at hHeld ⊢
       have HBD := Aside0.mk (show Below w.heap.size w wd by rw [← hwd]; exact below_drew1 HBo.out)
       have BPD := Aside0.mk (show wd.heap[g1]? = some (.cells #[.int .i64 a, .int .i64 b, .int .i64 d, .int .i64 e] 37 (0, 0)) by rw [← hwd]; exact BPo.out)
       clear hwd
       refine pure_ (i := 0) (N := some 22) (v := ?_) (a' := ?_) #[true, false, false, false, false, false, false, false, false, false, false, false] rfl rfl (by kernel_rfl) (fun _ _ _ h => h) (Or.inl ⟨by rfl, ?_⟩) ?_ ?_
       rotate_left
       ·intro w'
        go_simp
        try with_reducible rfl
       rotate_left
       ·simp only [Act.put, List.setIfInBounds_toArray, List.set_cons_zero, List.set_cons_succ, i64_w, i32_w]
        rfl
       refine pure_ (i := 1) (N := some 23) (v := ?_) (a' := ?_) #[true, true, false, false, false, false, false, false, false, false, false, false] rfl rfl (by kernel_rfl) (fun _ _ _ h => h) (Or.inl ⟨by rfl, ?_⟩) ?_ ?_
       rotate_left
       ·intro w'
        go_simp
        try with_reducible rfl
       rotate_left
       ·simp only [Act.put, List.setIfInBounds_toArray, List.set_cons_zero, List.set_cons_succ, i64_w, i32_w]
        rfl
       refine pure_ (i := 2) (N := some 24) (v := ?_) (a' := ?_) #[true, true, true, false, false, false, false, false, false, false, false, false] rfl rfl (by kernel_rfl) (fun _ _ _ h => h) (Or.inl ⟨by rfl, ?_⟩) ?_ ?_
       rotate_left
       ·intro w'
        go_simp
        try with_reducible rfl
       rotate_left
       ·simp only [Act.put, List.setIfInBounds_toArray, List.set_cons_zero, List.set_cons_succ, i64_w, i32_w]
        rfl
       refine pure_ (i := 3) (N := some 25) (v := ?_) (a' := ?_) #[true, true, true, true, false, false, false, false, false, false, false, false] rfl rfl (by kernel_rfl) (fun _ _ _ h => h) (Or.inl ⟨by rfl, ?_⟩) ?_ ?_
       rotate_left
       ·intro w'
        go_simp
        try with_reducible rfl
       rotate_left
       ·simp only [Act.put, List.setIfInBounds_toArray, List.set_cons_zero, List.set_cons_succ, i64_w, i32_w]
        rfl
       refine pure_ (i := 4) (N := some 26) (v := ?_) (a' := ?_) #[true, true, true, true, true, false, false, false, false, false, false, false] rfl rfl (by kernel_rfl) (fun _ _ _ h => h) (Or.inl ⟨by rfl, ?_⟩) ?_ ?_
       rotate_left
       ·intro w'
        go_simp
        try with_reducible rfl
       rotate_left
       ·simp only [Act.put, List.setIfInBounds_toArray, List.set_cons_zero, List.set_cons_succ, i64_w, i32_w]
        rfl
       refine pure_ (i := 5) (N := some 27) (v := ?_) (a' := ?_) #[true, true, true, true, true, true, false, false, false, false, false, false] rfl rfl (by kernel_rfl) (fun _ _ _ h => h) (Or.inl ⟨by rfl, ?_⟩) ?_ ?_
       rotate_left
       ·intro w'
        go_simp
        try with_reducible rfl
       rotate_left
       ·simp only [Act.put, List.setIfInBounds_toArray, List.set_cons_zero, List.set_cons_succ, i64_w, i32_w]
        rfl
       refine take_ (i := 6) (N := some 28) (v := ?_) (a' := ?_) #[true, true, true, true, true, true, true, false, false, false, false, false] rfl rfl (by kernel_rfl) (fun _ _ _ h => h) (Or.inl ⟨by rfl, ?_⟩) hHeld ?_ ?_
       rotate_left
       ·rintro w' ⟨s0_, s1_, s2_, s3_⟩
        go_simp
        try with_reducible rfl
       rotate_left
       ·simp only [Act.put, List.setIfInBounds_toArray, List.set_cons_zero, List.set_cons_succ, i64_w, i32_w]
        rfl
       refine pure_ (i := 7) (N := some 29) (v := ?_) (a' := ?_) #[true, true, true, true, true, true, true, true, false, false, false, false] rfl rfl (by kernel_rfl) (fun _ _ _ h => h) (Or.inl ⟨by rfl, ?_⟩) ?_ ?_
       rotate_left
       ·intro w'
        go_simp
        try with_reducible rfl
       rotate_left
       ·simp only [Act.put, List.setIfInBounds_toArray, List.set_cons_zero, List.set_cons_succ, i64_w, i32_w]
        rfl
       refine one_ (i := 8) (N := some 30) #[true, true, true, true, true, true, true, true, true, false, false, false] rfl rfl (by kernel_rfl) (by decide) (fun K hK => ?_)
       refine goes_ Tryz.func26 (by kernel_rfl) rfl #[.agg #[.int .i64 a, .int .i64 b, .int .i64 d, .int .i64 e], .int .i64 1] (by rfl) rfl rfl (by (try simp only [List.map_toArray, List.map_cons, List.map_nil]); first | done | rfl) ?_
       refine (HOF.out _).mono ?_
       rintro ex wf ⟨rfl, q1⟩
       have HBF := Aside0.mk (below_step HBD.out q1)
       have BPF := Aside0.mk (blk_below BPD.out q1)
       clear q1
       refine ⟨_, rfl, ?_⟩
       refine hK.out _ _ ⟨blk_cell BPF.out 0, blk_cell BPF.out 1, blk_cell BPF.out 2, blk_cell BPF.out 3⟩ (fun hHeld => ?_)
       clear hK K
       refine norm_ (a' := ?_) ?_ ?_
       rotate_left
       ·show Act.put _ (some 30) _ = _
        simp only [Act.put, List.setIfInBounds_toArray, List.set_cons_zero, List.set_cons_succ]
        rfl
       refine one_ (i := 9) (N := some 31) #[true, true, true, true, true, true, true, true, true, true, false, false] rfl rfl (by kernel_rfl) (by decide) (fun K hK => ?_)
       refine goes_ Tryz.func60 (by kernel_rfl) rfl #[.int .i64 b] (by rfl) rfl rfl (by (try simp only [List.map_toArray, List.map_cons, List.map_nil]); first | done | rfl) ?_
       refine (HDX.out _).mono ?_
       rintro ex wg ⟨rfl, q1⟩
       have HBG := Aside0.mk (below_step HBF.out q1)
       have BPG := Aside0.mk (blk_below BPF.out q1)
       clear q1
       refine ⟨_, rfl, ?_⟩
       refine hK.out _ _ ⟨blk_cell BPG.out 0, blk_cell BPG.out 1, blk_cell BPG.out 2, blk_cell BPG.out 3⟩ (fun hHeld => ?_)
       clear hK K
       refine norm_ (a' := ?_) ?_ ?_
       rotate_left
       ·show Act.put _ (some 31) _ = _
        simp only [Act.put, List.setIfInBounds_toArray, List.set_cons_zero, List.set_cons_succ]
        rfl
       refine pure_ (i := 10) (N := some 32) (v := ?_) (a' := ?_) #[true, true, true, true, true, true, true, true, true, true, true, false] rfl rfl (by kernel_rfl) (fun _ _ _ h => h) (Or.inl ⟨by rfl, ?_⟩) ?_ ?_
       rotate_left
       ·intro w'
        go_simp
        try with_reducible rfl
       rotate_left
       ·simp only [Act.put, List.setIfInBounds_toArray, List.set_cons_zero, List.set_cons_succ, i64_w, i32_w]
        rfl
       refine pure_ (i := 11) (N := some 4) (v := ?_) (a' := ?_) #[true, true, true, true, true, true, true, true, true, true, true, true] rfl rfl (by kernel_rfl) (fun _ _ _ h => h) (Or.inl ⟨by rfl, ?_⟩) ?_ ?_
       rotate_left
       ·intro w'
        go_simp
        try with_reducible rfl
       rotate_left
       ·simp only [Act.put, List.setIfInBounds_toArray, List.set_cons_zero, List.set_cons_succ, i64_w, i32_w]
        rfl
       refine done_ (by kernel_rfl) ?_
       clear hHeld
       go_wp2
       go_roundg (4 - 2)
       case measure => omega
       case rel => exact ⟨2, by rw [HQ.out], by go_num, by omega, by omega, HBG, BPG⟩
     ·have hz : (b == 0) = true := by rw [beq_iff_eq]; omega
      have HQ := Aside0.mk (show B (Lib.join (wu a b d e 2) [32]) = B (Lib.join (wu a b d e 1) [32]) by rw [HWU.out]; unfold wk; rw [if_neg hx, List.append_nil])
      generalize B (Lib.join (wu a b d e 1) [32]) = sR at *
      clear hx HWU
      go_wp2_with (go_at_call 26; go_loud (refine (HOF.out _).mono ?_; rintro ex wo ⟨rfl, q1⟩; have HBo := Aside0.mk (below_step HBr.out q1); have BPo := Aside0.mk (blk_below BPr.out q1); clear q1 hp0 hp1 hp2 hp3))
      go_roundg (4 - 2)
      case measure => omega
      case rel => exact ⟨2, by rw [HQ.out], by go_num, by omega, by omega, HBo, BPo⟩
    ·have hsl : ∀ W : World, (Instr.slice 9 (.string ⟨#[100, 119, 109, 121]⟩) (some (.int .i64 2)) (some (.int .i64 3)) none).run Tryz.prog W = .ok (.string (B [ltr 2])) W := fun _ => by kernel_rfl
     have hwk : wrap64 3 = 3 := wrap64_id (by decide) (by decide)
     have HWU := Aside0.mk (show wu a b d e 3 = wu a b d e 2 ++ wk 2 d from rfl)
     have HOF := Aside0.mk (show ∀ W : World, Calls Tryz.prog 26 #[.agg #[.int .i64 a, .int .i64 b, .int .i64 d, .int .i64 e], .int .i64 2] W fun ex w' => ex = .returned (.int .i64 d) ∧ Below W.heap.size W w' from fun W => rootcellarref16_Of.calls a b d e 2 d W rfl)
     have HJL := Aside0.mk (show (Lib.join (wu a b d e 2) [32]).length ≤ 200 from Nat.le_trans (wu_join a b d e HRP.out 2 (by decide)) (by decide))
     by_cases hx : 0 < d
     ·have hz : (d == 0) = false := by rw [beq_eq_false_iff_ne]; omega
      have HDX := Aside0.mk (fun (W : World) => HDC.out d (by omega) (by omega) W)
      have HWK := Aside0.mk (show wk 2 d = [ltr 2 :: Lib.decDigits d.toNat] from if_pos hx)
      have hdl : (B (Lib.decDigits d.toNat)).size ≤ 4 := by rw [B_size]; exact dd_len (by omega)
      have hpl : (B [ltr 2]).size = 1 := by rw [B_size]; rfl
      have hjl : (B (Lib.join (wu a b d e 2) [32])).size ≤ 200 := by rw [B_size]; exact HJL.out
      have HPD := Aside0.mk (show B [ltr 2] ++ B (Lib.decDigits d.toNat) = B (ltr 2 :: Lib.decDigits d.toNat) from B_append _ _)
      have HJT := Aside0.mk (B_toList (Lib.join (wu a b d e 2) [32]))
      by_cases hwe : wu a b d e 2 = []
      ·have HQ := Aside0.mk (show B (Lib.join (wu a b d e 3) [32]) = B (Lib.join (wu a b d e 2) [32]) ++ B [ltr 2] ++ B (Lib.decDigits d.toNat) by
        rw [HWU.out, HWK.out, hwe, List.nil_append, Lib.join_one, show Lib.join [] [32] = [] from rfl, B_append, B_append]
        rfl)
       have hse : ((B (Lib.join (wu a b d e 2) [32])).toList == ([] : List UInt8)) = true := by rw [HJT.out, hwe]; rfl
       have hsn : ((B (Lib.join (wu a b d e 2) [32])).toList != ([] : List UInt8)) = false := by rw [HJT.out, hwe]; rfl
       generalize B (Lib.join (wu a b d e 2) [32]) = sQ at hse hsn HQ hjl ⊢
       generalize B [ltr 2] = sP at hsl HQ hpl
       generalize B (Lib.decDigits d.toNat) = sD at HDX HQ hdl
       obtain ⟨f1, f2⟩ := str_small sQ sP (by omega) (by omega)
       obtain ⟨f3, f4⟩ := str_small (sQ ++ sP) sD (by rw [ByteArray.size_append]; omega) (by omega)
       have f5 : (sQ.size + sP.size + sD.size ≤ 9223372036854775807) = True := eq_true (by omega)
       have f6 : (9223372036854775807 < sQ.size + sP.size + sD.size) = False := eq_false (by omega)
       clear hx HWU HWK HPD HJT HJL hwe hdl hpl hjl
       go_upto_region 11 with (go_at_call 26; go_loud (refine (HOF.out _).mono ?_; rintro ex wo ⟨rfl, q1⟩; have HBo := Aside0.mk (below_step HBr.out q1); have BPo := Aside0.mk (blk_below BPr.out q1); clear q1 hp0 hp1 hp2 hp3))
       refine start_ (n := 12) (S := fun w' => w'.cell? ⟨g1, 0, none⟩ = some (.int .i64 a) ∧ w'.cell? ⟨g1, 1, none⟩ = some (.int .i64 b) ∧ w'.cell? ⟨g1, 2, none⟩ = some (.int .i64 d) ∧ w'.cell? ⟨g1, 3, none⟩ = some (.int .i64 e)) (ds := []) #[false, false, false, false, false, false, false, false, false, false, false, false] (by kernel_rfl) rfl rfl ⟨blk_cell BPo.out 0, blk_cell BPo.out 1, blk_cell BPo.out 2, blk_cell BPo.out 3⟩ (fun hHeld => ?_)
       generalize hwd : wo.drew = wd at hHeld ⊢
       have HBD := Aside0.mk (show Below w.heap.size w wd by rw [← hwd]; exact below_drew1 HBo.out)
       have BPD := Aside0.mk (show wd.heap[g1]? = some (.cells #[.int .i64 a, .int .i64 b, .int .i64 d, .int .i64 e] 37 (0, 0)) by rw [← hwd]; exact BPo.out)
       clear hwd
       refine pure_ (i := 0) (N := some 22) (v := ?_) (a' := ?_) #[true, false, false, false, false, false, false, false, false, false, false, false] rfl rfl (by kernel_rfl) (fun _ _ _ h => h) (Or.inl ⟨by rfl, ?_⟩) ?_ ?_
       rotate_left
       ·intro w'
        go_simp
        try with_reducible rfl
       rotate_left
       ·simp only [Act.put, List.setIfInBounds_toArray, List.set_cons_zero, List.set_cons_succ, i64_w, i32_w]
        rfl
       refine pure_ (i := 1) (N := some 23) (v := ?_) (a' := ?_) #[true, true, false, false, false, false, false, false, false, false, false, false] rfl rfl (by kernel_rfl) (fun _ _ _ h => h) (Or.inl ⟨by rfl, ?_⟩) ?_ ?_
       rotate_left
       ·intro w'
        go_simp
        try with_reducible rfl
       rotate_left
       ·simp only [Act.put, List.setIfInBounds_toArray, List.set_cons_zero, List.set_cons_succ, i64_w, i32_w]
        rfl
       refine pure_ (i := 2) (N := some 24) (v := ?_) (a' := ?_) #[true, true, true, false, false, false, false, false, false, false, false, false] rfl rfl (by kernel_rfl) (fun _ _ _ h => h) (Or.inl ⟨by rfl, ?_⟩) ?_ ?_
       rotate_left
       ·intro w'
        go_simp
        try with_reducible rfl
       rotate_left
       ·simp only [Act.put, List.setIfInBounds_toArray, List.set_cons_zero, List.set_cons_succ, i64_w, i32_w]
        rfl
       refine pure_ (i := 3) (N := some 25) (v := ?_) (a' := ?_) #[true, true, true, true, false, false, false, false, false, false, false, false] rfl rfl (by kernel_rfl) (fun _ _ _ h => h) (Or.inl ⟨by rfl, ?_⟩) ?_ ?_
       rotate_left
       ·intro w'
        go_simp
        try with_reducible rfl
       rotate_left
       ·simp only [Act.put, List.setIfInBounds_toArray, List.set_cons_zero, List.set_cons_succ, i64_w, i32_w]
        rfl
       refine pure_ (i := 4) (N := some 26) (v := ?_) (a' := ?_) #[true, true, true, true, true, false, false, false, false, false, false, false] rfl rfl (by kernel_rfl) (fun _ _ _ h => h) (Or.inl ⟨by rfl, ?_⟩) ?_ ?_
       rotate_left
       ·intro w'
        go_simp
        try with_reducible rfl
       rotate_left
       ·simp only [Act.put, List.setIfInBounds_toArray, List.set_cons_zero, List.set_cons_succ, i64_w, i32_w]
        rfl
       refine pure_ (i := 5) (N := some 27) (v := ?_) (a' := ?_) #[true, true, true, true, true, true, false, false, false, false, false, false] rfl rfl (by kernel_rfl) (fun _ _ _ h => h) (Or.inl ⟨by rfl, ?_⟩) ?_ ?_
       rotate_left
       ·intro w'
        go_simp
        try with_reducible rfl
       rotate_left
       ·simp only [Act.put, List.setIfInBounds_toArray, List.set_cons_zero, List.set_cons_succ, i64_w, i32_w]
        rfl
       refine take_ (i := 6) (N := some 28) (v := ?_) (a' := ?_) #[true, true, true, true, true, true, true, false, false, false, false, false] rfl rfl (by kernel_rfl) (fun _ _ _ h => h) (Or.inl ⟨by rfl, ?_⟩) hHeld ?_ ?_
       rotate_left
       ·rintro w' ⟨s0_, s1_, s2_, s3_⟩
        go_simp
        try with_reducible rfl
       rotate_left
       ·simp only [Act.put, List.setIfInBounds_toArray, List.set_cons_zero, List.set_cons_succ, i64_w, i32_w]
        rfl
       refine pure_ (i := 7) (N := some 29) (v := ?_) (a' := ?_) #[true, true, true, true, true, true, true, true, false, false, false, false] rfl rfl (by kernel_rfl) (fun _ _ _ h => h) (Or.inl ⟨by rfl, ?_⟩) ?_ ?_
       rotate_left
       ·intro w'
        go_simp
        try with_reducible rfl
       rotate_left
       ·simp only [Act.put, List.setIfInBounds_toArray, List.set_cons_zero, List.set_cons_succ, i64_w, i32_w]
        rfl
       refine one_ (i := 8) (N := some 30) #[true, true, true, true, true, true, true, true, true, false, false, false] rfl rfl (by kernel_rfl) (by decide) (fun K hK => ?_)
       refine goes_ Tryz.func26 (by kernel_rfl) rfl #[.agg #[.int .i64 a, .int .i64 b, .int .i64 d, .int .i64 e], .int .i64 2] (by rfl) rfl rfl (by (try simp only [List.map_toArray, List.map_cons, List.map_nil]); first | done | rfl) ?_
       refine (HOF.out _).mono ?_
       rintro ex wf ⟨rfl, q1⟩
       have HBF := Aside0.mk (below_step HBD.out q1)
       have BPF := Aside0.mk (blk_below BPD.out q1)
       clear q1
       refine ⟨_, rfl, ?_⟩
       refine hK.out _ _ ⟨blk_cell BPF.out 0, blk_cell BPF.out 1, blk_cell BPF.out 2, blk_cell BPF.out 3⟩ (fun hHeld => ?_)
       clear hK K
       refine norm_ (a' := ?_) ?_ ?_
       rotate_left
       ·show Act.put _ (some 30) _ = _
        simp only [Act.put, List.setIfInBounds_toArray, List.set_cons_zero, List.set_cons_succ]
        rfl
       refine one_ (i := 9) (N := some 31) #[true, true, true, true, true, true, true, true, true, true, false, false] rfl rfl (by kernel_rfl) (by decide) (fun K hK => ?_)
       refine goes_ Tryz.func60 (by kernel_rfl) rfl #[.int .i64 d] (by rfl) rfl rfl (by (try simp only [List.map_toArray, List.map_cons, List.map_nil]); first | done | rfl) ?_
       refine (HDX.out _).mono ?_
       rintro ex wg ⟨rfl, q1⟩
       have HBG := Aside0.mk (below_step HBF.out q1)
       have BPG := Aside0.mk (blk_below BPF.out q1)
       clear q1
       refine ⟨_, rfl, ?_⟩
       refine hK.out _ _ ⟨blk_cell BPG.out 0, blk_cell BPG.out 1, blk_cell BPG.out 2, blk_cell BPG.out 3⟩ (fun hHeld => ?_)
       clear hK K
       refine norm_ (a' := ?_) ?_ ?_
       rotate_left
       ·show Act.put _ (some 31) _ = _
        simp only [Act.put, List.setIfInBounds_toArray, List.set_cons_zero, List.set_cons_succ]
        rfl
       refine pure_ (i := 10) (N := some 32) (v := ?_) (a' := ?_) #[true, true, true, true, true, true, true, true, true, true, true, false] rfl rfl (by kernel_rfl) (fun _ _ _ h => h) (Or.inl ⟨by rfl, ?_⟩) ?_ ?_
       rotate_left
       ·intro w'
        go_simp
        try with_reducible rfl
       rotate_left
       ·simp only [Act.put, List.setIfInBounds_toArray, List.set_cons_zero, List.set_cons_succ, i64_w, i32_w]
        rfl
       refine pure_ (i := 11) (N := some 4) (v := ?_) (a' := ?_) #[true, true, true, true, true, true, true, true, true, true, true, true] rfl rfl (by kernel_rfl) (fun _ _ _ h => h) (Or.inl ⟨by rfl, ?_⟩) ?_ ?_
       rotate_left
       ·intro w'
        go_simp
        try with_reducible rfl
       rotate_left
       ·simp only [Act.put, List.setIfInBounds_toArray, List.set_cons_zero, List.set_cons_succ, i64_w, i32_w]
        rfl
       refine done_ (by kernel_rfl) ?_
       clear hHeld
       go_wp2
       go_roundg (4 - 3)
       case measure => omega
       case rel => exact ⟨3, by rw [HQ.out], by go_num, by omega, by omega, HBG, BPG⟩
      ·have hjs : Lib.join (wu a b d e 3) [32] = Lib.join (wu a b d e 2) [32] ++ [32] ++ (ltr 2 :: Lib.decDigits d.toNat) := by
        rw [HWU.out, HWK.out]
        exact join_snoc _ _ hwe
       have HQ := Aside0.mk (show B (Lib.join (wu a b d e 3) [32]) = B (Lib.join (wu a b d e 2) [32]) ++ ⟨#[32]⟩ ++ B [ltr 2] ++ B (Lib.decDigits d.toNat) by
        rw [hjs, show (⟨#[32]⟩ : ByteArray) = B [32] from rfl, B_append, B_append, B_append]
        simp)
       have hjne : Lib.join (wu a b d e 2) [32] ≠ [] := join_ne (wu_word a b d e 2 (by decide)) hwe
       have hse : ((B (Lib.join (wu a b d e 2) [32])).toList == ([] : List UInt8)) = false := by rw [HJT.out]; exact beq_eq_false_iff_ne.2 hjne
       have hsn : ((B (Lib.join (wu a b d e 2) [32])).toList != ([] : List UInt8)) = true := by rw [HJT.out]; exact bne_iff_ne.2 hjne
       generalize B (Lib.join (wu a b d e 2) [32]) = sR at hse hsn HQ hjl ⊢
       obtain ⟨f7, f8⟩ := str_small sR ⟨#[32]⟩ (by omega) (by decide)
       have f9 : (sR.size + 1 ≤ 9223372036854775807) = True := eq_true (by omega)
       have f0 : (9223372036854775807 < sR.size + 1) = False := eq_false (by omega)
       have HQL := Aside0.mk (show (sR ++ ⟨#[32]⟩).size ≤ 300 by rw [ByteArray.size_append]; show sR.size + 1 ≤ 300; omega)
       go_upto_region 11 with (go_at_call 26; go_loud (refine (HOF.out _).mono ?_; rintro ex wo ⟨rfl, q1⟩; have HBo := Aside0.mk (below_step HBr.out q1); have BPo := Aside0.mk (blk_below BPr.out q1); clear q1 hp0 hp1 hp2 hp3))
       generalize (sR ++ ⟨#[32]⟩ : ByteArray) = sQ at HQ HQL ⊢
       have hql := HQL.out
       generalize B [ltr 2] = sP at hsl HQ hpl
       generalize B (Lib.decDigits d.toNat) = sD at HDX HQ hdl
       obtain ⟨f1, f2⟩ := str_small sQ sP (by omega) (by omega)
       obtain ⟨f3, f4⟩ := str_small (sQ ++ sP) sD (by rw [ByteArray.size_append]; omega) (by omega)
       have f5 : (sQ.size + sP.size + sD.size ≤ 9223372036854775807) = True := eq_true (by omega)
       have f6 : (9223372036854775807 < sQ.size + sP.size + sD.size) = False := eq_false (by omega)
       clear hx HWU HWK HPD HJT HJL hwe hdl hpl hjl hjs hjne hse hsn f7 f8 f9 f0 HQL hql
       refine start_ (n := 12) (S := fun w' => w'.cell? ⟨g1, 0, none⟩ = some (.int .i64 a) ∧ w'.cell? ⟨g1, 1, none⟩ = some (.int .i64 b) ∧ w'.cell? ⟨g1, 2, none⟩ = some (.int .i64 d) ∧ w'.cell? ⟨g1, 3, none⟩ = some (.int .i64 e)) (ds := []) #[false, false, false, false, false, false, false, false, false, false, false, false] (by kernel_rfl) rfl rfl ⟨blk_cell BPo.out 0, blk_cell BPo.out 1, blk_cell BPo.out 2, blk_cell BPo.out 3⟩ (fun hHeld => ?_)
       generalize hwd : wo.drew = wd at hHeld ⊢
       have HBD := Aside0.mk (show Below w.heap.size w wd by rw [← hwd]; exact below_drew1 HBo.out)
       have BPD := Aside0.mk (show wd.heap[g1]? = some (.cells #[.int .i64 a, .int .i64 b, .int .i64 d, .int .i64 e] 37 (0, 0)) by rw [← hwd]; exact BPo.out)
       clear hwd
       refine pure_ (i := 0) (N := some 22) (v := ?_) (a' := ?_) #[true, false, false, false, false, false, false, false, false, false, false, false] rfl rfl (by kernel_rfl) (fun _ _ _ h => h) (Or.inl ⟨by rfl, ?_⟩) ?_ ?_
       rotate_left
       ·intro w'
        go_simp
        try with_reducible rfl
       rotate_left
       ·simp only [Act.put, List.setIfInBounds_toArray, List.set_cons_zero, List.set_cons_succ, i64_w, i32_w]
        rfl
       refine pure_ (i := 1) (N := some 23) (v := ?_) (a' := ?_) #[true, true, false, false, false, false, false, false, false, false, false, false] rfl rfl (by kernel_rfl) (fun _ _ _ h => h) (Or.inl ⟨by rfl, ?_⟩) ?_ ?_
       rotate_left
       ·intro w'
        go_simp
        try with_reducible rfl
       rotate_left
       ·simp only [Act.put, List.setIfInBounds_toArray, List.set_cons_zero, List.set_cons_succ, i64_w, i32_w]
        rfl
       refine pure_ (i := 2) (N := some 24) (v := ?_) (a' := ?_) #[true, true, true, false, false, false, false, false, false, false, false, false] rfl rfl (by kernel_rfl) (fun _ _ _ h => h) (Or.inl ⟨by rfl, ?_⟩) ?_ ?_
       rotate_left
       ·intro w'
        go_simp
        try with_reducible rfl
       rotate_left
       ·simp only [Act.put, List.setIfInBounds_toArray, List.set_cons_zero, List.set_cons_succ, i64_w, i32_w]
        rfl
       refine pure_ (i := 3) (N := some 25) (v := ?_) (a' := ?_) #[true, true, true, true, false, false, false, false, false, false, false, false] rfl rfl (by kernel_rfl) (fun _ _ _ h => h) (Or.inl ⟨by rfl, ?_⟩) ?_ ?_
       rotate_left
       ·intro w'
        go_simp
        try with_reducible rfl
       rotate_left
       ·simp only [Act.put, List.setIfInBounds_toArray, List.set_cons_zero, List.set_cons_succ, i64_w, i32_w]
        rfl
       refine pure_ (i := 4) (N := some 26) (v := ?_) (a' := ?_) #[true, true, true, true, true, false, false, false, false, false, false, false] rfl rfl (by kernel_rfl) (fun _ _ _ h => h) (Or.inl ⟨by rfl, ?_⟩) ?_ ?_
       rotate_left
       ·intro w'
        go_simp
        try with_reducible rfl
       rotate_left
       ·simp only [Act.put, List.setIfInBounds_toArray, List.set_cons_zero, List.set_cons_succ, i64_w, i32_w]
        rfl
       refine pure_ (i := 5) (N := some 27) (v := ?_) (a' := ?_) #[true, true, true, true, true, true, false, false, false, false, false, false] rfl rfl (by kernel_rfl) (fun _ _ _ h => h) (Or.inl ⟨by rfl, ?_⟩) ?_ ?_
       rotate_left
       ·intro w'
        go_simp
        try with_reducible rfl
       rotate_left
       ·simp only [Act.put, List.setIfInBounds_toArray, List.set_cons_zero, List.set_cons_succ, i64_w, i32_w]
        rfl
       refine take_ (i := 6) (N := some 28) (v := ?_) (a' := ?_) #[true, true, true, true, true, true, true, false, false, false, false, false] rfl rfl (by kernel_rfl) (fun _ _ _ h => h) (Or.inl ⟨by rfl, ?_⟩) hHeld ?_ ?_
       rotate_left
       ·rintro w' ⟨s0_, s1_, s2_, s3_⟩
        go_simp
        try with_reducible rfl
       rotate_left
       ·simp only [Act.put, List.setIfInBounds_toArray, List.set_cons_zero, List.set_cons_succ, i64_w, i32_w]
        rfl
       refine pure_ (i := 7) (N := some 29) (v := ?_) (a' := ?_) #[true, true, true, true, true, true, true, true, false, false, false, false] rfl rfl (by kernel_rfl) (fun _ _ _ h => h) (Or.inl ⟨by rfl, ?_⟩) ?_ ?_
       rotate_left
       ·intro w'
        go_simp
        try with_reducible rfl
       rotate_left
       ·simp only [Act.put, List.setIfInBounds_toArray, List.set_cons_zero, List.set_cons_succ, i64_w, i32_w]
        rfl
       refine one_ (i := 8) (N := some 30) #[true, true, true, true, true, true, true, true, true, false, false, false] rfl rfl (by kernel_rfl) (by decide) (fun K hK => ?_)
       refine goes_ Tryz.func26 (by kernel_rfl) rfl #[.agg #[.int .i64 a, .int .i64 b, .int .i64 d, .int .i64 e], .int .i64 2] (by rfl) rfl rfl (by (try simp only [List.map_toArray, List.map_cons, List.map_nil]); first | done | rfl) ?_
       refine (HOF.out _).mono ?_
       rintro ex wf ⟨rfl, q1⟩
       have HBF := Aside0.mk (below_step HBD.out q1)
       have BPF := Aside0.mk (blk_below BPD.out q1)
       clear q1
       refine ⟨_, rfl, ?_⟩
       refine hK.out _ _ ⟨blk_cell BPF.out 0, blk_cell BPF.out 1, blk_cell BPF.out 2, blk_cell BPF.out 3⟩ (fun hHeld => ?_)
       clear hK K
       refine norm_ (a' := ?_) ?_ ?_
       rotate_left
       ·show Act.put _ (some 30) _ = _
        simp only [Act.put, List.setIfInBounds_toArray, List.set_cons_zero, List.set_cons_succ]
        rfl
       refine one_ (i := 9) (N := some 31) #[true, true, true, true, true, true, true, true, true, true, false, false] rfl rfl (by kernel_rfl) (by decide) (fun K hK => ?_)
       refine goes_ Tryz.func60 (by kernel_rfl) rfl #[.int .i64 d] (by rfl) rfl rfl (by (try simp only [List.map_toArray, List.map_cons, List.map_nil]); first | done | rfl) ?_
       refine (HDX.out _).mono ?_
       rintro ex wg ⟨rfl, q1⟩
       have HBG := Aside0.mk (below_step HBF.out q1)
       have BPG := Aside0.mk (blk_below BPF.out q1)
       clear q1
       refine ⟨_, rfl, ?_⟩
       refine hK.out _ _ ⟨blk_cell BPG.out 0, blk_cell BPG.out 1, blk_cell BPG.out 2, blk_cell BPG.out 3⟩ (fun hHeld => ?_)
       clear hK K
       refine norm_ (a' := ?_) ?_ ?_
       rotate_left
       ·show Act.put _ (some 31) _ = _
        simp only [Act.put, List.setIfInBounds_toArray, List.set_cons_zero, List.set_cons_succ]
        rfl
       refine pure_ (i := 10) (N := some 32) (v := ?_) (a' := ?_) #[true, true, true, true, true, true, true, true, true, true, true, false] rfl rfl (by kernel_rfl) (fun _ _ _ h => h) (Or.inl ⟨by rfl, ?_⟩) ?_ ?_
       rotate_left
       ·intro w'
        go_simp
        try with_reducible rfl
       rotate_left
       ·simp only [Act.put, List.setIfInBounds_toArray, List.set_cons_zero, List.set_cons_succ, i64_w, i32_w]
        rfl
       refine pure_ (i := 11) (N := some 4) (v := ?_) (a' := ?_) #[true, true, true, true, true, true, true, true, true, true, true, true] rfl rfl (by kernel_rfl) (fun _ _ _ h => h) (Or.inl ⟨by rfl, ?_⟩) ?_ ?_
       rotate_left
       ·intro w'
        go_simp
        try with_reducible rfl
       rotate_left
       ·simp only [Act.put, List.setIfInBounds_toArray, List.set_cons_zero, List.set_cons_succ, i64_w, i32_w]
        rfl
       refine done_ (by kernel_rfl) ?_
       clear hHeld
       go_wp2
       go_roundg (4 - 3)
       case measure => omega
       case rel => exact ⟨3, by rw [HQ.out], by go_num, by omega, by omega, HBG, BPG⟩
     ·have hz : (d == 0) = true := by rw [beq_iff_eq]; omega
      have HQ := Aside0.mk (show B (Lib.join (wu a b d e 3) [32]) = B (Lib.join (wu a b d e 2) [32]) by rw [HWU.out]; unfold wk; rw [if_neg hx, List.append_nil])
      generalize B (Lib.join (wu a b d e 2) [32]) = sR at *
      clear hx HWU
      go_wp2_with (go_at_call 26; go_loud (refine (HOF.out _).mono ?_; rintro ex wo ⟨rfl, q1⟩; have HBo := Aside0.mk (below_step HBr.out q1); have BPo := Aside0.mk (blk_below BPr.out q1); clear q1 hp0 hp1 hp2 hp3))
      go_roundg (4 - 3)
      case measure => omega
      case rel => exact ⟨3, by rw [HQ.out], by go_num, by omega, by omega, HBo, BPo⟩
    ·have hsl : ∀ W : World, (Instr.slice 9 (.string ⟨#[100, 119, 109, 121]⟩) (some (.int .i64 3)) (some (.int .i64 4)) none).run Tryz.prog W = .ok (.string (B [ltr 3])) W := fun _ => by kernel_rfl
     have hwk : wrap64 4 = 4 := wrap64_id (by decide) (by decide)
     have HWU := Aside0.mk (show wu a b d e 4 = wu a b d e 3 ++ wk 3 e from rfl)
     have HOF := Aside0.mk (show ∀ W : World, Calls Tryz.prog 26 #[.agg #[.int .i64 a, .int .i64 b, .int .i64 d, .int .i64 e], .int .i64 3] W fun ex w' => ex = .returned (.int .i64 e) ∧ Below W.heap.size W w' from fun W => rootcellarref16_Of.calls a b d e 3 e W rfl)
     have HJL := Aside0.mk (show (Lib.join (wu a b d e 3) [32]).length ≤ 200 from Nat.le_trans (wu_join a b d e HRP.out 3 (by decide)) (by decide))
     by_cases hx : 0 < e
     ·have hz : (e == 0) = false := by rw [beq_eq_false_iff_ne]; omega
      have HDX := Aside0.mk (fun (W : World) => HDC.out e (by omega) (by omega) W)
      have HWK := Aside0.mk (show wk 3 e = [ltr 3 :: Lib.decDigits e.toNat] from if_pos hx)
      have hdl : (B (Lib.decDigits e.toNat)).size ≤ 4 := by rw [B_size]; exact dd_len (by omega)
      have hpl : (B [ltr 3]).size = 1 := by rw [B_size]; rfl
      have hjl : (B (Lib.join (wu a b d e 3) [32])).size ≤ 200 := by rw [B_size]; exact HJL.out
      have HPD := Aside0.mk (show B [ltr 3] ++ B (Lib.decDigits e.toNat) = B (ltr 3 :: Lib.decDigits e.toNat) from B_append _ _)
      have HJT := Aside0.mk (B_toList (Lib.join (wu a b d e 3) [32]))
      by_cases hwe : wu a b d e 3 = []
      ·have HQ := Aside0.mk (show B (Lib.join (wu a b d e 4) [32]) = B (Lib.join (wu a b d e 3) [32]) ++ B [ltr 3] ++ B (Lib.decDigits e.toNat) by
        rw [HWU.out, HWK.out, hwe, List.nil_append, Lib.join_one, show Lib.join [] [32] = [] from rfl, B_append, B_append]
        rfl)
       have hse : ((B (Lib.join (wu a b d e 3) [32])).toList == ([] : List UInt8)) = true := by rw [HJT.out, hwe]; rfl
       have hsn : ((B (Lib.join (wu a b d e 3) [32])).toList != ([] : List UInt8)) = false := by rw [HJT.out, hwe]; rfl
       generalize B (Lib.join (wu a b d e 3) [32]) = sQ at hse hsn HQ hjl ⊢
       generalize B [ltr 3] = sP at hsl HQ hpl
       generalize B (Lib.decDigits e.toNat) = sD at HDX HQ hdl
       obtain ⟨f1, f2⟩ := str_small sQ sP (by omega) (by omega)
       obtain ⟨f3, f4⟩ := str_small (sQ ++ sP) sD (by rw [ByteArray.size_append]; omega) (by omega)
       have f5 : (sQ.size + sP.size + sD.size ≤ 9223372036854775807) = True := eq_true (by omega)
       have f6 : (9223372036854775807 < sQ.size + sP.size + sD.size) = False := eq_false (by omega)
       clear hx HWU HWK HPD HJT HJL hwe hdl hpl hjl
       go_upto_region 11 with (go_at_call 26; go_loud (refine (HOF.out _).mono ?_; rintro ex wo ⟨rfl, q1⟩; have HBo := Aside0.mk (below_step HBr.out q1); have BPo := Aside0.mk (blk_below BPr.out q1); clear q1 hp0 hp1 hp2 hp3))
       refine start_ (n := 12) (S := fun w' => w'.cell? ⟨g1, 0, none⟩ = some (.int .i64 a) ∧ w'.cell? ⟨g1, 1, none⟩ = some (.int .i64 b) ∧ w'.cell? ⟨g1, 2, none⟩ = some (.int .i64 d) ∧ w'.cell? ⟨g1, 3, none⟩ = some (.int .i64 e)) (ds := []) #[false, false, false, false, false, false, false, false, false, false, false, false] (by kernel_rfl) rfl rfl ⟨blk_cell BPo.out 0, blk_cell BPo.out 1, blk_cell BPo.out 2, blk_cell BPo.out 3⟩ (fun hHeld => ?_)
       generalize hwd : wo.drew = wd at hHeld ⊢
       have HBD := Aside0.mk (show Below w.heap.size w wd by rw [← hwd]; exact below_drew1 HBo.out)
       have BPD := Aside0.mk (show wd.heap[g1]? = some (.cells #[.int .i64 a, .int .i64 b, .int .i64 d, .int .i64 e] 37 (0, 0)) by rw [← hwd]; exact BPo.out)
       clear hwd
       refine pure_ (i := 0) (N := some 22) (v := ?_) (a' := ?_) #[true, false, false, false, false, false, false, false, false, false, false, false] rfl rfl (by kernel_rfl) (fun _ _ _ h => h) (Or.inl ⟨by rfl, ?_⟩) ?_ ?_
       rotate_left
       ·intro w'
        go_simp
        try with_reducible rfl
       rotate_left
       ·simp only [Act.put, List.setIfInBounds_toArray, List.set_cons_zero, List.set_cons_succ, i64_w, i32_w]
        rfl
       refine pure_ (i := 1) (N := some 23) (v := ?_) (a' := ?_) #[true, true, false, false, false, false, false, false, false, false, false, false] rfl rfl (by kernel_rfl) (fun _ _ _ h => h) (Or.inl ⟨by rfl, ?_⟩) ?_ ?_
       rotate_left
       ·intro w'
        go_simp
        try with_reducible rfl
       rotate_left
       ·simp only [Act.put, List.setIfInBounds_toArray, List.set_cons_zero, List.set_cons_succ, i64_w, i32_w]
        rfl
       refine pure_ (i := 2) (N := some 24) (v := ?_) (a' := ?_) #[true, true, true, false, false, false, false, false, false, false, false, false] rfl rfl (by kernel_rfl) (fun _ _ _ h => h) (Or.inl ⟨by rfl, ?_⟩) ?_ ?_
       rotate_left
       ·intro w'
        go_simp
        try with_reducible rfl
       rotate_left
       ·simp only [Act.put, List.setIfInBounds_toArray, List.set_cons_zero, List.set_cons_succ, i64_w, i32_w]
        rfl
       refine pure_ (i := 3) (N := some 25) (v := ?_) (a' := ?_) #[true, true, true, true, false, false, false, false, false, false, false, false] rfl rfl (by kernel_rfl) (fun _ _ _ h => h) (Or.inl ⟨by rfl, ?_⟩) ?_ ?_
       rotate_left
       ·intro w'
        go_simp
        try with_reducible rfl
       rotate_left
       ·simp only [Act.put, List.setIfInBounds_toArray, List.set_cons_zero, List.set_cons_succ, i64_w, i32_w]
        rfl
       refine pure_ (i := 4) (N := some 26) (v := ?_) (a' := ?_) #[true, true, true, true, true, false, false, false, false, false, false, false] rfl rfl (by kernel_rfl) (fun _ _ _ h => h) (Or.inl ⟨by rfl, ?_⟩) ?_ ?_
       rotate_left
       ·intro w'
        go_simp
        try with_reducible rfl
       rotate_left
       ·simp only [Act.put, List.setIfInBounds_toArray, List.set_cons_zero, List.set_cons_succ, i64_w, i32_w]
        rfl
       refine pure_ (i := 5) (N := some 27) (v := ?_) (a' := ?_) #[true, true, true, true, true, true, false, false, false, false, false, false] rfl rfl (by kernel_rfl) (fun _ _ _ h => h) (Or.inl ⟨by rfl, ?_⟩) ?_ ?_
       rotate_left
       ·intro w'
        go_simp
        try with_reducible rfl
       rotate_left
       ·simp only [Act.put, List.setIfInBounds_toArray, List.set_cons_zero, List.set_cons_succ, i64_w, i32_w]
        rfl
       refine take_ (i := 6) (N := some 28) (v := ?_) (a' := ?_) #[true, true, true, true, true, true, true, false, false, false, false, false] rfl rfl (by kernel_rfl) (fun _ _ _ h => h) (Or.inl ⟨by rfl, ?_⟩) hHeld ?_ ?_
       rotate_left
       ·rintro w' ⟨s0_, s1_, s2_, s3_⟩
        go_simp
        try with_reducible rfl
       rotate_left
       ·simp only [Act.put, List.setIfInBounds_toArray, List.set_cons_zero, List.set_cons_succ, i64_w, i32_w]
        rfl
       refine pure_ (i := 7) (N := some 29) (v := ?_) (a' := ?_) #[true, true, true, true, true, true, true, true, false, false, false, false] rfl rfl (by kernel_rfl) (fun _ _ _ h => h) (Or.inl ⟨by rfl, ?_⟩) ?_ ?_
       rotate_left
       ·intro w'
        go_simp
        try with_reducible rfl
       rotate_left
       ·simp only [Act.put, List.setIfInBounds_toArray, List.set_cons_zero, List.set_cons_succ, i64_w, i32_w]
        rfl
       refine one_ (i := 8) (N := some 30) #[true, true, true, true, true, true, true, true, true, false, false, false] rfl rfl (by kernel_rfl) (by decide) (fun K hK => ?_)
       refine goes_ Tryz.func26 (by kernel_rfl) rfl #[.agg #[.int .i64 a, .int .i64 b, .int .i64 d, .int .i64 e], .int .i64 3] (by rfl) rfl rfl (by (try simp only [List.map_toArray, List.map_cons, List.map_nil]); first | done | rfl) ?_
       refine (HOF.out _).mono ?_
       rintro ex wf ⟨rfl, q1⟩
       have HBF := Aside0.mk (below_step HBD.out q1)
       have BPF := Aside0.mk (blk_below BPD.out q1)
       clear q1
       refine ⟨_, rfl, ?_⟩
       refine hK.out _ _ ⟨blk_cell BPF.out 0, blk_cell BPF.out 1, blk_cell BPF.out 2, blk_cell BPF.out 3⟩ (fun hHeld => ?_)
       clear hK K
       refine norm_ (a' := ?_) ?_ ?_
       rotate_left
       ·show Act.put _ (some 30) _ = _
        simp only [Act.put, List.setIfInBounds_toArray, List.set_cons_zero, List.set_cons_succ]
        rfl
       refine one_ (i := 9) (N := some 31) #[true, true, true, true, true, true, true, true, true, true, false, false] rfl rfl (by kernel_rfl) (by decide) (fun K hK => ?_)
       refine goes_ Tryz.func60 (by kernel_rfl) rfl #[.int .i64 e] (by rfl) rfl rfl (by (try simp only [List.map_toArray, List.map_cons, List.map_nil]); first | done | rfl) ?_
       refine (HDX.out _).mono ?_
       rintro ex wg ⟨rfl, q1⟩
       have HBG := Aside0.mk (below_step HBF.out q1)
       have BPG := Aside0.mk (blk_below BPF.out q1)
       clear q1
       refine ⟨_, rfl, ?_⟩
       refine hK.out _ _ ⟨blk_cell BPG.out 0, blk_cell BPG.out 1, blk_cell BPG.out 2, blk_cell BPG.out 3⟩ (fun hHeld => ?_)
       clear hK K
       refine norm_ (a' := ?_) ?_ ?_
       rotate_left
       ·show Act.put _ (some 31) _ = _
        simp only [Act.put, List.setIfInBounds_toArray, List.set_cons_zero, List.set_cons_succ]
        rfl
       refine pure_ (i := 10) (N := some 32) (v := ?_) (a' := ?_) #[true, true, true, true, true, true, true, true, true, true, true, false] rfl rfl (by kernel_rfl) (fun _ _ _ h => h) (Or.inl ⟨by rfl, ?_⟩) ?_ ?_
       rotate_left
       ·intro w'
        go_simp
        try with_reducible rfl
       rotate_left
       ·simp only [Act.put, List.setIfInBounds_toArray, List.set_cons_zero, List.set_cons_succ, i64_w, i32_w]
        rfl
       refine pure_ (i := 11) (N := some 4) (v := ?_) (a' := ?_) #[true, true, true, true, true, true, true, true, true, true, true, true] rfl rfl (by kernel_rfl) (fun _ _ _ h => h) (Or.inl ⟨by rfl, ?_⟩) ?_ ?_
       rotate_left
       ·intro w'
        go_simp
        try with_reducible rfl
       rotate_left
       ·simp only [Act.put, List.setIfInBounds_toArray, List.set_cons_zero, List.set_cons_succ, i64_w, i32_w]
        rfl
       refine done_ (by kernel_rfl) ?_
       clear hHeld
       go_wp2
       go_roundg (4 - 4)
       case measure => omega
       case rel => exact ⟨4, by rw [HQ.out], by go_num, by omega, by omega, HBG, BPG⟩
      ·have hjs : Lib.join (wu a b d e 4) [32] = Lib.join (wu a b d e 3) [32] ++ [32] ++ (ltr 3 :: Lib.decDigits e.toNat) := by
        rw [HWU.out, HWK.out]
        exact join_snoc _ _ hwe
       have HQ := Aside0.mk (show B (Lib.join (wu a b d e 4) [32]) = B (Lib.join (wu a b d e 3) [32]) ++ ⟨#[32]⟩ ++ B [ltr 3] ++ B (Lib.decDigits e.toNat) by
        rw [hjs, show (⟨#[32]⟩ : ByteArray) = B [32] from rfl, B_append, B_append, B_append]
        simp)
       have hjne : Lib.join (wu a b d e 3) [32] ≠ [] := join_ne (wu_word a b d e 3 (by decide)) hwe
       have hse : ((B (Lib.join (wu a b d e 3) [32])).toList == ([] : List UInt8)) = false := by rw [HJT.out]; exact beq_eq_false_iff_ne.2 hjne
       have hsn : ((B (Lib.join (wu a b d e 3) [32])).toList != ([] : List UInt8)) = true := by rw [HJT.out]; exact bne_iff_ne.2 hjne
       generalize B (Lib.join (wu a b d e 3) [32]) = sR at hse hsn HQ hjl ⊢
       obtain ⟨f7, f8⟩ := str_small sR ⟨#[32]⟩ (by omega) (by decide)
       have f9 : (sR.size + 1 ≤ 9223372036854775807) = True := eq_true (by omega)
       have f0 : (9223372036854775807 < sR.size + 1) = False := eq_false (by omega)
       have HQL := Aside0.mk (show (sR ++ ⟨#[32]⟩).size ≤ 300 by rw [ByteArray.size_append]; show sR.size + 1 ≤ 300; omega)
       go_upto_region 11 with (go_at_call 26; go_loud (refine (HOF.out _).mono ?_; rintro ex wo ⟨rfl, q1⟩; have HBo := Aside0.mk (below_step HBr.out q1); have BPo := Aside0.mk (blk_below BPr.out q1); clear q1 hp0 hp1 hp2 hp3))
       generalize (sR ++ ⟨#[32]⟩ : ByteArray) = sQ at HQ HQL ⊢
       have hql := HQL.out
       generalize B [ltr 3] = sP at hsl HQ hpl
       generalize B (Lib.decDigits e.toNat) = sD at HDX HQ hdl
       obtain ⟨f1, f2⟩ := str_small sQ sP (by omega) (by omega)
       obtain ⟨f3, f4⟩ := str_small (sQ ++ sP) sD (by rw [ByteArray.size_append]; omega) (by omega)
       have f5 : (sQ.size + sP.size + sD.size ≤ 9223372036854775807) = True := eq_true (by omega)
       have f6 : (9223372036854775807 < sQ.size + sP.size + sD.size) = False := eq_false (by omega)
       clear hx HWU HWK HPD HJT HJL hwe hdl hpl hjl hjs hjne hse hsn f7 f8 f9 f0 HQL hql
       refine start_ (n := 12) (S := fun w' => w'.cell? ⟨g1, 0, none⟩ = some (.int .i64 a) ∧ w'.cell? ⟨g1, 1, none⟩ = some (.int .i64 b) ∧ w'.cell? ⟨g1, 2, none⟩ = some (.int .i64 d) ∧ w'.cell? ⟨g1, 3, none⟩ = some (.int .i64 e)) (ds := []) #[false, false, false, false, false, false, false, false, false, false, false, false] (by kernel_rfl) rfl rfl ⟨blk_cell BPo.out 0, blk_cell BPo.out 1, blk_cell BPo.out 2, blk_cell BPo.out 3⟩ (fun hHeld => ?_)
       generalize hwd : wo.drew = wd at hHeld ⊢
       have HBD := Aside0.mk (show Below w.heap.size w wd by rw [← hwd]; exact below_drew1 HBo.out)
       have BPD := Aside0.mk (show wd.heap[g1]? = some (.cells #[.int .i64 a, .int .i64 b, .int .i64 d, .int .i64 e] 37 (0, 0)) by rw [← hwd]; exact BPo.out)
       clear hwd
       refine pure_ (i := 0) (N := some 22) (v := ?_) (a' := ?_) #[true, false, false, false, false, false, false, false, false, false, false, false] rfl rfl (by kernel_rfl) (fun _ _ _ h => h) (Or.inl ⟨by rfl, ?_⟩) ?_ ?_
       rotate_left
       ·intro w'
        go_simp
        try with_reducible rfl
       rotate_left
       ·simp only [Act.put, List.setIfInBounds_toArray, List.set_cons_zero, List.set_cons_succ, i64_w, i32_w]
        rfl
       refine pure_ (i := 1) (N := some 23) (v := ?_) (a' := ?_) #[true, true, false, false, false, false, false, false, false, false, false, false] rfl rfl (by kernel_rfl) (fun _ _ _ h => h) (Or.inl ⟨by rfl, ?_⟩) ?_ ?_
       rotate_left
       ·intro w'
        go_simp
        try with_reducible rfl
       rotate_left
       ·simp only [Act.put, List.setIfInBounds_toArray, List.set_cons_zero, List.set_cons_succ, i64_w, i32_w]
        rfl
       refine pure_ (i := 2) (N := some 24) (v := ?_) (a' := ?_) #[true, true, true, false, false, false, false, false, false, false, false, false] rfl rfl (by kernel_rfl) (fun _ _ _ h => h) (Or.inl ⟨by rfl, ?_⟩) ?_ ?_
       rotate_left
       ·intro w'
        go_simp
        try with_reducible rfl
       rotate_left
       ·simp only [Act.put, List.setIfInBounds_toArray, List.set_cons_zero, List.set_cons_succ, i64_w, i32_w]
        rfl
       refine pure_ (i := 3) (N := some 25) (v := ?_) (a' := ?_) #[true, true, true, true, false, false, false, false, false, false, false, false] rfl rfl (by kernel_rfl) (fun _ _ _ h => h) (Or.inl ⟨by rfl, ?_⟩) ?_ ?_
       rotate_left
       ·intro w'
        go_simp
        try with_reducible rfl
       rotate_left
       ·simp only [Act.put, List.setIfInBounds_toArray, List.set_cons_zero, List.set_cons_succ, i64_w, i32_w]
        rfl
       refine pure_ (i := 4) (N := some 26) (v := ?_) (a' := ?_) #[true, true, true, true, true, false, false, false, false, false, false, false] rfl rfl (by kernel_rfl) (fun _ _ _ h => h) (Or.inl ⟨by rfl, ?_⟩) ?_ ?_
       rotate_left
       ·intro w'
        go_simp
        try with_reducible rfl
       rotate_left
       ·simp only [Act.put, List.setIfInBounds_toArray, List.set_cons_zero, List.set_cons_succ, i64_w, i32_w]
        rfl
       refine pure_ (i := 5) (N := some 27) (v := ?_) (a' := ?_) #[true, true, true, true, true, true, false, false, false, false, false, false] rfl rfl (by kernel_rfl) (fun _ _ _ h => h) (Or.inl ⟨by rfl, ?_⟩) ?_ ?_
       rotate_left
       ·intro w'
        go_simp
        try with_reducible rfl
       rotate_left
       ·simp only [Act.put, List.setIfInBounds_toArray, List.set_cons_zero, List.set_cons_succ, i64_w, i32_w]
        rfl
       refine take_ (i := 6) (N := some 28) (v := ?_) (a' := ?_) #[true, true, true, true, true, true, true, false, false, false, false, false] rfl rfl (by kernel_rfl) (fun _ _ _ h => h) (Or.inl ⟨by rfl, ?_⟩) hHeld ?_ ?_
       rotate_left
       ·rintro w' ⟨s0_, s1_, s2_, s3_⟩
        go_simp
        try with_reducible rfl
       rotate_left
       ·simp only [Act.put, List.setIfInBounds_toArray, List.set_cons_zero, List.set_cons_succ, i64_w, i32_w]
        rfl
       refine pure_ (i := 7) (N := some 29) (v := ?_) (a' := ?_) #[true, true, true, true, true, true, true, true, false, false, false, false] rfl rfl (by kernel_rfl) (fun _ _ _ h => h) (Or.inl ⟨by rfl, ?_⟩) ?_ ?_
       rotate_left
       ·intro w'
        go_simp
        try with_reducible rfl
       rotate_left
       ·simp only [Act.put, List.setIfInBounds_toArray, List.set_cons_zero, List.set_cons_succ, i64_w, i32_w]
        rfl
       refine one_ (i := 8) (N := some 30) #[true, true, true, true, true, true, true, true, true, false, false, false] rfl rfl (by kernel_rfl) (by decide) (fun K hK => ?_)
       refine goes_ Tryz.func26 (by kernel_rfl) rfl #[.agg #[.int .i64 a, .int .i64 b, .int .i64 d, .int .i64 e], .int .i64 3] (by rfl) rfl rfl (by (try simp only [List.map_toArray, List.map_cons, List.map_nil]); first | done | rfl) ?_
       refine (HOF.out _).mono ?_
       rintro ex wf ⟨rfl, q1⟩
       have HBF := Aside0.mk (below_step HBD.out q1)
       have BPF := Aside0.mk (blk_below BPD.out q1)
       clear q1
       refine ⟨_, rfl, ?_⟩
       refine hK.out _ _ ⟨blk_cell BPF.out 0, blk_cell BPF.out 1, blk_cell BPF.out 2, blk_cell BPF.out 3⟩ (fun hHeld => ?_)
       clear hK K
       refine norm_ (a' := ?_) ?_ ?_
       rotate_left
       ·show Act.put _ (some 30) _ = _
        simp only [Act.put, List.setIfInBounds_toArray, List.set_cons_zero, List.set_cons_succ]
        rfl
       refine one_ (i := 9) (N := some 31) #[true, true, true, true, true, true, true, true, true, true, false, false] rfl rfl (by kernel_rfl) (by decide) (fun K hK => ?_)
       refine goes_ Tryz.func60 (by kernel_rfl) rfl #[.int .i64 e] (by rfl) rfl rfl (by (try simp only [List.map_toArray, List.map_cons, List.map_nil]); first | done | rfl) ?_
       refine (HDX.out _).mono ?_
       rintro ex wg ⟨rfl, q1⟩
       have HBG := Aside0.mk (below_step HBF.out q1)
       have BPG := Aside0.mk (blk_below BPF.out q1)
       clear q1
       refine ⟨_, rfl, ?_⟩
       refine hK.out _ _ ⟨blk_cell BPG.out 0, blk_cell BPG.out 1, blk_cell BPG.out 2, blk_cell BPG.out 3⟩ (fun hHeld => ?_)
       clear hK K
       refine norm_ (a' := ?_) ?_ ?_
       rotate_left
       ·show Act.put _ (some 31) _ = _
        simp only [Act.put, List.setIfInBounds_toArray, List.set_cons_zero, List.set_cons_succ]
        rfl
       refine pure_ (i := 10) (N := some 32) (v := ?_) (a' := ?_) #[true, true, true, true, true, true, true, true, true, true, true, false] rfl rfl (by kernel_rfl) (fun _ _ _ h => h) (Or.inl ⟨by rfl, ?_⟩) ?_ ?_
       rotate_left
       ·intro w'
        go_simp
        try with_reducible rfl
       rotate_left
       ·simp only [Act.put, List.setIfInBounds_toArray, List.set_cons_zero, List.set_cons_succ, i64_w, i32_w]
        rfl
       refine pure_ (i := 11) (N := some 4) (v := ?_) (a' := ?_) #[true, true, true, true, true, true, true, true, true, true, true, true] rfl rfl (by kernel_rfl) (fun _ _ _ h => h) (Or.inl ⟨by rfl, ?_⟩) ?_ ?_
       rotate_left
       ·intro w'
        go_simp
        try with_reducible rfl
       rotate_left
       ·simp only [Act.put, List.setIfInBounds_toArray, List.set_cons_zero, List.set_cons_succ, i64_w, i32_w]
        rfl
       refine done_ (by kernel_rfl) ?_
       clear hHeld
       go_wp2
       go_roundg (4 - 4)
       case measure => omega
       case rel => exact ⟨4, by rw [HQ.out], by go_num, by omega, by omega, HBG, BPG⟩
     ·have hz : (e == 0) = true := by rw [beq_iff_eq]; omega
      have HQ := Aside0.mk (show B (Lib.join (wu a b d e 4) [32]) = B (Lib.join (wu a b d e 3) [32]) by rw [HWU.out]; unfold wk; rw [if_neg hx, List.append_nil])
      generalize B (Lib.join (wu a b d e 3) [32]) = sR at *
      clear hx HWU
      go_wp2_with (go_at_call 26; go_loud (refine (HOF.out _).mono ?_; rintro ex wo ⟨rfl, q1⟩; have HBo := Aside0.mk (below_step HBr.out q1); have BPo := Aside0.mk (blk_below BPr.out q1); clear q1 hp0 hp1 hp2 hp3))
      go_roundg (4 - 4)
      case measure => omega
      case rel => exact ⟨4, by rw [HQ.out], by go_num, by omega, by omega, HBo, BPo⟩
   ·have hkz : decide ((k : Int) < 4) = false := decide_eq_false (by omega)
    obtain rfl : k = 4 := by omega
    rw [wu_four]
    have HJT := Aside0.mk (B_toList (Lib.join (wordsP a b d e) [32]))
    by_cases hw0 : wordsP a b d e = []
    ·have HN := Aside0.mk (show T = [100, 48] by rw [HT.out]; unfold printL; rw [if_pos HRP.out, if_pos hw0])
     have hse : ((B (Lib.join (wordsP a b d e) [32])).toList == ([] : List UInt8)) = true := by rw [HJT.out, hw0]; rfl
     generalize B (Lib.join (wordsP a b d e) [32]) = sQ at hse ⊢
     clear HJT
     go_wp2
     go_ret
     exact ⟨by rw [HN.out]; rfl, HBr.out⟩
    ·have HN := Aside0.mk (show T = Lib.join (wordsP a b d e) [32] by rw [HT.out]; unfold printL; rw [if_pos HRP.out, if_neg hw0])
     have hjne : Lib.join (wordsP a b d e) [32] ≠ [] := by
      rw [← wu_four] at hw0 ⊢
      exact join_ne (wu_word a b d e 4 (by decide)) hw0
     have hse : ((B (Lib.join (wordsP a b d e) [32])).toList == ([] : List UInt8)) = false := by rw [HJT.out]; exact beq_eq_false_iff_ne.2 hjne
     have HNB := Aside0.mk (show B T = B (Lib.join (wordsP a b d e) [32]) by rw [HN.out])
     generalize B (Lib.join (wordsP a b d e) [32]) = sQ at hse HNB ⊢
     clear HJT hjne
     go_wp2
     go_ret
     exact ⟨by rw [HNB.out]; rfl, HBr.out⟩
end Go.Proofs.YtfdlbnfjohpdlaaGreatDoor.PPo
namespace Go.Proofs.YtfdlbnfjohpdlaaGreatDoor.PPo
open Go.RowKit Go.Proofs.YtfdlbnfjohpdlaaGreatDoor.Th Go.Proofs.YtfdlbnfjohpdlaaGreatDoorW.PrintWords Go.Proofs.YtfdlbnfjohpdlaaGreatDoorW.PrintLast Go.Proofs.YtfdlbnfjohpdlaaGreatDoorW.PrintMore
attribute [local go_sem] max2_int min2_int max_two min_two max_three min_three max_four min_four
set_option linter.unusedVariables false
set_option linter.unusedSimpArgs false
theorem rpol_put {W : World} {g : Nat} {z0 z1 z2 z3 : Value} (a0 a1 a2 a3 : Value) (h : W.heap[g]? = some (.cells #[z0, z1, z2, z3] 37 (0, 0))) :
  ((((W.setCell ⟨g, 0, none⟩ a0).setCell ⟨g, 1, none⟩ a1).setCell ⟨g, 2, none⟩ a2).setCell ⟨g, 3, none⟩ a3).heap[g]? = some (.cells #[a0, a1, a2, a3] 37 (0, 0)) :=
 blk_put (blk_put (blk_put (blk_put h 0 a0 rfl) 1 a1 rfl) 2 a2 rfl) 3 a3 rfl
theorem rpol_below {w0 W : World} {g : Nat} (a0 a1 a2 a3 : Value) (hb : Below w0.heap.size w0 W) (hg : w0.heap.size ≤ g) :
  Below w0.heap.size w0 ((((W.setCell ⟨g, 0, none⟩ a0).setCell ⟨g, 1, none⟩ a1).setCell ⟨g, 2, none⟩ a2).setCell ⟨g, 3, none⟩ a3) :=
 below_set (below_set (below_set (below_set hb hg) hg) hg) hg
theorem words_len (l : List UInt8) : (wordsL l).length ≤ l.length + 1 := Nat.le_trans (List.length_filter_le _ _) (pieces_small l).1
set_option maxHeartbeats 8000000 in
set_option maxRecDepth 100000 in
theorem PolicyReads_walk (s : ByteArray) (a b d e : Int) (w : World) (ht : TabsW w) (hm : MaxW w) (hpw : PowW w) :
  Calls Tryz.prog 8 #[.string s, .agg #[.int .i64 a, .int .i64 b, .int .i64 d, .int .i64 e]] w fun ex w' => ex = .returned (.bool true) ∧ Below w.heap.size w w' := by
 have hu := Tryz.underlying23
 have hu2 := Tryz.underlying37
 have hu4 := Tryz.underlying56
 have mixed : Tryz.prog.follows .mixedOrders = true := by kernel_rfl
 have HB := Aside0.mk (Below.refl w.heap.size w)
 have HSH := Aside0.mk (fun (W : World) (hW : Below w.heap.size w W) => (shownR.calls W (ht.below hW) (hm.below hW)).mono fun ex w' q => (show ex = .returned (.bool true) ∧ Below w.heap.size w w' ∧ Below W.heap.size W w' from ⟨q.1, hW.trans (q.2.mono (below_size hW)), q.2⟩))
 have HPR := Aside0.mk (fun (W : World) (hW : Below w.heap.size w W) => print.calls a b d e W (hpw.below hW))
 have HRR := Aside0.mk (fun (W : World) => refPrint.calls a b d e W)
 have HRI := Aside0.mk (fun (W : World) => rightP.calls a b d e W)
 have HRJ := Aside0.mk (fun (W : World) => rootcellarref16_Right.calls a b d e _ W (refright_f a b d e))
 have HMP := Aside0.mk (fun (W : World) => mustC.calls a b d e W)
 generalize printL a b d e = T at HPR HRR
 generalize B T = sT at HPR HRR
 generalize rightP a b d e = pr at HRI HRJ
 by_cases hlen : 300 < s.size
 ·have hlz : decide ((300 : Int) < (s.size : Int)) = true := decide_eq_true (by omega)
  clear ht hm hpw hlen
  go_enter Tryz.func8, Tryz.ntmps8
  go_wp2_with (first
   | ((with_reducible refine gate_dst (N := 3) rfl ?_); refine box_event ?hg (N := 3) ?hd (cs := #[.int .i64 a, .int .i64 b, .int .i64 d, .int .i64 e]) (t := 23) ?hr ?_; (case hd => rfl); (case hg => rfl); (case hr => first | (go_simp; done) | (go_simp; rfl)); intro g3 hg3 wb3 hbox hb; have HB3 := Aside0.mk (below_step HB.out hb); have BK3 := Aside0.mk hbox; have HG3 := Aside0.mk (show w.heap.size ≤ g3 by rw [hg3]; exact below_size HB.out); clear hg3 hb hbox; have hb3_0 := blk_cell BK3.out 0; have hb3_1 := blk_cell BK3.out 1; have hb3_2 := blk_cell BK3.out 2; have hb3_3 := blk_cell BK3.out 3)
   | (go_at_call 10; go_loud (refine (HSH.out _ HB3.out).mono ?_; rintro ex w1 ⟨rfl, q1, q2⟩; have HB1 := Aside0.mk q1; clear q1 q2 hb3_0 hb3_1 hb3_2 hb3_3)))
  go_ret
  exact ⟨rfl, HB1.out⟩
 ·have hlz : decide ((300 : Int) < (s.size : Int)) = false := decide_eq_false (by omega)
  obtain ⟨r0, r1, r2, r3, r4, hr⟩ : ∃ r0 r1 r2 r3 r4, parseL s.data.toList = (r0, r1, r2, r3, r4) := ⟨_, _, _, _, _, rfl⟩
  have hsl : s.data.toList.length ≤ 300 := by rw [← Lib.size_eq]; omega
  have hwl := words_len s.data.toList
  have HPA := Aside0.mk (show ∀ W, Below w.heap.size w W → Calls Tryz.prog 28 #[.string s] W fun e w' => e = .returned (.tuple #[.agg #[.int .i64 r0, .int .i64 r1, .int .i64 r2, .int .i64 r3], .int .i64 r4]) ∧ Below W.heap.size W w' from fun W hW => by
   have h := parse.calls s.data.toList hsl r0 r1 r2 r3 r4 hr W (hm.below hW) (hpw.below hW)
   rw [B_of] at h
   exact h)
  have HPB := Aside0.mk (show ∀ W, Calls Tryz.prog 29 #[.string s] W fun e w' => e = .returned (.tuple #[.agg #[.int .i64 r0, .int .i64 r1, .int .i64 r2, .int .i64 r3], .int .i64 r4]) ∧ Below W.heap.size W w' from fun W => by
   obtain ⟨k, hk⟩ := (refParse_ev s.data.toList (by omega) (by omega)).get
   rw [hr, B_of] at hk
   exact rootcellarref16_Parse.calls k s r0 r1 r2 r3 r4 W hk)
  have HMR := Aside0.mk (fun (W : World) => mustC.calls r0 r1 r2 r3 W)
  clear ht hm hpw hlen hr hsl hwl
  go_enter Tryz.func8, Tryz.ntmps8
  go_upto_region 6 with (first
   | ((with_reducible refine gate_dst (N := 3) rfl ?_); refine box_event ?hg (N := 3) ?hd (cs := #[.int .i64 a, .int .i64 b, .int .i64 d, .int .i64 e]) (t := 23) ?hr ?_; (case hd => rfl); (case hg => rfl); (case hr => first | (go_simp; done) | (go_simp; rfl)); intro g3 hg3 wb3 hbox hb; have HB3 := Aside0.mk (below_step HB.out hb); have BK3 := Aside0.mk hbox; have HG3 := Aside0.mk (show w.heap.size ≤ g3 by rw [hg3]; exact below_size HB.out); clear hg3 hb hbox; have hb3_0 := blk_cell BK3.out 0; have hb3_1 := blk_cell BK3.out 1; have hb3_2 := blk_cell BK3.out 2; have hb3_3 := blk_cell BK3.out 3)
   | (go_at_call 10; go_loud (refine (HSH.out _ HB3.out).mono ?_; rintro ex w1 ⟨rfl, q1, q2⟩; have HB1 := Aside0.mk q1; have BP1 := Aside0.mk (blk_below BK3.out q2); clear q1 q2 hb3_0 hb3_1 hb3_2 hb3_3))
   | (go_at_call 28; go_loud (refine (HPA.out _ HB1.out).mono ?_; rintro ex wp ⟨rfl, q1⟩; have HBp := Aside0.mk (below_step HB1.out q1); have BPp := Aside0.mk (blk_below BP1.out q1); clear q1))
   | ((with_reducible refine gate_dst (N := 6) rfl ?_); refine box_event ?hg (N := 6) ?hd (cs := #[.int .i64 0, .int .i64 0, .int .i64 0, .int .i64 0]) (t := 23) ?hr ?_; (case hd => rfl); (case hg => rfl); (case hr => first | (go_simp; done) | (go_simp; rfl)); intro g6 hg6 wa6 hbox hb; have HX6 := Aside0.mk hb; have BZ6 := Aside0.mk hbox; have HG6 := Aside0.mk (Nat.le_of_eq hg6.symm); clear hg6 hb hbox; have hc6_0 := blk_cell BZ6.out 0; have hf6_0 := blk_frozen BZ6.out 0; have hc6_1 := blk_cell BZ6.out 1; have hf6_1 := blk_frozen BZ6.out 1; have hc6_2 := blk_cell BZ6.out 2; have hf6_2 := blk_frozen BZ6.out 2; have hc6_3 := blk_cell BZ6.out 3; have hf6_3 := blk_frozen BZ6.out 3)
   | ((with_reducible refine gate_store (t := 23) (p := 6) rfl ?_); refine store_event (t := 23) (p := 6) (v := .tmp 22) (w1 := ((((wa6.setCell ⟨g6, 0, none⟩ (.int .i64 r0)).setCell ⟨g6, 1, none⟩ (.int .i64 r1)).setCell ⟨g6, 2, none⟩ (.int .i64 r2)).setCell ⟨g6, 3, none⟩ (.int .i64 r3))) rfl rfl rfl ?hr ?_; (case hr => first | (go_simp; done) | (go_simp; rfl)); intro w6 hw6; have q1 := pol_put (.int .i64 r0) (.int .i64 r1) (.int .i64 r2) (.int .i64 r3) BZ6.out; have q2 := pol_below (.int .i64 r0) (.int .i64 r1) (.int .i64 r2) (.int .i64 r3) HX6.out HG6.out; rw [← hw6] at q1 q2; clear hw6; have BK6 := Aside0.mk q1; have HY6 := Aside0.mk q2; have HB6 := Aside0.mk (below_step HBp.out q2); have BP6 := Aside0.mk (blk_below BPp.out q2); clear hc6_0 hf6_0 hc6_1 hf6_1 hc6_2 hf6_2 hc6_3 hf6_3 q1 q2; have hd6_0 := blk_cell BK6.out 0; have hd6_1 := blk_cell BK6.out 1; have hd6_2 := blk_cell BK6.out 2; have hd6_3 := blk_cell BK6.out 3; clear hd6_0 hd6_1 hd6_2 hd6_3)
   | (go_at_call 29; go_loud (refine (HPB.out _).mono ?_; rintro ex wq ⟨rfl, q1⟩; have HBq := Aside0.mk (below_step HB6.out q1); have BPq := Aside0.mk (blk_below BP6.out q1); have BAq := Aside0.mk (blk_below BK6.out q1); clear q1))
   | ((with_reducible refine gate_dst (N := 8) rfl ?_); refine box_event ?hg (N := 8) ?hd (cs := #[.int .i64 0, .int .i64 0, .int .i64 0, .int .i64 0]) (t := 37) ?hr ?_; (case hd => rfl); (case hg => rfl); (case hr => first | (go_simp; done) | (go_simp; rfl)); intro g8 hg8 wa8 hbox hb; have HX8 := Aside0.mk hb; have BZ8 := Aside0.mk hbox; have HG8 := Aside0.mk (Nat.le_of_eq hg8.symm); clear hg8 hb hbox; have hc8_0 := blk_cell BZ8.out 0; have hf8_0 := blk_frozen BZ8.out 0; have hc8_1 := blk_cell BZ8.out 1; have hf8_1 := blk_frozen BZ8.out 1; have hc8_2 := blk_cell BZ8.out 2; have hf8_2 := blk_frozen BZ8.out 2; have hc8_3 := blk_cell BZ8.out 3; have hf8_3 := blk_frozen BZ8.out 3)
   | ((with_reducible refine gate_store (t := 37) (p := 8) rfl ?_); refine store_event (t := 37) (p := 8) (v := .tmp 27) (w1 := ((((wa8.setCell ⟨g8, 0, none⟩ (.int .i64 r0)).setCell ⟨g8, 1, none⟩ (.int .i64 r1)).setCell ⟨g8, 2, none⟩ (.int .i64 r2)).setCell ⟨g8, 3, none⟩ (.int .i64 r3))) rfl rfl rfl ?hr ?_; (case hr => first | (go_simp; done) | (go_simp; rfl)); intro w8 hw8; have q1 := rpol_put (.int .i64 r0) (.int .i64 r1) (.int .i64 r2) (.int .i64 r3) BZ8.out; have q2 := rpol_below (.int .i64 r0) (.int .i64 r1) (.int .i64 r2) (.int .i64 r3) HX8.out HG8.out; rw [← hw8] at q1 q2; clear hw8; have BK8 := Aside0.mk q1; have HY8 := Aside0.mk q2; have HB8 := Aside0.mk (below_step HBq.out q2); have BP8 := Aside0.mk (blk_below BPq.out q2); have BA8 := Aside0.mk (blk_below BAq.out q2); clear hc8_0 hf8_0 hc8_1 hf8_1 hc8_2 hf8_2 hc8_3 hf8_3 q1 q2; have hd8_0 := blk_cell BK8.out 0; have hd8_1 := blk_cell BK8.out 1; have hd8_2 := blk_cell BK8.out 2; have hd8_3 := blk_cell BK8.out 3; clear hd8_0 hd8_1 hd8_2 hd8_3))
  have HKEEP := Aside0.mk (show ∀ w', Below w8.heap.size w8 w' → (Below w8.heap.size w8 w' ∧ w'.cell? ⟨g3, 0, none⟩ = some (.int .i64 a) ∧ w'.cell? ⟨g3, 1, none⟩ = some (.int .i64 b) ∧ w'.cell? ⟨g3, 2, none⟩ = some (.int .i64 d) ∧ w'.cell? ⟨g3, 3, none⟩ = some (.int .i64 e) ∧ w'.cell? ⟨g6, 0, none⟩ = some (.int .i64 r0) ∧ w'.cell? ⟨g6, 1, none⟩ = some (.int .i64 r1) ∧ w'.cell? ⟨g6, 2, none⟩ = some (.int .i64 r2) ∧ w'.cell? ⟨g6, 3, none⟩ = some (.int .i64 r3) ∧ w'.cell? ⟨g8, 0, none⟩ = some (.int .i64 r0) ∧ w'.cell? ⟨g8, 1, none⟩ = some (.int .i64 r1) ∧ w'.cell? ⟨g8, 2, none⟩ = some (.int .i64 r2) ∧ w'.cell? ⟨g8, 3, none⟩ = some (.int .i64 r3)) from fun w' hb =>
   have h3 := blk_below BP8.out hb
   have h6 := blk_below BA8.out hb
   have h8 := blk_below BK8.out hb
   ⟨hb, blk_cell h3 0, blk_cell h3 1, blk_cell h3 2, blk_cell h3 3, blk_cell h6 0, blk_cell h6 1, blk_cell h6 2, blk_cell h6 3, blk_cell h8 0, blk_cell h8 1, blk_cell h8 2, blk_cell h8 3⟩)
  have HPR8 := Aside0.mk (fun (W : World) (hW : Below w8.heap.size w8 W) => HPR.out W (below_step HB8.out hW))
  clear HSH HPA HPB HPR
  have HBd := Aside0.mk (below_drew1 (Below.refl w8.heap.size w8))
  go_region_held3 (fun w' => Below w8.heap.size w8 w' ∧ w'.cell? ⟨g3, 0, none⟩ = some (.int .i64 a) ∧ w'.cell? ⟨g3, 1, none⟩ = some (.int .i64 b) ∧ w'.cell? ⟨g3, 2, none⟩ = some (.int .i64 d) ∧ w'.cell? ⟨g3, 3, none⟩ = some (.int .i64 e) ∧ w'.cell? ⟨g6, 0, none⟩ = some (.int .i64 r0) ∧ w'.cell? ⟨g6, 1, none⟩ = some (.int .i64 r1) ∧ w'.cell? ⟨g6, 2, none⟩ = some (.int .i64 r2) ∧ w'.cell? ⟨g6, 3, none⟩ = some (.int .i64 r3) ∧ w'.cell? ⟨g8, 0, none⟩ = some (.int .i64 r0) ∧ w'.cell? ⟨g8, 1, none⟩ = some (.int .i64 r1) ∧ w'.cell? ⟨g8, 2, none⟩ = some (.int .i64 r2) ∧ w'.cell? ⟨g8, 3, none⟩ = some (.int .i64 r3)) (exact HKEEP.out _ (by with_reducible first | exact HBd.out | exact And.left (by assumption))) (first
   | (go_at_call 15; (with_reducible show Calls _ _ #[.agg #[.int .i64 r0, .int .i64 r1, .int .i64 r2, .int .i64 r3]] _ _); go_loud (refine (HMR.out _).mono ?_; rintro ex wm ⟨rfl, q3⟩; have HBd := Aside0.mk (below_step HBd.out q3); clear q3))
   | (go_at_call 15; (with_reducible show Calls _ _ #[.agg #[.int .i64 a, .int .i64 b, .int .i64 d, .int .i64 e]] _ _); go_loud (refine (HMP.out _).mono ?_; rintro ex wm ⟨rfl, q3⟩; have HBd := Aside0.mk (below_step HBd.out q3); clear q3))
   | (go_at_call 19; go_loud (refine (HRI.out _).mono ?_; rintro ex wm ⟨rfl, q3⟩; have HBd := Aside0.mk (below_step HBd.out q3); clear q3))
   | (go_at_call 30; go_loud (refine (HRJ.out _).mono ?_; rintro ex wm ⟨rfl, q3⟩; have HBd := Aside0.mk (below_step HBd.out q3); clear q3))
   | (go_at_call 31; go_loud (refine (HPR8.out _ HBd.out).mono ?_; rintro ex wm ⟨rfl, q3⟩; have HBd := Aside0.mk (below_step HBd.out q3); clear q3))
   | (go_at_call 32; go_loud (refine (HRR.out _).mono ?_; rintro ex wm ⟨rfl, q3⟩; have HBd := Aside0.mk (below_step HBd.out q3); clear q3)))
  go_wp2
  go_ret
  exact ⟨rfl, below_step HB8.out HBd.out⟩
end Go.Proofs.YtfdlbnfjohpdlaaGreatDoor.PPo
