import Derived.Test.YtfdlbnfjohpdlaaGreatDoorPurePw
import Derived.Test.YtfdlbnfjohpdlaaGreatDoorPureDp
import Derived.BigQuiet
--compressed
namespace Go.Proofs.YtfdlbnfjohpdlaaGreatDoor.Th
open Go.RowKit Go.Proofs.YtfdlbnfjohpdlaaGreatDoor.PPo Go.Proofs.YtfdlbnfjohpdlaaGreatDoorW.PrintWords
set_option linter.unusedVariables false
def wu (a b d e : Int) : Nat → List (List UInt8)
 | 0 => []
 | k + 1 => wu a b d e k ++ wk k (ofP a b d e (k : Int))
theorem wu_four (a b d e : Int) : wu a b d e 4 = wordsP a b d e := by
 show ((([] ++ wk 0 a) ++ wk 1 b) ++ wk 2 d) ++ wk 3 e = _
 rw [List.nil_append]
 rfl
theorem wk_len (k : Nat) (n : Int) : (wk k n).length ≤ 1 := by unfold wk; split <;> simp
theorem wu_len (a b d e : Int) : ∀ k, k ≤ 4 → (wu a b d e k).length ≤ 4 := by
 have key : ∀ k, (wu a b d e k).length ≤ k := by
  intro k
  induction k with
  | zero => exact Nat.le_refl _
  | succ k ih =>
   have := wk_len k (ofP a b d e (k : Int))
   rw [wu, List.length_append]
   omega
 intro k hk
 exact Nat.le_trans (key k) hk
theorem print_len (a b d e : Int) (h : rightP a b d e = true) : (Lib.join (wordsP a b d e) [32]).length ≤ 100 := by
 obtain ⟨⟨a0, a1⟩, ⟨b0, b1⟩, ⟨d0, d1⟩, e0, e1⟩ := right_iff.1 h
 have hw : ∀ w ∈ wordsP a b d e, w.length ≤ 5 := fun w hw => by
  have hk : ∀ (k : Nat) (n : Int), 0 ≤ n → n ≤ 1000 → w ∈ wk k n → w.length ≤ 5 := fun k n h0 h1 hm => by
   unfold wk at hm
   split at hm
   ·obtain rfl := List.mem_singleton.1 hm
    have := dd_len (n := n.toNat) (by omega)
    rw [List.length_cons]
    omega
   ·cases hm
  unfold wordsP at hw
  simp only [List.mem_append] at hw
  rcases hw with ((hw | hw) | hw) | hw
  ·exact hk 0 a a0 a1 hw
  ·exact hk 1 b b0 b1 hw
  ·exact hk 2 d d0 d1 hw
  ·exact hk 3 e e0 e1 hw
 have hl : (wordsP a b d e).length ≤ 4 := by rw [← wu_four]; exact wu_len a b d e 4 (by decide)
 generalize wordsP a b d e = ws at hw hl
 have key : ∀ (n : Nat) (ws : List (List UInt8)), ws.length ≤ n → (∀ w ∈ ws, w.length ≤ 5) → (Lib.join ws [32]).length ≤ 6 * n := by
  intro n
  induction n with
  | zero => intro ws h _; obtain rfl := List.length_eq_zero_iff.1 (Nat.le_zero.1 h); exact Nat.le_refl _
  | succ n ih =>
   intro ws h hw
   match ws, h, hw with
   | [], _, _ => exact Nat.zero_le _
   | [w], _, hw => rw [Lib.join_one]; have := hw w (by simp); omega
   | w :: v :: ws, h, hw =>
    have := ih (v :: ws) (by simpa using h) (fun x hx => hw x (List.mem_cons_of_mem _ hx))
    have hw1 := hw w (by simp)
    have e : Lib.join (w :: v :: ws) [32] = w ++ 32 :: Lib.join (v :: ws) [32] := by
     rw [Lib.join_cons, Lib.join_cons]
     simp [Lib.joinTail]
    rw [e, List.length_append, List.length_cons]
    omega
 have := key 4 ws hl hw
 omega
end Go.Proofs.YtfdlbnfjohpdlaaGreatDoor.Th
namespace Go.Proofs.YtfdlbnfjohpdlaaGreatDoor.PPo
open Go.RowKit Go.Proofs.YtfdlbnfjohpdlaaGreatDoor.Th Go.Proofs.YtfdlbnfjohpdlaaGreatDoorW.PrintWords Go.Proofs.YtfdlbnfjohpdlaaGreatDoorW.PrintLast Go.Proofs.YtfdlbnfjohpdlaaGreatDoorW.PrintMore
attribute [local go_sem] max2_int min2_int max_two min_two max_three min_three max_four min_four
set_option linter.unusedVariables false
set_option linter.unusedSimpArgs false
theorem extraJoin : Go.Proofs.Builder.Extra Tryz.prog Tryz.layJoin_ren where
 sizeBuilder := by kernel_rfl
 liesBuilder := by kernel_rfl
 t5 := Tryz.underlying5
 a5 := Tryz.isAgg5
 z5 := Tryz.sizeOf5
 v5 := Tryz.zeroValue5
 infoByte := by kernel_rfl
 cellsByte := by kernel_rfl
 sizeByte := by kernel_rfl
 neB5 := by decide
set_option maxHeartbeats 8000000 in
set_option maxRecDepth 100000 in
theorem print.calls (a b d e : Int) (w : World) (hpw : PowW w) : Calls Tryz.prog 31 #[.agg #[.int .i64 a, .int .i64 b, .int .i64 d, .int .i64 e]] w fun ex w' => ex = .returned (.string (B (printL a b d e))) ∧ Below w.heap.size w w' := by
 have hup := Tryz.underlying23
 have mixed : Tryz.prog.follows .mixedOrders = true := by kernel_rfl
 have HB := Aside0.mk (Below.refl w.heap.size w)
 have HP := Aside0.mk (fun (W : World) => rightP.calls a b d e W)
 have HCN := Aside0.mk (fun (W : World) => counts.calls a b d e W)
 have HIT := Aside0.mk (fun (x : Int) (h0 : 0 ≤ x) (h1 : x ≤ 1000) (W : World) (hW : Below w.heap.size w W) => show Calls Tryz.prog 58 #[.int .i64 x] W fun e w' => e = .returned (.string (B (Lib.decDigits x.toNat))) ∧ Below W.heap.size W w' from by
  have h := itoa.calls x.toNat (by omega) W (hpw.below hW)
  rw [show ((x.toNat : Nat) : Int) = x by omega] at h
  exact h)
 obtain ⟨T, hT⟩ : ∃ T, T = printL a b d e := ⟨_, rfl⟩
 rw [← hT]
 have HT := Aside0.mk hT
 clear hpw hT
 cases hp : rightP a b d e with
 | false =>
  have HN := Aside0.mk (show T = [] by rw [HT.out]; unfold printL; rw [if_neg (by rw [hp]; decide)])
  rw [hp] at HP
  clear hp
  go_enter Tryz.func31, Tryz.ntmps31
  go_wp2_with (first
   | ((with_reducible refine gate_dst (N := 1) rfl ?_); refine box_event ?hg (N := 1) ?hd (cs := #[.int .i64 a, .int .i64 b, .int .i64 d, .int .i64 e]) (t := 23) ?hr ?_; (case hd => rfl); (case hg => rfl); (case hr => first | (go_simp; done) | (go_simp; rfl)); intro g1 hg1 wb1 hbox hb; have HB1 := Aside0.mk (below_step HB.out hb); have BK1 := Aside0.mk hbox; have HG1 := Aside0.mk (show w.heap.size ≤ g1 by rw [hg1]; exact below_size HB.out); clear hg1 hb hbox; have hb1_0 := blk_cell BK1.out 0; have hb1_1 := blk_cell BK1.out 1; have hb1_2 := blk_cell BK1.out 2; have hb1_3 := blk_cell BK1.out 3)
   | (go_at_call 19; go_loud (refine (HP.out _).mono ?_; rintro ex w7 ⟨rfl, q1⟩; have HB7 := Aside0.mk (below_step HB1.out q1); clear q1)))
  go_ret
  exact ⟨by rw [HN.out]; rfl, HB7.out⟩
 | true =>
  rw [hp] at HP
  obtain ⟨⟨a0, a1⟩, ⟨b0, b1⟩, ⟨d0, d1⟩, e0, e1⟩ := right_iff.1 hp
  have HRP := Aside0.mk hp
  clear hp
  go_enter Tryz.func31, Tryz.ntmps31
  go_wp2_with (first
   | ((with_reducible refine gate_dst (N := 1) rfl ?_); refine box_event ?hg (N := 1) ?hd (cs := #[.int .i64 a, .int .i64 b, .int .i64 d, .int .i64 e]) (t := 23) ?hr ?_; (case hd => rfl); (case hg => rfl); (case hr => first | (go_simp; done) | (go_simp; rfl)); intro g1 hg1 wb1 hbox hb; have HB1 := Aside0.mk (below_step HB.out hb); have BK1 := Aside0.mk hbox; have HG1 := Aside0.mk (show w.heap.size ≤ g1 by rw [hg1]; exact below_size HB.out); clear hg1 hb hbox; have hb1_0 := blk_cell BK1.out 0; have hb1_1 := blk_cell BK1.out 1; have hb1_2 := blk_cell BK1.out 2; have hb1_3 := blk_cell BK1.out 3)
   | (go_at_call 19; go_loud (refine (HP.out _).mono ?_; rintro ex w7 ⟨rfl, q1⟩; have HB7 := Aside0.mk (below_step HB1.out q1); have BP7 := Aside0.mk (blk_below BK1.out q1); clear q1 hb1_0 hb1_1 hb1_2 hb1_3; have hp0 := blk_cell BP7.out 0; have hp1 := blk_cell BP7.out 1; have hp2 := blk_cell BP7.out 2; have hp3 := blk_cell BP7.out 3))
   | (go_at_call 38; go_loud (refine (HCN.out _).mono ?_; rintro ex w10 ⟨rfl, q1⟩; have HB10 := Aside0.mk (below_step HB7.out q1); clear q1 hp0 hp1 hp2 hp3)))
  go_loopg [3, 11] 4 (fun gg s3 s11 wr => ∃ k : Nat, s11 = .int .i64 k ∧ k ≤ 4 ∧ 4 - k ≤ gg ∧ Aside0 (Below w.heap.size w wr) ∧ Aside0 (Kd.R Kd.string 9 wr w.heap.size (fun _ => True) s3 ((wu a b d e k).map B)))
  case atStart => exact ⟨0, rfl, by omega, by omega, HB10, ⟨Kd.R_nil _ _ _ _ _⟩⟩
  case round =>
   obtain ⟨k, rfl, hk, hg, HBr, HRr⟩ := hrel
   by_cases hk4 : k < 4
   ·have hkz : decide ((k : Int) < 4) = true := decide_eq_true (by omega)
    have h5 : k = 0 ∨ k = 1 ∨ k = 2 ∨ k = 3 := by omega
    rcases h5 with rfl | rfl | rfl | rfl
    ·have hidx : ∀ W : World, (Instr.index 74 (.agg #[.int .i64 a, .int .i64 b, .int .i64 d, .int .i64 e]) (.int .i64 0)).run Tryz.prog W = .ok (.int .i64 a) W := fun _ => by kernel_rfl
     have hsl : ∀ W : World, (Instr.slice 9 (.string ⟨#[100, 119, 109, 121]⟩) (some (.int .i64 0)) (some (.int .i64 1)) none).run Tryz.prog W = .ok (.string (B [ltr 0])) W := fun _ => by kernel_rfl
     have hwk : wrap64 1 = 1 := wrap64_id (by decide) (by decide)
     have HWU := Aside0.mk (show wu a b d e 1 = wu a b d e 0 ++ wk 0 a from rfl)
     by_cases hx : 0 < a
     ·have hz : decide (0 < a) = true := decide_eq_true hx
      have HIA := Aside0.mk (fun (W : World) (hW : Below w.heap.size w W) => HIT.out a (by omega) (by omega) W hW)
      have HWK := Aside0.mk (show (wu a b d e 1).map B = (wu a b d e 0).map B ++ [B [ltr 0] ++ B (Lib.decDigits a.toNat)] by rw [HWU.out, List.map_append]; unfold wk; rw [if_pos hx, B_append]; rfl)
      obtain ⟨hs1, hs2⟩ := str_small (B [ltr 0]) (B (Lib.decDigits a.toNat)) (by rw [B_size]; simp) (by rw [B_size]; have := dd_len (n := a.toNat) (by omega); omega)
      have HLN := Aside0.mk (show ((wu a b d e 0).map B).length ≤ 4 by rw [List.length_map]; exact wu_len a b d e 0 (by decide))
      generalize (wu a b d e 0).map B = L at HRr HWK HLN
      generalize B [ltr 0] = sP at hsl hs1 hs2 HWK
      generalize B (Lib.decDigits a.toNat) = sD at HIA hs1 hs2 HWK
      clear hx HWU
      go_upto_region 8 with (fail)
      refine start_ (n := 11) (S := fun _ => True) (ds := []) #[false, false, false, false, false, false, false, false, false, false, false] (by kernel_rfl) rfl rfl trivial (fun hHeld => ?_)
      generalize hwd : wr.drew = wd
      have HBD := Aside0.mk (show Below w.heap.size w wd by rw [← hwd]; exact below_drew1 HBr.out)
      have HRD := Aside0.mk (show Kd.R Kd.string 9 wd w.heap.size (fun _ => True) u3 L by rw [← hwd]; exact Kd.R_drew HRr.out)
      clear hwd
      refine pure_ (i := 0) (N := some 17) (v := ?_) (a' := ?_) #[true, false, false, false, false, false, false, false, false, false, false] rfl rfl (by kernel_rfl) (fun _ _ _ h => h) (Or.inl ⟨by rfl, ?_⟩) ?_ ?_
      rotate_left
      ·intro w'
       go_simp
       try with_reducible rfl
      rotate_left
      ·simp only [Act.put, List.setIfInBounds_toArray, List.set_cons_zero, List.set_cons_succ, i64_w, i32_w]
       rfl
      refine pure_ (i := 1) (N := some 18) (v := ?_) (a' := ?_) #[true, true, false, false, false, false, false, false, false, false, false] rfl rfl (by kernel_rfl) (fun _ _ _ h => h) (Or.inl ⟨by rfl, ?_⟩) ?_ ?_
      rotate_left
      ·intro w'
       go_simp
       try with_reducible rfl
      rotate_left
      ·simp only [Act.put, List.setIfInBounds_toArray, List.set_cons_zero, List.set_cons_succ, i64_w, i32_w]
       rfl
      refine pure_ (i := 2) (N := some 19) (v := ?_) (a' := ?_) #[true, true, true, false, false, false, false, false, false, false, false] rfl rfl (by kernel_rfl) (fun _ _ _ h => h) (Or.inl ⟨by rfl, ?_⟩) ?_ ?_
      rotate_left
      ·intro w'
       go_simp
       try with_reducible rfl
      rotate_left
      ·simp only [Act.put, List.setIfInBounds_toArray, List.set_cons_zero, List.set_cons_succ, i64_w, i32_w]
       rfl
      refine pure_ (i := 3) (N := some 20) (v := ?_) (a' := ?_) #[true, true, true, true, false, false, false, false, false, false, false] rfl rfl (by kernel_rfl) (fun _ _ _ h => h) (Or.inl ⟨by rfl, ?_⟩) ?_ ?_
      rotate_left
      ·intro w'
       go_simp
       try with_reducible rfl
      rotate_left
      ·simp only [Act.put, List.setIfInBounds_toArray, List.set_cons_zero, List.set_cons_succ, i64_w, i32_w]
       rfl
      refine pure_ (i := 4) (N := some 21) (v := ?_) (a' := ?_) #[true, true, true, true, true, false, false, false, false, false, false] rfl rfl (by kernel_rfl) (fun _ _ _ h => h) (Or.inl ⟨by rfl, ?_⟩) ?_ ?_
      rotate_left
      ·intro w'
       go_simp
       try with_reducible rfl
      rotate_left
      ·simp only [Act.put, List.setIfInBounds_toArray, List.set_cons_zero, List.set_cons_succ, i64_w, i32_w]
       rfl
      refine pure_ (i := 5) (N := some 22) (v := ?_) (a' := ?_) #[true, true, true, true, true, true, false, false, false, false, false] rfl rfl (by kernel_rfl) (fun _ _ _ h => h) (Or.inl ⟨by rfl, ?_⟩) ?_ ?_
      rotate_left
      ·intro w'
       go_simp
       try with_reducible rfl
      rotate_left
      ·simp only [Act.put, List.setIfInBounds_toArray, List.set_cons_zero, List.set_cons_succ, i64_w, i32_w]
       rfl
      refine one_ (i := 6) (N := some 23) #[true, true, true, true, true, true, true, false, false, false, false] rfl rfl (by kernel_rfl) (by decide) (fun K hK => ?_)
      refine goes_ Tryz.func58 (by kernel_rfl) rfl #[.int .i64 a] (by rfl) rfl rfl (by (try simp only [List.map_toArray, List.map_cons, List.map_nil]); first | done | rfl) ?_
      refine (HIA.out _ HBD.out).mono ?_
      rintro ex wi ⟨rfl, q1⟩
      have HBI := Aside0.mk (below_step HBD.out q1)
      have HRI := Aside0.mk (Kd.R_below HRD.out q1)
      clear q1
      refine ⟨_, rfl, ?_⟩
      refine hK.out _ _ trivial (fun hHeld => ?_)
      clear hK K
      refine norm_ (a' := ?_) ?_ ?_
      rotate_left
      ·show Act.put _ (some 23) _ = _
       simp only [Act.put, List.setIfInBounds_toArray, List.set_cons_zero, List.set_cons_succ]
       rfl
      refine pure_ (i := 7) (N := some 24) (v := ?_) (a' := ?_) #[true, true, true, true, true, true, true, true, false, false, false] rfl rfl (by kernel_rfl) (fun _ _ _ h => h) (Or.inl ⟨by rfl, ?_⟩) ?_ ?_
      rotate_left
      ·intro w'
       go_simp
       try with_reducible rfl
      rotate_left
      ·simp only [Act.put, List.setIfInBounds_toArray, List.set_cons_zero, List.set_cons_succ, i64_w, i32_w]
       rfl
      refine one_ (i := 8) (N := some 25) #[true, true, true, true, true, true, true, true, true, false, false] rfl rfl (by kernel_rfl) (by decide) (fun K hK => ?_)
      refine value_ (w1 := ?_) (v := ?_) (by rfl) rfl ?_ ?_
      rotate_left 2
      ·go_simp
       constructor
       ·rfl
       ·rfl
      refine hK.out _ _ trivial (fun hHeld => ?_)
      clear hK K
      refine norm_ (a' := ?_) ?_ ?_
      rotate_left
      ·show Act.put _ (some 25) _ = _
       simp only [Act.put, List.setIfInBounds_toArray, List.set_cons_zero, List.set_cons_succ]
       rfl
      refine one_ (i := 9) (N := some 26) #[true, true, true, true, true, true, true, true, true, true, false] rfl rfl (by kernel_rfl) (by decide) (fun K hK => ?_)
      refine Kd.R_append_step Kd.string (w0 := w) w.heap.size (by rfl) (.tmp 17) (.tmp 25) 87 9 (.string ⟨#[]⟩) 16 rfl Tryz.underlying87 info9 rfl (by decide) (by omega) u3 L (sP ++ sD) [.string (sP ++ sD)] (fun _ => True) (fun _ => False) rfl rfl ?aP (fun _ hk => hk.elim) (fun _ _ => trivial) HRI.out HBI.out (below_size HBI.out) (by have := HLN.out; omega) ?_
      (case aP => exact rfl)
      intro v26 w26 ho hb hg hat
      have HRW := Aside0.mk ho
      have HBW := Aside0.mk hb
      clear ho hb hg hat
      refine hK.out _ _ trivial (fun hHeld => ?_)
      clear hK K
      refine norm_ (a' := ?_) ?_ ?_
      rotate_left
      ·show Act.put _ (some 26) _ = _
       simp only [Act.put, List.setIfInBounds_toArray, List.set_cons_zero, List.set_cons_succ]
       rfl
      refine pure_ (i := 10) (N := some 3) (v := ?_) (a' := ?_) #[true, true, true, true, true, true, true, true, true, true, true] rfl rfl (by kernel_rfl) (fun _ _ _ h => h) (Or.inl ⟨by rfl, ?_⟩) ?_ ?_
      rotate_left
      ·intro w'
       go_simp
       try with_reducible rfl
      rotate_left
      ·simp only [Act.put, List.setIfInBounds_toArray, List.set_cons_zero, List.set_cons_succ, i64_w, i32_w]
       rfl
      refine done_ (by kernel_rfl) ?_
      clear hHeld
      go_wp2
      go_roundg (4 - 1)
      case measure => omega
      case rel => exact ⟨1, by go_num, by omega, by omega, HBW, ⟨by rw [HWK.out]; exact HRW.out⟩⟩
     ·have hz : decide (0 < a) = false := decide_eq_false hx
      have HWK := Aside0.mk (show (wu a b d e 1).map B = (wu a b d e 0).map B by rw [HWU.out]; unfold wk; rw [if_neg hx, List.append_nil])
      clear hx HWU
      go_wp2
      go_roundg (4 - 1)
      case measure => omega
      case rel => exact ⟨1, by go_num, by omega, by omega, HBr, ⟨by rw [HWK.out]; exact HRr.out⟩⟩
    ·have hidx : ∀ W : World, (Instr.index 74 (.agg #[.int .i64 a, .int .i64 b, .int .i64 d, .int .i64 e]) (.int .i64 1)).run Tryz.prog W = .ok (.int .i64 b) W := fun _ => by kernel_rfl
     have hsl : ∀ W : World, (Instr.slice 9 (.string ⟨#[100, 119, 109, 121]⟩) (some (.int .i64 1)) (some (.int .i64 2)) none).run Tryz.prog W = .ok (.string (B [ltr 1])) W := fun _ => by kernel_rfl
     have hwk : wrap64 2 = 2 := wrap64_id (by decide) (by decide)
     have HWU := Aside0.mk (show wu a b d e 2 = wu a b d e 1 ++ wk 1 b from rfl)
     by_cases hx : 0 < b
     ·have hz : decide (0 < b) = true := decide_eq_true hx
      have HIA := Aside0.mk (fun (W : World) (hW : Below w.heap.size w W) => HIT.out b (by omega) (by omega) W hW)
      have HWK := Aside0.mk (show (wu a b d e 2).map B = (wu a b d e 1).map B ++ [B [ltr 1] ++ B (Lib.decDigits b.toNat)] by rw [HWU.out, List.map_append]; unfold wk; rw [if_pos hx, B_append]; rfl)
      obtain ⟨hs1, hs2⟩ := str_small (B [ltr 1]) (B (Lib.decDigits b.toNat)) (by rw [B_size]; simp) (by rw [B_size]; have := dd_len (n := b.toNat) (by omega); omega)
      have HLN := Aside0.mk (show ((wu a b d e 1).map B).length ≤ 4 by rw [List.length_map]; exact wu_len a b d e 1 (by decide))
      generalize (wu a b d e 1).map B = L at HRr HWK HLN
      generalize B [ltr 1] = sP at hsl hs1 hs2 HWK
      generalize B (Lib.decDigits b.toNat) = sD at HIA hs1 hs2 HWK
      clear hx HWU
      go_upto_region 8 with (fail)
      refine start_ (n := 11) (S := fun _ => True) (ds := []) #[false, false, false, false, false, false, false, false, false, false, false] (by kernel_rfl) rfl rfl trivial (fun hHeld => ?_)
      generalize hwd : wr.drew = wd
      have HBD := Aside0.mk (show Below w.heap.size w wd by rw [← hwd]; exact below_drew1 HBr.out)
      have HRD := Aside0.mk (show Kd.R Kd.string 9 wd w.heap.size (fun _ => True) u3 L by rw [← hwd]; exact Kd.R_drew HRr.out)
      clear hwd
      refine pure_ (i := 0) (N := some 17) (v := ?_) (a' := ?_) #[true, false, false, false, false, false, false, false, false, false, false] rfl rfl (by kernel_rfl) (fun _ _ _ h => h) (Or.inl ⟨by rfl, ?_⟩) ?_ ?_
      rotate_left
      ·intro w'
       go_simp
       try with_reducible rfl
      rotate_left
      ·simp only [Act.put, List.setIfInBounds_toArray, List.set_cons_zero, List.set_cons_succ, i64_w, i32_w]
       rfl
      refine pure_ (i := 1) (N := some 18) (v := ?_) (a' := ?_) #[true, true, false, false, false, false, false, false, false, false, false] rfl rfl (by kernel_rfl) (fun _ _ _ h => h) (Or.inl ⟨by rfl, ?_⟩) ?_ ?_
      rotate_left
      ·intro w'
       go_simp
       try with_reducible rfl
      rotate_left
      ·simp only [Act.put, List.setIfInBounds_toArray, List.set_cons_zero, List.set_cons_succ, i64_w, i32_w]
       rfl
      refine pure_ (i := 2) (N := some 19) (v := ?_) (a' := ?_) #[true, true, true, false, false, false, false, false, false, false, false] rfl rfl (by kernel_rfl) (fun _ _ _ h => h) (Or.inl ⟨by rfl, ?_⟩) ?_ ?_
      rotate_left
      ·intro w'
       go_simp
       try with_reducible rfl
      rotate_left
      ·simp only [Act.put, List.setIfInBounds_toArray, List.set_cons_zero, List.set_cons_succ, i64_w, i32_w]
       rfl
      refine pure_ (i := 3) (N := some 20) (v := ?_) (a' := ?_) #[true, true, true, true, false, false, false, false, false, false, false] rfl rfl (by kernel_rfl) (fun _ _ _ h => h) (Or.inl ⟨by rfl, ?_⟩) ?_ ?_
      rotate_left
      ·intro w'
       go_simp
       try with_reducible rfl
      rotate_left
      ·simp only [Act.put, List.setIfInBounds_toArray, List.set_cons_zero, List.set_cons_succ, i64_w, i32_w]
       rfl
      refine pure_ (i := 4) (N := some 21) (v := ?_) (a' := ?_) #[true, true, true, true, true, false, false, false, false, false, false] rfl rfl (by kernel_rfl) (fun _ _ _ h => h) (Or.inl ⟨by rfl, ?_⟩) ?_ ?_
      rotate_left
      ·intro w'
       go_simp
       try with_reducible rfl
      rotate_left
      ·simp only [Act.put, List.setIfInBounds_toArray, List.set_cons_zero, List.set_cons_succ, i64_w, i32_w]
       rfl
      refine pure_ (i := 5) (N := some 22) (v := ?_) (a' := ?_) #[true, true, true, true, true, true, false, false, false, false, false] rfl rfl (by kernel_rfl) (fun _ _ _ h => h) (Or.inl ⟨by rfl, ?_⟩) ?_ ?_
      rotate_left
      ·intro w'
       go_simp
       try with_reducible rfl
      rotate_left
      ·simp only [Act.put, List.setIfInBounds_toArray, List.set_cons_zero, List.set_cons_succ, i64_w, i32_w]
       rfl
      refine one_ (i := 6) (N := some 23) #[true, true, true, true, true, true, true, false, false, false, false] rfl rfl (by kernel_rfl) (by decide) (fun K hK => ?_)
      refine goes_ Tryz.func58 (by kernel_rfl) rfl #[.int .i64 b] (by rfl) rfl rfl (by (try simp only [List.map_toArray, List.map_cons, List.map_nil]); first | done | rfl) ?_
      refine (HIA.out _ HBD.out).mono ?_
      rintro ex wi ⟨rfl, q1⟩
      have HBI := Aside0.mk (below_step HBD.out q1)
      have HRI := Aside0.mk (Kd.R_below HRD.out q1)
      clear q1
      refine ⟨_, rfl, ?_⟩
      refine hK.out _ _ trivial (fun hHeld => ?_)
      clear hK K
      refine norm_ (a' := ?_) ?_ ?_
      rotate_left
      ·show Act.put _ (some 23) _ = _
       simp only [Act.put, List.setIfInBounds_toArray, List.set_cons_zero, List.set_cons_succ]
       rfl
      refine pure_ (i := 7) (N := some 24) (v := ?_) (a' := ?_) #[true, true, true, true, true, true, true, true, false, false, false] rfl rfl (by kernel_rfl) (fun _ _ _ h => h) (Or.inl ⟨by rfl, ?_⟩) ?_ ?_
      rotate_left
      ·intro w'
       go_simp
       try with_reducible rfl
      rotate_left
      ·simp only [Act.put, List.setIfInBounds_toArray, List.set_cons_zero, List.set_cons_succ, i64_w, i32_w]
       rfl
      refine one_ (i := 8) (N := some 25) #[true, true, true, true, true, true, true, true, true, false, false] rfl rfl (by kernel_rfl) (by decide) (fun K hK => ?_)
      refine value_ (w1 := ?_) (v := ?_) (by rfl) rfl ?_ ?_
      rotate_left 2
      ·go_simp
       constructor
       ·rfl
       ·rfl
      refine hK.out _ _ trivial (fun hHeld => ?_)
      clear hK K
      refine norm_ (a' := ?_) ?_ ?_
      rotate_left
      ·show Act.put _ (some 25) _ = _
       simp only [Act.put, List.setIfInBounds_toArray, List.set_cons_zero, List.set_cons_succ]
       rfl
      refine one_ (i := 9) (N := some 26) #[true, true, true, true, true, true, true, true, true, true, false] rfl rfl (by kernel_rfl) (by decide) (fun K hK => ?_)
      refine Kd.R_append_step Kd.string (w0 := w) w.heap.size (by rfl) (.tmp 17) (.tmp 25) 87 9 (.string ⟨#[]⟩) 16 rfl Tryz.underlying87 info9 rfl (by decide) (by omega) u3 L (sP ++ sD) [.string (sP ++ sD)] (fun _ => True) (fun _ => False) rfl rfl ?aP (fun _ hk => hk.elim) (fun _ _ => trivial) HRI.out HBI.out (below_size HBI.out) (by have := HLN.out; omega) ?_
      (case aP => exact rfl)
      intro v26 w26 ho hb hg hat
      have HRW := Aside0.mk ho
      have HBW := Aside0.mk hb
      clear ho hb hg hat
      refine hK.out _ _ trivial (fun hHeld => ?_)
      clear hK K
      refine norm_ (a' := ?_) ?_ ?_
      rotate_left
      ·show Act.put _ (some 26) _ = _
       simp only [Act.put, List.setIfInBounds_toArray, List.set_cons_zero, List.set_cons_succ]
       rfl
      refine pure_ (i := 10) (N := some 3) (v := ?_) (a' := ?_) #[true, true, true, true, true, true, true, true, true, true, true] rfl rfl (by kernel_rfl) (fun _ _ _ h => h) (Or.inl ⟨by rfl, ?_⟩) ?_ ?_
      rotate_left
      ·intro w'
       go_simp
       try with_reducible rfl
      rotate_left
      ·simp only [Act.put, List.setIfInBounds_toArray, List.set_cons_zero, List.set_cons_succ, i64_w, i32_w]
       rfl
      refine done_ (by kernel_rfl) ?_
      clear hHeld
      go_wp2
      go_roundg (4 - 2)
      case measure => omega
      case rel => exact ⟨2, by go_num, by omega, by omega, HBW, ⟨by rw [HWK.out]; exact HRW.out⟩⟩
     ·have hz : decide (0 < b) = false := decide_eq_false hx
      have HWK := Aside0.mk (show (wu a b d e 2).map B = (wu a b d e 1).map B by rw [HWU.out]; unfold wk; rw [if_neg hx, List.append_nil])
      clear hx HWU
      go_wp2
      go_roundg (4 - 2)
      case measure => omega
      case rel => exact ⟨2, by go_num, by omega, by omega, HBr, ⟨by rw [HWK.out]; exact HRr.out⟩⟩
    ·have hidx : ∀ W : World, (Instr.index 74 (.agg #[.int .i64 a, .int .i64 b, .int .i64 d, .int .i64 e]) (.int .i64 2)).run Tryz.prog W = .ok (.int .i64 d) W := fun _ => by kernel_rfl
     have hsl : ∀ W : World, (Instr.slice 9 (.string ⟨#[100, 119, 109, 121]⟩) (some (.int .i64 2)) (some (.int .i64 3)) none).run Tryz.prog W = .ok (.string (B [ltr 2])) W := fun _ => by kernel_rfl
     have hwk : wrap64 3 = 3 := wrap64_id (by decide) (by decide)
     have HWU := Aside0.mk (show wu a b d e 3 = wu a b d e 2 ++ wk 2 d from rfl)
     by_cases hx : 0 < d
     ·have hz : decide (0 < d) = true := decide_eq_true hx
      have HIA := Aside0.mk (fun (W : World) (hW : Below w.heap.size w W) => HIT.out d (by omega) (by omega) W hW)
      have HWK := Aside0.mk (show (wu a b d e 3).map B = (wu a b d e 2).map B ++ [B [ltr 2] ++ B (Lib.decDigits d.toNat)] by rw [HWU.out, List.map_append]; unfold wk; rw [if_pos hx, B_append]; rfl)
      obtain ⟨hs1, hs2⟩ := str_small (B [ltr 2]) (B (Lib.decDigits d.toNat)) (by rw [B_size]; simp) (by rw [B_size]; have := dd_len (n := d.toNat) (by omega); omega)
      have HLN := Aside0.mk (show ((wu a b d e 2).map B).length ≤ 4 by rw [List.length_map]; exact wu_len a b d e 2 (by decide))
      generalize (wu a b d e 2).map B = L at HRr HWK HLN
      generalize B [ltr 2] = sP at hsl hs1 hs2 HWK
      generalize B (Lib.decDigits d.toNat) = sD at HIA hs1 hs2 HWK
      clear hx HWU
      go_upto_region 8 with (fail)
      refine start_ (n := 11) (S := fun _ => True) (ds := []) #[false, false, false, false, false, false, false, false, false, false, false] (by kernel_rfl) rfl rfl trivial (fun hHeld => ?_)
      generalize hwd : wr.drew = wd
      have HBD := Aside0.mk (show Below w.heap.size w wd by rw [← hwd]; exact below_drew1 HBr.out)
      have HRD := Aside0.mk (show Kd.R Kd.string 9 wd w.heap.size (fun _ => True) u3 L by rw [← hwd]; exact Kd.R_drew HRr.out)
      clear hwd
      refine pure_ (i := 0) (N := some 17) (v := ?_) (a' := ?_) #[true, false, false, false, false, false, false, false, false, false, false] rfl rfl (by kernel_rfl) (fun _ _ _ h => h) (Or.inl ⟨by rfl, ?_⟩) ?_ ?_
      rotate_left
      ·intro w'
       go_simp
       try with_reducible rfl
      rotate_left
      ·simp only [Act.put, List.setIfInBounds_toArray, List.set_cons_zero, List.set_cons_succ, i64_w, i32_w]
       rfl
      refine pure_ (i := 1) (N := some 18) (v := ?_) (a' := ?_) #[true, true, false, false, false, false, false, false, false, false, false] rfl rfl (by kernel_rfl) (fun _ _ _ h => h) (Or.inl ⟨by rfl, ?_⟩) ?_ ?_
      rotate_left
      ·intro w'
       go_simp
       try with_reducible rfl
      rotate_left
      ·simp only [Act.put, List.setIfInBounds_toArray, List.set_cons_zero, List.set_cons_succ, i64_w, i32_w]
       rfl
      refine pure_ (i := 2) (N := some 19) (v := ?_) (a' := ?_) #[true, true, true, false, false, false, false, false, false, false, false] rfl rfl (by kernel_rfl) (fun _ _ _ h => h) (Or.inl ⟨by rfl, ?_⟩) ?_ ?_
      rotate_left
      ·intro w'
       go_simp
       try with_reducible rfl
      rotate_left
      ·simp only [Act.put, List.setIfInBounds_toArray, List.set_cons_zero, List.set_cons_succ, i64_w, i32_w]
       rfl
      refine pure_ (i := 3) (N := some 20) (v := ?_) (a' := ?_) #[true, true, true, true, false, false, false, false, false, false, false] rfl rfl (by kernel_rfl) (fun _ _ _ h => h) (Or.inl ⟨by rfl, ?_⟩) ?_ ?_
      rotate_left
      ·intro w'
       go_simp
       try with_reducible rfl
      rotate_left
      ·simp only [Act.put, List.setIfInBounds_toArray, List.set_cons_zero, List.set_cons_succ, i64_w, i32_w]
       rfl
      refine pure_ (i := 4) (N := some 21) (v := ?_) (a' := ?_) #[true, true, true, true, true, false, false, false, false, false, false] rfl rfl (by kernel_rfl) (fun _ _ _ h => h) (Or.inl ⟨by rfl, ?_⟩) ?_ ?_
      rotate_left
      ·intro w'
       go_simp
       try with_reducible rfl
      rotate_left
      ·simp only [Act.put, List.setIfInBounds_toArray, List.set_cons_zero, List.set_cons_succ, i64_w, i32_w]
       rfl
      refine pure_ (i := 5) (N := some 22) (v := ?_) (a' := ?_) #[true, true, true, true, true, true, false, false, false, false, false] rfl rfl (by kernel_rfl) (fun _ _ _ h => h) (Or.inl ⟨by rfl, ?_⟩) ?_ ?_
      rotate_left
      ·intro w'
       go_simp
       try with_reducible rfl
      rotate_left
      ·simp only [Act.put, List.setIfInBounds_toArray, List.set_cons_zero, List.set_cons_succ, i64_w, i32_w]
       rfl
      refine one_ (i := 6) (N := some 23) #[true, true, true, true, true, true, true, false, false, false, false] rfl rfl (by kernel_rfl) (by decide) (fun K hK => ?_)
      refine goes_ Tryz.func58 (by kernel_rfl) rfl #[.int .i64 d] (by rfl) rfl rfl (by (try simp only [List.map_toArray, List.map_cons, List.map_nil]); first | done | rfl) ?_
      refine (HIA.out _ HBD.out).mono ?_
      rintro ex wi ⟨rfl, q1⟩
      have HBI := Aside0.mk (below_step HBD.out q1)
      have HRI := Aside0.mk (Kd.R_below HRD.out q1)
      clear q1
      refine ⟨_, rfl, ?_⟩
      refine hK.out _ _ trivial (fun hHeld => ?_)
      clear hK K
      refine norm_ (a' := ?_) ?_ ?_
      rotate_left
      ·show Act.put _ (some 23) _ = _
       simp only [Act.put, List.setIfInBounds_toArray, List.set_cons_zero, List.set_cons_succ]
       rfl
      refine pure_ (i := 7) (N := some 24) (v := ?_) (a' := ?_) #[true, true, true, true, true, true, true, true, false, false, false] rfl rfl (by kernel_rfl) (fun _ _ _ h => h) (Or.inl ⟨by rfl, ?_⟩) ?_ ?_
      rotate_left
      ·intro w'
       go_simp
       try with_reducible rfl
      rotate_left
      ·simp only [Act.put, List.setIfInBounds_toArray, List.set_cons_zero, List.set_cons_succ, i64_w, i32_w]
       rfl
      refine one_ (i := 8) (N := some 25) #[true, true, true, true, true, true, true, true, true, false, false] rfl rfl (by kernel_rfl) (by decide) (fun K hK => ?_)
      refine value_ (w1 := ?_) (v := ?_) (by rfl) rfl ?_ ?_
      rotate_left 2
      ·go_simp
       constructor
       ·rfl
       ·rfl
      refine hK.out _ _ trivial (fun hHeld => ?_)
      clear hK K
      refine norm_ (a' := ?_) ?_ ?_
      rotate_left
      ·show Act.put _ (some 25) _ = _
       simp only [Act.put, List.setIfInBounds_toArray, List.set_cons_zero, List.set_cons_succ]
       rfl
      refine one_ (i := 9) (N := some 26) #[true, true, true, true, true, true, true, true, true, true, false] rfl rfl (by kernel_rfl) (by decide) (fun K hK => ?_)
      refine Kd.R_append_step Kd.string (w0 := w) w.heap.size (by rfl) (.tmp 17) (.tmp 25) 87 9 (.string ⟨#[]⟩) 16 rfl Tryz.underlying87 info9 rfl (by decide) (by omega) u3 L (sP ++ sD) [.string (sP ++ sD)] (fun _ => True) (fun _ => False) rfl rfl ?aP (fun _ hk => hk.elim) (fun _ _ => trivial) HRI.out HBI.out (below_size HBI.out) (by have := HLN.out; omega) ?_
      (case aP => exact rfl)
      intro v26 w26 ho hb hg hat
      have HRW := Aside0.mk ho
      have HBW := Aside0.mk hb
      clear ho hb hg hat
      refine hK.out _ _ trivial (fun hHeld => ?_)
      clear hK K
      refine norm_ (a' := ?_) ?_ ?_
      rotate_left
      ·show Act.put _ (some 26) _ = _
       simp only [Act.put, List.setIfInBounds_toArray, List.set_cons_zero, List.set_cons_succ]
       rfl
      refine pure_ (i := 10) (N := some 3) (v := ?_) (a' := ?_) #[true, true, true, true, true, true, true, true, true, true, true] rfl rfl (by kernel_rfl) (fun _ _ _ h => h) (Or.inl ⟨by rfl, ?_⟩) ?_ ?_
      rotate_left
      ·intro w'
       go_simp
       try with_reducible rfl
      rotate_left
      ·simp only [Act.put, List.setIfInBounds_toArray, List.set_cons_zero, List.set_cons_succ, i64_w, i32_w]
       rfl
      refine done_ (by kernel_rfl) ?_
      clear hHeld
      go_wp2
      go_roundg (4 - 3)
      case measure => omega
      case rel => exact ⟨3, by go_num, by omega, by omega, HBW, ⟨by rw [HWK.out]; exact HRW.out⟩⟩
     ·have hz : decide (0 < d) = false := decide_eq_false hx
      have HWK := Aside0.mk (show (wu a b d e 3).map B = (wu a b d e 2).map B by rw [HWU.out]; unfold wk; rw [if_neg hx, List.append_nil])
      clear hx HWU
      go_wp2
      go_roundg (4 - 3)
      case measure => omega
      case rel => exact ⟨3, by go_num, by omega, by omega, HBr, ⟨by rw [HWK.out]; exact HRr.out⟩⟩
    ·have hidx : ∀ W : World, (Instr.index 74 (.agg #[.int .i64 a, .int .i64 b, .int .i64 d, .int .i64 e]) (.int .i64 3)).run Tryz.prog W = .ok (.int .i64 e) W := fun _ => by kernel_rfl
     have hsl : ∀ W : World, (Instr.slice 9 (.string ⟨#[100, 119, 109, 121]⟩) (some (.int .i64 3)) (some (.int .i64 4)) none).run Tryz.prog W = .ok (.string (B [ltr 3])) W := fun _ => by kernel_rfl
     have hwk : wrap64 4 = 4 := wrap64_id (by decide) (by decide)
     have HWU := Aside0.mk (show wu a b d e 4 = wu a b d e 3 ++ wk 3 e from rfl)
     by_cases hx : 0 < e
     ·have hz : decide (0 < e) = true := decide_eq_true hx
      have HIA := Aside0.mk (fun (W : World) (hW : Below w.heap.size w W) => HIT.out e (by omega) (by omega) W hW)
      have HWK := Aside0.mk (show (wu a b d e 4).map B = (wu a b d e 3).map B ++ [B [ltr 3] ++ B (Lib.decDigits e.toNat)] by rw [HWU.out, List.map_append]; unfold wk; rw [if_pos hx, B_append]; rfl)
      obtain ⟨hs1, hs2⟩ := str_small (B [ltr 3]) (B (Lib.decDigits e.toNat)) (by rw [B_size]; simp) (by rw [B_size]; have := dd_len (n := e.toNat) (by omega); omega)
      have HLN := Aside0.mk (show ((wu a b d e 3).map B).length ≤ 4 by rw [List.length_map]; exact wu_len a b d e 3 (by decide))
      generalize (wu a b d e 3).map B = L at HRr HWK HLN
      generalize B [ltr 3] = sP at hsl hs1 hs2 HWK
      generalize B (Lib.decDigits e.toNat) = sD at HIA hs1 hs2 HWK
      clear hx HWU
      go_upto_region 8 with (fail)
      refine start_ (n := 11) (S := fun _ => True) (ds := []) #[false, false, false, false, false, false, false, false, false, false, false] (by kernel_rfl) rfl rfl trivial (fun hHeld => ?_)
      generalize hwd : wr.drew = wd
      have HBD := Aside0.mk (show Below w.heap.size w wd by rw [← hwd]; exact below_drew1 HBr.out)
      have HRD := Aside0.mk (show Kd.R Kd.string 9 wd w.heap.size (fun _ => True) u3 L by rw [← hwd]; exact Kd.R_drew HRr.out)
      clear hwd
      refine pure_ (i := 0) (N := some 17) (v := ?_) (a' := ?_) #[true, false, false, false, false, false, false, false, false, false, false] rfl rfl (by kernel_rfl) (fun _ _ _ h => h) (Or.inl ⟨by rfl, ?_⟩) ?_ ?_
      rotate_left
      ·intro w'
       go_simp
       try with_reducible rfl
      rotate_left
      ·simp only [Act.put, List.setIfInBounds_toArray, List.set_cons_zero, List.set_cons_succ, i64_w, i32_w]
       rfl
      refine pure_ (i := 1) (N := some 18) (v := ?_) (a' := ?_) #[true, true, false, false, false, false, false, false, false, false, false] rfl rfl (by kernel_rfl) (fun _ _ _ h => h) (Or.inl ⟨by rfl, ?_⟩) ?_ ?_
      rotate_left
      ·intro w'
       go_simp
       try with_reducible rfl
      rotate_left
      ·simp only [Act.put, List.setIfInBounds_toArray, List.set_cons_zero, List.set_cons_succ, i64_w, i32_w]
       rfl
      refine pure_ (i := 2) (N := some 19) (v := ?_) (a' := ?_) #[true, true, true, false, false, false, false, false, false, false, false] rfl rfl (by kernel_rfl) (fun _ _ _ h => h) (Or.inl ⟨by rfl, ?_⟩) ?_ ?_
      rotate_left
      ·intro w'
       go_simp
       try with_reducible rfl
      rotate_left
      ·simp only [Act.put, List.setIfInBounds_toArray, List.set_cons_zero, List.set_cons_succ, i64_w, i32_w]
       rfl
      refine pure_ (i := 3) (N := some 20) (v := ?_) (a' := ?_) #[true, true, true, true, false, false, false, false, false, false, false] rfl rfl (by kernel_rfl) (fun _ _ _ h => h) (Or.inl ⟨by rfl, ?_⟩) ?_ ?_
      rotate_left
      ·intro w'
       go_simp
       try with_reducible rfl
      rotate_left
      ·simp only [Act.put, List.setIfInBounds_toArray, List.set_cons_zero, List.set_cons_succ, i64_w, i32_w]
       rfl
      refine pure_ (i := 4) (N := some 21) (v := ?_) (a' := ?_) #[true, true, true, true, true, false, false, false, false, false, false] rfl rfl (by kernel_rfl) (fun _ _ _ h => h) (Or.inl ⟨by rfl, ?_⟩) ?_ ?_
      rotate_left
      ·intro w'
       go_simp
       try with_reducible rfl
      rotate_left
      ·simp only [Act.put, List.setIfInBounds_toArray, List.set_cons_zero, List.set_cons_succ, i64_w, i32_w]
       rfl
      refine pure_ (i := 5) (N := some 22) (v := ?_) (a' := ?_) #[true, true, true, true, true, true, false, false, false, false, false] rfl rfl (by kernel_rfl) (fun _ _ _ h => h) (Or.inl ⟨by rfl, ?_⟩) ?_ ?_
      rotate_left
      ·intro w'
       go_simp
       try with_reducible rfl
      rotate_left
      ·simp only [Act.put, List.setIfInBounds_toArray, List.set_cons_zero, List.set_cons_succ, i64_w, i32_w]
       rfl
      refine one_ (i := 6) (N := some 23) #[true, true, true, true, true, true, true, false, false, false, false] rfl rfl (by kernel_rfl) (by decide) (fun K hK => ?_)
      refine goes_ Tryz.func58 (by kernel_rfl) rfl #[.int .i64 e] (by rfl) rfl rfl (by (try simp only [List.map_toArray, List.map_cons, List.map_nil]); first | done | rfl) ?_
      refine (HIA.out _ HBD.out).mono ?_
      rintro ex wi ⟨rfl, q1⟩
      have HBI := Aside0.mk (below_step HBD.out q1)
      have HRI := Aside0.mk (Kd.R_below HRD.out q1)
      clear q1
      refine ⟨_, rfl, ?_⟩
      refine hK.out _ _ trivial (fun hHeld => ?_)
      clear hK K
      refine norm_ (a' := ?_) ?_ ?_
      rotate_left
      ·show Act.put _ (some 23) _ = _
       simp only [Act.put, List.setIfInBounds_toArray, List.set_cons_zero, List.set_cons_succ]
       rfl
      refine pure_ (i := 7) (N := some 24) (v := ?_) (a' := ?_) #[true, true, true, true, true, true, true, true, false, false, false] rfl rfl (by kernel_rfl) (fun _ _ _ h => h) (Or.inl ⟨by rfl, ?_⟩) ?_ ?_
      rotate_left
      ·intro w'
       go_simp
       try with_reducible rfl
      rotate_left
      ·simp only [Act.put, List.setIfInBounds_toArray, List.set_cons_zero, List.set_cons_succ, i64_w, i32_w]
       rfl
      refine one_ (i := 8) (N := some 25) #[true, true, true, true, true, true, true, true, true, false, false] rfl rfl (by kernel_rfl) (by decide) (fun K hK => ?_)
      refine value_ (w1 := ?_) (v := ?_) (by rfl) rfl ?_ ?_
      rotate_left 2
      ·go_simp
       constructor
       ·rfl
       ·rfl
      refine hK.out _ _ trivial (fun hHeld => ?_)
      clear hK K
      refine norm_ (a' := ?_) ?_ ?_
      rotate_left
      ·show Act.put _ (some 25) _ = _
       simp only [Act.put, List.setIfInBounds_toArray, List.set_cons_zero, List.set_cons_succ]
       rfl
      refine one_ (i := 9) (N := some 26) #[true, true, true, true, true, true, true, true, true, true, false] rfl rfl (by kernel_rfl) (by decide) (fun K hK => ?_)
      refine Kd.R_append_step Kd.string (w0 := w) w.heap.size (by rfl) (.tmp 17) (.tmp 25) 87 9 (.string ⟨#[]⟩) 16 rfl Tryz.underlying87 info9 rfl (by decide) (by omega) u3 L (sP ++ sD) [.string (sP ++ sD)] (fun _ => True) (fun _ => False) rfl rfl ?aP (fun _ hk => hk.elim) (fun _ _ => trivial) HRI.out HBI.out (below_size HBI.out) (by have := HLN.out; omega) ?_
      (case aP => exact rfl)
      intro v26 w26 ho hb hg hat
      have HRW := Aside0.mk ho
      have HBW := Aside0.mk hb
      clear ho hb hg hat
      refine hK.out _ _ trivial (fun hHeld => ?_)
      clear hK K
      refine norm_ (a' := ?_) ?_ ?_
      rotate_left
      ·show Act.put _ (some 26) _ = _
       simp only [Act.put, List.setIfInBounds_toArray, List.set_cons_zero, List.set_cons_succ]
       rfl
      refine pure_ (i := 10) (N := some 3) (v := ?_) (a' := ?_) #[true, true, true, true, true, true, true, true, true, true, true] rfl rfl (by kernel_rfl) (fun _ _ _ h => h) (Or.inl ⟨by rfl, ?_⟩) ?_ ?_
      rotate_left
      ·intro w'
       go_simp
       try with_reducible rfl
      rotate_left
      ·simp only [Act.put, List.setIfInBounds_toArray, List.set_cons_zero, List.set_cons_succ, i64_w, i32_w]
       rfl
      refine done_ (by kernel_rfl) ?_
      clear hHeld
      go_wp2
      go_roundg (4 - 4)
      case measure => omega
      case rel => exact ⟨4, by go_num, by omega, by omega, HBW, ⟨by rw [HWK.out]; exact HRW.out⟩⟩
     ·have hz : decide (0 < e) = false := decide_eq_false hx
      have HWK := Aside0.mk (show (wu a b d e 4).map B = (wu a b d e 3).map B by rw [HWU.out]; unfold wk; rw [if_neg hx, List.append_nil])
      clear hx HWU
      go_wp2
      go_roundg (4 - 4)
      case measure => omega
      case rel => exact ⟨4, by go_num, by omega, by omega, HBr, ⟨by rw [HWK.out]; exact HRr.out⟩⟩
   ·have hkz : decide ((k : Int) < 4) = false := decide_eq_false (by omega)
    obtain rfl : k = 4 := by omega
    rw [wu_four] at HRr
    by_cases hw0 : wordsP a b d e = []
    ·have HN := Aside0.mk (show T = [100, 48] by rw [HT.out]; unfold printL; rw [if_pos HRP.out, if_pos hw0])
     rw [hw0] at HRr
     obtain ⟨A3, c3, hv⟩ := Kd.R_slice HRr.out
     subst hv
     go_wp2
     go_ret
     exact ⟨by rw [HN.out]; rfl, HBr.out⟩
    ·have HN := Aside0.mk (show T = Lib.join (wordsP a b d e) [32] by rw [HT.out]; unfold printL; rw [if_pos HRP.out, if_neg hw0])
     have hlp : 0 < ((wordsP a b d e).map B).length := by rw [List.length_map]; exact List.length_pos_iff.2 hw0
     obtain ⟨g3, c3, hv, _, hg3, _⟩ := Kd.R_form HRr.out hlp
     subst hv
     obtain ⟨_, hc3, hC3⟩ := Kd.R_reads' HRr.out
     have hln : ((wordsP a b d e).map B).length ≤ 4 := by rw [List.length_map, ← wu_four]; exact wu_len a b d e 4 (by decide)
     have hjn : ((wordsP a b d e).map B).map (fun x => x.data.toList) = wordsP a b d e := by
      rw [List.map_map]
      exact List.map_id'' (fun x => B_data x) _
     have HJ := Aside0.mk (show Calls Tryz.prog 59 #[.slice (some ⟨g3, 0, none⟩) ((wordsP a b d e).map B).length c3, .string ⟨#[32]⟩] wr fun ex w' => ex = .returned (.string (B T)) ∧ Below wr.heap.size wr w' from by
      have h := Any.strings_Join { Tryz.layJoin with } extraJoin g3 0 c3 ((wordsP a b d e).map B) ⟨#[32]⟩ wr (fun j x hx => by
       obtain ⟨hj, hxe⟩ := List.getElem?_eq_some_iff.1 hx
       obtain ⟨ad, he, h1⟩ := Kd.at_string hC3 (j : Int) (by omega) (by omega)
       cases he
       rw [Int.toNat_natCast, add_plain] at h1
       rw [Nat.zero_add, h1]
       unfold rdOf
       rw [Int.toNat_natCast, List.getD_eq_getElem?_getD, hx]
       rfl) hg3 (by omega) hc3 (by rw [hjn]; exact Nat.le_trans (print_len a b d e HRP.out) (by decide))
      rw [hjn, ← show T = Lib.join (wordsP a b d e) [32] from HN.out] at h
      exact h)
     generalize (wordsP a b d e).map B = L at HJ hlp hln
     have hz : ((L.length : Int) == 0) = false := by rw [beq_eq_false_iff_ne]; omega
     go_wp2_with (go_at_call 59; go_loud (refine HJ.out.mono ?_; rintro ex wj ⟨rfl, q1⟩; have HBj := Aside0.mk (below_step HBr.out q1); clear q1))
     go_ret
     exact ⟨rfl, HBj.out⟩
end Go.Proofs.YtfdlbnfjohpdlaaGreatDoor.PPo
namespace Go.Proofs.YtfdlbnfjohpdlaaGreatDoor.PPo
open Go.RowKit Go.Proofs.YtfdlbnfjohpdlaaGreatDoor.Th Go.Proofs.YtfdlbnfjohpdlaaGreatDoorW.PrintWords Go.Proofs.YtfdlbnfjohpdlaaGreatDoorW.PrintLast Go.Proofs.YtfdlbnfjohpdlaaGreatDoorW.PrintMore
attribute [local go_sem] max2_int min2_int max_two min_two max_three min_three max_four min_four
set_option linter.unusedVariables false
set_option linter.unusedSimpArgs false
theorem printL_len (a b d e : Int) : (printL a b d e).length ≤ 300 := by
 unfold printL
 split
 ·rename_i h
  split
  ·decide
  ·have := print_len a b d e h
   omega
 ·exact Nat.zero_le _
theorem print_empty {a b d e : Int} (h : rightP a b d e = false) : printL a b d e = [] := if_neg (by rw [h]; decide)
set_option maxHeartbeats 8000000 in
set_option maxRecDepth 100000 in
theorem PolicyBack_walk (a b d e : Int) (s : ByteArray) (w : World) (ht : TabsW w) (hm : MaxW w) (hpw : PowW w) :
  Calls Tryz.prog 9 #[.agg #[.int .i64 a, .int .i64 b, .int .i64 d, .int .i64 e], .string s] w fun ex w' => ex = .returned (.bool true) ∧ Below w.heap.size w w' := by
 have hu := Tryz.underlying23
 have hu4 := Tryz.underlying56
 have mixed : Tryz.prog.follows .mixedOrders = true := by kernel_rfl
 have HB := Aside0.mk (Below.refl w.heap.size w)
 have HSH := Aside0.mk (fun (W : World) (hW : Below w.heap.size w W) => (shownR.calls W (ht.below hW) (hm.below hW)).mono fun ex w' q => (show ex = .returned (.bool true) ∧ Below w.heap.size w w' ∧ Below W.heap.size W w' from ⟨q.1, hW.trans (q.2.mono (below_size hW)), q.2⟩))
 have HPR := Aside0.mk (fun (W : World) (hW : Below w.heap.size w W) => print.calls a b d e W (hpw.below hW))
 have HRI := Aside0.mk (fun (W : World) => rightP.calls a b d e W)
 by_cases hlen : 300 < s.size
 ·have hlz : decide ((300 : Int) < (s.size : Int)) = true := decide_eq_true (by omega)
  clear ht hm hpw hlen
  go_enter Tryz.func9, Tryz.ntmps9
  go_wp2_with (first
   | ((with_reducible refine gate_dst (N := 2) rfl ?_); refine box_event ?hg (N := 2) ?hd (cs := #[.int .i64 a, .int .i64 b, .int .i64 d, .int .i64 e]) (t := 23) ?hr ?_; (case hd => rfl); (case hg => rfl); (case hr => first | (go_simp; done) | (go_simp; rfl)); intro g2 hg2 wb2 hbox hb; have HB2 := Aside0.mk (below_step HB.out hb); have BK2 := Aside0.mk hbox; have HG2 := Aside0.mk (show w.heap.size ≤ g2 by rw [hg2]; exact below_size HB.out); clear hg2 hb hbox; have hb2_0 := blk_cell BK2.out 0; have hb2_1 := blk_cell BK2.out 1; have hb2_2 := blk_cell BK2.out 2; have hb2_3 := blk_cell BK2.out 3)
   | (go_at_call 10; go_loud (refine (HSH.out _ HB2.out).mono ?_; rintro ex w1 ⟨rfl, q1, q2⟩; have HB1 := Aside0.mk q1; clear q1 q2 hb2_0 hb2_1 hb2_2 hb2_3)))
  go_ret
  exact ⟨rfl, HB1.out⟩
 ·have hlz : decide ((300 : Int) < (s.size : Int)) = false := decide_eq_false (by omega)
  have hsl : s.data.toList.length ≤ 300 := by rw [← Lib.size_eq]; omega
  have hparse : ∀ (l : List UInt8), l.length ≤ 300 → ∀ r0 r1 r2 r3 r4, parseL l = (r0, r1, r2, r3, r4) → ∀ W, Below w.heap.size w W → Calls Tryz.prog 28 #[.string (B l)] W fun e w' => e = .returned (.tuple #[.agg #[.int .i64 r0, .int .i64 r1, .int .i64 r2, .int .i64 r3], .int .i64 r4]) ∧ Below W.heap.size W w' := fun l hl r0 r1 r2 r3 r4 hr W hW => parse.calls l hl r0 r1 r2 r3 r4 hr W (hm.below hW) (hpw.below hW)
  -- the first printed text, read
  obtain ⟨z0, z1, z2, z3, z4, hz⟩ : ∃ z0 z1 z2 z3 z4, parseL (printL a b d e) = (z0, z1, z2, z3, z4) := ⟨_, _, _, _, _, rfl⟩
  have HP1 := Aside0.mk (hparse _ (printL_len a b d e) z0 z1 z2 z3 z4 hz)
  have HZ := Aside0.mk (show rightP a b d e = true → z0 = a ∧ z1 = b ∧ z2 = d ∧ z3 = e ∧ z4 = 0 from fun h => by
   rw [parse_print h] at hz
   injection hz with e0 hz
   injection hz with e1 hz
   injection hz with e2 hz
   injection hz with e3 hz
   exact ⟨e0.symm, e1.symm, e2.symm, e3.symm, hz.symm⟩)
  have HEM := Aside0.mk (show (B (printL a b d e)).toList = printL a b d e from B_toList _)
  have HEN := Aside0.mk (fun h => print_empty (a := a) (b := b) (d := d) (e := e) h)
  -- the text, read
  obtain ⟨r0, r1, r2, r3, r4, hr⟩ : ∃ r0 r1 r2 r3 r4, parseL s.data.toList = (r0, r1, r2, r3, r4) := ⟨_, _, _, _, _, rfl⟩
  have HP2 := Aside0.mk (show ∀ W, Below w.heap.size w W → Calls Tryz.prog 28 #[.string s] W fun e w' => e = .returned (.tuple #[.agg #[.int .i64 r0, .int .i64 r1, .int .i64 r2, .int .i64 r3], .int .i64 r4]) ∧ Below W.heap.size W w' from fun W hW => by
   have h := hparse s.data.toList hsl r0 r1 r2 r3 r4 hr W hW
   rw [B_of] at h
   exact h)
  have HPS := Aside0.mk (fun (W : World) (hW : Below w.heap.size w W) => print.calls r0 r1 r2 r3 W (hpw.below hW))
  have HRS := Aside0.mk (fun (W : World) => rightP.calls r0 r1 r2 r3 W)
  obtain ⟨y0, y1, y2, y3, y4, hy⟩ : ∃ y0 y1 y2 y3 y4, parseL (printL r0 r1 r2 r3) = (y0, y1, y2, y3, y4) := ⟨_, _, _, _, _, rfl⟩
  have HP3 := Aside0.mk (hparse _ (printL_len r0 r1 r2 r3) y0 y1 y2 y3 y4 hy)
  have HY := Aside0.mk (show (r0 = 0 ∧ r1 = 0 ∧ r2 = 0 ∧ r3 = 0 ∧ r4 = 2) ∨ (r4 = 0 ∧ rightP r0 r1 r2 r3 = true ∧ y0 = r0 ∧ y1 = r1 ∧ y2 = r2 ∧ y3 = r3 ∧ y4 = 0) from by
   rcases parse_right s.data.toList with h | ⟨x0, x1, x2, x3, h, hx⟩
   ·rw [hr] at h
    injection h with e0 h
    injection h with e1 h
    injection h with e2 h
    injection h with e3 h
    exact .inl ⟨e0, e1, e2, e3, h⟩
   ·rw [hr] at h
    injection h with e0 h
    injection h with e1 h
    injection h with e2 h
    injection h with e3 h
    subst e0 e1 e2 e3
    rw [parse_print hx] at hy
    injection hy with e0 hy
    injection hy with e1 hy
    injection hy with e2 hy
    injection hy with e3 hy
    exact .inr ⟨h, hx, e0.symm, e1.symm, e2.symm, e3.symm, hy.symm⟩)
  clear ht hm hpw hlen hr hz hy hsl hparse
  obtain ⟨pr, hpr⟩ : ∃ pr, rightP a b d e = pr := ⟨_, rfl⟩
  rw [hpr] at HRI HZ HEN
  clear hpr
  generalize printL a b d e = T at HPR HP1 HEM HEN
  generalize B T = sT at HPR HP1 HEM
  generalize B (printL r0 r1 r2 r3) = sU at HPS HP3
  go_enter Tryz.func9, Tryz.ntmps9
  go_upto_region 5 with (first
   | ((with_reducible refine gate_dst (N := 2) rfl ?_); refine box_event ?hg (N := 2) ?hd (cs := #[.int .i64 a, .int .i64 b, .int .i64 d, .int .i64 e]) (t := 23) ?hr ?_; (case hd => rfl); (case hg => rfl); (case hr => first | (go_simp; done) | (go_simp; rfl)); intro g2 hg2 wb2 hbox hb; have HB2 := Aside0.mk (below_step HB.out hb); have BK2 := Aside0.mk hbox; have HG2 := Aside0.mk (show w.heap.size ≤ g2 by rw [hg2]; exact below_size HB.out); clear hg2 hb hbox; have hb2_0 := blk_cell BK2.out 0; have hb2_1 := blk_cell BK2.out 1; have hb2_2 := blk_cell BK2.out 2; have hb2_3 := blk_cell BK2.out 3)
   | (go_at_call 10; go_loud (refine (HSH.out _ HB2.out).mono ?_; rintro ex w1 ⟨rfl, q1, q2⟩; have HB1 := Aside0.mk q1; have BP1 := Aside0.mk (blk_below BK2.out q2); clear q1 q2 hb2_0 hb2_1 hb2_2 hb2_3; have hp0 := blk_cell BP1.out 0; have hp1 := blk_cell BP1.out 1; have hp2 := blk_cell BP1.out 2; have hp3 := blk_cell BP1.out 3))
   | (go_at_call 31; go_loud (refine (HPR.out _ HB1.out).mono ?_; rintro ex wx ⟨rfl, q1⟩; have HBx := Aside0.mk (below_step HB1.out q1); have BPx := Aside0.mk (blk_below BP1.out q1); clear q1 hp0 hp1 hp2 hp3))
   | (go_at_call 28; go_loud (refine (HP1.out _ HBx.out).mono ?_; rintro ex wp ⟨rfl, q1⟩; have HBp := Aside0.mk (below_step HBx.out q1); have BPp := Aside0.mk (blk_below BPx.out q1); clear q1))
   | ((with_reducible refine gate_dst (N := 6) rfl ?_); refine box_event ?hg (N := 6) ?hd (cs := #[.int .i64 0, .int .i64 0, .int .i64 0, .int .i64 0]) (t := 23) ?hr ?_; (case hd => rfl); (case hg => rfl); (case hr => first | (go_simp; done) | (go_simp; rfl)); intro g6 hg6 wa6 hbox hb; have HX6 := Aside0.mk hb; have BZ6 := Aside0.mk hbox; have HG6 := Aside0.mk (Nat.le_of_eq hg6.symm); clear hg6 hb hbox; have hc6_0 := blk_cell BZ6.out 0; have hf6_0 := blk_frozen BZ6.out 0; have hc6_1 := blk_cell BZ6.out 1; have hf6_1 := blk_frozen BZ6.out 1; have hc6_2 := blk_cell BZ6.out 2; have hf6_2 := blk_frozen BZ6.out 2; have hc6_3 := blk_cell BZ6.out 3; have hf6_3 := blk_frozen BZ6.out 3)
   | ((with_reducible refine gate_store (t := 23) (p := 6) rfl ?_); refine store_event (t := 23) (p := 6) (v := .tmp 25) (w1 := ((((wa6.setCell ⟨g6, 0, none⟩ (.int .i64 z0)).setCell ⟨g6, 1, none⟩ (.int .i64 z1)).setCell ⟨g6, 2, none⟩ (.int .i64 z2)).setCell ⟨g6, 3, none⟩ (.int .i64 z3))) rfl rfl rfl ?hr ?_; (case hr => first | (go_simp; done) | (go_simp; rfl)); intro w6 hw6; have q1 := pol_put (.int .i64 z0) (.int .i64 z1) (.int .i64 z2) (.int .i64 z3) BZ6.out; have q2 := pol_below (.int .i64 z0) (.int .i64 z1) (.int .i64 z2) (.int .i64 z3) HX6.out HG6.out; rw [← hw6] at q1 q2; clear hw6; have BK6 := Aside0.mk q1; have HY6 := Aside0.mk q2; have HB6 := Aside0.mk (below_step HBp.out q2); have BP6 := Aside0.mk (blk_below BPp.out q2); clear hc6_0 hf6_0 hc6_1 hf6_1 hc6_2 hf6_2 hc6_3 hf6_3 q1 q2; have hd6_0 := blk_cell BK6.out 0; have hd6_1 := blk_cell BK6.out 1; have hd6_2 := blk_cell BK6.out 2; have hd6_3 := blk_cell BK6.out 3; clear hd6_0 hd6_1 hd6_2 hd6_3; have hp0 := blk_cell BP6.out 0; have hp1 := blk_cell BP6.out 1; have hp2 := blk_cell BP6.out 2; have hp3 := blk_cell BP6.out 3))
  (try simp only [Act.put, List.setIfInBounds_toArray, List.set_cons_zero, List.set_cons_succ])
  go_cut [47] (fun v47 wc => v47 = .bool false ∧ Aside0 (Below w.heap.size w wc))
  case first =>
   cases pr with
   | true =>
    obtain ⟨rfl, rfl, rfl, rfl, rfl⟩ := HZ.out rfl
    have hq0 := blk_cell BK6.out 0
    have hq1 := blk_cell BK6.out 1
    have hq2 := blk_cell BK6.out 2
    have hq3 := blk_cell BK6.out 3
    go_wp2_with (first
     | (go_at_call 19; go_loud (refine (HRI.out _).mono ?_; rintro ex wr ⟨rfl, q1⟩; have HBr := Aside0.mk (below_step HB6.out q1); have BPr := Aside0.mk (blk_below BP6.out q1); have BQr := Aside0.mk (blk_below BK6.out q1); clear q1 hp0 hp1 hp2 hp3 hq0 hq1 hq2 hq3; have hp0 := blk_cell BPr.out 0; have hp1 := blk_cell BPr.out 1; have hp2 := blk_cell BPr.out 2; have hp3 := blk_cell BPr.out 3; have hq0 := blk_cell BQr.out 0; have hq1 := blk_cell BQr.out 1; have hq2 := blk_cell BQr.out 2; have hq3 := blk_cell BQr.out 3))
     | (go_at_call 19; go_loud (refine (HRI.out _).mono ?_; rintro ex wr2 ⟨rfl, q1⟩; have HBr2 := Aside0.mk (below_step HBr.out q1); clear q1)))
    go_meet
    case rel => exact ⟨rfl, HBr2⟩
   | false =>
    have hse : (sT.toList != ([] : List UInt8)) = false := by rw [HEM.out, HEN.out rfl]; rfl
    have hse2 : sT.toList.isEmpty = true := by rw [HEM.out, HEN.out rfl]; rfl
    go_wp2_with (first
     | (go_at_call 19; go_loud (refine (HRI.out _).mono ?_; rintro ex wr ⟨rfl, q1⟩; have HBr := Aside0.mk (below_step HB6.out q1); have BPr := Aside0.mk (blk_below BP6.out q1); clear q1 hp0 hp1 hp2 hp3; have hp0 := blk_cell BPr.out 0; have hp1 := blk_cell BPr.out 1; have hp2 := blk_cell BPr.out 2; have hp3 := blk_cell BPr.out 3))
     | (go_at_call 19; go_loud (refine (HRI.out _).mono ?_; rintro ex wr2 ⟨rfl, q1⟩; have HBr2 := Aside0.mk (below_step HBr.out q1); have BPr2 := Aside0.mk (blk_below BPr.out q1); clear q1 hp0 hp1 hp2 hp3; have hp0 := blk_cell BPr2.out 0; have hp1 := blk_cell BPr2.out 1; have hp2 := blk_cell BPr2.out 2; have hp3 := blk_cell BPr2.out 3))
     | (go_at_call 31; go_loud (refine (HPR.out _ HBr2.out).mono ?_; rintro ex wx2 ⟨rfl, q1⟩; have HBx2 := Aside0.mk (below_step HBr2.out q1); clear q1)))
    go_meet
    case rel => exact ⟨rfl, HBx2⟩
  case rest =>
   obtain ⟨rfl, HBc⟩ := hcut
   clear hp0 hp1 hp2 hp3 HPR HP1 HZ HEM HEN HRI HSH
   rcases HY.out with ⟨rfl, rfl, rfl, rfl, rfl⟩ | ⟨rfl, hrx, rfl, rfl, rfl, rfl, rfl⟩
   ·clear HY
    go_wp2_with (first
     | (go_at_call 28; (with_reducible show Calls _ _ #[.string s] _ _); go_loud (refine (HP2.out _ HBc.out).mono ?_; rintro ex wp ⟨rfl, q1⟩; have HBp := Aside0.mk (below_step HBc.out q1); clear q1))
     | ((with_reducible refine gate_dst (N := 8) rfl ?_); refine box_event ?hg (N := 8) ?hd (cs := #[.int .i64 0, .int .i64 0, .int .i64 0, .int .i64 0]) (t := 23) ?hr ?_; (case hd => rfl); (case hg => rfl); (case hr => first | (go_simp; done) | (go_simp; rfl)); intro g8 hg8 wa8 hbox hb; have HX8 := Aside0.mk hb; have BZ8 := Aside0.mk hbox; have HG8 := Aside0.mk (Nat.le_of_eq hg8.symm); clear hg8 hb hbox; have hc8_0 := blk_cell BZ8.out 0; have hf8_0 := blk_frozen BZ8.out 0; have hc8_1 := blk_cell BZ8.out 1; have hf8_1 := blk_frozen BZ8.out 1; have hc8_2 := blk_cell BZ8.out 2; have hf8_2 := blk_frozen BZ8.out 2; have hc8_3 := blk_cell BZ8.out 3; have hf8_3 := blk_frozen BZ8.out 3)
     | ((with_reducible refine gate_store (t := 23) (p := 8) rfl ?_); refine store_event (t := 23) (p := 8) (v := .tmp 51) (w1 := ((((wa8.setCell ⟨g8, 0, none⟩ (.int .i64 0)).setCell ⟨g8, 1, none⟩ (.int .i64 0)).setCell ⟨g8, 2, none⟩ (.int .i64 0)).setCell ⟨g8, 3, none⟩ (.int .i64 0))) rfl rfl rfl ?hr ?_; (case hr => first | (go_simp; done) | (go_simp; rfl)); intro w8 hw8; have q1 := pol_put (.int .i64 0) (.int .i64 0) (.int .i64 0) (.int .i64 0) BZ8.out; have q2 := pol_below (.int .i64 0) (.int .i64 0) (.int .i64 0) (.int .i64 0) HX8.out HG8.out; rw [← hw8] at q1 q2; clear hw8; have BK8 := Aside0.mk q1; have HY8 := Aside0.mk q2; have HB8 := Aside0.mk (below_step HBp.out q2); clear hc8_0 hf8_0 hc8_1 hf8_1 hc8_2 hf8_2 hc8_3 hf8_3 q1 q2; have hd8_0 := blk_cell BK8.out 0; have hd8_1 := blk_cell BK8.out 1; have hd8_2 := blk_cell BK8.out 2; have hd8_3 := blk_cell BK8.out 3)
     | (go_at_call 31; go_loud (refine (HPS.out _ HB8.out).mono ?_; rintro ex wx ⟨rfl, q1⟩; have HBx := Aside0.mk (below_step HB8.out q1); have BAx := Aside0.mk (blk_below BK8.out q1); clear q1 hd8_0 hd8_1 hd8_2 hd8_3))
     | (go_at_call 28; (with_reducible show Calls _ _ #[.string sU] _ _); go_loud (refine (HP3.out _ HBx.out).mono ?_; rintro ex wq ⟨rfl, q1⟩; have HBq := Aside0.mk (below_step HBx.out q1); have BAq := Aside0.mk (blk_below BAx.out q1); clear q1))
     | ((with_reducible refine gate_dst (N := 10) rfl ?_); refine box_event ?hg (N := 10) ?hd (cs := #[.int .i64 0, .int .i64 0, .int .i64 0, .int .i64 0]) (t := 23) ?hr ?_; (case hd => rfl); (case hg => rfl); (case hr => first | (go_simp; done) | (go_simp; rfl)); intro g10 hg10 wa10 hbox hb; have HX10 := Aside0.mk hb; have BZ10 := Aside0.mk hbox; have HG10 := Aside0.mk (Nat.le_of_eq hg10.symm); clear hg10 hb hbox; have hc10_0 := blk_cell BZ10.out 0; have hf10_0 := blk_frozen BZ10.out 0; have hc10_1 := blk_cell BZ10.out 1; have hf10_1 := blk_frozen BZ10.out 1; have hc10_2 := blk_cell BZ10.out 2; have hf10_2 := blk_frozen BZ10.out 2; have hc10_3 := blk_cell BZ10.out 3; have hf10_3 := blk_frozen BZ10.out 3)
     | ((with_reducible refine gate_store (t := 23) (p := 10) rfl ?_); refine store_event (t := 23) (p := 10) (v := .tmp 57) (w1 := ((((wa10.setCell ⟨g10, 0, none⟩ (.int .i64 y0)).setCell ⟨g10, 1, none⟩ (.int .i64 y1)).setCell ⟨g10, 2, none⟩ (.int .i64 y2)).setCell ⟨g10, 3, none⟩ (.int .i64 y3))) rfl rfl rfl ?hr ?_; (case hr => first | (go_simp; done) | (go_simp; rfl)); intro w10 hw10; have q1 := pol_put (.int .i64 y0) (.int .i64 y1) (.int .i64 y2) (.int .i64 y3) BZ10.out; have q2 := pol_below (.int .i64 y0) (.int .i64 y1) (.int .i64 y2) (.int .i64 y3) HX10.out HG10.out; rw [← hw10] at q1 q2; clear hw10; have BK10 := Aside0.mk q1; have HY10 := Aside0.mk q2; have HB10 := Aside0.mk (below_step HBq.out q2); have BA10 := Aside0.mk (blk_below BAq.out q2); clear hc10_0 hf10_0 hc10_1 hf10_1 hc10_2 hf10_2 hc10_3 hf10_3 q1 q2; have hd10_0 := blk_cell BK10.out 0; have hd10_1 := blk_cell BK10.out 1; have hd10_2 := blk_cell BK10.out 2; have hd10_3 := blk_cell BK10.out 3; have ha0 := blk_cell BA10.out 0; have ha1 := blk_cell BA10.out 1; have ha2 := blk_cell BA10.out 2; have ha3 := blk_cell BA10.out 3))
    go_ret
    exact ⟨rfl, HB10.out⟩
   ·clear HY
    rw [hrx] at HRS
    clear hrx
    go_wp2_with (first
     | (go_at_call 28; (with_reducible show Calls _ _ #[.string s] _ _); go_loud (refine (HP2.out _ HBc.out).mono ?_; rintro ex wp ⟨rfl, q1⟩; have HBp := Aside0.mk (below_step HBc.out q1); clear q1))
     | ((with_reducible refine gate_dst (N := 8) rfl ?_); refine box_event ?hg (N := 8) ?hd (cs := #[.int .i64 0, .int .i64 0, .int .i64 0, .int .i64 0]) (t := 23) ?hr ?_; (case hd => rfl); (case hg => rfl); (case hr => first | (go_simp; done) | (go_simp; rfl)); intro g8 hg8 wa8 hbox hb; have HX8 := Aside0.mk hb; have BZ8 := Aside0.mk hbox; have HG8 := Aside0.mk (Nat.le_of_eq hg8.symm); clear hg8 hb hbox; have hc8_0 := blk_cell BZ8.out 0; have hf8_0 := blk_frozen BZ8.out 0; have hc8_1 := blk_cell BZ8.out 1; have hf8_1 := blk_frozen BZ8.out 1; have hc8_2 := blk_cell BZ8.out 2; have hf8_2 := blk_frozen BZ8.out 2; have hc8_3 := blk_cell BZ8.out 3; have hf8_3 := blk_frozen BZ8.out 3)
     | ((with_reducible refine gate_store (t := 23) (p := 8) rfl ?_); refine store_event (t := 23) (p := 8) (v := .tmp 51) (w1 := ((((wa8.setCell ⟨g8, 0, none⟩ (.int .i64 y0)).setCell ⟨g8, 1, none⟩ (.int .i64 y1)).setCell ⟨g8, 2, none⟩ (.int .i64 y2)).setCell ⟨g8, 3, none⟩ (.int .i64 y3))) rfl rfl rfl ?hr ?_; (case hr => first | (go_simp; done) | (go_simp; rfl)); intro w8 hw8; have q1 := pol_put (.int .i64 y0) (.int .i64 y1) (.int .i64 y2) (.int .i64 y3) BZ8.out; have q2 := pol_below (.int .i64 y0) (.int .i64 y1) (.int .i64 y2) (.int .i64 y3) HX8.out HG8.out; rw [← hw8] at q1 q2; clear hw8; have BK8 := Aside0.mk q1; have HY8 := Aside0.mk q2; have HB8 := Aside0.mk (below_step HBp.out q2); clear hc8_0 hf8_0 hc8_1 hf8_1 hc8_2 hf8_2 hc8_3 hf8_3 q1 q2; have hd8_0 := blk_cell BK8.out 0; have hd8_1 := blk_cell BK8.out 1; have hd8_2 := blk_cell BK8.out 2; have hd8_3 := blk_cell BK8.out 3)
     | (go_at_call 31; go_loud (refine (HPS.out _ HB8.out).mono ?_; rintro ex wx ⟨rfl, q1⟩; have HBx := Aside0.mk (below_step HB8.out q1); have BAx := Aside0.mk (blk_below BK8.out q1); clear q1 hd8_0 hd8_1 hd8_2 hd8_3))
     | (go_at_call 28; (with_reducible show Calls _ _ #[.string sU] _ _); go_loud (refine (HP3.out _ HBx.out).mono ?_; rintro ex wq ⟨rfl, q1⟩; have HBq := Aside0.mk (below_step HBx.out q1); have BAq := Aside0.mk (blk_below BAx.out q1); clear q1))
     | ((with_reducible refine gate_dst (N := 10) rfl ?_); refine box_event ?hg (N := 10) ?hd (cs := #[.int .i64 0, .int .i64 0, .int .i64 0, .int .i64 0]) (t := 23) ?hr ?_; (case hd => rfl); (case hg => rfl); (case hr => first | (go_simp; done) | (go_simp; rfl)); intro g10 hg10 wa10 hbox hb; have HX10 := Aside0.mk hb; have BZ10 := Aside0.mk hbox; have HG10 := Aside0.mk (Nat.le_of_eq hg10.symm); clear hg10 hb hbox; have hc10_0 := blk_cell BZ10.out 0; have hf10_0 := blk_frozen BZ10.out 0; have hc10_1 := blk_cell BZ10.out 1; have hf10_1 := blk_frozen BZ10.out 1; have hc10_2 := blk_cell BZ10.out 2; have hf10_2 := blk_frozen BZ10.out 2; have hc10_3 := blk_cell BZ10.out 3; have hf10_3 := blk_frozen BZ10.out 3)
     | ((with_reducible refine gate_store (t := 23) (p := 10) rfl ?_); refine store_event (t := 23) (p := 10) (v := .tmp 57) (w1 := ((((wa10.setCell ⟨g10, 0, none⟩ (.int .i64 y0)).setCell ⟨g10, 1, none⟩ (.int .i64 y1)).setCell ⟨g10, 2, none⟩ (.int .i64 y2)).setCell ⟨g10, 3, none⟩ (.int .i64 y3))) rfl rfl rfl ?hr ?_; (case hr => first | (go_simp; done) | (go_simp; rfl)); intro w10 hw10; have q1 := pol_put (.int .i64 y0) (.int .i64 y1) (.int .i64 y2) (.int .i64 y3) BZ10.out; have q2 := pol_below (.int .i64 y0) (.int .i64 y1) (.int .i64 y2) (.int .i64 y3) HX10.out HG10.out; rw [← hw10] at q1 q2; clear hw10; have BK10 := Aside0.mk q1; have HY10 := Aside0.mk q2; have HB10 := Aside0.mk (below_step HBq.out q2); have BA10 := Aside0.mk (blk_below BAq.out q2); clear hc10_0 hf10_0 hc10_1 hf10_1 hc10_2 hf10_2 hc10_3 hf10_3 q1 q2; have hd10_0 := blk_cell BK10.out 0; have hd10_1 := blk_cell BK10.out 1; have hd10_2 := blk_cell BK10.out 2; have hd10_3 := blk_cell BK10.out 3; have ha0 := blk_cell BA10.out 0; have ha1 := blk_cell BA10.out 1; have ha2 := blk_cell BA10.out 2; have ha3 := blk_cell BA10.out 3)
     | (go_at_call 19; go_loud (refine (HRS.out _).mono ?_; rintro ex wr ⟨rfl, q1⟩; have HBr := Aside0.mk (below_step HB10.out q1); have BAr := Aside0.mk (blk_below BA10.out q1); have BCr := Aside0.mk (blk_below BK10.out q1); clear q1 ha0 ha1 ha2 ha3 hd10_0 hd10_1 hd10_2 hd10_3; have ha0 := blk_cell BAr.out 0; have ha1 := blk_cell BAr.out 1; have ha2 := blk_cell BAr.out 2; have ha3 := blk_cell BAr.out 3; have hb0 := blk_cell BCr.out 0; have hb1 := blk_cell BCr.out 1; have hb2 := blk_cell BCr.out 2; have hb3 := blk_cell BCr.out 3)))
    go_ret
    exact ⟨rfl, HBr.out⟩
end Go.Proofs.YtfdlbnfjohpdlaaGreatDoor.PPo
