import Derived.Test.YtfdlbnfjohpdlaaGreatDoorPurePw
import Derived.Test.YtfdlbnfjohpdlaaGreatDoorPPox18
import Derived.BigQuiet
--compressed
namespace Go.Proofs.YtfdlbnfjohpdlaaGreatDoor.Th
open Go.RowKit Go.Lib Go.Proofs.YtfdlbnfjohpdlaaGreatDoor.PPo Go.Proofs.YtfdlbnfjohpdlaaGreatDoorW.PrintWords
set_option linter.unusedVariables false
theorem lawdec_ev (n : Nat) (h : n ≤ 100000) : Evt (fun k => rootcellarlaw16_decimal.f k (n : Int)) (B (decDigits n)) := by
 have hcall : ∀ (x : Nat) (acc : List UInt8) (r : ByteArray), x ≤ 100000 → acc.length ≤ 200000 → Evt (fun k => rootcellarlaw16_decimal.l0 k ((x / 10 : Nat) : Int) (B (UInt8.ofNat (48 + x % 10) :: acc))) r → Evt (fun k => if 0 ≤ (Int.tmod (x : Int) 10) then (if (Int.tmod (x : Int) 10) ≤ (wrap64 ((Int.tmod (x : Int) 10) + 1)) then (if (wrap64 ((Int.tmod (x : Int) 10) + 1)) ≤ 10 then (if ((⟨#[48, 49, 50, 51, 52, 53, 54, 55, 56, 57]⟩ : ByteArray).extract ((Int.tmod (x : Int) 10) : Int).toNat ((wrap64 ((Int.tmod (x : Int) 10) + 1)) : Int).toNat).size + (B acc).size ≤ 9223372036854775807 then (rootcellarlaw16_decimal.l0 k (wrap64 (Int.tdiv (x : Int) 10)) (((⟨#[48, 49, 50, 51, 52, 53, 54, 55, 56, 57]⟩ : ByteArray).extract ((Int.tmod (x : Int) 10) : Int).toNat ((wrap64 ((Int.tmod (x : Int) 10) + 1)) : Int).toNat) ++ (B acc))) else (none)) else (none)) else (none)) else (none)) r := fun x acc r hx ha hr => by
  have hm : Int.tmod (x : Int) 10 = ((x % 10 : Nat) : Int) := rfl
  have hd : Int.tdiv (x : Int) 10 = ((x / 10 : Nat) : Int) := rfl
  have hlt : x % 10 < 10 := Nat.mod_lt _ (by decide)
  rw [hm, hd, idxP _ (by omega), wrap64_id (by omega) (by omega), Int.toNat_natCast, Int.toNat_natCast]
  have hx1 : (⟨#[48, 49, 50, 51, 52, 53, 54, 55, 56, 57]⟩ : ByteArray).extract (x % 10) (x % 10 + 1) = B [UInt8.ofNat (48 + x % 10)] := by
   have e : (⟨#[48, 49, 50, 51, 52, 53, 54, 55, 56, 57]⟩ : ByteArray) = B [48, 49, 50, 51, 52, 53, 54, 55, 56, 57] := rfl
   rw [e, B_extract]
   have hf : ∀ d : Fin 10, ((([48, 49, 50, 51, 52, 53, 54, 55, 56, 57] : List UInt8).drop d.val).take (d.val + 1 - d.val)) = [UInt8.ofNat (48 + d.val)] := by decide +kernel
   rw [hf ⟨x % 10, hlt⟩]
  rw [hx1, B_append]
  refine Evt.pos (by omega) (Evt.pos (by omega) (Evt.pos (by omega) (Evt.pos (by rw [B_size, B_size, List.length_singleton]; omega) ?_)))
  exact hr
 have hstop : ∀ (acc : List UInt8), acc ≠ [] → Evt (fun k => rootcellarlaw16_decimal.l0 k ((0 : Nat) : Int) (B acc)) (B acc) := fun acc ha => by
  refine Evt.step (fun k => by rw [rootcellarlaw16_decimal.l0]) ?_
  refine Evt.neg (by omega) ?_
  rw [B_toList]
  exact Evt.neg ha (Evt.val _)
 have key : ∀ (x : Nat), 1 ≤ x → x ≤ 100000 → ∀ acc : List UInt8, acc.length + x ≤ 100500 → Evt (fun k => rootcellarlaw16_decimal.l0 k (x : Int) (B acc)) (B (decDigits x ++ acc)) := by
  intro x
  induction x using Nat.strongRecOn with
  | _ x ih =>
   intro h1 h2 acc ha
   refine Evt.step (fun k => by rw [rootcellarlaw16_decimal.l0]) ?_
   refine Evt.pos (by omega) ?_
   by_cases h10 : x < 10
   ·refine hcall x acc _ h2 (by omega) ?_
    rw [show x / 10 = 0 by omega]
    rw [decDigits_one h10, show x % 10 = x by omega]
    exact hstop _ (by simp)
   ·refine hcall x acc _ h2 (by omega) ?_
    have := ih (x / 10) (by omega) (by omega) (by omega) (UInt8.ofNat (48 + x % 10) :: acc) (by rw [List.length_cons]; omega)
    rw [dd_big h10, List.append_assoc]
    exact this
 unfold rootcellarlaw16_decimal.f
 by_cases h0 : n = 0
 ·subst h0
  rw [decDigits_one (by decide)]
  refine Evt.step (fun k => by rw [rootcellarlaw16_decimal.l0]) ?_
  refine Evt.neg (by omega) ?_
  rw [B_nil, B_toList]
  refine Evt.pos rfl ?_
  exact hcall 0 [] _ (by omega) (by simp) (hstop _ (by simp))
 ·have := key n (by omega) h [] (by rw [List.length_nil]; omega)
  rw [List.append_nil] at this
  exact this
end Go.Proofs.YtfdlbnfjohpdlaaGreatDoor.Th
namespace Go.Proofs.YtfdlbnfjohpdlaaGreatDoor.Th
open Go.RowKit Go.Lib Go.Proofs.YtfdlbnfjohpdlaaGreatDoor.PPo Go.Proofs.YtfdlbnfjohpdlaaGreatDoorW.PrintWords
set_option linter.unusedVariables false
theorem sN_len (f a b d e : Nat) (ha : a ≤ 1000) (hb : b ≤ 1000) (hd : d ≤ 1000) (he : e ≤ 1000) : ∀ i, (sN f a b d e i).length ≤ 7 * i ∧ (tN f a b d e i).length ≤ 6 * i
 | 0 => ⟨Nat.le_refl _, Nat.le_refl _⟩
 | i + 1 => by
  have ih := sN_len f a b d e ha hb hd he i
  have h := dd_len (ofK_le ha hb hd he ((f + i) % 4))
  rw [sN, tN]
  simp only [List.length_append, List.length_cons, List.length_nil]
  omega
end Go.Proofs.YtfdlbnfjohpdlaaGreatDoor.Th
namespace Go.Proofs.YtfdlbnfjohpdlaaGreatDoor.PPo
open Go.RowKit Go.Proofs.YtfdlbnfjohpdlaaGreatDoor.Th Go.Proofs.YtfdlbnfjohpdlaaGreatDoorW.PrintWords Go.Proofs.YtfdlbnfjohpdlaaGreatDoorW.PrintLast Go.Proofs.YtfdlbnfjohpdlaaGreatDoorW.PrintMore
attribute [local go_sem] max2_int min2_int max_two min_two max_three min_three max_four min_four
set_option linter.unusedVariables false
set_option linter.unusedSimpArgs false
theorem lawdecQ.calls (n : Nat) (h : n ≤ 1000) (w : World) (k : Nat) : Calls Tryz.prog 27 #[.int .i64 (n : Int)] (w.drewN k) fun ex w' => ex = .returned (.string (B (Lib.decDigits n))) ∧ ∃ m, w' = w.drewN m := by
 obtain ⟨j, hj⟩ := (lawdec_ev n (by omega)).get
 refine (rootcellarlaw16_decimal.calls j (n : Int) _ (w.drewN k) hj).mono ?_
 rintro ex w' ⟨rfl, ⟨m, rfl⟩⟩
 exact ⟨rfl, k + m, World.drewN_drewN ..⟩
theorem slw0 : ∀ W : World, (Instr.slice 9 (.string ⟨#[100, 119, 109, 121]⟩) (some (.int .i64 0)) (some (.int .i64 1)) none).run Tryz.prog W = .ok (.string (B [ltr 0])) W := fun _ => by kernel_rfl
theorem slw1 : ∀ W : World, (Instr.slice 9 (.string ⟨#[100, 119, 109, 121]⟩) (some (.int .i64 1)) (some (.int .i64 2)) none).run Tryz.prog W = .ok (.string (B [ltr 1])) W := fun _ => by kernel_rfl
theorem slw2 : ∀ W : World, (Instr.slice 9 (.string ⟨#[100, 119, 109, 121]⟩) (some (.int .i64 2)) (some (.int .i64 3)) none).run Tryz.prog W = .ok (.string (B [ltr 2])) W := fun _ => by kernel_rfl
theorem slw3 : ∀ W : World, (Instr.slice 9 (.string ⟨#[100, 119, 109, 121]⟩) (some (.int .i64 3)) (some (.int .i64 4)) none).run Tryz.prog W = .ok (.string (B [ltr 3])) W := fun _ => by kernel_rfl
theorem slw (k : Nat) (hk : k < 4) (K1 : Int) (h : K1 = (k : Int) + 1) : ∀ W : World, (Instr.slice 9 (.string ⟨#[100, 119, 109, 121]⟩) (some (.int .i64 (k : Int))) (some (.int .i64 K1)) none).run Tryz.prog W = .ok (.string (B [ltr k])) W := by
 subst h
 match k, hk with
 | 0, _ => exact slw0
 | 1, _ => exact slw1
 | 2, _ => exact slw2
 | 3, _ => exact slw3
theorem slu0 : ∀ W : World, (Instr.slice 9 (.string ⟨#[68, 87, 77, 89]⟩) (some (.int .i64 0)) (some (.int .i64 1)) none).run Tryz.prog W = .ok (.string (B [upr 0])) W := fun _ => by kernel_rfl
theorem slu1 : ∀ W : World, (Instr.slice 9 (.string ⟨#[68, 87, 77, 89]⟩) (some (.int .i64 1)) (some (.int .i64 2)) none).run Tryz.prog W = .ok (.string (B [upr 1])) W := fun _ => by kernel_rfl
theorem slu2 : ∀ W : World, (Instr.slice 9 (.string ⟨#[68, 87, 77, 89]⟩) (some (.int .i64 2)) (some (.int .i64 3)) none).run Tryz.prog W = .ok (.string (B [upr 2])) W := fun _ => by kernel_rfl
theorem slu3 : ∀ W : World, (Instr.slice 9 (.string ⟨#[68, 87, 77, 89]⟩) (some (.int .i64 3)) (some (.int .i64 4)) none).run Tryz.prog W = .ok (.string (B [upr 3])) W := fun _ => by kernel_rfl
theorem slu (k : Nat) (hk : k < 4) (K1 : Int) (h : K1 = (k : Int) + 1) : ∀ W : World, (Instr.slice 9 (.string ⟨#[68, 87, 77, 89]⟩) (some (.int .i64 (k : Int))) (some (.int .i64 K1)) none).run Tryz.prog W = .ok (.string (B [upr k])) W := by
 subst h
 match k, hk with
 | 0, _ => exact slu0
 | 1, _ => exact slu1
 | 2, _ => exact slu2
 | 3, _ => exact slu3
set_option maxHeartbeats 8000000 in
set_option maxRecDepth 100000 in
theorem PolicyNames_walk (a b d e : Int) (first : Int) (w : World) (ht : TabsW w) (hm : MaxW w) (hpw : PowW w) :
  Calls Tryz.prog 7 #[.agg #[.int .i64 a, .int .i64 b, .int .i64 d, .int .i64 e], .int .i64 first] w fun ex w' => ex = .returned (.bool true) ∧ Below w.heap.size w w' := by
 have hu := Tryz.underlying23
 have hu2 := Tryz.underlying37
 have hu4 := Tryz.underlying56
 have mixed : Tryz.prog.follows .mixedOrders = true := by kernel_rfl
 have HB := Aside0.mk (Below.refl w.heap.size w)
 have HSH := Aside0.mk (fun (W : World) (hW : Below w.heap.size w W) => (shownR.calls W (ht.below hW) (hm.below hW)).mono fun ex w' q => (show ex = .returned (.bool true) ∧ Below w.heap.size w w' ∧ Below W.heap.size W w' from ⟨q.1, hW.trans (q.2.mono (below_size hW)), q.2⟩))
 have HRI := Aside0.mk (fun (W : World) => rightP.calls a b d e W)
 have HMU := Aside0.mk (fun (W : World) => mustC.calls a b d e W)
 cases hp : rightP a b d e with
 | false =>
  rw [hp] at HRI
  clear ht hm hpw hp
  go_enter Tryz.func7, Tryz.ntmps7
  go_wp2_with (first
   | ((with_reducible refine gate_dst (N := 2) rfl ?_); refine box_event ?hg (N := 2) ?hd (cs := #[.int .i64 a, .int .i64 b, .int .i64 d, .int .i64 e]) (t := 23) ?hr ?_; (case hd => rfl); (case hg => rfl); (case hr => first | (go_simp; done) | (go_simp; rfl)); intro g2 hg2 wb2 hbox hb; have HB2 := Aside0.mk (below_step HB.out hb); have BK2 := Aside0.mk hbox; have HG2 := Aside0.mk (show w.heap.size ≤ g2 by rw [hg2]; exact below_size HB.out); clear hg2 hb hbox; have hb2_0 := blk_cell BK2.out 0; have hb2_1 := blk_cell BK2.out 1; have hb2_2 := blk_cell BK2.out 2; have hb2_3 := blk_cell BK2.out 3)
   | (go_at_call 10; go_loud (refine (HSH.out _ HB2.out).mono ?_; rintro ex w1 ⟨rfl, q1, q2⟩; have HB1 := Aside0.mk q1; have BP1 := Aside0.mk (blk_below BK2.out q2); clear q1 q2 hb2_0 hb2_1 hb2_2 hb2_3; have hp0 := blk_cell BP1.out 0; have hp1 := blk_cell BP1.out 1; have hp2 := blk_cell BP1.out 2; have hp3 := blk_cell BP1.out 3))
   | (go_at_call 19; go_loud (refine (HRI.out _).mono ?_; rintro ex wr ⟨rfl, q1⟩; have HBr := Aside0.mk (below_step HB1.out q1); clear q1)))
  go_ret
  exact ⟨rfl, HBr.out⟩
 | true =>
  rw [hp] at HRI
  obtain ⟨⟨a0, a1⟩, ⟨b0, b1⟩, ⟨d0, d1⟩, e0, e1⟩ := right_iff.1 hp
  obtain ⟨na, rfl⟩ : ∃ n : Nat, a = (n : Int) := ⟨a.toNat, by omega⟩
  obtain ⟨nb, rfl⟩ : ∃ n : Nat, b = (n : Int) := ⟨b.toNat, by omega⟩
  obtain ⟨nd, rfl⟩ : ∃ n : Nat, d = (n : Int) := ⟨d.toNat, by omega⟩
  obtain ⟨ne, rfl⟩ : ∃ n : Nat, e = (n : Int) := ⟨e.toNat, by omega⟩
  have ha : na ≤ 1000 := by omega
  have hb : nb ≤ 1000 := by omega
  have hd : nd ≤ 1000 := by omega
  have he : ne ≤ 1000 := by omega
  obtain ⟨mq, hmq⟩ : ∃ m, (if (3 : Int) < first then 3 else first) = m := ⟨_, rfl⟩
  obtain ⟨f, hmf, hf⟩ : ∃ f : Nat, (if (0 : Int) < mq then mq else 0) = (f : Int) ∧ f < 4 := by
   refine ⟨(if (0 : Int) < mq then mq else 0).toNat, ?_, ?_⟩
   ·split <;> omega
   ·have : mq ≤ 3 := by rw [← hmq]; split <;> omega
    split <;> omega
  obtain ⟨n1, n2, n3⟩ := names_plain hf ha hb hd he
  have hpc : ∀ (l : List UInt8) r0 r1 r2 r3 r4, l.length ≤ 300 → parseL l = (r0, r1, r2, r3, r4) → ∀ W, Below w.heap.size w W → Calls Tryz.prog 28 #[.string (B l)] W fun e w' => e = .returned (.tuple #[.agg #[.int .i64 r0, .int .i64 r1, .int .i64 r2, .int .i64 r3], .int .i64 r4]) ∧ Below W.heap.size W w' := fun l r0 r1 r2 r3 r4 hl hr W hW => parse.calls l hl r0 r1 r2 r3 r4 hr W (hm.below hW) (hpw.below hW)
  have hsl := sN_len f na nb nd ne ha hb hd he
  have h4 := hsl 4
  have HP1 := Aside0.mk (hpc _ _ _ _ _ _ (by omega) n1)
  have HP2 := Aside0.mk (hpc _ _ _ _ _ _ (by omega) n2)
  have HP3 := Aside0.mk (hpc _ _ _ _ _ _ (by rw [List.length_append]; omega) n3)
  have HSL := Aside0.mk hsl
  have HAB := Aside0.mk (B_append (sN f na nb nd ne 4) (tN f na nb nd ne 4))
  have HOK := Aside0.mk (fun k => ofK_le (a := na) (b := nb) (d := nd) (e := ne) ha hb hd he k)
  have HOF := Aside0.mk (show ∀ (k : Nat), k < 4 → ∀ W : World, Calls Tryz.prog 26 #[.agg #[.int .i64 na, .int .i64 nb, .int .i64 nd, .int .i64 ne], .int .i64 (k : Int)] W fun ex w' => ex = .returned (.int .i64 (ofK na nb nd ne k : Int)) ∧ Below W.heap.size W w' from fun k hk W => by
   refine rootcellarref16_Of.calls na nb nd ne (k : Int) _ W ?_
   match k, hk with
   | 0, _ => rfl
   | 1, _ => rfl
   | 2, _ => rfl
   | 3, _ => rfl)
  clear ht hm hpw hp n1 n2 n3 hpc h4 hsl ha hb hd he a0 a1 b0 b1 d0 d1 e0 e1
  go_enter Tryz.func7, Tryz.ntmps7
  go_wp2_with (first
   | ((with_reducible refine gate_dst (N := 2) rfl ?_); refine box_event ?hg (N := 2) ?hd (cs := #[.int .i64 na, .int .i64 nb, .int .i64 nd, .int .i64 ne]) (t := 23) ?hr ?_; (case hd => rfl); (case hg => rfl); (case hr => first | (go_simp; done) | (go_simp; rfl)); intro g2 hg2 wb2 hbox hb; have HB2 := Aside0.mk (below_step HB.out hb); have BK2 := Aside0.mk hbox; have HG2 := Aside0.mk (show w.heap.size ≤ g2 by rw [hg2]; exact below_size HB.out); clear hg2 hb hbox; have hb2_0 := blk_cell BK2.out 0; have hb2_1 := blk_cell BK2.out 1; have hb2_2 := blk_cell BK2.out 2; have hb2_3 := blk_cell BK2.out 3)
   | (go_at_call 10; go_loud (refine (HSH.out _ HB2.out).mono ?_; rintro ex w1 ⟨rfl, q1, q2⟩; have HB1 := Aside0.mk q1; have BP1 := Aside0.mk (blk_below BK2.out q2); clear q1 q2 hb2_0 hb2_1 hb2_2 hb2_3; have hp0 := blk_cell BP1.out 0; have hp1 := blk_cell BP1.out 1; have hp2 := blk_cell BP1.out 2; have hp3 := blk_cell BP1.out 3))
   | (go_at_call 19; go_loud (refine (HRI.out _).mono ?_; rintro ex wr ⟨rfl, q1⟩; have HBr := Aside0.mk (below_step HB1.out q1); have BPr := Aside0.mk (blk_below BP1.out q1); clear q1 hp0 hp1 hp2 hp3)))
  go_loopg [6, 7, 8] 4 (fun gg s6 s7 s8 wq => ∃ i : Nat, s6 = .string (B (sN f na nb nd ne i)) ∧ s7 = .string (B (tN f na nb nd ne i)) ∧ s8 = .int .i64 i ∧ i ≤ 4 ∧ 4 - i ≤ gg ∧ Aside0 (Below w.heap.size w wq) ∧ Aside0 (wq.heap[g2]? = some (.cells #[.int .i64 na, .int .i64 nb, .int .i64 nd, .int .i64 ne] 23 (0, 0))))
  case atStart => exact ⟨0, rfl, rfl, rfl, by omega, by omega, HBr, BPr⟩
  case round =>
   clear HBr BPr BP1 BK2 HB2 HB1 HSH HRI
   obtain ⟨i, rfl, rfl, rfl, hi, hg, HBq, BPq⟩ := hrel
   have hp0 := blk_cell BPq.out 0
   have hp1 := blk_cell BPq.out 1
   have hp2 := blk_cell BPq.out 2
   have hp3 := blk_cell BPq.out 3
   by_cases hi4 : i < 4
   ·have hiz : decide ((i : Int) < 4) = true := decide_eq_true (by omega)
    obtain ⟨k, hk⟩ : ∃ k, k = (f + i) % 4 := ⟨_, rfl⟩
    have hk4 : k < 4 := by rw [hk]; exact Nat.mod_lt _ (by decide)
    have hw2 : ((f : Int) + (i : Int)) % 4 = (k : Int) := by omega
    have hw3 : wrap64 ((k : Int) + 1) = (k : Int) + 1 := by rw [wrap64_id (by omega) (by omega)]
    have hw4 : IntKind.i64.wrap ((k : Int) + 1) = (k : Int) + 1 := by rw [i64_w]; exact hw3
    have hsl : ∀ W : World, (Instr.slice 9 (.string ⟨#[100, 119, 109, 121]⟩) (some (.int .i64 (k : Int))) (some (.int .i64 ((k : Int) + 1))) none).run Tryz.prog W = .ok (.string (B [ltr k])) W := slw k hk4 _ rfl
    have hsu : ∀ W : World, (Instr.slice 9 (.string ⟨#[68, 87, 77, 89]⟩) (some (.int .i64 (k : Int))) (some (.int .i64 ((k : Int) + 1))) none).run Tryz.prog W = .ok (.string (B [upr k])) W := slu k hk4 _ rfl
    have HOX := Aside0.mk (HOF.out k hk4)
    have HNL := Aside0.mk (HOK.out k)
    have HSN := Aside0.mk (show B (sN f na nb nd ne (i + 1)) = B (sN f na nb nd ne i) ++ ⟨#[32, 32]⟩ ++ B [ltr k] ++ B (Lib.decDigits (ofK na nb nd ne k)) by
     rw [sN, ← hk, ← B_append, ← B_append, ← B_append]
     rfl)
    have HTN := Aside0.mk (show B (tN f na nb nd ne (i + 1)) = B (tN f na nb nd ne i) ++ B [upr k] ++ B (Lib.decDigits (ofK na nb nd ne k)) ++ ⟨#[32]⟩ by
     rw [tN, ← hk, ← B_append, ← B_append, ← B_append]
     rfl)
    have hs1 : (B (sN f na nb nd ne i)).size ≤ 100 := by rw [B_size]; have := (HSL.out i).1; omega
    have hs2 : (B (tN f na nb nd ne i)).size ≤ 100 := by rw [B_size]; have := (HSL.out i).2; omega
    have hs3 : (B [ltr k]).size = 1 := by rw [B_size]; rfl
    have hs4 : (B [upr k]).size = 1 := by rw [B_size]; rfl
    have hs5 : (B (Lib.decDigits (ofK na nb nd ne k))).size ≤ 4 := by rw [B_size]; exact dd_len HNL.out
    have HDQ := Aside0.mk (fun (W : World) (j : Nat) => lawdecQ.calls (ofK na nb nd ne k) HNL.out W j)
    generalize B (sN f na nb nd ne i) = sS at HSN hs1 ⊢
    generalize B (tN f na nb nd ne i) = sT at HTN hs2 ⊢
    generalize B [ltr k] = sP at hsl HSN hs3
    generalize B [upr k] = sQ at hsu HTN hs4
    generalize B (Lib.decDigits (ofK na nb nd ne k)) = sD at HDQ HSN HTN hs5
    generalize (ofK na nb nd ne k : Int) = x at HOX HDQ
    obtain ⟨f1, f2⟩ := str_small sS ⟨#[32, 32]⟩ (by omega) (by decide)
    have f3 : (sS.size + 2 ≤ 9223372036854775807) = True := eq_true (by omega)
    have f4 : (9223372036854775807 < sS.size + 2) = False := eq_false (by omega)
    have f5 : (sS.size + 2 + sP.size ≤ 9223372036854775807) = True := eq_true (by omega)
    have f6 : (9223372036854775807 < sS.size + 2 + sP.size) = False := eq_false (by omega)
    have f7 : (sS.size + 2 + sP.size + sD.size ≤ 9223372036854775807) = True := eq_true (by omega)
    have f8 : (9223372036854775807 < sS.size + 2 + sP.size + sD.size) = False := eq_false (by omega)
    have g1 : (sT.size + sQ.size ≤ 9223372036854775807) = True := eq_true (by omega)
    have g2' : (9223372036854775807 < sT.size + sQ.size) = False := eq_false (by omega)
    have g3 : (sT.size + sQ.size + sD.size ≤ 9223372036854775807) = True := eq_true (by omega)
    have g4 : (9223372036854775807 < sT.size + sQ.size + sD.size) = False := eq_false (by omega)
    have g5 : (sT.size + sQ.size + sD.size + 1 ≤ 9223372036854775807) = True := eq_true (by omega)
    have g6 : (9223372036854775807 < sT.size + sQ.size + sD.size + 1) = False := eq_false (by omega)
    clear hk hs1 hs2 hs3 hs4 hs5
    go_upto_region 11 with (first
     | (go_at_call 15; go_loud (refine (HMU.out _).mono ?_; rintro ex wm ⟨rfl, q1⟩; have HBm := Aside0.mk (below_step HBq.out q1); have BPm := Aside0.mk (blk_below BPq.out q1); clear q1 hp0 hp1 hp2 hp3))
     | (go_at_call 26; go_loud (refine (HOX.out _).mono ?_; rintro ex wo ⟨rfl, q1⟩; have HBo := Aside0.mk (below_step HBm.out q1); have BPo := Aside0.mk (blk_below BPm.out q1); clear q1)))
    have HDQ1 := Aside0.mk (fun j => HDQ.out wo j)
    go_quiet (first | (go_at_call 27; with_reducible exact HDQ1.out _))
    go_wp2
    obtain ⟨wz, hwz⟩ : ∃ wz, wz = wo.drewN nq := ⟨_, rfl⟩
    have HBz := Aside0.mk (show Below w.heap.size w wz by rw [hwz]; exact pw_below_drewN HBo.out _)
    have BPz := Aside0.mk (show wz.heap[g2]? = some (.cells #[.int .i64 na, .int .i64 nb, .int .i64 nd, .int .i64 ne] 23 (0, 0)) by rw [hwz]; exact blk_drewN BPo.out _)
    rw [← hwz]
    clear hwz
    have HDQ2 := Aside0.mk (fun j => HDQ.out wz j)
    clear HDQ HDQ1
    go_quiet (first | (go_at_call 27; with_reducible exact HDQ2.out _))
    go_wp2
    go_roundg (4 - (i + 1))
    case measure => omega
    case rel => exact ⟨i + 1, congrArg Value.string HSN.out.symm, congrArg Value.string HTN.out.symm, by go_num, by omega, by omega, ⟨pw_below_drewN HBz.out _⟩, ⟨blk_drewN BPz.out _⟩⟩
   ·have hiz : decide ((i : Int) < 4) = false := decide_eq_false (by omega)
    obtain rfl : i = 4 := by omega
    have hs1 : (B (sN f na nb nd ne 4)).size ≤ 100 := by rw [B_size]; have := (HSL.out 4).1; omega
    have hs2 : (B (tN f na nb nd ne 4)).size ≤ 100 := by rw [B_size]; have := (HSL.out 4).2; omega
    rw [← HAB.out] at HP3
    obtain ⟨f1, f2⟩ := str_small (B (sN f na nb nd ne 4)) (B (tN f na nb nd ne 4)) (by omega) (by omega)
    clear HAB HSL HOF HOK HMU
    generalize B (sN f na nb nd ne 4) = sS at HP1 HP3 f1 f2 ⊢
    generalize B (tN f na nb nd ne 4) = sT at HP2 HP3 f1 f2 ⊢
    clear hs1 hs2 hmf hmq hf
    go_wp2_with (first
     | (go_at_call 28; (with_reducible show Calls _ _ #[.string sS] _ _); go_loud (refine (HP1.out _ HBq.out).mono ?_; rintro ex wx ⟨rfl, q1⟩; have HBx := Aside0.mk (below_step HBq.out q1); have BPx := Aside0.mk (blk_below BPq.out q1); clear q1 hp0 hp1 hp2 hp3))
     | ((with_reducible refine gate_dst (N := 11) rfl ?_); refine box_event ?hg (N := 11) ?hd (cs := #[.int .i64 0, .int .i64 0, .int .i64 0, .int .i64 0]) (t := 23) ?hr ?_; (case hd => rfl); (case hg => rfl); (case hr => first | (go_simp; done) | (go_simp; rfl)); intro g11 hg11 wa11 hbox hb; have HX11 := Aside0.mk hb; have BZ11 := Aside0.mk hbox; have HG11 := Aside0.mk (Nat.le_of_eq hg11.symm); clear hg11 hb hbox; have hc11_0 := blk_cell BZ11.out 0; have hf11_0 := blk_frozen BZ11.out 0; have hc11_1 := blk_cell BZ11.out 1; have hf11_1 := blk_frozen BZ11.out 1; have hc11_2 := blk_cell BZ11.out 2; have hf11_2 := blk_frozen BZ11.out 2; have hc11_3 := blk_cell BZ11.out 3; have hf11_3 := blk_frozen BZ11.out 3)
     | ((with_reducible refine gate_store (t := 23) (p := 11) rfl ?_); refine store_event (t := 23) (p := 11) (v := .tmp 63) (w1 := ((((wa11.setCell ⟨g11, 0, none⟩ (.int .i64 na)).setCell ⟨g11, 1, none⟩ (.int .i64 nb)).setCell ⟨g11, 2, none⟩ (.int .i64 nd)).setCell ⟨g11, 3, none⟩ (.int .i64 ne))) rfl rfl rfl ?hr ?_; (case hr => first | (go_simp; done) | (go_simp; rfl)); intro w11 hw11; have q1 := pol_put (.int .i64 na) (.int .i64 nb) (.int .i64 nd) (.int .i64 ne) BZ11.out; have q2 := pol_below (.int .i64 na) (.int .i64 nb) (.int .i64 nd) (.int .i64 ne) HX11.out HG11.out; rw [← hw11] at q1 q2; clear hw11; have BK11 := Aside0.mk q1; have HY11 := Aside0.mk q2; have HB11 := Aside0.mk (below_step HBx.out q2); have BP11 := Aside0.mk (blk_below BPx.out q2); clear hc11_0 hf11_0 hc11_1 hf11_1 hc11_2 hf11_2 hc11_3 hf11_3 q1 q2; have hd11_0 := blk_cell BK11.out 0; have hd11_1 := blk_cell BK11.out 1; have hd11_2 := blk_cell BK11.out 2; have hd11_3 := blk_cell BK11.out 3; clear hd11_0 hd11_1 hd11_2 hd11_3)
     | (go_at_call 28; (with_reducible show Calls _ _ #[.string sT] _ _); go_loud (refine (HP2.out _ HB11.out).mono ?_; rintro ex wy ⟨rfl, q1⟩; have HBy := Aside0.mk (below_step HB11.out q1); have BPy := Aside0.mk (blk_below BP11.out q1); have BAy := Aside0.mk (blk_below BK11.out q1); clear q1))
     | ((with_reducible refine gate_dst (N := 13) rfl ?_); refine box_event ?hg (N := 13) ?hd (cs := #[.int .i64 0, .int .i64 0, .int .i64 0, .int .i64 0]) (t := 23) ?hr ?_; (case hd => rfl); (case hg => rfl); (case hr => first | (go_simp; done) | (go_simp; rfl)); intro g13 hg13 wa13 hbox hb; have HX13 := Aside0.mk hb; have BZ13 := Aside0.mk hbox; have HG13 := Aside0.mk (Nat.le_of_eq hg13.symm); clear hg13 hb hbox; have hc13_0 := blk_cell BZ13.out 0; have hf13_0 := blk_frozen BZ13.out 0; have hc13_1 := blk_cell BZ13.out 1; have hf13_1 := blk_frozen BZ13.out 1; have hc13_2 := blk_cell BZ13.out 2; have hf13_2 := blk_frozen BZ13.out 2; have hc13_3 := blk_cell BZ13.out 3; have hf13_3 := blk_frozen BZ13.out 3)
     | ((with_reducible refine gate_store (t := 23) (p := 13) rfl ?_); refine store_event (t := 23) (p := 13) (v := .tmp 68) (w1 := ((((wa13.setCell ⟨g13, 0, none⟩ (.int .i64 na)).setCell ⟨g13, 1, none⟩ (.int .i64 nb)).setCell ⟨g13, 2, none⟩ (.int .i64 nd)).setCell ⟨g13, 3, none⟩ (.int .i64 ne))) rfl rfl rfl ?hr ?_; (case hr => first | (go_simp; done) | (go_simp; rfl)); intro w13 hw13; have q1 := pol_put (.int .i64 na) (.int .i64 nb) (.int .i64 nd) (.int .i64 ne) BZ13.out; have q2 := pol_below (.int .i64 na) (.int .i64 nb) (.int .i64 nd) (.int .i64 ne) HX13.out HG13.out; rw [← hw13] at q1 q2; clear hw13; have BK13 := Aside0.mk q1; have HY13 := Aside0.mk q2; have HB13 := Aside0.mk (below_step HBy.out q2); have BP13 := Aside0.mk (blk_below BPy.out q2); have BA13 := Aside0.mk (blk_below BAy.out q2); clear hc13_0 hf13_0 hc13_1 hf13_1 hc13_2 hf13_2 hc13_3 hf13_3 q1 q2; have hd13_0 := blk_cell BK13.out 0; have hd13_1 := blk_cell BK13.out 1; have hd13_2 := blk_cell BK13.out 2; have hd13_3 := blk_cell BK13.out 3; clear hd13_0 hd13_1 hd13_2 hd13_3)
     | (go_at_call 28; (with_reducible show Calls _ _ #[.string (sS ++ sT)] _ _); go_loud (refine (HP3.out _ HB13.out).mono ?_; rintro ex wz ⟨rfl, q1⟩; have HBz := Aside0.mk (below_step HB13.out q1); have BPz := Aside0.mk (blk_below BP13.out q1); have BAz := Aside0.mk (blk_below BA13.out q1); have BBz := Aside0.mk (blk_below BK13.out q1); clear q1))
     | ((with_reducible refine gate_dst (N := 15) rfl ?_); refine box_event ?hg (N := 15) ?hd (cs := #[.int .i64 0, .int .i64 0, .int .i64 0, .int .i64 0]) (t := 23) ?hr ?_; (case hd => rfl); (case hg => rfl); (case hr => first | (go_simp; done) | (go_simp; rfl)); intro g15 hg15 wa15 hbox hb; have HX15 := Aside0.mk hb; have BZ15 := Aside0.mk hbox; have HG15 := Aside0.mk (Nat.le_of_eq hg15.symm); clear hg15 hb hbox; have hc15_0 := blk_cell BZ15.out 0; have hf15_0 := blk_frozen BZ15.out 0; have hc15_1 := blk_cell BZ15.out 1; have hf15_1 := blk_frozen BZ15.out 1; have hc15_2 := blk_cell BZ15.out 2; have hf15_2 := blk_frozen BZ15.out 2; have hc15_3 := blk_cell BZ15.out 3; have hf15_3 := blk_frozen BZ15.out 3)
     | ((with_reducible refine gate_store (t := 23) (p := 15) rfl ?_); refine store_event (t := 23) (p := 15) (v := .tmp 75) (w1 := ((((wa15.setCell ⟨g15, 0, none⟩ (.int .i64 0)).setCell ⟨g15, 1, none⟩ (.int .i64 0)).setCell ⟨g15, 2, none⟩ (.int .i64 0)).setCell ⟨g15, 3, none⟩ (.int .i64 0))) rfl rfl rfl ?hr ?_; (case hr => first | (go_simp; done) | (go_simp; rfl)); intro w15 hw15; have q1 := pol_put (.int .i64 0) (.int .i64 0) (.int .i64 0) (.int .i64 0) BZ15.out; have q2 := pol_below (.int .i64 0) (.int .i64 0) (.int .i64 0) (.int .i64 0) HX15.out HG15.out; rw [← hw15] at q1 q2; clear hw15; have BK15 := Aside0.mk q1; have HY15 := Aside0.mk q2; have HB15 := Aside0.mk (below_step HBz.out q2); have BP15 := Aside0.mk (blk_below BPz.out q2); have BA15 := Aside0.mk (blk_below BAz.out q2); have BB15 := Aside0.mk (blk_below BBz.out q2); clear hc15_0 hf15_0 hc15_1 hf15_1 hc15_2 hf15_2 hc15_3 hf15_3 q1 q2; have hd15_0 := blk_cell BK15.out 0; have hd15_1 := blk_cell BK15.out 1; have hd15_2 := blk_cell BK15.out 2; have hd15_3 := blk_cell BK15.out 3; clear hd15_0 hd15_1 hd15_2 hd15_3; have hp0 := blk_cell BP15.out 0; have hp1 := blk_cell BP15.out 1; have hp2 := blk_cell BP15.out 2; have hp3 := blk_cell BP15.out 3; have ha0 := blk_cell BA15.out 0; have ha1 := blk_cell BA15.out 1; have ha2 := blk_cell BA15.out 2; have ha3 := blk_cell BA15.out 3; have hb0 := blk_cell BB15.out 0; have hb1 := blk_cell BB15.out 1; have hb2 := blk_cell BB15.out 2; have hb3 := blk_cell BB15.out 3))
    go_ret
    exact ⟨rfl, HB15.out⟩
end Go.Proofs.YtfdlbnfjohpdlaaGreatDoor.PPo
