import Derived.Test.YtcclaidbikjhiaaGreatDoorPureVsh
--compressed
namespace Go.Proofs.YtcclaidbikjhiaaGreatDoor.PVo
open Go.RowKit Go.Proofs.YtcclaidbikjhiaaGreatDoorW.PrintWords Go.Proofs.YtcclaidbikjhiaaGreatDoorW.PrintLast Go.Proofs.YtcclaidbikjhiaaGreatDoorW.PrintMore Go.Proofs.YtcclaidbikjhiaaGreatDoor.Th
attribute [local go_sem] max2_int min2_int max_two min_two max_three min_three max_four min_four
set_option linter.unusedVariables false
set_option linter.unusedSimpArgs false
theorem new90 (b : Int) : beginT ⟨[], headF 90, 0, b⟩ = ⟨[], b + 1, [⟨3, ((90 : Nat) : Int) - 3⟩], false⟩ := by
 have h := free_new (n := 90) (by decide) (by decide) b
 unfold beginT
 rw [h]
theorem fmt90 : fmtV (newDV 90) = ⟨[], headF 90, 0, 0⟩ := by
 have hl : (newDV 90).now.length = 90 := new_good.len
 unfold fmtV
 rw [hl]
theorem needV_600 {n : Nat} (h : n ≤ 600) : 0 ≤ needV n ∧ needV n ≤ 10 ∧ (n : Int) ≤ needV n * 64 ∧ needV n * 64 - n < 64 := by unfold needV; omega
structure Two (V0 V1 V2 : VV) (D0 : DV) (T1 T4 : TV) : Prop where
 d0 : (formatV (newDV 90)).2 = D0
 v0 : fmtV (newDV 90) = V0
 v1 : { V0 with began := V0.began + 1 } = V1
 v2 : { V1 with began := V1.began + 1 } = V2
 t1 : beginT V0 = T1
 t4 : beginT V1 = T4
 ok0 : V0.Ok
 ok1 : V1.Ok
 k1 : T1.Ok
 k4 : T4.Ok
 p0 : D0.pend.length < 100000
 s2 : V2.slot = 0 ∨ V2.slot = 1
theorem two_start : ∃ V0 V1 V2 D0 T1 T4, Two V0 V1 V2 D0 T1 T4 ∧ Good 90 D0 ∧ V1 = ⟨[], headF 90, 0, 1⟩ ∧ V2 = ⟨[], headF 90, 0, 2⟩ ∧ T1 = ⟨[], 1, [⟨3, ((90 : Nat) : Int) - 3⟩], false⟩ ∧ T4 = ⟨[], 2, [⟨3, ((90 : Nat) : Int) - 3⟩], false⟩ := by
 obtain ⟨-, f2, f3⟩ := format_good (n := 90) (by decide) (by decide)
 have ok : ∀ b : Int, 0 ≤ b → b < 1000000000 → (⟨[], headF 90, 0, b⟩ : VV).Ok := fun b h0 h1 => ⟨⟨Nat.zero_le _, fun f hf => nomatch hf⟩, Nat.zero_le _, show 1 ≤ 100000 by decide, h0, h1⟩
 have tk : ∀ no : Int, (⟨[], no, [⟨3, ((90 : Nat) : Int) - 3⟩], false⟩ : TV).Ok := fun no => ⟨ok1 (by decide) (by decide) (by decide), canon1 _, show 1 ≤ 8192 by decide, Nat.zero_le _, List.Pairwise.nil⟩
 exact ⟨_, _, _, _, _, _, ⟨rfl, fmt90, rfl, rfl, new90 0, new90 1, ok 0 (by decide) (by decide), ok 1 (by decide) (by decide), tk _, tk _, by rw [f3]; decide, .inl rfl⟩, f2, rfl, rfl, rfl, rfl⟩
theorem needV_1010 {n : Nat} (h : n ≤ 1010) : needV n ≤ 16 := by unfold needV; omega
theorem two_main {a b s t : List UInt8} (hla : labB a = true) (hlb : labB b = true) (hs : s.length ≤ 600) (ht : t.length ≤ 600) (hab : a ≠ b) {D0 : DV} (hg : Good 90 D0) (hp : D0.pend.length < 100000) : ∃ T2 D2 T5 D5 V6 T6 D6,
  twriteV ⟨[], headF 90, 0, 1⟩ ⟨[], 1, [⟨3, ((90 : Nat) : Int) - 3⟩], false⟩ D0 a s = (0, T2, D2) ∧ D2.pend.length < 200000 ∧ overV T2 ⟨[], headF 90, 0, 2⟩ = true ∧
  twriteV ⟨[], headF 90, 0, 2⟩ ⟨[], 2, [⟨3, ((90 : Nat) : Int) - 3⟩], false⟩ D2 b t = (0, T5, D5) ∧ T5.Ok ∧ BdL T5.l ∧ D5.pend.length < 300000 ∧
  commitV ⟨[], headF 90, 0, 2⟩ T5 D5 = (0, V6, T6, D6) ∧ overV T6 V6 = true ∧ (∀ s ∈ D6.now, s.size = 64) ∧
  (readV V6.l D6 a).2 = 4 ∧ readV V6.l D6 b = (t, 0) ∧ ((findV (B a) V6.l).2 = true → FileOk (findV (B a) V6.l).1) ∧ ((findV (B b) V6.l).2 = true → FileOk (findV (B b) V6.l).1) ∧ V6.l.length = 1 ∧ (∀ f ∈ V6.l, f.f2.length ≤ 100000) := by
 obtain ⟨ka, kb, kc, kd⟩ := needV_600 hs
 obtain ⟨la, lb, lc, ld⟩ := needV_600 ht
 obtain ⟨D2, w1, w2, w3, -⟩ := write_one (n := 90) (V := ⟨[], headF 90, 0, 1⟩) (no := 1) (s := s) hg (by decide) rfl hla (by omega) (by omega)
 obtain ⟨D5, x1, x2, x3, x4⟩ := write_one (n := 90) (V := ⟨[], headF 90, 0, 2⟩) (no := 2) w2 (by decide) rfl hlb (s := t) (by omega) (by omega)
 obtain ⟨i1, i2, i3, i4, i5⟩ := in1_ok (size := 90) (a := 3) la (by decide) (by omega)
 have hwl : wellB ⟨B b, t.length, in1 3 (needV t.length)⟩ = true := well_one hlb (by omega) la (by omega) lc ld
 obtain ⟨-, q2, q3⟩ := put_one hwl
 have hpn : needV (putV [⟨B b, t.length, in1 3 (needV t.length)⟩]).1.length ≤ 16 := needV_1010 q3
 have he : ((90 : Nat) : Int) - 3 - needV t.length = ((90 : Nat) : Int) - (3 + needV t.length) := by omega
 rw [he] at x1
 obtain ⟨D6, h6, fr, c1, c2, c3⟩ := commit_one (n := 90) (V := ⟨[], headF 90, 0, 2⟩) (a := 3 + needV t.length) (l := in1 3 (needV t.length)) x2 (by decide) (by decide) rfl (.inl rfl) hwl (by omega) (by omega) i1 (fun x hx => by have := i5 x hx; omega)
 have hka : needV s.length ≤ 10 ∧ 0 ≤ needV s.length := ⟨kb, ka⟩
 have hfb : FileOk ⟨B b, t.length, in1 3 (needV t.length)⟩ := ⟨i1.mono (by decide), by show (in1 _ _).length ≤ _; omega, by show (0 : Int) ≤ (t.length : Int); omega, by show (t.length : Int) ≤ Th.sumF (in1 _ _) * 64; rw [i2]; exact lc, by show Th.sumF (in1 _ _) ≤ _; rw [i2]; omega⟩
 have fa := find_one a b t.length (in1 3 (needV t.length))
 have fb := find_one b b t.length (in1 3 (needV t.length))
 rw [if_neg hab] at fa
 rw [if_pos rfl] at fb
 refine ⟨_, D2, _, D5, _, _, D6, w1, by rw [w3]; omega, ?_, x1, ?_, ?_, by rw [x3, w3]; omega, c1, ?_, c2.all, ?_, ?_, ?_, ?_, rfl, ?_⟩
 ·simp [overV]
 ·exact ⟨ok1 (by omega) (by omega) (by omega), canon1 _, show 1 ≤ 8192 by decide, show 1 ≤ 1000000 by decide, List.pairwise_singleton ..⟩
 ·refine ⟨show 1 ≤ 100000 by decide, fun f hf => ?_⟩
  obtain rfl := List.mem_singleton.1 hf
  have hl := labB_len hlb
  exact ⟨by show (B b).size ≤ _; rw [B_size]; omega, by show (in1 _ _).length ≤ _; omega⟩
 ·simp [overV]
 ·show (readV [_] D6 a).2 = 4
  unfold readV
  rw [fa, if_neg (by decide)]
 ·show readV [_] D6 b = (t, 0)
  unfold readV
  rw [fb, if_pos rfl]
  show rdF (in1 3 (needV t.length)) ((t.length : Nat) : Int).toNat D6 = _
  rw [Int.toNat_natCast, rdF_good c2 i1, c3, x4, padded_take]
 ·show (findV (B a) [_]).2 = true → _
  rw [fa]
  exact fun h => nomatch h
 ·show (findV (B b) [_]).2 = true → FileOk (findV (B b) [_]).1
  rw [fb]
  exact fun _ => hfb
 ·intro f hf
  obtain rfl := List.mem_singleton.1 hf
  show (in1 _ _).length ≤ _
  omega
theorem Via.old {w w' : World} {S M S' M' : Nat → Prop} (h : Via w w' S M S' M') : ∀ k, k < w.heap.size → M' k → M k := fun k hk q => (h.2.2.1 k q).resolve_right (by omega)
theorem size_t {l : List UInt8} {n : Nat} (h : n < l.length) : decide ((n : Int) < ((B l).size : Int)) = true := decide_eq_true (by rw [B_size]; omega)
theorem size_f {l : List UInt8} {n : Nat} (h : ¬ n < l.length) : decide ((n : Int) < ((B l).size : Int)) = false := decide_eq_false (by rw [B_size]; omega)
set_option maxHeartbeats 16000000 in
set_option maxRecDepth 100000 in
theorem VolTwo_walk (a b s t : List UInt8) (w : World) (ht : TabsW w) :
  Calls Tryz.prog 3 #[.string (B a), .string (B b), .string (B s), .string (B t)] w fun e w' => e = .returned (.bool true) ∧ Below w.heap.size w w' := by
 have HSH := zA (shown.calls w ht)
 have HBG := zA (fun w1 (hb : Below w.heap.size w w1) => begunAt.calls 90 w (by decide) (by decide) r6_90 ht w1 hb)
 unfold BegTo at HBG
 have HTB := zA ht
 obtain ⟨V0, V1, V2, D0, T1, T4, h2, g0, e1, e2, e3, e4⟩ := two_start
 have HT2 := zA h2
 have HEQ := zA (And.intro g0 (And.intro e1 (And.intro e2 (And.intro e3 e4))))
 rw [h2.d0, h2.v0] at HBG
 clear ht h2 g0 e1 e2 e3 e4
 by_cases c1 : 100 < a.length
 ·have a1 : decide ((100 : Int) < ((B a).size : Int)) = true := size_t c1
  clear c1
  go_enter Tryz.func3, Tryz.ntmps3
  go_wp2_with (first
   | (go_at_call 10; go_loud (refine HSH.out.mono ?_; rintro e w1 ⟨rfl, hb1⟩; have HB1 := zA hb1; clear hb1))
   | (go_at_call 11; go_loud (refine (HBG.out w1 HB1.out).mono ?_; rintro e w2 ⟨gb, gd, gm, gv, gw, S2, M2, rfl, hb, hgb, hnb, hsys⟩; have HK2 := zA (And.intro hb hnb); have HX2 := zA hsys; have kv := (show w2.cell? ⟨gb, 2, none⟩ = some (.pointer (some ⟨gv, 0, none⟩)) from (blk_cell hb 2).trans rfl); clear hb hgb hnb hsys)))
  go_ret
  exact ⟨rfl, HX2.out.bel⟩
 have a1 : decide ((100 : Int) < ((B a).size : Int)) = false := size_f c1
 by_cases c2 : 100 < b.length
 ·have a2 : decide ((100 : Int) < ((B b).size : Int)) = true := size_t c2
  clear c1 c2
  go_enter Tryz.func3, Tryz.ntmps3
  go_wp2_with (first
   | (go_at_call 10; go_loud (refine HSH.out.mono ?_; rintro e w1 ⟨rfl, hb1⟩; have HB1 := zA hb1; clear hb1))
   | (go_at_call 11; go_loud (refine (HBG.out w1 HB1.out).mono ?_; rintro e w2 ⟨gb, gd, gm, gv, gw, S2, M2, rfl, hb, hgb, hnb, hsys⟩; have HK2 := zA (And.intro hb hnb); have HX2 := zA hsys; have kv := (show w2.cell? ⟨gb, 2, none⟩ = some (.pointer (some ⟨gv, 0, none⟩)) from (blk_cell hb 2).trans rfl); clear hb hgb hnb hsys)))
  go_ret
  exact ⟨rfl, HX2.out.bel⟩
 have a2 : decide ((100 : Int) < ((B b).size : Int)) = false := size_f c2
 by_cases c3 : 600 < s.length
 ·have a3 : decide ((600 : Int) < ((B s).size : Int)) = true := size_t c3
  clear c1 c2 c3
  go_enter Tryz.func3, Tryz.ntmps3
  go_wp2_with (first
   | (go_at_call 10; go_loud (refine HSH.out.mono ?_; rintro e w1 ⟨rfl, hb1⟩; have HB1 := zA hb1; clear hb1))
   | (go_at_call 11; go_loud (refine (HBG.out w1 HB1.out).mono ?_; rintro e w2 ⟨gb, gd, gm, gv, gw, S2, M2, rfl, hb, hgb, hnb, hsys⟩; have HK2 := zA (And.intro hb hnb); have HX2 := zA hsys; have kv := (show w2.cell? ⟨gb, 2, none⟩ = some (.pointer (some ⟨gv, 0, none⟩)) from (blk_cell hb 2).trans rfl); clear hb hgb hnb hsys)))
  go_ret
  exact ⟨rfl, HX2.out.bel⟩
 have a3 : decide ((600 : Int) < ((B s).size : Int)) = false := size_f c3
 by_cases c4 : 600 < t.length
 ·have a4 : decide ((600 : Int) < ((B t).size : Int)) = true := size_t c4
  clear c1 c2 c3 c4
  go_enter Tryz.func3, Tryz.ntmps3
  go_wp2_with (first
   | (go_at_call 10; go_loud (refine HSH.out.mono ?_; rintro e w1 ⟨rfl, hb1⟩; have HB1 := zA hb1; clear hb1))
   | (go_at_call 11; go_loud (refine (HBG.out w1 HB1.out).mono ?_; rintro e w2 ⟨gb, gd, gm, gv, gw, S2, M2, rfl, hb, hgb, hnb, hsys⟩; have HK2 := zA (And.intro hb hnb); have HX2 := zA hsys; have kv := (show w2.cell? ⟨gb, 2, none⟩ = some (.pointer (some ⟨gv, 0, none⟩)) from (blk_cell hb 2).trans rfl); clear hb hgb hnb hsys)))
  go_ret
  exact ⟨rfl, HX2.out.bel⟩
 have a4 : decide ((600 : Int) < ((B t).size : Int)) = false := size_f c4
 by_cases c5 : a = b
 ·have n1 : ((B a).toList == (B b).toList) = true := by rw [c5]; exact beq_self_eq_true _
  clear c1 c2 c3 c4 c5
  go_enter Tryz.func3, Tryz.ntmps3
  go_wp2_with (first
   | (go_at_call 10; go_loud (refine HSH.out.mono ?_; rintro e w1 ⟨rfl, hb1⟩; have HB1 := zA hb1; clear hb1))
   | (go_at_call 11; go_loud (refine (HBG.out w1 HB1.out).mono ?_; rintro e w2 ⟨gb, gd, gm, gv, gw, S2, M2, rfl, hb, hgb, hnb, hsys⟩; have HK2 := zA (And.intro hb hnb); have HX2 := zA hsys; have kv := (show w2.cell? ⟨gb, 2, none⟩ = some (.pointer (some ⟨gv, 0, none⟩)) from (blk_cell hb 2).trans rfl); clear hb hgb hnb hsys)))
  go_ret
  exact ⟨rfl, HX2.out.bel⟩
 have n1 : ((B a).toList == (B b).toList) = false := by rw [B_toList, B_toList]; exact beq_eq_false_iff_ne.2 c5
 have HC := zA (And.intro c1 (And.intro c2 (And.intro c3 (And.intro c4 c5))))
 clear c1 c2 c3 c4 c5
 go_enter Tryz.func3, Tryz.ntmps3
 go_wp2_with (first
  | (go_at_call 10; go_loud (refine HSH.out.mono ?_; rintro e w1 ⟨rfl, hb1⟩; have HB1 := zA hb1; clear hb1))
  | (go_at_call 11; go_loud (refine (HBG.out w1 HB1.out).mono ?_; rintro e w2 ⟨gb, gd, gm, gv, gw, S2, M2, rfl, hb, hgb, hnb, hsys⟩; have HK2 := zA (And.intro hb hnb); have HX2 := zA hsys; have kv := (show w2.cell? ⟨gb, 2, none⟩ = some (.pointer (some ⟨gv, 0, none⟩)) from (blk_cell hb 2).trans rfl); clear hb hgb hnb hsys)))
 clear n1 a1 a2 a3 a4
 have HG3 := zA (show Calls Tryz.prog 12 #[.pointer (some ⟨gv, 0, none⟩)] w2 _ from by
  have h := beginVia.calls HX2.out HT2.out.ok0
  rw [HT2.out.t1, HT2.out.v1] at h
  exact h)
 obtain ⟨hga, he1, he2, he3, he4⟩ := HEQ.out
 subst he1 he2 he3 he4
 go_wp2_with (go_at_call 12; go_loud (refine HG3.out.mono ?_; rintro e w3 ⟨gt, rfl, hlt, hx, hv, hq⟩; have HX3 := zA hx; have HK3 := zA (hv.blk HK2.out.1 HK2.out.2); clear hlt hx hv hq))
 have HW3 := zA (writeVia.calls HX3.out HT2.out.k1 HTB.out a s (by have := HC.out.1; omega) (by have := HC.out.2.2.1; omega) (by have := HT2.out.p0; omega))
 clear HG3 HK2 HX2 kv
 cases hla : labB a with
 | false =>
  have HG4 := zA (show Calls Tryz.prog 13 #[.pointer (some ⟨gt, 0, none⟩), .string (B a), .string (B s)] w3 _ from by
   have h := HW3.out
   rw [write_err (by simp [overV]) hla] at h
   simp only at h
   exact h)
  clear hla HW3
  go_wp2_with (go_at_call 13; go_loud (refine HG4.out.mono ?_; rintro e w4 ⟨rfl, S4, M4, hx, hv, hq⟩; have HX4 := zA hx; clear hx hv hq))
  go_ret
  exact ⟨rfl, HX4.out.bel⟩
 | true =>
 obtain ⟨D2, x1, x2, x3, x4⟩ := write_one (n := 90) (V := ⟨[], headF 90, 0, 1⟩) (no := 1) (s := s) hga (by decide) rfl hla (by have := HC.out.2.2.1; omega) (by have := needV_600 (show s.length ≤ 600 by have := HC.out.2.2.1; omega); omega)
 have HD2 := zA (show Good 90 D2 ∧ D2.pend.length < 200000 from ⟨x2, by have := needV_600 (show s.length ≤ 600 by have := HC.out.2.2.1; omega); have := HT2.out.p0; omega⟩)
 have HLA := zA hla
 have HGA := zA hga
 have HG4 := zA (show Calls Tryz.prog 13 #[.pointer (some ⟨gt, 0, none⟩), .string (B a), .string (B s)] w3 _ from by
  have h := HW3.out
  rw [x1] at h
  simp only at h
  exact h)
 have HX1 := zA x1
 clear x1 x2 x3 x4 hla hga HW3
 go_wp2_with (go_at_call 13; go_loud (refine HG4.out.mono ?_; rintro e w4 ⟨rfl, S4, M4, hx, hv, hq⟩; have HX4 := zA hx; have hk := hv.blk HK3.out.1 HK3.out.2; have HK4 := zA hk; have kv := (show w4.cell? ⟨gb, 2, none⟩ = some (.pointer (some ⟨gv, 0, none⟩)) from (blk_cell hk.1 2).trans rfl); clear hx hv hq hk))
 have HG5 := zA (show Calls Tryz.prog 12 #[.pointer (some ⟨gv, 0, none⟩)] w4 _ from by
  have h := beginVia.calls HX4.out.toVol HT2.out.ok1
  rw [HT2.out.t4, HT2.out.v2] at h
  exact h)
 clear HG4 HX3 HK3
 go_wp2_with (go_at_call 12; go_loud (refine HG5.out.mono ?_; rintro e w5 ⟨gu, rfl, hlt, hx, hv, hq⟩; have HX5 := zA hx; have HK5 := zA (hv.blk HK4.out.1 HK4.out.2); have HT5 := zA (HX4.out.tx.move (M' := fun k => M4 k ∨ k = gu) hq (fun k q => q ▸ HX4.out.mv.1) (fun k hk q => q.elim id fun q => by omega) HX4.out.mt.2.2); have HLT := zA hlt; clear hlt hx hv hq))
 have HW5 := zA (writeVia.calls HX5.out HT2.out.k4 HTB.out b t (by have := HC.out.2.1; omega) (by have := HC.out.2.2.2.1; omega) (by have := HD2.out.2; omega))
 clear HG5 HK4 kv
 cases hlb : labB b with
 | false =>
  have HG6 := zA (show Calls Tryz.prog 13 #[.pointer (some ⟨gu, 0, none⟩), .string (B b), .string (B t)] w5 _ from by
   have h := HW5.out
   rw [write_err (by simp [overV]) hlb] at h
   simp only at h
   exact h)
  clear hlb HW5
  go_wp2_with (go_at_call 13; go_loud (refine HG6.out.mono ?_; rintro e w6 ⟨rfl, S6, M6, hx, hv, hq⟩; have HX6 := zA hx; clear hx hv hq))
  go_ret
  exact ⟨rfl, HX6.out.bel⟩
 | true =>
 obtain ⟨T2, D2', T5, D5, V6, T6, D6, y1, y2, y3, y4, y5, y6, y7, y8, y9, y10, y11, y12, y13, y14, y15, y16⟩ := two_main HLA.out hlb (show s.length ≤ 600 by have := HC.out.2.2.1; omega) (show t.length ≤ 600 by have := HC.out.2.2.2.1; omega) HC.out.2.2.2.2 HGA.out HT2.out.p0
 rw [HX1.out] at y1
 injection y1 with _ y1
 injection y1 with z1 z2
 subst z1 z2
 have HY3 := zA y3
 have HY5 := zA (And.intro y5 (And.intro y6 y7))
 have HY8 := zA (And.intro y8 (And.intro y9 y10))
 have HY11 := zA (And.intro y11 (And.intro y12 (And.intro y13 y14)))
 have HY15 := zA (And.intro y15 y16)
 have HG6 := zA (show Calls Tryz.prog 13 #[.pointer (some ⟨gu, 0, none⟩), .string (B b), .string (B t)] w5 _ from by
  have h := HW5.out
  rw [y4] at h
  simp only at h
  exact h)
 clear y2 y3 y4 y5 y6 y7 y8 y9 y10 y11 y12 y13 y14 y15 y16 hlb HW5
 go_wp2_with (go_at_call 13; (with_reducible refine HG6.out.mono ?_; rintro e w6 ⟨rfl, S6, M6, hx, hv, hq⟩; have HX6 := zA hx; have HK6 := zA (hv.blk HK5.out.1 HK5.out.2); have HT6 := zA (HT5.out.move (M' := M6) hq (fun k q => q.elim (HX5.out.ms k) fun q => .inr q) hv.old (fun q => q.elim HX4.out.mt.2.1 fun q => by have h1 := (HX4.out.mb gt HX4.out.mt.1).2; have h2 := HLT.out; omega)); clear hx hv hq))
 have HG7 := zA (twriteOver.calls HX6.out.vol HT6.out HY3.out (B a) (B s))
 clear HG6 HX5 HT5 HK5 HX4
 go_wp2_with (go_at_call 13; (with_reducible refine HG7.out.mono ?_; rintro e w7 ⟨rfl, hb⟩; have HX7 := zA (HX6.out.past hb); have HK7 := zA (And.intro (blk_below HK6.out.1 hb) HK6.out.2); have HT7 := zA (HT6.out.move (M' := M6) (Kept.of_below hb (fun _ => False)) (fun k q => q.elim) (fun k hk q => q) (fun q => q)); clear hb))
 have HG8 := zA (tcommitOver.calls HX7.out.vol HT7.out HY3.out)
 clear HG7 HX6 HT6 HK6
 go_wp2_with (go_at_call 14; (with_reducible refine HG8.out.mono ?_; rintro e w8 ⟨rfl, hb⟩; have HX8 := zA (HX7.out.past hb); have HK8 := zA (And.intro (blk_below HK7.out.1 hb) HK7.out.2); clear hb))
 have HG9 := zA (show Calls Tryz.prog 14 #[.pointer (some ⟨gu, 0, none⟩)] w8 _ from by
  have h := commitVia.calls HX8.out HY5.out.1 HY5.out.2.1 HTB.out (by have := HY5.out.2.2; omega) HT2.out.s2
  rw [HY8.out.1] at h
  simp only at h
  exact h)
 clear HG8 HX7 HT7 HK7
 go_wp2_with (go_at_call 14; (with_reducible refine HG9.out.mono ?_; rintro e w9 ⟨rfl, S9, M9, hx, hv⟩; have HX9 := zA hx; have HK9 := zA (hv.blk HK8.out.1 HK8.out.2); clear hx hv))
 have HG10 := zA (tcommitOver.calls HX9.out.vol HX9.out.tx HY8.out.2.1)
 clear HG9 HX8 HK8
 go_wp2_with (go_at_call 14; (with_reducible refine HG10.out.mono ?_; rintro e w10 ⟨rfl, hb⟩; have HX10 := zA (HX9.out.past hb).toVol; have hk := blk_below HK9.out.1 hb; have HK10 := zA hk; have kv := (show w10.cell? ⟨gb, 2, none⟩ = some (.pointer (some ⟨gv, 0, none⟩)) from (blk_cell hk 2).trans rfl); clear hb hk))
 have HG11 := zA (show ∃ r, Calls Tryz.prog 15 #[.pointer (some ⟨gv, 0, none⟩), .string (B a)] w10 fun e w' => e = .returned (.tuple #[.string (B r), .int .i64 4]) ∧ Below w10.heap.size w10 w' from ⟨(readV V6.l D6 a).1, by
  have h := readVol.calls HX10.out a HY8.out.2.2 HY11.out.2.2.1
  rw [HY11.out.1] at h
  exact h⟩)
 obtain ⟨r, hg11⟩ := HG11.out
 have HG12 := zA hg11
 clear HG10 HX9 HK9 HG11 hg11
 go_wp2_with (go_at_call 15; (with_reducible refine HG12.out.mono ?_; rintro e w11 ⟨rfl, hb⟩; have HX11 := zA (HX10.out.past hb); have hk := blk_below HK10.out hb; have HK11 := zA hk; have kv2 := (show w11.cell? ⟨gb, 2, none⟩ = some (.pointer (some ⟨gv, 0, none⟩)) from (blk_cell hk 2).trans rfl); clear hb hk))
 have HG13 := zA (show Calls Tryz.prog 15 #[.pointer (some ⟨gv, 0, none⟩), .string (B b)] w11 _ from by
  have h := readVol.calls HX11.out b HY8.out.2.2 HY11.out.2.2.2
  rw [HY11.out.2.1] at h
  simp only at h
  exact h)
 clear HG12 HX10 HK10 kv
 have n2 : ((B t).toList == (B t).toList) = true := beq_self_eq_true _
 have HFL := zA (fun (W : World) (hb : Below w11.heap.size w11 W) => show Calls Tryz.prog 16 #[.pointer (some ⟨gv, 0, none⟩)] W fun e w' => ∃ A' c', e = .returned (.slice A' 1 c') ∧ Below w11.heap.size w11 w' from by
  have h := filesVol.calls (HX11.out.past hb) (by rw [HY15.out.1]; decide) HY15.out.2
  rw [HY15.out.1] at h
  refine h.mono ?_
  rintro e w' ⟨A', c', rfl, -, -, hb'⟩
  exact ⟨A', c', rfl, below_step hb hb'⟩)
 go_wp2_with (first
  | (go_at_call 15; (with_reducible refine HG13.out.mono ?_; rintro e w12 ⟨rfl, hb⟩; have HB12 := zA hb; have kv3 := (hb.cell (zB w11 _ kv2)).trans kv2; clear hb))
  | (go_at_call 16; go_loud (refine (HFL.out w12 HB12.out).mono ?_; rintro e w13 ⟨A', c', rfl, hb⟩; have HB13 := zA hb; clear hb)))
 go_ret
 exact ⟨rfl, below_then HX11.out.bel (below_size HX11.out.bel) HB13.out⟩
end Go.Proofs.YtcclaidbikjhiaaGreatDoor.PVo
