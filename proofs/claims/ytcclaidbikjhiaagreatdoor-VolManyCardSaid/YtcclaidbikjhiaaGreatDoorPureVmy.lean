import Derived.Test.YtcclaidbikjhiaaGreatDoorPureVsh
import Derived.Test.YtcclaidbikjhiaaGreatDoorPVox48
import Derived.Deep.RegionHeld3
--compressed
namespace Go.Proofs.YtcclaidbikjhiaaGreatDoor.PVo
open Go.RowKit Go.Proofs.YtcclaidbikjhiaaGreatDoorW.PrintWords Go.Proofs.YtcclaidbikjhiaaGreatDoorW.PrintLast Go.Proofs.YtcclaidbikjhiaaGreatDoorW.PrintMore Go.Proofs.YtcclaidbikjhiaaGreatDoor.Th
set_option linter.unusedVariables false
def dig (n : Nat) : UInt8 := UInt8.ofNat (48 + n % 10)
def numB (i : Nat) : List UInt8 := [102, dig (i / 100), dig (i / 10), dig i]
set_option maxRecDepth 1000000
theorem num_all : ((List.range 125).all fun i => decide (rootcellarlaw8_numbered.f (i : Int) = some (B (numB i))) && labB (numB i)) = true := by decide +kernel
theorem num_f {i : Nat} (h : i < 125) : rootcellarlaw8_numbered.f (i : Int) = some (B (numB i)) ∧ labB (numB i) = true := by
 have := List.all_eq_true.1 num_all i (List.mem_range.2 h)
 simpa using this
theorem num_lt : ((List.range 125).all fun i => (List.range i).all fun j => Op.bytesLess (numB j) (numB i)) = true := by decide +kernel
theorem num_ahead {i j : Nat} (hi : i < 125) (hj : j < i) : aheadN (B (numB j)) (B (numB i)) = true := by
 have := List.all_eq_true.1 (List.all_eq_true.1 num_lt i (List.mem_range.2 hi)) j (List.mem_range.2 hj)
 unfold aheadN
 rw [B_toList, B_toList]
 exact this
def fiN (i : Nat) : Fi := ⟨B (numB i), 0, []⟩
def filesN (L : List Nat) : List Fi := L.map fiN
structure Inc (L : List Nat) : Prop where
 ord : L.Pairwise (· < ·)
 lt : ∀ j ∈ L, j < 125
theorem Inc.sd {L : List Nat} (h : Inc L) : Sd (filesN L) := by
 unfold Sd filesN
 rw [List.pairwise_map]
 exact (List.Pairwise.and_mem.1 h.ord).imp fun ⟨h1, h2, h3⟩ => num_ahead (h.lt _ h2) h3
theorem Inc.snoc {L : List Nat} (h : Inc L) {i : Nat} (hi : i < 125) (hb : ∀ j ∈ L, j < i) : Inc (L ++ [i]) := by
 refine ⟨List.pairwise_append.2 ⟨h.ord, List.pairwise_singleton .., fun a ha b hb' => ?_⟩, fun j hj => ?_⟩
 ·obtain rfl := List.mem_singleton.1 hb'
  exact hb a ha
 ·rcases List.mem_append.1 hj with q | q
  ·exact h.lt j q
  ·obtain rfl := List.mem_singleton.1 q
   exact hi
theorem with_num {L : List Nat} {i : Nat} (hi : i < 125) (hb : ∀ j ∈ L, j < i) : withV (fiN i) (filesN L) = filesN (L ++ [i]) := by
 have h := with_part (a := B (numB i)) (f := fiN i) (P := filesN L) (E := []) (S := []) rfl (fun x hx => by
  obtain ⟨j, hj, rfl⟩ := List.mem_map.1 hx
  exact num_ahead hi (hb j hj)) (fun _ h => nomatch h) (.inl rfl)
 rw [List.append_nil, List.append_nil] at h
 rw [h]
 unfold filesN
 rw [List.map_append]
 rfl
theorem write_num {n : Nat} {V : VV} {D : DV} {no : Int} {L : List Nat} {i : Nat} (h4 : 4 ≤ n) (h8 : n ≤ 8192) (ho : V.began = no) (hi : i < 125) (hb : ∀ j ∈ L, j < i) :
  twriteV V ⟨filesN L, no, [⟨3, n - 3⟩], false⟩ D (numB i) [] = (0, ⟨filesN (L ++ [i]), no, [⟨3, n - 3⟩], false⟩, D) := by
 have hov : overV ⟨filesN L, no, [⟨3, n - 3⟩], false⟩ V = false := by simp [overV, ho]
 have ht := take_one (a := 3) (m := n - 3) (n := 0) (Int.le_refl _) (by omega) (by decide) (by omega)
 rw [Int.add_zero, Int.sub_zero] at ht
 have hn : needV ([] : List UInt8).length = 0 := by decide
 unfold twriteV
 rw [hov, if_neg (by decide), (num_f hi).2, if_neg (by decide), if_neg (by simp), hn]
 simp only [ht]
 rw [if_neg (by simp [in1]), show wrF (in1 3 0) [] D = (0, D) from rfl, if_pos rfl]
 rw [show (⟨B (numB i), (([] : List UInt8).length : Int), in1 3 0⟩ : Fi) = fiN i from rfl, with_num hi hb]
theorem well_num {i : Nat} (hi : i < 125) : wellB (fiN i) = true := well_one (k := 0) (m := 0) (num_f hi).2 (by decide) (by decide) (by decide) (by decide) (by decide)
theorem dir_num {L : List Nat} (h : Inc L) (hl : L.length ≤ 120) : dirB (filesN L) = true := (dirB_iff _).2 ⟨fun f hf => by
 obtain ⟨j, hj, rfl⟩ := List.mem_map.1 hf
 exact well_num (h.lt j hj), h.sd, by unfold filesN; rw [List.length_map]; exact hl⟩
theorem fiN_len (i : Nat) : (fileL (fiN i)).length = 10 := by
 unfold fileL fiN
 simp [numL_len, numB, B_data]
theorem filesN_len : ∀ L : List Nat, ((filesN L).flatMap fileL).length = 10 * L.length
 | [] => rfl
 | i :: t => by
  have := filesN_len t
  show (fileL (fiN i) ++ (filesN t).flatMap fileL).length = _
  rw [zO, fiN_len, this, List.length_cons]
  omega
theorem put_num {L : List Nat} (h : Inc L) (hl : L.length ≤ 120) : (putV (filesN L)).2 = 0 ∧ 0 < (putV (filesN L)).1.length ∧ (putV (filesN L)).1.length ≤ 1205 := by
 unfold putV
 rw [if_pos (dir_num h hl)]
 refine ⟨rfl, ?_⟩
 rw [sealV_len]
 unfold dirL
 rw [zO, numL_len, filesN_len]
 omega
theorem commit_any {n : Nat} {V : VV} {D : DV} {fs : List Fi} {a : Int} (hg : Good n D) (h3 : 3 ≤ n) (h8 : n ≤ 8192) (hV : V.h.sect = n) (hsl : V.slot = 0 ∨ V.slot = 1) (p1 : (putV fs).2 = 0) (p2 : 0 < (putV fs).1.length) (hf : fs.length ≤ 120) (ha : 2 ≤ a) (hm : a + needV (putV fs).1.length ≤ n) :
  ∃ D' h' fr, commitV V ⟨fs, V.began, [⟨a, n - a⟩], false⟩ D = (0, { V with h := h', slot := 1 - V.slot, l := fs }, ⟨fs, V.began, fr, true⟩, D') ∧ Good n D' ∧ (D.pend.length < 1000 → D'.pend.length < 100000) := by
 have hn0 : 0 < needV (putV fs).1.length ∧ ((putV fs).1.length : Int) ≤ needV (putV fs).1.length * 64 ∧ needV (putV fs).1.length * 64 - (putV fs).1.length < 64 := by unfold needV; omega
 have hov : overV ⟨fs, V.began, [⟨a, n - a⟩], false⟩ V = false := by simp [overV]
 have hlow := low_one (a := a) (m := n - a) (n := needV (putV fs).1.length) (by omega)
 have ho := ok1 (size := n) hn0.1 (show 0 ≤ a by omega) hm
 obtain ⟨w1, w2, w3⟩ := wrF_good hg ho (s := (putV fs).1) (by simp [Th.sumF]; omega)
 have hhr : headR (headN V (putV fs).1.length [⟨a, needV (putV fs).1.length⟩]) = true := by
  unfold headN
  rw [hV]
  exact headR_one (by omega) (by omega) (by omega) ha hn0.1 hm hn0.2
 have hh := headP_len hhr
 have hhe : (headP (headN V (putV fs).1.length [⟨a, needV (putV fs).1.length⟩])).2 = 0 := by unfold headP; rw [if_pos hhr]
 obtain ⟨b1, b2, b3, b4⟩ := w2.flushed
 have hsz : (B (headP (headN V (putV fs).1.length [⟨a, needV (putV fs).1.length⟩])).1).size = 64 := by rw [B_size, hh]
 have c1 := write_good b2 (a := 1 - V.slot) (by omega) (by omega) hsz
 have c2 := b2.wrote (1 - V.slot) hsz
 obtain ⟨d1, d2, d3, d4⟩ := c2.flushed
 refine ⟨_, headN V (putV fs).1.length [⟨a, needV (putV fs).1.length⟩], if (n : Int) - a > needV (putV fs).1.length then [⟨a + needV (putV fs).1.length, n - a - needV (putV fs).1.length⟩] else [], ?_, d2, fun _ => by rw [d4]; decide⟩
 unfold commitV
 rw [hov, if_neg (by decide), if_neg (show ¬ 120 < fs.length by omega), p1, if_neg (fun h => h rfl)]
 unfold commit2
 simp only [hlow]
 rw [if_neg (by decide), w1, if_neg (fun h => h rfl)]
 unfold commit3
 rw [hhe, if_neg (fun h => h rfl)]
 unfold commit4
 rw [b1, if_neg (fun h => h rfl), c1, if_neg (fun h => h rfl), d1, if_neg (fun h => h rfl)]
theorem commit_long {V : VV} {D : DV} {fs : List Fi} {fr : List Sp} (h : 120 < fs.length) : commitV V ⟨fs, V.began, fr, false⟩ D = (3, V, ⟨fs, V.began, fr, true⟩, D) := by
 unfold commitV
 rw [if_neg (by simp [overV]), if_pos h]
theorem read_num {L : List Nat} (h : Inc L) {p : Nat} (hp : p ∈ L) (D : DV) : findV (B (numB p)) (filesN L) = (fiN p, true) ∧ readV (filesN L) D (numB p) = ([], 0) := by
 have hf := find_sd h.sd (e := fiN p) (List.mem_map_of_mem hp)
 refine ⟨hf, ?_⟩
 unfold readV
 rw [show findV (B (numB p)) (filesN L) = (fiN p, true) from hf, if_pos rfl]
 rfl
theorem file_num (p : Nat) : FileOk (fiN p) := ⟨OkL.nil, Nat.zero_le _, show (0 : Int) ≤ 0 by decide, show (0 : Int) ≤ Th.sumF [] * 64 by decide, show Th.sumF [] ≤ 1000000 by decide⟩
theorem bd_num {L : List Nat} (h : Inc L) (hl : L.length ≤ 1000) : BdL (filesN L) := ⟨by unfold filesN; rw [List.length_map]; omega, fun f hf => by
 obtain ⟨j, hj, rfl⟩ := List.mem_map.1 hf
 exact ⟨by show (B (numB j)).size ≤ _; rw [B_size]; show 4 ≤ 100000; decide, by show 0 ≤ 100000; decide⟩⟩
theorem tx_num {L : List Nat} (h : Inc L) (hl : L.length ≤ 1000) (no : Int) : (⟨filesN L, no, [⟨3, ((400 : Nat) : Int) - 3⟩], false⟩ : TV).Ok := ⟨ok1 (by decide) (by decide) (by decide), canon1 _, show 1 ≤ 8192 by decide, by show (filesN L).length ≤ _; unfold filesN; rw [List.length_map]; omega, h.sd⟩
theorem inc_range {n : Nat} (h : n ≤ 125) : Inc (List.range n) := ⟨List.pairwise_lt_range, fun j hj => by have := List.mem_range.1 hj; omega⟩
theorem new400 (b : Int) : beginT ⟨[], headF 400, 0, b⟩ = ⟨filesN [], b + 1, [⟨3, ((400 : Nat) : Int) - 3⟩], false⟩ := by
 have h := free_new (n := 400) (by decide) (by decide) b
 unfold beginT
 rw [h]
 rfl
theorem fmt400 : fmtV (newDV 400) = ⟨[], headF 400, 0, 0⟩ := by
 have hl : (newDV 400).now.length = 400 := new_good.len
 unfold fmtV
 rw [hl]
theorem vv400 (b : Int) (h0 : 0 ≤ b) (h1 : b < 1000000000) : (⟨[], headF 400, 0, b⟩ : VV).Ok := ⟨⟨Nat.zero_le _, fun f hf => nomatch hf⟩, Nat.zero_le _, show 1 ≤ 100000 by decide, h0, h1⟩
theorem pick_ev (c : Int) (n : Nat) (h0 : 0 < n) (h1 : -9223372036854775808 ≤ c) (h2 : c < 9223372036854775808) (hn : n < 1000000) : ∃ p : Nat, p < n ∧ rootcellarlaw8_pick.f c n = some (p : Int) := by
 unfold rootcellarlaw8_pick.f
 by_cases hc : c < 0
 ·rw [if_pos hc, if_neg (by omega)]
  have e1 : wrap64 (c + 1) = c + 1 := wrap64_id (by omega) (by omega)
  have e2 : wrap64 (-(c + 1)) = -(c + 1) := wrap64_id (by omega) (by omega)
  rw [e1, e2]
  have h3 := Int.tmod_nonneg (a := -(c + 1)) (n : Int) (by omega)
  have h4 := Int.tmod_lt_of_pos (-(c + 1)) (show (0 : Int) < n by omega)
  exact ⟨((-(c + 1)).tmod n).toNat, by omega, by rw [Int.toNat_of_nonneg h3]⟩
 ·rw [if_neg hc, if_neg (by omega)]
  have h3 := Int.tmod_nonneg (a := c) (n : Int) (by omega)
  have h4 := Int.tmod_lt_of_pos c (show (0 : Int) < n by omega)
  exact ⟨(c.tmod n).toNat, by omega, by rw [Int.toNat_of_nonneg h3]⟩
def keepN (n p : Nat) (j : Nat) : Bool := decide (121 < n) || decide (j ≠ p)
def someN (n p k : Nat) : List Nat := (List.range k).filter (keepN n p)
theorem some_succ (n p k : Nat) : someN n p (k + 1) = if keepN n p k = true then someN n p k ++ [k] else someN n p k := by
 unfold someN
 rw [List.range_succ, List.filter_append]
 by_cases h : keepN n p k = true
 ·rw [if_pos h, List.filter_cons, if_pos h]
  rfl
 ·rw [if_neg h, List.filter_cons, if_neg h, List.filter_nil, List.append_nil]
theorem some_lt {n p k j : Nat} (h : j ∈ someN n p k) : j < k := List.mem_range.1 (List.mem_filter.1 h).1
theorem some_inc {n p k : Nat} (h : k ≤ 125) : Inc (someN n p k) := ⟨(inc_range h).ord.filter _, fun j hj => by have := some_lt hj; omega⟩
theorem some_len {n p k : Nat} : (someN n p k).length ≤ k := by
 unfold someN
 have := List.length_filter_le (keepN n p) (List.range k)
 rwa [List.length_range] at this
theorem len_121 : ((List.range 121).all fun p => decide ((someN 121 p 121).length = 120)) = true := by decide +kernel
theorem some_121 {p : Nat} (h : p < 121) : (someN 121 p 121).length = 120 := by
 have := List.all_eq_true.1 len_121 p (List.mem_range.2 h)
 simpa using this
theorem some_all {n p k : Nat} (h : 121 < n) : someN n p k = List.range k := by
 unfold someN
 refine List.filter_eq_self.2 fun j _ => ?_
 unfold keepN
 rw [zH h]
 rfl
attribute [local go_sem] max2_int min2_int max_two min_two max_three min_three max_four min_four
set_option linter.unusedSimpArgs false
structure ManyAt (w W : World) (gb gd gm gv gw gt : Nat) (D : DV) (V : VV) (T : TV) : Prop where
 sys : ∃ S M, TxSys w W S M gd gv gt D V T ∧ W.heap[gb]? = some (.cells (bothCells gd gm gv gw) 33 (0, 0)) ∧ ¬ M gb
theorem ManyAt.bel {w W : World} {gb gd gm gv gw gt : Nat} {D : DV} {V : VV} {T : TV} (h : ManyAt w W gb gd gm gv gw gt D V T) : Below w.heap.size w W := by
 obtain ⟨S, M, h1, -⟩ := h.sys
 exact h1.bel
theorem ManyAt.past {w W W' : World} {gb gd gm gv gw gt : Nat} {D : DV} {V : VV} {T : TV} (h : ManyAt w W gb gd gm gv gw gt D V T) (hb : Below W.heap.size W W') : ManyAt w W' gb gd gm gv gw gt D V T := by
 obtain ⟨S, M, h1, h2, h3⟩ := h.sys
 exact ⟨S, M, h1.past hb, blk_below h2 hb, h3⟩
theorem ManyAt.cells {w W : World} {gb gd gm gv gw gt : Nat} {D : DV} {V : VV} {T : TV} (h : ManyAt w W gb gd gm gv gw gt D V T) : W.cell? ⟨gb, 2, none⟩ = some (.pointer (some ⟨gv, 0, none⟩)) := by
 obtain ⟨S, M, h1, h2, h3⟩ := h.sys
 exact (zN h2 2).trans rfl
theorem manyBegin.calls {w W : World} {gb gd gm gv gw gt : Nat} {D : DV} {V : VV} {T : TV} (h : ManyAt w W gb gd gm gv gw gt D V T) (hok : V.Ok) :
  Calls Tryz.prog 12 #[.pointer (some ⟨gv, 0, none⟩)] W fun e w' => ∃ gu, e = .returned (.pointer (some ⟨gu, 0, none⟩)) ∧ ManyAt w w' gb gd gm gv gw gu D { V with began := V.began + 1 } (beginT V) := by
 obtain ⟨S, M, h1, h2, h3⟩ := h.sys
 refine (beginVia.calls h1.toVol hok).mono ?_
 rintro e w' ⟨gu, rfl, -, hx, hv, -⟩
 obtain ⟨b1, b2⟩ := hv.blk h2 h3
 exact ⟨gu, rfl, ⟨S, _, hx, b1, b2⟩⟩
theorem manyWrite.calls {w W : World} {gb gd gm gv gw gt : Nat} {D : DV} {V : VV} {T : TV} (h : ManyAt w W gb gd gm gv gw gt D V T) (hT : T.Ok) (ht : TabsW w) (name s : List UInt8) (hn : name.length ≤ 1000000) (hs : s.length ≤ 1000000000) (hp : D.pend.length < 900000) :
  Calls Tryz.prog 13 #[.pointer (some ⟨gt, 0, none⟩), .string (B name), .string (B s)] W fun e w' => e = .returned (.int .i64 (twriteV V T D name s).1) ∧ ManyAt w w' gb gd gm gv gw gt (twriteV V T D name s).2.2 V (twriteV V T D name s).2.1 := by
 obtain ⟨S, M, h1, h2, h3⟩ := h.sys
 refine (writeVia.calls h1 hT ht name s hn hs hp).mono ?_
 rintro e w' ⟨rfl, S', M', hx, hv, -⟩
 obtain ⟨b1, b2⟩ := hv.blk h2 h3
 exact ⟨rfl, ⟨S', M', hx, b1, b2⟩⟩
theorem manyCommit.calls {w W : World} {gb gd gm gv gw gt : Nat} {D : DV} {V : VV} {T : TV} (h : ManyAt w W gb gd gm gv gw gt D V T) (hT : T.Ok) (hbd : BdL T.l) (ht : TabsW w) (hp : D.pend.length < 800000) (hsl : V.slot = 0 ∨ V.slot = 1) :
  Calls Tryz.prog 14 #[.pointer (some ⟨gt, 0, none⟩)] W fun e w' => e = .returned (.int .i64 (commitV V T D).1) ∧ ManyAt w w' gb gd gm gv gw gt (commitV V T D).2.2.2 (commitV V T D).2.1 (commitV V T D).2.2.1 := by
 obtain ⟨S, M, h1, h2, h3⟩ := h.sys
 refine (commitVia.calls h1 hT hbd ht hp hsl).mono ?_
 rintro e w' ⟨rfl, S', M', hx, hv⟩
 obtain ⟨b1, b2⟩ := hv.blk h2 h3
 exact ⟨rfl, ⟨S', M', hx, b1, b2⟩⟩
theorem manyFiles.calls {w W : World} {gb gd gm gv gw gt : Nat} {D : DV} {V : VV} {T : TV} (h : ManyAt w W gb gd gm gv gw gt D V T) (hl : V.l.length ≤ 1000) (hsp : ∀ f ∈ V.l, f.f2.length ≤ 100000) :
  Calls Tryz.prog 16 #[.pointer (some ⟨gv, 0, none⟩)] W fun e w' => ∃ A' c', e = .returned (.slice A' V.l.length c') ∧ Below W.heap.size W w' := by
 obtain ⟨S, M, h1, h2, h3⟩ := h.sys
 refine (filesVol.calls h1.toVol hl hsp).mono ?_
 rintro e w' ⟨A', c', rfl, -, -, hb⟩
 exact ⟨A', c', rfl, hb⟩
theorem manyRead.calls {w W : World} {gb gd gm gv gw gt : Nat} {D : DV} {V : VV} {T : TV} (h : ManyAt w W gb gd gm gv gw gt D V T) (name : List UInt8) (h64 : ∀ s ∈ D.now, s.size = 64) (hf : (findV (B name) V.l).2 = true → FileOk (findV (B name) V.l).1) :
  Calls Tryz.prog 15 #[.pointer (some ⟨gv, 0, none⟩), .string (B name)] W fun e w' => e = .returned (.tuple #[.string (B (readV V.l D name).1), .int .i64 (readV V.l D name).2]) ∧ Below W.heap.size W w' := by
 obtain ⟨S, M, h1, h2, h3⟩ := h.sys
 exact readVol.calls h1.toVol name h64 hf
def V4 (b : Int) : VV := ⟨[], headF 400, 0, b⟩
def T4 (L : List Nat) (no : Int) : TV := ⟨filesN L, no, [⟨3, ((400 : Nat) : Int) - 3⟩], false⟩
set_option maxHeartbeats 16000000 in
set_option maxRecDepth 100000 in
theorem VolMany_walk (a b : Int) (w : World) (ht : TabsW w) (ha : -9223372036854775808 ≤ a ∧ a < 9223372036854775808) (hb : -9223372036854775808 ≤ b ∧ b < 9223372036854775808) :
  Calls Tryz.prog 4 #[.int .i64 a, .int .i64 b] w fun e w' => e = .returned (.bool true) ∧ Below w.heap.size w w' := by
 obtain ⟨m, hm, hpa⟩ := pick_ev a 25 (by decide) ha.1 ha.2 (by decide)
 obtain ⟨n, hn⟩ : ∃ n, n = 100 + m := ⟨_, rfl⟩
 obtain ⟨p, hp, hpb⟩ := pick_ev b n (by omega) hb.1 hb.2 (by omega)
 have hw : wrap64 (100 + (m : Int)) = (n : Int) := by rw [wrap64_id (by omega) (by omega)]; omega
 have HN := zA (show 100 ≤ n ∧ n < 125 ∧ p < n from ⟨by omega, by omega, hp⟩)
 have HSH := zA (shown.calls w ht)
 have HPA := zA (fun W => rootcellarlaw8_pick.calls a 25 m W hpa)
 have HPB := zA (fun W => rootcellarlaw8_pick.calls b n p W hpb)
 have HBG := zA (fun w1 (hb : Below w.heap.size w w1) => begunAt.calls 400 w (by decide) (by decide) r6_400 ht w1 hb)
 unfold BegTo at HBG
 obtain ⟨-, f2, f3⟩ := format_good (n := 400) (by decide) (by decide)
 rw [fmt400] at HBG
 generalize (formatV (newDV 400)).2 = D0 at HBG f2 f3
 have HD0 := zA (show Good 400 D0 ∧ D0.pend.length < 1000 from ⟨f2, by rw [f3]; decide⟩)
 have HTB := zA ht
 have HV0 := zA (vv400 0 (by decide) (by decide))
 have HV1 := zA (vv400 1 (by decide) (by decide))
 clear hpa hpb hp hn hm ha hb ht f2 f3
 go_enter Tryz.func4, Tryz.ntmps4
 go_wp2_with (first
  | (go_at_call 10; go_loud (refine HSH.out.mono ?_; rintro e w1 ⟨rfl, hb1⟩; have HB1 := zA hb1; clear hb1))
  | (go_at_call 17; go_loud (refine (HPA.out w1).mono ?_; rintro e w2 ⟨rfl, hd⟩; have HB2 := zA (zL HB1.out hd.below); clear hd))
  | (go_at_call 11; go_loud (refine (HBG.out w2 HB2.out).mono ?_; rintro e w3 ⟨gb, gd, gm, gv, gw, S2, M2, rfl, hb, hgb, hnb, hsys⟩; have HK2 := zA (And.intro hb hnb); have HX2 := zA hsys; have kv := (show w3.cell? ⟨gb, 2, none⟩ = some (.pointer (some ⟨gv, 0, none⟩)) from (zN hb 2).trans rfl); clear hb hgb hnb hsys)))
 have HG3 := zA (show Calls Tryz.prog 12 #[.pointer (some ⟨gv, 0, none⟩)] w3 fun e w' => ∃ gt, e = .returned (.pointer (some ⟨gt, 0, none⟩)) ∧ ManyAt w w' gb gd gm gv gw gt D0 (V4 1) (T4 (List.range 0) 1) from by
  have h := beginVia.calls HX2.out HV0.out
  rw [new400 0] at h
  refine h.mono ?_
  rintro e w' ⟨gt, rfl, -, hx, hv, -⟩
  obtain ⟨b1, b2⟩ := hv.blk HK2.out.1 HK2.out.2
  exact ⟨gt, rfl, ⟨_, _, hx, b1, b2⟩⟩)
 clear HBG HSH HPA HB1 HB2 HV0
 go_wp2_with (go_at_call 12; go_loud (refine HG3.out.mono ?_; rintro e w4 ⟨gt, rfl, hx⟩; have HX4 := zA hx; clear hx))
 clear HG3 HX2 HK2 kv
 go_loopg [10] n (fun gg s10 wr => ∃ i : Nat, s10 = .int .i64 i ∧ i ≤ n ∧ n - i ≤ gg ∧ Aside0 (ManyAt w wr gb gd gm gv gw gt D0 (V4 1) (T4 (List.range i) 1)))
 case atStart => exact ⟨0, rfl, Nat.zero_le _, by omega, HX4⟩
 case round =>
  clear HX4
  obtain ⟨i, rfl, hi, hg, HX⟩ := hrel
  by_cases hlt : i < n
  ·have hltz : decide ((i : Int) < (n : Int)) = true := zH (by omega)
   have hi5 : i < 125 := by have := HN.out; omega
   have HNU := zA (rootcellarlaw8_numbered.calls i _ wr (num_f hi5).1)
   have HWR := zA (show ∀ W, Below wr.heap.size wr W → Calls Tryz.prog 13 #[.pointer (some ⟨gt, 0, none⟩), .string (B (numB i)), .string ⟨#[]⟩] W fun e w' => e = .returned (.int .i64 0) ∧ ManyAt w w' gb gd gm gv gw gt D0 (V4 1) (T4 (List.range (i + 1)) 1) from fun W hW => by
    have h := manyWrite.calls (HX.out.past hW) (tx_num (inc_range (by omega)) (by rw [List.length_range]; omega) 1) HTB.out (numB i) [] (show 4 ≤ 1000000 by decide) (Nat.zero_le _) (by have := HD0.out.2; omega)
    rw [show twriteV (V4 1) (T4 (List.range i) 1) D0 (numB i) [] = (0, T4 (List.range i ++ [i]) 1, D0) from write_num (n := 400) (by decide) (by decide) rfl hi5 (fun j hj => List.mem_range.1 hj), ← List.range_succ] at h
    exact h)
   have HGG := zA (And.intro hg hi5)
   clear hg hi5
   go_wp2_with (first
    | (go_at_call 18; go_loud (refine HNU.out.mono ?_; rintro e w5 ⟨rfl, hd⟩; have HB5 := zA hd.below; clear hd))
    | (go_at_call 13; go_loud (refine (HWR.out w5 HB5.out).mono ?_; rintro e w6 ⟨rfl, hx⟩; have HX6 := zA hx; clear hx)))
   go_roundg (n - (i + 1))
   case measure => have := HGG.out; omega
   case rel => exact ⟨i + 1, by rw [idx i (by have := HN.out; omega)], by omega, Nat.le_refl _, HX6⟩
  ·obtain rfl : i = n := by omega
   have hltz : decide ((i : Int) < (i : Int)) = false := zI (by omega)
   by_cases h120 : i ≤ 120
   ·have q1 : decide ((i : Int) ≤ 120) = true := zH (by omega)
    have hinc := inc_range (n := i) (by omega)
    obtain ⟨p1, p2, p3⟩ := put_num hinc (by rw [List.length_range]; exact h120)
    have hnd : needV (putV (filesN (List.range i))).1.length ≤ 19 := by unfold needV; omega
    obtain ⟨D5, h5, fr, c1, c2, c3⟩ := commit_any (n := 400) (V := V4 1) (fs := filesN (List.range i)) (a := 3) HD0.out.1 (by decide) (by decide) rfl (.inl rfl) p1 p2 (by unfold filesN; rw [List.length_map, List.length_range]; exact h120) (by decide) (by omega)
    have HCM := zA (show Calls Tryz.prog 14 #[.pointer (some ⟨gt, 0, none⟩)] wr fun e w' => e = .returned (.int .i64 0) ∧ ∃ V5 T5, V5.l = filesN (List.range i) ∧ ManyAt w w' gb gd gm gv gw gt D5 V5 T5 from by
     have h := manyCommit.calls HX.out (tx_num hinc (by rw [List.length_range]; omega) 1) (bd_num hinc (by rw [List.length_range]; omega)) HTB.out (by have := HD0.out.2; omega) (.inl rfl)
     rw [show commitV (V4 1) (T4 (List.range i) 1) D0 = _ from c1] at h
     refine h.mono ?_
     rintro e w' ⟨rfl, hx⟩
     exact ⟨rfl, _, _, rfl, hx⟩)
    have HD5 := zA c2.all
    have HINC := zA hinc
    clear p1 p2 p3 hnd c1 c2 c3 hinc
    go_wp2_with (go_at_call 14; go_loud (refine HCM.out.mono ?_; rintro e w7 ⟨rfl, V5, T5, hv5, hx⟩; have HV5 := zA hv5; have HX7 := zA hx; clear hx hv5))
    have kv := HX7.out.cells
    have HRD := zA (show ∀ W, Below w7.heap.size w7 W → Calls Tryz.prog 15 #[.pointer (some ⟨gv, 0, none⟩), .string (B (numB p))] W fun e w' => e = .returned (.tuple #[.string (B []), .int .i64 0]) ∧ Below W.heap.size W w' from fun W hW => by
     obtain ⟨r1, r2⟩ := read_num HINC.out (List.mem_range.2 HN.out.2.2) D5
     have h := manyRead.calls (HX7.out.past hW) (numB p) HD5.out (by rw [HV5.out, r1]; exact fun _ => file_num p)
     rw [HV5.out, r2] at h
     exact h)
    have HNP := zA (fun W => rootcellarlaw8_numbered.calls p _ W (num_f (show p < 125 by have := HN.out; omega)).1)
    have HKEEP := zA (show ∀ W : World, Below w7.heap.size w7 W → W.cell? ⟨gb, 2, none⟩ = some (.pointer (some ⟨gv, 0, none⟩)) ∧ True from fun W hW => ⟨(hW.cell (zB w7 _ kv)).trans kv, trivial⟩)
    have HBd := zA (zK (Below.refl w7.heap.size w7))
    clear HCM HX
    go_region_held3 (fun w' => w'.cell? ⟨gb, 2, none⟩ = some (.pointer (some ⟨gv, 0, none⟩)) ∧ True) (exact HKEEP.out _ HBd.out) (first
     | (go_at_call 17; go_loud (refine (HPB.out _).mono ?_; rintro ex wk ⟨rfl, hd⟩; have HBd := zA (zL HBd.out hd.below); clear hd))
     | (go_at_call 18; go_loud (refine (HNP.out _).mono ?_; rintro ex wk ⟨rfl, hd⟩; have HBd := zA (zL HBd.out hd.below); clear hd))
     | (go_at_call 15; go_loud (refine (HRD.out _ HBd.out).mono ?_; rintro ex wk ⟨rfl, hd⟩; have HBd := zA (zL HBd.out hd); clear hd)))
    (try simp only [Exit.then])
    have kv2 := (HKEEP.out _ HBd.out).1
    have HFL := zA (show ∀ W, Below w7.heap.size w7 W → Calls Tryz.prog 16 #[.pointer (some ⟨gv, 0, none⟩)] W fun e w' => ∃ A' c', e = .returned (.slice A' i c') ∧ Below w7.heap.size w7 w' from fun W hW => by
     have hl : V5.l.length = i := by rw [HV5.out]; unfold filesN; rw [List.length_map, List.length_range]
     have h := manyFiles.calls (HX7.out.past hW) (by omega) (fun f hf => by
      rw [HV5.out] at hf
      obtain ⟨j, hj, rfl⟩ := List.mem_map.1 hf
      exact Nat.zero_le _)
     rw [hl] at h
     refine h.mono ?_
     rintro e w' ⟨A', c', rfl, hb⟩
     exact ⟨A', c', rfl, zL hW hb⟩)
    clear kv
    go_wp2_with (go_at_call 16; go_loud (refine (HFL.out _ HBd.out).mono ?_; rintro e w9 ⟨A', c', rfl, hb⟩; have HB9 := zA hb; clear hb))
    go_ret
    exact ⟨rfl, below_then HX7.out.bel (below_size HX7.out.bel) HB9.out⟩
   ·have q1 : decide ((i : Int) ≤ 120) = false := zI (by omega)
    have HI := zA (show 120 < i ∧ i < 125 ∧ p < i from ⟨by omega, HN.out.2.1, HN.out.2.2⟩)
    have hi125 := HI.out.2.1
    have hfl : 120 < (filesN (List.range i)).length := by unfold filesN; rw [List.length_map, List.length_range]; omega
    have HCM := zA (show Calls Tryz.prog 14 #[.pointer (some ⟨gt, 0, none⟩)] wr fun e w' => e = .returned (.int .i64 3) ∧ ∃ T5, ManyAt w w' gb gd gm gv gw gt D0 (V4 1) T5 from by
     have h := manyCommit.calls HX.out (tx_num (inc_range (by omega)) (by rw [List.length_range]; omega) 1) (bd_num (inc_range (by omega)) (by rw [List.length_range]; omega)) HTB.out (by have := HD0.out.2; omega) (.inl rfl)
     rw [show commitV (V4 1) (T4 (List.range i) 1) D0 = _ from commit_long hfl] at h
     refine h.mono ?_
     rintro e w' ⟨rfl, hx⟩
     exact ⟨rfl, _, hx⟩)
    clear hfl hi125
    go_wp2_with (go_at_call 14; go_loud (refine HCM.out.mono ?_; rintro e w7 ⟨rfl, T5, hx⟩; have HX7 := zA hx; have kv := hx.cells; clear hx))
    have HBN := zA (show Calls Tryz.prog 12 #[.pointer (some ⟨gv, 0, none⟩)] w7 fun e w' => ∃ gu, e = .returned (.pointer (some ⟨gu, 0, none⟩)) ∧ ManyAt w w' gb gd gm gv gw gu D0 (V4 2) (T4 (someN i p 0) 2) from by
     have h := manyBegin.calls HX7.out HV1.out
     rw [show beginT (V4 1) = _ from new400 1] at h
     exact h)
    clear HCM HX
    go_wp2_with (go_at_call 12; go_loud (refine HBN.out.mono ?_; rintro e w8 ⟨gu, rfl, hx⟩; have HX8 := zA hx; have kv8 := hx.cells; clear hx))
    have HF8 := zA (show Calls Tryz.prog 16 #[.pointer (some ⟨gv, 0, none⟩)] w8 fun e w' => ∃ A' c', e = .returned (.slice A' 0 c') ∧ Below w8.heap.size w8 w' from manyFiles.calls HX8.out (Nat.zero_le _) fun f hf => nomatch hf)
    clear HBN HX7 kv
    go_wp2_with (go_at_call 16; go_loud (refine HF8.out.mono ?_; rintro e w9 ⟨A', c', rfl, hb⟩; have HX9 := zA (HX8.out.past hb); clear hb))
    clear HF8 HX8 kv8
    go_loopg [12] i (fun gg s12 wr => ∃ k : Nat, s12 = .int .i64 k ∧ k ≤ i ∧ i - k ≤ gg ∧ Aside0 (ManyAt w wr gb gd gm gv gw gu D0 (V4 2) (T4 (someN i p k) 2)))
    case atStart => exact ⟨0, rfl, Nat.zero_le _, by omega, HX9⟩
    case round =>
     clear HX9
     obtain ⟨k, rfl, hk, hgk, HX⟩ := hrel
     by_cases hlk : k < i
     ·have hlkz : decide ((k : Int) < (i : Int)) = true := zH (by omega)
      have hk5 : k < 125 := by have := HI.out; omega
      have HNU := zA (fun W => rootcellarlaw8_numbered.calls k _ W (num_f hk5).1)
      have HGG := zA hgk
      clear hgk
      by_cases hkp : k = p
      ·have r1 : ((k : Int) != (p : Int)) = false := bne_eq_false_iff_eq.mpr (by omega)
       by_cases h121 : 121 < i
       ·have r2 : decide (121 < (i : Int)) = true := zH (by omega)
        have HKP := zA (show keepN i p k = true from by unfold keepN; rw [zH h121]; rfl)
        have HWR := zA (show ∀ W, Below wr.heap.size wr W → Calls Tryz.prog 13 #[.pointer (some ⟨gu, 0, none⟩), .string (B (numB k)), .string ⟨#[]⟩] W fun e w' => e = .returned (.int .i64 0) ∧ ManyAt w w' gb gd gm gv gw gu D0 (V4 2) (T4 (someN i p (k + 1)) 2) from fun W hW => by
         have h := manyWrite.calls (HX.out.past hW) (tx_num (some_inc (n := i) (p := p) (Nat.le_of_lt hk5)) (Nat.le_trans some_len (Nat.le_of_lt (Nat.lt_trans hk5 (by decide)))) 2) HTB.out (numB k) [] (show 4 ≤ 1000000 by decide) (Nat.zero_le _) (by have := HD0.out.2; omega)
         rw [show twriteV (V4 2) (T4 (someN i p k) 2) D0 (numB k) [] = (0, T4 (someN i p k ++ [k]) 2, D0) from write_num (n := 400) (by decide) (by decide) rfl hk5 (fun j hj => some_lt hj)] at h
         rw [some_succ, if_pos HKP.out]
         exact h)
        clear hkp h121 hk5
        go_wp2_with (first
         | (go_at_call 17; go_loud (refine (HPB.out wr).mono ?_; rintro e w4 ⟨rfl, hd⟩; have HB4 := zA hd.below; clear hd))
         | (go_at_call 18; go_loud (refine (HNU.out w4).mono ?_; rintro e w5 ⟨rfl, hd⟩; have HB5 := zA (zL HB4.out hd.below); clear hd))
         | (go_at_call 13; go_loud (refine (HWR.out w5 HB5.out).mono ?_; rintro e w6 ⟨rfl, hx⟩; have HX6 := zA hx; clear hx)))
        go_roundg (i - (k + 1))
        case measure => have := HGG.out; omega
        case rel => exact ⟨k + 1, by rw [idx k (by have := HN.out; omega)], by omega, Nat.le_refl _, HX6⟩
       ·have r2 : decide (121 < (i : Int)) = false := zI (by omega)
        have HX6 := zA (show someN i p (k + 1) = someN i p k from by rw [some_succ, if_neg (by unfold keepN; rw [zI h121, zI (fun h => h hkp)]; decide)])
        clear hkp h121 hk5
        go_wp2_with (first
         | (go_at_call 17; go_loud (refine (HPB.out wr).mono ?_; rintro e w4 ⟨rfl, hd⟩; have HB4 := zA hd.below; clear hd)))
        go_roundg (i - (k + 1))
        case measure => have := HGG.out; omega
        case rel => exact ⟨k + 1, by rw [idx k (by have := HN.out; omega)], by omega, Nat.le_refl _, ⟨by rw [HX6.out]; exact HX.out.past HB4.out⟩⟩
      ·have r1 : ((k : Int) != (p : Int)) = true := bne_iff_ne.mpr (by omega)
       have HKP := zA (show keepN i p k = true from by unfold keepN; rw [zH hkp, Bool.or_true])
       have HWR := zA (show ∀ W, Below wr.heap.size wr W → Calls Tryz.prog 13 #[.pointer (some ⟨gu, 0, none⟩), .string (B (numB k)), .string ⟨#[]⟩] W fun e w' => e = .returned (.int .i64 0) ∧ ManyAt w w' gb gd gm gv gw gu D0 (V4 2) (T4 (someN i p (k + 1)) 2) from fun W hW => by
        have h := manyWrite.calls (HX.out.past hW) (tx_num (some_inc (n := i) (p := p) (Nat.le_of_lt hk5)) (Nat.le_trans some_len (Nat.le_of_lt (Nat.lt_trans hk5 (by decide)))) 2) HTB.out (numB k) [] (show 4 ≤ 1000000 by decide) (Nat.zero_le _) (by have := HD0.out.2; omega)
        rw [show twriteV (V4 2) (T4 (someN i p k) 2) D0 (numB k) [] = (0, T4 (someN i p k ++ [k]) 2, D0) from write_num (n := 400) (by decide) (by decide) rfl hk5 (fun j hj => some_lt hj)] at h
        rw [some_succ, if_pos HKP.out]
        exact h)
       clear hkp hk5
       go_wp2_with (first
        | (go_at_call 17; go_loud (refine (HPB.out wr).mono ?_; rintro e w4 ⟨rfl, hd⟩; have HB4 := zA hd.below; clear hd))
        | (go_at_call 18; go_loud (refine (HNU.out w4).mono ?_; rintro e w5 ⟨rfl, hd⟩; have HB5 := zA (zL HB4.out hd.below); clear hd))
        | (go_at_call 13; go_loud (refine (HWR.out w5 HB5.out).mono ?_; rintro e w6 ⟨rfl, hx⟩; have HX6 := zA hx; clear hx)))
       go_roundg (i - (k + 1))
       case measure => have := HGG.out; omega
       case rel => exact ⟨k + 1, by rw [idx k (by have := HN.out; omega)], by omega, Nat.le_refl _, HX6⟩
     ·obtain rfl : k = i := by omega
      have hlkz : decide ((k : Int) < (k : Int)) = false := zI (by omega)
      by_cases h121 : 121 < k
      ·have r2 : decide (121 < (k : Int)) = true := zH (by omega)
       have r3 : ((k : Int) == 121) = false := beq_eq_false_iff_ne.mpr (by omega)
       have hinc := some_inc (n := k) (p := p) (Nat.le_of_lt HI.out.2.1)
       have hln : (someN k p k).length ≤ 1000 := Nat.le_trans some_len (Nat.le_of_lt (Nat.lt_trans HI.out.2.1 (by decide)))
       have hfl : 120 < (filesN (someN k p k)).length := by rw [some_all h121]; unfold filesN; rw [List.length_map, List.length_range]; omega
       have HCM := zA (show Calls Tryz.prog 14 #[.pointer (some ⟨gu, 0, none⟩)] wr fun e w' => e = .returned (.int .i64 3) ∧ ∃ T5, ManyAt w w' gb gd gm gv gw gu D0 (V4 2) T5 from by
        have h := manyCommit.calls HX.out (tx_num hinc hln 2) (bd_num hinc hln) HTB.out (by have := HD0.out.2; omega) (.inl rfl)
        rw [show commitV (V4 2) (T4 (someN k p k) 2) D0 = _ from commit_long hfl] at h
        refine h.mono ?_
        rintro e w' ⟨rfl, hx⟩
        exact ⟨rfl, _, hx⟩)
       clear hfl h121 hinc hln
       go_wp2_with (go_at_call 14; go_loud (refine HCM.out.mono ?_; rintro e w7 ⟨rfl, T5, hx⟩; have HX7 := zA hx; have kv := hx.cells; clear hx))
       have HF8 := zA (show Calls Tryz.prog 16 #[.pointer (some ⟨gv, 0, none⟩)] w7 fun e w' => ∃ A' c', e = .returned (.slice A' 0 c') ∧ Below w7.heap.size w7 w' from manyFiles.calls HX7.out (Nat.zero_le _) fun f hf => nomatch hf)
       go_wp2_with (go_at_call 16; go_loud (refine HF8.out.mono ?_; rintro e w8 ⟨A2, c2, rfl, hb⟩; have HB8 := zA hb; clear hb))
       go_ret
       exact ⟨rfl, below_then HX7.out.bel (below_size HX7.out.bel) HB8.out⟩
      ·obtain rfl : k = 121 := by have := HI.out.1; omega
       have hinc := some_inc (n := 121) (p := p) (k := 121) (by decide)
       have hl120 := some_121 HI.out.2.2
       obtain ⟨p1, p2, p3⟩ := put_num hinc (by rw [hl120]; decide)
       have hnd : needV (putV (filesN (someN 121 p 121))).1.length ≤ 19 := by unfold needV; omega
       obtain ⟨D5, h5, fr, c1, c2, c3⟩ := commit_any (n := 400) (V := V4 2) (fs := filesN (someN 121 p 121)) (a := 3) HD0.out.1 (by decide) (by decide) rfl (.inl rfl) p1 p2 (by unfold filesN; rw [List.length_map, hl120]; decide) (by decide) (by omega)
       have HCM := zA (show Calls Tryz.prog 14 #[.pointer (some ⟨gu, 0, none⟩)] wr fun e w' => e = .returned (.int .i64 0) ∧ ∃ V5 T5, V5.l = filesN (someN 121 p 121) ∧ ManyAt w w' gb gd gm gv gw gu D5 V5 T5 from by
        have h := manyCommit.calls HX.out (tx_num hinc (by rw [hl120]; decide) 2) (bd_num hinc (by rw [hl120]; decide)) HTB.out (by have := HD0.out.2; omega) (.inl rfl)
        rw [show commitV (V4 2) (T4 (someN 121 p 121) 2) D0 = _ from c1] at h
        refine h.mono ?_
        rintro e w' ⟨rfl, hx⟩
        exact ⟨rfl, _, _, rfl, hx⟩)
       have HL := zA hl120
       clear p1 p2 p3 hnd c1 c2 c3 hinc h121 hl120
       go_wp2_with (go_at_call 14; go_loud (refine HCM.out.mono ?_; rintro e w7 ⟨rfl, V5, T5, hv5, hx⟩; have HV5 := zA hv5; have HX7 := zA hx; have kv := hx.cells; clear hx hv5))
       have HF8 := zA (show Calls Tryz.prog 16 #[.pointer (some ⟨gv, 0, none⟩)] w7 fun e w' => ∃ A' c', e = .returned (.slice A' 120 c') ∧ Below w7.heap.size w7 w' from by
        have hl : V5.l.length = 120 := by rw [HV5.out]; unfold filesN; rw [List.length_map, HL.out]
        have h := manyFiles.calls HX7.out (by omega) (fun f hf => by
         rw [HV5.out] at hf
         obtain ⟨j, hj, rfl⟩ := List.mem_map.1 hf
         exact Nat.zero_le _)
        rwa [hl] at h)
       go_wp2_with (go_at_call 16; go_loud (refine HF8.out.mono ?_; rintro e w8 ⟨A2, c2, rfl, hb⟩; have HB8 := zA hb; clear hb))
       go_ret
       exact ⟨rfl, below_then HX7.out.bel (below_size HX7.out.bel) HB8.out⟩
end Go.Proofs.YtcclaidbikjhiaaGreatDoor.PVo
