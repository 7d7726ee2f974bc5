import Derived.Test.YtcclaidbikjhiaaGreatDoorPureVhp
import Derived.Test.YtcclaidbikjhiaaGreatDoorPureVi
import Derived.Test.YtcclaidbikjhiaaGreatDoorPVox9
import Derived.Deep.RegionHeld3
import Derived.StillTailTactics
import Derived.Lib.LazyBuf
import Derived.Laws.IdiomStrings
import Derived.Test.YtcclaidbikjhiaaGreatDoorPVox21
import Derived.Test.YtcclaidbikjhiaaGreatDoorPVox25
import Derived.Test.YtcclaidbikjhiaaGreatDoorPVox18
import Derived.Test.YtcclaidbikjhiaaGreatDoorPureDr
import Derived.Test.YtcclaidbikjhiaaGreatDoorPureVln
import Derived.Test.YtcclaidbikjhiaaGreatDoorPureVly
import Derived.Test.YtcclaidbikjhiaaGreatDoorPVox48
import Derived.Test.YtcclaidbikjhiaaGreatDoorPVox47
import Derived.Deep.QuietTactic
import Derived.BigQuiet
--compressed
namespace Go.Proofs.YtcclaidbikjhiaaGreatDoor.PVo
open Go.RowKit Go.Proofs.YtcclaidbikjhiaaGreatDoorW.PrintWords Go.Proofs.YtcclaidbikjhiaaGreatDoorW.PrintLast Go.Proofs.YtcclaidbikjhiaaGreatDoorW.PrintMore
attribute [local go_sem] max2_int min2_int max_two min_two max_three min_three max_four min_four
set_option linter.unusedVariables false
set_option linter.unusedSimpArgs false
theorem blank_f : rootcellarref4_blank.f = some blank := by
 unfold rootcellarref4_blank.f
 rw [if_pos (by decide)]
 rfl
set_option maxHeartbeats 4000000 in
set_option maxRecDepth 100000 in
theorem rnew.calls (n : Nat) (h1 : 1 ≤ n) (h2 : n ≤ 8192) (w0 w : World) (hB : Below w0.heap.size w0 w) :
  Calls Tryz.prog 40 #[.int .i64 n] w fun e w' => ∃ (g : Nat) (S : Nat → Prop), e = .returned (.tuple #[.pointer (some ⟨g, 0, none⟩), .int .i64 0]) ∧ RefAt w0 w' S g (newDV n) ∧ (∀ k, S k → w.heap.size ≤ k) ∧ Below w.heap.size w w' := by
 have hn0b : decide ((n : Int) < 1) = false := zI (by omega)
 have hn1b : decide ((n : Int) > 8192) = false := zI (by omega)
 have hn1c : decide (8192 < (n : Int)) = false := zI (by omega)
 have HBL := zA (fun W => rootcellarref4_blank.calls blank W blank_f)
 have HB := zA hB
 have H12 := zA (And.intro h1 h2)
 have hu := Tryz.underlying127
 have hblk := blk_new w (.cells #[.slice none 0 0, .slice none 0 0, .slice none 0 0, .int .i64 (-1), .bool false] 127)
 have HBK := zA hblk
 have HBA := zA (zJ (Below.refl w.heap.size w) (.cells #[.slice none 0 0, .slice none 0 0, .slice none 0 0, .int .i64 (-1), .bool false] 127))
 clear hB h1 h2 hblk
 go_enter Tryz.func40, Tryz.ntmps40
 go_wp2
 go_loopg [5] n (fun gg s5 wr => ∃ (i : Nat) (v : Value), s5 = .int .i64 i ∧ i ≤ n ∧ n - i ≤ gg ∧ Aside0 (wr.heap[w.heap.size]? = some (.cells #[v, .slice none 0 0, .slice none 0 0, .int .i64 (-1), .bool false] 127 (0, 0))) ∧ Aside0 (wr.ownsRow w.heap.size 9 1 v i (List.replicate i (.string blank))) ∧ Aside0 (Below w.heap.size w wr))
 case atStart => exact ⟨0, .slice none 0 0, rfl, Nat.zero_le _, by omega, HBK, ⟨⟨rfl, .inl ⟨rfl, rfl⟩⟩⟩, HBA⟩
 case round =>
  obtain ⟨i, v, rfl, hi, hg, HK, HO, HW⟩ := hrel
  by_cases hlt : i < n
  ·have hltz : decide ((i : Int) < (n : Int)) = true := zH (by omega)
   obtain ⟨A, c, rfl⟩ := own_shape HO.out
   have hszr : w.heap.size ≤ wr.heap.size := Nat.le_of_lt (blk_lt HK.out)
   have k0 := (show wr.cell? ⟨w.heap.size, 0, none⟩ = some (.slice A i c) from (zN HK.out 0).trans rfl)
   have f0 := zM HK.out 0
   have HKEEP := zA (show ∀ W, Below wr.heap.size wr W → W.cell? ⟨w.heap.size, 0, none⟩ = some (.slice A i c) ∧ W.frozen? ⟨w.heap.size, 0, none⟩ = false ∧ True from fun W hW => ⟨(zN (blk_below HK.out hW) 0).trans rfl, zM (blk_below HK.out hW) 0, trivial⟩)
   have HBd := zA (zK (Below.refl wr.heap.size wr))
   have HOW := zA (show ∀ W, Below wr.heap.size wr W → W.ownsRow w.heap.size 9 1 (.slice A i c) i (List.replicate i (.string blank)) ∧ w.heap.size ≤ W.heap.size ∧ W.heap[w.heap.size]? = some (.cells #[.slice A i c, .slice none 0 0, .slice none 0 0, .int .i64 (-1), .bool false] 127 (0, 0)) from fun W hW => ⟨pw_own_below HO.out hW, Nat.le_trans hszr hW.size, blk_below HK.out hW⟩)
   have HNE := zA (row_ne HO.out HK.out (by decide))
   have HBW := zA (show ∀ W, Below wr.heap.size wr W → Below w.heap.size w W from fun W hW => HW.out.trans (hW.mono (below_size HW.out)))
   have hi2 : i < 8192 := by have := H12.out; omega
   clear hszr
   go_wp2
   go_region_law (first
    | (refine step_append_cells (w0 := w) w.heap.size (by simp [Region.wanted]) (.tmp 23) (.tmp 25) 60 9 (.string (⟨#[]⟩ : ByteArray)) 1 16 rfl Tryz.underlying60 infoStr rfl (by decide) (by decide) (.slice A i c) i (List.replicate i (.string blank)) [.string blank] (by simp [Act.eval, Act.put]) (by simp [Act.eval, Act.put]) rfl (by simp [Value.oneCell']) (HOW.out _ HBd.out).1 (HBW.out _ HBd.out) (HOW.out _ HBd.out).2.1 (by have := H12.out; omega) ?_; intro v1 w1 hown hbel hgrow hat; obtain ⟨gq, cq, rfl⟩ := own_slice hown (Nat.succ_pos _); have hk1 := blk_grown (HOW.out _ HBd.out).2.2 hgrow (Ne.symm HNE.out); have kf1 := (zN hk1 0).trans rfl; have kf2 := zM hk1 0; have HOWN := zA hown; have HBEL := zA hbel; have HK1 := zA hk1; have HAT := zA hat; clear hown hbel hgrow hat hk1)
    | (go_simp; go_at_call 94; go_loud (refine (HBL.out _).mono ?_; rintro ex wk ⟨rfl, hd⟩; have HBd := zA (zL HBd.out hd); have kk := (HKEEP.out _ HBd.out).1; have kk2 := Lib.cell?_alloc_some (.cells #[.string blank] 9) kk; clear hd)))
   all_goals
    go_wp2
    go_roundg (n - (i + 1))
    case measure => omega
    case rel =>
     refine ⟨i + 1, _, by go_num, by omega, Nat.le_refl _, ⟨by simpa using blk_set HK1.out 0 _⟩, ⟨?_⟩, ⟨below_set HBEL.out (Nat.le_refl _)⟩⟩
     rw [List.replicate_succ']
     exact ownsRow_setCell_other HOWN.out (row_ne HOWN.out HK1.out (by decide)) _
  ·have hltz : decide ((i : Int) < (n : Int)) = false := zI (by omega)
   obtain rfl : i = n := by omega
   obtain ⟨gn, cn, rfl⟩ := own_slice HO.out (by have := H12.out; omega)
   have k0 := (show wr.cell? ⟨w.heap.size, 0, none⟩ = some (.slice (some ⟨gn, 0, none⟩) i cn) from (zN HK.out 0).trans rfl)
   have k0a := Lib.cell?_alloc_some (.cells #[] 9) k0
   obtain ⟨i0, hi0, hzz⟩ := Option.map_eq_some_iff.1 infoStr
   simp only [Prod.mk.injEq] at hzz
   obtain ⟨hz0, hz1, hz2⟩ := hzz
   have HCELL := zA (show ∀ j u, (List.replicate i (Value.string blank))[j]? = some u → (wr.alloc (.cells #[] 9)).cell? ((⟨gn, 0, none⟩ : Addr).add j) = some u from fun j u hj => by rw [Addr.add_lit, Nat.zero_add]; exact Lib.cell?_alloc_some _ (row_get HO.out rfl hj))
   have HBW := zA (below_size HW.out)
   clear hltz hi hg
   go_wp2_with (at_builtin; go_loud (refine wpList_append_own_at _ rfl (.tmp 30) (.tmp 34) 60 rfl w.heap.size 9 i0 _ 1 _ Tryz.underlying60 hi0 hz0 hz1 hz2 rfl (by decide) _ 0 [] rfl (World.ownsRow_made wr #[] 0 HBW.out (Nat.zero_le _) (by simp)) ⟨gn, 0, none⟩ i cn (List.replicate i (.string blank)) rfl ?qc1 HCELL.out ?qc3 ?qc4 ?qc5 ?qc6 ?_); (case qc1 => simp); (case qc3 => (intro u hu; rw [List.eq_of_mem_replicate hu]; rfl)); (case qc4 => (have := H12.out; unfold maxLen; omega)); (case qc5 => (have := H12.out; omega)); (case qc6 => (have := HBW.out; simp; omega)); go_loud (intro v4 w4 ho4 hg4 hnil4 hat4; rw [Nat.zero_add, List.nil_append] at ho4; obtain ⟨g4, c4c, rfl⟩ := own_slice ho4 (by have := H12.out; omega); have hk4 : Kept wr w4 (fun _ => False) := Kept.of_grown hg4 ((Kept.refl wr _).alloc _) (fun k hk => .inr (Nat.le_of_eq (Option.some.inj hk))); have hn4 : wr.heap.size ≤ g4 := (by rcases hat4 with h | h <;> (have hk' := Option.some.inj h; first | omega | (simp at hk'; omega))); have hb4 := (hk4.2 w.heap.size (blk_lt HK.out) (fun h => h)).trans HK.out; have c41 := (show w4.cell? ⟨w.heap.size, 1, none⟩ = some (.slice none 0 0) from (zN hb4 1).trans rfl); have f41 := zM hb4 1; have H4 := zA (And.intro ho4 (And.intro hk4 (And.intro hn4 hb4))); have HB4 := zA ((HW.out.alloc HBW.out (.cells #[] 9)).grown hg4 (by have := HBW.out; simp; omega) (fun k hk => Nat.le_trans HBW.out (Nat.le_of_eq (Option.some.inj hk)))); clear ho4 hk4 hn4 hb4 hg4 hnil4 hat4))
   go_ret2
   obtain ⟨ho4, hk4, hn4, hb4⟩ := H4.out
   have hsw := below_size HB.out
   have hgn := own_base HO.out gn rfl
   obtain ⟨cur, hcur⟩ := row_block HO.out (k := gn) rfl
   have hgl := blk_lt hcur
   obtain ⟨cu4, hcu4⟩ := row_block ho4 (k := g4) rfl
   have hg4l := blk_lt hcu4
   have hon := row_kept HO.out (w' := w4) fun k hk => hk4.2 k (by cases hk; exact hgl) (fun h => h)
   have hdl : (newDV i).now.map Value.string = List.replicate i (.string blank) := by simp [newDV]
   have hd2 : (newDV i).last.map Value.string = List.replicate i (.string blank) := by simp [newDV]
   have hl1 : (newDV i).now.length = i := by simp [newDV]
   have hl2 : (newDV i).last.length = i := by simp [newDV]
   have hgd := blk_lt hb4
   have hz : (w4.setCell ⟨w.heap.size, 1, none⟩ (.slice (some ⟨g4, 0, none⟩) i c4c)).heap.size = w4.heap.size := by simp [World.setCell]
   refine ⟨w.heap.size, fun k => k = w.heap.size ∨ k = gn ∨ k = g4, rfl, ⟨.slice (some ⟨gn, 0, none⟩) i cn, .slice (some ⟨g4, 0, none⟩) i c4c, .slice none 0 0, ⟨newDV_ok H12.out.1 H12.out.2, by simpa [newDV] using blk_set hb4 1 (.slice (some ⟨g4, 0, none⟩) i c4c), .inl rfl, fun k hk => ?_, ?_, ?_, ⟨rfl, .inl ⟨rfl, rfl⟩⟩, fun k hk => ?_, fun k hk => ?_, fun k hk => by simp [Value.ownBlock] at hk, fun he => ?_⟩⟩, fun k hk => ?_, below_set HB4.out (Nat.le_refl _)⟩
   ·rw [hz]
    have := hk4.1
    rcases hk with rfl | rfl | rfl
    ·exact ⟨hsw, hgd⟩
    ·exact ⟨by omega, by omega⟩
    ·exact ⟨by omega, hg4l⟩
   ·rw [hdl, hl1]
    exact own_weaken (ownsRow_setCell_other hon (row_ne hon hb4 (by decide)) _) hsw
   ·rw [hd2, hl2]
    exact own_weaken (ownsRow_setCell_other ho4 (row_ne ho4 hb4 (by decide)) _) hsw
   ·cases hk; exact .inr (.inl rfl)
   ·cases hk; exact .inr (.inr rfl)
   ·cases he; omega
   ·rcases hk with rfl | rfl | rfl
    ·exact Nat.le_refl _
    ·exact hgn
    ·have := hk4.1; have := HBW.out; omega
open Go.RowKit Go.Proofs.YtcclaidbikjhiaaGreatDoorW.PrintWords Go.Proofs.YtcclaidbikjhiaaGreatDoorW.PrintLast Go.Proofs.YtcclaidbikjhiaaGreatDoorW.PrintMore Go.Proofs.YtcclaidbikjhiaaGreatDoor.Th
structure RrI (w0 w wr : World) (S : Nat → Prop) (g : Nat) (R : Int × DV) (rest : List Int) (t : List UInt8) (M : Nat) (X : Nat → Prop) : Prop where
 ex : ∃ (S' : Nat → Prop) (D' : DV), RefAt w0 wr S' g D' ∧ (∀ k, S k → S' k) ∧ (∀ k, S' k → S k ∨ w.heap.size ≤ k) ∧ writes (zipL rest t) D' = R ∧ D'.pend.length + rest.length ≤ M ∧ ∀ k, X k → ¬ S' k
 len : t.length = 64 * rest.length
 bel : Below w0.heap.size w0 wr
 kept : Kept w wr S
 xs : ∀ k, X k → k < wr.heap.size
theorem RefAt.sb {w0 W : World} {S : Nat → Prop} {g : Nat} {D : DV} (h : RefAt w0 W S g D) : ∀ k, S k → w0.heap.size ≤ k ∧ k < W.heap.size := by
 obtain ⟨vn, vl, vp, h⟩ := h
 exact h.sb
theorem RrI.step {w0 w wr w' : World} {S S' X : Nat → Prop} {g M : Nat} {R : Int × DV} {a : Int} {rest : List Int} {t : List UInt8} {D' : DV} (hS : ∀ k, S k → S' k) (hS' : ∀ k, S' k → S k ∨ w.heap.size ≤ k) (hR : writes (zipL (a :: rest) t) D' = R) (hp : D'.pend.length + (a :: rest).length ≤ M) (hl : t.length = 64 * (a :: rest).length) (hk : Kept w wr S) (hX : ∀ k, X k → ¬ S' k) (hxs : ∀ k, X k → k < wr.heap.size) (h : RefGrew w0 wr w' S' g (D'.write a (B (t.take 64))).2) (h0 : (D'.write a (B (t.take 64))).1 = 0) : RrI w0 w w' S g R rest (t.drop 64) M X := by
 obtain ⟨S2, hd, h1, h2, hb, hk2⟩ := h
 have hsz := hk.1
 refine ⟨⟨S2, _, hd, fun k q => h1 k (hS k q), fun k q => ?_, ?_, ?_, fun k q q2 => ?_⟩, ?_, hb, kept_of hk hk2 hS', fun k q => Nat.lt_of_lt_of_le (hxs k q) hk2.1⟩
 ·rcases h2 k q with q | q
  ·exact hS' k q
  ·exact .inr (Nat.le_trans hsz q)
 ·unfold zipL writes at hR
  rw [if_pos h0] at hR
  exact hR
 ·have : (D'.write a (B (t.take 64))).2.pend.length ≤ D'.pend.length + 1 := by
   unfold DV.write
   repeat' split
   all_goals first
    | (simp only [spend_pend, DV.wrote, zO, List.length_cons, List.length_nil]; omega)
    | omega
  rw [List.length_cons] at hp
  omega
 ·rcases h2 k q2 with q2 | q2
  ·exact hX k q q2
  ·have := hxs k q; omega
 ·rw [List.length_cons] at hl
  rw [List.length_drop]
  omega
theorem RrI.past {w0 w wr w' : World} {S X : Nat → Prop} {g M : Nat} {R : Int × DV} {rest : List Int} {t : List UInt8} (h : RrI w0 w wr S g R rest t M X) (hb : Below wr.heap.size wr w') : RrI w0 w w' S g R rest t M X := by
 obtain ⟨S', D', hd, h1, h2, h3, h4, h5⟩ := h.ex
 exact ⟨⟨S', D', hd.kept (zP hb fun _ => False) fun _ _ h => h, h1, h2, h3, h4, h5⟩, h.len, below_then h.bel (below_size h.bel) hb, kept_of h.kept (zP hb fun _ => False) fun _ h => h.elim, fun k q => Nat.lt_of_lt_of_le (h.xs k q) hb.size⟩
theorem RrI.mark {w0 w wr w' : World} {S X : Nat → Prop} {g M : Nat} {R : Int × DV} {rest : List Int} {t : List UInt8} (h : RrI w0 w wr S g R rest t M X) (hb : Below wr.heap.size wr w') (hs : wr.heap.size < w'.heap.size) : RrI w0 w w' S g R rest t M (· = wr.heap.size) := by
 have h' := h.past hb
 obtain ⟨S', D', hd, h1, h2, h3, h4, h5⟩ := h.ex
 exact ⟨⟨S', D', hd.kept (zP hb fun _ => False) fun _ _ h => h, h1, h2, h3, h4, fun k q q2 => by have := (hd.sb k q2).2; omega⟩, h.len, h'.bel, h'.kept, fun k q => by omega⟩
theorem RrI.any {w0 w wr : World} {S X : Nat → Prop} {g M : Nat} {R : Int × DV} {rest : List Int} {t : List UInt8} (h : RrI w0 w wr S g R rest t M X) : RrI w0 w wr S g R rest t M fun _ => False := by
 obtain ⟨S', D', hd, h1, h2, h3, h4, h5⟩ := h.ex
 exact ⟨⟨S', D', hd, h1, h2, h3, h4, fun _ h => h.elim⟩, h.len, h.bel, h.kept, fun _ h => h.elim⟩
theorem RefGrew.past {w0 w W w' : World} {S : Nat → Prop} {g : Nat} {D : DV} (h : RefGrew w0 W w' S g D) (hb : Below w.heap.size w W) : RefGrew w0 w w' S g D := by
 obtain ⟨S2, e1, e2, e3, e4⟩ := h
 exact ⟨S2, e1, e2, fun k hk => (e3 k hk).imp_right (Nat.le_trans hb.size), e4.1, (zP hb S).then_ e4.2 fun _ h => .inl h⟩
theorem RefGrew.to {w0 w w' : World} {S : Nat → Prop} {g : Nat} {D : DV} (h : RefGrew w0 w w' S g D) : DevTo w0 w w' S := by
 obtain ⟨S2, e1, e2, e3, e4⟩ := h
 exact e4
theorem infoU8 : (Tryz.prog.info? 5).map (fun i => (i.zero, i.size, i.bytes)) = some (some (.int .u8 0), 1, 1) := by kernel_rfl
def row64 : Array Value := (Lib.byteCells (zeros 64)).toArray
theorem made64 : madeCells (Value.int .u8 0).cells (64 * 1) = row64 := by kernel_rfl
theorem make64 (W : World) : (Instr.makeSlice 141 (.int .i64 64) (.int .i64 64)).run Tryz.prog W = .ok (.slice (some ⟨W.heap.size, 0, none⟩) 64 64) (W.alloc (.cells row64 5)) := by
 obtain ⟨i, hi, hz⟩ := Option.map_eq_some_iff.1 infoU8
 simp only [Prod.mk.injEq] at hz
 obtain ⟨h0, h1, h2⟩ := hz
 have h := run_make W 141 5 i _ Tryz.underlying141 hi h0 .i64 .i64 64 64 (by decide) (by decide) (by rw [h2]; decide) (by decide)
 rw [h1, show Int.toNat 64 = 64 from rfl, made64] at h
 exact h
set_option maxHeartbeats 4000000 in
set_option maxRecDepth 100000 in
theorem rlay.calls (g : Nat) (S : Nat → Prop) (D : DV) (l : List Sp) (s : List UInt8) (A : Option Addr) (c : Nat) (Z w0 w : World) (hC : RefAt w0 w S g D) (hB : Below w0.heap.size w0 w) (hZ : ∀ W', Kept w W' S → Sub Z W') (hr : Kd.C k87 Z A l.length l) (hok : OkL 8192 l) (hl : l.length ≤ 8192) (hs : (s.length : Int) ≤ Th.sumF l * 64) (hp : (D.pend.length : Int) + Th.sumF l < 1000000) :
  Calls Tryz.prog 98 #[.pointer (some ⟨g, 0, none⟩), .slice A l.length c, .string (B s)] w fun e w' => e = .returned (.int .i64 (wrF l s D).1) ∧ RefGrew w0 w w' S g (wrF l s D).2 := by
 have hu := Tryz.underlying87
 have hsec := secs_len hok
 have hsb := sumF_bound hok (by decide)
 obtain ⟨n, hn⟩ := Int.eq_ofNat_of_zero_le hsb.1
 have hns : (secs l).length = n := by omega
 obtain ⟨m, hm⟩ : ∃ m, m = n * 64 - s.length := ⟨_, rfl⟩
 have HZ := zA hZ
 have hpad : padded l s = s ++ zeros m := by unfold padded; rw [hn, hm]; congr 2
 have HI := zA (show RrI w0 w w S g (wrF l s D) (secs l) (s ++ zeros m) (D.pend.length + n) (fun _ => False) from ⟨⟨S, D, hC, fun _ h => h, fun _ h => .inl h, by rw [← hpad]; rfl, by omega, fun _ h => h.elim⟩, by rw [← hpad]; exact padded_len hok hs, hB, Kept.refl w S, fun _ h => h.elim⟩)
 have HM := zA (show D.pend.length + n < 1000000 by omega)
 have HCR := zA hr
 have HOK := zA hok
 have HSL := zA (show s.length ≤ 64000000 by omega)
 generalize wrF l s D = R at HI ⊢
 have HN := zA hl
 clear hC hB hZ hr hok hm hn hns hsec hsb hpad hs hp hl
 go_enter Tryz.func98, Tryz.ntmps98
 go_wp2
 go_loopg [2, 7] l.length (fun gg s2 s7 wr => ∃ (u : List UInt8) (k j : Nat), s2 = .string (B u) ∧ s7 = .int .i64 j ∧ j ≤ l.length ∧ l.length - j ≤ gg ∧ Aside0 (RrI w0 w wr S g R (secs (l.drop j)) (u ++ zeros k) (D.pend.length + n) fun _ => False))
 case atStart => exact ⟨s, m, 0, rfl, rfl, Nat.zero_le _, by omega, HI⟩
 case round =>
  clear HI
  obtain ⟨u, k, j, rfl, rfl, hj, hg, HI⟩ := hrel
  by_cases hlt : j < l.length
  ·have hltz : decide ((j : Int) < (l.length : Int)) = true := zH (by omega)
   have hi0 : (0 : Int) ≤ (j : Int) := by omega
   have hi1 : (j : Int) < (l.length : Int) := by omega
   have hdr : l.drop j = l[j] :: l.drop (j + 1) := List.drop_eq_getElem_cons hlt
   have hoj := HOK.out l[j] (List.getElem_mem hlt)
   have HAT := zA (show ∀ wr, Kept w wr S → ∃ ad, A = some ad ∧ wr.cell? (ad.add (j * 2)) = some (.int .i64 (l[j]).f0) ∧ wr.cell? ⟨(ad.add (j * 2)).block, (ad.add (j * 2)).off + 1, none⟩ = some (.int .i64 (l[j]).f1) from fun wr hk => by
    have h := at_T87 (mono_span.C (HZ.out wr hk) HCR.out) (j : Int) hi0 hi1
    rw [rd_T87_get l j hlt, Int.toNat_natCast] at h
    exact h)
   have HG := zA hg
   generalize l[j] = p at HAT hdr hoj
   obtain ⟨q, hq⟩ := Int.eq_ofNat_of_zero_le (Int.le_of_lt hoj.1)
   obtain ⟨p0, p1⟩ := p
   simp only at hq HAT hoj
   subst hq
   have HI2 := zA (show RrI w0 w wr S g R (secF p0 0 q ++ secs (l.drop (j + 1))) (u ++ zeros k) (D.pend.length + n) (fun _ => False) from by
    have := HI.out
    rw [hdr, secs_cons] at this
    exact this)
   have HOJ := zA (show 0 ≤ p0 ∧ p0 + (q : Int) ≤ 8192 from ⟨hoj.2.1, hoj.2.2⟩)
   clear hdr HI hg hoj
   go_wp2
   go_loopg [2, 8] q (fun gg s2 s8 wr => ∃ (u : List UInt8) (k i : Nat), s2 = .string (B u) ∧ s8 = .int .i64 i ∧ i ≤ q ∧ q - i ≤ gg ∧ Aside0 (RrI w0 w wr S g R (secF p0 i (q - i) ++ secs (l.drop (j + 1))) (u ++ zeros k) (D.pend.length + n) fun _ => False))
   case atStart => exact ⟨u, k, 0, rfl, rfl, Nat.zero_le _, by omega, HI2⟩
   case round =>
    clear HI2
    obtain ⟨u, k, i, rfl, rfl, hi, hgi, HI⟩ := hrel
    obtain ⟨ad, hA, hx0, hx1⟩ := HAT.out wr HI.out.kept
    by_cases hiq : i < q
    ·have hiqz : decide ((i : Int) < (q : Int)) = true := zH (by omega)
     subst hA
     obtain ⟨mn, hmn⟩ : ∃ mn, mn = min 64 u.length := ⟨_, rfl⟩
     have hmin : (if ((B u).size : Int) < 64 then ((B u).size : Int) else 64) = (mn : Int) := by rw [B_size]; split <;> omega
     have hmz0 : (0 : Int) ≤ (mn : Int) := by omega
     have hmz1 : (mn : Int) ≤ ((B u).size : Int) := by rw [B_size]; omega
     have hmk := make64 wr
     obtain ⟨S', D', hd, h1, h2, h3, h4, h5⟩ := HI.out.ex
     have hlen0 := HI.out.len
     have hlen := HI.out.len
     obtain ⟨r, hr⟩ : ∃ r, q - i = r + 1 := ⟨q - i - 1, by omega⟩
     rw [hr, secF_succ, List.cons_append, List.length_cons, zO, zeros_len] at hlen
     obtain ⟨t, htt⟩ : ∃ t, t = u ++ zeros k := ⟨_, rfl⟩
     have htk : t.take 64 = u.take mn ++ (zeros 64).drop mn := by
      rw [htt, List.take_append, hmn]
      have h1 : u.take 64 = u.take (min 64 u.length) := by
       rcases Nat.le_total 64 u.length with h | h
       ·rw [Nat.min_eq_left h]
       ·rw [Nat.min_eq_right h, List.take_of_length_le h, List.take_length]
      rw [h1]
      congr 1
      unfold zeros
      rw [List.take_replicate, List.drop_replicate]
      congr 1
      omega
     have hdt : t.drop 64 = u.drop mn ++ zeros (k - (64 - u.length)) := by
      rw [htt, List.drop_append]
      have h1 : u.drop 64 = u.drop mn := by
       rw [hmn]
       rcases Nat.le_total 64 u.length with h | h
       ·rw [Nat.min_eq_left h]
       ·rw [Nat.min_eq_right h, List.drop_of_length_le h, List.drop_length]
      rw [h1]
      congr 1
      unfold zeros
      rw [List.drop_replicate]
     have hsz : (Tryz.prog.info? 5).map (·.size) = some 1 := by kernel_rfl
     have hbk := blk_new wr (.cells row64 5)
     have hbl : row64.toList.length = 64 := by kernel_rfl
     have hxl : ((B u).extract 0 mn).data.toList = u.take mn := by rw [B_upto, B_data]
     have hxs : ((B u).extract 0 mn).size = mn := by rw [B_upto, B_size, List.length_take]; omega
     obtain ⟨Wc, hWc⟩ : ∃ Wc, Wc = (wr.alloc (.cells row64 5)).setCells wr.heap.size 0 (((B u).extract 0 mn).data.toList.map fun x => Value.int .u8 (x.toNat : Int)) := ⟨_, rfl⟩
     have hcp : ∀ ty, (Builtin.copy_ #[141, 9] ty #[.slice (some ⟨wr.heap.size, 0, none⟩) 64 64, .string ((B u).extract 0 mn)]).run Tryz.prog (wr.alloc (.cells row64 5)) = .ok (goInt ((B u).extract 0 mn).size) Wc := fun ty => by
      rw [hWc]
      exact run_copy_string _ 141 9 ty 5 wr.heap.size 0 64 64 _ Tryz.underlying141 (sizeOf_k hsz) (by rw [hxs]; omega) (fun j hj => by rw [zN hbk, ← Array.getElem?_toList, List.getElem?_eq_getElem (by rw [hbl]; omega)]; rfl) (fun j hj => zM hbk _)
     have hWb : Below wr.heap.size wr Wc := by rw [hWc]; exact below_setsW (Nat.le_refl _) _ 0 (zJ (Below.refl _ _) _)
     have hWh : Wc.heap[wr.heap.size]? = some (.cells (Lib.byteCells (t.take 64)).toArray 5 (0, 0)) := by
      have h := blk_setCells wr.heap.size (((B u).extract 0 mn).data.toList.map fun x => Value.int .u8 (x.toNat : Int)) 0 (wr.alloc (.cells row64 5)) (Lib.byteCells (zeros 64)) hbk (by rw [List.length_map, ← Lib.size_eq, hxs, Lib.byteCells_length, zeros_len]; omega)
      rw [hWc, h, hxl, htk]
      congr 3
      rw [List.take_zero, List.nil_append, List.length_map, List.length_take, Nat.zero_add, Nat.min_eq_left (by omega)]
      unfold Lib.byteCells
      rw [List.map_append, List.map_drop]
     rw [hr, secF_succ, List.cons_append] at h3 h4 hlen0
     rw [← htt] at h3 hlen0
     obtain ⟨hR', hfin⟩ : ∃ r : Int × DV, r = D'.write (p0 + (i : Int)) (B (t.take 64)) := ⟨_, rfl⟩
     have HWR := zA (show ∀ W, Below wr.heap.size wr W → Calls Tryz.prog 31 #[.pointer (some ⟨g, 0, none⟩), .int .i64 (p0 + (i : Int)), .string (B (t.take 64))] W fun e w' => e = .returned (.int .i64 hR'.1) ∧ RefGrew w0 wr w' S' g hR'.2 from fun W hW => by
      rw [hfin]
      refine (rwrite.calls g S' D' (p0 + (i : Int)) (B (t.take 64)) w0 W (hd.kept (zP hW fun _ => False) fun _ _ h => h) (below_then HI.out.bel (below_size HI.out.bel) hW) (by have := HM.out; omega)).mono ?_
      rintro e w' ⟨rfl, hgr⟩
      exact ⟨rfl, hgr.past hW⟩)
     have HST := zA (show ∀ w', hR'.1 = 0 → RefGrew w0 wr w' S' g hR'.2 → RrI w0 w w' S g R (secF p0 (i + 1) (q - (i + 1)) ++ secs (l.drop (j + 1))) (t.drop 64) (D.pend.length + n) (fun _ => False) from fun w' h0 hg => by
      rw [show q - (i + 1) = r by omega]
      rw [hfin] at h0 hg
      exact RrI.step h1 h2 h3 h4 hlen0 HI.out.kept h5 HI.out.xs hg h0)
     have HEND := zA (show ∀ w', hR'.1 ≠ 0 → RefGrew w0 wr w' S' g hR'.2 → R = hR' ∧ RefGrew w0 w w' S g R.2 from fun w' h0 hg => by
      have hRR : R = hR' := by
       rw [hfin] at h0 ⊢
       unfold zipL writes at h3
       rw [if_neg h0] at h3
       exact h3.symm
      refine ⟨hRR, ?_⟩
      rw [hRR]
      obtain ⟨S2, e1, e2, e3, e4⟩ := hg
      have hsz := HI.out.kept.1
      exact ⟨S2, e1, fun k hk => e2 k (h1 k hk), fun k hk => by
       rcases e3 k hk with q | q
       ·exact h2 k q
       ·exact .inr (Nat.le_trans hsz q), e4.1, kept_of HI.out.kept e4.2 h2⟩)
     have hwb : IntKind.i64.wrap (p0 + (i : Int)) = p0 + (i : Int) := by rw [i64_w]; exact wrap64_id (by have := HOJ.out; omega) (by have := HOJ.out; omega)
     have HGI := zA (And.intro hgi hiq)
     clear hd h1 h2 h3 h4 h5 hlen0 hfin hgi
     obtain ⟨e0, D2⟩ := hR'
     have HMN := zA hmn
     have HWB := zA hWb
     have HWH := zA hWh
     have HTT := zA htt
     have HDT := zA hdt
     have HLEN := zA hlen
     have HRR := zA hr
     clear hmn hlen hr htt htk hdt hsz hbk hbl hxl hxs hWc hWb hWh
     go_wp2_with (at_builtin; go_loud (refine wpList_copy_runK _ rfl _ _ 141 9 rfl _ _ rfl rfl (hcp _) ?_))
     obtain ⟨ad2, hA2, hy0, hy1⟩ := HAT.out Wc (HI.out.kept.then_ (zP HWB.out (fun _ => False)) fun _ h => h.elim)
     obtain rfl := Option.some.inj hA2
     have htl : (t.take 64).length = 64 := by rw [List.length_take, HTT.out, zO, zeros_len]; have := HLEN.out; omega
     have hcv : ∀ W : World, W.heap = Wc.heap → (convert 141 9 (.slice (some ⟨wr.heap.size, 0, none⟩) 64 64)).run Tryz.prog W = .ok (.string (B (t.take 64))) W := fun W hW => by
      have h := run_convert_bytes_back (P := Tryz.prog) W 141 9 5 ⟨wr.heap.size, 0, none⟩ 64 (t.take 64) Tryz.underlying141 Tryz.underlying5 Tryz.underlying9 (fun j hj => by
       rw [Addr.add_lit, Nat.zero_add, zN (w := W) (by rw [hW]; exact HWH.out) j]
       unfold Lib.byteCells
       rw [List.getElem?_toArray, List.getElem?_map, List.getElem?_eq_getElem hj]
       rfl)
      rw [htl] at h
      exact h
     have hcv2 := hcv Wc.drew rfl
     have HCV := zA hcv
     clear hcv htl
     go_still_tail 10, (by kernel_rfl)
     change wpList _ _ _ _ _ Wc.drew
     generalize hwd : Wc.drew = wd
     have HWD := zA (show Below wr.heap.size wr wd from by rw [← hwd]; exact zK HWB.out)
     clear hwd
     go_wp2_with (go_at_call 31; go_loud (refine (HWR.out _ HWD.out).mono ?_; rintro e w5 ⟨rfl, hg5⟩; have HG5 := zA hg5; clear hg5))
     ·have hq : (e0 != 0) = true := by assumption
      go_ret
      obtain ⟨e1, e2⟩ := HEND.out _ (by simpa using hq) HG5.out
      exact ⟨by rw [e1]; rfl, e2⟩
     ·have hq : (e0 != 0) = false := by assumption
      go_roundg (q - (i + 1))
      case measure => have := HGI.out; omega
      case rel => exact ⟨u.drop mn, k - (64 - u.length), i + 1, by rw [B_from], by rw [idx i (by have := HOJ.out; have := HGI.out; omega)], by omega, Nat.le_refl _, ⟨by rw [← HDT.out]; exact HST.out _ (by simpa using hq) HG5.out⟩⟩
    ·obtain rfl : i = q := by omega
     have hiqz : decide ((i : Int) < (i : Int)) = false := zI (by omega)
     have HI2 := zA (show RrI w0 w wr S g R (secs (l.drop (j + 1))) (u ++ zeros k) (D.pend.length + n) (fun _ => False) from by
      have := HI.out
      rw [Nat.sub_self] at this
      exact this)
     subst hA
     clear HI
     go_wp2
     go_roundg (l.length - (j + 1))
     case measure => have := HG.out; omega
     case rel => exact ⟨u, k, j + 1, rfl, by rw [idx j (by have := HN.out; omega)], by omega, Nat.le_refl _, HI2⟩
  ·obtain rfl : j = l.length := by omega
   have hltz : decide ((l.length : Int) < (l.length : Int)) = false := zI (by omega)
   go_wp2
   go_ret
   obtain ⟨S', D', hd, h1, h2, h3, h4, h5⟩ := HI.out.ex
   rw [List.drop_length] at h3
   obtain rfl : R = (0, D') := h3.symm
   exact ⟨rfl, S', hd, h1, h2, HI.out.bel, HI.out.kept⟩
set_option maxRecDepth 1000000
theorem isNil7.calls (w : World) : Calls Tryz.prog 130 #[.slice none 0 0] w fun e w' => e = .returned (.bool true) ∧ w' = w := by
 go_enter Tryz.func130, Tryz.ntmps130
 go_wp2
 go_loopg [3] 0 (fun gg s3 wr => s3 = .int .i64 0 ∧ wr = w)
 case atStart => exact ⟨rfl, rfl⟩
 case round =>
  obtain ⟨rfl, rfl⟩ := hrel
  go_wp2
  go_ret
  exact ⟨rfl, rfl⟩
theorem two7 : rootcellarref2_Put.f 20 0 1 = some (B [0]) := by decide +kernel
theorem three7 : rootcellarref3_Put.f 100 (B [0]) = some (B (putV []).1) := by decide +kernel
set_option maxHeartbeats 2000000 in
theorem putNil7.calls (w : World) : Calls Tryz.prog 96 #[.slice none 0 0] w fun e w' => e = .returned (.tuple #[.string (B (putV []).1), .int .i64 0]) ∧ Below w.heap.size w w' := by
 have HI := zA (isNil7.calls w)
 have H2 := zA (fun W => rootcellarref2_Put.calls 20 0 1 _ W two7)
 have H3 := zA (fun W => rootcellarref3_Put.calls 100 _ _ W three7)
 generalize (putV []).1 = es at H3 ⊢
 go_enter Tryz.func96, Tryz.ntmps96
 go_wp2_with (first
  | (go_at_call 130; go_loud (refine HI.out.mono ?_; rintro e w1 ⟨rfl, rfl⟩))
  | (go_at_call 144; go_loud (refine (H2.out _).mono ?_; rintro e w2 ⟨rfl, hb2⟩; have HB2 := zA hb2; clear hb2)))
 go_loopg [5, 6] 0 (fun gg s5 s6 wr => s5 = .string (B [0]) ∧ s6 = .int .i64 0 ∧ wr = w2)
 case atStart => exact ⟨rfl, rfl, rfl⟩
 case round =>
  obtain ⟨rfl, rfl, rfl⟩ := hrel
  go_wp2_with (first
   | (go_at_call 145; go_loud (refine (H3.out _).mono ?_; rintro e w3 ⟨rfl, hb3⟩; have HB3 := zA (zL HB2.out hb3); clear hb3)))
  go_ret2
  exact ⟨rfl, HB3.out⟩
def r6s (n : Int) : List UInt8 := [114, 116, 99, 108] ++ (numL 1 8 ++ (numL n 2 ++ (numL 5 4 ++ numL 1 1)))
def r6t (n : Int) : List UInt8 := r6s n ++ (numL 2 2 ++ numL 1 2)
theorem has0 : rootcellarref5_Has.f 1000 [⟨2, 1⟩] 0 = some false := by decide +kernel
theorem has1 : rootcellarref5_Has.f 1000 [⟨2, 1⟩] 1 = some false := by decide +kernel
theorem tot1 : rootcellarref5_Total.f 1000 [⟨2, 1⟩] = some 1 := by decide +kernel
theorem need5 : rootcellarref6_Need.f 5 = some 1 := by decide +kernel
set_option maxHeartbeats 4000000 in
theorem right6.calls (n : Nat) (A : Option Addr) (c : Nat) (w : World) (h2 : 2 ≤ n) (h8 : n ≤ 8192) (hr5 : rootcellarref5_Right.f 10000 [⟨2, 1⟩] n = some true) (hr : Kd.C k87 w A 1 [⟨2, 1⟩]) (hc : 1 ≤ c) :
  Calls Tryz.prog 146 #[.agg #[.int .u64 1, .int .i64 n, .int .i64 5, .slice A 1 c]] w fun e w' => e = .returned (.bool true) ∧ Below w.heap.size w w' := by
 have b1 : decide ((n : Int) < 2) = false := zI (by omega)
 have b2 : decide (8192 < (n : Int)) = false := zI (by omega)
 have hu := Tryz.underlying78
 have HR := zA (fun (W : World) (hW : Below w.heap.size w W) => rootcellarref5_Right.calls 10000 A c [⟨2, 1⟩] n _ W (Kd.C_below hr hW) hc hr5)
 have HH0 := zA (fun (W : World) (hW : Below w.heap.size w W) => rootcellarref5_Has.calls 1000 A c [⟨2, 1⟩] 0 _ W (Kd.C_below hr hW) hc has0)
 have HH1 := zA (fun (W : World) (hW : Below w.heap.size w W) => rootcellarref5_Has.calls 1000 A c [⟨2, 1⟩] 1 _ W (Kd.C_below hr hW) hc has1)
 have HTT := zA (fun (W : World) (hW : Below w.heap.size w W) => rootcellarref5_Total.calls 1000 A c [⟨2, 1⟩] _ W (Kd.C_below hr hW) hc tot1)
 have HND := zA (fun W => rootcellarref6_Need.calls 5 1 W need5)
 have HB0 := zA (zJ (Below.refl _ w) (.cells #[.int .u64 1, .int .i64 n, .int .i64 5, .slice A 1 c] 78))
 have HK0 := zA (blk_new w (.cells #[.int .u64 1, .int .i64 n, .int .i64 5, .slice A 1 c] 78))
 have k1 := zN HK0.out 1
 have k2 := zN HK0.out 2
 have k3 := zN HK0.out 3
 clear hr5 hr hc h2 h8
 go_enter Tryz.func146, Tryz.ntmps146
 go_wp2_with (first
  | (go_at_call 187; go_loud (refine (HR.out _ HB0.out).mono ?_; rintro e w1 ⟨rfl, hb1⟩; have HB1 := zA (zL HB0.out hb1); have hk1 := blk_below HK0.out hb1; have HK1 := zA hk1; have m2 := (show w1.cell? ⟨w.heap.size, 2, none⟩ = some (.int .i64 5) from (zN hk1 2).trans rfl); have m3 := (show w1.cell? ⟨w.heap.size, 3, none⟩ = some (.slice A 1 c) from (zN hk1 3).trans rfl); clear hb1 hk1)))
 have HKEEP := zA (show ∀ W : World, Below w1.heap.size w1 W → W.cell? ⟨w.heap.size, 2, none⟩ = some (.int .i64 5) ∧ W.cell? ⟨w.heap.size, 3, none⟩ = some (.slice A 1 c) from fun W hW => ⟨(hW.cell (zB w1 _ m2)).trans m2, (hW.cell (zB w1 _ m3)).trans m3⟩)
 have HBd := zA (zK (Below.refl w1.heap.size w1))
 clear k1 k2 k3
 go_region_held3 (fun w' => w'.cell? ⟨w.heap.size, 2, none⟩ = some (.int .i64 5) ∧ w'.cell? ⟨w.heap.size, 3, none⟩ = some (.slice A 1 c)) (exact HKEEP.out _ HBd.out) (first
  | (go_at_call 188; (with_reducible show Calls _ _ #[_, .int .i64 0] _ _); go_loud (refine (HH0.out _ (zL HB1.out HBd.out)).mono ?_; rintro ex wk ⟨rfl, hd⟩; have HBd := zA (zL HBd.out hd.below); clear hd))
  | (go_at_call 188; (with_reducible show Calls _ _ #[_, .int .i64 1] _ _); go_loud (refine (HH1.out _ (zL HB1.out HBd.out)).mono ?_; rintro ex wk ⟨rfl, hd⟩; have HBd := zA (zL HBd.out hd.below); clear hd))
  | (go_at_call 77; go_loud (refine (HTT.out _ (zL HB1.out HBd.out)).mono ?_; rintro ex wk ⟨rfl, hd⟩; have HBd := zA (zL HBd.out hd); clear hd))
  | (go_at_call 189; go_loud (refine (HND.out _).mono ?_; rintro ex wk ⟨rfl, hd⟩; have HBd := zA (zL HBd.out hd.below); clear hd)))
 (try simp only [Exit.then])
 go_wp2
 go_ret
 exact ⟨rfl, zL HB1.out HBd.out⟩
theorem p18 : rootcellarref2_Put.f 20 1 8 = some (B (numL 1 8)) := by decide +kernel
theorem p54 : rootcellarref2_Put.f 20 5 4 = some (B (numL 5 4)) := by decide +kernel
theorem p11 : rootcellarref2_Put.f 20 1 1 = some (B (numL 1 1)) := by decide +kernel
theorem p22 : rootcellarref2_Put.f 20 (IntKind.u64.wrap 2) 2 = some (B (numL 2 2)) := by decide +kernel
theorem p12 : rootcellarref2_Put.f 20 (IntKind.u64.wrap 1) 2 = some (B (numL 1 2)) := by decide +kernel
theorem r6t_len (n : Int) : (r6t n).length = 23 := by simp [r6t, r6s, numL_len]
theorem r6s_len (n : Int) : (r6s n).length = 19 := by simp [r6s, numL_len]
def r6is (n : Nat) : Bool := decide (2 ≤ n ∧ n ≤ 8192) && (decide (rootcellarref5_Right.f 10000 [⟨2, 1⟩] n = some true) && (decide (rootcellarref2_Put.f 20 (IntKind.u64.wrap n) 2 = some (B (numL n 2))) && (match rootcellarref3_Put.f 1000 (B (r6t n ++ zeros 37)) with | some b => decide (b.size = 64) | none => false)))
def r6ts (n : Nat) : List UInt8 := match rootcellarref3_Put.f 1000 (B (r6t n ++ zeros 37)) with | some b => b.data.toList | none => []
theorem r6ts_len {n : Nat} (h6 : r6is n = true) : (r6ts n).length = 64 := by
 unfold r6is at h6
 simp only [Bool.and_eq_true, decide_eq_true_eq] at h6
 obtain ⟨-, -, -, h3⟩ := h6
 unfold r6ts
 cases hq : rootcellarref3_Put.f 1000 (B (r6t n ++ zeros 37)) with
 | none => rw [hq] at h3; cases h3
 | some b =>
  rw [hq] at h3
  have h64 : b.size = 64 := by simpa using h3
  show b.data.toList.length = 64
  rw [Array.length_toList]
  exact h64
set_option maxHeartbeats 8000000 in
theorem put6.calls (n g1 : Nat) (c : Nat) (w : World) (h6 : r6is n = true) (hr : Kd.C k87 w (some ⟨g1, 0, none⟩) 1 [⟨2, 1⟩]) (hc : 1 ≤ c) :
  Calls Tryz.prog 97 #[.agg #[.int .u64 1, .int .i64 n, .int .i64 5, .slice (some ⟨g1, 0, none⟩) 1 c]] w fun e w' => e = .returned (.tuple #[.string (B (r6ts n)), .int .i64 0]) ∧ Below w.heap.size w w' := by
 unfold r6is at h6
 simp only [Bool.and_eq_true, decide_eq_true_eq] at h6
 obtain ⟨⟨h2, h8⟩, h5, hn2, h3⟩ := h6
 obtain ⟨ts, hts, hr3⟩ : ∃ ts : List UInt8, r6ts n = ts ∧ rootcellarref3_Put.f 1000 (B (r6t n ++ zeros 37)) = some (B ts) := by
  unfold r6ts
  cases hq : rootcellarref3_Put.f 1000 (B (r6t n ++ zeros 37)) with
  | none => rw [hq] at h3; cases h3
  | some b => exact ⟨b.data.toList, rfl, by rw [B_of]⟩
 rw [hts]
 have hu := Tryz.underlying78
 have hu2 := Tryz.underlying87
 have HRI := zA (fun (W : World) (hW : Below w.heap.size w W) => right6.calls n (some ⟨g1, 0, none⟩) c W h2 h8 h5 (Kd.C_below hr hW) hc)
 have HRC := zA (fun (W : World) (hW : Below w.heap.size w W) => Kd.C_below hr hW)
 have H3 := zA (fun W => rootcellarref3_Put.calls 1000 _ _ W hr3)
 obtain ⟨s8, hs8⟩ : ∃ s, s = B (numL 1 8) := ⟨_, rfl⟩
 obtain ⟨s2, hs2⟩ : ∃ s, s = B (numL n 2) := ⟨_, rfl⟩
 obtain ⟨s4, hs4⟩ : ∃ s, s = B (numL 5 4) := ⟨_, rfl⟩
 obtain ⟨s1, hs1⟩ : ∃ s, s = B (numL 1 1) := ⟨_, rfl⟩
 obtain ⟨sa, hsa⟩ : ∃ s, s = B (numL 2 2) := ⟨_, rfl⟩
 obtain ⟨sb, hsb⟩ : ∃ s, s = B (numL 1 2) := ⟨_, rfl⟩
 have z8 : s8.size = 8 := by rw [hs8, B_size, numL_len]
 have z2 : s2.size = 2 := by rw [hs2, B_size, numL_len]
 have z4 : s4.size = 4 := by rw [hs4, B_size, numL_len]
 have z1 : s1.size = 1 := by rw [hs1, B_size, numL_len]
 have HSUM := zA (show (⟨#[114, 116, 99, 108]⟩ : ByteArray) ++ s8 ++ s2 ++ s4 ++ s1 = B (r6s n) from by
  rw [hs8, hs2, hs4, hs1, show (⟨#[114, 116, 99, 108]⟩ : ByteArray) = B [114, 116, 99, 108] from rfl, B_append, B_append, B_append, B_append]
  unfold r6s
  simp only [List.append_assoc])
 have HSUT := zA (show B (r6s n) ++ sa ++ sb = B (r6t n) from by
  rw [hsa, hsb, B_append, B_append]
  unfold r6t
  simp only [List.append_assoc])
 have HZA := zA (show sa.size = 2 ∧ sb.size = 2 ∧ (B (r6s n)).size = 19 from ⟨by rw [hsa, B_size, numL_len], by rw [hsb, B_size, numL_len], by rw [B_size, r6s_len]⟩)
 have HP8 := zA (fun W => by have := rootcellarref2_Put.calls 20 1 8 _ W p18; rw [← hs8] at this; exact this)
 have HP2 := zA (fun W => by have := rootcellarref2_Put.calls 20 _ 2 _ W hn2; rw [← hs2] at this; exact this)
 have HP4 := zA (fun W => by have := rootcellarref2_Put.calls 20 5 4 _ W p54; rw [← hs4] at this; exact this)
 have HP1 := zA (fun W => by have := rootcellarref2_Put.calls 20 1 1 _ W p11; rw [← hs1] at this; exact this)
 have HPa := zA (fun W => by have := rootcellarref2_Put.calls 20 _ 2 _ W p22; rw [← hsa] at this; exact this)
 have HPb := zA (fun W => by have := rootcellarref2_Put.calls 20 _ 2 _ W p12; rw [← hsb] at this; exact this)
 have HB0 := zA (zJ (Below.refl _ w) (.cells #[.int .u64 1, .int .i64 n, .int .i64 5, .slice (some ⟨g1, 0, none⟩) 1 c] 78))
 have HK0 := zA (blk_new w (.cells #[.int .u64 1, .int .i64 n, .int .i64 5, .slice (some ⟨g1, 0, none⟩) 1 c] 78))
 have h0 := zN HK0.out 0
 have h1 := zN HK0.out 1
 have h2' := zN HK0.out 2
 have h3' := zN HK0.out 3
 clear hs8 hs2 hs4 hs1 hsa hsb hr hc h2 h8 h5 hn2 h3 hr3 hts
 go_enter Tryz.func97, Tryz.ntmps97
 go_wp2_with (first | (go_at_call 146; go_loud (refine (HRI.out _ HB0.out).mono ?_; rintro e w1 ⟨rfl, hb1⟩; have HB1 := zA (zL HB0.out hb1); have HK1 := zA (blk_below HK0.out hb1); clear hb1)))
 clear h0 h1 h2' h3'
 have m0 := (show w1.cell? ⟨w.heap.size, 0, none⟩ = some (.int .u64 1) from (zN HK1.out 0).trans rfl)
 have m1 := (show w1.cell? ⟨w.heap.size, 1, none⟩ = some (.int .i64 n) from (zN HK1.out 1).trans rfl)
 have m2 := (show w1.cell? ⟨w.heap.size, 2, none⟩ = some (.int .i64 5) from (zN HK1.out 2).trans rfl)
 have m3 := (show w1.cell? ⟨w.heap.size, 3, none⟩ = some (.slice (some ⟨g1, 0, none⟩) 1 c) from (zN HK1.out 3).trans rfl)
 have HKEEP := zA (show ∀ W : World, Below w1.heap.size w1 W → W.cell? ⟨w.heap.size, 0, none⟩ = some (.int .u64 1) ∧ W.cell? ⟨w.heap.size, 1, none⟩ = some (.int .i64 n) ∧ W.cell? ⟨w.heap.size, 2, none⟩ = some (.int .i64 5) ∧ W.cell? ⟨w.heap.size, 3, none⟩ = some (.slice (some ⟨g1, 0, none⟩) 1 c) from fun W hW => by
  have hk := blk_below HK1.out hW
  exact ⟨(zN hk 0).trans rfl, (zN hk 1).trans rfl, (zN hk 2).trans rfl, (zN hk 3).trans rfl⟩)
 have HBd := zA (zK (Below.refl w1.heap.size w1))
 go_region_held3 (fun w' => w'.cell? ⟨w.heap.size, 0, none⟩ = some (.int .u64 1) ∧ w'.cell? ⟨w.heap.size, 1, none⟩ = some (.int .i64 n) ∧ w'.cell? ⟨w.heap.size, 2, none⟩ = some (.int .i64 5) ∧ w'.cell? ⟨w.heap.size, 3, none⟩ = some (.slice (some ⟨g1, 0, none⟩) 1 c)) (exact HKEEP.out _ HBd.out) (first
  | (go_at_call 144; (with_reducible show Calls _ _ #[_, .int .i64 8] _ _); go_loud (refine (HP8.out _).mono ?_; rintro ex wk ⟨rfl, q⟩; have HBd := zA (zL HBd.out q); clear q))
  | (go_at_call 144; (with_reducible show Calls _ _ #[_, .int .i64 2] _ _); go_loud (refine (HP2.out _).mono ?_; rintro ex wk ⟨rfl, q⟩; have HBd := zA (zL HBd.out q); clear q))
  | (go_at_call 144; (with_reducible show Calls _ _ #[_, .int .i64 4] _ _); go_loud (refine (HP4.out _).mono ?_; rintro ex wk ⟨rfl, q⟩; have HBd := zA (zL HBd.out q); clear q))
  | (go_at_call 144; (with_reducible show Calls _ _ #[_, .int .i64 1] _ _); go_loud (refine (HP1.out _).mono ?_; rintro ex wk ⟨rfl, q⟩; have HBd := zA (zL HBd.out q); clear q)))
 (try simp only [Exit.then])
 have HBs := zA HBd.out
 clear HBd HKEEP m0 m1 m2 m3 z8 z2 z4 z1 HP8 HP2 HP4 HP1 HK0 HB0
 rw [HSUM.out]
 have HK3 := zA (show ∀ W : World, Below w1.heap.size w1 W → W.cell? ⟨w.heap.size, 3, none⟩ = some (.slice (some ⟨g1, 0, none⟩) 1 c) from fun W hW => (zN (blk_below HK1.out hW) 3).trans rfl)
 go_wp2
 go_loopg [5, 6] 1 (fun gg s5 s6 wr => ∃ i : Nat, s6 = .int .i64 i ∧ ((i = 0 ∧ s5 = .string (B (r6s n))) ∨ (i = 1 ∧ s5 = .string (B (r6t n)))) ∧ 1 - i ≤ gg ∧ Aside0 (Below w1.heap.size w1 wr))
 case atStart => exact ⟨0, rfl, .inl ⟨rfl, rfl⟩, by omega, ⟨HBs.out⟩⟩
 case round =>
  clear HBs HSUM
  obtain ⟨i, rfl, hi, hg, HBr⟩ := hrel
  have k3 := HK3.out wr HBr.out
  rcases hi with ⟨rfl, rfl⟩ | ⟨rfl, rfl⟩
  ·obtain ⟨ad, hea, hx0, hx1⟩ := at_T87 (HRC.out wr (zL HB1.out HBr.out)) 0 (by decide) (by decide)
   injection hea with hea
   subst hea
   have x0 : wr.cell? ⟨g1, 0, none⟩ = some (.int .i64 2) := by rw [add_plain] at hx0; exact hx0
   have x1 : wr.cell? ⟨g1, 1, none⟩ = some (.int .i64 1) := by rw [add_plain] at hx1; exact hx1
   clear hx0 hx1
   go_wp2
   have HKEEP := zA (show ∀ W : World, Below wr.heap.size wr W → W.cell? ⟨w.heap.size, 3, none⟩ = some (.slice (some ⟨g1, 0, none⟩) 1 c) ∧ W.cell? ⟨g1, 0, none⟩ = some (.int .i64 2) ∧ W.cell? ⟨g1, 1, none⟩ = some (.int .i64 1) from fun W hW => ⟨(hW.cell (zB wr _ k3)).trans k3, (hW.cell (zB wr _ x0)).trans x0, (hW.cell (zB wr _ x1)).trans x1⟩)
   have HBd := zA (zK (Below.refl wr.heap.size wr))
   obtain ⟨za, zb, zs⟩ := HZA.out
   go_region_held3 (fun w' => w'.cell? ⟨w.heap.size, 3, none⟩ = some (.slice (some ⟨g1, 0, none⟩) 1 c) ∧ w'.cell? ⟨g1, 0, none⟩ = some (.int .i64 2) ∧ w'.cell? ⟨g1, 1, none⟩ = some (.int .i64 1)) (exact HKEEP.out _ HBd.out) (first
    | (go_at_call 144; (with_reducible show Calls _ _ #[.int .u64 (IntKind.u64.wrap 2), _] _ _); go_loud (refine (HPa.out _).mono ?_; rintro ex wk ⟨rfl, q⟩; have HBd := zA (zL HBd.out q); clear q))
    | (go_at_call 144; (with_reducible show Calls _ _ #[.int .u64 (IntKind.u64.wrap 1), _] _ _); go_loud (refine (HPb.out _).mono ?_; rintro ex wk ⟨rfl, q⟩; have HBd := zA (zL HBd.out q); clear q)))
   (try simp only [Exit.inBlock, Exit.then])
   rw [HSUT.out]
   have HBe := zA (zL HBr.out HBd.out)
   clear HBd HKEEP x0 x1 k3 za zb zs
   go_wp2
   go_roundg 0
   case measure => omega
   case rel => exact ⟨1, rfl, .inr ⟨rfl, rfl⟩, by omega, HBe⟩
  ·go_wp2
   go_loopg [5] 37 (fun gg s5 wq => ∃ j : Nat, s5 = .string (B (r6t n ++ zeros j)) ∧ j ≤ 37 ∧ 37 - j ≤ gg ∧ Aside0 (Below w1.heap.size w1 wq))
   case atStart => exact ⟨0, by rw [show zeros 0 = [] from rfl, List.append_nil], by omega, by omega, HBr⟩
   case round =>
    clear HBr k3
    obtain ⟨j, rfl, hj, hgj, HBq⟩ := hrel
    have hsz : (B (r6t n ++ zeros j)).size = 23 + j := by rw [B_size, zO, r6t_len, zeros_len]
    by_cases hlt : j < 37
    ·have hltz : decide (((B (r6t n ++ zeros j)).size : Int) < 60) = true := zH (by rw [hsz]; omega)
     have hz1 : (B (r6t n ++ zeros j)).size + 1 ≤ 9223372036854775807 := by rw [hsz]; omega
     have HSN := zA (show B (r6t n ++ zeros j) ++ (⟨#[0]⟩ : ByteArray) = B (r6t n ++ zeros (j + 1)) from by
      rw [show (⟨#[0]⟩ : ByteArray) = B [0] from rfl, B_append, List.append_assoc]
      congr 1
      unfold zeros
      rw [← List.replicate_succ'])
     clear hsz
     go_wp2
     go_roundg (37 - (j + 1))
     case measure => omega
     case rel => exact ⟨j + 1, by rw [HSN.out], by omega, Nat.le_refl _, HBq⟩
    ·obtain rfl : j = 37 := by omega
     have hltz : decide (((B (r6t n ++ zeros 37)).size : Int) < 60) = false := zI (by rw [hsz]; omega)
     clear hsz
     go_wp2_with (first
      | (go_at_call 145; go_loud (refine (H3.out _).mono ?_; rintro e w9 ⟨rfl, hb9⟩; have HB9 := zA (zL HB1.out (zL HBq.out hb9)); clear hb9)))
     go_ret2
     exact ⟨rfl, HB9.out⟩
theorem r6_20 : r6is 20 = true := by decide +kernel
theorem r6_400 : r6is 400 = true := by decide +kernel
theorem ok11 : OkL 8192 [(⟨1, 1⟩ : Sp)] := fun s hs => by
 obtain rfl := List.mem_singleton.1 hs
 exact ⟨by decide, by decide, by decide⟩
def rformatV (D : DV) (es ts : List UInt8) : Int × DV :=
 if D.now.length < 4 then (6, D) else
 if (wrF [⟨2, 1⟩] es D).1 ≠ 0 then wrF [⟨2, 1⟩] es D else
 if (wrF [⟨2, 1⟩] es D).2.rflush.1 ≠ 0 then (wrF [⟨2, 1⟩] es D).2.rflush else
 if ((wrF [⟨2, 1⟩] es D).2.rflush.2.write 0 (B ts)).1 ≠ 0 then (wrF [⟨2, 1⟩] es D).2.rflush.2.write 0 (B ts) else
 if (wrF [⟨1, 1⟩] [] ((wrF [⟨2, 1⟩] es D).2.rflush.2.write 0 (B ts)).2).1 ≠ 0 then wrF [⟨1, 1⟩] [] ((wrF [⟨2, 1⟩] es D).2.rflush.2.write 0 (B ts)).2 else
 (wrF [⟨1, 1⟩] [] ((wrF [⟨2, 1⟩] es D).2.rflush.2.write 0 (B ts)).2).2.rflush
theorem RefGrew.via {w0 w w' : World} {S : Nat → Prop} {g : Nat} {D : DV} (h : RefGrew w0 w w' S g D) : ∃ S', RefAt w0 w' S' g D ∧ Below w0.heap.size w0 w' ∧ Via w w' S S S' S' := by
 obtain ⟨S', h1, h2, h3, h4, h5⟩ := h
 exact ⟨S', h1, h4, h2, h2, h3, h5⟩
theorem RefAt.past {w0 W W' : World} {S : Nat → Prop} {g : Nat} {D : DV} (h : RefAt w0 W S g D) (hb : Below W.heap.size W W') : RefAt w0 W' S g D := h.kept (zP hb fun _ => False) fun _ _ h => h
theorem Via.rgrew {w0 w w' : World} {S S' : Nat → Prop} {g : Nat} {D : DV} (v : Via w w' S S S' S') (hd : RefAt w0 w' S' g D) (hb : Below w0.heap.size w0 w') : RefGrew w0 w w' S g D := ⟨S', hd, v.1, v.2.2.1, hb, v.2.2.2⟩
set_option maxHeartbeats 8000000 in
set_option maxRecDepth 100000 in
theorem rformat.calls (S : Nat → Prop) (gd : Nat) (D : DV) (ts : List UInt8) (w0 w : World) (hC : RefAt w0 w S gd D) (hB : Below w0.heap.size w0 w) (hp : D.pend.length < 900000) (h6 : r6is D.now.length = true) (hts : r6ts D.now.length = ts) (hn4 : 4 ≤ D.now.length) :
  Calls Tryz.prog 42 #[.pointer (some ⟨gd, 0, none⟩)] w fun e w' => RefGrew w0 w w' S gd (rformatV D (putV []).1 ts).2 ∧ ((rformatV D (putV []).1 ts).1 ≠ 0 ∧ e = .returned (.tuple #[.pointer none, .int .i64 (rformatV D (putV []).1 ts).1]) ∨ (rformatV D (putV []).1 ts).1 = 0 ∧ ∃ gv, e = .returned (.tuple #[.pointer (some ⟨gv, 0, none⟩), .int .i64 0])) := by
 have b1 : decide ((D.now.length : Int) < 4) = false := zI (by omega)
 have HR := zA (show rformatV D (putV []).1 ts = _ from if_neg (by omega))
 have HPU := zA (fun W => putNil7.calls W)
 have he5 := putNil.2
 have HC := zA hC
 have HB := zA hB
 have HP := zA hp
 clear hn4 hB hp
 generalize rformatV D (putV []).1 ts = R at HR ⊢
 generalize (putV []).1 = es at HR HPU he5
 have hsz : (B es).size = 5 := by rw [B_size]; exact he5
 have HE5 := zA he5
 obtain ⟨vn, vl, vp, hC⟩ := hC
 obtain ⟨gn, cn, hvn⟩ := own_slice hC.now hC.ok.pos
 have h0 := (zN hC.blk 0).trans (show _ = some vn from rfl)
 rw [hvn] at h0
 have HK0 := zA (show ∀ W, Below w.heap.size w W → W.cell? ⟨gd, 0, none⟩ = some (.slice (some ⟨gn, 0, none⟩) D.now.length cn) from fun W hW => (hW.cell (zB _ _ h0)).trans h0)
 have H6 := zA (fun W g1 hr => put6.calls D.now.length g1 1 W h6 hr (Nat.le_refl 1))
 rw [hts] at H6
 have HL0 := zA (show ∀ W, Kd.C k137 W none ([] : List S137).length [] from fun W => ⟨rfl, by decide, fun h => absurd h (by decide)⟩)
 clear hC hvn he5 h6 hts
 go_enter Tryz.func42, Tryz.ntmps42
 go_wp2_with (first
  | (go_at_call 96; go_loud (refine (HPU.out w).mono ?_; rintro e w2 ⟨rfl, hb2⟩; have HB2 := zA hb2; have h02 := HK0.out _ hb2; clear hb2)))
 have hlt3 := below_size HB2.out
 have hf1 : ((w2.alloc (.cells #[.int .i64 2, .int .i64 1] 87)).alloc (.cells #[.int .u64 1, .int .i64 D.now.length, .int .i64 5, .slice (some ⟨w2.heap.size, 0, none⟩) 1 1] 78)).heap[w2.heap.size]? = some (.cells #[.int .i64 2, .int .i64 1] 87 (0, 0)) := (Below.heap_alloc _ _ _ (by simp)).trans (blk_new w2 _)
 have hf2 : ((w2.alloc (.cells #[.int .i64 2, .int .i64 1] 87)).alloc (.cells #[.int .u64 1, .int .i64 D.now.length, .int .i64 5, .slice (some ⟨w2.heap.size, 0, none⟩) 1 1] 78)).heap[w2.heap.size + 1]? = some (.cells #[.int .u64 1, .int .i64 D.now.length, .int .i64 5, .slice (some ⟨w2.heap.size, 0, none⟩) 1 1] 78 (0, 0)) := by
  have := blk_new (w2.alloc (.cells #[.int .i64 2, .int .i64 1] 87)) (.cells #[.int .u64 1, .int .i64 D.now.length, .int .i64 5, .slice (some ⟨w2.heap.size, 0, none⟩) 1 1] 78)
  simpa using this
 have HB4 := zA (zJ (zJ HB2.out (.cells #[.int .i64 2, .int .i64 1] 87)) (.cells #[.int .u64 1, .int .i64 D.now.length, .int .i64 5, .slice (some ⟨w2.heap.size, 0, none⟩) 1 1] 78))
 generalize (w2.alloc (.cells #[.int .i64 2, .int .i64 1] 87)).alloc (.cells #[.int .u64 1, .int .i64 D.now.length, .int .i64 5, .slice (some ⟨w2.heap.size, 0, none⟩) 1 1] 78) = w4 at hf1 hf2 HB4 ⊢
 have HS := zA (show ∀ k, w2.heap.size ≤ k → ¬ S k from fun k hk q => by
  obtain ⟨_, _, _, hc⟩ := HC.out
  have := (hc.sb k q).2
  omega)
 have HG := zA hlt3
 have HF1 := zA hf1
 have HF2 := zA hf2
 generalize w2.heap.size = g1 at hf1 hf2 HS HG HF1 HF2 ⊢
 have HHP := zA (fun W (hW : Below w4.heap.size w4 W) => H6.out W g1 (mono_span.C (sub_mask (fun _ => False) W) (lit2 (fun h => h) (blk_below hf1 hW))))
 clear hf1 hf2 HPU
 go_wp2_with (first
  | (go_at_call 97; go_loud (refine (HHP.out w4 (Below.refl _ _)).mono ?_; rintro e w5 ⟨rfl, hb5⟩; have HB5 := zA hb5; have kf := (show w5.cell? ⟨g1 + 1, 3, none⟩ = some (.slice (some ⟨g1, 0, none⟩) 1 1) from (zN (blk_below HF2.out hb5) 3).trans rfl); clear hb5)))
 have HPW := zA (show (wrF [⟨2, 1⟩] es D).2.pend.length < 900001 from by have h1 := wrF_pend ok21 es D; have h2 := HP.out; simp [Th.sumF] at h1; omega)
 generalize hwr : wrF [⟨2, 1⟩] es D = wr at HR HPW
 obtain ⟨e6, D6⟩ := wr
 simp only at HR HPW
 have hb45 := HB4.out.trans (HB5.out.mono (below_size HB4.out))
 have HW1 := zA (show Calls Tryz.prog 98 #[.pointer (some ⟨gd, 0, none⟩), .slice (some ⟨g1, 0, none⟩) 1 1, .string (B es)] w5 fun e w' => e = .returned (.int .i64 e6) ∧ ∃ S6, RefAt w0 w' S6 gd D6 ∧ Below w0.heap.size w0 w' ∧ Via w w' S S S6 S6 ∧ (w'.heap[g1 + 1]? = some (.cells #[.int .u64 1, .int .i64 D.now.length, .int .i64 5, .slice (some ⟨g1, 0, none⟩) 1 1] 78 (0, 0)) ∧ ¬ S6 (g1 + 1)) from by
  refine (rlay.calls gd S D [⟨2, 1⟩] es (some ⟨g1, 0, none⟩) 1 (mask S w5) w0 w5 (HC.out.past hb45) (HB.out.trans (hb45.mono (below_size HB.out))) (fun W' hk => sub_use hk fun k q => q) (lit2 (HS.out g1 (Nat.le_refl _)) (blk_below HF1.out HB5.out)) ok21 (show 1 ≤ 8192 by decide) (by rw [HE5.out]; decide) (by have := HP.out; simp [Th.sumF]; omega)).mono ?_
  rw [hwr]
  rintro e w6 ⟨rfl, hg6⟩
  obtain ⟨S6, hd6, hl6, v6⟩ := hg6.via
  exact ⟨rfl, S6, hd6, hl6, (Via.here hb45).trans v6, v6.blk (blk_below HF2.out HB5.out) (HS.out (g1 + 1) (Nat.le_succ _))⟩)
 clear hwr hb45
 go_wp2_with (first
  | (go_at_call 98; go_loud (refine HW1.out.mono ?_; rintro e w6 ⟨rfl, S6, hd6, hl6, v6, k6⟩; have HC6 := zA hd6; have HL6 := zA hl6; have HV6 := zA v6; have HA6 := zA k6; clear hd6 hl6 v6 k6)))
 ·have hq : (e6 == 0) = true := by assumption
  have HR3 := zA (HR.out.trans (if_neg (by simpa using hq)))
  have hfp : D6.rflush.2.pend.length ≤ D6.pend.length := by
   unfold DV.rflush
   split
   ·exact Nat.le_refl _
   ·split
    ·rw [spend_pend]; exact Nat.le_refl _
    ·exact Nat.zero_le _
  generalize hfl : D6.rflush = fl at HR3 hfp
  obtain ⟨e7, D7⟩ := fl
  simp only at HR3 hfp
  have HP7 := zA (Nat.lt_of_le_of_lt hfp HPW.out)
  have HFL := zA (show Calls Tryz.prog 99 #[.pointer (some ⟨gd, 0, none⟩)] w6 fun e w' => e = .returned (.int .i64 e7) ∧ ∃ S7, RefAt w0 w' S7 gd D7 ∧ Below w0.heap.size w0 w' ∧ Via w w' S S S7 S7 ∧ (w'.heap[g1 + 1]? = some (.cells #[.int .u64 1, .int .i64 D.now.length, .int .i64 5, .slice (some ⟨g1, 0, none⟩) 1 1] 78 (0, 0)) ∧ ¬ S7 (g1 + 1)) from by
   refine (rflush.calls gd S6 D6 w0 w6 HC6.out HL6.out).mono ?_
   rw [hfl]
   rintro e w7 ⟨rfl, hg7⟩
   obtain ⟨S7, hd7, hl7, v7⟩ := hg7.via
   exact ⟨rfl, S7, hd7, hl7, HV6.out.trans v7, v7.blk HA6.out.1 HA6.out.2⟩)
  clear hfl hfp hq
  go_wp2_with (first
   | (go_at_call 99; go_loud (refine HFL.out.mono ?_; rintro e w7 ⟨rfl, S7, hd7, hl7, v7, k7_⟩; have HC7 := zA hd7; have HL7 := zA hl7; have HV7 := zA v7; have HA7 := zA k7_; clear hd7 hl7 v7 k7_)))
  ·have hq : (e7 == 0) = true := by assumption
   have HR4 := zA (HR3.out.trans (if_neg (by simpa using hq)))
   have hwp := write_pend D7 0 (B ts)
   generalize hw8 : D7.write 0 (B ts) = w8_ at HR4 hwp
   obtain ⟨e8, D8⟩ := w8_
   simp only at HR4 hwp
   have HP8 := zA (show D8.pend.length < 900010 from by have := HP7.out; omega)
   have HWT := zA (show Calls Tryz.prog 31 #[.pointer (some ⟨gd, 0, none⟩), .int .i64 0, .string (B ts)] w7 fun e w' => e = .returned (.int .i64 e8) ∧ ∃ S8, RefAt w0 w' S8 gd D8 ∧ Below w0.heap.size w0 w' ∧ Via w w' S S S8 S8 ∧ (w'.heap[g1 + 1]? = some (.cells #[.int .u64 1, .int .i64 D.now.length, .int .i64 5, .slice (some ⟨g1, 0, none⟩) 1 1] 78 (0, 0)) ∧ ¬ S8 (g1 + 1)) from by
    refine (rwrite.calls gd S7 D7 0 (B ts) w0 w7 HC7.out HL7.out (by have := HP7.out; omega)).mono ?_
    rw [hw8]
    rintro e w8 ⟨rfl, hg8⟩
    obtain ⟨S8, hd8, hl8, v8⟩ := hg8.via
    exact ⟨rfl, S8, hd8, hl8, HV7.out.trans v8, v8.blk HA7.out.1 HA7.out.2⟩)
   clear hw8 hwp hq
   go_wp2_with (first
    | (go_at_call 31; go_loud (refine HWT.out.mono ?_; rintro e w8 ⟨rfl, S8, hd8, hl8, v8, k8⟩; have HC8 := zA hd8; have HL8 := zA hl8; have HV8 := zA v8; have HA8 := zA k8; clear hd8 hl8 v8 k8)))
   ·have hq : (e8 == 0) = true := by assumption
    have HR5 := zA (HR4.out.trans (if_neg (by simpa using hq)))
    have hwp := wrF_pend ok11 [] D8
    generalize hw9 : wrF [⟨1, 1⟩] [] D8 = w9_ at HR5 hwp
    obtain ⟨e9, D9⟩ := w9_
    simp only at HR5 hwp
    have hsb8 : ∀ k, S8 k → k < w8.heap.size := fun k q => by
     obtain ⟨_, _, _, hc⟩ := HC8.out
     exact (hc.sb k q).2
    have HW2 := zA (show Calls Tryz.prog 98 #[.pointer (some ⟨gd, 0, none⟩), .slice (some ⟨w8.heap.size, 0, none⟩) 1 1, .string ⟨#[]⟩] (w8.alloc (.cells #[.int .i64 1, .int .i64 1] 87)) fun e w' => e = .returned (.int .i64 e9) ∧ ∃ S9, RefAt w0 w' S9 gd D9 ∧ Below w0.heap.size w0 w' ∧ Via w w' S S S9 S9 ∧ (w'.heap[g1 + 1]? = some (.cells #[.int .u64 1, .int .i64 D.now.length, .int .i64 5, .slice (some ⟨g1, 0, none⟩) 1 1] 78 (0, 0)) ∧ ¬ S9 (g1 + 1)) from by
     have hba := zJ (Below.refl w8.heap.size w8) (.cells #[.int .i64 1, .int .i64 1] 87)
     refine (rlay.calls gd S8 D8 [⟨1, 1⟩] [] (some ⟨w8.heap.size, 0, none⟩) 1 (mask S8 _) w0 _ (HC8.out.past hba) (below_then HL8.out (below_size HL8.out) hba) (fun W' hk => sub_use hk fun k q => q) (lit2 (fun q => Nat.lt_irrefl _ (hsb8 _ q)) (blk_new w8 _)) ok11 (show 1 ≤ 8192 by decide) (by decide) (by have := HP8.out; simp [Th.sumF]; omega)).mono ?_
     rw [hw9]
     rintro e w9 ⟨rfl, hg9⟩
     obtain ⟨S9, hd9, hl9, v9⟩ := hg9.via
     exact ⟨rfl, S9, hd9, hl9, (HV8.out.past hba).trans v9, v9.blk (blk_below HA8.out.1 hba) HA8.out.2⟩)
    clear hw9 hwp hq hsb8
    go_wp2_with (first
     | (go_at_call 98; go_loud (refine HW2.out.mono ?_; rintro e w9 ⟨rfl, S9, hd9, hl9, v9, k9⟩; have HC9 := zA hd9; have HL9 := zA hl9; have HV9 := zA v9; have HA9 := zA k9; clear hd9 hl9 v9 k9)))
    ·have hq : (e9 == 0) = true := by assumption
     have HR6 := zA (HR5.out.trans (if_neg (by simpa using hq)))
     generalize hfl : D9.rflush = fl at HR6
     obtain ⟨e10, D10⟩ := fl
     have HFL2 := zA (show Calls Tryz.prog 99 #[.pointer (some ⟨gd, 0, none⟩)] w9 fun e w' => e = .returned (.int .i64 e10) ∧ ∃ S7, RefAt w0 w' S7 gd D10 ∧ Below w0.heap.size w0 w' ∧ Via w w' S S S7 S7 ∧ (w'.heap[g1 + 1]? = some (.cells #[.int .u64 1, .int .i64 D.now.length, .int .i64 5, .slice (some ⟨g1, 0, none⟩) 1 1] 78 (0, 0)) ∧ ¬ S7 (g1 + 1)) from by
      refine (rflush.calls gd S9 D9 w0 w9 HC9.out HL9.out).mono ?_
      rw [hfl]
      rintro e w7 ⟨rfl, hg7⟩
      obtain ⟨S7, hd7, hl7, v7⟩ := hg7.via
      exact ⟨rfl, S7, hd7, hl7, HV9.out.trans v7, v7.blk HA9.out.1 HA9.out.2⟩)
     clear hfl hq
     go_wp2_with (first
      | (go_at_call 99; go_loud (refine HFL2.out.mono ?_; rintro e w10 ⟨rfl, S10, hd10, hl10, v10, m10⟩; have q0 := (show w10.cell? ⟨g1 + 1, 0, none⟩ = some (.int .u64 1) from (zN m10.1 0).trans rfl); have q1 := (show w10.cell? ⟨g1 + 1, 1, none⟩ = some (.int .i64 D.now.length) from (zN m10.1 1).trans rfl); have q2 := (show w10.cell? ⟨g1 + 1, 2, none⟩ = some (.int .i64 5) from (zN m10.1 2).trans rfl); have q3 := (show w10.cell? ⟨g1 + 1, 3, none⟩ = some (.slice (some ⟨g1, 0, none⟩) 1 1) from (zN m10.1 3).trans rfl); have HC10 := zA hd10; have HL10 := zA hl10; have HV10 := zA v10; clear hd10 hl10 v10 m10)))
     ·have hq : (e10 != 0) = true := by assumption
      go_ret2
      rw [HR6.out]
      exact ⟨HV10.out.rgrew HC10.out HL10.out, .inl ⟨by simpa using hq, rfl⟩⟩
     ·have hq : (e10 != 0) = false := by assumption
      go_ret2
      have hba := zJ (Below.refl w10.heap.size w10) (.cells #[.pointer (some ⟨gd, 0, none⟩), .int .u64 1, .int .i64 D.now.length, .int .i64 5, .slice (some ⟨g1, 0, none⟩) 1 1, .int .i64 0, .slice none 0 0, .int .i64 0] 81)
      rw [HR6.out]
      exact ⟨(HV10.out.past hba).rgrew (HC10.out.past hba) (below_then HL10.out (below_size HL10.out) hba), .inr ⟨by simpa using hq, _, rfl⟩⟩
    ·have hq : (e9 == 0) = false := by assumption
     go_ret2
     rw [HR5.out, if_pos (by simpa using hq)]
     exact ⟨HV9.out.rgrew HC9.out HL9.out, .inl ⟨by simpa using hq, rfl⟩⟩
   ·have hq : (e8 == 0) = false := by assumption
    go_ret2
    rw [HR4.out, if_pos (by simpa using hq)]
    exact ⟨HV8.out.rgrew HC8.out HL8.out, .inl ⟨by simpa using hq, rfl⟩⟩
  ·have hq : (e7 == 0) = false := by assumption
   go_ret2
   rw [HR3.out, if_pos (by simpa using hq)]
   exact ⟨HV7.out.rgrew HC7.out HL7.out, .inl ⟨by simpa using hq, rfl⟩⟩
 ·have hq : (e6 == 0) = false := by assumption
  go_ret2
  rw [HR.out, if_pos (by simpa using hq)]
  exact ⟨HV6.out.rgrew HC6.out HL6.out, .inl ⟨by simpa using hq, rfl⟩⟩
structure Good (n : Nat) (D : DV) : Prop where
 fine : Fine D
 len : D.now.length = n
 all : ∀ s ∈ D.now, s.size = 64
theorem flush_fine {D : DV} (h : Fine D) : D.flush = (0, { D with last := D.pend.foldl lay1 D.last, pend := [] }) := by
 unfold DV.flush
 rw [spend_fine h, if_neg (by rw [h.up]; decide), if_neg (fun h => h rfl)]
 unfold DV.laid DV.forgot
 rw [List.take_length]
theorem Good.flushed {n : Nat} {D : DV} (h : Good n D) : D.flush.1 = 0 ∧ Good n D.flush.2 ∧ D.flush.2.now = D.now ∧ D.flush.2.pend = [] := by
 rw [flush_fine h.fine]
 exact ⟨rfl, ⟨⟨h.fine.up, h.fine.free⟩, h.len, h.all⟩, rfl, rfl⟩
theorem Good.wrote {n : Nat} {D : DV} (h : Good n D) (a : Int) {s : ByteArray} (hs : s.size = 64) : Good n (D.wrote a s) := by
 refine ⟨h.fine.wrote a s, (wrote_len D a s).trans h.len, fun t ht => ?_⟩
 rcases List.mem_or_eq_of_mem_set (show t ∈ D.now.set a.toNat s from ht) with q | q
 ·exact h.all t q
 ·rw [q]; exact hs
theorem Good.wroteL {n : Nat} : ∀ (ps : List (Int × ByteArray)) {D : DV}, Good n D → (∀ p ∈ ps, p.2.size = 64) → Good n (Th.wroteL ps D)
 | [], _, h, _ => h
 | p :: t, _, h, hp => Good.wroteL t (h.wrote p.1 (hp p (List.mem_cons_self ..))) fun q hq => hp q (List.mem_cons_of_mem _ hq)
theorem wroteL_pend : ∀ (ps : List (Int × ByteArray)) (D : DV), (wroteL ps D).pend.length = D.pend.length + ps.length
 | [], _ => rfl
 | p :: t, D => by
  rw [show wroteL (p :: t) D = wroteL t (D.wrote p.1 p.2) from rfl, wroteL_pend t]
  show (D.pend ++ [(p.1, p.2)]).length + _ = _
  simp only [zO, List.length_cons, List.length_nil]
  omega
theorem wrF_good {n : Nat} {D : DV} (h : Good n D) {l : List Sp} (ho : OkL n l) {s : List UInt8} (hs : (s.length : Int) ≤ Th.sumF l * 64) : wrF l s D = (0, wroteL (zipL (secs l) (padded l s)) D) ∧ Good n (wroteL (zipL (secs l) (padded l s)) D) ∧ (wroteL (zipL (secs l) (padded l s)) D).pend.length = D.pend.length + (Th.sumF l).toNat := by
 have hl := padded_len ho hs
 have hz : ∀ p ∈ zipL (secs l) (padded l s), 0 ≤ p.1 ∧ p.1 < D.now.length ∧ p.2.size = 64 := fun p hp => by
  obtain ⟨h1, h2⟩ := zipL_mem _ _ p (by omega) hp
  have h3 := secs_in ho h1
  exact ⟨h3.1, by rw [h.len]; exact h3.2, h2⟩
 refine ⟨writes_fine _ D h.fine hz, h.wroteL _ fun p hp => (hz p hp).2.2, ?_⟩
 rw [wroteL_pend, zipL_len]
 have := secs_len ho
 omega
theorem new_good {n : Nat} : Good n (newDV n) := ⟨⟨rfl, rfl⟩, List.length_replicate .., fun s hs => by
 rw [(List.mem_replicate.1 hs).2]
 show (Th.B (Th.zeros 64)).size = 64
 rw [B_size, zeros_len]⟩
theorem write_good {n : Nat} {D : DV} (h : Good n D) {a : Int} (h0 : 0 ≤ a) (h1 : a < n) {s : ByteArray} (hs : s.size = 64) : D.write a s = (0, D.wrote a s) := write_fine h.fine h0 (by rw [h.len]; exact h1) hs
theorem rest_ok {l : List Sp} {size : Int} (h1 : Sized size) (h2 : OkL size l) (h3 : ∀ x, cnt l x ≤ 1) : OkL size (restV l size) ∧ Canon (restV l size) ∧ ∀ x, cnt (restV l size) x + cnt l x = if 0 ≤ x ∧ x < size then 1 else 0 := by
 obtain ⟨z, hz, z1, z2, z3⟩ := sorted_ok h1 h2 h3
 obtain ⟨g1, g2, g3⟩ := gapsF_spec h1.1 h1.2 z1 z2
 obtain ⟨j1, j2, j3⟩ := joinF_spec h1.2 g1 g2
 unfold restV
 rw [hz, if_pos rfl]
 show OkL size (joinF (gapsF size z)) ∧ Canon (joinF (gapsF size z)) ∧ ∀ x, cnt (joinF (gapsF size z)) x + cnt l x = if 0 ≤ x ∧ x < size then 1 else 0
 exact ⟨j1, j2, fun x => by have := j3 x; have := g3 x; have := z3 x; omega⟩
theorem ok1 {size a m : Int} (h0 : 0 < m) (h1 : 0 ≤ a) (h2 : a + m ≤ size) : OkL size [(⟨a, m⟩ : Sp)] := fun s hs => by
 obtain rfl := List.mem_singleton.1 hs
 exact ⟨h0, h1, h2⟩
theorem canon1 (s : Sp) : Canon [s] := List.Pairwise.cons (fun _ h => nomatch h) List.Pairwise.nil
theorem rest_new {n : Int} (h4 : 4 ≤ n) (h8 : n ≤ 8192) : restV [(⟨2, 1⟩ : Sp), ⟨0, 2⟩] n = [⟨3, n - 3⟩] := by
 have ho : OkL n [(⟨2, 1⟩ : Sp), ⟨0, 2⟩] := (ok1 (by decide) (by decide) (by omega)).cons ⟨by decide, by decide, by show (2 : Int) + 1 ≤ n; omega⟩ |> fun h => h
 have hc : ∀ x, cnt [(⟨2, 1⟩ : Sp), ⟨0, 2⟩] x = if 0 ≤ x ∧ x < 3 then 1 else 0 := fun x => by
  rw [cnt_cons, cnt_cons, cnt_nil]
  simp only
  repeat' split
  all_goals omega
 obtain ⟨r1, r2, r3⟩ := rest_ok (size := n) ⟨by omega, h8⟩ ho (fun x => by rw [hc]; split <;> omega)
 refine canon_unique r1 (ok1 (by omega) (by decide) (by omega)) r2 (canon1 _) fun x => ?_
 have := r3 x
 rw [hc] at this
 rw [cnt_one]
 simp only
 repeat' split at this
 all_goals split
 all_goals omega
theorem free_new {n : Nat} (h4 : 4 ≤ n) (h8 : n ≤ 8192) (b : Int) : freeV ⟨[], headF n, 0, b⟩ = [⟨3, n - 3⟩] := by
 show restV [(⟨2, 1⟩ : Sp), ⟨0, 2⟩] (n : Int) = _
 exact rest_new (by omega) (by omega)
def in1 (a n : Int) : List Sp := if n = 0 then [] else [⟨a, n⟩]
theorem take_one {a m n : Int} (h0 : 0 ≤ n) (h1 : n < m) (ha : 0 ≤ a) (hs : a + m ≤ 8192) : takeF [(⟨a, m⟩ : Sp)] n = (in1 a n, [⟨a + n, m - n⟩], true) := by
 have ho : OkL 8192 [(⟨a, m⟩ : Sp)] := ok1 (by omega) ha hs
 have ht : totF [(⟨a, m⟩ : Sp)] = m := by
  rw [totF_sum (by decide) (by decide) ho (by simp)]
  simp [Th.sumF]
 rw [takeF_ok (by decide) ho h0 (by omega) (by rw [ht]; omega)]
 unfold in1
 by_cases hn : n = 0
 ·subst hn
  rw [tk_zero (Int.le_refl _), if_pos rfl, Int.add_zero, Int.sub_zero]
 ·rw [if_neg hn]
  unfold tk
  rw [if_neg (by omega), if_pos (show n < (⟨a, m⟩ : Sp).f1 from h1)]
theorem in1_ok {size a n : Int} (h0 : 0 ≤ n) (ha : 0 ≤ a) (hs : a + n ≤ size) : OkL size (in1 a n) ∧ Th.sumF (in1 a n) = n ∧ Canon (in1 a n) ∧ (in1 a n).length ≤ 1 ∧ ∀ x, x ∈ secs (in1 a n) → a ≤ x ∧ x < a + n := by
 unfold in1
 split
 ·rename_i h
  subst h
  exact ⟨OkL.nil, rfl, List.Pairwise.nil, Nat.zero_le _, fun x hx => nomatch hx⟩
 ·refine ⟨ok1 (by omega) ha hs, by simp [Th.sumF], canon1 _, Nat.le_refl _, fun x hx => ?_⟩
  obtain ⟨s, hs', h1, h2⟩ := mem_secs.1 hx
  obtain rfl := List.mem_singleton.1 hs'
  exact ⟨h1, h2⟩
theorem low_one {a m n : Int} (h : n ≤ m) : lowV [(⟨a, m⟩ : Sp)] n = ([⟨a, n⟩], (if m > n then [⟨a + n, m - n⟩] else []), true) := by
 have hf : [(⟨a, m⟩ : Sp)].findIdx? (fun s => decide (s.f1 ≥ n)) = some 0 := by
  rw [List.findIdx?_cons, if_pos (by simpa using h)]
 rw [lowV_some (i := 0) (by simp) hf]
 simp
theorem format_good {n : Nat} (h4 : 4 ≤ n) (h8 : n ≤ 8192) : (formatV (newDV n)).1 = 0 ∧ Good n (formatV (newDV n)).2 ∧ (formatV (newDV n)).2.pend = [] := by
 obtain ⟨a1, a2, -⟩ := wrF_good (new_good (n := n)) (l := [⟨2, 1⟩]) (ok1 (by decide) (by decide) (by omega)) (s := (putV []).1) (by rw [putNil.2]; decide)
 obtain ⟨b1, b2, b3, b4⟩ := a2.flushed
 have hn : (newDV n).now.length = n := new_good.len
 obtain ⟨c1, c2, -⟩ := wrF_good b2 (l := [⟨0, 2⟩]) (ok1 (by decide) (by decide) (by omega)) (s := (headP (headF n)).1) (by have := headP_le (headF n); simp [Th.sumF]; omega)
 obtain ⟨d1, d2, d3, d4⟩ := c2.flushed
 have e : formatV (newDV n) = (wroteL (zipL (secs [⟨0, 2⟩]) (padded [⟨0, 2⟩] (headP (headF n)).1)) (wroteL (zipL (secs [⟨2, 1⟩]) (padded [⟨2, 1⟩] (putV []).1)) (newDV n)).flush.2).flush := by
  unfold formatV
  rw [hn, if_neg (by omega), a1, if_neg (fun h => h rfl)]
  unfold format2
  simp only
  rw [b1, if_neg (fun h => h rfl)]
  unfold format3
  rw [c1, if_neg (fun h => h rfl)]
 rw [e]
 exact ⟨d1, d2, d4⟩
theorem headR_one {g n size a m : Int} (h2 : 2 ≤ n) (h8 : n ≤ 8192) (hs : 0 ≤ size) (ha : 2 ≤ a) (hm : 0 < m) (hn : a + m ≤ n) (hr : size ≤ m * 64 ∧ m * 64 - size < 64) : headR ⟨g, n, size, [⟨a, m⟩]⟩ = true := by
 have hri : rightF n (-1) [(⟨a, m⟩ : Sp)] = true := (rightF_iff ⟨by omega, h8⟩ _ _).2 ⟨ok1 hm (by omega) hn, canon1 _, fun s hs => by
  obtain rfl := List.mem_singleton.1 hs
  show (-1 : Int) < a
  omega⟩
 unfold headR roomB
 simp only [hri]
 simp [lowS, Th.sumF]
 omega
theorem well_one {a : List UInt8} {k : Int} {m : Nat} (hl : labB a = true) (hm : m ≤ 20000) (h0 : 0 ≤ k) (hb : 3 + k ≤ 8192) (h1 : (m : Int) ≤ k * 64) (h2 : k * 64 - m < 64) : wellB ⟨B a, m, in1 3 k⟩ = true := by
 obtain ⟨i1, i2, i3, i4, i5⟩ := in1_ok (size := 8192) (a := 3) h0 (by decide) hb
 have hri : rightF 8192 (-1) (in1 3 k) = true := (rightF_iff sz8 _ _).2 ⟨i1, i3, fun s hs => by have := (i1 s hs).2.1; omega⟩
 unfold wellB
 simp only [hri, B_data, hl, i2]
 simp
 omega
theorem find_one (a b : List UInt8) (k : Int) (l : List Sp) : findV (B a) [⟨B b, k, l⟩] = if a = b then (⟨B b, k, l⟩, true) else (z85, false) := by
 unfold findV
 rw [List.findIdx?_cons]
 by_cases h : a = b
 ·subst h
  rw [if_pos (by simp), if_pos rfl]
  rfl
 ·rw [if_neg (by simp [B_toList]; exact fun q => h q.symm), if_neg h]
  rfl
theorem rflush_fine {D : DV} (h : Fine D) : D.rflush = (0, { D with last := D.now, pend := [] }) := by
 unfold DV.rflush
 rw [spend_fine h, if_neg (by rw [h.up]; decide), if_neg (fun h => h rfl)]
theorem Good.rflushed {n : Nat} {D : DV} (h : Good n D) : D.rflush.1 = 0 ∧ Good n D.rflush.2 := by
 rw [rflush_fine h.fine]
 exact ⟨rfl, ⟨⟨h.fine.up, h.fine.free⟩, h.len, h.all⟩⟩
theorem rformat_good {n : Nat} (h4 : 4 ≤ n) (h8 : n ≤ 8192) {es ts : List UInt8} (he : es.length ≤ 64) (ht : ts.length = 64) : (rformatV (newDV n) es ts).1 = 0 := by
 obtain ⟨a1, a2, -⟩ := wrF_good (new_good (n := n)) (l := [⟨2, 1⟩]) (ok1 (by decide) (by decide) (by omega)) (s := es) (by simp [Th.sumF]; omega)
 obtain ⟨b1, b2⟩ := a2.rflushed
 have hsz : (B ts).size = 64 := by rw [B_size, ht]
 have c1 := write_good b2 (a := 0) (by decide) (by omega) hsz
 have c2 := b2.wrote 0 hsz
 obtain ⟨d1, d2, -⟩ := wrF_good c2 (l := [⟨1, 1⟩]) (ok1 (by decide) (by decide) (by omega)) (s := []) (by simp [Th.sumF])
 obtain ⟨e1, e2⟩ := d2.rflushed
 have hn : (newDV n).now.length = n := new_good.len
 unfold rformatV
 rw [hn, if_neg (by omega), a1, if_neg (fun h => h rfl)]
 simp only
 rw [b1, if_neg (fun h => h rfl), c1, if_neg (fun h => h rfl)]
 simp only
 rw [d1, if_neg (fun h => h rfl)]
 exact e1
theorem VolSys.keep {w0 W W' : World} {S M T : Nat → Prop} {gd gv : Nat} {D : DV} {V : VV} (h : VolSys w0 W S M gd gv D V) (hk : Kept W W' T) (hb : Below w0.heap.size w0 W') (hM : ∀ k, T k → M k) (hS : ∀ k, S k → ¬ T k) (hv : ¬ T gv) : VolSys w0 W' S M gd gv D V :=
 ⟨h.dev.kept hk hS, hb, h.vol.move hk hM (fun _ _ q => q) hv, fun k q => ⟨(h.mb k q).1, Nat.lt_of_lt_of_le (h.mb k q).2 hk.1⟩, h.ms, h.mv⟩
def bothCells (gd gm gv gw : Nat) : Array Value := #[.pointer (some ⟨gd, 0, none⟩), .pointer (some ⟨gm, 0, none⟩), .pointer (some ⟨gv, 0, none⟩), .pointer (some ⟨gw, 0, none⟩), .pointer none, .pointer none]
def BegTo (w0 w' : World) (n : Nat) (e : Ending) : Prop := ∃ gb gd gm gv gw S M, e = .returned (.tuple #[.pointer (some ⟨gb, 0, none⟩), .bool true]) ∧ w'.heap[gb]? = some (.cells (bothCells gd gm gv gw) 33 (0, 0)) ∧ w0.heap.size ≤ gb ∧ ¬ M gb ∧ VolSys w0 w' S M gd gv (formatV (newDV n)).2 (fmtV (newDV n))
set_option maxHeartbeats 8000000 in
set_option maxRecDepth 100000 in
theorem begun.calls (n : Nat) (w0 w : World) (h4 : 4 ≤ n) (h8 : n ≤ 8192) (h6 : r6is n = true) (hB : Below w0.heap.size w0 w) (ht : TabsW w0) :
  Calls Tryz.prog 11 #[.int .i64 n] w fun e w' => BegTo w0 w' n e := by
 have hln : (newDV n).now.length = n := new_good.len
 have HDN := zA (dnew.calls n (by omega) h8 w0 w hB)
 have HRN := zA (fun W (hW : Below w.heap.size w W) => rnew.calls n (by omega) h8 w0 W (below_then hB (below_size hB) hW))
 have HFM := zA (fun S gd W (hC : DevAt w0 W S gd (newDV n)) (hW : Below w0.heap.size w0 W) => vformat.calls S gd (newDV n) w0 W hC hW ht (by show (0 : Nat) < 900000; decide))
 have HRF := zA (fun S gd W (hC : RefAt w0 W S gd (newDV n)) (hW : Below w0.heap.size w0 W) => rformat.calls S gd (newDV n) (r6ts n) w0 W hC hW (by show (0 : Nat) < 900000; decide) (by rw [hln]; exact h6) (by rw [hln]) (by rw [hln]; exact h4))
 have hf0 := (format_good h4 h8).1
 have hr0 := rformat_good h4 h8 (es := (putV []).1) (by rw [putNil.2]; decide) (r6ts_len h6)
 rw [hr0] at HRF
 unfold FmtTo at HFM
 rw [hf0] at HFM
 have HB := zA hB
 have hu := Tryz.underlying33
 unfold BegTo
 generalize (formatV (newDV n)).2 = DF at HFM ⊢
 generalize fmtV (newDV n) = VF at HFM ⊢
 generalize (rformatV (newDV n) (putV []).1 (r6ts n)).2 = DR at HRF
 clear h6 hB ht h4 h8 hln hf0 hr0
 go_enter Tryz.func11, Tryz.ntmps11
 go_wp2_with (first
  | (go_at_call 39; go_loud (refine HDN.out.mono ?_; rintro e w1 ⟨gd, S, rfl, hd1, hs1, hb1⟩; have HD1 := zA hd1; have HS1 := zA hs1; have HB1 := zA hb1; clear hd1 hs1 hb1))
  | (go_at_call 40; go_loud (refine (HRN.out w1 HB1.out).mono ?_; rintro e w2 ⟨gm, S2, rfl, hd2, hs2, hb2⟩; have HD2 := zA hd2; have HS2 := zA hs2; have HB2 := zA hb2; clear hd2 hs2 hb2)))
 have hbw2 : Below w0.heap.size w0 w2 := below_then (below_then HB.out (below_size HB.out) HB1.out) (Nat.le_trans (below_size HB.out) HB1.out.size) HB2.out
 have HW2 := zA hbw2
 have HC2 := zA (HD1.out.past HB2.out)
 clear hbw2
 go_wp2_with (first
  | (go_at_call 41; go_loud (refine (HFM.out S gd w2 HC2.out HW2.out).mono ?_; rintro e w3 hq; rcases hq with ⟨hq, -⟩ | ⟨-, gv, S3, M3, rfl, hv3, hs3, hm3, hk3⟩; (case inl => exact absurd rfl hq); have HV3 := zA hv3; have HS3 := zA (And.intro hs3 hm3); have HK3 := zA hk3; clear hv3 hs3 hm3 hk3)))
 have hsep : ∀ k, S2 k → w0.heap.size ≤ k ∧ k < w2.heap.size ∧ ¬ S k := fun k q => by
  have h1 := HD2.out.sb k q
  have h2 := HS2.out k q
  exact ⟨h1.1, h1.2, fun q2 => by have := (HD1.out.sb k q2).2; omega⟩
 have hsys3 := HV3.out S2 hsep
 have hsys0 := HV3.out (fun _ => False) fun _ q => q.elim
 have hno : ∀ k, M3 k → ¬ S2 k := fun k q q2 => by
  have h1 := hsep k q2
  rcases HS3.out.2 k q with h | h
  ·exact h1.2.2 h
  ·omega
 have hS3 : ∀ k, S3 k → ¬ S2 k := fun k q => (hsys0.ms k q).elim (hno k) fun q => q.elim
 have hgv : ¬ S2 gv := hsys0.mv.1.elim (hno gv) fun q => q.elim
 have HR3 := zA (HD2.out.kept HK3.out fun k q q2 => (hsep k q).2.2 q2)
 have HSY := zA hsys3
 have HNO := zA (And.intro hS3 hgv)
 clear hsep hsys3 hsys0 hno hS3 hgv
 go_wp2_with (first
  | (go_at_call 42; go_loud (refine (HRF.out S2 gm w3 HR3.out HSY.out.bel).mono ?_; rintro e w4 ⟨hg4, hq⟩; rcases hq with ⟨hq, -⟩ | ⟨-, gw, rfl⟩; (case inl => exact absurd rfl hq); obtain ⟨S4, hd4, hb4, hv4⟩ := hg4.via; have HSY4 := zA (HSY.out.keep hv4.2.2.2 hb4 (fun k q => .inr q) HNO.out.1 HNO.out.2); clear hg4 hd4 hb4 hv4)))
 go_ret2
 refine ⟨w4.heap.size, gd, gm, gv, gw, S3, _, rfl, blk_new w4 _, below_size HSY4.out.bel, fun q => Nat.lt_irrefl _ (HSY4.out.mb _ q).2, HSY4.out.past (zJ (Below.refl _ _) _)⟩
def rightV (l : List Fi) (size : Int) (own : List Sp) : Bool := dirB l && decide ((sortedF (usedV l ++ (own ++ [(⟨0, 2⟩ : Sp)])) size).2 = 0)
def VV.zero : VV := ⟨[], HV.zero, 0, 0⟩
def mount4 (h : HV) (slot : Int) (t : List Fi × Int) : Int × VV := if t.2 ≠ 0 then (2, VV.zero) else if rightV t.1 h.sect h.spans = false then (2, VV.zero) else (0, ⟨t.1, h, slot, 0⟩)
def mount3 (h : HV) (slot : Int) (r : List UInt8 × Int) : Int × VV := if r.2 ≠ 0 then (r.2, VV.zero) else mount4 h slot (takeV r.1)
def mount2 (D : DV) (c : HV × Int × Int) : Int × VV := if c.2.2 ≠ 0 then (2, VV.zero) else if c.1.sect ≠ D.now.length then (2, VV.zero) else mount3 c.1 c.2.1 (rdF c.1.spans c.1.size.toNat D)
def mountV (D : DV) : Int × VV := if (rdF [⟨0, 2⟩] 128 D).2 ≠ 0 then ((rdF [⟨0, 2⟩] 128 D).2, VV.zero) else mount2 D (chooseV ((rdF [⟨0, 2⟩] 128 D).1.take 64) ((rdF [⟨0, 2⟩] 128 D).1.drop 64))
theorem right_v (l : List Fi) (hb : BdL l) (hl : l.length ≤ 1000) (size : Int) (own : List Sp) (ho : own.length ≤ 100000) : Evt (fun k => dir_Right.f k l size own) (rightV l size own) := by
 have hul := used_len hb
 have e1 := directory_ev l hb
 unfold dir_Right.f rightV
 cases hd : dirB l with
 | false =>
  rw [hd] at e1
  exact Evt.bind e1 (Evt.neg (by decide) (Evt.val _))
 | true =>
  rw [hd] at e1
  have hcat : api_Span_86.f [usedV l, own, [(⟨0, 2⟩ : Sp)]] = some (usedV l ++ (own ++ [(⟨0, 2⟩ : Sp)])) := by
   unfold api_Span_86.f
   rw [if_pos ⟨by simp, by unfold sumLen; simp; omega⟩]
   simp
  have hlen : (usedV l ++ (own ++ [(⟨0, 2⟩ : Sp)])).length < 8796092000000 := by simp only [zO, List.length_cons, List.length_nil]; omega
  have hn : ∃ x, span_Norm.f (usedV l ++ (own ++ [(⟨0, 2⟩ : Sp)])) size = some (x, (sortedF (usedV l ++ (own ++ [(⟨0, 2⟩ : Sp)])) size).2) := by
   by_cases h1 : Sized size ∧ OkL size (usedV l ++ (own ++ [(⟨0, 2⟩ : Sp)]))
   ·by_cases h3 : ∀ x, cnt (usedV l ++ (own ++ [(⟨0, 2⟩ : Sp)])) x ≤ 1
    ·obtain ⟨z, hz, -⟩ := sorted_ok h1.1 h1.2 h3
     rw [hz]
     obtain ⟨a, b, ha, -⟩ := norm_ok hlen h1.1 h1.2 h3
     exact ⟨_, ha⟩
    ·rw [sorted_twice h1.1 h1.2 h3]
     exact ⟨_, (norm_twice hlen h1.1 h1.2 h3).1⟩
   ·rw [sorted_bad h1]
    exact ⟨_, (norm_bad hlen h1).1⟩
  obtain ⟨x, hx⟩ := hn
  refine Evt.bind e1 (Evt.pos rfl (Evt.bind (used_ev l hb) (Evt.bind' hcat (Evt.bind' hx ?_))))
  refine Evt.val' ?_
  generalize (sortedF (usedV l ++ (own ++ [(⟨0, 2⟩ : Sp)])) size).2 = q
  cases h : q == 0 <;> simp_all
theorem headT_good {s : List UInt8} (h : (headT s).2 = 0) : headR (headT s).1 = true := by
 unfold headT at h ⊢
 by_cases h1 : s.length ≠ 64
 ·rw [if_pos h1] at h; exact absurd h (by show (1 : Int) ≠ 0; decide)
 ·rw [if_neg h1] at h ⊢
  by_cases h2 : (unsV s).2 ≠ 0
  ·rw [if_pos h2] at h; exact absurd h h2
  ·rw [if_neg h2] at h ⊢
   by_cases h3 : hgood (hparse (unsV s).1) = true
   ·rw [if_pos h3]
    unfold hgood at h3
    simp only [Bool.and_eq_true] at h3
    exact h3.2.2.2
   ·rw [if_neg h3] at h; exact absurd h (by show (2 : Int) ≠ 0; decide)
theorem choose_good {a b : List UInt8} (h : (chooseV a b).2.2 = 0) : headR (chooseV a b).1 = true := by
 unfold chooseV at h ⊢
 by_cases h1 : (headT a).2 = 0
 ·rw [if_pos h1]
  split
  ·rename_i h2
   exact headT_good h2.1
  ·exact headT_good h1
 ·rw [if_neg h1] at h ⊢
  by_cases h2 : (headT b).2 = 0
  ·rw [if_pos h2]
   exact headT_good h2
  ·rw [if_neg h2] at h
   exact absurd h (by show (2 : Int) ≠ 0; decide)
theorem sum_le {size : Int} (h1 : Sized size) {l : List Sp} (h2 : OkL size l) (h3 : ∀ x, cnt l x ≤ 1) : Th.sumF l ≤ size := by
 obtain ⟨z, hz, z1, z2, z3⟩ := sorted_ok h1 h2 h3
 obtain ⟨g1, g2, g3⟩ := gapsF_spec h1.1 h1.2 z1 z2
 have e := sumF_compl (by obtain ⟨_, _⟩ := h1; omega) z1 g1 g3
 have e2 := sumF_of_cnt z1 h2 z3
 have e3 := (sumF_bound g1 (by obtain ⟨_, _⟩ := h1; omega)).1
 omega
theorem headR_facts {h : HV} (hr : headR h = true) (hs : h.sect ≤ 8192) : OkL 8192 h.spans ∧ h.spans.length ≤ 8 ∧ 0 ≤ h.size ∧ h.size ≤ Th.sumF h.spans * 64 ∧ Th.sumF h.spans ≤ h.sect := by
 unfold headR roomB at hr
 simp only [Bool.and_eq_true, Bool.not_eq_true', decide_eq_false_iff_not, decide_eq_true_eq] at hr
 obtain ⟨h1, h2, h3, h4, h5, h6, h7⟩ := hr
 have hz : Sized h.sect := ⟨by omega, hs⟩
 obtain ⟨r1, r2, r3⟩ := (rightF_iff hz _ _).1 h4
 exact ⟨r1.mono hs, by omega, by omega, h6, sum_le hz r1 (cnt_dis r1 r2.dis)⟩
theorem reads_len {D : DV} (h64 : ∀ s ∈ D.now, s.size = 64) : ∀ l : List Int, (reads l D).2 = 0 → (reads l D).1.length = 64 * l.length
 | [], _ => rfl
 | a :: t, h => by
  have ih := reads_len h64 t
  unfold reads at h ⊢
  split
  ·rename_i h0
   rw [if_pos h0] at h
   split
   ·rename_i h1
    have h9 : (D.read a).1.data.size = 64 := read_len h64 h0
    have h8 := ih h1
    simp only [zO, List.length_cons, Array.length_toList]
    omega
   ·rename_i h1
    rw [if_neg h1] at h
    exact absurd h h1
  ·rename_i h0
   rw [if_neg h0] at h
   exact absurd h h0
theorem rdF_len {D : DV} (h64 : ∀ s ∈ D.now, s.size = 64) {l : List Sp} {size : Int} (ho : OkL size l) {n : Nat} (hn : (n : Int) ≤ Th.sumF l * 64) (h : (rdF l n D).2 = 0) : (rdF l n D).1.length = n := by
 have hl := secs_len ho
 unfold rdF at h ⊢
 split
 ·rename_i h0
  have := reads_len h64 _ h0
  simp only [List.length_take]
  omega
 ·rename_i h0
  rw [if_neg h0] at h
  exact absurd h h0
theorem takeV_ok (s : List UInt8) (h : s.length ≤ 100000) : BdL (takeV s).1 ∧ (takeV s).1.length ≤ 1000 := by
 by_cases h0 : (takeV s).2 = 0
 ·have hp := put_take h0
  have hd : dirB (takeV s).1 = true := by
   unfold putV at hp
   by_cases hd : dirB (takeV s).1 = true
   ·exact hd
   ·rw [if_neg hd] at hp; cases hp
  obtain ⟨h1, h2⟩ := dirB_well hd
  refine ⟨⟨by omega, fun f hf => ?_⟩, by omega⟩
  have := well_fits (h2 f hf)
  unfold Fits at this
  exact ⟨by omega, by omega⟩
 ·rw [take_err h0]
  exact ⟨⟨by decide, fun f hf => nomatch hf⟩, by decide⟩
def MntTo (w0 w w' : World) (S : Nat → Prop) (gd : Nat) (D : DV) (R : Int × VV) (e : Ending) : Prop :=
 Below w.heap.size w w' ∧ ((R.1 ≠ 0 ∧ e = .returned (.tuple #[.pointer none, .int .i64 R.1])) ∨
 (R.1 = 0 ∧ ∃ gv, e = .returned (.tuple #[.pointer (some ⟨gv, 0, none⟩), .int .i64 0]) ∧ w.heap.size ≤ gv ∧ ∀ X : Nat → Prop, (∀ k, X k → w0.heap.size ≤ k ∧ k < w.heap.size) → (∀ k, S k → X k) → VolSys w0 w' S (fun k => X k ∨ k = gv) gd gv D R.2))
structure MHd (w wc : World) (gh : Nat) (hg hs hz : Int) (hl : List Sp) (A : Option Addr) (c : Nat) : Prop where
 bel : Below w.heap.size w wc
 blk : wc.heap[gh]? = some (.cells #[.int .u64 hg, .int .i64 hs, .int .i64 hz, .slice A hl.length c] 46 (0, 0))
 lo : w.heap.size ≤ gh
 cap : hl.length ≤ c
 row : Kd.C k87 (mask (fun k => k < w.heap.size) wc) A hl.length hl
theorem row_keep {α : Type} {d : Kd α} (hd : Mono d) {T T' K0 : Nat → Prop} {w2 W' : World} {A : Option Addr} {l : List α} (h : d.C (mask T w2) A l.length l) (hk : Kept w2 W' K0) (hg : ∀ k, K0 k → T k ∨ w2.heap.size ≤ k) (hT : ∀ k, T' k → T k ∨ w2.heap.size ≤ k) : d.C (mask T' W') A l.length l :=
 hd.C (fun a v q => by
  obtain ⟨q1, q2⟩ := mask_cell q
  have hlt := zB w2 a q1
  exact cell_mask (kept_cell hk q1 fun e => (hg _ e).elim q2 fun g => by omega) fun q3 => (hT _ q3).elim q2 fun g => by omega) h
theorem mhd_new {w w1 w2 : World} {hg hs hz : Int} {hl : List Sp} {A : Option Addr} {c : Nat} (hb1 : Below w.heap.size w w1) (hb2 : Below w1.heap.size w1 w2) (hc : hl.length ≤ c ∧ Kd.C k87 (mask (fun k => k < w1.heap.size) w2) A hl.length hl) : MHd w (w2.alloc (.cells #[.int .u64 hg, .int .i64 hs, .int .i64 hz, .slice A hl.length c] 46)) w2.heap.size hg hs hz hl A c :=
 ⟨zJ (zL hb1 hb2) _, blk_new w2 _, Nat.le_trans hb1.size hb2.size, hc.1, row_keep mono_span hc.2 (zP (zJ (Below.refl _ w2) _) (fun _ => False)) (fun k q => q.elim) fun k q => .inl (Nat.lt_of_lt_of_le q hb1.size)⟩
theorem mhd_old {w w1 w2 : World} {hg hs hz : Int} {hl : List Sp} {A : Option Addr} {c : Nat} (hb1 : Below w.heap.size w w1) (hb2 : Below (w1.alloc (.cells #[.int .u64 0, .int .i64 0, .int .i64 0, .slice none 0 0] 46)).heap.size (w1.alloc (.cells #[.int .u64 0, .int .i64 0, .int .i64 0, .slice none 0 0] 46)) w2) (hc : hl.length ≤ c ∧ Kd.C k87 (mask (fun k => k < (w1.alloc (.cells #[.int .u64 0, .int .i64 0, .int .i64 0, .slice none 0 0] 46)).heap.size) w2) A hl.length hl) :
  MHd w ((((w2.setCell ⟨w1.heap.size, 0, none⟩ (.int .u64 hg)).setCell ⟨w1.heap.size, 1, none⟩ (.int .i64 hs)).setCell ⟨w1.heap.size, 2, none⟩ (.int .i64 hz)).setCell ⟨w1.heap.size, 3, none⟩ (.slice A hl.length c)) w1.heap.size hg hs hz hl A c := by
 have hlt : w1.heap.size < (w1.alloc (.cells #[.int .u64 0, .int .i64 0, .int .i64 0, .slice none 0 0] 46)).heap.size := by simp
 have hbb : Below w.heap.size w w2 := zL (zJ hb1 _) hb2
 have hk : Kept w2 ((((w2.setCell ⟨w1.heap.size, 0, none⟩ (.int .u64 hg)).setCell ⟨w1.heap.size, 1, none⟩ (.int .i64 hs)).setCell ⟨w1.heap.size, 2, none⟩ (.int .i64 hz)).setCell ⟨w1.heap.size, 3, none⟩ (.slice A hl.length c)) (· = w1.heap.size) := kept_put4 (w := w1) (T := (· = w1.heap.size)) (Kept.refl w2 _) rfl _ _ _ _
 exact ⟨below_set (below_set (below_set (below_set hbb hb1.size) hb1.size) hb1.size) hb1.size, blk_put4 (blk_below (blk_new w1 _) hb2) _ _ _ _, hb1.size, hc.1, row_keep mono_span hc.2 hk (fun k q => .inl (by rw [q]; exact hlt)) fun k q => .inl (Nat.lt_of_lt_of_le q (Nat.le_trans hb1.size (Nat.le_of_lt hlt)))⟩
set_option maxHeartbeats 8000000 in
set_option maxRecDepth 100000 in
theorem vmount.calls (S : Nat → Prop) (gd : Nat) (D : DV) (w0 w : World) (hC : DevAt w0 w S gd D) (hB : Below w0.heap.size w0 w) (ht : TabsW w0) (h64 : ∀ s ∈ D.now, s.size = 64) (hn : D.now.length ≤ 1000) :
  Calls Tryz.prog 23 #[.pointer (some ⟨gd, 0, none⟩)] w fun e w' => MntTo w0 w w' S gd D (mountV D) e := by
 have HDV := zA hC
 have HBW := zA hB
 have HTB := zA ht
 have H64 := zA h64
 have HNN := zA hn
 have HSC := zA (fun W (hW : Below w.heap.size w W) => dsectors.calls gd S D w0 W (hC.past hW))
 have HRD1 := zA (show Calls Tryz.prog 54 #[.pointer (some ⟨gd, 0, none⟩), .slice (some ⟨w.heap.size, 0, none⟩) 1 1, .int .i64 128] (w.alloc (.cells #[.int .i64 0, .int .i64 2] 87)) fun e w' => e = .returned (.tuple #[.string (B (rdF [⟨0, 2⟩] 128 D).1), .int .i64 (rdF [⟨0, 2⟩] 128 D).2]) ∧ Below w.heap.size w w' from by
  refine (vread.calls gd S D [⟨0, 2⟩] 128 _ 1 w0 _ (hC.past (zJ (Below.refl _ w) _)) (lit_row (blk_new w _)) ok02 (by decide) h64 (by decide) (by decide)).mono ?_
  rintro e w' ⟨rfl, h⟩
  exact ⟨rfl, zL (zJ (Below.refl _ w) _) h⟩)
 have HL1 := zA (show (rdF [⟨0, 2⟩] 128 D).2 = 0 → (rdF [⟨0, 2⟩] 128 D).1.length = 128 from fun h => rdF_len h64 (l := [⟨0, 2⟩]) ok02 (n := 128) (by decide) h)
 have HR := zA (show mountV D = if (rdF [⟨0, 2⟩] 128 D).2 ≠ 0 then ((rdF [⟨0, 2⟩] 128 D).2, VV.zero) else mount2 D (chooseV ((rdF [⟨0, 2⟩] 128 D).1.take 64) ((rdF [⟨0, 2⟩] 128 D).1.drop 64)) from rfl)
 generalize mountV D = R at HR ⊢
 generalize rdF [⟨0, 2⟩] 128 D = r0 at HRD1 HL1 HR
 obtain ⟨s0, e0⟩ := r0
 simp only at HRD1 HL1 HR
 clear hC hB ht h64 hn
 go_enter Tryz.func23, Tryz.ntmps23
 go_wp2_with (go_at_call 54; go_loud (refine HRD1.out.mono ?_; rintro e w1 ⟨rfl, hb1⟩; have HB1 := zA hb1; clear hb1))
 ·have hq : (e0 != 0) = true := by assumption
  go_ret2
  rw [HR.out, if_pos (by simpa using hq)]
  exact ⟨HB1.out, .inl ⟨by simpa using hq, rfl⟩⟩
 ·have hq : (e0 != 0) = false := by assumption
  have h0 : e0 = 0 := by simpa using hq
  have hln := HL1.out h0
  have hsz : (B s0).size = 128 := by rw [B_size, hln]
  have e1 : (B s0).extract 0 64 = B (s0.take 64) := B_upto s0 64
  have e2 : (B s0).extract 64 128 = B (s0.drop 64) := by rw [← B_from s0 64, hsz]
  have HR2 := zA (HR.out.trans (if_neg (fun h => h h0)))
  have HCH := zA (show ∀ W, Below w1.heap.size w1 W → Calls Tryz.prog 62 #[.string (B (s0.take 64)), .string (B (s0.drop 64))] W fun e w' => ∃ A c, e = .returned (.tuple #[.agg #[.int .u64 (chooseV (s0.take 64) (s0.drop 64)).1.gen, .int .i64 (chooseV (s0.take 64) (s0.drop 64)).1.sect, .int .i64 (chooseV (s0.take 64) (s0.drop 64)).1.size, .slice A (chooseV (s0.take 64) (s0.drop 64)).1.spans.length c], .int .i64 (chooseV (s0.take 64) (s0.drop 64)).2.1, .int .i64 (chooseV (s0.take 64) (s0.drop 64)).2.2]) ∧ w1.heap.size ≤ w'.heap.size ∧ (w1.heap.size < W.heap.size → ∀ j, w'.cell? ⟨w1.heap.size, j, none⟩ = W.cell? ⟨w1.heap.size, j, none⟩) ∧ (w1.heap.size < W.heap.size → ∀ j, w'.frozen? ⟨w1.heap.size, j, none⟩ = W.frozen? ⟨w1.heap.size, j, none⟩) ∧ (chooseV (s0.take 64) (s0.drop 64)).1.spans.length ≤ c ∧ Kd.C k87 (mask (fun k => k < W.heap.size) w') A (chooseV (s0.take 64) (s0.drop 64)).1.spans.length (chooseV (s0.take 64) (s0.drop 64)).1.spans ∧ Below W.heap.size W w' from fun W hW => by
   refine (hchoose.calls (s0.take 64) (s0.drop 64) W (by rw [List.length_take]; omega) (by rw [List.length_drop]; omega)).mono ?_
   rintro e w' ⟨A, c, rfl, h1, h2, h3⟩
   exact ⟨A, c, rfl, Nat.le_trans hW.size h3.size, fun h j => h3.cell h, fun h j => h3.frozen h, h1, h2, h3⟩)
  rw [← e1, ← e2] at HCH
  have HGD := zA (show (chooseV (s0.take 64) (s0.drop 64)).2.2 = 0 → headR (chooseV (s0.take 64) (s0.drop 64)).1 = true from choose_good)
  generalize chooseV (s0.take 64) (s0.drop 64) = cv at HCH HR2 HGD
  obtain ⟨⟨hg, hs, hz, hl⟩, slot, e3⟩ := cv
  simp only at HCH HR2 HGD
  clear hq h0 hln e1 e2
  go_cut [5, 6, 7] (fun v5 v6 v7 wc => ∃ gh A c, v5 = .int .i64 e3 ∧ v6 = .pointer (some ⟨gh, 0, none⟩) ∧ v7 = .int .i64 slot ∧ Aside0 (MHd w wc gh hg hs hz hl A c))
  case first =>
   go_region_held3 (fun _ => True) (exact trivial) (first
    | (go_at_call 62; go_loud (with_reducible refine (HCH.out _ ?hb).mono ?_; (case hb => repeat (with_reducible first | exact Below.refl _ _ | apply zJ | apply zK)); rintro ex w2 ⟨A, c, rfl, q0, q1, q2, hlc, hC, hb2⟩; have HCC := zA (And.intro hlc hC); have HB2 := zA hb2; clear hlc hC hb2)))
   all_goals (go_wp2; go_meet)
   case rel => exact ⟨w2.heap.size, A, c, rfl, rfl, rfl, ⟨mhd_new HB1.out (zL (zK (Below.refl _ w1)) HB2.out) HCC.out⟩⟩
   case rel => exact ⟨w1.heap.size, A, c, rfl, rfl, rfl, ⟨mhd_old (w1 := w1.drew) (zK HB1.out) HB2.out HCC.out⟩⟩
  case rest =>
   obtain ⟨gh, A, c, rfl, rfl, rfl, HM⟩ := hcut
   have m1 := (show wc.cell? ⟨gh, 1, none⟩ = some (.int .i64 hs) from (zN HM.out.blk 1).trans rfl)
   have m2 := (show wc.cell? ⟨gh, 2, none⟩ = some (.int .i64 hz) from (zN HM.out.blk 2).trans rfl)
   have m3 := (show wc.cell? ⟨gh, 3, none⟩ = some (.slice A hl.length c) from (zN HM.out.blk 3).trans rfl)
   have HSQ := zA (show ∀ n, Calls Tryz.prog 63 #[.pointer (some ⟨gd, 0, none⟩)] (wc.drewN n) fun ex w' => ex = .returned (.int .i64 D.now.length) ∧ ∃ m, w' = wc.drewN m from fun n => by
    refine (HSC.out (wc.drewN n) (zF HM.out.bel n)).mono ?_
    rintro ex w' ⟨rfl, rfl⟩
    exact ⟨rfl, n, rfl⟩)
   have HEE := zA HM.out.bel
   clear HCH hsz HRD1 HL1 HR HSC
   go_wp2
   by_cases c3 : e3 = 0
   ·have b3 : (e3 != 0) = false := bne_eq_false_iff_eq.mpr c3
    by_cases c4 : hs = (D.now.length : Int)
    ·have b4 : (hs != (D.now.length : Int)) = false := bne_eq_false_iff_eq.mpr c4
     have hfx := headR_facts (HGD.out c3) (show hs ≤ 8192 by have := HNN.out; omega)
     simp only at hfx
     obtain ⟨x1, x2, x3, x4, x5⟩ := hfx
     have hn1 : ((hz.toNat : Nat) : Int) = hz := Int.toNat_of_nonneg x3
     have HRD := zA (show ∀ W, Below wc.heap.size wc W → Calls Tryz.prog 54 #[.pointer (some ⟨gd, 0, none⟩), .slice A hl.length c, .int .i64 hz] W fun e w' => e = .returned (.tuple #[.string (B (rdF hl hz.toNat D).1), .int .i64 (rdF hl hz.toNat D).2]) ∧ Below W.heap.size W w' from fun W hW => by
      have := vread.calls gd S D hl hz.toNat A c w0 W (HDV.out.past (zL HM.out.bel hW)) (Kd.C_below (mono_span.C (sub_mask _ _) HM.out.row) hW) x1 (by omega) H64.out (by omega) (by have := HNN.out; omega)
      rwa [hn1] at this)
     have HL2 := zA (show (rdF hl hz.toNat D).2 = 0 → (rdF hl hz.toNat D).1.length ≤ 64000 from fun h => by
      rw [rdF_len H64.out x1 (by omega) h]
      have := HNN.out
      omega)
     have HR3 := zA (show R = mount3 ⟨hg, hs, hz, hl⟩ slot (rdF hl hz.toNat D) from HR2.out.trans ((if_neg (fun h => h c3)).trans (if_neg (fun h => h c4))))
     have HX2 := zA x2
     clear HR2 x1 x2 x3 x4 x5 hn1 c3
     generalize rdF hl hz.toNat D = r5 at HRD HL2 HR3
     obtain ⟨s5, e5⟩ := r5
     simp only at HRD HL2 HR3
     obtain ⟨N, hN⟩ : ∃ N, N = D.now.length := ⟨_, rfl⟩
     rw [← hN] at HSQ b4
     have HNE := zA (And.intro hN c4)
     clear hN c4
     go_quiet (first | (go_at_call 63; with_reducible exact HSQ.out _))
     go_wp2_with (first
      | (go_at_call 54; go_loud (refine (HRD.out _ (zF (Below.refl _ wc) _)).mono ?_; rintro ex w5 ⟨rfl, hb5⟩; have HB5 := zA (zL (zF (Below.refl _ wc) _) hb5); clear hb5)))
     ·have hq : (e5 != 0) = true := by assumption
      go_ret2
      rw [show R = (e5, VV.zero) from HR3.out.trans (if_pos (by simpa using hq))]
      exact ⟨zL HEE.out HB5.out, .inl ⟨by simpa using hq, rfl⟩⟩
     ·have hq : (e5 != 0) = false := by assumption
      have hq0 : e5 = 0 := by simpa using hq
      have hl5 := HL2.out hq0
      have HR4 := zA (show R = mount4 ⟨hg, hs, hz, hl⟩ slot (takeV s5) from HR3.out.trans (if_neg (fun h => h hq0)))
      obtain ⟨kt, hkt⟩ := (take_ev' s5 (by omega)).get
      have hok := takeV_ok s5 (by omega)
      generalize takeV s5 = t6 at HR4 hkt hok
      obtain ⟨l6, e6⟩ := t6
      simp only at hok
      have htw5 := HTB.out.below (below_then HBW.out (below_size HBW.out) (zL HEE.out HB5.out))
      have HTK := zA (show Calls Tryz.prog 64 #[.string (B s5)] w5 fun e w' => ∃ A6 c6, e = .returned (.tuple #[.slice A6 l6.length c6, .int .i64 e6]) ∧ l6.length ≤ c6 ∧ Kd.C k85 (mask (fun k => k < w5.heap.size) w') A6 l6.length l6 ∧ Below w5.heap.size w5 w' from by
       refine (dir_Take.calls kt (B s5) l6 e6 w5 htw5 hkt).mono ?_
       rintro e w' ⟨v, rfl, h1, h2⟩
       obtain ⟨A6, c6, rfl, h3, h4⟩ := R_mask (T := fun k => k < w5.heap.size) (Kd.S_R h1) (fun k hk _ hm => by omega)
       exact ⟨A6, c6, rfl, h3, h4, h2⟩)
      obtain ⟨kr, hkr⟩ := (right_v l6 hok.1 hok.2 hs hl (by have := HX2.out; omega)).get
      have HRT := zA (show ∀ W A6 c6, Below wc.heap.size wc W → l6.length ≤ c6 → Kd.C k85 (mask (fun k => k < w5.heap.size) W) A6 l6.length l6 → Calls Tryz.prog 37 #[.slice A6 l6.length c6, .int .i64 hs, .slice A hl.length c] W fun e w' => e = .returned (.bool (rightV l6 hs hl)) ∧ Below W.heap.size W w' from fun W A6 c6 hW h1 h2 =>
       dir_Right.calls kr A6 c6 l6 hs _ A c hl _ W (mono_file.C (sub_mask _ _) h2) h1 (Kd.V_mk HM.out.cap (Kd.C_F k87_heap (Kd.C_below (mono_span.C (sub_mask _ _) HM.out.row) hW))) (HTB.out.below (below_then HBW.out (below_size HBW.out) (zL HEE.out hW))) hkr)
      clear hkt hok htw5 hkr hq hl5 HRD HL2 HR3 HSQ m2
      by_cases c6 : e6 = 0
      ·have b6 : (e6 != 0) = false := bne_eq_false_iff_eq.mpr c6
       cases hrv : rightV l6 hs hl with
       | true =>
        rw [hrv] at HRT
        have HR5 := zA (show R = (0, ⟨l6, ⟨hg, hs, hz, hl⟩, slot, 0⟩) from HR4.out.trans ((if_neg (fun h => h c6)).trans (if_neg (by rw [hrv]; decide))))
        clear hrv HR4 c6
        go_wp2_with (first
         | (go_at_call 64; go_loud (refine HTK.out.mono ?_; rintro ex w6 ⟨A6, c6, rfl, hl6, hC6, hb6⟩; have HB6 := zA (zL HB5.out hb6); have HC6 := zA (And.intro hl6 hC6); have n1 := (HB6.out.cell (zB wc _ m1)).trans m1; have n3 := (HB6.out.cell (zB wc _ m3)).trans m3; clear hl6 hC6 hb6))
         | (go_at_call 37; go_loud (refine (HRT.out w6 A6 c6 HB6.out HC6.out.1 HC6.out.2).mono ?_; rintro ex w7 ⟨rfl, hb7⟩; have HB7 := zA (zL HB6.out hb7); have HC7 := zA (row_keep mono_file (T' := fun k => k < w5.heap.size) HC6.out.2 (zP hb7 (fun _ => False)) (fun k q => q.elim) fun k q => .inl q); (have hbk := blk_below HM.out.blk HB7.out; have k0 := zN hbk 0; have k1 := zN hbk 1; have k2 := zN hbk 2; have k3 := zN hbk 3; clear hbk); clear hb7 n1 n3)))
        go_ret2
        rw [HR5.out]
        have hbl := zL HEE.out HB7.out
        have h5 := HB5.out.size
        have h7 := HB7.out.size
        have hw := HEE.out.size
        refine ⟨zJ hbl _, .inr ⟨rfl, w7.heap.size, rfl, hbl.size, fun X hX hSX => ⟨HDV.out.past (zJ hbl _), below_then HBW.out (below_size HBW.out) (zJ hbl _), ⟨A6, c6, A, c, blk_new w7 _, HC6.out.1, HM.out.cap, row_keep mono_file HC7.out (zP (zJ (Below.refl _ w7) _) (fun _ => False)) (fun k q => q.elim) fun k q => q.elim (fun q => .inl (by have := (hX k q).2; omega)) fun q => .inr (by omega), row_keep mono_span HM.out.row (zP (zJ HB7.out _) (fun _ => False)) (fun k q => q.elim) fun k q => q.elim (fun q => .inl (hX k q).2) fun q => .inr (by omega)⟩, fun k q => ?_, fun k q => .inl (hSX k q), .inr rfl, fun q => by have := (HDV.out.sb _ q).2; omega⟩⟩⟩
        rcases q with q | q
        ·exact ⟨(hX k q).1, by have := (hX k q).2; simp; omega⟩
        ·have := below_size HBW.out
         exact ⟨by omega, by simp [q]⟩
       | false =>
        rw [hrv] at HRT
        have HR5 := zA (show R = (2, VV.zero) from HR4.out.trans ((if_neg (fun h => h c6)).trans (if_pos hrv)))
        clear hrv HR4 c6
        go_wp2_with (first
         | (go_at_call 64; go_loud (refine HTK.out.mono ?_; rintro ex w6 ⟨A6, c6, rfl, hl6, hC6, hb6⟩; have HB6 := zA (zL HB5.out hb6); have HC6 := zA (And.intro hl6 hC6); have n1 := (HB6.out.cell (zB wc _ m1)).trans m1; have n3 := (HB6.out.cell (zB wc _ m3)).trans m3; clear hl6 hC6 hb6))
         | (go_at_call 37; go_loud (refine (HRT.out w6 A6 c6 HB6.out HC6.out.1 HC6.out.2).mono ?_; rintro ex w7 ⟨rfl, hb7⟩; have HB7 := zA (zL HB6.out hb7); have HC7 := zA (row_keep mono_file (T' := fun k => k < w5.heap.size) HC6.out.2 (zP hb7 (fun _ => False)) (fun k q => q.elim) fun k q => .inl q); (have hbk := blk_below HM.out.blk HB7.out; have k0 := zN hbk 0; have k1 := zN hbk 1; have k2 := zN hbk 2; have k3 := zN hbk 3; clear hbk); clear hb7 n1 n3)))
        go_ret2
        rw [HR5.out]
        exact ⟨zL HEE.out HB7.out, .inl ⟨by decide, rfl⟩⟩
      ·have b6 : (e6 != 0) = true := bne_iff_ne.mpr c6
       have HR5 := zA (show R = (2, VV.zero) from HR4.out.trans (if_pos c6))
       clear HR4 c6
       go_wp2_with (first
        | (go_at_call 64; go_loud (refine HTK.out.mono ?_; rintro ex w6 ⟨A6, c6, rfl, hl6, hC6, hb6⟩; have HB6 := zA (zL HB5.out hb6); have HC6 := zA (And.intro hl6 hC6); have n1 := (HB6.out.cell (zB wc _ m1)).trans m1; have n3 := (HB6.out.cell (zB wc _ m3)).trans m3; clear hl6 hC6 hb6)))
       go_ret2
       rw [HR5.out]
       exact ⟨zL HEE.out HB6.out, .inl ⟨by decide, rfl⟩⟩
    ·have b4 : (hs != (D.now.length : Int)) = true := bne_iff_ne.mpr c4
     have hR : R = (2, VV.zero) := HR2.out.trans ((if_neg (fun h => h c3)).trans (if_pos c4))
     have HRR := zA hR
     clear hR HR2 HGD
     go_quiet (first | (go_at_call 63; with_reducible exact HSQ.out _))
     go_wp2
     go_ret2
     rw [HRR.out]
     exact ⟨zF HEE.out _, .inl ⟨by decide, rfl⟩⟩
   ·have b3 : (e3 != 0) = true := bne_iff_ne.mpr c3
    have hR : R = (2, VV.zero) := HR2.out.trans (if_pos c3)
    have HRR := zA hR
    clear hR HR2 HGD
    go_quiet (fail)
    go_wp2
    go_ret2
    rw [HRR.out]
    exact ⟨zF HEE.out _, .inl ⟨by decide, rfl⟩⟩
structure FilI (w wr : World) (g1 cap : Nat) (l : List Fi) (L : List Value) (ps : List Pr) : Prop where
 bel : Below w.heap.size w wr
 lo : w.heap.size ≤ g1
 hh : wr.heap[g1]? = some (.cells L.toArray 85 (0, 0))
 cn : l.length ≤ cap
 cm : cap ≤ maxLen
 len : L.length = cap * 3
 tk : L.take (l.length * 3) = ps.flatMap (·.2)
 mp : ps.map (·.1) = l
 K : ∀ p ∈ ps, (k85).K (mask (· = g1) wr) p.1 p.2
theorem FilI.own {w wr : World} {g1 cap : Nat} {l : List Fi} {L : List Value} {ps : List Pr} (h : FilI w wr g1 cap l L ps) : Kd.C k85 wr (some ⟨g1, 0, none⟩) l.length l := by
 have hpl : ps.length = l.length := by rw [← h.mp, List.length_map]
 have ho : OwnP (mask (· = g1) wr) w wr (.slice (some ⟨g1, 0, none⟩) l.length cap) ps := OwnP.mk' h.lo h.hh hpl.symm h.cn h.cm h.len h.tk h.K
 obtain ⟨A, c, he, -, hC⟩ := ho.reads (sub_mask _ _)
 injection he with he1
 subst he1
 rw [h.mp] at hC
 exact hC
theorem set3 (L : List Value) (i : Nat) (a b c v : Value) (h0 : L[i * 3]? = some a) (h1 : L[i * 3 + 1]? = some b) (h2 : L[i * 3 + 2]? = some c) : L.set (i * 3 + 2) v = L.take (i * 3) ++ [a, b, v] ++ L.drop (i * 3 + 3) := by
 have hlt : i * 3 + 2 < L.length := by
  rcases Nat.lt_or_ge (i * 3 + 2) L.length with q | q
  ·exact q
  ·rw [List.getElem?_eq_none q] at h2; cases h2
 have hd : L.drop (i * 3) = a :: b :: c :: L.drop (i * 3 + 3) := by
  rw [List.drop_eq_getElem_cons (by omega), List.drop_eq_getElem_cons (show i * 3 + 1 < L.length by omega), List.drop_eq_getElem_cons (show i * 3 + 1 + 1 < L.length by omega)]
  rw [List.getElem?_eq_getElem (by omega)] at h0 h1 h2
  rw [Option.some.inj h0, Option.some.inj h1, Option.some.inj h2]
 have hl : (L.take (i * 3)).length = i * 3 := by rw [List.length_take]; omega
 conv => lhs; rw [← List.take_append_drop (i * 3) L, hd]
 rw [List.set_append, if_neg (by omega), hl, show i * 3 + 2 - i * 3 = 2 by omega]
 simp
theorem FilI.step {w wr w5 : World} {g1 cap : Nat} {l : List Fi} {L : List Value} {ps : List Pr} (h : FilI w wr g1 cap l L ps) (hb : Below wr.heap.size wr w5) {i : Nat} (hi : i < l.length) {A2 A3 : Option Addr} {c2 c3 : Nat} {y : Fi} (hy : l[i] = y) (h0 : wr.cell? ⟨g1, i * 3, none⟩ = some (.string y.f0)) (h1 : wr.cell? ⟨g1, i * 3 + 1, none⟩ = some (.int .i64 y.f1)) (h2 : wr.cell? ⟨g1, i * 3 + 2, none⟩ = some (.slice A2 y.f2.length c2)) (hc : y.f2.length ≤ c3) (hC : Kd.C k87 (mask (· = g1) w5) A3 y.f2.length y.f2) : ∃ L' ps', FilI w (w5.setCell ⟨g1, i * 3 + 2, none⟩ (.slice A3 y.f2.length c3)) g1 cap l L' ps' := by
 have hpl : ps.length = l.length := by rw [← h.mp, List.length_map]
 have hp3 : ∀ p ∈ ps, p.2.length = 3 := fun p hp => (k85).K_len (h.K p hp)
 have hset := set3 L i (.string y.f0) (.int .i64 y.f1) (.slice A2 y.f2.length c2) (.slice A3 y.f2.length c3) (by rw [← cell_list h.hh]; exact h0) (by rw [← cell_list h.hh]; exact h1) (by rw [← cell_list h.hh]; exact h2)
 have hk : Kept wr (w5.setCell ⟨g1, i * 3 + 2, none⟩ (.slice A3 y.f2.length c3)) (· = g1) := (zP hb (· = g1)).setCell (p := ⟨g1, i * 3 + 2, none⟩) (.inl rfl) _
 have hk5 : Kept w5 (w5.setCell ⟨g1, i * 3 + 2, none⟩ (.slice A3 y.f2.length c3)) (· = g1) := (Kept.refl w5 (· = g1)).setCell (p := ⟨g1, i * 3 + 2, none⟩) (.inl rfl) _
 have hlen := h.len
 have hcn := h.cn
 refine ⟨L.set (i * 3 + 2) (.slice A3 y.f2.length c3), ps.set i (y, [.string y.f0, .int .i64 y.f1, .slice A3 y.f2.length c3]), ⟨(below_then h.bel h.bel.size hb).setCell (p := ⟨g1, i * 3 + 2, none⟩) h.lo _, h.lo, ?_, h.cn, h.cm, ?_, ?_, ?_, ?_⟩⟩
 ·have := blk_set (blk_below h.hh hb) (i * 3 + 2) (.slice A3 y.f2.length c3)
  rwa [show L.toArray.setIfInBounds (i * 3 + 2) (.slice A3 y.f2.length c3) = (L.set (i * 3 + 2) (.slice A3 y.f2.length c3)).toArray by simp] at this
 ·rw [List.length_set]; exact h.len
 ·rw [hset]
  exact flat_set ps hp3 i (by omega) (y, [.string y.f0, .int .i64 y.f1, .slice A3 y.f2.length c3]) rfl L l.length hpl.symm h.tk (by omega)
 ·rw [List.map_set, h.mp]
  show l.set i y = l
  rw [← hy]
  exact List.set_getElem_self hi
 ·intro p hp
  rcases List.mem_or_eq_of_mem_set hp with q | q
  ·exact mono_file _ _ _ _ (sub_move hk (fun k q => q) (fun _ _ q => q)) (h.K p q)
  ·subst q
   exact mono_file _ _ _ _ (sub_move hk5 (fun k q => q) (fun _ _ q => q)) (file_K hc hC)
set_option maxHeartbeats 4000000 in
set_option maxRecDepth 100000 in
theorem files.calls (g : Nat) (A : Option Addr) (c : Nat) (l : List Fi) (w : World) (hk1 : w.cell? ⟨g, 1, none⟩ = some (.slice A l.length c)) (hr : Kd.C k85 w A l.length l) (hl : l.length ≤ 1000) (hsp : ∀ f ∈ l, f.f2.length ≤ 100000) :
  Calls Tryz.prog 16 #[.pointer (some ⟨g, 0, none⟩)] w fun e w' => ∃ A' c', e = .returned (.slice A' l.length c') ∧ l.length ≤ c' ∧ Kd.C k85 w' A' l.length l ∧ Below w.heap.size w w' := by
 have HCF := zA (show Calls Tryz.prog 55 #[.slice A l.length c] w fun e w' => ∃ A1 c1, e = .returned (.slice A1 l.length c1) ∧ l.length ≤ c1 ∧ Kd.C k85 w' A1 l.length l ∧ Below w.heap.size w w' ∧ (l.length = 0 ∨ ∃ g1 L ps, A1 = some ⟨g1, 0, none⟩ ∧ FilI w w' g1 c1 l L ps) from by
  refine (cloneF.calls A c l w w w (Sub.refl w) hr (Below.refl _ _) (by omega)).mono ?_
  rintro e w1 ⟨v, ps, rfl, hm, ho, hb1⟩
  have hpl : ps.length = l.length := by rw [← hm, List.length_map]
  obtain ⟨A1, c1, he, hc1, hC1⟩ := ho.reads (sub_below hb1)
  rw [hm] at he hc1 hC1
  refine ⟨A1, c1, by rw [he], hc1, hC1, hb1, ?_⟩
  rcases ho.block with ⟨he2, hz⟩ | ⟨g1, cap, L, he2, hg1, hh, hcn, hcm, hLl, hLt⟩
  ·left
   rw [← hpl, hz]; rfl
  ·right
   rw [he] at he2
   injection he2 with e1 _ e3
   rw [hpl] at hcn hLt
   subst e3
   exact ⟨g1, L, ps, e1, hb1, hg1, hh, hcn, hcm, hLl, hLt, hm, fun p hp => mono_file _ _ _ _ (fun a v q => cell_mask ((hb1.cell (zB w a q)).trans q) (fun h => by have := zB w a q; omega)) (ho.2 p hp)⟩)
 have hu := Tryz.underlying85
 have HSP := zA hsp
 have HLL := zA hl
 clear hr hl hsp
 go_enter Tryz.func16, Tryz.ntmps16
 go_wp2_with (go_at_call 55; go_loud (refine HCF.out.mono ?_; rintro e w1 ⟨A1, c1, rfl, hc1, hC1, hb1, hF⟩; have HC1 := zA hC1; have HB1 := zA hb1; have HF := zA hF; have HCC := zA hc1; clear hc1 hC1 hb1 hF))
 go_loopg [13] l.length (fun gg s13 wr => ∃ i : Nat, s13 = .int .i64 i ∧ i ≤ l.length ∧ l.length - i ≤ gg ∧ Aside0 (Below w.heap.size w wr) ∧ Aside0 (Kd.C k85 wr A1 l.length l) ∧ Aside0 (l.length = 0 ∨ ∃ g1 L ps, A1 = some ⟨g1, 0, none⟩ ∧ FilI w wr g1 c1 l L ps))
 case atStart => exact ⟨0, rfl, Nat.zero_le _, by omega, HB1, HC1, HF⟩
 case round =>
  clear HB1 HC1 HF
  obtain ⟨i, rfl, hi, hg, HB1, HC1, HF⟩ := hrel
  by_cases hlt : i < l.length
  ·have hltz : decide ((i : Int) < (l.length : Int)) = true := zH (by omega)
   have hi0 : (0 : Int) ≤ (i : Int) := by omega
   have hi1 : (i : Int) < (l.length : Int) := by omega
   obtain ⟨g1, L, ps, rfl, hI⟩ := HF.out.resolve_left (by omega)
   obtain ⟨ad, A2, c2, hea, hx0, hx1, hx2, hl2, hC⟩ := at_T85 hI.own (i : Int) hi0 hi1
   injection hea with hea
   subst hea
   have hrd : rd_T85 l (i : Int) = l[i] := by simp [rd_T85, List.getD_eq_getElem?_getD, hlt]
   rw [hrd] at hx0 hx1 hx2 hl2 hC
   have hy2 := HSP.out l[i] (List.getElem_mem hlt)
   generalize hy : l[i] = y at hx0 hx1 hx2 hl2 hC hy2
   simp only [Int.toNat_natCast, add_plain] at hx0 hx1 hx2
   have HY := zA hy
   have HI := zA hI
   have hg1 := blk_lt hI.hh
   have HCL := zA (show ∀ W, Below wr.heap.size wr W → Calls Tryz.prog 56 #[.slice A2 y.f2.length c2] W fun e w' => ∃ A3 c3, e = .returned (.slice A3 y.f2.length c3) ∧ y.f2.length ≤ c3 ∧ Kd.C k87 (mask (· = g1) w') A3 y.f2.length y.f2 ∧ Below W.heap.size W w' from fun W hW => by
    refine (cloneS2.calls A2 c2 y.f2 wr W W (sub_below hW) hC (Below.refl _ _) (by omega)).mono ?_
    rintro e w' ⟨v, ps, rfl, hm, ho, hb'⟩
    obtain ⟨A3, c3, he, h3, h4⟩ := ho.masked (T := (· = g1)) (fun k hk => by have := hW.size; omega)
    rw [hm] at he h3 h4
    exact ⟨A3, c3, by rw [he], h3, h4, hb'⟩)
   clear hrd hy hI hC hl2
   have HB0 := zA HB1.out
   clear HB1 HC1 HF hy2
   go_wp2_with (first
    | (go_at_call 56; go_loud (refine (HCL.out _ (zJ (Below.refl _ wr) _)).mono ?_; rintro e w5 ⟨A3, c3, rfl, hc3, hC3, hb5⟩; have HC3 := zA (And.intro hc3 hC3); have HB5 := zA (zL (zJ (Below.refl _ wr) _) hb5); have k5 := (HB5.out.cell (zB wr _ hx2)).trans hx2; have f5 := zM (blk_below HI.out.hh HB5.out) (i * 3 + 2); clear hc3 hC3 hb5)))
   obtain ⟨L', ps', hI'⟩ := HI.out.step HB5.out hlt HY.out hx0 hx1 hx2 HC3.out.1 HC3.out.2
   have HI2 := zA hI'
   clear hI'
   go_roundg (l.length - (i + 1))
   case measure => omega
   case rel => exact ⟨i + 1, by rw [idx i (by have := HLL.out; omega)], by omega, Nat.le_refl _, ⟨HI2.out.bel⟩, ⟨HI2.out.own⟩, ⟨.inr ⟨g1, L', ps', rfl, HI2.out⟩⟩⟩
  ·obtain rfl : i = l.length := by omega
   have hltz : decide ((l.length : Int) < (l.length : Int)) = false := zI (by omega)
   go_wp2
   go_ret
   exact ⟨A1, c1, rfl, HCC.out, HC1.out, HB1.out⟩
theorem restV_ok (l : List Sp) (size : Int) : OkL 8192 (restV l size) ∧ Canon (restV l size) ∧ (restV l size).length ≤ 8192 := by
 by_cases h1 : Sized size ∧ OkL size l
 ·by_cases h3 : ∀ x, cnt l x ≤ 1
  ·obtain ⟨r1, r2, r3⟩ := rest_ok h1.1 h1.2 h3
   have h0 : 0 ≤ size := by obtain ⟨⟨_, _⟩, _⟩ := h1; omega
   refine ⟨r1.mono h1.1.2, r2, ?_⟩
   have := len_canon h0 r1 (cnt_dis r1 r2.dis)
   have := h1.1.2
   omega
  ·unfold restV
   rw [sorted_twice h1.1 h1.2 h3, if_neg (by decide)]
   exact ⟨OkL.nil, List.Pairwise.nil, Nat.zero_le _⟩
 ·unfold restV
  rw [sorted_bad h1, if_neg (by decide)]
  exact ⟨OkL.nil, List.Pairwise.nil, Nat.zero_le _⟩
theorem beginT_ok {V : VV} (h : Sd V.l) (hl : V.l.length ≤ 1000000) : (beginT V).Ok := by
 obtain ⟨r1, r2, r3⟩ := restV_ok (usedV V.l ++ (V.h.spans ++ [(⟨0, 2⟩ : Sp)])) V.h.sect
 exact ⟨r1, r2, r3, hl, h⟩
theorem with_sd {l : List Fi} (h : Sd l) (f : Fi) : Sd (withV f l) ∧ (withV f l).length ≤ l.length + 1 ∧ ∀ g ∈ withV f l, g = f ∨ g ∈ l := by
 obtain ⟨P, E, S, rfl, hP, hS, hE⟩ := parted f.f0 l h
 rw [with_part rfl hP hS hE]
 unfold Sd at h ⊢
 rw [List.append_assoc, List.pairwise_append, List.pairwise_append] at h
 obtain ⟨h1, ⟨h2, h3, h4⟩, h5⟩ := h
 refine ⟨?_, by simp; omega, fun g hg => ?_⟩
 ·rw [List.pairwise_append, List.pairwise_cons]
  refine ⟨h1, ⟨hS, h3⟩, fun a ha b hb => ?_⟩
  rcases List.mem_cons.1 hb with rfl | hb
  ·exact hP a ha
  ·exact h5 a ha b (List.mem_append.2 (.inr hb))
 ·rcases List.mem_append.1 hg with q | q
  ·exact .inr (List.mem_append.2 (.inl (List.mem_append.2 (.inl q))))
  ·rcases List.mem_cons.1 q with q | q
   ·exact .inl q
   ·exact .inr (List.mem_append.2 (.inr q))
theorem twrite_ok {V : VV} {T : TV} {D : DV} {name s : List UInt8} (h : T.Ok) (hl : T.l.length < 1000000) (hs : s.length ≤ 1000000) : (twriteV V T D name s).2.1.Ok ∧ (twriteV V T D name s).2.1.l.length ≤ T.l.length + 1 ∧ ∀ g ∈ (twriteV V T D name s).2.1.l, g ∈ T.l ∨ (labB name = true ∧ g.f0 = B name ∧ g.f2.length ≤ 200) := by
 have hn0 : 0 ≤ needV s.length ∧ needV s.length ≤ 100000 := by unfold needV; omega
 have hf := take_facts h.fo h.fc h.fl hn0.1 hn0.2
 unfold twriteV
 by_cases c1 : overV T V = true
 ·rw [if_pos c1]; exact ⟨h, Nat.le_succ _, fun g hg => .inl hg⟩
 ·rw [if_neg c1]
  by_cases c2 : labB name = false
  ·rw [if_pos c2]; exact ⟨h, Nat.le_succ _, fun g hg => .inl hg⟩
  ·rw [if_neg c2]
   by_cases c3 : 20000 < s.length
   ·rw [if_pos c3]; exact ⟨h, Nat.le_succ _, fun g hg => .inl hg⟩
   ·rw [if_neg c3]
    by_cases c4 : (takeF T.free (needV s.length)).2.2 = false ∨ 200 < (takeF T.free (needV s.length)).1.length
    ·rw [if_pos c4]; exact ⟨h, Nat.le_succ _, fun g hg => .inl hg⟩
    ·rw [if_neg c4]
     have c5 : (takeF T.free (needV s.length)).2.2 = true ∧ (takeF T.free (needV s.length)).1.length ≤ 200 := by
      refine ⟨?_, by omega⟩
      cases hq : (takeF T.free (needV s.length)).2.2
      ·exact absurd (.inl hq) c4
      ·rfl
     obtain ⟨f1, f2, f3, f4, f5, f6⟩ := hf c5.1
     obtain ⟨w1, w2, w3⟩ := with_sd h.sd ⟨B name, s.length, (takeF T.free (needV s.length)).1⟩
     split
     ·refine ⟨⟨f4, f5, f6, by show (withV _ _).length ≤ _; omega, w1⟩, w2, fun g hg => ?_⟩
      rcases w3 g hg with q | q
      ·subst q
       exact .inr ⟨by simpa using c2, rfl, c5.2⟩
      ·exact .inl q
     ·exact ⟨⟨f4, f5, f6, h.few, h.sd⟩, Nat.le_succ _, fun g hg => .inl hg⟩
theorem beginVia.calls {w0 w : World} {S M : Nat → Prop} {gd gv : Nat} {D : DV} {V : VV} (h : VolSys w0 w S M gd gv D V) (hok : V.Ok) :
  Calls Tryz.prog 12 #[.pointer (some ⟨gv, 0, none⟩)] w fun e w' => ∃ gt, e = .returned (.pointer (some ⟨gt, 0, none⟩)) ∧ w.heap.size ≤ gt ∧ TxSys w0 w' S (fun k => M k ∨ k = gt) gd gv gt D { V with began := V.began + 1 } (beginT V) ∧ Via w w' S M S (fun k => M k ∨ k = gt) ∧ Kept w w' (· = gv) := by
 refine (vbeginS.calls h hok).mono ?_
 rintro e w' ⟨gt, rfl, h1, h2, h3⟩
 exact ⟨gt, rfl, h1, h2, ⟨fun _ q => q, fun _ q => .inl q, fun k q => q.elim .inl fun q => .inr (q ▸ h1), h3.mono fun k q => q ▸ h.mv.1⟩, h3⟩
theorem writeVia.calls {w0 w : World} {S M : Nat → Prop} {gd gv gt : Nat} {D : DV} {V : VV} {T : TV} (hX : TxSys w0 w S M gd gv gt D V T) (hT : T.Ok) (ht : TabsW w0) (name s : List UInt8) (hn : name.length ≤ 1000000) (hs : s.length ≤ 1000000000) (hp : D.pend.length < 900000) :
  Calls Tryz.prog 13 #[.pointer (some ⟨gt, 0, none⟩), .string (B name), .string (B s)] w fun e w' => e = .returned (.int .i64 (twriteV V T D name s).1) ∧ ∃ S' M', TxSys w0 w' S' M' gd gv gt (twriteV V T D name s).2.2 V (twriteV V T D name s).2.1 ∧ Via w w' S M S' M' ∧ Kept w w' (fun k => S k ∨ k = gt) := by
 refine (twrite.calls S M gd gv gt D V T name s w0 w hX hT ht hn hs hp).mono ?_
 rintro e w' ⟨rfl, S', M', h1, h2, h3, h4, h5⟩
 exact ⟨rfl, S', M', h1, ⟨h2, h3, h4, h5.mono fun k q => q.elim (hX.ms k) fun q => q ▸ hX.mt.1⟩, h5⟩
theorem commitVia.calls {w0 w : World} {S M : Nat → Prop} {gd gv gt : Nat} {D : DV} {V : VV} {T : TV} (hX : TxSys w0 w S M gd gv gt D V T) (hT : T.Ok) (hbd : BdL T.l) (ht : TabsW w0) (hp : D.pend.length < 800000) (hsl : V.slot = 0 ∨ V.slot = 1) :
  Calls Tryz.prog 14 #[.pointer (some ⟨gt, 0, none⟩)] w fun e w' => e = .returned (.int .i64 (commitV V T D).1) ∧ ∃ S' M', TxSys w0 w' S' M' gd gv gt (commitV V T D).2.2.2 (commitV V T D).2.1 (commitV V T D).2.2.1 ∧ Via w w' S M S' M' := by
 refine (vcommit.calls S M gd gv gt D V T w0 w hX hT hbd ht hp hsl putV_len).mono ?_
 rintro e w' ⟨rfl, S', M', h1, h2⟩
 exact ⟨rfl, S', M', h1, h2⟩
theorem Via.below {w w' : World} {S M : Nat → Prop} (h : Below w.heap.size w w') : Via w w' S M S M := ⟨fun _ q => q, fun _ q => q, fun _ q => .inl q, zP h _⟩
theorem powerVia.calls {w0 w : World} {S M : Nat → Prop} {gd gv : Nat} {D : DV} {V : VV} (h : VolSys w0 w S M gd gv D V) (hp : D.pend.length < 1000000) :
  Calls Tryz.prog 27 #[.pointer (some ⟨gd, 0, none⟩), .slice none 0 0] w fun e w' => e = .returned (.tuple #[]) ∧ DevAt w0 w' S gd (D.power []) ∧ Below w0.heap.size w0 w' ∧ Via w w' S M S M := by
 refine (dpower.calls gd S D [] none 0 w0 w h.dev h.bel hp (by decide) (fun W' hk i hi => absurd hi (Nat.not_lt_zero _))).mono ?_
 rintro e w' ⟨rfl, h1, h2, h3⟩
 exact ⟨rfl, h1, h2, fun _ q => q, fun _ q => q, fun _ q => .inl q, h3.mono h.ms⟩
theorem readVol.calls {w0 w : World} {S M : Nat → Prop} {gd gv : Nat} {D : DV} {V : VV} (h : VolSys w0 w S M gd gv D V) (name : List UInt8) (h64 : ∀ s ∈ D.now, s.size = 64) (hf : (findV (B name) V.l).2 = true → FileOk (findV (B name) V.l).1) :
  Calls Tryz.prog 15 #[.pointer (some ⟨gv, 0, none⟩), .string (B name)] w fun e w' => e = .returned (.tuple #[.string (B (readV V.l D name).1), .int .i64 (readV V.l D name).2]) ∧ Below w.heap.size w w' := by
 obtain ⟨A, c, B', d, hb, h2, h3, h4, h5⟩ := h.vol
 exact vview.calls gv gd S D V.l name A c w0 w h.dev ((zN hb 0).trans rfl) ((zN hb 1).trans rfl) (mono_file.C (sub_mask M w) h4) h64 hf
theorem filesVol.calls {w0 w : World} {S M : Nat → Prop} {gd gv : Nat} {D : DV} {V : VV} (h : VolSys w0 w S M gd gv D V) (hl : V.l.length ≤ 1000) (hsp : ∀ f ∈ V.l, f.f2.length ≤ 100000) :
  Calls Tryz.prog 16 #[.pointer (some ⟨gv, 0, none⟩)] w fun e w' => ∃ A' c', e = .returned (.slice A' V.l.length c') ∧ V.l.length ≤ c' ∧ Kd.C k85 w' A' V.l.length V.l ∧ Below w.heap.size w w' := by
 obtain ⟨A, c, B', d, hb, h2, h3, h4, h5⟩ := h.vol
 exact files.calls gv A c V.l w ((zN hb 1).trans rfl) (mono_file.C (sub_mask M w) h4) hl hsp
theorem begunAt.calls (n : Nat) (w : World) (h4 : 4 ≤ n) (h8 : n ≤ 8192) (h6 : r6is n = true) (ht : TabsW w) (w1 : World) (hb : Below w.heap.size w w1) :
  Calls Tryz.prog 11 #[.int .i64 n] w1 fun e w' => BegTo w w' n e := begun.calls n w w1 h4 h8 h6 hb ht
theorem restV_is {l r : List Sp} {size : Int} (h1 : Sized size) (h2 : OkL size l) (h3 : ∀ x, cnt l x ≤ 1) (hr : OkL size r) (hc : Canon r) (hx : ∀ x, cnt r x + cnt l x = if 0 ≤ x ∧ x < size then 1 else 0) : restV l size = r :=
 canon_unique (rest_ok h1 h2 h3).1 hr (rest_ok h1 h2 h3).2.1 hc fun x => by have h4 := (rest_ok h1 h2 h3).2.2 x; have h5 := hx x; omega
theorem rightV_is {l : List Fi} {own : List Sp} {size : Int} (hd : dirB l = true) (h1 : Sized size) (h2 : OkL size (usedV l ++ (own ++ [(⟨0, 2⟩ : Sp)]))) (h3 : ∀ x, cnt (usedV l ++ (own ++ [(⟨0, 2⟩ : Sp)])) x ≤ 1) : rightV l size own = true := by
 obtain ⟨z, hz, -⟩ := sorted_ok h1 h2 h3
 unfold rightV
 rw [hd, hz]
 rfl
def shF : Fi := ⟨B [97], 1, [⟨3, 1⟩]⟩
def shV : VV := { fmtV (newDV 20) with began := (fmtV (newDV 20)).began + 1 }
def shT : TV := ⟨[], 1, [⟨3, 17⟩], false⟩
def shW : Int × TV × DV := twriteV shV shT (formatV (newDV 20)).2 [97] [120]
def shC : Int × VV × TV × DV := commitV shV shW.2.1 shW.2.2
def shV3 : VV := ⟨[shF], ⟨2, 20, 16, [⟨4, 1⟩]⟩, 1, 1⟩
def shT4 : TV := ⟨[shF], 2, [⟨2, 1⟩, ⟨5, 15⟩], false⟩
def shW2 : Int × TV × DV := twriteV { shV3 with began := shV3.began + 1 } shT4 shC.2.2.2 [97] [121]
def shP : DV := shW2.2.2.power []
def shV6 : VV := ⟨[shF], ⟨2, 20, 16, [⟨4, 1⟩]⟩, 1, 0⟩
set_option maxRecDepth 1000000
theorem shT_is : beginT (fmtV (newDV 20)) = shT := by
 have h := free_new (n := 20) (by decide) (by decide) 0
 have hl : (newDV 20).now.length = 20 := new_good.len
 unfold beginT fmtV shT
 rw [hl, h]
 rfl
theorem cnt3 (x : Int) : cnt [(⟨3, 1⟩ : Sp), ⟨4, 1⟩, ⟨0, 2⟩] x = if (3 ≤ x ∧ x < 5) ∨ (0 ≤ x ∧ x < 2) then 1 else 0 := by
 rw [cnt_cons, cnt_cons, cnt_cons, cnt_nil]
 simp only
 repeat' split
 all_goals omega
theorem ok3 : OkL 20 [(⟨3, 1⟩ : Sp), ⟨4, 1⟩, ⟨0, 2⟩] := (ok1 (by decide) (by decide) (by decide)).cons ⟨by decide, by decide, by decide⟩ |>.cons ⟨by decide, by decide, by decide⟩
theorem shT4_is : beginT shV3 = shT4 := by
 have h : restV [(⟨3, 1⟩ : Sp), ⟨4, 1⟩, ⟨0, 2⟩] 20 = [⟨2, 1⟩, ⟨5, 15⟩] := by
  refine restV_is ⟨by decide, by decide⟩ ok3 (fun x => by rw [cnt3]; split <;> omega) ((ok1 (by decide) (by decide) (by decide)).cons ⟨by decide, by decide, by decide⟩) (List.Pairwise.cons (fun b hb => by obtain rfl := List.mem_singleton.1 hb; decide) (canon1 _)) fun x => ?_
  rw [cnt3, cnt_cons, cnt_cons, cnt_nil]
  simp only
  repeat' split
  all_goals omega
 unfold beginT
 rw [show freeV shV3 = [⟨2, 1⟩, ⟨5, 15⟩] from h]
 rfl
theorem sh1 : shW.1 = 0 := by decide +kernel
theorem sh2 : shC.1 = 0 := by decide +kernel
theorem sh3 : shW2.1 = 0 := by decide +kernel
theorem shC_is : shC.2.1 = shV3 := by kernel_rfl
theorem sh4 : mountV shP = mount4 ⟨2, 20, 16, [⟨4, 1⟩]⟩ 1 ([shF], 0) := by kernel_rfl
theorem sh5 : readV [shF] shP [97] = ([120], 0) := by decide +kernel
theorem shF_bd : BdL [shF] := ⟨by decide, fun f hf => by
 obtain rfl := List.mem_singleton.1 hf
 exact ⟨by show (B [97]).size ≤ 100000; rw [B_size]; decide, by decide⟩⟩
theorem shW_l : shW.2.1.l = [shF] := by kernel_rfl
theorem sh64 : (shP.now.all fun s => decide (s.size = 64)) = true := by decide +kernel
theorem sh6 : dirB [shF] = true := by decide +kernel
theorem shM_is : mountV shP = (0, shV6) := by
 have hr : rightV [shF] 20 [⟨4, 1⟩] = true := rightV_is sh6 ⟨by decide, by decide⟩ ok3 fun x => (cnt3 x).symm ▸ (by split <;> omega)
 rw [sh4]
 unfold mount4
 rw [if_neg (fun h => h rfl), if_neg (by rw [hr]; decide)]
 rfl
theorem sh7 : (formatV (newDV 20)).2.pend.length < 100000 := by decide +kernel
theorem sh8 : shW.2.2.pend.length < 100000 := by decide +kernel
theorem sh9 : shC.2.2.2.pend.length < 100000 := by decide +kernel
theorem sh10 : shW2.2.2.pend.length < 100000 := by decide +kernel
theorem sh11 : shP.now.length ≤ 1000 := by decide +kernel
theorem shT_ok : shT.Ok := shT_is ▸ beginT_ok (V := fmtV (newDV 20)) List.Pairwise.nil (by decide)
theorem shown_facts : ∃ D0 V0 T1 T2 D2 V3 T3 D3 T4 T5 D5 P V6,
  (formatV (newDV 20)).2 = D0 ∧ fmtV (newDV 20) = V0 ∧ V0.Ok ∧ D0.pend.length < 100000 ∧ V0.slot = 0 ∧
  beginT V0 = T1 ∧ T1.Ok ∧ twriteV { V0 with began := V0.began + 1 } T1 D0 [97] [120] = (0, T2, D2) ∧ T2.Ok ∧ BdL T2.l ∧ D2.pend.length < 100000 ∧
  commitV { V0 with began := V0.began + 1 } T2 D2 = (0, V3, T3, D3) ∧ V3.Ok ∧ D3.pend.length < 100000 ∧ beginT V3 = T4 ∧ T4.Ok ∧
  twriteV { V3 with began := V3.began + 1 } T4 D3 [97] [121] = (0, T5, D5) ∧ D5.pend.length < 100000 ∧
  D5.power [] = P ∧ (∀ s ∈ P.now, s.size = 64) ∧ P.now.length ≤ 1000 ∧ mountV P = (0, V6) ∧ readV V6.l P [97] = ([120], 0) ∧ ((findV (B [97]) V6.l).2 = true → FileOk (findV (B [97]) V6.l).1) := by
 refine ⟨(formatV (newDV 20)).2, fmtV (newDV 20), shT, shW.2.1, shW.2.2, shV3, shC.2.2.1, shC.2.2.2, shT4, shW2.2.1, shW2.2.2, shP, shV6, rfl, rfl, ⟨⟨by decide, fun f hf => nomatch hf⟩, by decide, by decide, by decide, by decide⟩, sh7, rfl, shT_is, shT_ok, Prod.ext sh1 rfl, (twrite_ok shT_ok (by decide) (by decide)).1, by rw [shW_l]; exact shF_bd, sh8, Prod.ext sh2 (Prod.ext shC_is rfl), ⟨shF_bd, by decide, by decide, by decide, by decide⟩, sh9, shT4_is, shT4_is ▸ beginT_ok (V := shV3) (List.pairwise_singleton ..) (by decide), Prod.ext sh3 rfl, sh10, rfl, fun s hs => by simpa using List.all_eq_true.1 sh64 s hs, sh11, shM_is, sh5, fun h => ?_⟩
 have hf := find_one [97] [97] 1 [⟨3, 1⟩]
 rw [if_pos rfl] at hf
 rw [show findV (B [97]) shV6.l = (shF, true) from hf]
 exact ⟨ok1 (by decide) (by decide) (by decide), by decide, by decide, by decide, by decide⟩
set_option maxHeartbeats 16000000 in
theorem shown.calls (w : World) (ht : TabsW w) : Calls Tryz.prog 10 #[] w fun e w' => e = .returned (.bool true) ∧ Below w.heap.size w w' := by
 have HBG := zA (begunAt.calls 20 w (by decide) (by decide) r6_20 ht w (Below.refl _ _))
 unfold BegTo at HBG
 obtain ⟨D0, V0, T1, T2, D2, V3, T3, D3, T4, T5, D5, P, V6, eD0, eV0, oV0, oD0, oS0, eT1, oT1, eW1, oT2, oB2, oD2, eC, oV3, oD3, eT4, oT4, eW2, oD5, eP, oP, oPl, eM, eR, oF⟩ := shown_facts
 rw [eD0, eV0] at HBG
 have HTB := zA ht
 have HF0 := zA (And.intro oV0 (And.intro oD0 oS0))
 have HF1 := zA (And.intro eT1 oT1)
 have HF2 := zA (And.intro eW1 (And.intro oT2 (And.intro oB2 oD2)))
 have HF3 := zA (And.intro eC (And.intro oV3 oD3))
 have HF4 := zA (And.intro eT4 oT4)
 have HF5 := zA (And.intro eW2 oD5)
 have HF6 := zA (And.intro eP (And.intro oP oPl))
 have HF7 := zA (And.intro eM (And.intro eR oF))
 clear eD0 eV0 oV0 oD0 oS0 eT1 oT1 eW1 oT2 oB2 oD2 eC oV3 oD3 eT4 oT4 eW2 oD5 eP oP oPl eM eR oF ht
 go_enter Tryz.func10, Tryz.ntmps10
 go_wp2_with (go_at_call 11; go_loud (refine HBG.out.mono ?_; rintro e w1 ⟨gb, gd, gm, gv, gw, S1, M1, rfl, hb, hgb, hnb, hsys⟩; have HK1 := zA (And.intro hb hnb); have HX1 := zA hsys; have kv := (show w1.cell? ⟨gb, 2, none⟩ = some (.pointer (some ⟨gv, 0, none⟩)) from (zN hb 2).trans rfl); clear hb hgb hnb hsys))
 have HG2 := zA (show Calls Tryz.prog 12 #[.pointer (some ⟨gv, 0, none⟩)] w1 _ from by
  have h := beginVia.calls HX1.out HF0.out.1
  rw [HF1.out.1] at h
  exact h)
 clear HBG
 go_wp2_with (go_at_call 12; go_loud (refine HG2.out.mono ?_; rintro e w2 ⟨gt, rfl, hlt2, hx2, hv2, hq2⟩; have HX2 := zA hx2; have HK2 := zA (hv2.blk HK1.out.1 HK1.out.2); clear hlt2 hx2 hv2 hq2))
 have HG3 := zA (show Calls Tryz.prog 13 #[.pointer (some ⟨gt, 0, none⟩), .string ⟨#[97]⟩, .string ⟨#[120]⟩] w2 _ from by
  have h := writeVia.calls HX2.out HF1.out.2 HTB.out [97] [120] (by decide) (by decide) (by have := HF0.out.2.1; omega)
  rw [HF2.out.1] at h
  simp only at h
  exact h)
 clear HX1 HK1 HG2 kv
 go_wp2_with (go_at_call 13; go_loud (refine HG3.out.mono ?_; rintro e w3 ⟨rfl, S3, M3, hx3, hv3, hq3⟩; have HX3 := zA hx3; have HK3 := zA (hv3.blk HK2.out.1 HK2.out.2); clear hx3 hv3 hq3))
 have HG4 := zA (show Calls Tryz.prog 14 #[.pointer (some ⟨gt, 0, none⟩)] w3 _ from by
  have h := commitVia.calls HX3.out HF2.out.2.1 HF2.out.2.2.1 HTB.out (by have := HF2.out.2.2.2; omega) (.inl HF0.out.2.2)
  rw [HF3.out.1] at h
  simp only at h
  exact h)
 clear HX2 HK2 HG3
 go_wp2_with (go_at_call 14; go_loud (refine HG4.out.mono ?_; rintro e w4 ⟨rfl, S4, M4, hx4, hv4⟩; have HX4 := zA hx4.toVol; have hk4 := hv4.blk HK3.out.1 HK3.out.2; have HK4 := zA hk4; have kv := (show w4.cell? ⟨gb, 2, none⟩ = some (.pointer (some ⟨gv, 0, none⟩)) from (zN hk4.1 2).trans rfl); clear hx4 hv4 hk4))
 have HG5 := zA (show Calls Tryz.prog 12 #[.pointer (some ⟨gv, 0, none⟩)] w4 _ from by
  have h := beginVia.calls HX4.out HF3.out.2.1
  rw [HF4.out.1] at h
  exact h)
 clear HX3 HK3 HG4
 go_wp2_with (go_at_call 12; go_loud (refine HG5.out.mono ?_; rintro e w5 ⟨gu, rfl, hlt2, hx2, hv2, hq2⟩; have HX5 := zA hx2; have HK5 := zA (hv2.blk HK4.out.1 HK4.out.2); clear hlt2 hx2 hv2 hq2))
 have HG6 := zA (show Calls Tryz.prog 13 #[.pointer (some ⟨gu, 0, none⟩), .string ⟨#[97]⟩, .string ⟨#[121]⟩] w5 _ from by
  have h := writeVia.calls HX5.out HF4.out.2 HTB.out [97] [121] (by decide) (by decide) (by have := HF3.out.2.2; omega)
  rw [HF5.out.1] at h
  simp only at h
  exact h)
 clear HX4 HK4 HG5 kv
 go_wp2_with (go_at_call 13; go_loud (refine HG6.out.mono ?_; rintro e w6 ⟨rfl, S6, M6, hx6, hv6, hq6⟩; have HX6 := zA hx6.toVol; have hk6 := hv6.blk HK5.out.1 HK5.out.2; have HK6 := zA hk6; have kd := (show w6.cell? ⟨gb, 0, none⟩ = some (.pointer (some ⟨gd, 0, none⟩)) from (zN hk6.1 0).trans rfl); clear hx6 hv6 hq6 hk6))
 have HG7 := zA (show Calls Tryz.prog 27 #[.pointer (some ⟨gd, 0, none⟩), .slice none 0 0] w6 _ from by
  have h := powerVia.calls HX6.out (by have := HF5.out.2; omega)
  rw [HF6.out.1] at h
  exact h)
 clear HX5 HK5 HG6
 go_wp2_with (go_at_call 27; go_loud (refine HG7.out.mono ?_; rintro e w7 ⟨rfl, hd7, hb7, hv7⟩; have HD7 := zA (And.intro hd7 hb7); have hk7 := hv7.blk HK6.out.1 HK6.out.2; have kd7 := (show w7.cell? ⟨gb, 0, none⟩ = some (.pointer (some ⟨gd, 0, none⟩)) from (zN hk7.1 0).trans rfl); clear hd7 hb7 hv7 hk7))
 have HG8 := zA (show Calls Tryz.prog 23 #[.pointer (some ⟨gd, 0, none⟩)] w7 fun e w' => ∃ g2 X, e = .returned (.tuple #[.pointer (some ⟨g2, 0, none⟩), .int .i64 0]) ∧ VolSys w w' S6 X gd g2 P V6 from by
  have h := vmount.calls S6 gd P w w7 HD7.out.1 HD7.out.2 HTB.out HF6.out.2.1 HF6.out.2.2
  rw [HF7.out.1] at h
  refine h.mono ?_
  rintro e w' ⟨-, ⟨hq, -⟩ | ⟨-, g2, rfl, -, hx⟩⟩
  ·exact absurd rfl hq
  ·exact ⟨g2, _, rfl, hx S6 HD7.out.1.sb fun k q => q⟩)
 clear HX6 HK6 HG7 kd
 go_wp2_with (go_at_call 23; go_loud (refine HG8.out.mono ?_; rintro e w8 ⟨g2, X8, rfl, hx8⟩; have HX8 := zA hx8; clear hx8))
 have HG9 := zA (show Calls Tryz.prog 15 #[.pointer (some ⟨g2, 0, none⟩), .string ⟨#[97]⟩] w8 _ from by
  have h := readVol.calls HX8.out [97] HF6.out.2.1 HF7.out.2.2
  rw [HF7.out.2.1] at h
  simp only at h
  exact h)
 clear HG8 HD7 kd7
 have n1 : (B [120]).toList = [120] := B_toList _
 go_wp2_with (go_at_call 15; go_loud (refine HG9.out.mono ?_; rintro e w9 ⟨rfl, hb9⟩; (try change Value.string (⟨#[120]⟩ : ByteArray) = _); have HB9 := zA (below_then HX8.out.bel (below_size HX8.out.bel) hb9); clear hb9))
 go_ret
 exact ⟨rfl, HB9.out⟩
end Go.Proofs.YtcclaidbikjhiaaGreatDoor.PVo
