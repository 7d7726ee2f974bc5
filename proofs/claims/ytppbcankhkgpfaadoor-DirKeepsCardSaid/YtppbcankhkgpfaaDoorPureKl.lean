/-
  rootcellarlaw7.DirKeeps: the law's walk.
-/
import Derived.Test.YtppbcankhkgpfaaDoorPDkx34
import Derived.Test.YtppbcankhkgpfaaDoorPDkx31
import Derived.Test.YtppbcankhkgpfaaDoorPureUl
import Derived.Deep.RegionHeld3
import Derived.Deep.CutBlock
--compressed
namespace Go.Proofs.YtppbcankhkgpfaaDoor.PDk
open Go.RowKit Go.Proofs.YtppbcankhkgpfaaDoorW.PrintWords Go.Proofs.YtppbcankhkgpfaaDoorW.PrintLast Go.Proofs.YtppbcankhkgpfaaDoorW.PrintMore
attribute [local go_sem] max2_int min2_int max_two min_two max_three min_three max_four min_four
attribute [local go_sem high] hw_str_leq hw_str_gtr
set_option linter.unusedVariables false
set_option linter.unusedSimpArgs false
theorem row_one {W : World} {b : Nat} {x : S43} {cs : List Value} (hb : W.heap[b]? = some (.cells cs.toArray 43 (0, 0))) (h : (k43).K W x cs) : Kd.C k43 W (some ⟨b, 0, none⟩) 1 [x] :=
 ⟨rfl, by decide, fun _ => ⟨⟨b, 0, none⟩, rfl, fun j p hj => by
  have hj0 : j = 0 := by
   have := (List.getElem?_eq_some_iff.1 hj).1
   simp at this
   exact this
  subst hj0
  have hp : x = p := by simpa using hj
  subst hp
  refine ⟨cs, (k43).K_len h, h, fun i u hu => ?_⟩
  rw [Nat.zero_mul, Nat.zero_add, Addr.add_lit, Nat.zero_add, cell_of_list hb]
  exact hu⟩⟩
theorem row_cut {W : World} {ad : Addr} {l : List S43} (h : Kd.C k43 W (some ad) l.length l) (n : Nat) (hn : n < l.length) : Kd.C k43 W (some (ad.add (n * 3))) 1 [l[n]] := by
 obtain ⟨_, _, h3⟩ := h
 obtain ⟨ad', he, hc⟩ := h3 (by omega)
 injection he with he
 subst he
 refine ⟨rfl, by decide, fun _ => ⟨ad.add (n * 3), rfl, fun j p hj => ?_⟩⟩
 have hj0 : j = 0 := by
  have := (List.getElem?_eq_some_iff.1 hj).1
  simp at this
  exact this
 subst hj0
 have hp : l[n] = p := by simpa using hj
 subst hp
 obtain ⟨c, h1, h2, h4⟩ := hc n l[n] (List.getElem?_eq_getElem hn)
 refine ⟨c, h1, h2, fun i u hu => ?_⟩
 rw [Nat.zero_mul, Nat.zero_add, Addr.add_add]
 exact h4 i u hu
theorem asC.calls (k : Nat) (A0 : Option Addr) (c0 : Nat) (l0 : List S43) (r : List S45) (w : World) (hr0 : Kd.C k43 w A0 l0.length l0) (hc0 : l0.length ≤ c0) (h : rootcellarlaw7_as.f k l0 = some r) :
  Calls Tryd.prog 17 #[.slice A0 l0.length c0] w fun e w' => ∃ A c, e = .returned (.slice A r.length c) ∧ r.length ≤ c ∧ Kd.C k45 w' A r.length r ∧ Below w.heap.size w w' := by
 refine (rootcellarlaw7_as.calls k (fun k => k < w.heap.size) A0 c0 l0 r w ⟨A0, c0, rfl, hc0, Kd.C_F k43_heap hr0⟩ h).mono ?_
 rintro e w' ⟨v, rfl, hN, hb⟩
 obtain ⟨A, c, rfl, h1, h2⟩ := Kd.N_reads hN
 exact ⟨A, c, rfl, h1, h2, hb⟩
/-- The early ends: a row that is not small, a Put that errs, too many files. -/
def keepsEarly (k : Nat) (l : List S43) (f : S43) : Prop := ∃ b sb tb e g, rootcellarlaw7_small.f k l = some b ∧ dir_Put.f k l = some (sb, e) ∧ dir_Put.f k [f] = some (tb, g) ∧ (b = false ∨ e ≠ 0 ∨ g ≠ 0 ∨ 120 ≤ l.length)
set_option maxHeartbeats 4000000 in
set_option maxRecDepth 100000 in
theorem DirKeeps_early (k : Nat) (A0 : Option Addr) (c0 : Nat) (l0 : List S43) (f : S43) (A2 : Option Addr) (c2 : Nat) (w : World) (hr0 : Kd.C k43 w A0 l0.length l0) (hc0 : l0.length ≤ c0) (hK : (k43).K w f (fileC3 f A2 c2)) (ht : TabsW w)
  (e1 : rootcellarlaw7_shown.f k = some true) (he : keepsEarly k l0 f) :
  Calls Tryd.prog 7 #[.slice A0 l0.length c0, .agg #[.string f.f0, .int .i64 f.f1, .slice A2 f.f2.length c2]] w fun e w' => e = .returned (.bool true) ∧ Below w.heap.size w w' := by
 obtain ⟨b, sb, tb, ep, gp, e2, e3, e4, hc⟩ := he
 have hu := Tryd.underlying43
 obtain ⟨wb, hwb⟩ : ∃ wb, wb = w.alloc (.cells #[.string f.f0, .int .i64 f.f1, .slice A2 f.f2.length c2] 43) := ⟨_, rfl⟩
 have hbw : Below w.heap.size w wb := by rw [hwb]; exact below_alloc (Below.refl _ w) _
 have hr1 := Kd.C_below hr0 hbw
 have hK1 := (k43).K_below hbw hK
 have ht1 := ht.below hbw
 have H1 := Aside0.mk (fun W (hW : Below wb.heap.size wb W) => (rootcellarlaw7_shown.calls k true W (ht1.below hW) e1).mono fun e w' h => (show e = .returned (.bool true) ∧ Below wb.heap.size wb w' from ⟨h.1, hW.trans (h.2.mono (below_size hW))⟩))
 have H2 := Aside0.mk (fun W (hW : Below wb.heap.size wb W) => (rootcellarlaw7_small.calls k A0 c0 l0 b W (Kd.C_below hr1 hW) hc0 e2).mono fun e w' h => (show e = .returned (.bool b) ∧ Below wb.heap.size wb w' from ⟨h.1, hW.trans (h.2.below.mono (below_size hW))⟩))
 have H3 := Aside0.mk (fun W (hW : Below wb.heap.size wb W) => (dir_Put.calls k A0 c0 l0 sb ep W (Kd.C_below hr1 hW) hc0 (ht1.below hW) e3).mono fun e w' h => (show e = .returned (.tuple #[.string sb, .int .i64 ep]) ∧ Below wb.heap.size wb w' from ⟨h.1, hW.trans (h.2.mono (below_size hW))⟩))
 have H4 := Aside0.mk (fun W (hW : Below wb.heap.size wb W) => (dir_Put.calls k (some ⟨W.heap.size, 0, none⟩) 1 [f] tb gp (W.alloc (.cells #[.string f.f0, .int .i64 f.f1, .slice A2 f.f2.length c2] 43)) (one_row ((k43).K_below hW hK1)) (Nat.le_refl _) (ht1.below (below_alloc hW _)) e4).mono fun e w' h => (show e = .returned (.tuple #[.string tb, .int .i64 gp]) ∧ Below wb.heap.size wb w' from ⟨h.1, (below_alloc hW _).trans (h.2.mono (below_size (below_alloc hW _)))⟩))
 have HFB := Aside0.mk (show ∀ W, Below wb.heap.size wb W → W.heap[w.heap.size]? = some (.cells #[.string f.f0, .int .i64 f.f1, .slice A2 f.f2.length c2] 43 (0, 0)) from fun W hW => blk_below (by rw [hwb]; exact blk_new w _) hW)
 have HB0 := Aside0.mk (show Below wb.heap.size wb (w.alloc (.cells #[.string f.f0, .int .i64 f.f1, .slice A2 f.f2.length c2] 43)) from by rw [hwb]; exact Below.refl _ _)
 have HBW := Aside0.mk hbw
 clear hwb hbw hr1 hK1 ht1 hr0 hc0 hK ht e1 e2 e3 e4
 rcases Classical.em (b = false) with rfl | hb
 ·clear hc
  go_enter Tryd.func7, Tryd.ntmps7
  go_wp2_with (first
   | (go_at_call 10; go_loud (refine (H1.out _ HB0.out).mono ?_; rintro e w1 ⟨rfl, x1⟩; have HB1 := Aside0.mk x1; clear x1))
   | (go_at_call 15; go_loud (refine (H2.out _ HB1.out).mono ?_; rintro e w2 ⟨rfl, x2⟩; have HB2 := Aside0.mk x2; clear x2))
   | (go_at_call 16; refine (H4.out _ HB3.out).mono ?_; rintro e w4 ⟨rfl, x4⟩; have HB4 := Aside0.mk x4; clear x4)
   | (go_at_call 16; go_loud (refine (H3.out _ HB2.out).mono ?_; rintro e w3 ⟨rfl, x3⟩; have hf0 := blk_cell (HFB.out _ x3) 0; have hf1 := blk_cell (HFB.out _ x3) 1; have hf2 := blk_cell (HFB.out _ x3) 2; have HB3 := Aside0.mk x3; clear x3)))
  go_ret
  exact ⟨rfl, HBW.out.trans (HB4.out.mono (below_size HBW.out))⟩
 ·have hbt : b = true := by cases b with | true => rfl | false => exact absurd rfl hb
  subst hbt
  by_cases h1 : ep = 0
  ·subst h1
   by_cases h2 : gp = 0
   ·subst h2
    have h3 : 120 ≤ l0.length := by
     rcases hc with h | h | h | h
     ·cases h
     ·exact absurd rfl h
     ·exact absurd rfl h
     ·exact h
    have hz : decide ((120 : Int) ≤ (l0.length : Int)) = true := decide_eq_true (by omega)
    clear hc hb h3
    go_enter Tryd.func7, Tryd.ntmps7
    go_wp2_with (first
     | (go_at_call 10; go_loud (refine (H1.out _ HB0.out).mono ?_; rintro e w1 ⟨rfl, x1⟩; have HB1 := Aside0.mk x1; clear x1))
     | (go_at_call 15; go_loud (refine (H2.out _ HB1.out).mono ?_; rintro e w2 ⟨rfl, x2⟩; have HB2 := Aside0.mk x2; clear x2))
     | (go_at_call 16; refine (H4.out _ HB3.out).mono ?_; rintro e w4 ⟨rfl, x4⟩; have HB4 := Aside0.mk x4; clear x4)
     | (go_at_call 16; go_loud (refine (H3.out _ HB2.out).mono ?_; rintro e w3 ⟨rfl, x3⟩; have hf0 := blk_cell (HFB.out _ x3) 0; have hf1 := blk_cell (HFB.out _ x3) 1; have hf2 := blk_cell (HFB.out _ x3) 2; have HB3 := Aside0.mk x3; clear x3)))
    go_ret
    exact ⟨rfl, HBW.out.trans (HB4.out.mono (below_size HBW.out))⟩
   ·have hz : (gp != 0) = true := bne_iff_ne.2 h2
    clear hc hb h2
    go_enter Tryd.func7, Tryd.ntmps7
    go_wp2_with (first
     | (go_at_call 10; go_loud (refine (H1.out _ HB0.out).mono ?_; rintro e w1 ⟨rfl, x1⟩; have HB1 := Aside0.mk x1; clear x1))
     | (go_at_call 15; go_loud (refine (H2.out _ HB1.out).mono ?_; rintro e w2 ⟨rfl, x2⟩; have HB2 := Aside0.mk x2; clear x2))
     | (go_at_call 16; refine (H4.out _ HB3.out).mono ?_; rintro e w4 ⟨rfl, x4⟩; have HB4 := Aside0.mk x4; clear x4)
     | (go_at_call 16; go_loud (refine (H3.out _ HB2.out).mono ?_; rintro e w3 ⟨rfl, x3⟩; have hf0 := blk_cell (HFB.out _ x3) 0; have hf1 := blk_cell (HFB.out _ x3) 1; have hf2 := blk_cell (HFB.out _ x3) 2; have HB3 := Aside0.mk x3; clear x3)))
    go_ret
    exact ⟨rfl, HBW.out.trans (HB4.out.mono (below_size HBW.out))⟩
  ·have hz : (ep != 0) = true := bne_iff_ne.2 h1
   clear hc hb h1
   go_enter Tryd.func7, Tryd.ntmps7
   go_wp2_with (first
    | (go_at_call 10; go_loud (refine (H1.out _ HB0.out).mono ?_; rintro e w1 ⟨rfl, x1⟩; have HB1 := Aside0.mk x1; clear x1))
    | (go_at_call 15; go_loud (refine (H2.out _ HB1.out).mono ?_; rintro e w2 ⟨rfl, x2⟩; have HB2 := Aside0.mk x2; clear x2))
    | (go_at_call 16; refine (H4.out _ HB3.out).mono ?_; rintro e w4 ⟨rfl, x4⟩; have HB4 := Aside0.mk x4; clear x4)
    | (go_at_call 16; go_loud (refine (H3.out _ HB2.out).mono ?_; rintro e w3 ⟨rfl, x3⟩; have hf0 := blk_cell (HFB.out _ x3) 0; have hf1 := blk_cell (HFB.out _ x3) 1; have hf2 := blk_cell (HFB.out _ x3) 2; have HB3 := Aside0.mk x3; clear x3)))
   go_ret
   exact ⟨rfl, HBW.out.trans (HB4.out.mono (below_size HBW.out))⟩
theorem blk_new' (w : World) (o : Obj) (n : Nat) (h : n = w.heap.size) : (w.alloc o).heap[n]? = some o := by subst h; exact blk_new w o
/-- What is asked for the whole walk. -/
structure KeepsAll (k : Nat) (l : List S43) (f : S43) (toR : S43 → S45) : Prop where
 e2 : rootcellarlaw7_small.f k l = some true
 e3 : ∃ sb, dir_Put.f k l = some (sb, 0)
 e4 : ∃ tb, dir_Put.f k [f] = some (tb, 0)
 len : l.length < 120
 hm : ∀ a b (ha : a < l.length) (hb : b < l.length), a ≤ b → aheadN l[b].f0 f.f0 = true → aheadN l[a].f0 f.f0 = true
 x1 : findV f.f0 (withV f l) = (f, true)
 x2 : (findV f.f0 (withoutV f.f0 (withV f l))).2 = false
 p1 : ∃ sb, dir_Put.f k (withV f l) = some (sb, 0)
 p2 : ∃ sb, dir_Put.f k (withoutV f.f0 (withV f l)) = some (sb, 0)
 a1 : ∀ x, x = f ∨ x ∈ l → rootcellarlaw7_as.f k [x] = some [toR x] ∧ rootcellarlaw7_same.f k [x] [toR x] = some true
 ll : (withV f l).length = (withoutV f.f0 (withV f l)).length + 1
 wl : (withV f l).length ≤ 1000
 lp : ∀ x ∈ l, (findV x.f0 (withV f l)).2 = true ∧ ((x.f0.toList == f.f0.toList) = false → findV x.f0 (withV f l) = (x, true))
 fin : withoutV f.f0 l = withoutV f.f0 (withV f l)
 a2 : rootcellarlaw7_as.f k (withoutV f.f0 l) = some ((withoutV f.f0 l).map toR)
 a3 : rootcellarlaw7_same.f k (withoutV f.f0 l) ((withoutV f.f0 l).map toR) = some true
set_option maxHeartbeats 8000000 in
set_option maxRecDepth 100000 in
theorem DirKeeps_full (k : Nat) (A0 : Option Addr) (c0 : Nat) (l0 : List S43) (f : S43) (toR : S43 → S45) (A2 : Option Addr) (c2 : Nat) (w : World) (hr0 : Kd.C k43 w A0 l0.length l0) (hc0 : l0.length ≤ c0) (hK : (k43).K w f (fileC3 f A2 c2)) (ht : TabsW w)
  (e1 : rootcellarlaw7_shown.f k = some true) (he : KeepsAll k l0 f toR) :
  Calls Tryd.prog 7 #[.slice A0 l0.length c0, .agg #[.string f.f0, .int .i64 f.f1, .slice A2 f.f2.length c2]] w fun e w' => e = .returned (.bool true) ∧ Below w.heap.size w w' := by
 obtain ⟨e2, ⟨sb, e3⟩, ⟨tb, e4⟩, hlen, hm, x1, x2, ⟨pb, p1⟩, ⟨qb, p2⟩, a1, ll, wl, lp, fin, a2, a3⟩ := he
 have hu := Tryd.underlying43
 obtain ⟨wb, hwb⟩ : ∃ wb, wb = w.alloc (.cells #[.string f.f0, .int .i64 f.f1, .slice A2 f.f2.length c2] 43) := ⟨_, rfl⟩
 have hbw : Below w.heap.size w wb := by rw [hwb]; exact below_alloc (Below.refl _ w) _
 have hr1 := Kd.C_below hr0 hbw
 have hK1 := (k43).K_below hbw hK
 have ht1 := ht.below hbw
 have H1 := Aside0.mk (fun W (hW : Below wb.heap.size wb W) => (rootcellarlaw7_shown.calls k true W (ht1.below hW) e1).mono fun e w' h => (show e = .returned (.bool true) ∧ Below wb.heap.size wb w' from ⟨h.1, hW.trans (h.2.mono (below_size hW))⟩))
 have H2 := Aside0.mk (fun W (hW : Below wb.heap.size wb W) => (rootcellarlaw7_small.calls k A0 c0 l0 true W (Kd.C_below hr1 hW) hc0 e2).mono fun e w' h => (show e = .returned (.bool true) ∧ Below wb.heap.size wb w' from ⟨h.1, hW.trans (h.2.below.mono (below_size hW))⟩))
 have H3 := Aside0.mk (fun W (hW : Below wb.heap.size wb W) => (dir_Put.calls k A0 c0 l0 sb 0 W (Kd.C_below hr1 hW) hc0 (ht1.below hW) e3).mono fun e w' h => (show e = .returned (.tuple #[.string sb, .int .i64 0]) ∧ Below wb.heap.size wb w' from ⟨h.1, hW.trans (h.2.mono (below_size hW))⟩))
 have H4 := Aside0.mk (fun W (hW : Below wb.heap.size wb W) => (dir_Put.calls k (some ⟨W.heap.size, 0, none⟩) 1 [f] tb 0 (W.alloc (.cells #[.string f.f0, .int .i64 f.f1, .slice A2 f.f2.length c2] 43)) (one_row ((k43).K_below hW hK1)) (Nat.le_refl _) (ht1.below (below_alloc hW _)) e4).mono fun e w' h => (show e = .returned (.tuple #[.string tb, .int .i64 0]) ∧ Below wb.heap.size wb w' from ⟨h.1, (below_alloc hW _).trans (h.2.mono (below_size (below_alloc hW _)))⟩))
 have HPX := Aside0.mk (fun (l : List S43) sx (hp : dir_Put.f k l = some (sx, 0)) W (hW : Below wb.heap.size wb W) A c (hc : l.length ≤ c) (hr : Kd.C k43 W A l.length l) => (dir_Put.calls k A c l sx 0 W hr hc (ht1.below hW) hp).mono fun e w' h => (show e = .returned (.tuple #[.string sx, .int .i64 0]) ∧ Below wb.heap.size wb w' ∧ Below W.heap.size W w' from ⟨h.1, hW.trans (h.2.mono (below_size hW)), h.2⟩))
 have HFX := Aside0.mk (fun (l : List S43) name W (hW : Below wb.heap.size wb W) A c (hr : Kd.C k43 W A l.length l) => (findF.calls A c l name W hr).mono fun e w' h => (show (∃ A3 c3, e = .returned (.tuple #[.agg #[.string (findV name l).1.f0, .int .i64 (findV name l).1.f1, .slice A3 (findV name l).1.f2.length c3], .bool (findV name l).2]) ∧ (findV name l).1.f2.length ≤ c3 ∧ Kd.C k64 w' A3 (findV name l).1.f2.length (findV name l).1.f2) ∧ Below wb.heap.size wb w' ∧ Below W.heap.size W w' from by
  obtain ⟨⟨A3, c3, g1, g2, g3⟩, g4⟩ := h
  exact ⟨⟨A3, c3, g1, g2, Kd.C_below g3 g4⟩, hW.trans (g4.mono (below_size hW)), g4⟩))
 have HW := Aside0.mk (fun W (hW : Below wb.heap.size wb W) => (withF.calls A0 c0 l0 f A2 c2 W (Kd.C_below hr1 hW) (by omega) hm ((k43).K_below hW hK1)).mono fun e w' h => (show ∃ A3 c3, e = .returned (.slice A3 (withV f l0).length c3) ∧ (withV f l0).length ≤ c3 ∧ Kd.C k43 w' A3 (withV f l0).length (withV f l0) ∧ Below wb.heap.size wb w' ∧ Below W.heap.size W w' from by
  obtain ⟨v, ps, g1, g2, g3, g4⟩ := h
  obtain ⟨A3, c3, rfl, g5, g6⟩ := g3.reads g4
  rw [g2] at g1 g5 g6
  exact ⟨A3, c3, g1, g5, g6, hW.trans (g4.mono (below_size hW)), g4⟩))
 have HWO := Aside0.mk (fun (l : List S43) (hl : l.length ≤ 1000) W (hW : Below wb.heap.size wb W) A c (hr : Kd.C k43 W A l.length l) => (withoutF.calls A c l f.f0 W hr (by omega)).mono fun e w' h => (show ∃ A3 c3, e = .returned (.slice A3 (withoutV f.f0 l).length c3) ∧ (withoutV f.f0 l).length ≤ c3 ∧ Kd.C k43 w' A3 (withoutV f.f0 l).length (withoutV f.f0 l) ∧ Below wb.heap.size wb w' ∧ Below W.heap.size W w' from by
  obtain ⟨v, ps, g1, g2, g3, g4⟩ := h
  obtain ⟨A3, c3, rfl, g5, g6⟩ := g3.reads g4
  rw [g2] at g1 g5 g6
  exact ⟨A3, c3, g1, g5, g6, hW.trans (g4.mono (below_size hW)), g4⟩))
 have HFB := Aside0.mk (show ∀ W, Below wb.heap.size wb W → W.heap[w.heap.size]? = some (.cells #[.string f.f0, .int .i64 f.f1, .slice A2 f.f2.length c2] 43 (0, 0)) from fun W hW => blk_below (by rw [hwb]; exact blk_new w _) hW)
 have HB0 := Aside0.mk (show Below wb.heap.size wb (w.alloc (.cells #[.string f.f0, .int .i64 f.f1, .slice A2 f.f2.length c2] 43)) from by rw [hwb]; exact Below.refl _ _)
 have HBW := Aside0.mk hbw
 have HL0 := Aside0.mk (show ∀ W, Below wb.heap.size wb W → Kd.C k43 W A0 l0.length l0 from fun W hW => Kd.C_below hr1 hW)
 have HKF := Aside0.mk (show ∀ W, Below wb.heap.size wb W → (k43).K W f [.string f.f0, .int .i64 f.f1, .slice A2 f.f2.length c2] from fun W hW => (k43).K_below hW hK1)
 have HC0 := Aside0.mk (show l0.length ≤ c0 ∧ l0.length < 120 from ⟨hc0, hlen⟩)
 have hbz : decide ((120 : Int) ≤ (l0.length : Int)) = false := decide_eq_false (by omega)
 clear hwb hbw hr1 hK1 ht1 hr0 hc0 hK ht e1 e2 e3 e4 hm
 obtain ⟨LW, hLW⟩ : ∃ LW, LW = withV f l0 := ⟨_, rfl⟩
 rw [← hLW] at x1 x2 p1 p2 ll wl lp fin HW
 obtain ⟨LO, hLO⟩ : ∃ LO, LO = withoutV f.f0 LW := ⟨_, rfl⟩
 rw [← hLO] at x2 p2 ll fin
 rw [fin] at a2 a3
 generalize LO.map toR = RL at a2 a3
 have hwol : LO.length ≤ 1000 := by omega
 have HA := Aside0.mk (show (∀ x, x = f ∨ x ∈ l0 → rootcellarlaw7_as.f k [x] = some [toR x] ∧ rootcellarlaw7_same.f k [x] [toR x] = some true) ∧ rootcellarlaw7_as.f k LO = some RL ∧ rootcellarlaw7_same.f k LO RL = some true from ⟨a1, a2, a3⟩)
 have HLP := Aside0.mk lp
 have HX := Aside0.mk (show findV f.f0 LW = (f, true) ∧ (findV f.f0 LO).2 = false ∧ LW.length ≤ 1000 ∧ LO.length ≤ 1000 ∧ dir_Put.f k LW = some (pb, 0) ∧ dir_Put.f k LO = some (qb, 0) ∧ withoutV f.f0 LW = LO ∧ withoutV f.f0 l0 = LO from ⟨x1, x2, wl, hwol, p1, p2, hLO.symm, fin⟩)
 have hll : ((LO.length : Int) != IntKind.i64.wrap ((LW.length : Int) - 1)) = false := by rw [bne_eq_false_iff_eq, IntKind.wrap_i64]; omega
 clear x1 x2 wl hwol p1 p2 hLO fin a1 a2 a3 lp hLW ll hlen
 -- Find(k, name), Without(k, name), Find(m, name)
 have HF1 := Aside0.mk (fun W hW A c hr => (HFX.out LW f.f0 W hW A c hr).mono fun e w' (h : _ ∧ _ ∧ _) => (show (∃ A3 c3, e = .returned (.tuple #[.agg #[.string f.f0, .int .i64 f.f1, .slice A3 f.f2.length c3], .bool true]) ∧ f.f2.length ≤ c3 ∧ Kd.C k64 w' A3 f.f2.length f.f2) ∧ Below wb.heap.size wb w' ∧ Below W.heap.size W w' from by rw [HX.out.1] at h; exact h))
 have HW1 := Aside0.mk (fun W hW A c hr => (HWO.out LW HX.out.2.2.1 W hW A c hr).mono fun e w' h => (show ∃ A3 c3, e = .returned (.slice A3 LO.length c3) ∧ LO.length ≤ c3 ∧ Kd.C k43 w' A3 LO.length LO ∧ Below wb.heap.size wb w' ∧ Below W.heap.size W w' from by rw [HX.out.2.2.2.2.2.2.1] at h; exact h))
 have HW2 := Aside0.mk (fun W hW => (HWO.out l0 (by have := HC0.out.2; omega) W hW A0 c0 (HL0.out W hW)).mono fun e w' h => (show ∃ A3 c3, e = .returned (.slice A3 LO.length c3) ∧ LO.length ≤ c3 ∧ Kd.C k43 w' A3 LO.length LO ∧ Below wb.heap.size wb w' ∧ Below W.heap.size W w' from by rw [HX.out.2.2.2.2.2.2.2] at h; exact h))
 have HF2 := Aside0.mk (fun W hW A c hr => (HFX.out LO f.f0 W hW A c hr).mono fun e w' (h : _ ∧ _ ∧ _) => (show (∃ u v A n c, e = .returned (.tuple #[.agg #[.string u, .int .i64 v, .slice A n c], .bool false])) ∧ Below wb.heap.size wb w' ∧ Below W.heap.size W w' from by
  rw [HX.out.2.1] at h
  obtain ⟨⟨A3, c3, g1, _⟩, g2⟩ := h
  exact ⟨⟨_, _, _, _, _, g1⟩, g2⟩))
 clear HWO
 go_enter Tryd.func7, Tryd.ntmps7
 go_upto_region 13 with (first
   | (go_at_call 10; go_loud (refine (H1.out _ HB0.out).mono ?_; rintro e w1 ⟨rfl, x1⟩; have HB1 := Aside0.mk x1; clear x1))
   | (go_at_call 15; go_loud (refine (H2.out _ HB1.out).mono ?_; rintro e w2 ⟨rfl, x2⟩; have HB2 := Aside0.mk x2; clear x2))
   | (go_at_call 16; refine (HPX.out LO qb HX.out.2.2.2.2.2.1 _ HB9.out _ _ G9.out.1 G9.out.2.2).mono ?_; rintro e w10 ⟨rfl, x10, y10⟩; have HB10 := Aside0.mk x10; have G10 := Aside0.mk (show Kd.C k43 w10 A5 LW.length LW ∧ Kd.C k43 w10 A7 LO.length LO from ⟨Kd.C_below GW9.out y10, Kd.C_below G9.out.2.2 y10⟩); have HY := Aside0.mk (HY.out.trans (y10.mono HY.out.size)); clear x10 y10)
   | (go_at_call 16; refine (HPX.out LW pb HX.out.2.2.2.2.1 _ (below_alloc HB8.out _) _ _ G8.out.1 (Kd.C_alloc G8.out.2.1 _)).mono ?_; rintro e w9 ⟨rfl, x9, y9⟩; have HB9 := Aside0.mk x9; have G9 := Aside0.mk (show LO.length ≤ c7 ∧ LW.length ≤ c5 ∧ Kd.C k43 w9 A7 LO.length LO from ⟨G8.out.2.2.1, G8.out.1, Kd.C_below (Kd.C_alloc G8.out.2.2.2 _) y9⟩); have GW9 := Aside0.mk (Kd.C_below (Kd.C_alloc G8.out.2.1 _) y9); have HY := Aside0.mk ((below_alloc HY.out _).trans (y9.mono (below_alloc HY.out _).size)); clear x9 y9)
   | (go_at_call 16; refine (H4.out _ HB3.out).mono ?_; rintro e w4 ⟨rfl, x4⟩; have hf4_0 := blk_cell (HFB.out _ x4) 0; have hf4_1 := blk_cell (HFB.out _ x4) 1; have hf4_2 := blk_cell (HFB.out _ x4) 2; have HB4 := Aside0.mk x4; clear x4)
   | (go_at_call 16; go_loud (refine (H3.out _ HB2.out).mono ?_; rintro e w3 ⟨rfl, x3⟩; have hf3_0 := blk_cell (HFB.out _ x3) 0; have hf3_1 := blk_cell (HFB.out _ x3) 1; have hf3_2 := blk_cell (HFB.out _ x3) 2; have HB3 := Aside0.mk x3; clear x3))
   | (go_at_call 21; go_loud (refine (HW.out _ HB4.out).mono ?_; rintro e w5 ⟨A5, c5, rfl, g5, g5', x5, y5⟩; have hf5_0 := blk_cell (HFB.out _ x5) 0; have HB5 := Aside0.mk x5; have G5 := Aside0.mk (And.intro g5 g5'); clear x5 y5 g5 g5'))
   | (go_at_call 19; refine (HF2.out _ HB7.out _ _ G7.out.2.2.2).mono ?_; rintro e w8 ⟨⟨u8, v8, A8, n8, c8, rfl⟩, x8, y8⟩; have HB8 := Aside0.mk x8; have G8 := Aside0.mk (show LW.length ≤ c5 ∧ Kd.C k43 w8 A5 LW.length LW ∧ LO.length ≤ c7 ∧ Kd.C k43 w8 A7 LO.length LO from ⟨G7.out.1, Kd.C_below G7.out.2.1 y8, G7.out.2.2.1, Kd.C_below G7.out.2.2.2 y8⟩); have HY := Aside0.mk (HY.out.trans (y8.mono HY.out.size)); clear x8 y8)
   | (go_at_call 19; go_loud (refine (HF1.out _ HB5.out _ _ G5.out.2).mono ?_; rintro e w6 ⟨⟨A6, c6, rfl, g6, g6'⟩, x6, y6⟩; have hf6_0 := blk_cell (HFB.out _ x6) 0; have hlt6 := blk_lt (HFB.out _ x6); have HB6 := Aside0.mk x6; have G6 := Aside0.mk (show LW.length ≤ c5 ∧ Kd.C k43 w6 A5 LW.length LW ∧ f.f2.length ≤ c6 ∧ Kd.C k64 w6 A6 f.f2.length f.f2 from ⟨G5.out.1, Kd.C_below G5.out.2 y6, g6, g6'⟩); have HXB := Aside0.mk (blk_new w6 (.cells #[.string f.f0, .int .i64 f.f1, .slice A6 f.f2.length c6] 43)); clear x6 y6 g6 g6'))
   | (go_at_call 23; go_loud (refine (HW1.out _ (below_alloc HB6.out _) _ _ (Kd.C_alloc G6.out.2.1 _)).mono ?_; rintro e w7 ⟨A7, c7, rfl, g7, g7', x7, y7⟩; have hf7_0 := blk_cell (HFB.out _ x7) 0; have HB7 := Aside0.mk x7; have G7 := Aside0.mk (show LW.length ≤ c5 ∧ Kd.C k43 w7 A5 LW.length LW ∧ LO.length ≤ c7 ∧ Kd.C k43 w7 A7 LO.length LO from ⟨G6.out.1, Kd.C_below (Kd.C_alloc G6.out.2.1 _) y7, g7, g7'⟩); have HY := Aside0.mk y7; clear x7 y7 g7 g7')))
 have hsz : ∀ (W : World) (o : Obj), W.heap.size + 1 = (W.alloc o).heap.size := fun W o => by simp
 have mixed : Tryd.prog.follows .mixedOrders = true := by kernel_rfl
 have hxb := blk_below HXB.out HY.out
 have hfb := HFB.out _ HB10.out
 have hw6 : Below w6.heap.size w6 w10 := (below_alloc (Below.refl _ w6) _).trans (HY.out.mono (by simp))
 have hKx : (k43).K w10 f [.string f.f0, .int .i64 f.f1, .slice A6 f.f2.length c6] := k43_mk w10 f G6.out.2.2.1 (Kd.C_below G6.out.2.2.2 hw6)
 have hKf := HKF.out _ HB10.out
 have HAS := Aside0.mk (fun (W : World) (b : Nat) (hb : W.heap[b]? = some (.cells #[.string f.f0, .int .i64 f.f1, .slice A2 f.f2.length c2] 43 (0, 0))) (hW : Below w10.heap.size w10 W) => asC.calls k (some ⟨b, 0, none⟩) 1 [f] [toR f] W (row_one (cs := [.string f.f0, .int .i64 f.f1, .slice A2 f.f2.length c2]) hb ((k43).K_below hW hKf)) (Nat.le_refl _) (HA.out.1 f (.inl rfl)).1)
 have HSM := Aside0.mk (fun (W : World) (b : Nat) A c (hb : W.heap[b]? = some (.cells #[.string f.f0, .int .i64 f.f1, .slice A6 f.f2.length c6] 43 (0, 0))) (hW : Below w10.heap.size w10 W) (hc : [toR f].length ≤ c) (hr : Kd.C k45 W A [toR f].length [toR f]) => rootcellarlaw7_same.calls k (some ⟨b, 0, none⟩) 1 [f] A c [toR f] true W (row_one (cs := [.string f.f0, .int .i64 f.f1, .slice A6 f.f2.length c6]) hb ((k43).K_below hW hKx)) (Nat.le_refl _) hr hc (HA.out.1 f (.inl rfl)).2)
 have hx0 := blk_cell hxb 0
 have hx1 := blk_cell hxb 1
 have hx2 := blk_cell hxb 2
 have hy0 := blk_cell hfb 0
 have hy1 := blk_cell hfb 1
 have hy2 := blk_cell hfb 2
 have hxlt := blk_lt hxb
 have hylt := blk_lt hfb
 have HFBX := Aside0.mk hfb
 clear hxb hfb hw6 hKx hKf
 have HKEEP := Aside0.mk (show ∀ w', Below w10.heap.size w10 w' → (Below w10.heap.size w10 w' ∧ w'.cell? ⟨w6.heap.size, 0, none⟩ = some (.string f.f0) ∧ w'.cell? ⟨w6.heap.size, 1, none⟩ = some (.int .i64 f.f1) ∧ w'.cell? ⟨w6.heap.size, 2, none⟩ = some (.slice A6 f.f2.length c6) ∧ w'.cell? ⟨w.heap.size, 0, none⟩ = some (.string f.f0) ∧ w'.cell? ⟨w.heap.size, 1, none⟩ = some (.int .i64 f.f1) ∧ w'.cell? ⟨w.heap.size, 2, none⟩ = some (.slice A2 f.f2.length c2)) from fun w' hb => ⟨hb, (hb.cell hxlt).trans hx0, (hb.cell hxlt).trans hx1, (hb.cell hxlt).trans hx2, (hb.cell hylt).trans hy0, (hb.cell hylt).trans hy1, (hb.cell hylt).trans hy2⟩)
 go_cut [118] (fun v118 wc => v118 = .bool false ∧ Aside0 (Below w10.heap.size w10 wc))
 case first =>
  go_region_held3 (fun w' => Below w10.heap.size w10 w' ∧ w'.cell? ⟨w6.heap.size, 0, none⟩ = some (.string f.f0) ∧ w'.cell? ⟨w6.heap.size, 1, none⟩ = some (.int .i64 f.f1) ∧ w'.cell? ⟨w6.heap.size, 2, none⟩ = some (.slice A6 f.f2.length c6) ∧ w'.cell? ⟨w.heap.size, 0, none⟩ = some (.string f.f0) ∧ w'.cell? ⟨w.heap.size, 1, none⟩ = some (.int .i64 f.f1) ∧ w'.cell? ⟨w.heap.size, 2, none⟩ = some (.slice A2 f.f2.length c2)) (exact HKEEP.out _ (by repeat (with_reducible first | exact Below.refl _ _ | (exact And.left (by assumption)) | apply below_alloc | apply below_drew1 | refine below_step ?_ Y11.out | refine below_step ?_ Y12.out))) (first
   | (go_at_call 17; go_loud (refine (HAS.out _ _ ?hb ?hW).mono ?_; (case hb => repeat (with_reducible first | refine blk_drew ?_ | exact blk_new' _ _ _ (hsz _ _) | exact blk_new' _ _ _ rfl | refine blk_alloc ?_ _)); (case hW => repeat (with_reducible first | exact Below.refl _ _ | apply below_alloc | apply below_drew1)); rintro e w11 ⟨A11, c11, rfl, g11, g11', y11⟩; have Y11 := Aside0.mk y11; have G11 := Aside0.mk (And.intro g11 g11'); clear g11 g11' y11))
   | (go_at_call 14; go_loud (refine (HSM.out _ _ _ _ ?hb ?hW G11.out.1 ?hr).mono ?_; (case hb => repeat (with_reducible first | refine blk_drew ?_ | exact blk_new' _ _ _ (hsz _ _) | exact blk_new' _ _ _ rfl | refine blk_alloc ?_ _ | refine blk_below ?_ Y11.out)); (case hW => repeat (with_reducible first | exact Below.refl _ _ | apply below_alloc | apply below_drew1 | refine below_step ?_ Y11.out)); (case hr => first | exact G11.out.2 | exact Kd.C_alloc G11.out.2 _); rintro e w12 ⟨rfl, y12⟩; have Y12 := Aside0.mk y12; clear y12)))
  all_goals (go_wp2; go_meet; (case rel => exact ⟨rfl, ⟨by repeat (with_reducible first | exact Below.refl _ _ | apply below_alloc | apply below_drew1 | refine below_step ?_ Y12.out | refine below_step ?_ Y11.out)⟩⟩))
 case rest =>
  obtain ⟨rfl, HBC⟩ := hcut
  have HBD := Aside0.mk (HB10.out.trans (HBC.out.mono (below_size HB10.out)))
  have GC := Aside0.mk (show Kd.C k43 wc A5 LW.length LW ∧ Kd.C k43 wc A7 LO.length LO from ⟨Kd.C_below G10.out.1 HBC.out, Kd.C_below G10.out.2 HBC.out⟩)
  have HFC := Aside0.mk (show ∀ W, Below wc.heap.size wc W → W.heap[w.heap.size]? = some (.cells #[.string f.f0, .int .i64 f.f1, .slice A2 f.f2.length c2] 43 (0, 0)) from fun W hW => blk_below (HFB.out _ HBD.out) hW)
  have HLC := Aside0.mk (show ∀ W, Below wc.heap.size wc W → Kd.C k43 W A0 l0.length l0 from fun W hW => Kd.C_below (HL0.out _ HBD.out) hW)
  have HCW := Aside0.mk (show LW.length ≤ c5 ∧ LO.length ≤ c7 from ⟨G9.out.2.1, G9.out.1⟩)
  have hcap : (l0.length : Int) ≤ (c0 : Int) := Int.ofNat_le.2 HC0.out.1
  have hl120 : l0.length < 120 := HC0.out.2
  clear hx0 hx1 hx2 hy0 hy1 hy2 hxlt hylt hll HAS HSM HKEEP HFBX hf3_0 hf3_1 hf3_2 hf4_0 hf4_1 hf4_2 hf5_0 hf6_0 hf7_0 hlt6 HB0 HB1 HB2 HB3 HB4 HB5 HB6 HB7 HB8 HB9 H1 H2 H3 H4 HPX HF1 HW1 HF2 HW HXB HY G5 G6 G7 G8 G9 G10 HBC hbz
  go_wp2
  go_loopg [21] l0.length (fun gg s21 wr => ∃ n : Nat, n ≤ l0.length ∧ l0.length - n ≤ gg ∧ s21 = .int .i64 n ∧ Aside0 (Below wc.heap.size wc wr))
  case atStart => exact ⟨0, Nat.zero_le _, by omega, rfl, ⟨Below.refl _ _⟩⟩
  case round =>
   obtain ⟨n, hn, hg, rfl, HBR⟩ := hrel
   by_cases hlt : n < l0.length
   ·have hltz : decide ((n : Int) < (l0.length : Int)) = true := decide_eq_true (by omega)
    have hn0 : (0 : Int) ≤ (n : Int) := by omega
    have hn1 : (n : Int) < (l0.length : Int) := by omega
    have hrow := HLC.out _ HBR.out
    obtain ⟨ad, A3, c3, rfl, hx0, hx1, hx2, hl2, hC⟩ := at_T43 hrow (n : Int) hn0 hn1
    have HCUT := Aside0.mk (row_cut hrow n hlt)
    rw [rd_get l0 n hlt] at hx0 hx1 hx2 hl2 hC
    simp only [Int.toNat_natCast] at hx0 hx1 hx2
    have HLPx := Aside0.mk (HLP.out l0[n] (List.getElem_mem hlt))
    have HAx := Aside0.mk (HA.out.1 l0[n] (.inr (List.getElem_mem hlt)))
    generalize l0[n] = x at hx0 hx1 hx2 HLPx HAx HCUT
    have HFN := Aside0.mk (HFX.out LW x.f0 wr (HBD.out.trans (HBR.out.mono (below_size HBD.out))) A5 c5 (Kd.C_below GC.out.1 HBR.out))
    have hlt2 := World.block_lt_of_cell? wr _ hx0
    have HX0 := Aside0.mk hx0
    clear hrow hl2 hC hx1 hx2
    generalize hfo : findV x.f0 LW = fo at HFN HLPx
    obtain ⟨y, yb⟩ := fo
    obtain rfl : yb = true := HLPx.out.1
    cases hq : (x.f0.toList == f.f0.toList) with
    | true =>
     have hqn : (x.f0.toList != f.f0.toList) = false := by simp only [bne, hq, Bool.not_true]
     go_upto_region 19 with (go_at_call 19; go_loud (refine HFN.out.mono ?_; rintro e w13 ⟨⟨A13, c13, rfl, g13, g13'⟩, x13, y13⟩; have Y13 := Aside0.mk y13; have G13 := Aside0.mk (And.intro g13 g13'); have hz0 := (y13.cell hlt2).trans hx0; have hz1 := blk_cell (HFC.out _ (HBR.out.trans (y13.mono HBR.out.size))) 0; have hlt3 := World.block_lt_of_cell? w13 _ hz0; have hlt4 := World.block_lt_of_cell? w13 _ hz1; clear g13 g13' x13 y13))
     have hzz0 : (w13.alloc (.cells #[.string y.f0, .int .i64 y.f1, .slice A13 y.f2.length c13] 43)).cell? (ad.add (n * 3)) = some (.string x.f0) := Lib.cell?_alloc_some _ hz0
     have hzz1 : (w13.alloc (.cells #[.string y.f0, .int .i64 y.f1, .slice A13 y.f2.length c13] 43)).cell? ⟨w.heap.size, 0, none⟩ = some (.string f.f0) := Lib.cell?_alloc_some _ hz1
     refine start_ (n := 24) (S := fun w' => w'.cell? (ad.add (n * 3)) = some (.string x.f0) ∧ w'.cell? ⟨w.heap.size, 0, none⟩ = some (.string f.f0)) (ds := []) #[false, false, false, false, false, false, false, false, false, false, false, false, false, false, false, false, false, false, false, false, false, false, false, false] (by kernel_rfl) rfl rfl ⟨hzz0, hzz1⟩ (fun hHeld => ?_)
     have hB5 : Below wc.heap.size wc (w13.alloc (.cells #[.string y.f0, .int .i64 y.f1, .slice A13 y.f2.length c13] 43)).drew := below_drew1 (below_alloc (HBR.out.trans (Y13.out.mono HBR.out.size)) _)
     clear hzz0 hzz1 hz0 hz1 hx0 HX0
     generalize (w13.alloc (.cells #[.string y.f0, .int .i64 y.f1, .slice A13 y.f2.length c13] 43)).drew = w5 at hHeld hB5 ⊢
     have HB5_ := Aside0.mk hB5
     clear hB5
     refine pure_ (i := 0) (N := some 135) (v := ?_) (a' := ?_) #[true, false, false, false, false, false, false, false, false, false, false, false, false, false, false, false, false, false, false, false, false, false, false, false] rfl rfl (by kernel_rfl) (fun _ _ _ h => h) (Or.inl ⟨by rfl, ?_⟩) ?_ ?_
     rotate_left
     ·intro w'
      go_simp
      try with_reducible rfl
     rotate_left
     ·simp only [Act.put, List.setIfInBounds_toArray, List.set_cons_zero, List.set_cons_succ, i64_w, i32_w]
      rfl
     refine pure_ (i := 1) (N := some 136) (v := ?_) (a' := ?_) #[true, true, false, false, false, false, false, false, false, false, false, false, false, false, false, false, false, false, false, false, false, false, false, false] rfl rfl (by kernel_rfl) (fun _ _ _ h => h) (Or.inl ⟨by rfl, ?_⟩) ?_ ?_
     rotate_left
     ·intro w'
      go_simp
      try with_reducible rfl
     rotate_left
     ·simp only [Act.put, List.setIfInBounds_toArray, List.set_cons_zero, List.set_cons_succ, i64_w, i32_w]
      rfl
     refine pure_ (i := 2) (N := some 137) (v := ?_) (a' := ?_) #[true, true, true, false, false, false, false, false, false, false, false, false, false, false, false, false, false, false, false, false, false, false, false, false] rfl rfl (by kernel_rfl) (fun _ _ _ h => h) (Or.inl ⟨by rfl, ?_⟩) ?_ ?_
     rotate_left
     ·intro w'
      go_simp
      try with_reducible rfl
     rotate_left
     ·simp only [Act.put, List.setIfInBounds_toArray, List.set_cons_zero, List.set_cons_succ, i64_w, i32_w]
      rfl
     refine pure_ (i := 3) (N := some 138) (v := ?_) (a' := ?_) #[true, true, true, true, false, false, false, false, false, false, false, false, false, false, false, false, false, false, false, false, false, false, false, false] rfl rfl (by kernel_rfl) (fun _ _ _ h => h) (Or.inl ⟨by rfl, ?_⟩) ?_ ?_
     rotate_left
     ·intro w'
      go_simp
      try with_reducible rfl
     rotate_left
     ·simp only [Act.put, List.setIfInBounds_toArray, List.set_cons_zero, List.set_cons_succ, i64_w, i32_w]
      rfl
     refine pure_ (i := 4) (N := some 139) (v := ?_) (a' := ?_) #[true, true, true, true, true, false, false, false, false, false, false, false, false, false, false, false, false, false, false, false, false, false, false, false] rfl rfl (by kernel_rfl) (fun _ _ _ h => h) (Or.inl ⟨by rfl, ?_⟩) ?_ ?_
     rotate_left
     ·intro w'
      go_simp
      try with_reducible rfl
     rotate_left
     ·simp only [Act.put, List.setIfInBounds_toArray, List.set_cons_zero, List.set_cons_succ, i64_w, i32_w]
      rfl
     refine pure_ (i := 5) (N := some 140) (v := ?_) (a' := ?_) #[true, true, true, true, true, true, false, false, false, false, false, false, false, false, false, false, false, false, false, false, false, false, false, false] rfl rfl (by kernel_rfl) (fun _ _ _ h => h) (Or.inl ⟨by rfl, ?_⟩) ?_ ?_
     rotate_left
     ·intro w'
      go_simp
      try with_reducible rfl
     rotate_left
     ·simp only [Act.put, List.setIfInBounds_toArray, List.set_cons_zero, List.set_cons_succ, i64_w, i32_w]
      rfl
     refine pure_ (i := 6) (N := some 141) (v := ?_) (a' := ?_) #[true, true, true, true, true, true, true, false, false, false, false, false, false, false, false, false, false, false, false, false, false, false, false, false] rfl rfl (by kernel_rfl) (fun _ _ _ h => h) (Or.inl ⟨by rfl, ?_⟩) ?_ ?_
     rotate_left
     ·intro w'
      go_simp
      try with_reducible rfl
     rotate_left
     ·simp only [Act.put, List.setIfInBounds_toArray, List.set_cons_zero, List.set_cons_succ, i64_w, i32_w]
      rfl
     refine take_ (i := 7) (N := some 142) (v := ?_) (a' := ?_) #[true, true, true, true, true, true, true, true, false, false, false, false, false, false, false, false, false, false, false, false, false, false, false, false] rfl rfl (by kernel_rfl) (fun _ _ _ h => h) (Or.inl ⟨by rfl, ?_⟩) hHeld ?_ ?_
     rotate_left
     ·rintro w' ⟨s0_, s1_⟩
      go_simp
      try with_reducible rfl
     rotate_left
     ·simp only [Act.put, List.setIfInBounds_toArray, List.set_cons_zero, List.set_cons_succ, i64_w, i32_w]
      rfl
     refine pure_ (i := 8) (N := some 143) (v := ?_) (a' := ?_) #[true, true, true, true, true, true, true, true, true, false, false, false, false, false, false, false, false, false, false, false, false, false, false, false] rfl rfl (by kernel_rfl) (fun _ _ _ h => h) (Or.inl ⟨by rfl, ?_⟩) ?_ ?_
     rotate_left
     ·intro w'
      go_simp
      try with_reducible rfl
     rotate_left
     ·simp only [Act.put, List.setIfInBounds_toArray, List.set_cons_zero, List.set_cons_succ, i64_w, i32_w]
      rfl
     refine take_ (i := 9) (N := some 144) (v := ?_) (a' := ?_) #[true, true, true, true, true, true, true, true, true, true, false, false, false, false, false, false, false, false, false, false, false, false, false, false] rfl rfl (by kernel_rfl) (fun _ _ _ h => h) (Or.inl ⟨by rfl, ?_⟩) hHeld ?_ ?_
     rotate_left
     ·rintro w' ⟨s0_, s1_⟩
      go_simp
      try with_reducible rfl
     rotate_left
     ·simp only [Act.put, List.setIfInBounds_toArray, List.set_cons_zero, List.set_cons_succ, i64_w, i32_w]
      rfl
     refine pure_ (i := 10) (N := some 145) (v := ?_) (a' := ?_) #[true, true, true, true, true, true, true, true, true, true, true, false, false, false, false, false, false, false, false, false, false, false, false, false] rfl rfl (by kernel_rfl) (fun _ _ _ h => h) (Or.inl ⟨by rfl, ?_⟩) ?_ ?_
     rotate_left
     ·intro w'
      go_simp
      try with_reducible rfl
     rotate_left
     ·simp only [Act.put, List.setIfInBounds_toArray, List.set_cons_zero, List.set_cons_succ, i64_w, i32_w]
      rfl
     refine pure_ (i := 11) (N := some 146) (v := ?_) (a' := ?_) #[true, true, true, true, true, true, true, true, true, true, true, true, false, false, false, false, false, false, false, false, false, false, false, false] rfl rfl (by kernel_rfl) (fun _ _ _ h => h) (Or.inl ⟨by rfl, ?_⟩) ?_ ?_
     rotate_left
     ·intro w'
      go_simp
      try with_reducible rfl
     rotate_left
     ·simp only [Act.put, List.setIfInBounds_toArray, List.set_cons_zero, List.set_cons_succ, i64_w, i32_w]
      rfl
     refine pure_ (i := 12) (N := some 147) (v := undef) (a' := ?_) #[true, true, true, true, true, true, true, true, true, true, true, true, true, false, false, false, false, false, false, false, false, false, false, false] rfl rfl (by kernel_rfl) (fun _ _ _ h => h) (Or.inr ⟨by rfl, rfl⟩) ?_ ?_
     rotate_left
     ·simp only [Act.put, List.setIfInBounds_toArray, List.set_cons_zero, List.set_cons_succ, i64_w, i32_w]
      rfl
     refine pure_ (i := 13) (N := some 148) (v := undef) (a' := ?_) #[true, true, true, true, true, true, true, true, true, true, true, true, true, true, false, false, false, false, false, false, false, false, false, false] rfl rfl (by kernel_rfl) (fun _ _ _ h => h) (Or.inr ⟨by rfl, rfl⟩) ?_ ?_
     rotate_left
     ·simp only [Act.put, List.setIfInBounds_toArray, List.set_cons_zero, List.set_cons_succ, i64_w, i32_w]
      rfl
     refine pure_ (i := 14) (N := some 149) (v := undef) (a' := ?_) #[true, true, true, true, true, true, true, true, true, true, true, true, true, true, true, false, false, false, false, false, false, false, false, false] rfl rfl (by kernel_rfl) (fun _ _ _ h => h) (Or.inr ⟨by rfl, rfl⟩) ?_ ?_
     rotate_left
     ·simp only [Act.put, List.setIfInBounds_toArray, List.set_cons_zero, List.set_cons_succ, i64_w, i32_w]
      rfl
     refine pure_ (i := 15) (N := some 150) (v := undef) (a' := ?_) #[true, true, true, true, true, true, true, true, true, true, true, true, true, true, true, true, false, false, false, false, false, false, false, false] rfl rfl (by kernel_rfl) (fun _ _ _ h => h) (Or.inr ⟨by rfl, rfl⟩) ?_ ?_
     rotate_left
     ·simp only [Act.put, List.setIfInBounds_toArray, List.set_cons_zero, List.set_cons_succ, i64_w, i32_w]
      rfl
     refine pure_ (i := 16) (N := some 151) (v := undef) (a' := ?_) #[true, true, true, true, true, true, true, true, true, true, true, true, true, true, true, true, true, false, false, false, false, false, false, false] rfl rfl (by kernel_rfl) (fun _ _ _ h => h) (Or.inr ⟨by rfl, rfl⟩) ?_ ?_
     rotate_left
     ·simp only [Act.put, List.setIfInBounds_toArray, List.set_cons_zero, List.set_cons_succ, i64_w, i32_w]
      rfl
     refine pure_ (i := 17) (N := some 152) (v := undef) (a' := ?_) #[true, true, true, true, true, true, true, true, true, true, true, true, true, true, true, true, true, true, false, false, false, false, false, false] rfl rfl (by kernel_rfl) (fun _ _ _ h => h) (Or.inr ⟨by rfl, rfl⟩) ?_ ?_
     rotate_left
     ·simp only [Act.put, List.setIfInBounds_toArray, List.set_cons_zero, List.set_cons_succ, i64_w, i32_w]
      rfl
     refine pure_ (i := 18) (N := some 153) (v := undef) (a' := ?_) #[true, true, true, true, true, true, true, true, true, true, true, true, true, true, true, true, true, true, true, false, false, false, false, false] rfl rfl (by kernel_rfl) (fun _ _ _ h => h) (Or.inr ⟨by rfl, rfl⟩) ?_ ?_
     rotate_left
     ·simp only [Act.put, List.setIfInBounds_toArray, List.set_cons_zero, List.set_cons_succ, i64_w, i32_w]
      rfl
     refine pure_ (i := 19) (N := some 154) (v := undef) (a' := ?_) #[true, true, true, true, true, true, true, true, true, true, true, true, true, true, true, true, true, true, true, true, false, false, false, false] rfl rfl (by kernel_rfl) (fun _ _ _ h => h) (Or.inr ⟨by rfl, rfl⟩) ?_ ?_
     rotate_left
     ·simp only [Act.put, List.setIfInBounds_toArray, List.set_cons_zero, List.set_cons_succ, i64_w, i32_w]
      rfl
     refine pure_ (i := 20) (N := some 155) (v := undef) (a' := ?_) #[true, true, true, true, true, true, true, true, true, true, true, true, true, true, true, true, true, true, true, true, true, false, false, false] rfl rfl (by kernel_rfl) (fun _ _ _ h => h) (Or.inr ⟨by rfl, rfl⟩) ?_ ?_
     rotate_left
     ·simp only [Act.put, List.setIfInBounds_toArray, List.set_cons_zero, List.set_cons_succ, i64_w, i32_w]
      rfl
     refine pure_ (i := 21) (N := some 156) (v := undef) (a' := ?_) #[true, true, true, true, true, true, true, true, true, true, true, true, true, true, true, true, true, true, true, true, true, true, false, false] rfl rfl (by kernel_rfl) (fun _ _ _ h => h) (Or.inr ⟨by rfl, rfl⟩) ?_ ?_
     rotate_left
     ·simp only [Act.put, List.setIfInBounds_toArray, List.set_cons_zero, List.set_cons_succ, i64_w, i32_w]
      rfl
     refine pure_ (i := 22) (N := some 157) (v := ?_) (a' := ?_) #[true, true, true, true, true, true, true, true, true, true, true, true, true, true, true, true, true, true, true, true, true, true, true, false] rfl rfl (by kernel_rfl) (fun _ _ _ h => h) (Or.inl ⟨by rfl, ?_⟩) ?_ ?_
     rotate_left
     ·intro w'
      go_simp
      try with_reducible rfl
     rotate_left
     ·simp only [Act.put, List.setIfInBounds_toArray, List.set_cons_zero, List.set_cons_succ, i64_w, i32_w]
      rfl
     refine pure_ (i := 23) (N := some 158) (v := ?_) (a' := ?_) #[true, true, true, true, true, true, true, true, true, true, true, true, true, true, true, true, true, true, true, true, true, true, true, true] rfl rfl (by kernel_rfl) (fun _ _ _ h => h) (Or.inl ⟨by rfl, ?_⟩) ?_ ?_
     rotate_left
     ·intro w'
      go_simp
      try with_reducible rfl
     rotate_left
     ·simp only [Act.put, List.setIfInBounds_toArray, List.set_cons_zero, List.set_cons_succ, i64_w, i32_w]
      rfl
     refine done_ (by kernel_rfl) ?_
     go_wp2
     go_roundg (l0.length - (n + 1))
     case measure => omega
     case rel => exact ⟨n + 1, by omega, by omega, by go_num, ⟨HB5_.out⟩⟩
    | false =>
     have hqn : (x.f0.toList != f.f0.toList) = true := by simp only [bne, hq, Bool.not_false]
     obtain rfl : y = x := (Prod.mk.inj (HLPx.out.2 hq)).1
     go_upto_region 19 with (go_at_call 19; go_loud (refine HFN.out.mono ?_; rintro e w13 ⟨⟨A13, c13, rfl, g13, g13'⟩, x13, y13⟩; have Y13 := Aside0.mk y13; have G13 := Aside0.mk (And.intro g13 g13'); have hz0 := (y13.cell hlt2).trans hx0; have hz1 := blk_cell (HFC.out _ (HBR.out.trans (y13.mono HBR.out.size))) 0; have hlt3 := World.block_lt_of_cell? w13 _ hz0; have hlt4 := World.block_lt_of_cell? w13 _ hz1; clear g13 g13' x13 y13))
     have hwz : IntKind.i64.wrap ((n : Int) + 1) = (n : Int) + 1 := by rw [IntKind.wrap_i64]; omega
     have hc1 : (n : Int) + 1 ≤ (c0 : Int) := by omega
     have hc2 : (0 : Int) ≤ (n : Int) + 1 := by omega
     have hc3 : (n : Int) ≤ (n : Int) + 1 := by omega
     have htn : ((n : Int) + 1).toNat = n + 1 := by omega
     have htn2 : n + 1 - n = 1 := by omega
     have hc4 : ¬ (c0 = n) := by omega
     have hzb := blk_new w13 (.cells #[.string y.f0, .int .i64 y.f1, .slice A13 y.f2.length c13] 43)
     have hzz0 : (w13.alloc (.cells #[.string y.f0, .int .i64 y.f1, .slice A13 y.f2.length c13] 43)).cell? (ad.add (n * 3)) = some (.string y.f0) := Lib.cell?_alloc_some _ hz0
     have hzz1 : (w13.alloc (.cells #[.string y.f0, .int .i64 y.f1, .slice A13 y.f2.length c13] 43)).cell? ⟨w.heap.size, 0, none⟩ = some (.string f.f0) := Lib.cell?_alloc_some _ hz1
     have hzl0 := World.block_lt_of_cell? _ _ hzz0
     have hzl1 := World.block_lt_of_cell? _ _ hzz1
     have hB13 : Below wc.heap.size wc (w13.alloc (.cells #[.string y.f0, .int .i64 y.f1, .slice A13 y.f2.length c13] 43)) := below_alloc (HBR.out.trans (Y13.out.mono HBR.out.size)) _
     have HB13 := Aside0.mk hB13
     have hKy : (k43).K (w13.alloc (.cells #[.string y.f0, .int .i64 y.f1, .slice A13 y.f2.length c13] 43)) y [.string y.f0, .int .i64 y.f1, .slice A13 y.f2.length c13] := k43_mk _ y G13.out.1 (Kd.C_alloc G13.out.2 _)
     have hrowY : Kd.C k43 (w13.alloc (.cells #[.string y.f0, .int .i64 y.f1, .slice A13 y.f2.length c13] 43)) (some (ad.add (n * 3))) 1 [y] := Kd.C_alloc (Kd.C_below HCUT.out Y13.out) _
     have HKEEP := Aside0.mk (show ∀ w', Below (w13.alloc (.cells #[.string y.f0, .int .i64 y.f1, .slice A13 y.f2.length c13] 43)).heap.size (w13.alloc (.cells #[.string y.f0, .int .i64 y.f1, .slice A13 y.f2.length c13] 43)) w' → (Below (w13.alloc (.cells #[.string y.f0, .int .i64 y.f1, .slice A13 y.f2.length c13] 43)).heap.size (w13.alloc (.cells #[.string y.f0, .int .i64 y.f1, .slice A13 y.f2.length c13] 43)) w' ∧ w'.cell? (ad.add (n * 3)) = some (.string y.f0) ∧ w'.cell? ⟨w.heap.size, 0, none⟩ = some (.string f.f0) ∧ w'.cell? ⟨w13.heap.size, 0, none⟩ = some (.string y.f0) ∧ w'.cell? ⟨w13.heap.size, 1, none⟩ = some (.int .i64 y.f1) ∧ w'.cell? ⟨w13.heap.size, 2, none⟩ = some (.slice A13 y.f2.length c13)) from fun w' hb => ⟨hb, (hb.cell hzl0).trans hzz0, (hb.cell hzl1).trans hzz1, (hb.cell (by simp)).trans (blk_cell hzb 0), (hb.cell (by simp)).trans (blk_cell hzb 1), (hb.cell (by simp)).trans (blk_cell hzb 2)⟩)
     have HAS := Aside0.mk (fun (W : World) (c : Nat) (hc : 1 ≤ c) (hW : Below (w13.alloc (.cells #[.string y.f0, .int .i64 y.f1, .slice A13 y.f2.length c13] 43)).heap.size (w13.alloc (.cells #[.string y.f0, .int .i64 y.f1, .slice A13 y.f2.length c13] 43)) W) => asC.calls k (some (ad.add (n * 3))) c [y] [toR y] W (Kd.C_below hrowY hW) hc HAx.out.1)
     have HSM := Aside0.mk (fun (W : World) (b : Nat) A c (hb : W.heap[b]? = some (.cells #[.string y.f0, .int .i64 y.f1, .slice A13 y.f2.length c13] 43 (0, 0))) (hW : Below (w13.alloc (.cells #[.string y.f0, .int .i64 y.f1, .slice A13 y.f2.length c13] 43)).heap.size (w13.alloc (.cells #[.string y.f0, .int .i64 y.f1, .slice A13 y.f2.length c13] 43)) W) (hc : [toR y].length ≤ c) (hr : Kd.C k45 W A [toR y].length [toR y]) => rootcellarlaw7_same.calls k (some ⟨b, 0, none⟩) 1 [y] A c [toR y] true W (row_one (cs := [.string y.f0, .int .i64 y.f1, .slice A13 y.f2.length c13]) hb ((k43).K_below hW hKy)) (Nat.le_refl _) hr hc HAx.out.2)
     have hsz : ∀ (W : World) (o : Obj), W.heap.size + 1 = (W.alloc o).heap.size := fun W o => by simp
     have hc5 : 1 ≤ c0 - n := by omega
     clear hzz0 hzz1 hzl0 hzl1 hzb hKy hrowY hB13
     go_region_held3 (fun w' => Below (w13.alloc (.cells #[.string y.f0, .int .i64 y.f1, .slice A13 y.f2.length c13] 43)).heap.size (w13.alloc (.cells #[.string y.f0, .int .i64 y.f1, .slice A13 y.f2.length c13] 43)) w' ∧ w'.cell? (ad.add (n * 3)) = some (.string y.f0) ∧ w'.cell? ⟨w.heap.size, 0, none⟩ = some (.string f.f0) ∧ w'.cell? ⟨w13.heap.size, 0, none⟩ = some (.string y.f0) ∧ w'.cell? ⟨w13.heap.size, 1, none⟩ = some (.int .i64 y.f1) ∧ w'.cell? ⟨w13.heap.size, 2, none⟩ = some (.slice A13 y.f2.length c13)) (exact HKEEP.out _ (by repeat (with_reducible first | exact Below.refl _ _ | (exact And.left (by assumption)) | apply below_alloc | apply below_drew1 | refine below_step ?_ Y14.out | refine below_step ?_ Y15.out))) (first
      | (go_at_call 17; go_loud (refine (HAS.out _ _ hc5 ?hW).mono ?_; (case hW => repeat (with_reducible first | exact Below.refl _ _ | apply below_alloc | apply below_drew1)); rintro e w14 ⟨A14, c14, rfl, g14, g14', y14⟩; have Y14 := Aside0.mk y14; have G14 := Aside0.mk (And.intro g14 g14'); clear g14 g14' y14))
      | (go_at_call 14; go_loud (refine (HSM.out _ _ _ _ ?hb ?hW G14.out.1 ?hr).mono ?_; (case hb => repeat (with_reducible first | refine blk_drew ?_ | exact blk_new' _ _ _ (hsz _ _) | exact blk_new' _ _ _ rfl | refine blk_alloc ?_ _ | refine blk_below ?_ Y14.out)); (case hW => repeat (with_reducible first | exact Below.refl _ _ | apply below_alloc | apply below_drew1 | refine below_step ?_ Y14.out)); (case hr => first | exact G14.out.2 | exact Kd.C_alloc G14.out.2 _); rintro e w15 ⟨rfl, y15⟩; have Y15 := Aside0.mk y15; clear y15)))
     all_goals go_wp2
     all_goals go_roundg (l0.length - (n + 1))
     all_goals first | omega | skip
     all_goals exact ⟨n + 1, by omega, by omega, by go_num, ⟨HB13.out.trans (Below.mono (by repeat (with_reducible first | exact Below.refl _ _ | apply below_alloc | apply below_drew1 | refine below_step ?_ Y15.out | refine below_step ?_ Y14.out)) HB13.out.size)⟩⟩
   ·obtain rfl : n = l0.length := by omega
    have hltz : decide ((l0.length : Int) < (l0.length : Int)) = false := decide_eq_false (by omega)
    have hf0 := blk_cell (HFC.out _ HBR.out) 0
    have hBW : Below wb.heap.size wb wr := HBD.out.trans (HBR.out.mono (below_size HBD.out))
    have HWL := Aside0.mk (HW2.out wr hBW)
    have GM := Aside0.mk (Kd.C_below GC.out.2 HBR.out)
    have HBF := Aside0.mk hBW
    clear hBW
    go_wp2_with (first
     | (go_at_call 23; go_loud (refine HWL.out.mono ?_; rintro e w16 ⟨A16, c16, rfl, g16, g16', x16, y16⟩; have G16 := Aside0.mk (And.intro g16 g16'); have X16 := Aside0.mk x16; have Y16 := Aside0.mk y16; clear g16 g16' x16 y16))
     | (go_at_call 17; go_loud (refine (asC.calls k A7 c7 LO RL w16 (Kd.C_below GM.out Y16.out) HCW.out.2 HA.out.2.1).mono ?_; rintro e w17 ⟨A17, c17, rfl, g17, g17', y17⟩; have G17 := Aside0.mk (And.intro g17 g17'); have Y17 := Aside0.mk y17; clear g17 g17' y17))
     | (go_at_call 14; go_loud (refine (rootcellarlaw7_same.calls k A16 c16 LO A17 c17 RL true w17 (Kd.C_below G16.out.2 Y17.out) G16.out.1 G17.out.2 G17.out.1 HA.out.2.2).mono ?_; rintro e w18 ⟨rfl, y18⟩; have Y18 := Aside0.mk y18; clear y18)))
    go_ret
    exact ⟨rfl, HBW.out.trans (((X16.out.trans (Y17.out.mono (below_size X16.out))).trans (Y18.out.mono (Nat.le_trans (below_size X16.out) Y17.out.size))).mono (below_size HBW.out))⟩
/-- What the walk asks. -/
def DirKeepsOk (k : Nat) (l : List S43) (f : S43) (toR : S43 → S45) (r : Bool) : Prop := r = true ∧ rootcellarlaw7_shown.f k = some true ∧ (keepsEarly k l f ∨ KeepsAll k l f toR)
theorem DirKeeps_calls (k : Nat) (A0 : Option Addr) (c0 : Nat) (l0 : List S43) (f : S43) (toR : S43 → S45) (A1 : Option Addr) (c1 : Nat) (r : Bool) (w : World) (hr0 : Kd.C k43 w A0 l0.length l0) (hc0 : l0.length ≤ c0) (hK : (k43).K w f (fileC3 f A1 c1)) (ht : TabsW w) (h : DirKeepsOk k l0 f toR r) :
  Calls Tryd.prog 7 #[.slice A0 l0.length c0, .agg #[.string f.f0, .int .i64 f.f1, .slice A1 f.f2.length c1]] w fun e w' => e = .returned (.bool r) ∧ Below w.heap.size w w' := by
 obtain ⟨rfl, e1, he | he⟩ := h
 ·exact DirKeeps_early k A0 c0 l0 f A1 c1 w hr0 hc0 hK ht e1 he
 ·exact DirKeeps_full k A0 c0 l0 f toR A1 c1 w hr0 hc0 hK ht e1 he
end Go.Proofs.YtppbcankhkgpfaaDoor.PDk
