/-
  rootcellarlaw7.DirUses: the law's walk.
-/
import Derived.Test.YtppbcankhkgpfaaDoorPDkx20
import Derived.Test.YtppbcankhkgpfaaDoorPDkx34
import Derived.Test.YtppbcankhkgpfaaDoorPureFd
--compressed
namespace Go.Proofs.YtppbcankhkgpfaaDoor.PDk
open Go.RowKit Go.Proofs.YtppbcankhkgpfaaDoorW.PrintWords Go.Proofs.YtppbcankhkgpfaaDoorW.PrintLast Go.Proofs.YtppbcankhkgpfaaDoorW.PrintMore
attribute [local go_sem] max2_int min2_int max_two min_two max_three min_three max_four min_four
attribute [local go_sem high] hw_str_leq hw_str_gtr
set_option linter.unusedVariables false
set_option linter.unusedSimpArgs false
theorem one_row {w : World} {x : S43} {cs : List Value} (h : (k43).K w x cs) : Kd.C k43 (w.alloc (.cells cs.toArray 43)) (some ⟨w.heap.size, 0, none⟩) 1 [x] :=
 ⟨rfl, by decide, fun _ => ⟨⟨w.heap.size, 0, none⟩, rfl, fun j p hj => by
  have hj0 : j = 0 := by
   have := (List.getElem?_eq_some_iff.1 hj).1
   simp at this
   exact this
  subst hj0
  have hp : x = p := by simpa using hj
  subst hp
  refine ⟨cs, (k43).K_len h, (k43).K_below (below_alloc (Below.refl _ w) _) h, fun i u hu => ?_⟩
  rw [Nat.zero_mul, Nat.zero_add, Addr.add_lit, Nat.zero_add, cell_of_list (blk_new w _)]
  exact hu⟩⟩
/-- The early ends: a row that is not small, a Put that errs. -/
def usesEarly (k : Nat) (l : List S43) (f : S43) : Prop := ∃ b sb tb e g, rootcellarlaw7_small.f k l = some b ∧ dir_Put.f k l = some (sb, e) ∧ dir_Put.f k [f] = some (tb, g) ∧ (b = false ∨ e ≠ 0 ∨ g ≠ 0)
set_option maxHeartbeats 4000000 in
set_option maxRecDepth 100000 in
theorem DirUses_early (k : Nat) (A0 : Option Addr) (c0 : Nat) (l0 : List S43) (f : S43) (A2 : Option Addr) (c2 : Nat) (w : World) (hr0 : Kd.C k43 w A0 l0.length l0) (hc0 : l0.length ≤ c0) (hK : (k43).K w f (fileC3 f A2 c2)) (ht : TabsW w)
  (e1 : rootcellarlaw7_shown.f k = some true) (he : usesEarly k l0 f) :
  Calls Tryd.prog 8 #[.slice A0 l0.length c0, .agg #[.string f.f0, .int .i64 f.f1, .slice A2 f.f2.length c2]] w fun e w' => e = .returned (.bool true) ∧ Below w.heap.size w w' := by
 obtain ⟨b, sb, tb, ep, gp, e2, e3, e4, hc⟩ := he
 have hu := Tryd.underlying43
 obtain ⟨wb, hwb⟩ : ∃ wb, wb = w.alloc (.cells #[.string f.f0, .int .i64 f.f1, .slice A2 f.f2.length c2] 43) := ⟨_, rfl⟩
 have hbw : Below w.heap.size w wb := by rw [hwb]; exact below_alloc (Below.refl _ w) _
 have hr1 := Kd.C_below hr0 hbw
 have hK1 := (k43).K_below hbw hK
 have ht1 := ht.below hbw
 have H1 := Aside0.mk (fun W (hW : Below wb.heap.size wb W) => (rootcellarlaw7_shown.calls k true W (ht1.below hW) e1).mono fun e w' h => (show e = .returned (.bool true) ∧ Below wb.heap.size wb w' from ⟨h.1, hW.trans (h.2.mono (below_size hW))⟩))
 have H2 := Aside0.mk (fun W (hW : Below wb.heap.size wb W) => (rootcellarlaw7_small.calls k A0 c0 l0 b W (Kd.C_below hr1 hW) hc0 e2).mono fun e w' h => (show e = .returned (.bool b) ∧ Below wb.heap.size wb w' from ⟨h.1, hW.trans (h.2.below.mono (below_size hW))⟩))
 have H3 := Aside0.mk (fun W (hW : Below wb.heap.size wb W) => (dir_Put.calls k A0 c0 l0 sb ep W (Kd.C_below hr1 hW) hc0 (ht1.below hW) e3).mono fun e w' h => (show e = .returned (.tuple #[.string sb, .int .i64 ep]) ∧ Below wb.heap.size wb w' from ⟨h.1, hW.trans (h.2.mono (below_size hW))⟩))
 have H4 := Aside0.mk (fun W (hW : Below wb.heap.size wb W) => (dir_Put.calls k (some ⟨W.heap.size, 0, none⟩) 1 [f] tb gp (W.alloc (.cells #[.string f.f0, .int .i64 f.f1, .slice A2 f.f2.length c2] 43)) (one_row ((k43).K_below hW hK1)) (Nat.le_refl _) (ht1.below (below_alloc hW _)) e4).mono fun e w' h => (show e = .returned (.tuple #[.string tb, .int .i64 gp]) ∧ Below wb.heap.size wb w' from ⟨h.1, (below_alloc hW _).trans (h.2.mono (below_size (below_alloc hW _)))⟩))
 have HFB := Aside0.mk (show ∀ W, Below wb.heap.size wb W → W.heap[w.heap.size]? = some (.cells #[.string f.f0, .int .i64 f.f1, .slice A2 f.f2.length c2] 43 (0, 0)) from fun W hW => blk_below (by rw [hwb]; exact blk_new w _) hW)
 have HB0 := Aside0.mk (show Below wb.heap.size wb (w.alloc (.cells #[.string f.f0, .int .i64 f.f1, .slice A2 f.f2.length c2] 43)) from by rw [hwb]; exact Below.refl _ _)
 have HBW := Aside0.mk hbw
 clear hwb hbw hr1 hK1 ht1 hr0 hc0 hK ht e1 e2 e3 e4
 rcases Classical.em (b = false) with rfl | hb
 ·clear hc
  go_enter Tryd.func8, Tryd.ntmps8
  go_wp2_with (first
   | (go_at_call 10; go_loud (refine (H1.out _ HB0.out).mono ?_; rintro e w1 ⟨rfl, x1⟩; have HB1 := Aside0.mk x1; clear x1))
   | (go_at_call 15; go_loud (refine (H2.out _ HB1.out).mono ?_; rintro e w2 ⟨rfl, x2⟩; have HB2 := Aside0.mk x2; clear x2))
   | (go_at_call 16; refine (H4.out _ HB3.out).mono ?_; rintro e w4 ⟨rfl, x4⟩; have HB4 := Aside0.mk x4; clear x4)
   | (go_at_call 16; go_loud (refine (H3.out _ HB2.out).mono ?_; rintro e w3 ⟨rfl, x3⟩; have hf0 := blk_cell (HFB.out _ x3) 0; have hf1 := blk_cell (HFB.out _ x3) 1; have hf2 := blk_cell (HFB.out _ x3) 2; have HB3 := Aside0.mk x3; clear x3)))
  go_ret
  exact ⟨rfl, HBW.out.trans (HB4.out.mono (below_size HBW.out))⟩
 ·have hbt : b = true := by cases b with | true => rfl | false => exact absurd rfl hb
  subst hbt
  by_cases h1 : ep = 0
  ·subst h1
   have h2 : gp ≠ 0 := by
    rcases hc with h | h | h
    ·cases h
    ·exact absurd rfl h
    ·exact h
   have hz : (gp != 0) = true := bne_iff_ne.2 h2
   clear hc hb h2
   go_enter Tryd.func8, Tryd.ntmps8
   go_wp2_with (first
    | (go_at_call 10; go_loud (refine (H1.out _ HB0.out).mono ?_; rintro e w1 ⟨rfl, x1⟩; have HB1 := Aside0.mk x1; clear x1))
    | (go_at_call 15; go_loud (refine (H2.out _ HB1.out).mono ?_; rintro e w2 ⟨rfl, x2⟩; have HB2 := Aside0.mk x2; clear x2))
    | (go_at_call 16; refine (H4.out _ HB3.out).mono ?_; rintro e w4 ⟨rfl, x4⟩; have HB4 := Aside0.mk x4; clear x4)
    | (go_at_call 16; go_loud (refine (H3.out _ HB2.out).mono ?_; rintro e w3 ⟨rfl, x3⟩; have hf0 := blk_cell (HFB.out _ x3) 0; have hf1 := blk_cell (HFB.out _ x3) 1; have hf2 := blk_cell (HFB.out _ x3) 2; have HB3 := Aside0.mk x3; clear x3)))
   go_ret
   exact ⟨rfl, HBW.out.trans (HB4.out.mono (below_size HBW.out))⟩
  ·have hz : (ep != 0) = true := bne_iff_ne.2 h1
   clear hc hb h1
   go_enter Tryd.func8, Tryd.ntmps8
   go_wp2_with (first
    | (go_at_call 10; go_loud (refine (H1.out _ HB0.out).mono ?_; rintro e w1 ⟨rfl, x1⟩; have HB1 := Aside0.mk x1; clear x1))
    | (go_at_call 15; go_loud (refine (H2.out _ HB1.out).mono ?_; rintro e w2 ⟨rfl, x2⟩; have HB2 := Aside0.mk x2; clear x2))
    | (go_at_call 16; refine (H4.out _ HB3.out).mono ?_; rintro e w4 ⟨rfl, x4⟩; have HB4 := Aside0.mk x4; clear x4)
    | (go_at_call 16; go_loud (refine (H3.out _ HB2.out).mono ?_; rintro e w3 ⟨rfl, x3⟩; have hf0 := blk_cell (HFB.out _ x3) 0; have hf1 := blk_cell (HFB.out _ x3) 1; have hf2 := blk_cell (HFB.out _ x3) 2; have HB3 := Aside0.mk x3; clear x3)))
   go_ret
   exact ⟨rfl, HBW.out.trans (HB4.out.mono (below_size HBW.out))⟩
/-- What is asked for the whole walk. -/
structure UsesAll (k : Nat) (l : List S43) (f : S43) (n1 n2 n3 n4 n5 : Int) : Prop where
 e2 : rootcellarlaw7_small.f k l = some true
 e3 : ∃ sb, dir_Put.f k l = some (sb, 0)
 e4 : ∃ tb, dir_Put.f k [f] = some (tb, 0)
 ll : l.length ≤ 1000000
 hm : ∀ a b (ha : a < l.length) (hb : b < l.length), a ≤ b → aheadN l[b].f0 f.f0 = true → aheadN l[a].f0 f.f0 = true
 u1 : ∃ U, dir_Used.f k l = some U ∧ rootcellarlaw7_sectors.f k U = some n1
 u2 : ∃ U, dir_Used.f k (withV f l) = some U ∧ rootcellarlaw7_sectors.f k U = some n2
 u3 : ∃ U, dir_Used.f k (withoutV f.f0 l) = some U ∧ rootcellarlaw7_sectors.f k U = some n3
 u4 : rootcellarlaw7_sectors.f k f.f2 = some n4
 u5 : if (findV f.f0 l).2 = true then rootcellarlaw7_sectors.f k (findV f.f0 l).1.f2 = some n5 else n5 = 0
 f1 : (n2 == wrap64 (wrap64 (n1 + n4) - n5)) = true
 f2 : (n3 == wrap64 (n1 - n5)) = true
set_option maxHeartbeats 8000000 in
set_option maxRecDepth 100000 in
theorem DirUses_full (k : Nat) (A0 : Option Addr) (c0 : Nat) (l0 : List S43) (f : S43) (A2 : Option Addr) (c2 : Nat) (n1 n2 n3 n4 n5 : Int) (w : World) (hr0 : Kd.C k43 w A0 l0.length l0) (hc0 : l0.length ≤ c0) (hK : (k43).K w f (fileC3 f A2 c2)) (ht : TabsW w)
  (e1 : rootcellarlaw7_shown.f k = some true) (he : UsesAll k l0 f n1 n2 n3 n4 n5) :
  Calls Tryd.prog 8 #[.slice A0 l0.length c0, .agg #[.string f.f0, .int .i64 f.f1, .slice A2 f.f2.length c2]] w fun e w' => e = .returned (.bool true) ∧ Below w.heap.size w w' := by
 obtain ⟨e2, ⟨sb, e3⟩, ⟨tb, e4⟩, ll, hm, ⟨U1, u1, v1⟩, ⟨U2, u2, v2⟩, ⟨U3, u3, v3⟩, u4, u5, f1, f2⟩ := he
 have hu := Tryd.underlying43
 obtain ⟨A2', c2', hcs, hl2, hC2⟩ := k43_open hK
 obtain ⟨wb, hwb⟩ : ∃ wb, wb = w.alloc (.cells #[.string f.f0, .int .i64 f.f1, .slice A2 f.f2.length c2] 43) := ⟨_, rfl⟩
 have hbw : Below w.heap.size w wb := by rw [hwb]; exact below_alloc (Below.refl _ w) _
 have hr1 := Kd.C_below hr0 hbw
 have hK1 := (k43).K_below hbw hK
 have ht1 := ht.below hbw
 have hl2' : f.f2.length ≤ c2 := by
  simp only [fileC3, List.cons.injEq, and_true, true_and, Value.slice.injEq] at hcs
  rw [hcs.2]; exact hl2
 have hC2' : Kd.C k64 wb A2 f.f2.length f.f2 := by
  simp only [fileC3, List.cons.injEq, and_true, true_and, Value.slice.injEq] at hcs
  rw [hcs.1]; exact Kd.C_below hC2 hbw
 have H1 := Aside0.mk (fun W (hW : Below wb.heap.size wb W) => (rootcellarlaw7_shown.calls k true W (ht1.below hW) e1).mono fun e w' h => (show e = .returned (.bool true) ∧ Below wb.heap.size wb w' from ⟨h.1, hW.trans (h.2.mono (below_size hW))⟩))
 have H2 := Aside0.mk (fun W (hW : Below wb.heap.size wb W) => (rootcellarlaw7_small.calls k A0 c0 l0 true W (Kd.C_below hr1 hW) hc0 e2).mono fun e w' h => (show e = .returned (.bool true) ∧ Below wb.heap.size wb w' from ⟨h.1, hW.trans (h.2.below.mono (below_size hW))⟩))
 have H3 := Aside0.mk (fun W (hW : Below wb.heap.size wb W) => (dir_Put.calls k A0 c0 l0 sb 0 W (Kd.C_below hr1 hW) hc0 (ht1.below hW) e3).mono fun e w' h => (show e = .returned (.tuple #[.string sb, .int .i64 0]) ∧ Below wb.heap.size wb w' from ⟨h.1, hW.trans (h.2.mono (below_size hW))⟩))
 have H4 := Aside0.mk (fun W (hW : Below wb.heap.size wb W) => (dir_Put.calls k (some ⟨W.heap.size, 0, none⟩) 1 [f] tb 0 (W.alloc (.cells #[.string f.f0, .int .i64 f.f1, .slice A2 f.f2.length c2] 43)) (one_row ((k43).K_below hW hK1)) (Nat.le_refl _) (ht1.below (below_alloc hW _)) e4).mono fun e w' h => (show e = .returned (.tuple #[.string tb, .int .i64 0]) ∧ Below wb.heap.size wb w' from ⟨h.1, (below_alloc hW _).trans (h.2.mono (below_size (below_alloc hW _)))⟩))
 have H5 := Aside0.mk (fun W (hW : Below wb.heap.size wb W) => (findF.calls A0 c0 l0 f.f0 W (Kd.C_below hr1 hW)).mono fun e w' h => (show (∃ A3 c3, e = .returned (.tuple #[.agg #[.string (findV f.f0 l0).1.f0, .int .i64 (findV f.f0 l0).1.f1, .slice A3 (findV f.f0 l0).1.f2.length c3], .bool (findV f.f0 l0).2]) ∧ (findV f.f0 l0).1.f2.length ≤ c3 ∧ Kd.C k64 w' A3 (findV f.f0 l0).1.f2.length (findV f.f0 l0).1.f2) ∧ Below wb.heap.size wb w' from by
  obtain ⟨⟨A3, c3, g1, g2, g3⟩, g4⟩ := h
  exact ⟨⟨A3, c3, g1, g2, Kd.C_below g3 g4⟩, hW.trans (g4.mono (below_size hW))⟩))
 have HU1 := Aside0.mk (fun W (hW : Below wb.heap.size wb W) => (dir_Used.calls k A0 c0 l0 U1 W (Kd.C_below hr1 hW) hc0 u1).mono fun e w' h => (show ∃ A3 c3, e = .returned (.slice A3 U1.length c3) ∧ U1.length ≤ c3 ∧ Kd.C k64 w' A3 U1.length U1 ∧ Below wb.heap.size wb w' ∧ Below W.heap.size W w' from by
  obtain ⟨v, g1, g2, g3⟩ := h
  obtain ⟨A3, c3, rfl, g5, g6⟩ := Kd.R_reads g2
  exact ⟨A3, c3, g1, g5, g6, hW.trans (g3.mono (below_size hW)), g3⟩))
 have HS := Aside0.mk (fun (U : List S64) n (hn : rootcellarlaw7_sectors.f k U = some n) W (hW : Below wb.heap.size wb W) A3 c3 (g5 : U.length ≤ c3) (g6 : Kd.C k64 W A3 U.length U) => (rootcellarlaw7_sectors.calls k A3 c3 U n W g6 g5 hn).mono fun e w' h => (show e = .returned (.int .i64 n) ∧ Below wb.heap.size wb w' ∧ Below W.heap.size W w' from ⟨h.1, hW.trans (h.2.below.mono (below_size hW)), h.2.below⟩))
 have HW := Aside0.mk (fun W (hW : Below wb.heap.size wb W) => (withF.calls A0 c0 l0 f A2 c2 W (Kd.C_below hr1 hW) ll hm ((k43).K_below hW hK1)).mono fun e w' h => (show ∃ A3 c3, e = .returned (.slice A3 (withV f l0).length c3) ∧ (withV f l0).length ≤ c3 ∧ Kd.C k43 w' A3 (withV f l0).length (withV f l0) ∧ Below wb.heap.size wb w' ∧ Below W.heap.size W w' from by
  obtain ⟨v, ps, g1, g2, g3, g4⟩ := h
  obtain ⟨A3, c3, rfl, g5, g6⟩ := g3.reads g4
  rw [g2] at g1 g5 g6
  exact ⟨A3, c3, g1, g5, g6, hW.trans (g4.mono (below_size hW)), g4⟩))
 have HWO := Aside0.mk (fun W (hW : Below wb.heap.size wb W) => (withoutF.calls A0 c0 l0 f.f0 W (Kd.C_below hr1 hW) ll).mono fun e w' h => (show ∃ A3 c3, e = .returned (.slice A3 (withoutV f.f0 l0).length c3) ∧ (withoutV f.f0 l0).length ≤ c3 ∧ Kd.C k43 w' A3 (withoutV f.f0 l0).length (withoutV f.f0 l0) ∧ Below wb.heap.size wb w' ∧ Below W.heap.size W w' from by
  obtain ⟨v, ps, g1, g2, g3, g4⟩ := h
  obtain ⟨A3, c3, rfl, g5, g6⟩ := g3.reads g4
  rw [g2] at g1 g5 g6
  exact ⟨A3, c3, g1, g5, g6, hW.trans (g4.mono (below_size hW)), g4⟩))
 have HUX := Aside0.mk (fun (l : List S43) U (hU : dir_Used.f k l = some U) W (hW : Below wb.heap.size wb W) A c (hc : l.length ≤ c) (hr : Kd.C k43 W A l.length l) => (dir_Used.calls k A c l U W hr hc hU).mono fun e w' h => (show ∃ A3 c3, e = .returned (.slice A3 U.length c3) ∧ U.length ≤ c3 ∧ Kd.C k64 w' A3 U.length U ∧ Below wb.heap.size wb w' ∧ Below W.heap.size W w' from by
  obtain ⟨v, g1, g2, g3⟩ := h
  obtain ⟨A3, c3, rfl, g5, g6⟩ := Kd.R_reads g2
  exact ⟨A3, c3, g1, g5, g6, hW.trans (g3.mono (below_size hW)), g3⟩))
 have HFB := Aside0.mk (show ∀ W, Below wb.heap.size wb W → W.heap[w.heap.size]? = some (.cells #[.string f.f0, .int .i64 f.f1, .slice A2 f.f2.length c2] 43 (0, 0)) from fun W hW => blk_below (by rw [hwb]; exact blk_new w _) hW)
 have HB0 := Aside0.mk (show Below wb.heap.size wb (w.alloc (.cells #[.string f.f0, .int .i64 f.f1, .slice A2 f.f2.length c2] 43)) from by rw [hwb]; exact Below.refl _ _)
 have HBW := Aside0.mk hbw
 have HC2 := Aside0.mk (show f.f2.length ≤ c2 ∧ ∀ W, Below wb.heap.size wb W → Kd.C k64 W A2 f.f2.length f.f2 from ⟨hl2', fun W hW => Kd.C_below hC2' hW⟩)
 have UU := Aside0.mk (show dir_Used.f k (withV f l0) = some U2 ∧ dir_Used.f k (withoutV f.f0 l0) = some U3 ∧ rootcellarlaw7_sectors.f k U1 = some n1 ∧ rootcellarlaw7_sectors.f k U2 = some n2 ∧ rootcellarlaw7_sectors.f k U3 = some n3 ∧ rootcellarlaw7_sectors.f k f.f2 = some n4 from ⟨u2, u3, v1, v2, v3, u4⟩)
 have U5 := Aside0.mk u5
 clear hwb hbw hr1 hK1 ht1 hr0 hc0 hK ht e1 e2 e3 e4 hm u1 u2 u3 u4 u5 v1 v2 v3 hl2 hl2' hC2 hC2' hcs ll
 generalize withV f l0 = LW at HW UU
 generalize withoutV f.f0 l0 = LO at HWO UU
 generalize findV f.f0 l0 = fo at H5 U5
 obtain ⟨old, had⟩ := fo
 cases had with
 | true =>
  replace U5 := Aside0.mk (show rootcellarlaw7_sectors.f k old.f2 = some n5 from U5.out)
  have q1 : (n2 == IntKind.i64.wrap (IntKind.i64.wrap (n1 + n4) - n5)) = true := by rw [i64_w, i64_w]; exact f1
  have q2 : (n3 == IntKind.i64.wrap (n1 - n5)) = true := by rw [i64_w]; exact f2
  go_enter Tryd.func8, Tryd.ntmps8
  go_wp2_with (first
   | (go_at_call 10; go_loud (refine (H1.out _ HB0.out).mono ?_; rintro e w1 ⟨rfl, x1⟩; have HB1 := Aside0.mk x1; clear x1))
   | (go_at_call 15; go_loud (refine (H2.out _ HB1.out).mono ?_; rintro e w2 ⟨rfl, x2⟩; have HB2 := Aside0.mk x2; clear x2))
   | (go_at_call 16; refine (H4.out _ HB3.out).mono ?_; rintro e w4 ⟨rfl, x4⟩; have hf4_0 := blk_cell (HFB.out _ x4) 0; have HB4 := Aside0.mk x4; clear x4)
   | (go_at_call 16; go_loud (refine (H3.out _ HB2.out).mono ?_; rintro e w3 ⟨rfl, x3⟩; have hf3_0 := blk_cell (HFB.out _ x3) 0; have hf3_1 := blk_cell (HFB.out _ x3) 1; have hf3_2 := blk_cell (HFB.out _ x3) 2; have HB3 := Aside0.mk x3; clear x3))
   | (go_at_call 19; go_loud (refine (H5.out _ HB4.out).mono ?_; rintro e w5 ⟨⟨A5, c5, rfl, g5, g5'⟩, x5⟩; have HB5 := Aside0.mk x5; have G5 := Aside0.mk (show old.f2.length ≤ c5 ∧ ∀ W, Below (w5.alloc (.cells #[.string old.f0, .int .i64 old.f1, .slice A5 old.f2.length c5] 43)).heap.size (w5.alloc (.cells #[.string old.f0, .int .i64 old.f1, .slice A5 old.f2.length c5] 43)) W → Kd.C k64 W A5 old.f2.length old.f2 from ⟨g5, fun W hW => Kd.C_below (Kd.C_alloc g5' _) hW⟩); have HOB := Aside0.mk (blk_new w5 (.cells #[.string old.f0, .int .i64 old.f1, .slice A5 old.f2.length c5] 43)); clear x5 g5 g5'))
   | (go_at_call 26; refine (HUX.out LO U3 UU.out.2.1 _ HB11.out _ _ G11.out.1 G11.out.2).mono ?_; rintro e w12 ⟨A12, c12, rfl, g12, g12', x12, y12⟩; have HB12 := Aside0.mk x12; have G12 := Aside0.mk (And.intro g12 g12'); have HY := Aside0.mk (HY.out.trans (y12.mono HY.out.size)); clear x12 y12 g12 g12')
   | (go_at_call 26; refine (HUX.out LW U2 UU.out.1 _ HB8.out _ _ G8.out.1 G8.out.2).mono ?_; rintro e w9 ⟨A9, c9, rfl, g9, g9', x9, y9⟩; have HB9 := Aside0.mk x9; have G9 := Aside0.mk (And.intro g9 g9'); have HY := Aside0.mk (HY.out.trans (y9.mono HY.out.size)); clear x9 y9 g9 g9')
   | (go_at_call 26; go_loud (refine (HU1.out _ (below_alloc HB5.out _)).mono ?_; rintro e w6 ⟨A6, c6, rfl, g6, g6', x6, y6⟩; have HB6 := Aside0.mk x6; have G6 := Aside0.mk (And.intro g6 g6'); have HY := Aside0.mk y6; clear x6 y6 g6 g6'))
   | (go_at_call 21; go_loud (refine (HW.out _ HB7.out).mono ?_; rintro e w8 ⟨A8, c8, rfl, g8, g8', x8, y8⟩; have HB8 := Aside0.mk x8; have G8 := Aside0.mk (And.intro g8 g8'); have HY := Aside0.mk (HY.out.trans (y8.mono HY.out.size)); clear x8 y8 g8 g8'))
   | (go_at_call 23; go_loud (refine (HWO.out _ HB10.out).mono ?_; rintro e w11 ⟨A11, c11, rfl, g11, g11', x11, y11⟩; have HB11 := Aside0.mk x11; have G11 := Aside0.mk (And.intro g11 g11'); have HY := Aside0.mk (HY.out.trans (y11.mono HY.out.size)); clear x11 y11 g11 g11'))
   | (go_at_call 25; refine (HS.out old.f2 n5 U5.out _ HB14.out A5 c5 G5.out.1 (G5.out.2 _ HY.out)).mono ?_; rintro e w15 ⟨rfl, x15, y15⟩; have HB15 := Aside0.mk x15; clear x15 y15)
   | (go_at_call 25; refine (HS.out f.f2 n4 UU.out.2.2.2.2.2 _ HB13.out A2 c2 HC2.out.1 (HC2.out.2 _ HB13.out)).mono ?_; rintro e w14 ⟨rfl, x14, y14⟩; have HB14 := Aside0.mk x14; have HY := Aside0.mk (HY.out.trans (y14.mono HY.out.size)); have ho14_2 := blk_cell (blk_below HOB.out HY.out) 2; clear x14 y14)
   | (go_at_call 25; refine (HS.out U3 n3 UU.out.2.2.2.2.1 _ HB12.out A12 c12 G12.out.1 G12.out.2).mono ?_; rintro e w13 ⟨rfl, x13, y13⟩; have hf13_2 := blk_cell (HFB.out _ x13) 2; have HB13 := Aside0.mk x13; have HY := Aside0.mk (HY.out.trans (y13.mono HY.out.size)); clear x13 y13)
   | (go_at_call 25; refine (HS.out U2 n2 UU.out.2.2.2.1 _ HB9.out A9 c9 G9.out.1 G9.out.2).mono ?_; rintro e w10 ⟨rfl, x10, y10⟩; have hf10_0 := blk_cell (HFB.out _ x10) 0; have HB10 := Aside0.mk x10; have HY := Aside0.mk (HY.out.trans (y10.mono HY.out.size)); clear x10 y10)
   | (go_at_call 25; go_loud (refine (HS.out U1 n1 UU.out.2.2.1 _ HB6.out A6 c6 G6.out.1 G6.out.2).mono ?_; rintro e w7 ⟨rfl, x7, y7⟩; have hf7_0 := blk_cell (HFB.out _ x7) 0; have hf7_1 := blk_cell (HFB.out _ x7) 1; have hf7_2 := blk_cell (HFB.out _ x7) 2; have HB7 := Aside0.mk x7; have HY := Aside0.mk (HY.out.trans (y7.mono HY.out.size)); clear x7 y7)))
  go_ret
  exact ⟨rfl, HBW.out.trans (HB15.out.mono (below_size HBW.out))⟩
 | false =>
  have h0 : n5 = 0 := U5.out
  subst h0
  have q1 : (n2 == IntKind.i64.wrap (IntKind.i64.wrap (n1 + n4) - 0)) = true := by rw [i64_w, i64_w]; exact f1
  have q2 : (n3 == IntKind.i64.wrap (n1 - 0)) = true := by rw [i64_w]; exact f2
  have q3 : (n2 == IntKind.i64.wrap (IntKind.i64.wrap (n1 + n4))) = true := by rw [Int.sub_zero] at q1; exact q1
  have q4 : (n3 == IntKind.i64.wrap n1) = true := by rw [Int.sub_zero] at q2; exact q2
  have QN := Aside0.mk (show n2 = wrap64 (wrap64 (n1 + n4)) from by rw [i64_w, i64_w] at q3; exact beq_iff_eq.1 q3)
  have Q4 := Aside0.mk (show (n3 == wrap64 n1) = true from by rw [i64_w] at q4; exact q4)
  clear U5
  go_enter Tryd.func8, Tryd.ntmps8
  go_wp2_with (first
   | (go_at_call 10; go_loud (refine (H1.out _ HB0.out).mono ?_; rintro e w1 ⟨rfl, x1⟩; have HB1 := Aside0.mk x1; clear x1))
   | (go_at_call 15; go_loud (refine (H2.out _ HB1.out).mono ?_; rintro e w2 ⟨rfl, x2⟩; have HB2 := Aside0.mk x2; clear x2))
   | (go_at_call 16; refine (H4.out _ HB3.out).mono ?_; rintro e w4 ⟨rfl, x4⟩; have hf4_0 := blk_cell (HFB.out _ x4) 0; have HB4 := Aside0.mk x4; clear x4)
   | (go_at_call 16; go_loud (refine (H3.out _ HB2.out).mono ?_; rintro e w3 ⟨rfl, x3⟩; have hf3_0 := blk_cell (HFB.out _ x3) 0; have hf3_1 := blk_cell (HFB.out _ x3) 1; have hf3_2 := blk_cell (HFB.out _ x3) 2; have HB3 := Aside0.mk x3; clear x3))
   | (go_at_call 19; go_loud (refine (H5.out _ HB4.out).mono ?_; rintro e w5 ⟨⟨A5, c5, rfl, g5, g5'⟩, x5⟩; have HB5 := Aside0.mk x5; have G5 := Aside0.mk (show old.f2.length ≤ c5 ∧ ∀ W, Below (w5.alloc (.cells #[.string old.f0, .int .i64 old.f1, .slice A5 old.f2.length c5] 43)).heap.size (w5.alloc (.cells #[.string old.f0, .int .i64 old.f1, .slice A5 old.f2.length c5] 43)) W → Kd.C k64 W A5 old.f2.length old.f2 from ⟨g5, fun W hW => Kd.C_below (Kd.C_alloc g5' _) hW⟩); have HOB := Aside0.mk (blk_new w5 (.cells #[.string old.f0, .int .i64 old.f1, .slice A5 old.f2.length c5] 43)); clear x5 g5 g5'))
   | (go_at_call 26; refine (HUX.out LO U3 UU.out.2.1 _ HB11.out _ _ G11.out.1 G11.out.2).mono ?_; rintro e w12 ⟨A12, c12, rfl, g12, g12', x12, y12⟩; have HB12 := Aside0.mk x12; have G12 := Aside0.mk (And.intro g12 g12'); have HY := Aside0.mk (HY.out.trans (y12.mono HY.out.size)); clear x12 y12 g12 g12')
   | (go_at_call 26; refine (HUX.out LW U2 UU.out.1 _ HB8.out _ _ G8.out.1 G8.out.2).mono ?_; rintro e w9 ⟨A9, c9, rfl, g9, g9', x9, y9⟩; have HB9 := Aside0.mk x9; have G9 := Aside0.mk (And.intro g9 g9'); have HY := Aside0.mk (HY.out.trans (y9.mono HY.out.size)); clear x9 y9 g9 g9')
   | (go_at_call 26; go_loud (refine (HU1.out _ (below_alloc HB5.out _)).mono ?_; rintro e w6 ⟨A6, c6, rfl, g6, g6', x6, y6⟩; have HB6 := Aside0.mk x6; have G6 := Aside0.mk (And.intro g6 g6'); have HY := Aside0.mk y6; clear x6 y6 g6 g6'))
   | (go_at_call 21; go_loud (refine (HW.out _ HB7.out).mono ?_; rintro e w8 ⟨A8, c8, rfl, g8, g8', x8, y8⟩; have HB8 := Aside0.mk x8; have G8 := Aside0.mk (And.intro g8 g8'); have HY := Aside0.mk (HY.out.trans (y8.mono HY.out.size)); clear x8 y8 g8 g8'))
   | (go_at_call 23; go_loud (refine (HWO.out _ HB10.out).mono ?_; rintro e w11 ⟨A11, c11, rfl, g11, g11', x11, y11⟩; have HB11 := Aside0.mk x11; have G11 := Aside0.mk (And.intro g11 g11'); have HY := Aside0.mk (HY.out.trans (y11.mono HY.out.size)); clear x11 y11 g11 g11'))
   | (go_at_call 25; refine (HS.out old.f2 n5 U5.out _ HB14.out A5 c5 G5.out.1 (G5.out.2 _ HY.out)).mono ?_; rintro e w15 ⟨rfl, x15, y15⟩; have HB15 := Aside0.mk x15; clear x15 y15)
   | (go_at_call 25; refine (HS.out f.f2 n4 UU.out.2.2.2.2.2 _ HB13.out A2 c2 HC2.out.1 (HC2.out.2 _ HB13.out)).mono ?_; rintro e w14 ⟨rfl, x14, y14⟩; have HB14 := Aside0.mk x14; have HY := Aside0.mk (HY.out.trans (y14.mono HY.out.size)); have ho14_2 := blk_cell (blk_below HOB.out HY.out) 2; clear x14 y14)
   | (go_at_call 25; refine (HS.out U3 n3 UU.out.2.2.2.2.1 _ HB12.out A12 c12 G12.out.1 G12.out.2).mono ?_; rintro e w13 ⟨rfl, x13, y13⟩; have hf13_2 := blk_cell (HFB.out _ x13) 2; have HB13 := Aside0.mk x13; have HY := Aside0.mk (HY.out.trans (y13.mono HY.out.size)); clear x13 y13)
   | (go_at_call 25; refine (HS.out U2 n2 UU.out.2.2.2.1 _ HB9.out A9 c9 G9.out.1 G9.out.2).mono ?_; rintro e w10 ⟨rfl, x10, y10⟩; have hf10_0 := blk_cell (HFB.out _ x10) 0; have HB10 := Aside0.mk x10; have HY := Aside0.mk (HY.out.trans (y10.mono HY.out.size)); clear x10 y10)
   | (go_at_call 25; go_loud (refine (HS.out U1 n1 UU.out.2.2.1 _ HB6.out A6 c6 G6.out.1 G6.out.2).mono ?_; rintro e w7 ⟨rfl, x7, y7⟩; have hf7_0 := blk_cell (HFB.out _ x7) 0; have hf7_1 := blk_cell (HFB.out _ x7) 1; have hf7_2 := blk_cell (HFB.out _ x7) 2; have HB7 := Aside0.mk x7; have HY := Aside0.mk (HY.out.trans (y7.mono HY.out.size)); clear x7 y7)))
  ·go_ret
   exact ⟨by show Ending.returned (.bool (n3 == wrap64 n1)) = _; rw [Q4.out], HBW.out.trans (HB14.out.mono (below_size HBW.out))⟩
  ·rename_i h_
   exact absurd QN.out h_
/-- What the walk asks. -/
def DirUsesOk (k : Nat) (l : List S43) (f : S43) (r : Bool) : Prop := r = true ∧ rootcellarlaw7_shown.f k = some true ∧ (usesEarly k l f ∨ ∃ n1 n2 n3 n4 n5, UsesAll k l f n1 n2 n3 n4 n5)
theorem rootcellarlaw7_DirUses.calls (k : Nat) (A0 : Option Addr) (c0 : Nat) (l0 : List S43) (f : S43) (A1 : Option Addr) (c1 : Nat) (r : Bool) (w : World) (hr0 : Kd.C k43 w A0 l0.length l0) (hc0 : l0.length ≤ c0) (hK : (k43).K w f (fileC3 f A1 c1)) (ht : TabsW w) (h : DirUsesOk k l0 f r) :
  Calls Tryd.prog 8 #[.slice A0 l0.length c0, .agg #[.string f.f0, .int .i64 f.f1, .slice A1 f.f2.length c1]] w fun e w' => e = .returned (.bool r) ∧ Below w.heap.size w w' := by
 obtain ⟨rfl, e1, he | ⟨n1, n2, n3, n4, n5, he⟩⟩ := h
 ·exact DirUses_early k A0 c0 l0 f A1 c1 w hr0 hc0 hK ht e1 he
 ·exact DirUses_full k A0 c0 l0 f A1 c1 n1 n2 n3 n4 n5 w hr0 hc0 hK ht e1 he
end Go.Proofs.YtppbcankhkgpfaaDoor.PDk
