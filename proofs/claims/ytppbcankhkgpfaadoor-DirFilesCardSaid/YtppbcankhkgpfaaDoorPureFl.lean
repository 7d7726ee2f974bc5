/-
  rootcellarlaw7.DirFiles: the law's walk.
-/
import Derived.Test.YtppbcankhkgpfaaDoorPDqx34
import Derived.Test.YtppbcankhkgpfaaDoorPDqx31
import Derived.Test.YtppbcankhkgpfaaDoorPDqx20
import Derived.Test.YtppbcankhkgpfaaDoorPDqx27
import Derived.Test.YtppbcankhkgpfaaDoorPureFd
import Derived.Test.YtppbcankhkgpfaaDoorPureRw
import Derived.Deep.RegionHeld3
import Derived.Deep.CutBlock
--compressed
namespace Go.Proofs.YtppbcankhkgpfaaDoor.PDq
open Go.RowKit Go.Proofs.YtppbcankhkgpfaaDoorW.PrintWords Go.Proofs.YtppbcankhkgpfaaDoorW.PrintLast Go.Proofs.YtppbcankhkgpfaaDoorW.PrintMore
attribute [local go_sem] max2_int min2_int max_two min_two max_three min_three max_four min_four
attribute [local go_sem high] hw_str_leq hw_str_gtr
set_option linter.unusedVariables false
set_option linter.unusedSimpArgs false
theorem row_at {α : Type} {d : Kd α} {t : TypeId} {W : World} {b : Nat} {x : α} {cs : List Value} (hb : W.heap[b]? = some (.cells cs.toArray t (0, 0))) (h : d.K W x cs) : Kd.C d W (some ⟨b, 0, none⟩) 1 [x] :=
 ⟨rfl, by decide, fun _ => ⟨⟨b, 0, none⟩, rfl, fun j p hj => by
  have hj0 : j = 0 := by
   have := (List.getElem?_eq_some_iff.1 hj).1
   simp at this
   exact this
  subst hj0
  have hp : x = p := by simpa using hj
  subst hp
  refine ⟨cs, d.K_len h, h, fun i u hu => ?_⟩
  rw [Nat.zero_mul, Nat.zero_add, Addr.add_lit, Nat.zero_add, cell_of_list hb]
  exact hu⟩⟩
theorem asC.calls (k : Nat) (A0 : Option Addr) (c0 : Nat) (l0 : List S43) (r : List S45) (w : World) (hr0 : Kd.C k43 w A0 l0.length l0) (hc0 : l0.length ≤ c0) (h : rootcellarlaw7_as.f k l0 = some r) :
  Calls Tryd.prog 17 #[.slice A0 l0.length c0] w fun e w' => ∃ A c, e = .returned (.slice A r.length c) ∧ r.length ≤ c ∧ Kd.C k45 w' A r.length r ∧ Below w.heap.size w w' := by
 refine (rootcellarlaw7_as.calls k (fun k => k < w.heap.size) A0 c0 l0 r w ⟨A0, c0, rfl, hc0, Kd.C_F k43_heap hr0⟩ h).mono ?_
 rintro e w' ⟨v, rfl, hN, hb⟩
 obtain ⟨A, c, rfl, h1, h2⟩ := Kd.N_reads hN
 exact ⟨A, c, rfl, h1, h2, hb⟩
theorem findR.calls (k : Nat) (A0 : Option Addr) (c0 : Nat) (l0 : List S45) (a : ByteArray) (y : S45) (b : Bool) (w : World) (hr0 : Kd.C k45 w A0 l0.length l0) (hc0 : l0.length ≤ c0) (h : rootcellarref7_Find.f k l0 a = some (y.f0, y.f1, y.f2, b)) :
  Calls Tryd.prog 20 #[.slice A0 l0.length c0, .string a] w fun e w' => ∃ A c, e = .returned (.tuple #[.agg #[.string y.f0, .int .i64 y.f1, .slice A y.f2.length c], .bool b]) ∧ y.f2.length ≤ c ∧ Kd.C k64 w' A y.f2.length y.f2 ∧ Below w.heap.size w w' := by
 refine (rootcellarref7_Find.calls k (fun k => k < w.heap.size) A0 c0 l0 a y.f0 y.f1 y.f2 b w ⟨A0, c0, rfl, hc0, Kd.C_F k45_heap hr0⟩ h).mono ?_
 rintro e w' ⟨v, rfl, hV, hb⟩
 obtain ⟨A, c, rfl⟩ := Kd.V_slice hV
 exact ⟨A, c, rfl, (Kd.V_reads' hV).2.1, (Kd.V_reads' hV).2.2, hb⟩
/-- The early ends: a row that is not small, a name that is too long. -/
def filesEarly (k : Nat) (l : List S43) (f : S43) (name : ByteArray) : Prop := ∃ b, rootcellarlaw7_small.f k l = some b ∧ (b = false ∨ 150 < f.f0.size ∨ 150 < name.size)
set_option maxHeartbeats 4000000 in
set_option maxRecDepth 100000 in
theorem DirFiles_early (k : Nat) (A0 : Option Addr) (c0 : Nat) (l0 : List S43) (f : S43) (A2 : Option Addr) (c2 : Nat) (name : ByteArray) (w : World) (hr0 : Kd.C k43 w A0 l0.length l0) (hc0 : l0.length ≤ c0) (hK : (k43).K w f (fileC3 f A2 c2)) (ht : TabsW w)
  (e1 : rootcellarlaw7_shown.f k = some true) (he : filesEarly k l0 f name) :
  Calls Tryd.prog 6 #[.slice A0 l0.length c0, .agg #[.string f.f0, .int .i64 f.f1, .slice A2 f.f2.length c2], .string name] w fun e w' => e = .returned (.bool true) ∧ Below w.heap.size w w' := by
 obtain ⟨b, e2, hc⟩ := he
 have hu := Tryd.underlying43
 have hbw : Below w.heap.size w (w.alloc (.cells #[.string f.f0, .int .i64 f.f1, .slice A2 f.f2.length c2] 43)) := below_alloc (Below.refl _ w) _
 have H1 := Aside0.mk (fun W (hW : Below w.heap.size w W) => (rootcellarlaw7_shown.calls k true W (ht.below hW) e1).mono fun e w' h => (show e = .returned (.bool true) ∧ Below w.heap.size w w' ∧ Below W.heap.size W w' from ⟨h.1, hW.trans (h.2.mono (below_size hW)), h.2⟩))
 have H2 := Aside0.mk (fun W (hW : Below w.heap.size w W) => (rootcellarlaw7_small.calls k A0 c0 l0 b W (Kd.C_below hr0 hW) hc0 e2).mono fun e w' h => (show e = .returned (.bool b) ∧ Below w.heap.size w w' ∧ Below W.heap.size W w' from ⟨h.1, hW.trans (h.2.below.mono (below_size hW)), h.2.below⟩))
 have HFB := Aside0.mk (blk_new w (.cells #[.string f.f0, .int .i64 f.f1, .slice A2 f.f2.length c2] 43))
 have HB0 := Aside0.mk hbw
 clear hbw hr0 hc0 hK ht e1 e2
 have h150 : b = false ∨ b = true ∧ decide ((150 : Int) < (f.f0.size : Int)) = true ∨ b = true ∧ decide ((150 : Int) < (f.f0.size : Int)) = false ∧ decide ((150 : Int) < (name.size : Int)) = true := by
  cases b with
  | false => exact .inl rfl
  | true =>
   by_cases h1 : 150 < f.f0.size
   ·exact .inr (.inl ⟨rfl, decide_eq_true (by omega)⟩)
   ·refine .inr (.inr ⟨rfl, decide_eq_false (by omega), decide_eq_true ?_⟩)
    rcases hc with h | h | h
    ·cases h
    ·exact absurd h h1
    ·omega
 clear hc
 rcases h150 with rfl | ⟨rfl, h1⟩ | ⟨rfl, h1, h2⟩
 all_goals
  go_enter Tryd.func6, Tryd.ntmps6
  go_wp2_with (first
   | (go_at_call 10; go_loud (refine (H1.out _ HB0.out).mono ?_; rintro e w1 ⟨rfl, x1, y1⟩; have HB1 := Aside0.mk x1; have HY := Aside0.mk y1; clear x1 y1))
   | (go_at_call 15; go_loud (refine (H2.out _ HB1.out).mono ?_; rintro e w2 ⟨rfl, x2, y2⟩; have hf0 := blk_cell (blk_below (blk_below HFB.out HY.out) y2) 0; have HB2 := Aside0.mk x2; clear x2 y2)))
  go_ret
  exact ⟨rfl, HB2.out⟩
set_option maxHeartbeats 4000000 in
set_option maxRecDepth 100000 in
theorem DirFiles_not (k : Nat) (A0 : Option Addr) (c0 : Nat) (l0 : List S43) (f : S43) (A2 : Option Addr) (c2 : Nat) (name : ByteArray) (w : World) (hr0 : Kd.C k43 w A0 l0.length l0) (hc0 : l0.length ≤ c0) (hK : (k43).K w f (fileC3 f A2 c2)) (ht : TabsW w) (KR : List S45)
  (e1 : rootcellarlaw7_shown.f k = some true) (e2 : rootcellarlaw7_small.f k l0 = some true) (hz1 : f.f0.size ≤ 150) (hz2 : name.size ≤ 150) (e3 : rootcellarlaw7_as.f k l0 = some KR) (e4 : rootcellarref7_Is.f k KR = some false) :
  Calls Tryd.prog 6 #[.slice A0 l0.length c0, .agg #[.string f.f0, .int .i64 f.f1, .slice A2 f.f2.length c2], .string name] w fun e w' => e = .returned (.bool true) ∧ Below w.heap.size w w' := by
 have hu := Tryd.underlying43
 have hbw : Below w.heap.size w (w.alloc (.cells #[.string f.f0, .int .i64 f.f1, .slice A2 f.f2.length c2] 43)) := below_alloc (Below.refl _ w) _
 have H1 := Aside0.mk (fun W (hW : Below w.heap.size w W) => (rootcellarlaw7_shown.calls k true W (ht.below hW) e1).mono fun e w' h => (show e = .returned (.bool true) ∧ Below w.heap.size w w' ∧ Below W.heap.size W w' from ⟨h.1, hW.trans (h.2.mono (below_size hW)), h.2⟩))
 have H2 := Aside0.mk (fun W (hW : Below w.heap.size w W) => (rootcellarlaw7_small.calls k A0 c0 l0 true W (Kd.C_below hr0 hW) hc0 e2).mono fun e w' h => (show e = .returned (.bool true) ∧ Below w.heap.size w w' ∧ Below W.heap.size W w' from ⟨h.1, hW.trans (h.2.below.mono (below_size hW)), h.2.below⟩))
 have H3 := Aside0.mk (fun W (hW : Below w.heap.size w W) => (asC.calls k A0 c0 l0 KR W (Kd.C_below hr0 hW) hc0 e3).mono fun e w' h => (show ∃ A c, e = .returned (.slice A KR.length c) ∧ KR.length ≤ c ∧ Kd.C k45 w' A KR.length KR ∧ Below w.heap.size w w' from let ⟨A, c, q1, q2, q3, q4⟩ := h; ⟨A, c, q1, q2, q3, hW.trans (q4.mono (below_size hW))⟩))
 have H4 := Aside0.mk (fun W A c (hC : Kd.C k45 W A KR.length KR) (hc : KR.length ≤ c) => rootcellarref7_Is.calls k A c KR false W hC hc e4)
 have HFB := Aside0.mk (blk_new w (.cells #[.string f.f0, .int .i64 f.f1, .slice A2 f.f2.length c2] 43))
 have HB0 := Aside0.mk hbw
 have h1 : decide ((150 : Int) < (f.f0.size : Int)) = false := decide_eq_false (by omega)
 have h2 : decide ((150 : Int) < (name.size : Int)) = false := decide_eq_false (by omega)
 clear hbw hr0 hc0 hK ht e1 e2 e3 e4 hz1 hz2
 go_enter Tryd.func6, Tryd.ntmps6
 go_wp2_with (first
  | (go_at_call 10; go_loud (refine (H1.out _ HB0.out).mono ?_; rintro e w1 ⟨rfl, x1, y1⟩; have HB1 := Aside0.mk x1; have HY := Aside0.mk y1; clear x1 y1))
  | (go_at_call 15; go_loud (refine (H2.out _ HB1.out).mono ?_; rintro e w2 ⟨rfl, x2, y2⟩; have hf0 := blk_cell (blk_below (blk_below HFB.out HY.out) y2) 0; have HB2 := Aside0.mk x2; clear x2 y2))
  | (go_at_call 17; go_loud (refine (H3.out _ HB2.out).mono ?_; rintro e w3 ⟨A3, c3, rfl, g3, g3', x3⟩; have HB3 := Aside0.mk x3; have G3 := Aside0.mk (And.intro g3 g3'); clear g3 g3' x3))
  | (go_at_call 18; go_loud (refine (H4.out _ _ _ G3.out.2 G3.out.1).mono ?_; rintro e w4 ⟨rfl, x4⟩; have HB4 := Aside0.mk (HB3.out.trans (x4.mono (below_size HB3.out))); clear x4)))
 go_ret
 exact ⟨rfl, HB4.out⟩
theorem blk_nw (w : World) (o : Obj) (n : Nat) (h : n = w.heap.size) : (w.alloc o).heap[n]? = some o := by subst h; exact blk_new w o
/-- What is asked for the whole walk. -/
structure FilesAll (k : Nat) (l : List S43) (f : S43) (name : ByteArray) (g : S45) (KR : List S45) (x : S43) (y : S45) (o : Bool) (RF RO : List S45) : Prop where
 e2 : rootcellarlaw7_small.f k l = some true
 z1 : f.f0.size ≤ 150
 z2 : name.size ≤ 150
 len : l.length ≤ 1000
 e3 : rootcellarlaw7_as.f k l = some KR
 e4 : rootcellarref7_Is.f k KR = some true
 e5 : rootcellarlaw7_as.f k [f] = some [g]
 x1 : findV name l = (x, o)
 x2 : rootcellarref7_Find.f k KR name = some (y.f0, y.f1, y.f2, o)
 hm : ∀ a b (ha : a < l.length) (hb : b < l.length), a ≤ b → aheadN l[b].f0 f.f0 = true → aheadN l[a].f0 f.f0 = true
 o1 : rootcellarref7_Without.f k KR g.f0 = some RF
 rl : RF.length ≤ 100000
 s1 : rootcellarlaw7_same.f k (withV f l) (insR g RF) = some true
 o2 : rootcellarref7_Without.f k KR name = some RO
 s2 : rootcellarlaw7_same.f k (withoutV name l) RO = some true
 s3 : rootcellarlaw7_same.f k [x] [y] = some true
set_option maxHeartbeats 8000000 in
set_option maxRecDepth 100000 in
theorem DirFiles_full (k : Nat) (A0 : Option Addr) (c0 : Nat) (l0 : List S43) (f : S43) (A2 : Option Addr) (c2 : Nat) (name : ByteArray) (w : World) (hr0 : Kd.C k43 w A0 l0.length l0) (hc0 : l0.length ≤ c0) (hK : (k43).K w f (fileC3 f A2 c2)) (ht : TabsW w)
  (g : S45) (KR : List S45) (x : S43) (y : S45) (o : Bool) (RF RO : List S45)
  (e1 : rootcellarlaw7_shown.f k = some true) (he : FilesAll k l0 f name g KR x y o RF RO) :
  Calls Tryd.prog 6 #[.slice A0 l0.length c0, .agg #[.string f.f0, .int .i64 f.f1, .slice A2 f.f2.length c2], .string name] w fun e w' => e = .returned (.bool true) ∧ Below w.heap.size w w' := by
 obtain ⟨e2, hz1, hz2, hlen, e3, e4, e5, x1, x2, hm, o1, rl, s1, o2, s2, s3⟩ := he
 have hu := Tryd.underlying43
 have hu2 := Tryd.underlying45
 have hbw : Below w.heap.size w (w.alloc (.cells #[.string f.f0, .int .i64 f.f1, .slice A2 f.f2.length c2] 43)) := below_alloc (Below.refl _ w) _
 have H1 := Aside0.mk (fun W (hW : Below w.heap.size w W) => (rootcellarlaw7_shown.calls k true W (ht.below hW) e1).mono fun e w' h => (show e = .returned (.bool true) ∧ Below w.heap.size w w' ∧ Below W.heap.size W w' from ⟨h.1, hW.trans (h.2.mono (below_size hW)), h.2⟩))
 have H2 := Aside0.mk (fun W (hW : Below w.heap.size w W) => (rootcellarlaw7_small.calls k A0 c0 l0 true W (Kd.C_below hr0 hW) hc0 e2).mono fun e w' h => (show e = .returned (.bool true) ∧ Below w.heap.size w w' ∧ Below W.heap.size W w' from ⟨h.1, hW.trans (h.2.below.mono (below_size hW)), h.2.below⟩))
 have H3 := Aside0.mk (fun W (hW : Below w.heap.size w W) => (asC.calls k A0 c0 l0 KR W (Kd.C_below hr0 hW) hc0 e3).mono fun e w' h => (show ∃ A c, e = .returned (.slice A KR.length c) ∧ KR.length ≤ c ∧ Kd.C k45 w' A KR.length KR ∧ Below w.heap.size w w' ∧ Below W.heap.size W w' from let ⟨A, c, q1, q2, q3, q4⟩ := h; ⟨A, c, q1, q2, q3, hW.trans (q4.mono (below_size hW)), q4⟩))
 have H4 := Aside0.mk (fun W A c (hC : Kd.C k45 W A KR.length KR) (hc : KR.length ≤ c) => rootcellarref7_Is.calls k A c KR true W hC hc e4)
 have H5 := Aside0.mk (fun W (hW : Below w.heap.size w W) => (asC.calls k (some ⟨W.heap.size, 0, none⟩) 1 [f] [g] (W.alloc (.cells #[.string f.f0, .int .i64 f.f1, .slice A2 f.f2.length c2] 43)) (row_at (cs := [.string f.f0, .int .i64 f.f1, .slice A2 f.f2.length c2]) (blk_new W _) ((k43).K_below (below_alloc hW _) hK)) (Nat.le_refl _) e5).mono fun e w' h =>
  (show ∃ ad c A6 c6, e = .returned (.slice (some ad) 1 c) ∧ w'.cell? ad = some (.string g.f0) ∧ w'.cell? ⟨ad.block, ad.off + 1, none⟩ = some (.int .i64 g.f1) ∧ w'.cell? ⟨ad.block, ad.off + 2, none⟩ = some (.slice A6 g.f2.length c6) ∧ g.f2.length ≤ c6 ∧ Kd.C k64 w' A6 g.f2.length g.f2 ∧ Below w.heap.size w w' ∧ Below W.heap.size W w' from by
   obtain ⟨A, c, q1, q2, q3, q4⟩ := h
   obtain ⟨ad, A6, c6, rfl, hx0, hx1, hx2, hl2, hC⟩ := at_T45 q3 0 (by decide) (by show (0 : Int) < ((1 : Nat) : Int); decide)
   have e0 : ad.add ((0 : Int).toNat * 3) = ad := by cases ad; simp [Addr.add]
   rw [e0] at hx0 hx1 hx2
   exact ⟨ad, c, A6, c6, q1, hx0, hx1, hx2, hl2, hC, (below_alloc hW _).trans (q4.mono (below_size (below_alloc hW _))), (below_alloc (Below.refl _ W) _).trans (q4.mono (by simp))⟩))
 have H6 := Aside0.mk (fun W (hW : Below w.heap.size w W) => (findF.calls A0 c0 l0 name W (Kd.C_below hr0 hW)).mono fun e w' h => (show ∃ A3 c3, e = .returned (.tuple #[.agg #[.string x.f0, .int .i64 x.f1, .slice A3 x.f2.length c3], .bool o]) ∧ x.f2.length ≤ c3 ∧ Kd.C k64 w' A3 x.f2.length x.f2 ∧ Below w.heap.size w w' ∧ Below W.heap.size W w' from by
  rw [x1] at h
  obtain ⟨⟨A3, c3, g1, g2, g3⟩, g4⟩ := h
  exact ⟨A3, c3, g1, g2, Kd.C_below g3 g4, hW.trans (g4.mono (below_size hW)), g4⟩))
 have H7 := Aside0.mk (fun W A c (hC : Kd.C k45 W A KR.length KR) (hc : KR.length ≤ c) => findR.calls k A c KR name y o W hC hc x2)
 have HW := Aside0.mk (fun W (hW : Below w.heap.size w W) => (withF.calls A0 c0 l0 f A2 c2 W (Kd.C_below hr0 hW) (by omega) hm ((k43).K_below hW hK)).mono fun e w' h => (show ∃ A3 c3, e = .returned (.slice A3 (withV f l0).length c3) ∧ (withV f l0).length ≤ c3 ∧ Kd.C k43 w' A3 (withV f l0).length (withV f l0) ∧ Below W.heap.size W w' from by
  obtain ⟨v, ps, g1, g2, g3, g4⟩ := h
  obtain ⟨A3, c3, rfl, g5, g6⟩ := g3.reads g4
  rw [g2] at g1 g5 g6
  exact ⟨A3, c3, g1, g5, g6, g4⟩))
 have HWO := Aside0.mk (fun W (hW : Below w.heap.size w W) => (withoutF.calls A0 c0 l0 name W (Kd.C_below hr0 hW) (by omega)).mono fun e w' h => (show ∃ A3 c3, e = .returned (.slice A3 (withoutV name l0).length c3) ∧ (withoutV name l0).length ≤ c3 ∧ Kd.C k43 w' A3 (withoutV name l0).length (withoutV name l0) ∧ Below W.heap.size W w' from by
  obtain ⟨v, ps, g1, g2, g3, g4⟩ := h
  obtain ⟨A3, c3, rfl, g5, g6⟩ := g3.reads g4
  rw [g2] at g1 g5 g6
  exact ⟨A3, c3, g1, g5, g6, g4⟩))
 have HRW := Aside0.mk (fun W A c (hC : Kd.C k45 W A KR.length KR) (hc : KR.length ≤ c) A6 c6 (hf : Kd.C k64 W A6 g.f2.length g.f2) (hc6 : g.f2.length ≤ c6) => withR.calls k A c KR g A6 c6 RF W hC hc hf hc6 o1 rl)
 have HRO := Aside0.mk (fun W A c (hC : Kd.C k45 W A KR.length KR) (hc : KR.length ≤ c) => withoutR.calls k A c KR name RO W hC hc o2)
 have HFB := Aside0.mk (blk_new w (.cells #[.string f.f0, .int .i64 f.f1, .slice A2 f.f2.length c2] 43))
 have HB0 := Aside0.mk hbw
 have h1 : decide ((150 : Int) < (f.f0.size : Int)) = false := decide_eq_false (by omega)
 have h2 : decide ((150 : Int) < (name.size : Int)) = false := decide_eq_false (by omega)
 generalize withV f l0 = LW at s1 HW
 generalize withoutV name l0 = LO at s2 HWO
 generalize insR g RF = RW at s1 HRW
 have HS := Aside0.mk (And.intro s1 (And.intro s2 s3))
 clear hbw hr0 hc0 hK ht e1 e2 e3 e4 e5 hz1 hz2 x1 x2 hm o1 o2 rl s1 s2 s3 hlen
 go_enter Tryd.func6, Tryd.ntmps6
 go_upto_region 11 with (first
  | (go_at_call 10; go_loud (refine (H1.out _ HB0.out).mono ?_; rintro e w1 ⟨rfl, x1, y1⟩; have HB1 := Aside0.mk x1; have HY := Aside0.mk y1; clear x1 y1))
  | (go_at_call 15; go_loud (refine (H2.out _ HB1.out).mono ?_; rintro e w2 ⟨rfl, x2, y2⟩; have hf0 := blk_cell (blk_below (blk_below HFB.out HY.out) y2) 0; have HB2 := Aside0.mk x2; have F2 := Aside0.mk (blk_below (blk_below HFB.out HY.out) y2); clear x2 y2))
  | (go_at_call 17; refine (H5.out _ HB4.out).mono ?_; rintro e w5 ⟨ad, c5, A6, c6, rfl, hx0, hx1, hx2, g5, g5', x5, y5⟩; have HB5 := Aside0.mk x5; have G5 := Aside0.mk (show g.f2.length ≤ c6 ∧ Kd.C k64 w5 A6 g.f2.length g.f2 ∧ KR.length ≤ c3 ∧ Kd.C k45 w5 A3 KR.length KR from ⟨g5, g5', G4.out.1, Kd.C_below G4.out.2 y5⟩); have F5 := Aside0.mk (blk_below F4.out y5); clear g5 g5' x5 y5)
  | (go_at_call 17; go_loud (refine (H3.out _ HB2.out).mono ?_; rintro e w3 ⟨A3, c3, rfl, g3, g3', x3, y3⟩; have HB3 := Aside0.mk x3; have G3 := Aside0.mk (And.intro g3 g3'); have F3 := Aside0.mk (blk_below F2.out y3); clear g3 g3' x3 y3))
  | (go_at_call 18; go_loud (refine (H4.out _ _ _ G3.out.2 G3.out.1).mono ?_; rintro e w4 ⟨rfl, x4⟩; have HB4 := Aside0.mk (HB3.out.trans (x4.mono (below_size HB3.out))); have G4 := Aside0.mk (And.intro G3.out.1 (Kd.C_below G3.out.2 x4)); have hf4 := blk_cell (blk_below F3.out x4) 0; have hf4_1 := blk_cell (blk_below F3.out x4) 1; have hf4_2 := blk_cell (blk_below F3.out x4) 2; have F4 := Aside0.mk (blk_below F3.out x4); clear x4))
  | (go_at_call 19; go_loud (refine (H6.out _ (below_alloc HB5.out _)).mono ?_; rintro e w6 ⟨A7, c7, rfl, g6, g6', x6, y6⟩; have HB6 := Aside0.mk x6; have G6 := Aside0.mk (show g.f2.length ≤ c6 ∧ Kd.C k64 w6 A6 g.f2.length g.f2 ∧ KR.length ≤ c3 ∧ Kd.C k45 w6 A3 KR.length KR ∧ x.f2.length ≤ c7 ∧ Kd.C k64 w6 A7 x.f2.length x.f2 from ⟨G5.out.1, Kd.C_below (Kd.C_alloc G5.out.2.1 _) y6, G5.out.2.2.1, Kd.C_below (Kd.C_alloc G5.out.2.2.2 _) y6, g6, g6'⟩); have F6 := Aside0.mk (blk_below (blk_alloc F5.out _) y6); have P6 := Aside0.mk (blk_below (blk_new w5 (.cells #[.string g.f0, .int .i64 g.f1, .slice A6 g.f2.length c6] 45)) y6); clear g6 g6' x6 y6))
  | (go_at_call 20; go_loud (refine (H7.out _ _ _ (Kd.C_alloc G6.out.2.2.2.1 _) G6.out.2.2.1).mono ?_; rintro e w7 ⟨A8, c8, rfl, g7, g7', y7⟩; have HB7 := Aside0.mk ((below_alloc HB6.out (.cells #[.string x.f0, .int .i64 x.f1, .slice A7 x.f2.length c7] 43)).trans (y7.mono (below_size (below_alloc HB6.out _)))); have G7 := Aside0.mk (show g.f2.length ≤ c6 ∧ Kd.C k64 w7 A6 g.f2.length g.f2 ∧ KR.length ≤ c3 ∧ Kd.C k45 w7 A3 KR.length KR ∧ x.f2.length ≤ c7 ∧ Kd.C k64 w7 A7 x.f2.length x.f2 ∧ y.f2.length ≤ c8 ∧ Kd.C k64 w7 A8 y.f2.length y.f2 from ⟨G6.out.1, Kd.C_below (Kd.C_alloc G6.out.2.1 _) y7, G6.out.2.2.1, Kd.C_below (Kd.C_alloc G6.out.2.2.2.1 _) y7, G6.out.2.2.2.2.1, Kd.C_below (Kd.C_alloc G6.out.2.2.2.2.2 _) y7, g7, g7'⟩); have F7 := Aside0.mk (blk_below (blk_alloc F6.out _) y7); have P7 := Aside0.mk (blk_below (blk_alloc P6.out _) y7); have X7 := Aside0.mk (blk_below (blk_new w6 (.cells #[.string x.f0, .int .i64 x.f1, .slice A7 x.f2.length c7] 43)) y7); clear g7 g7' y7)))
 have mixed : Tryd.prog.follows .mixedOrders = true := by kernel_rfl
 obtain ⟨wR, hwR⟩ : ∃ wR, wR = w7.alloc (.cells #[.string y.f0, .int .i64 y.f1, .slice A8 y.f2.length c8] 45) := ⟨_, rfl⟩
 rw [← hwR]
 have hB7 : Below w7.heap.size w7 wR := by rw [hwR]; exact below_alloc (Below.refl _ _) _
 have hBR : Below w.heap.size w wR := HB7.out.trans (hB7.mono (below_size HB7.out))
 have hF := blk_below F7.out hB7
 have hP := blk_below P7.out hB7
 have hX := blk_below X7.out hB7
 have hY : wR.heap[w7.heap.size]? = some (.cells #[.string y.f0, .int .i64 y.f1, .slice A8 y.f2.length c8] 45 (0, 0)) := by rw [hwR]; exact blk_new w7 _
 obtain ⟨q1, q2, q3, q4, q5, q6, q7, q8⟩ := G7.out
 replace q2 := Kd.C_below q2 hB7
 replace q4 := Kd.C_below q4 hB7
 replace q6 := Kd.C_below q6 hB7
 replace q8 := Kd.C_below q8 hB7
 have HKX := (k43_mk wR x q5 q6)
 have HKY := (k45_mk wR y q7 q8)
 generalize w7.heap.size = b7 at hY ⊢
 generalize w6.heap.size = b6 at hX ⊢
 generalize w5.heap.size = b5 at hP ⊢
 have hsz : ∀ (W : World) (o : Obj), W.heap.size + 1 = (W.alloc o).heap.size := fun W o => by simp
 have HKEEP := Aside0.mk (show ∀ w', Below wR.heap.size wR w' → (Below wR.heap.size wR w' ∧ w'.cell? ⟨w.heap.size, 0, none⟩ = some (.string f.f0) ∧ w'.cell? ⟨w.heap.size, 1, none⟩ = some (.int .i64 f.f1) ∧ w'.cell? ⟨w.heap.size, 2, none⟩ = some (.slice A2 f.f2.length c2) ∧ w'.cell? ⟨b5, 0, none⟩ = some (.string g.f0) ∧ w'.cell? ⟨b5, 1, none⟩ = some (.int .i64 g.f1) ∧ w'.cell? ⟨b5, 2, none⟩ = some (.slice A6 g.f2.length c6) ∧ w'.cell? ⟨b6, 0, none⟩ = some (.string x.f0) ∧ w'.cell? ⟨b6, 1, none⟩ = some (.int .i64 x.f1) ∧ w'.cell? ⟨b6, 2, none⟩ = some (.slice A7 x.f2.length c7) ∧ w'.cell? ⟨b7, 0, none⟩ = some (.string y.f0) ∧ w'.cell? ⟨b7, 1, none⟩ = some (.int .i64 y.f1) ∧ w'.cell? ⟨b7, 2, none⟩ = some (.slice A8 y.f2.length c8)) from fun w' hb =>
  have a1 := blk_below hF hb
  have a2 := blk_below hP hb
  have a3 := blk_below hX hb
  have a4 := blk_below hY hb
  ⟨hb, blk_cell a1 0, blk_cell a1 1, blk_cell a1 2, blk_cell a2 0, blk_cell a2 1, blk_cell a2 2, blk_cell a3 0, blk_cell a3 1, blk_cell a3 2, blk_cell a4 0, blk_cell a4 1, blk_cell a4 2⟩)
 have K1 := Aside0.mk (fun W (hW : Below wR.heap.size wR W) => HW.out W (hBR.trans (hW.mono (below_size hBR))))
 have K2 := Aside0.mk (fun W (hW : Below wR.heap.size wR W) => HRW.out W A3 c3 (Kd.C_below q4 hW) q3 A6 c6 (Kd.C_below q2 hW) q1)
 have K3 := Aside0.mk (fun W A c A' c' (h1 : LW.length ≤ c) (h2 : Kd.C k43 W A LW.length LW) (h3 : RW.length ≤ c') (h4 : Kd.C k45 W A' RW.length RW) => rootcellarlaw7_same.calls k A c LW A' c' RW true W h2 h1 h4 h3 HS.out.1)
 have K4 := Aside0.mk (fun W (hW : Below wR.heap.size wR W) => HWO.out W (hBR.trans (hW.mono (below_size hBR))))
 have K5 := Aside0.mk (fun W (hW : Below wR.heap.size wR W) => HRO.out W A3 c3 (Kd.C_below q4 hW) q3)
 have K6 := Aside0.mk (fun W A c A' c' (h1 : LO.length ≤ c) (h2 : Kd.C k43 W A LO.length LO) (h3 : RO.length ≤ c') (h4 : Kd.C k45 W A' RO.length RO) => rootcellarlaw7_same.calls k A c LO A' c' RO true W h2 h1 h4 h3 HS.out.2.1)
 have K7 := Aside0.mk (fun W bx by_ (h1 : W.heap[bx]? = some (.cells #[.string x.f0, .int .i64 x.f1, .slice A7 x.f2.length c7] 43 (0, 0))) (h2 : W.heap[by_]? = some (.cells #[.string y.f0, .int .i64 y.f1, .slice A8 y.f2.length c8] 45 (0, 0))) (hW : Below wR.heap.size wR W) => show Calls Tryd.prog 14 #[.slice (some ⟨bx, 0, none⟩) 1 1, .slice (some ⟨by_, 0, none⟩) 1 1] W (fun e w' => e = .returned (.bool true) ∧ Below W.heap.size W w') from rootcellarlaw7_same.calls k (some ⟨bx, 0, none⟩) 1 [x] (some ⟨by_, 0, none⟩) 1 [y] true W (row_at (cs := [.string x.f0, .int .i64 x.f1, .slice A7 x.f2.length c7]) h1 ((k43).K_below hW HKX)) (Nat.le_refl _) (row_at (cs := [.string y.f0, .int .i64 y.f1, .slice A8 y.f2.length c8]) h2 ((k45).K_below hW HKY)) (Nat.le_refl _) HS.out.2.2)
 have HBR := Aside0.mk hBR
 clear hwR hB7 hF hP hX hY q1 q2 q3 q4 q5 q6 q7 q8 HKX HKY hBR H1 H2 H3 H4 H5 H6 H7 HW HWO HRW HRO HFB HB0 HB1 HB2 HB3 HB4 HB5 HB6 HB7 G3 G4 G5 G6 G7 F2 F3 F4 F5 F6 F7 P6 P7 X7 HY h1 h2 hf0 hf4 hf4_1 hf4_2 hx0 hx1 hx2 HS
 go_region_held3 (fun w' => Below wR.heap.size wR w' ∧ w'.cell? ⟨w.heap.size, 0, none⟩ = some (.string f.f0) ∧ w'.cell? ⟨w.heap.size, 1, none⟩ = some (.int .i64 f.f1) ∧ w'.cell? ⟨w.heap.size, 2, none⟩ = some (.slice A2 f.f2.length c2) ∧ w'.cell? ⟨b5, 0, none⟩ = some (.string g.f0) ∧ w'.cell? ⟨b5, 1, none⟩ = some (.int .i64 g.f1) ∧ w'.cell? ⟨b5, 2, none⟩ = some (.slice A6 g.f2.length c6) ∧ w'.cell? ⟨b6, 0, none⟩ = some (.string x.f0) ∧ w'.cell? ⟨b6, 1, none⟩ = some (.int .i64 x.f1) ∧ w'.cell? ⟨b6, 2, none⟩ = some (.slice A7 x.f2.length c7) ∧ w'.cell? ⟨b7, 0, none⟩ = some (.string y.f0) ∧ w'.cell? ⟨b7, 1, none⟩ = some (.int .i64 y.f1) ∧ w'.cell? ⟨b7, 2, none⟩ = some (.slice A8 y.f2.length c8)) (exact HKEEP.out _ (by repeat (with_reducible first | exact Below.refl _ _ | exact And.left (by assumption) | apply below_alloc | apply below_drew1 | refine below_step ?_ Y20.out | refine below_step ?_ Y21.out | refine below_step ?_ Y22.out | refine below_step ?_ Y23.out | refine below_step ?_ Y24.out | refine below_step ?_ Y25.out | refine below_step ?_ Y26.out))) (first
  | (go_at_call 21; go_loud (refine (K1.out _ ?hW).mono ?_; (case hW => repeat (with_reducible first | exact Below.refl _ _ | exact And.left (by assumption) | apply below_alloc | apply below_drew1 | refine below_step ?_ Y20.out | refine below_step ?_ Y21.out | refine below_step ?_ Y22.out | refine below_step ?_ Y23.out | refine below_step ?_ Y24.out | refine below_step ?_ Y25.out | refine below_step ?_ Y26.out)); rintro e w20 ⟨A20, c20, rfl, g20, g20', y20⟩; have Y20 := Aside0.mk y20; have G20 := Aside0.mk (And.intro g20 g20'); clear g20 g20' y20))
  | (go_at_call 22; go_loud (refine (K2.out _ ?hW).mono ?_; (case hW => repeat (with_reducible first | exact Below.refl _ _ | exact And.left (by assumption) | apply below_alloc | apply below_drew1 | refine below_step ?_ Y20.out | refine below_step ?_ Y21.out | refine below_step ?_ Y22.out | refine below_step ?_ Y23.out | refine below_step ?_ Y24.out | refine below_step ?_ Y25.out | refine below_step ?_ Y26.out)); rintro e w21 ⟨A21, c21, rfl, g21, g21', y21⟩; have Y21 := Aside0.mk y21; have G21 := Aside0.mk (And.intro g21 g21'); clear g21 g21' y21))
  | (go_at_call 23; go_loud (refine (K4.out _ ?hW).mono ?_; (case hW => repeat (with_reducible first | exact Below.refl _ _ | exact And.left (by assumption) | apply below_alloc | apply below_drew1 | refine below_step ?_ Y20.out | refine below_step ?_ Y21.out | refine below_step ?_ Y22.out | refine below_step ?_ Y23.out | refine below_step ?_ Y24.out | refine below_step ?_ Y25.out | refine below_step ?_ Y26.out)); rintro e w23 ⟨A23, c23, rfl, g23, g23', y23⟩; have Y23 := Aside0.mk y23; have G23 := Aside0.mk (And.intro g23 g23'); clear g23 g23' y23))
  | (go_at_call 24; go_loud (refine (K5.out _ ?hW).mono ?_; (case hW => repeat (with_reducible first | exact Below.refl _ _ | exact And.left (by assumption) | apply below_alloc | apply below_drew1 | refine below_step ?_ Y20.out | refine below_step ?_ Y21.out | refine below_step ?_ Y22.out | refine below_step ?_ Y23.out | refine below_step ?_ Y24.out | refine below_step ?_ Y25.out | refine below_step ?_ Y26.out)); rintro e w24 ⟨A24, c24, rfl, g24, g24', y24⟩; have Y24 := Aside0.mk y24; have G24 := Aside0.mk (And.intro g24 g24'); clear g24 g24' y24))
  | (go_at_call 14; with_reducible refine (K7.out _ _ _ ?ha ?hb ?hW).mono ?_; (case ha => repeat (with_reducible first | refine blk_drew ?_ | exact blk_nw _ _ _ (hsz _ _) | exact blk_nw _ _ _ rfl | refine blk_alloc ?_ _)); (case hb => repeat (with_reducible first | refine blk_drew ?_ | exact blk_nw _ _ _ (hsz _ _) | exact blk_nw _ _ _ rfl | refine blk_alloc ?_ _)); (case hW => repeat (with_reducible first | exact Below.refl _ _ | exact And.left (by assumption) | apply below_alloc | apply below_drew1 | refine below_step ?_ Y20.out | refine below_step ?_ Y21.out | refine below_step ?_ Y22.out | refine below_step ?_ Y23.out | refine below_step ?_ Y24.out | refine below_step ?_ Y25.out | refine below_step ?_ Y26.out)); rintro e w26 ⟨rfl, y26⟩; have Y26 := Aside0.mk y26; clear y26)
  | (go_at_call 14; with_reducible refine (K6.out _ _ _ _ _ G23.out.1 (Kd.C_below G23.out.2 ?hb) G24.out.1 (Kd.C_below G24.out.2 ?ha)).mono ?_; (case ha => repeat (with_reducible first | exact Below.refl _ _ | exact And.left (by assumption) | apply below_alloc | apply below_drew1 | refine below_step ?_ Y20.out | refine below_step ?_ Y21.out | refine below_step ?_ Y22.out | refine below_step ?_ Y23.out | refine below_step ?_ Y24.out | refine below_step ?_ Y25.out | refine below_step ?_ Y26.out)); (case hb => repeat (with_reducible first | exact Below.refl _ _ | exact And.left (by assumption) | apply below_alloc | apply below_drew1 | refine below_step ?_ Y20.out | refine below_step ?_ Y21.out | refine below_step ?_ Y22.out | refine below_step ?_ Y23.out | refine below_step ?_ Y24.out | refine below_step ?_ Y25.out | refine below_step ?_ Y26.out)); rintro e w25 ⟨rfl, y25⟩; have Y25 := Aside0.mk y25; clear y25)
  | (go_at_call 14; go_loud (with_reducible refine (K3.out _ _ _ _ _ G20.out.1 (Kd.C_below G20.out.2 ?hb) G21.out.1 (Kd.C_below G21.out.2 ?ha)).mono ?_; (case ha => repeat (with_reducible first | exact Below.refl _ _ | exact And.left (by assumption) | apply below_alloc | apply below_drew1 | refine below_step ?_ Y20.out | refine below_step ?_ Y21.out | refine below_step ?_ Y22.out | refine below_step ?_ Y23.out | refine below_step ?_ Y24.out | refine below_step ?_ Y25.out | refine below_step ?_ Y26.out)); (case hb => repeat (with_reducible first | exact Below.refl _ _ | exact And.left (by assumption) | apply below_alloc | apply below_drew1 | refine below_step ?_ Y20.out | refine below_step ?_ Y21.out | refine below_step ?_ Y22.out | refine below_step ?_ Y23.out | refine below_step ?_ Y24.out | refine below_step ?_ Y25.out | refine below_step ?_ Y26.out)); rintro e w22 ⟨rfl, y22⟩; have Y22 := Aside0.mk y22; clear y22)))
 all_goals
  go_wp2
  go_ret
  exact ⟨rfl, HBR.out.trans (Below.mono (by repeat (with_reducible first | exact Below.refl _ _ | exact And.left (by assumption) | apply below_alloc | apply below_drew1 | refine below_step ?_ Y20.out | refine below_step ?_ Y21.out | refine below_step ?_ Y22.out | refine below_step ?_ Y23.out | refine below_step ?_ Y24.out | refine below_step ?_ Y25.out | refine below_step ?_ Y26.out)) (below_size HBR.out))⟩
/-- What the walk asks. -/
def DirFilesOk (k : Nat) (l : List S43) (f : S43) (name : ByteArray) (r : Bool) : Prop := r = true ∧ rootcellarlaw7_shown.f k = some true ∧
 (filesEarly k l f name ∨ (∃ KR, rootcellarlaw7_small.f k l = some true ∧ f.f0.size ≤ 150 ∧ name.size ≤ 150 ∧ rootcellarlaw7_as.f k l = some KR ∧ rootcellarref7_Is.f k KR = some false) ∨ ∃ g KR x y o RF RO, FilesAll k l f name g KR x y o RF RO)
theorem DirFiles_calls (k : Nat) (A0 : Option Addr) (c0 : Nat) (l0 : List S43) (f : S43) (A1 : Option Addr) (c1 : Nat) (name : ByteArray) (r : Bool) (w : World) (hr0 : Kd.C k43 w A0 l0.length l0) (hc0 : l0.length ≤ c0) (hK : (k43).K w f (fileC3 f A1 c1)) (ht : TabsW w) (h : DirFilesOk k l0 f name r) :
  Calls Tryd.prog 6 #[.slice A0 l0.length c0, .agg #[.string f.f0, .int .i64 f.f1, .slice A1 f.f2.length c1], .string name] w fun e w' => e = .returned (.bool r) ∧ Below w.heap.size w w' := by
 obtain ⟨rfl, e1, he | ⟨KR, e2, z1, z2, e3, e4⟩ | ⟨g, KR, x, y, o, RF, RO, he⟩⟩ := h
 ·exact DirFiles_early k A0 c0 l0 f A1 c1 name w hr0 hc0 hK ht e1 he
 ·exact DirFiles_not k A0 c0 l0 f A1 c1 name w hr0 hc0 hK ht KR e1 e2 z1 z2 e3 e4
 ·exact DirFiles_full k A0 c0 l0 f A1 c1 name w hr0 hc0 hK ht g KR x y o RF RO e1 he
end Go.Proofs.YtppbcankhkgpfaaDoor.PDq
