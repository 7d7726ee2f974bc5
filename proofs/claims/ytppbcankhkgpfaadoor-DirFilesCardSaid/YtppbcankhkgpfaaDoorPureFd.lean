/-
  slices.DeleteFunc on a row of one's own; dir.Without.
-/
import Derived.Test.YtppbcankhkgpfaaDoorPDqx0
import Derived.Outline
import Derived.Lib.SliceRun
import Derived.Lib.AppendZerosOnto
import Derived.Lib.Overlaps
import Derived.Laws.Externs
import Derived.Laws.IdiomCopy
import Derived.Laws.NewBlocks
import Derived.Deep.AppendSrc
import Derived.Shelf.RegionOpenPlain
--compressed
namespace Go.Proofs.YtppbcankhkgpfaaDoor.PDq
open Go.RowKit Go.Proofs.YtppbcankhkgpfaaDoorW.PrintWords Go.Proofs.YtppbcankhkgpfaaDoorW.PrintLast Go.Proofs.YtppbcankhkgpfaaDoorW.PrintMore
attribute [local go_sem] max2_int min2_int max_two min_two max_three min_three max_four min_four
set_option linter.unusedVariables false
set_option linter.unusedSimpArgs false
/-- The place of the first element that meets p; -1: none does. -/
def idxP (p : S43 → Bool) (l : List S43) : Int := match l.findIdx? p with | some i => (i : Int) | none => -1
theorem idxP_hit (p : S43 → Bool) (l : List S43) (i : Nat) (h : i < l.length) (hi : p l[i] = true) (ha : ∀ j (hj : j < l.length), j < i → p l[j] = false) : idxP p l = (i : Int) := by
 have : l.findIdx? p = some i := by
  rw [List.findIdx?_eq_some_iff_getElem]
  exact ⟨h, hi, fun j hj => by simp [ha j (by omega) hj]⟩
 unfold idxP
 rw [this]
theorem idxP_miss (p : S43 → Bool) (l : List S43) (ha : ∀ j (hj : j < l.length), p l[j] = false) : idxP p l = -1 := by
 have : l.findIdx? p = none := by
  rw [List.findIdx?_eq_none_iff]
  intro x hx
  obtain ⟨j, hj, rfl⟩ := List.getElem_of_mem hx
  exact ha j hj
 unfold idxP
 rw [this]
/-- What is asked of a predicate over files: it answers p, and leaves all that lay as it was. -/
def PB (g gb : Nat) (p : S43 → Bool) (w : World) : Prop := ∀ (W : World) (x : S43) (A : Option Addr) (c : Nat), Below w.heap.size w W →
 Calls Tryd.prog g #[.agg #[.string x.f0, .int .i64 x.f1, .slice A x.f2.length c], .pointer (some ⟨gb, 0, none⟩)] W fun e w' => e = .returned (.bool (p x)) ∧ Below W.heap.size W w'
set_option maxHeartbeats 2000000 in
set_option maxRecDepth 100000 in
theorem find1.calls (name : ByteArray) (gb : Nat) (w : World) (hn : w.cell? ⟨gb, 0, none⟩ = some (.string name)) : PB 49 gb (fun x => x.f0.toList == name.toList) w := by
 intro W x A c hb
 have hlt : gb < w.heap.size := World.block_lt_of_cell? w _ hn
 have hc : W.cell? ⟨gb, 0, none⟩ = some (.string name) := (hb.cell hlt).trans hn
 have hlt2 : gb < W.heap.size := World.block_lt_of_cell? W _ hc
 clear hn
 have hu := Tryd.underlying43
 go_enter Tryd.func49, Tryd.ntmps49
 go_wp2
 go_ret
 exact ⟨rfl, Below.alloc (Below.refl _ _) (Nat.le_refl _) _⟩
set_option maxHeartbeats 2000000 in
set_option maxRecDepth 100000 in
theorem without1.calls (name : ByteArray) (gb : Nat) (w : World) (hn : w.cell? ⟨gb, 0, none⟩ = some (.string name)) : PB 54 gb (fun x => x.f0.toList == name.toList) w := by
 intro W x A c hb
 have hlt : gb < w.heap.size := World.block_lt_of_cell? w _ hn
 have hc : W.cell? ⟨gb, 0, none⟩ = some (.string name) := (hb.cell hlt).trans hn
 have hlt2 : gb < W.heap.size := World.block_lt_of_cell? W _ hc
 clear hn
 have hu := Tryd.underlying43
 go_enter Tryd.func54, Tryd.ntmps54
 go_wp2
 go_ret
 exact ⟨rfl, Below.alloc (Below.refl _ _) (Nat.le_refl _) _⟩
set_option maxHeartbeats 2000000 in
set_option maxRecDepth 100000 in
theorem indexF.calls (A : Option Addr) (c : Nat) (l : List S43) (gb : Nat) (p : S43 → Bool) (w : World) (hr : Kd.C k43 w A l.length l) (hp : PB 49 gb p w) :
  Calls Tryd.prog 48 #[.slice A l.length c, .func (.func 49) #[] #[.pointer (some ⟨gb, 0, none⟩)]] w fun e w' => e = .returned (.int .i64 (idxP p l)) ∧ Below w.heap.size w w' := by
 have HR := Aside0.mk hr
 have HP := Aside0.mk hp
 have hbig : l.length ≤ 9223372036854775807 := hr.2.1
 clear hr hp
 have hu := Tryd.underlying43
 go_enter Tryd.func48, Tryd.ntmps48
 go_wp2
 go_loopg [5, 8] l.length (fun gg _ s8 wr => ∃ i : Nat, i ≤ l.length ∧ l.length - i ≤ gg ∧ s8 = .int .i64 i ∧ Aside0 (Below w.heap.size w wr) ∧ Aside0 (∀ j (hj : j < l.length), j < i → p l[j] = false))
 case atStart => exact ⟨0, Nat.zero_le _, by omega, rfl, ⟨Below.refl _ _⟩, ⟨fun j _ hj => absurd hj (Nat.not_lt_zero _)⟩⟩
 case round =>
  obtain ⟨i, hi, hg, rfl, HB, HA⟩ := hrel
  by_cases hlt : i < l.length
  ·have hltz : decide ((i : Int) < (l.length : Int)) = true := decide_eq_true (by omega)
   have hi0 : (0 : Int) ≤ (i : Int) := by omega
   have hi1 : (i : Int) < (l.length : Int) := by omega
   obtain ⟨ad, A2, c2, rfl, hx0, hx1, hx2, hl2, hC⟩ := at_T43 HR.out (i : Int) hi0 hi1
   have hrd : rd_T43 l (i : Int) = l[i] := by simp [rd_T43, List.getD_eq_getElem?_getD, hlt]
   rw [hrd] at hx0 hx1 hx2 hl2 hC
   have hbb := World.block_lt_of_cell? w _ hx0
   replace hx0 := (HB.out.cell hbb).trans hx0
   replace hx1 := (HB.out.cell (World.block_lt_of_cell? w _ hx1)).trans hx1
   replace hx2 := (HB.out.cell (World.block_lt_of_cell? w _ hx2)).trans hx2
   simp only [Int.toNat_natCast] at hx0 hx1 hx2
   have hcall := HP.out wr l[i] A2 c2 HB.out
   generalize hy : l[i] = y at hx0 hx1 hx2 hcall
   have HY := Aside0.mk hy
   have HCALL := Aside0.mk hcall
   clear hy hrd hC hl2 hcall
   cases hq : p y with
   | true =>
    rw [hq] at HCALL
    go_wp2_with (go_at_call 49; refine HCALL.out.mono ?_; rintro e w' ⟨rfl, hb'⟩)
    go_ret
    refine ⟨?_, HB.out.trans (hb'.mono HB.out.size)⟩
    rw [idxP_hit p l i hlt (by rw [HY.out]; exact hq) HA.out]
    rfl
   | false =>
    rw [hq] at HCALL
    go_wp2_with (go_at_call 49; refine HCALL.out.mono ?_; rintro e w' ⟨rfl, hb'⟩)
    go_roundg (l.length - (i + 1))
    case measure => omega
    case rel =>
     refine ⟨i + 1, by omega, by omega, by go_num, ⟨HB.out.trans (hb'.mono HB.out.size)⟩, ⟨fun j hj hji => ?_⟩⟩
     by_cases e : j = i
     ·subst e
      rw [HY.out]; exact hq
     ·exact HA.out j hj (by omega)
  ·have hltz : decide ((i : Int) < (l.length : Int)) = false := decide_eq_false (by omega)
   go_wp2
   go_ret
   refine ⟨?_, HB.out⟩
   rw [idxP_miss p l fun j hj => HA.out j hj (by omega)]
   rfl
set_option maxHeartbeats 2000000 in
set_option maxRecDepth 100000 in
theorem indexG.calls (A : Option Addr) (c : Nat) (l : List S43) (gb : Nat) (p : S43 → Bool) (w : World) (hr : Kd.C k43 w A l.length l) (hp : PB 54 gb p w) :
  Calls Tryd.prog 48 #[.slice A l.length c, .func (.func 54) #[] #[.pointer (some ⟨gb, 0, none⟩)]] w fun e w' => e = .returned (.int .i64 (idxP p l)) ∧ Below w.heap.size w w' := by
 have HR := Aside0.mk hr
 have HP := Aside0.mk hp
 have hbig : l.length ≤ 9223372036854775807 := hr.2.1
 clear hr hp
 have hu := Tryd.underlying43
 go_enter Tryd.func48, Tryd.ntmps48
 go_wp2
 go_loopg [5, 8] l.length (fun gg _ s8 wr => ∃ i : Nat, i ≤ l.length ∧ l.length - i ≤ gg ∧ s8 = .int .i64 i ∧ Aside0 (Below w.heap.size w wr) ∧ Aside0 (∀ j (hj : j < l.length), j < i → p l[j] = false))
 case atStart => exact ⟨0, Nat.zero_le _, by omega, rfl, ⟨Below.refl _ _⟩, ⟨fun j _ hj => absurd hj (Nat.not_lt_zero _)⟩⟩
 case round =>
  obtain ⟨i, hi, hg, rfl, HB, HA⟩ := hrel
  by_cases hlt : i < l.length
  ·have hltz : decide ((i : Int) < (l.length : Int)) = true := decide_eq_true (by omega)
   have hi0 : (0 : Int) ≤ (i : Int) := by omega
   have hi1 : (i : Int) < (l.length : Int) := by omega
   obtain ⟨ad, A2, c2, rfl, hx0, hx1, hx2, hl2, hC⟩ := at_T43 HR.out (i : Int) hi0 hi1
   have hrd : rd_T43 l (i : Int) = l[i] := by simp [rd_T43, List.getD_eq_getElem?_getD, hlt]
   rw [hrd] at hx0 hx1 hx2 hl2 hC
   have hbb := World.block_lt_of_cell? w _ hx0
   replace hx0 := (HB.out.cell hbb).trans hx0
   replace hx1 := (HB.out.cell (World.block_lt_of_cell? w _ hx1)).trans hx1
   replace hx2 := (HB.out.cell (World.block_lt_of_cell? w _ hx2)).trans hx2
   simp only [Int.toNat_natCast] at hx0 hx1 hx2
   have hcall := HP.out wr l[i] A2 c2 HB.out
   generalize hy : l[i] = y at hx0 hx1 hx2 hcall
   have HY := Aside0.mk hy
   have HCALL := Aside0.mk hcall
   clear hy hrd hC hl2 hcall
   cases hq : p y with
   | true =>
    rw [hq] at HCALL
    go_wp2_with (go_at_call 54; refine HCALL.out.mono ?_; rintro e w' ⟨rfl, hb'⟩)
    go_ret
    refine ⟨?_, HB.out.trans (hb'.mono HB.out.size)⟩
    rw [idxP_hit p l i hlt (by rw [HY.out]; exact hq) HA.out]
    rfl
   | false =>
    rw [hq] at HCALL
    go_wp2_with (go_at_call 54; refine HCALL.out.mono ?_; rintro e w' ⟨rfl, hb'⟩)
    go_roundg (l.length - (i + 1))
    case measure => omega
    case rel =>
     refine ⟨i + 1, by omega, by omega, by go_num, ⟨HB.out.trans (hb'.mono HB.out.size)⟩, ⟨fun j hj hji => ?_⟩⟩
     by_cases e : j = i
     ·subst e
      rw [HY.out]; exact hq
     ·exact HA.out j hj (by omega)
  ·have hltz : decide ((i : Int) < (l.length : Int)) = false := decide_eq_false (by omega)
   go_wp2
   go_ret
   refine ⟨?_, HB.out⟩
   rw [idxP_miss p l fun j hj => HA.out j hj (by omega)]
   rfl
end Go.Proofs.YtppbcankhkgpfaaDoor.PDq
namespace Go.Proofs.YtppbcankhkgpfaaDoor.PDq
open Go.RowKit Go.Proofs.YtppbcankhkgpfaaDoorW.PrintWords Go.Proofs.YtppbcankhkgpfaaDoorW.PrintLast Go.Proofs.YtppbcankhkgpfaaDoorW.PrintMore
attribute [local go_sem] max2_int min2_int max_two min_two max_three min_three max_four min_four
set_option linter.unusedVariables false
set_option linter.unusedSimpArgs false
/-- A row's elements, each beside its cells. -/
theorem pairs_inner {α : Type} {R : α → List Value → Prop} {sz : Nat} : ∀ (l : List α) (inner : List Value), Reps R sz l inner → ∃ ps : List (α × List Value), ps.map (·.1) = l ∧ ps.flatMap (·.2) = inner ∧ ∀ p ∈ ps, R p.1 p.2 ∧ p.2.length = sz
 | [], inner, h => ⟨[], rfl, by have := h.1; simp at this; subst this; rfl, fun _ h => nomatch h⟩
 | x :: t, inner, h => by
  have hl : inner.length = (t.length + 1) * sz := h.1
  rw [Nat.add_mul, Nat.one_mul] at hl
  have h2 : Reps R sz t (inner.drop sz) := ⟨by rw [List.length_drop]; omega, fun j p hj => by
   have := h.2 (j + 1) p (by simpa using hj)
   rwa [Nat.add_mul, Nat.one_mul, Nat.add_comm, ← List.drop_drop] at this⟩
  obtain ⟨ps, e1, e2, e3⟩ := pairs_inner t _ h2
  have h0 := h.2 0 x rfl
  rw [Nat.zero_mul, List.drop_zero] at h0
  refine ⟨(x, inner.take sz) :: ps, by rw [List.map_cons, e1], ?_, fun p hp => ?_⟩
  ·rw [List.flatMap_cons, e2]; exact List.take_append_drop _ _
  ·rcases List.mem_cons.1 hp with rfl | hp
   ·exact ⟨h0, by rw [List.length_take]; omega⟩
   ·exact e3 p hp
theorem reps_pairs {α : Type} {R : α → List Value → Prop} {sz : Nat} : ∀ ps : List (α × List Value), (∀ p ∈ ps, R p.1 p.2 ∧ p.2.length = sz) → Reps R sz (ps.map (·.1)) (ps.flatMap (·.2))
 | [], _ => Reps.none _ _
 | p :: t, h => Reps.front (h p (List.mem_cons_self ..)).1 (h p (List.mem_cons_self ..)).2 (reps_pairs t fun q hq => h q (List.mem_cons_of_mem _ hq)) rfl
theorem flat_len {α : Type} {sz : Nat} : ∀ ps : List (α × List Value), (∀ p ∈ ps, p.2.length = sz) → (ps.flatMap (·.2)).length = ps.length * sz
 | [], _ => by simp
 | p :: t, h => by
  rw [List.flatMap_cons, List.length_append, h p (List.mem_cons_self ..), flat_len t fun q hq => h q (List.mem_cons_of_mem _ hq), List.length_cons, Nat.add_mul, Nat.one_mul, Nat.add_comm]
theorem flat_cut {α : Type} {sz : Nat} (ps : List (α × List Value)) (h : ∀ p ∈ ps, p.2.length = sz) (i : Nat) (hi : i ≤ ps.length) : (ps.flatMap (·.2)).take (i * sz) = (ps.take i).flatMap (·.2) ∧ (ps.flatMap (·.2)).drop (i * sz) = (ps.drop i).flatMap (·.2) := by
 have h1 : ((ps.take i).flatMap (·.2)).length = i * sz := by rw [flat_len _ fun p hp => h p (List.mem_of_mem_take hp), List.length_take, Nat.min_eq_left hi]
 have h2 : ps.flatMap (·.2) = (ps.take i).flatMap (·.2) ++ (ps.drop i).flatMap (·.2) := by rw [← List.flatMap_append, List.take_append_drop]
 rw [h2]
 exact ⟨by rw [← h1, List.take_left], by rw [← h1, List.drop_left]⟩
/-- Cells written one behind the other, on a block that is told as a list. -/
theorem blk_setCells {e : TypeId} {fz : Nat × Nat} (g : Nat) : ∀ (vs : List Value) (o : Nat) (w : World) (L : List Value), w.heap[g]? = some (.cells L.toArray e fz) → o + vs.length ≤ L.length → (w.setCells g o vs).heap[g]? = some (.cells (L.take o ++ vs ++ L.drop (o + vs.length)).toArray e fz)
 | [], o, w, L, h, _ => by simpa [World.setCells] using h
 | v :: r, o, w, L, h, hl => by
  rw [List.length_cons] at hl
  have hw : (w.setCell ⟨g, o, none⟩ v).heap[g]? = some (.cells (L.set o v).toArray e fz) := by simp [World.setCell, Array.getElem?_modify, h]
  show ((w.setCell ⟨g, o, none⟩ v).setCells g (o + 1) r).heap[g]? = _
  rw [blk_setCells g r (o + 1) _ _ hw (by rw [List.length_set]; omega)]
  congr 3
  have h1 : (L.set o v).take (o + 1) = L.take o ++ [v] := by
   rw [List.take_succ_eq_append_getElem (by rw [List.length_set]; omega), List.take_set_of_le (Nat.le_refl _)]
   simp
  rw [h1, List.drop_set_of_lt (by omega), List.length_cons, show o + 1 + r.length = o + (r.length + 1) by omega]
  simp
theorem below_sets {B g : Nat} {a : World} (hg : B ≤ g) : ∀ (vs : List Value) (o : Nat) {w : World}, Below B a w → Below B a (w.setCells g o vs)
 | [], _, _, h => h
 | v :: r, o, _, h => below_sets hg r (o + 1) (h.setCell (p := ⟨g, o, none⟩) hg v)
abbrev Pr := S43 × List Value
/-- A row of one's own: its elements beside their cells; what the cells lead to lies in w0. -/
def OwnP (w0 w : World) (v : Value) (ps : List Pr) : Prop := w.ownsRow w0.heap.size 43 3 v ps.length (ps.flatMap (·.2)) ∧ ∀ p ∈ ps, (k43).K w0 p.1 p.2
theorem OwnP.len {w0 w : World} {v : Value} {ps : List Pr} (h : OwnP w0 w v ps) : ∀ p ∈ ps, p.2.length = 3 := fun p hp => (k43).K_len (h.2 p hp)
theorem OwnP.reads {w0 w : World} {v : Value} {ps : List Pr} (h : OwnP w0 w v ps) (hb : Below w0.heap.size w0 w) : ∃ A c, v = .slice A (ps.map (·.1)).length c ∧ (ps.map (·.1)).length ≤ c ∧ Kd.C k43 w A (ps.map (·.1)).length (ps.map (·.1)) := by
 have hr : Reps ((k43).K w) 3 (ps.map (·.1)) (ps.flatMap (·.2)) := reps_pairs ps fun p hp => ⟨(k43).K_below hb (h.2 p hp), (k43).K_len (h.2 p hp)⟩
 obtain ⟨A, c, rfl, hrow⟩ := own_reads_row h.1 hr (List.length_map ..)
 have hl := own_le h.1
 exact ⟨A, c, by rw [List.length_map], by rw [List.length_map]; exact hl, by rw [List.length_map]; exact hrow⟩
set_option maxHeartbeats 2000000 in
set_option maxRecDepth 100000 in
theorem cloneF.calls (A : Option Addr) (c : Nat) (l : List S43) (w0 w : World) (hr : Kd.C k43 w0 A l.length l) (hb : Below w0.heap.size w0 w) (hl : l.length ≤ 1000000) :
  Calls Tryd.prog 51 #[.slice A l.length c] w fun e w' => ∃ v ps, e = .returned v ∧ ps.map (·.1) = l ∧ OwnP w0 w' v ps ∧ Below w.heap.size w w' := by
 have q22 : ∀ (w : World) (a : Option Addr) (n c n' c' : Nat), (binOp .eql 24 (.slice a n c) (.slice none n' c')).run Tryd.prog w = .ok (.bool a.isNone) w := fun w a n c n' c' => Lib.run_eql_slice_nil w _ _ a n c n' c' Tryd.underlying24
 have HR := Aside0.mk hr
 have HB := Aside0.mk hb
 clear hr hb
 cases A with
 | none =>
  have h0 : l = [] := by
   rcases Nat.eq_zero_or_pos l.length with h | h
   ·exact List.eq_nil_of_length_eq_zero h
   ·obtain ⟨ad, he, _⟩ := HR.out.2.2 h
    cases he
  subst h0
  go_enter Tryd.func51, Tryd.ntmps51
  go_wp2
  go_ret
  exact ⟨_, [], rfl, rfl, ⟨⟨rfl, .inl ⟨rfl, rfl⟩⟩, fun _ h => nomatch h⟩, Below.refl _ _⟩
 | some ad =>
  obtain ⟨inner, hin, hcell⟩ := ReadsRow.inner_ HR.out
  obtain ⟨ps, e1, e2, e3⟩ := pairs_inner l inner hin
  obtain ⟨i0, hi, hz0, hz1, hz2⟩ := info_parts info43
  have hlen : inner.length = l.length * 3 := hin.1
  have h1 : ∀ u ∈ inner, u.oneCell' = true := fun u hu => by
   rw [← e2, List.mem_flatMap] at hu
   obtain ⟨p, hp, hu⟩ := hu
   exact (k43).K_one (e3 p hp).1 u hu
  have HC := Aside0.mk (show ∀ j u, inner[j]? = some u → w.cell? (ad.add j) = some u from fun j u hj => (HB.out.cell (World.block_lt_of_cell? w0 _ (hcell j u hj))).trans (hcell j u hj))
  have H1 := Aside0.mk h1
  have HL := Aside0.mk hlen
  have HP := Aside0.mk (show ps.map (·.1) = l ∧ ps.flatMap (·.2) = inner ∧ ∀ p ∈ ps, (k43).K w0 p.1 p.2 from ⟨e1, e2, fun p hp => (e3 p hp).1⟩)
  clear hin hcell e1 e2 e3 h1 hlen
  go_enter Tryd.func51, Tryd.ntmps51
  go_wp2_with (at_builtin; refine wpList_append_own _ rfl (.tmp 5) (.tmp 6) 24 rfl w0.heap.size 43 i0 _ 3 _ Tryd.underlying24 hi hz0 hz1 hz2 rfl (by decide) _ 0 [] rfl (World.ownsRow_made w #[] 0 (below_size HB.out) (Nat.zero_le _) (by simp)) ad l.length c inner rfl HL.out ?qc2 H1.out ?qc4 ?qc5 ?qc6 ?_)
  case qc2 => exact fun j u hj => Lib.cell?_alloc_some _ (HC.out j u hj)
  case qc4 => unfold maxLen; omega
  case qc5 => omega
  case qc6 => have := below_size HB.out; simp; omega
  intro v' w1 hown hgrow hnil
  go_wp2
  go_ret
  obtain ⟨e1, e2, e3⟩ := HP.out
  refine ⟨v', ps, rfl, e1, ⟨?_, e3⟩, ((Below.refl _ w).alloc (Nat.le_refl _) _).grown hgrow (by simp) (by intro k hk; simp [Value.ownBlock] at hk; omega)⟩
  have hpl : ps.length = l.length := by rw [← e1, List.length_map]
  rw [e2, hpl]
  simpa using hown
/-- What a row of one's own is: nil, or a block of its own. -/
theorem OwnP.block {w0 w : World} {v : Value} {ps : List Pr} (h : OwnP w0 w v ps) : (v = .slice none 0 0 ∧ ps = []) ∨ ∃ g cap L, v = .slice (some ⟨g, 0, none⟩) ps.length cap ∧ w0.heap.size ≤ g ∧ w.heap[g]? = some (.cells (L : List Value).toArray 43 (0, 0)) ∧ ps.length ≤ cap ∧ cap ≤ maxLen ∧ L.length = cap * 3 ∧ L.take (ps.length * 3) = ps.flatMap (·.2) := by
 obtain ⟨⟨h1, h2⟩, h3⟩ := h
 rcases h2 with ⟨rfl, h0⟩ | ⟨g, cap, cur, rfl, hg, hh, hn, hc, hs, ht⟩
 ·exact .inl ⟨rfl, List.eq_nil_of_length_eq_zero h0⟩
 ·exact .inr ⟨g, cap, cur.toList, rfl, hg, by simpa using hh, hn, hc, by simpa using hs, ht⟩
theorem OwnP.mk' {w0 w : World} {g cap n : Nat} {L : List Value} {ps : List Pr} (hg : w0.heap.size ≤ g) (hh : w.heap[g]? = some (.cells L.toArray 43 (0, 0))) (hn : n = ps.length) (hc : n ≤ cap) (hm : cap ≤ maxLen) (hl : L.length = cap * 3) (ht : L.take (n * 3) = ps.flatMap (·.2)) (hK : ∀ p ∈ ps, (k43).K w0 p.1 p.2) : OwnP w0 w (.slice (some ⟨g, 0, none⟩) n cap) ps := by
 subst hn
 exact ⟨⟨flat_len ps fun p hp => (k43).K_len (hK p hp), .inr ⟨g, cap, L.toArray, rfl, hg, hh, hc, hm, by simpa using hl, by simpa using ht⟩⟩, hK⟩
theorem flat_set (ps : List Pr) (h : ∀ p ∈ ps, p.2.length = 3) (i : Nat) (hi : i < ps.length) (q : Pr) (hq : q.2.length = 3) (L : List Value) (n : Nat) (hn : n = ps.length) (hL : L.take (n * 3) = ps.flatMap (·.2)) (hl : n * 3 ≤ L.length) : (L.take (i * 3) ++ q.2 ++ L.drop (i * 3 + q.2.length)).take (n * 3) = (ps.set i q).flatMap (·.2) := by
 subst hn
 have e1 : L.take (i * 3) = (ps.take i).flatMap (·.2) := by
  rw [← (flat_cut ps h i (by omega)).1, ← hL, List.take_take, Nat.min_eq_left (by omega)]
 have e2 : (L.drop (i * 3 + 3)).take (ps.length * 3 - (i * 3 + 3)) = (ps.drop (i + 1)).flatMap (·.2) := by
  rw [← (flat_cut ps h (i + 1) (by omega)).2, ← hL, List.drop_take, Nat.add_mul, Nat.one_mul]
 have e3 : (L.take (i * 3)).length = i * 3 := by rw [List.length_take]; omega
 rw [hq, List.append_assoc, List.take_append, e3, List.take_of_length_le (by omega), List.take_append, hq, List.take_of_length_le (l := q.2) (by omega), show ps.length * 3 - i * 3 - 3 = ps.length * 3 - (i * 3 + 3) by omega, e2, e1, List.set_eq_take_append_cons_drop, if_pos hi, List.flatMap_append, List.flatMap_cons]
theorem flat_ins (ps : List Pr) (h : ∀ p ∈ ps, p.2.length = 3) (i : Nat) (hi : i ≤ ps.length) (q : Pr) : (ps.take i ++ q :: ps.drop i).flatMap (·.2) = (ps.flatMap (·.2)).take (i * 3) ++ (q.2 ++ (ps.flatMap (·.2)).drop (i * 3)) := by
 rw [(flat_cut ps h i hi).1, (flat_cut ps h i hi).2, List.flatMap_append, List.flatMap_cons]
end Go.Proofs.YtppbcankhkgpfaaDoor.PDq
namespace Go.Proofs.YtppbcankhkgpfaaDoor.PDq
open Go.RowKit Go.Proofs.YtppbcankhkgpfaaDoorW.PrintWords Go.Proofs.YtppbcankhkgpfaaDoorW.PrintLast Go.Proofs.YtppbcankhkgpfaaDoorW.PrintMore
attribute [local go_sem] max2_int min2_int max_two min_two max_three min_three max_four min_four
set_option linter.unusedVariables false
set_option linter.unusedSimpArgs false
theorem run_copy_k {P : Program} (w : World) (dT sT ty elem : TypeId) (k b o dLen dCap : Nat) (a : Addr) (sLen sCap : Nat) (cs : List Value)
  (hu : P.underlying dT = some (.slice elem)) (hs : (P.info? elem).map (·.size) = some k) (hn : cs.length = Nat.min sLen dLen * k)
  (hsrc : ∀ j v, cs[j]? = some v → w.cell? (a.add j) = some v) (hc : ∀ j, j < cs.length → (w.cell? ⟨b, o + j, none⟩).isSome = true) (hf : ∀ j, j < cs.length → w.frozen? ⟨b, o + j, none⟩ = false) (h1 : ∀ v ∈ cs, v.oneCell' = true) :
  (Builtin.copy_ #[dT, sT] ty #[.slice (some ⟨b, o, none⟩) dLen dCap, .slice (some a) sLen sCap]).run P w = .ok (goInt (Nat.min sLen dLen)) (w.setCells b o cs) := by
 have hl := run_loadCells_list (P := P) w a cs hsrc
 have hst := run_storeCells_cells (P := P) b o cs 0 w (by simpa using hc) (by simpa using hf) h1
 cases hq : P.info? elem with
 | none => simp [hq] at hs
 | some i =>
  have hi : i.size = k := by simpa [hq] using hs
  rw [hn] at hl
  simp [Builtin.copy_, run_underlying hu, Builtin.lenOf, Builtin.firstCells, sizeOf, typeInfo, hq, hi, hl, hst]
theorem wp_copy_runK {P : Program} (w : World) {o : Oper} {a : Act} {K : Act → World → Prop} {Q : Exit → Act → World → Prop} (d s : Operand) (t t' : TypeId)
  (ho : o.op = .call { callee := .builtin .copy, args := #[d, s], argTypes := #[t, t'] }) (v u : Value) (hd : a.eval d = v) (hs : a.eval s = u) {v' : Value} {w' : World}
  (hr : (Builtin.copy_ #[t, t'] o.type #[v, u]).run P w = .ok v' w') (h : K (a.put o.dst v') w') : o.wp P a w K Q := by
 unfold Oper.wp execOp
 simp only [ho, resolve, invoke, builtin, Sem.run_bind, Sem.run_pure, Result.andThen_ok, List.map_toArray, List.map_cons, List.map_nil, hd, hs, hr]
 exact h
theorem wpList_copy_runK {P : Program} (w : World) {ops : Array Oper} {rest : List Oper} {o : Oper} {a : Act} {Q : Exit → Act → World → Prop} (hgd : o.guard = none) (d s : Operand) (t t' : TypeId)
  (ho : o.op = .call { callee := .builtin .copy, args := #[d, s], argTypes := #[t, t'] }) (v u : Value) (hd : a.eval d = v) (hs : a.eval s = u) {v' : Value} {w' : World}
  (hr : (Builtin.copy_ #[t, t'] o.type #[v, u]).run P w = .ok v' w') (h : wpList P ops Q rest (a.put o.dst v') w') : wpList P ops Q (o :: rest) a w :=
 wpList_plain hgd fun _ hK => wp_copy_runK w d s t t' ho v u hd hs hr (hK _ _ h)
theorem step_copy_runK {P : Program} {ops : Array Oper} {o : Oper} {a : Act} {w : World} {K : Act → World → Prop} {Q : Exit → Act → World → Prop} {E : Prop}
  (hg : o.guard = none) (d x : Operand) (dT sT : TypeId) (hop : o.op = Op.call { callee := Callee.builtin Builtin.copy, args := #[d, x], argTypes := #[dT, sT] })
  (v u : Value) (hd : a.eval d = v) (hx : a.eval x = u) {v' : Value} {w' : World} (hr : (Builtin.copy_ #[dT, sT] o.type #[v, u]).run P w = .ok v' w') (hK : K (a.put o.dst v') w') :
  if Region.wanted o (yielded ops a.tmps) = true then Oper.wp P o a w K Q else E := by
 have hw : Region.wanted o (yielded ops a.tmps) = true := by simp [Region.wanted, hg]
 rw [if_pos hw]
 exact wp_copy_runK w d x dT sT hop v u hd hx hr hK
theorem drew_setsK (b : Nat) : ∀ (vs : List Value) (o : Nat) (w : World), (w.setCells b o vs).drew = w.drew.setCells b o vs
 | [], _, _ => rfl
 | v :: r, o, w => by rw [World.setCells, World.setCells, drew_setsK b r]; rfl
theorem heap_setsK (w : World) (g : Nat) {i : Nat} (hne : i ≠ g) : ∀ (vs : List Value) (o : Nat) (w : World), (w.setCells g o vs).heap[i]? = w.heap[i]?
 | [], _, _ => rfl
 | v :: r, o, w => (heap_setsK w g hne r (o + 1) _).trans (Below.heap_setCell w ⟨g, o, none⟩ v i hne)
theorem sizeOf_k {P : Program} {t k : Nat} (h : (P.info? t).map (·.size) = some k) (w : World) : (Go.sizeOf t).run P w = .ok k w := by
 cases hq : P.info? t with
 | none => simp [hq] at h
 | some i =>
  have hi : i.size = k := by simpa [hq] using h
  simp [sizeOf, typeInfo, hq, hi]
theorem cell_of_list {w : World} {g : Nat} {L : List Value} {e : TypeId} (h : w.heap[g]? = some (.cells L.toArray e (0, 0))) (j : Nat) : w.cell? ⟨g, j, none⟩ = L[j]? := by
 rw [cell_of_row w g j _ _ _ h]
 simp
theorem frozen_of_list {w : World} {g : Nat} {L : List Value} {e : TypeId} (h : w.heap[g]? = some (.cells L.toArray e (0, 0))) (j : Nat) : w.frozen? ⟨g, j, none⟩ = false := by
 simp [World.frozen?, h]
set_option maxHeartbeats 2000000 in
set_option maxRecDepth 100000 in
theorem insert_end (w0 w : World) (v : Value) (ps : List Pr) (x : S43) (cs : List Value) (vb : Nat) (ho : OwnP w0 w v ps) (hb : Below w0.heap.size w0 w) (hl : ps.length ≤ 1000000) (hK : (k43).K w0 x cs) (hvb : w.heap[vb]? = some (.cells cs.toArray 43 (0, 0))) :
  Calls Tryd.prog 52 #[v, .int .i64 ps.length, .slice (some ⟨vb, 0, none⟩) 1 1] w fun e w' => ∃ v', e = .returned v' ∧ OwnP w0 w' v' (ps ++ [(x, cs)]) ∧ Below w0.heap.size w0 w' := by
 obtain ⟨i0, hi, hz0, hz1, hz2⟩ := info_parts info43
 have H1 : Aside0 (∀ u ∈ cs, u.oneCell' = true) := ⟨(k43).K_one hK⟩
 have H3 : Aside0 (cs.length = 1 * 3) := ⟨(k43).K_len hK⟩
 have HC : Aside0 (∀ j u, cs[j]? = some u → w.cell? ((⟨vb, 0, none⟩ : Addr).add j) = some u) := ⟨fun j u hj => by
  rw [Addr.add_lit, Nat.zero_add, cell_of_list hvb j]; exact hj⟩
 have HO := Aside0.mk ho
 have HB := Aside0.mk hb
 have HK := Aside0.mk hK
 have hn0 : (0 : Int) ≤ (ps.length : Int) := by omega
 have fin : ∀ v' w1, w1.ownsRow w0.heap.size 43 3 v' (ps.length + 1) (ps.flatMap (·.2) ++ cs) → w.grownBy w1 v.ownBlock → OwnP w0 w1 v' (ps ++ [(x, cs)]) ∧ Below w0.heap.size w0 w1 := fun v' w1 hown hgrow => by
  refine ⟨⟨by simpa using hown, fun p hp => ?_⟩, HB.out.grown hgrow (below_size HB.out) fun k hk => ?_⟩
  ·rcases List.mem_append.1 hp with hp | hp
   ·exact HO.out.2 p hp
   ·obtain rfl := List.mem_singleton.1 hp
    exact HK.out
  ·rcases HO.out.1.2 with ⟨rfl, _⟩ | ⟨g, cap, cur, rfl, hg, _⟩
   ·simp [Value.ownBlock] at hk
   ·simp [Value.ownBlock] at hk
    omega
 have HF := Aside0.mk fin
 clear fin hK hvb
 rcases ho.block with ⟨rfl, rfl⟩ | ⟨g, cap, L, rfl, hg, hh, hcn, hcm, hLl, hLt⟩
 ·clear ho hb
  go_enter Tryd.func52, Tryd.ntmps52
  go_wp2_with (at_builtin; refine wpList_append_own _ rfl (.tmp 23) (.tmp 24) 24 rfl w0.heap.size 43 i0 _ 3 _ Tryd.underlying24 hi hz0 hz1 hz2 rfl (by decide) _ 0 [] rfl HO.out.1 ⟨vb, 0, none⟩ 1 1 cs rfl H3.out HC.out H1.out ?qc4 ?qc5 (below_size HB.out) ?_)
  case qc4 => decide
  case qc5 => omega
  intro v' w1 hown hgrow hnil
  go_wp2
  go_ret
  exact ⟨v', rfl, HF.out v' w1 hown hgrow⟩
 ·have hn1 : (ps.length : Int) ≤ (cap : Int) := by omega
  have hn2 : (cap : Int) ≤ 9223372036854775807 := by unfold maxLen at hcm; omega
  clear ho hb hh hLl hLt
  go_enter Tryd.func52, Tryd.ntmps52
  by_cases hcap : cap = ps.length
  all_goals
   go_wp2_with (at_builtin; go_loud (refine wpList_append_own _ rfl (.tmp 23) (.tmp 24) 24 rfl w0.heap.size 43 i0 _ 3 _ Tryd.underlying24 hi hz0 hz1 hz2 rfl (by decide) (.slice (some ⟨g, 0, none⟩) ps.length cap) ps.length _ rfl HO.out.1 ⟨vb, 0, none⟩ 1 1 cs rfl H3.out HC.out H1.out ?qc4 ?qc5 (below_size HB.out) ?_))
   case qc4 => unfold maxLen; omega
   case qc5 => omega
   intro v' w1 hown hgrow hnil
   go_wp2
   go_ret
   exact ⟨v', rfl, HF.out v' w1 hown hgrow⟩
theorem seg_ins {A cs D T inn : List Value} {a n i : Nat} (hi : i ≤ n) (ha : a = i * 3) (hA : A.length = a + 3) (hc : cs.length = 3) (hD : D = inn.drop a) (hn : inn.length = n * 3) (hAi : A.take a = inn.take a) :
  ((A ++ D ++ T).take a ++ cs ++ (A ++ D ++ T).drop (a + cs.length)).take ((n + 1) * 3) = inn.take a ++ (cs ++ inn.drop a) := by
 have hDl : D.length = n * 3 - a := by rw [hD, List.length_drop, hn]
 have e1 : (A ++ D ++ T).take a = inn.take a := by rw [List.append_assoc, List.take_append_of_le_length (by omega), hAi]
 have e2 : (A ++ D ++ T).drop (a + 3) = D ++ T := by rw [List.append_assoc, ← hA, List.drop_left]
 have e3 : (inn.take a).length = a := by rw [List.length_take]; omega
 rw [hc, e1, e2, ← List.append_assoc, List.take_left' (by rw [List.length_append, List.length_append]; omega), List.append_assoc, hD]
theorem seg_new {A cs D T inn : List Value} {a n i : Nat} (hi : i ≤ n) (ha : a = i * 3) (hc : cs.length = 3) (hD : D = inn.drop a) (hn : inn.length = n * 3) (hA : A.take a = inn.take a) (hAl : a ≤ A.length) :
  ((A.take a ++ cs ++ T).take (a + 3) ++ D ++ (A.take a ++ cs ++ T).drop (a + 3 + D.length)).take ((n + 1) * 3) = inn.take a ++ (cs ++ inn.drop a) := by
 have hDl : D.length = n * 3 - a := by rw [hD, List.length_drop, hn]
 have e3 : (A.take a).length = a := by rw [List.length_take]; omega
 have e1 : (A.take a ++ cs ++ T).take (a + 3) = A.take a ++ cs := by
  rw [List.take_append_of_le_length (by rw [List.length_append]; omega), List.take_of_length_le (by rw [List.length_append]; omega)]
 rw [e1, List.take_left' (by rw [List.length_append, List.length_append]; omega), hD, hA, List.append_assoc]
set_option maxHeartbeats 4000000 in
set_option maxRecDepth 100000 in
theorem insert_room (w0 w : World) (g cap : Nat) (L : List Value) (ps : List Pr) (i : Nat) (x : S43) (cs : List Value) (vb : Nat) (hb : Below w0.heap.size w0 w) (hg : w0.heap.size ≤ g) (hh : w.heap[g]? = some (.cells L.toArray 43 (0, 0))) (hroom : ps.length + 1 ≤ cap) (hcm : cap ≤ maxLen) (hLl : L.length = cap * 3) (hLt : L.take (ps.length * 3) = ps.flatMap (·.2)) (hKs : ∀ p ∈ ps, (k43).K w0 p.1 p.2)
  (hi : i < ps.length) (hl : ps.length ≤ 1000000) (hK : (k43).K w0 x cs) (hvb : w.heap[vb]? = some (.cells cs.toArray 43 (0, 0))) (hne : vb ≠ g) :
  Calls Tryd.prog 52 #[.slice (some ⟨g, 0, none⟩) ps.length cap, .int .i64 i, .slice (some ⟨vb, 0, none⟩) 1 1] w fun e w' => ∃ v', e = .returned v' ∧ OwnP w0 w' v' (ps.take i ++ (x, cs) :: ps.drop i) ∧ Below w0.heap.size w0 w' := by
 have hc3 : cs.length = 3 := (k43).K_len hK
 have h1 : ∀ u ∈ cs, u.oneCell' = true := (k43).K_one hK
 have hps3 : ∀ p ∈ ps, p.2.length = 3 := fun p hp => (k43).K_len (hKs p hp)
 have hfl := flat_len ps hps3
 have h1i : ∀ u ∈ ps.flatMap (·.2), u.oneCell' = true := fun u hu => by
  rw [List.mem_flatMap] at hu
  obtain ⟨p, hp, hu⟩ := hu
  exact (k43).K_one (hKs p hp) u hu
 obtain ⟨n, hn⟩ : ∃ n, n = ps.length := ⟨_, rfl⟩
 obtain ⟨inn, hinn⟩ : ∃ inn, inn = ps.flatMap (·.2) := ⟨_, rfl⟩
 rw [← hinn] at hLt hfl h1i
 obtain ⟨D, hD⟩ : ∃ D, D = inn.drop (i * 3) := ⟨_, rfl⟩
 have hDl : D.length = (n - i) * 3 := by rw [hD, List.length_drop, hfl, hn]; omega
 have hD1 : ∀ u ∈ D, u.oneCell' = true := fun u hu => h1i u (by rw [hD] at hu; exact List.mem_of_mem_drop hu)
 have hcell := cell_of_list hh
 have hfz := frozen_of_list hh
 have hDc : ∀ j u, D[j]? = some u → L[i * 3 + j]? = some u := fun j u hj => by
  rw [hD, List.getElem?_drop, ← hLt, List.getElem?_take] at hj
  split at hj
  ·exact hj
  ·cases hj
 have hsz : (Tryd.prog.info? 43).map (·.size) = some 3 := by
  obtain ⟨i0, hi0, _, h3, _⟩ := info_parts info43
  rw [hi0]; simp [h3]
 rw [← hn] at hl hi hroom hLt hfl
 have hL2 : i * 3 + 3 + D.length ≤ L.length := by omega
 have hcp1 : ∀ ty dc sc, (Builtin.copy_ #[24, 24] ty #[.slice (some ⟨g, (i + 1) * 3, none⟩) (n - i) dc, .slice (some ⟨g, i * 3, none⟩) (n + 1 - i) sc]).run Tryd.prog w.drew = .ok (goInt (Nat.min (n + 1 - i) (n - i))) (w.drew.setCells g ((i + 1) * 3) D) := fun ty dc sc =>
  run_copy_k w.drew _ _ ty 43 3 g ((i + 1) * 3) (n - i) dc ⟨g, i * 3, none⟩ (n + 1 - i) sc D Tryd.underlying24 hsz (by rw [hDl]; simp only [Nat.min_def]; split <;> omega)
   (fun j v hj => by rw [Addr.add_lit]; exact (hcell _).trans (hDc j v hj))
   (fun j hj => by show (w.cell? _).isSome = true; rw [hcell, List.getElem?_eq_getElem (by omega)]; rfl) (fun j hj => hfz _) hD1
 obtain ⟨W1, hW1⟩ : ∃ W1, W1 = w.drew.setCells g ((i + 1) * 3) D := ⟨_, rfl⟩
 obtain ⟨L1, hL1⟩ : ∃ L1, L1 = L.take ((i + 1) * 3) ++ D ++ L.drop ((i + 1) * 3 + D.length) := ⟨_, rfl⟩
 have hh1 : W1.heap[g]? = some (.cells L1.toArray 43 (0, 0)) := by rw [hW1, hL1]; exact blk_setCells g D ((i + 1) * 3) w.drew L hh (by omega)
 have hv1 : W1.heap[vb]? = some (.cells cs.toArray 43 (0, 0)) := by
  rw [hW1, heap_setsK w g hne]; exact hvb
 have hL1l : L1.length = L.length := by rw [hL1]; simp only [List.length_append, List.length_take, List.length_drop]; omega
 have hB1 : Below w0.heap.size w0 W1 := by rw [hW1]; exact below_sets hg _ _ (below_drew1 hb)
 have hcp2 : ∀ ty dc, (Builtin.copy_ #[24, 24] ty #[.slice (some ⟨g, i * 3, none⟩) (n + 1 - i) dc, .slice (some ⟨vb, 0, none⟩) 1 1]).run Tryd.prog W1 = .ok (goInt (Nat.min 1 (n + 1 - i))) (W1.setCells g (i * 3) cs) := fun ty dc =>
  run_copy_k W1 _ _ ty 43 3 g (i * 3) (n + 1 - i) dc ⟨vb, 0, none⟩ 1 1 cs Tryd.underlying24 hsz (by rw [hc3]; simp only [Nat.min_def]; split <;> omega)
   (fun j v hj => by rw [Addr.add_lit, Nat.zero_add]; exact (cell_of_list hv1 j).trans hj)
   (fun j hj => by rw [cell_of_list hh1, List.getElem?_eq_getElem (by omega)]; rfl) (fun j hj => frozen_of_list hh1 _) h1
 have hh2 := blk_setCells g cs (i * 3) W1 L1 hh1 (by omega)
 have hfin : OwnP w0 (W1.setCells g (i * 3) cs) (.slice (some ⟨g, 0, none⟩) (n + 1) cap) (ps.take i ++ (x, cs) :: ps.drop i) := by
  refine OwnP.mk' hg hh2 (by simp; omega) hroom hcm (by simp only [List.length_append, List.length_take, List.length_drop]; omega) ?_ fun p hp => ?_
  ·rw [flat_ins ps hps3 i (by omega), ← hinn, hL1]
   exact seg_ins (by omega) rfl (by rw [List.length_take]; omega) hc3 hD hfl (by rw [List.take_take, Nat.min_eq_left (by omega), ← hLt, List.take_take, Nat.min_eq_left (by omega)])
  ·rcases List.mem_append.1 hp with hp | hp
   ·exact hKs p (List.mem_of_mem_take hp)
   ·rcases List.mem_cons.1 hp with rfl | hp
    ·exact hK
    ·exact hKs p (List.mem_of_mem_drop hp)
 have HFIN := Aside0.mk (show OwnP w0 (W1.setCells g (i * 3) cs) (.slice (some ⟨g, 0, none⟩) (n + 1) cap) (ps.take i ++ (x, cs) :: ps.drop i) ∧ Below w0.heap.size w0 (W1.setCells g (i * 3) cs) from ⟨hfin, below_sets hg _ _ hB1⟩)
 have hov : ∀ lb cb, (callFunc 70 #[.slice (some ⟨vb, 0, none⟩) 1 1, .slice (some ⟨g, (i + 1) * 3, none⟩) lb cb]).run Tryd.prog w = .ok (.value (.bool false)) w := fun lb cb => by
  have hvc := hvb
  rw [run_callFunc_extern Tryd.func70 (by kernel_rfl) (by kernel_rfl) (by kernel_rfl) (e := Extern.SlicesOverlaps.overlaps #[24, 24] #[4]) (by kernel_rfl),
   Lib.run_overlaps_apart w 24 4 43 Tryd.underlying24 3 (sizeOf_k hsz) ⟨vb, 0, none⟩ ⟨g, (i + 1) * 3, none⟩ 1 1 lb cb hne 43 43 3 (cap * 3) (by simp [World.shape?, hvb, hc3]) (by simp [World.shape?, hh, hLl]) (by omega) (by simp [World.frozen?, hvb]) (by simp [World.frozen?, hvb])]
  rfl
 have hcm2 : cap ≤ 9223372036854775807 := by unfold maxLen at hcm; omega
 have hz2 : ¬ ((i : Int) = (n : Int)) := by omega
 have hin : i ≤ n := by omega
 have hw1 : IntKind.i64.wrap ((i : Int) + 1) = (i : Int) + 1 := by rw [IntKind.wrap_i64]; omega
 have hw2 : IntKind.i64.wrap ((n : Int) + 1) = (n : Int) + 1 := by rw [IntKind.wrap_i64]; omega
 have hb1 : (0 : Int) ≤ (i : Int) + 1 := by omega
 have htn : ((i : Int) + 1).toNat = i + 1 := by omega
 have hb2 : ¬ (cap = i + 1) := by omega
 have hb3 : (i : Int) ≤ (n : Int) + 1 := by omega
 have hb4 : ¬ (cap = i) := by omega
 have hb5 : ¬ ((cap : Int) < (n : Int) + 1) := by omega
 rw [← hn]
 rw [← hW1] at hcp1
 have HN := Aside0.mk hn
 clear hn
 have mixed : Tryd.prog.follows .mixedOrders = true := by kernel_rfl
 clear hfin hh2 hB1 hL1l hv1 hh1 hL1 hW1 hL2 hDc hfz hcell hD1 hDl hD h1i hfl hps3 h1 hc3 hinn hvb hK hKs hLt hLl hh hb
 go_enter Tryd.func52, Tryd.ntmps52
 go_wp2_with (simp only [hov])
 go_region_law_o (refine step_copy_runK rfl _ _ 24 24 rfl _ _ (by simp [Act.eval, Act.put]) (by simp [Act.eval, Act.put]) (hcp1 _ _ _) ?_)
 go_wp2_with (at_builtin; go_loud (refine wpList_copy_runK _ rfl _ _ 24 24 rfl _ _ rfl rfl (hcp2 _ _) ?_))
 go_ret
 exact ⟨_, rfl, HFIN.out⟩
set_option maxHeartbeats 4000000 in
set_option maxRecDepth 100000 in
theorem insert_grow (w0 w : World) (g cap : Nat) (L : List Value) (ps : List Pr) (i : Nat) (x : S43) (cs : List Value) (vb : Nat) (hb : Below w0.heap.size w0 w) (hg : w0.heap.size ≤ g) (hh : w.heap[g]? = some (.cells L.toArray 43 (0, 0))) (hnc : ps.length ≤ cap) (hroom : cap < ps.length + 1) (hLl : L.length = cap * 3) (hLt : L.take (ps.length * 3) = ps.flatMap (·.2)) (hKs : ∀ p ∈ ps, (k43).K w0 p.1 p.2)
  (hi : i < ps.length) (hl : ps.length ≤ 1000000) (hK : (k43).K w0 x cs) (hvb : w.heap[vb]? = some (.cells cs.toArray 43 (0, 0))) :
  Calls Tryd.prog 52 #[.slice (some ⟨g, 0, none⟩) ps.length cap, .int .i64 i, .slice (some ⟨vb, 0, none⟩) 1 1] w fun e w' => ∃ v', e = .returned v' ∧ OwnP w0 w' v' (ps.take i ++ (x, cs) :: ps.drop i) ∧ Below w0.heap.size w0 w' := by
 have hc3 : cs.length = 3 := (k43).K_len hK
 have h1 : ∀ u ∈ cs, u.oneCell' = true := (k43).K_one hK
 have hps3 : ∀ p ∈ ps, p.2.length = 3 := fun p hp => (k43).K_len (hKs p hp)
 have hfl := flat_len ps hps3
 have h1i : ∀ u ∈ ps.flatMap (·.2), u.oneCell' = true := fun u hu => by
  rw [List.mem_flatMap] at hu
  obtain ⟨p, hp, hu⟩ := hu
  exact (k43).K_one (hKs p hp) u hu
 obtain ⟨n, hn⟩ : ∃ n, n = ps.length := ⟨_, rfl⟩
 obtain ⟨inn, hinn⟩ : ∃ inn, inn = ps.flatMap (·.2) := ⟨_, rfl⟩
 rw [← hinn] at hLt hfl h1i
 obtain ⟨D, hD⟩ : ∃ D, D = inn.drop (i * 3) := ⟨_, rfl⟩
 have hDl : D.length = (n - i) * 3 := by rw [hD, List.length_drop, hfl, hn]; omega
 have hD1 : ∀ u ∈ D, u.oneCell' = true := fun u hu => h1i u (by rw [hD] at hu; exact List.mem_of_mem_drop hu)
 have hcell := cell_of_list hh
 have hic : ∀ j u, inn[j]? = some u → w.cell? ⟨g, j, none⟩ = some u := fun j u hj => by
  rw [hcell]
  rw [← hLt, List.getElem?_take] at hj
  split at hj
  ·exact hj
  ·cases hj
 have hDc : ∀ j u, D[j]? = some u → w.cell? ⟨g, i * 3 + j, none⟩ = some u := fun j u hj => by
  rw [hD, List.getElem?_drop] at hj
  exact hic _ _ hj
 obtain ⟨i0, hi0, hz0, hz1, hz2⟩ := info_parts info43
 have hsz : (Tryd.prog.info? 43).map (·.size) = some 3 := by rw [hi0]; simp [hz1]
 have hgl : g < w.heap.size := blk_lt hh
 have hvl : vb < w.heap.size := blk_lt hvb
 rw [← hn] at hl hi hroom hLt hfl hnc
 obtain ⟨kz, hkz⟩ : ∃ kz, kz = n + 1 - i := ⟨_, rfl⟩
 have hik : i + kz = n + 1 := by omega
 have hold : (Builtin.firstCells i0.size i (.slice (some ⟨g, 0, none⟩) i cap)).run Tryd.prog w.drew = .ok (inn.take (i * 3)).toArray w.drew := by
  rw [hz1]
  exact run_firstCells_some w.drew 3 i ⟨g, 0, none⟩ i cap (inn.take (i * 3)) (by rw [List.length_take]; omega) fun j u hj => by
   rw [Addr.add_lit, Nat.zero_add]
   rw [List.getElem?_take] at hj
   split at hj
   ·exact hic j u hj
   ·cases hj
 have hrz : ∀ ty, _ := fun ty => Lib.run_append_grow_zeros w 24 3 ty 43 i0 _ .i64 .i64 Tryd.underlying24 Tryd.underlying3 hi0 hz0 (some ⟨g, 0, none⟩) i cap (inn.take (i * 3)) hold kz (by omega) (by rw [hz1]; decide) (by omega) (by omega) (by rw [hz2]; omega) (by rw [hz2, hik]; exact growslice_fits hroom (by omega))
 rw [hik] at hrz
 obtain ⟨G, hG⟩ : ∃ G, G = grownCap w (n + 1) cap 43 := ⟨_, rfl⟩
 have hGn : n + 1 ≤ G := by rw [hG]; exact grownCap_ge w _ _ _
 have hGm : G ≤ maxLen := by rw [hG]; exact grownCap_le_maxLen w (n + 1) cap 43 (by unfold maxLen; omega)
 rw [← hG] at hrz
 generalize hZ : Builtin.zeroCells _ kz = Z1 at hrz
 generalize hY : Builtin.zeroCells _ (G - (n + 1)) = Z2 at hrz
 have hZl : Z1.size = kz * 3 := by rw [← hZ]; simp [Builtin.zeroCells, Value.cells]
 have hYl : Z2.size = (G - (n + 1)) * 3 := by rw [← hY]; simp [Builtin.zeroCells, Value.cells]
 obtain ⟨R, hR⟩ : ∃ R : List Value, R = inn.take (i * 3) ++ Z1.toList ++ Z2.toList := ⟨_, rfl⟩
 rw [show (inn.take (i * 3)).toArray ++ Z1 ++ Z2 = R.toArray by rw [hR]; simp] at hrz
 have hRl : R.length = G * 3 := by rw [hR]; simp only [List.length_append, List.length_take, Array.length_toList]; omega
 obtain ⟨W0, hW0⟩ : ∃ W0, W0 = w.drew.alloc (.cells R.toArray 43) := ⟨_, rfl⟩
 rw [← hW0] at hrz
 obtain ⟨N, hN⟩ : ∃ N, N = w.heap.size := ⟨_, rfl⟩
 rw [← hN] at hrz
 have hh0 : W0.heap[N]? = some (.cells R.toArray 43 (0, 0)) := by rw [hW0, hN]; exact blk_new w.drew _
 have hB0 : Below w0.heap.size w0 W0 := by rw [hW0]; exact below_alloc (below_drew1 hb) _
 have hold2 : ∀ k, k < N → W0.heap[k]? = w.heap[k]? := fun k hk => by rw [hW0]; exact Below.heap_alloc w.drew _ k (by rw [hN] at hk; exact hk)
 have hgN : w0.heap.size ≤ N := by rw [hN]; exact below_size hb
 have hcpA : ∀ ty dc, (Builtin.copy_ #[24, 24] ty #[.slice (some ⟨N, i * 3, none⟩) (n + 1 - i) dc, .slice (some ⟨vb, 0, none⟩) 1 1]).run Tryd.prog W0 = .ok (goInt (Nat.min 1 (n + 1 - i))) (W0.setCells N (i * 3) cs) := fun ty dc =>
  run_copy_k W0 _ _ ty 43 3 N (i * 3) (n + 1 - i) dc ⟨vb, 0, none⟩ 1 1 cs Tryd.underlying24 hsz (by rw [hc3]; simp only [Nat.min_def]; split <;> omega)
   (fun j v hj => by rw [Addr.add_lit, Nat.zero_add, cell_of_list ((hold2 vb (by omega)).trans hvb) j]; exact hj)
   (fun j hj => by rw [cell_of_list hh0, List.getElem?_eq_getElem (by omega)]; rfl) (fun j hj => frozen_of_list hh0 _) h1
 obtain ⟨W1, hW1⟩ : ∃ W1, W1 = W0.setCells N (i * 3) cs := ⟨_, rfl⟩
 obtain ⟨L1, hL1⟩ : ∃ L1, L1 = R.take (i * 3) ++ cs ++ R.drop (i * 3 + cs.length) := ⟨_, rfl⟩
 have hh1 : W1.heap[N]? = some (.cells L1.toArray 43 (0, 0)) := by rw [hW1, hL1]; exact blk_setCells N cs (i * 3) W0 R hh0 (by omega)
 have hL1l : L1.length = G * 3 := by rw [hL1]; simp only [List.length_append, List.length_take, List.length_drop]; omega
 have hB1 : Below w0.heap.size w0 W1 := by rw [hW1]; exact below_sets hgN _ _ hB0
 have hg1 : W1.heap[g]? = w.heap[g]? := by rw [hW1, heap_setsK W0 N (by omega)]; exact hold2 g (by omega)
 have hDc1 : ∀ j u, D[j]? = some u → W1.cell? ⟨g, i * 3 + j, none⟩ = some u := fun j u hj => by
  rw [cell_of_list (hg1.trans hh), ← hcell]
  exact hDc j u hj
 rw [← hW1] at hcpA
 have hcpB : ∀ (W : World), (∀ x, W.cell? x = W1.cell? x) → (∀ x, W.frozen? x = W1.frozen? x) → ∀ ty dc sc, (Builtin.copy_ #[24, 24] ty #[.slice (some ⟨N, (i + 1) * 3, none⟩) (n - i) dc, .slice (some ⟨g, i * 3, none⟩) (n - i) sc]).run Tryd.prog W = .ok (goInt (Nat.min (n - i) (n - i))) (W.setCells N ((i + 1) * 3) D) := fun W hWc hWf ty dc sc =>
  run_copy_k W _ _ ty 43 3 N ((i + 1) * 3) (n - i) dc ⟨g, i * 3, none⟩ (n - i) sc D Tryd.underlying24 hsz (by rw [hDl]; simp only [Nat.min_def]; split <;> omega)
   (fun j v hj => by rw [Addr.add_lit, hWc]; exact hDc1 j v hj)
   (fun j hj => by rw [hWc, cell_of_list hh1, List.getElem?_eq_getElem (by omega)]; rfl) (fun j hj => by rw [hWf]; exact frozen_of_list hh1 _) hD1
 have hfin : ∀ W : World, W.heap = W1.heap → Below w0.heap.size w0 W → OwnP w0 (W.setCells N ((i + 1) * 3) D) (.slice (some ⟨N, 0, none⟩) (n + 1) G) (ps.take i ++ (x, cs) :: ps.drop i) ∧ Below w0.heap.size w0 (W.setCells N ((i + 1) * 3) D) := fun W hWh hWb => by
  have hh2 := blk_setCells N D ((i + 1) * 3) W L1 (by rw [hWh]; exact hh1) (by omega)
  refine ⟨OwnP.mk' hgN hh2 (by simp; omega) (by omega) hGm (by simp only [List.length_append, List.length_take, List.length_drop]; omega) ?_ fun p hp => ?_, below_sets hgN _ _ hWb⟩
  ·rw [flat_ins ps hps3 i (by omega), ← hinn, hL1, hc3, show (i + 1) * 3 = i * 3 + 3 by omega]
   exact seg_new (by omega) rfl hc3 hD hfl (by rw [hR, List.append_assoc, List.take_append_of_le_length (by rw [List.length_take]; omega), List.take_take, Nat.min_self]) (by omega)
  ·rcases List.mem_append.1 hp with hp | hp
   ·exact hKs p (List.mem_of_mem_take hp)
   ·rcases List.mem_cons.1 hp with rfl | hp
    ·exact hK
    ·exact hKs p (List.mem_of_mem_drop hp)
 have HFIN := Aside0.mk hfin
 have hcm2 : cap ≤ 9223372036854775807 := by omega
 have hGm2 : G ≤ 9223372036854775807 := by unfold maxLen at hGm; omega
 have hzi2 : ¬ ((i : Int) = (n : Int)) := by omega
 have hin : i ≤ n := by omega
 have hw1 : IntKind.i64.wrap ((i : Int) + 1) = (i : Int) + 1 := by rw [IntKind.wrap_i64]; omega
 have hw2 : IntKind.i64.wrap ((n : Int) + 1) = (n : Int) + 1 := by rw [IntKind.wrap_i64]; omega
 have hw3 : IntKind.i64.wrap ((n : Int) + 1 - (i : Int)) = (kz : Int) := by rw [IntKind.wrap_i64]; omega
 have hw4 : (n : Int) + 1 - (i : Int) = (kz : Int) := by omega
 have hb1 : (0 : Int) ≤ (i : Int) + 1 := by omega
 have htn : ((i : Int) + 1).toNat = i + 1 := by omega
 have hb3 : (i : Int) ≤ (n : Int) := by omega
 have hb4 : ¬ (cap = i) := by omega
 have hb5 : (cap : Int) < (n : Int) + 1 := by omega
 have hb6 : ¬ (G = i) := by omega
 have hb7 : ¬ (G = i + 1) := by omega
 rw [← hn]
 have HN := Aside0.mk hn
 have HW := Aside0.mk (show Below w0.heap.size w0 W1 from hB1)
 have HB1 := hB1
 have mixed : Tryd.prog.follows .mixedOrders = true := by kernel_rfl
 clear hn hfin hB1 hL1l hh1 hL1 hW1 hDc hcell hD1 hDl hD h1i hfl hps3 h1 hc3 hinn hvb hK hKs hLt hLl hh hb HB1 hDc1 hg1 hold2 hB0 hh0 hN hW0 hRl hR hYl hZl hY hZ hG hkz hold hic hi0 hz0 hz1 hz2
 go_enter Tryd.func52, Tryd.ntmps52
 go_wp2_with (first
  | (at_builtin; go_loud (refine Lib.wpList_append_run _ rfl (.tmp 34) (.tmp 39) _ _ rfl _ _ rfl rfl _ _ (hrz _) ?_))
  | (at_builtin; refine wpList_copy_runK _ rfl _ _ 24 24 rfl _ _ rfl rfl (hcpA _ _) ?_))
 have hcpC := hcpB W1.drew (fun _ => rfl) (fun _ => rfl) 3 (G - (i + 1)) (cap - i)
 go_region_law_o (refine step_copy_runK rfl _ _ 24 24 rfl (.slice (some ⟨N, (i + 1) * 3, none⟩) (n - i) (G - (i + 1))) (.slice (some ⟨g, i * 3, none⟩) (n - i) (cap - i)) (by simp [Act.eval, Act.put]) (by simp [Act.eval, Act.put]) hcpC ?_)
 go_wp2
 go_ret
 exact ⟨_, rfl, HFIN.out _ rfl (below_drew1 HW.out)⟩
theorem insertF.calls (w0 w : World) (v : Value) (ps : List Pr) (i : Nat) (x : S43) (cs : List Value) (vb : Nat) (ho : OwnP w0 w v ps) (hb : Below w0.heap.size w0 w) (hi : i ≤ ps.length) (hl : ps.length ≤ 1000000) (hK : (k43).K w0 x cs) (hvb : w.heap[vb]? = some (.cells cs.toArray 43 (0, 0))) (hne : v.ownBlock ≠ some vb) :
  Calls Tryd.prog 52 #[v, .int .i64 i, .slice (some ⟨vb, 0, none⟩) 1 1] w fun e w' => ∃ v', e = .returned v' ∧ OwnP w0 w' v' (ps.take i ++ (x, cs) :: ps.drop i) ∧ Below w0.heap.size w0 w' := by
 by_cases he : i = ps.length
 ·subst he
  have := insert_end w0 w v ps x cs vb ho hb hl hK hvb
  rwa [List.take_length, List.drop_length]
 ·rcases ho.block with ⟨rfl, rfl⟩ | ⟨g, cap, L, rfl, hg, hh, hcn, hcm, hLl, hLt⟩
  ·exact absurd (by simpa using hi) he
  ·have hne2 : vb ≠ g := fun h => hne (by rw [h]; rfl)
   by_cases hroom : ps.length + 1 ≤ cap
   ·exact insert_room w0 w g cap L ps i x cs vb hb hg hh hroom hcm hLl hLt ho.2 (by omega) hl hK hvb hne2
   ·exact insert_grow w0 w g cap L ps i x cs vb hb hg hh hcn (by omega) hLl hLt ho.2 (by omega) hl hK hvb
end Go.Proofs.YtppbcankhkgpfaaDoor.PDq
namespace Go.Proofs.YtppbcankhkgpfaaDoor.PDq
open Go.RowKit Go.Proofs.YtppbcankhkgpfaaDoorW.PrintWords Go.Proofs.YtppbcankhkgpfaaDoorW.PrintLast Go.Proofs.YtppbcankhkgpfaaDoorW.PrintMore
attribute [local go_sem] max2_int min2_int max_two min_two max_three min_three max_four min_four
attribute [local go_sem high] hw_str_leq hw_str_gtr
set_option linter.unusedVariables false
set_option linter.unusedSimpArgs false
/-- Is a name ahead of another one? -/
def aheadN (a b : ByteArray) : Bool := Op.bytesLess a.toList b.toList
def cmpN (a b : ByteArray) : Int := if aheadN a b = true then -1 else if aheadN b a = true then 1 else 0
set_option maxHeartbeats 2000000 in
set_option maxRecDepth 100000 in
theorem compareN.calls (a b : ByteArray) (w : World) : Calls Tryd.prog 85 #[.string a, .string b] w fun e w' => e = .returned (.int .i64 (cmpN a b)) ∧ Below w.heap.size w w' := by
 unfold cmpN
 cases h1 : aheadN a b with
 | true =>
  unfold aheadN at h1
  rw [if_pos rfl]
  go_enter Tryd.func85, Tryd.ntmps85
  go_wp2
  go_ret
  exact ⟨rfl, Below.refl _ _⟩
 | false =>
  rw [if_neg Bool.false_ne_true]
  cases h2 : aheadN b a with
  | true =>
   unfold aheadN at h1 h2
   rw [if_pos rfl]
   go_enter Tryd.func85, Tryd.ntmps85
   go_wp2
   go_ret
   exact ⟨rfl, Below.refl _ _⟩
  | false =>
   unfold aheadN at h1 h2
   rw [if_neg Bool.false_ne_true]
   go_enter Tryd.func85, Tryd.ntmps85
   go_wp2
   go_ret
   exact ⟨rfl, Below.refl _ _⟩
set_option maxHeartbeats 2000000 in
set_option maxRecDepth 100000 in
theorem against.calls (f0 : ByteArray) (f1 : Int) (sv : Value) (name : ByteArray) (w : World) : Calls Tryd.prog 69 #[.agg #[.string f0, .int .i64 f1, sv], .string name] w fun e w' => e = .returned (.int .i64 (cmpN f0 name)) ∧ Below w.heap.size w w' := by
 have hu := Tryd.underlying43
 have hb0 : ∀ o, Below w.heap.size w (w.alloc o) := fun o => below_alloc (Below.refl _ _) o
 have HC := Aside0.mk (fun W => compareN.calls f0 name W)
 go_enter Tryd.func69, Tryd.ntmps69
 go_wp2_with (go_at_call 85; go_loud (refine (HC.out _).mono ?_; rintro e w1 ⟨rfl, hb1⟩))
 go_ret
 exact ⟨rfl, (hb0 _).trans (hb1.mono (by simp))⟩
/-- How many files' names are ahead of a name. -/
def cntN (name : ByteArray) (l : List S43) : Nat := l.countP fun x => aheadN x.f0 name
def isN (name : ByteArray) (l : List S43) : Bool := decide (cntN name l < l.length) && (cmpN (rd_T43 l (cntN name l)).f0 name == 0)
theorem count_bound {α : Type} (p : α → Bool) : ∀ (l : List α) (i : Nat), i ≤ l.length → (∀ t (h : t < l.length), t < i → p l[t] = true) → (∀ t (h : t < l.length), i ≤ t → p l[t] = false) → l.countP p = i
 | [], i, hi, _, _ => by simp at hi; simp [hi]
 | a :: r, 0, _, _, h2 => by
  rw [List.countP_eq_zero]
  intro x hx
  obtain ⟨t, ht, rfl⟩ := List.getElem_of_mem hx
  simp [h2 t ht (Nat.zero_le _)]
 | a :: r, i + 1, hi, h1, h2 => by
  have ha : p a = true := h1 0 (by simp) (by omega)
  rw [List.countP_cons_of_pos ha, count_bound p r i (by simpa using hi) (fun t ht hti => h1 (t + 1) (by simpa using ht) (by omega)) (fun t ht hti => h2 (t + 1) (by simpa using ht) (by omega))]
theorem cmp_neg (a b : ByteArray) : decide (cmpN a b < 0) = aheadN a b := by
 unfold cmpN
 cases h1 : aheadN a b with
 | true => rfl
 | false =>
  rw [if_neg Bool.false_ne_true]
  split <;> rfl
theorem rd_get (l : List S43) (i : Nat) (h : i < l.length) : rd_T43 l (i : Int) = l[i] := by simp [rd_T43, List.getD_eq_getElem?_getD, h]
set_option maxHeartbeats 4000000 in
set_option maxRecDepth 100000 in
theorem bsearch.calls (A : Option Addr) (c : Nat) (l : List S43) (name : ByteArray) (w : World) (hr : Kd.C k43 w A l.length l) (hl : l.length ≤ 1000000) (hm : ∀ a b (ha : a < l.length) (hb : b < l.length), a ≤ b → aheadN l[b].f0 name = true → aheadN l[a].f0 name = true) :
  Calls Tryd.prog 68 #[.slice A l.length c, .string name, .func (.func 69) #[] #[]] w fun e w' => e = .returned (.tuple #[.int .i64 (cntN name l), .bool (isN name l)]) ∧ Below w.heap.size w w' := by
 have HR := Aside0.mk hr
 have HM := Aside0.mk hm
 have HC := Aside0.mk (fun (y : S43) sv W => against.calls y.f0 y.f1 sv name W)
 have CN := Aside0.mk (show l.countP (fun x => aheadN x.f0 name) = cntN name l from rfl)
 have FIN := Aside0.mk (show isN name l = (decide (cntN name l < l.length) && (cmpN (rd_T43 l (cntN name l)).f0 name == 0)) from rfl)
 generalize cntN name l = cnt at CN FIN ⊢
 generalize isN name l = fin at FIN ⊢
 clear hr hm
 have hu := Tryd.underlying43
 go_enter Tryd.func68, Tryd.ntmps68
 go_wp2
 go_loopg [9, 10] l.length (fun kx s9 s10 wr => ∃ lo hi : Nat, s9 = .int .i64 lo ∧ s10 = .int .i64 hi ∧ lo ≤ hi ∧ hi ≤ l.length ∧ hi - lo ≤ kx ∧ Aside0 (Below w.heap.size w wr) ∧
  Aside0 ((∀ t (h : t < l.length), t < lo → aheadN l[t].f0 name = true) ∧ (∀ t (h : t < l.length), hi ≤ t → aheadN l[t].f0 name = false)))
 case atStart => exact ⟨0, l.length, rfl, rfl, Nat.zero_le _, Nat.le_refl _, by omega, ⟨Below.refl _ _⟩, ⟨fun t _ ht => absurd ht (Nat.not_lt_zero _), fun t h1 h2 => by omega⟩⟩
 case round =>
  obtain ⟨lo, hi, rfl, rfl, hlh, hin, hg, HB, I⟩ := hrel
  by_cases hlt : lo < hi
  ·have hltz : decide ((lo : Int) < (hi : Int)) = true := decide_eq_true (by omega)
   obtain ⟨m, hm0⟩ : ∃ m, m = (lo + hi) / 2 := ⟨_, rfl⟩
   have hmi : ((lo : Int) + (hi : Int)) / 2 = (m : Int) := by omega
   have hm1 : lo ≤ m := by omega
   have hm2 : m < hi := by omega
   have hml : m < l.length := by omega
   have hi0 : (0 : Int) ≤ (m : Int) := by omega
   have hi1 : (m : Int) < (l.length : Int) := by omega
   obtain ⟨ad, A2, c2, rfl, hx0, hx1, hx2, hl2, hC⟩ := at_T43 HR.out (m : Int) hi0 hi1
   rw [rd_get l m hml] at hx0 hx1 hx2 hl2 hC
   replace hx0 := (HB.out.cell (World.block_lt_of_cell? w _ hx0)).trans hx0
   replace hx1 := (HB.out.cell (World.block_lt_of_cell? w _ hx1)).trans hx1
   replace hx2 := (HB.out.cell (World.block_lt_of_cell? w _ hx2)).trans hx2
   simp only [Int.toNat_natCast] at hx0 hx1 hx2
   have HI := Aside0.mk (show (∀ a (ha : a < l.length), a ≤ m → aheadN l[m].f0 name = true → aheadN l[a].f0 name = true) ∧ (∀ b (hb : b < l.length), m ≤ b → aheadN l[m].f0 name = false → aheadN l[b].f0 name = false) from
    ⟨fun a ha ham h => HM.out a m ha hml ham h, fun b hb hmb h => by
     cases hq : aheadN l[b].f0 name with
     | false => rfl
     | true => rw [HM.out m b hml hb hmb hq] at h; cases h⟩)
   generalize l[m] = y at hx0 hx1 hx2 HI
   have HCY := Aside0.mk (HC.out y)
   have HNUM := Aside0.mk hm0
   clear hC hl2 hm0
   cases hq : aheadN y.f0 name with
   | true =>
    have hneg : decide (cmpN y.f0 name < 0) = true := by rw [cmp_neg]; exact hq
    go_wp2_with (go_at_call 69; go_loud (refine (HCY.out _ _).mono ?_; rintro e w' ⟨rfl, hb'⟩))
    go_roundg (hi - (m + 1))
    case measure => omega
    case rel => exact ⟨m + 1, hi, by go_num, rfl, by omega, hin, Nat.le_refl _, ⟨HB.out.trans (hb'.mono HB.out.size)⟩, ⟨fun t h1 h2 => HI.out.1 t h1 (by omega) hq, I.out.2⟩⟩
   | false =>
    have hneg : decide (cmpN y.f0 name < 0) = false := by rw [cmp_neg]; exact hq
    go_wp2_with (go_at_call 69; go_loud (refine (HCY.out _ _).mono ?_; rintro e w' ⟨rfl, hb'⟩))
    go_roundg (m - lo)
    case measure => omega
    case rel => exact ⟨lo, m, rfl, by go_num, by omega, by omega, Nat.le_refl _, ⟨HB.out.trans (hb'.mono HB.out.size)⟩, ⟨I.out.1, fun t h1 h2 => HI.out.2 t h1 (by omega) hq⟩⟩
  ·obtain rfl : hi = lo := by omega
   have hltz : decide ((hi : Int) < (hi : Int)) = false := decide_eq_false (by omega)
   have ecnt : cnt = hi := by
    rw [← CN.out]
    exact count_bound _ l hi hin (fun t h1 h2 => I.out.1 t h1 h2) (fun t h1 h2 => I.out.2 t h1 h2)
   subst ecnt
   by_cases hn : cnt < l.length
   ·have hnz : decide ((cnt : Int) < (l.length : Int)) = true := decide_eq_true (by omega)
    have hi0 : (0 : Int) ≤ (cnt : Int) := by omega
    have hi1 : (cnt : Int) < (l.length : Int) := by omega
    obtain ⟨ad, A2, c2, rfl, hx0, hx1, hx2, hl2, hC⟩ := at_T43 HR.out (cnt : Int) hi0 hi1
    have hfin : fin = (cmpN (rd_T43 l (cnt : Int)).f0 name == 0) := by rw [FIN.out, decide_eq_true hn, Bool.true_and]
    generalize rd_T43 l (cnt : Int) = y at hx0 hx1 hx2 hfin
    replace hx0 := (HB.out.cell (World.block_lt_of_cell? w _ hx0)).trans hx0
    replace hx1 := (HB.out.cell (World.block_lt_of_cell? w _ hx1)).trans hx1
    replace hx2 := (HB.out.cell (World.block_lt_of_cell? w _ hx2)).trans hx2
    simp only [Int.toNat_natCast] at hx0 hx1 hx2
    have HCY := Aside0.mk (HC.out y)
    have HFIN := Aside0.mk hfin
    clear hC hl2 hfin
    go_wp2_with (go_at_call 69; go_loud (refine (HCY.out _ _).mono ?_; rintro e w' ⟨rfl, hb'⟩))
    go_ret2
    exact ⟨by rw [HFIN.out]; rfl, HB.out.trans (hb'.mono HB.out.size)⟩
   ·have hnz : decide ((cnt : Int) < (l.length : Int)) = false := decide_eq_false (by omega)
    have hfin : fin = false := by rw [FIN.out, decide_eq_false hn, Bool.false_and]
    subst hfin
    go_wp2
    go_ret2
    exact ⟨rfl, HB.out⟩
set_option maxHeartbeats 2000000 in
set_option maxRecDepth 100000 in
theorem place.calls (A : Option Addr) (c : Nat) (l : List S43) (name : ByteArray) (w : World) (hr : Kd.C k43 w A l.length l) (hl : l.length ≤ 1000000) (hm : ∀ a b (ha : a < l.length) (hb : b < l.length), a ≤ b → aheadN l[b].f0 name = true → aheadN l[a].f0 name = true) :
  Calls Tryd.prog 50 #[.slice A l.length c, .string name] w fun e w' => e = .returned (.tuple #[.int .i64 (cntN name l), .bool (isN name l)]) ∧ Below w.heap.size w w' := by
 have HB := Aside0.mk (bsearch.calls A c l name w hr hl hm)
 clear hr hm
 go_enter Tryd.func50, Tryd.ntmps50
 go_wp2_with (go_at_call 68; go_loud (refine HB.out.mono ?_; rintro e w' ⟨rfl, hb'⟩))
 go_ret2
 exact ⟨rfl, hb'⟩
/-- What is found by a name. -/
def findV (name : ByteArray) (l : List S43) : S43 × Bool := match l.findIdx? (fun x => x.f0.toList == name.toList) with | some i => (rd_T43 l (i : Int), true) | none => (z43, false)
set_option maxHeartbeats 2000000 in
set_option maxRecDepth 100000 in
theorem findF.calls (A : Option Addr) (c : Nat) (l : List S43) (name : ByteArray) (w : World) (hr : Kd.C k43 w A l.length l) :
  Calls Tryd.prog 19 #[.slice A l.length c, .string name] w fun e w' => (∃ A2 c2, e = .returned (.tuple #[.agg #[.string (findV name l).1.f0, .int .i64 (findV name l).1.f1, .slice A2 (findV name l).1.f2.length c2], .bool (findV name l).2]) ∧ (findV name l).1.f2.length ≤ c2 ∧ Kd.C k64 w A2 (findV name l).1.f2.length (findV name l).1.f2) ∧ Below w.heap.size w w' := by
 have hu := Tryd.underlying43
 have HR := Aside0.mk hr
 have HP := Aside0.mk (fun W (hW : Below w.heap.size w W) gb (hg : W.cell? ⟨gb, 0, none⟩ = some (.string name)) => indexF.calls A c l gb _ W (Kd.C_below hr hW) (find1.calls name gb W hg))
 have hidx : idxP (fun x => x.f0.toList == name.toList) l = (match l.findIdx? (fun x => x.f0.toList == name.toList) with | some i => (i : Int) | none => -1) := rfl
 clear hr
 have HG := Aside0.mk (show ∀ w1 : World, Below ((w.alloc (.cells #[.string name] 9)).alloc (.cells #[.string ⟨#[]⟩, .int .i64 0, .slice none 0 0] 43)).heap.size ((w.alloc (.cells #[.string name] 9)).alloc (.cells #[.string ⟨#[]⟩, .int .i64 0, .slice none 0 0] 43)) w1 → w1.heap[w.heap.size + 1]? = some (.cells #[.string ⟨#[]⟩, .int .i64 0, .slice none 0 0] 43 (0, 0)) ∧ Below w.heap.size w w1 from fun w1 hb => by
  have h1 := blk_below (blk_new (w.alloc (.cells #[.string name] 9)) (.cells #[.string ⟨#[]⟩, .int .i64 0, .slice none 0 0] 43)) hb
  have h2 : (w.alloc (.cells #[.string name] 9)).heap.size = w.heap.size + 1 := by simp
  rw [h2] at h1
  exact ⟨h1, (below_alloc (below_alloc (Below.refl _ w) _) _).trans (hb.mono (by simp; omega))⟩)
 have HP2 := Aside0.mk (HP.out ((w.alloc (.cells #[.string name] 9)).alloc (.cells #[.string ⟨#[]⟩, .int .i64 0, .slice none 0 0] 43)) (below_alloc (below_alloc (Below.refl _ w) _) _) w.heap.size (Lib.cell?_alloc_some _ (by simp)))
 clear HP
 cases hf : l.findIdx? (fun x => x.f0.toList == name.toList) with
 | none =>
  have hv : findV name l = (z43, false) := by unfold findV; rw [hf]
  rw [hf] at hidx
  rw [hv]
  simp only at hidx
  rw [hidx] at HP2
  clear hidx hf hv
  go_enter Tryd.func19, Tryd.ntmps19
  go_wp2_with (go_at_call 48; go_loud (refine HP2.out.mono ?_; rintro e w1 ⟨rfl, hb1⟩; obtain ⟨hbk0, hbw0⟩ := HG.out w1 hb1; have BK := Aside0.mk hbk0; have HB := Aside0.mk hbw0; clear hbk0 hbw0 hb1; have hc0 := blk_cell BK.out 0; have hc1 := blk_cell BK.out 1; have hc2 := blk_cell BK.out 2; have hf0 := blk_frozen BK.out 0; have hf1 := blk_frozen BK.out 1; have hf2 := blk_frozen BK.out 2))
  refine bodyPost_ret (results_ct rfl _ _ (w.heap.size + 1) 43 #[.string ⟨#[]⟩, .int .i64 0, .slice none 0 0] (0, 0) _ rfl (blk_put (cs := #[.string ⟨#[]⟩, .int .i64 0, .slice none 0 0]) (blk_put (cs := #[.string ⟨#[]⟩, .int .i64 0, .slice none 0 0]) (blk_put BK.out 0 _ rfl) 1 _ rfl) 2 _ rfl) Tryd.underlying43 rfl (by kernel_rfl)) rfl ?_
  exact ⟨⟨none, 0, rfl, Nat.le_refl _, Kd.C_nil _ _⟩, below_set (below_set (below_set HB.out (by omega)) (by omega)) (by omega)⟩
 | some i =>
  have hlt : i < l.length := by
   rw [List.findIdx?_eq_some_iff_getElem] at hf
   exact hf.1
  have hv : findV name l = (rd_T43 l (i : Int), true) := by unfold findV; rw [hf]
  rw [hf] at hidx
  rw [hv]
  simp only at hidx
  rw [hidx] at HP2
  have hi0 : (0 : Int) ≤ (i : Int) := by omega
  have hi1 : (i : Int) < (l.length : Int) := by omega
  obtain ⟨ad, A2, c2, rfl, hx0, hx1, hx2, hl2, hC⟩ := at_T43 HR.out (i : Int) hi0 hi1
  have HX := Aside0.mk (show ∀ w1 : World, Below w.heap.size w w1 → w1.cell? (ad.add (i * 3)) = some (.string (rd_T43 l (i : Int)).f0) ∧ w1.cell? ⟨(ad.add (i * 3)).block, (ad.add (i * 3)).off + 1, none⟩ = some (.int .i64 (rd_T43 l (i : Int)).f1) ∧ w1.cell? ⟨(ad.add (i * 3)).block, (ad.add (i * 3)).off + 2, none⟩ = some (.slice A2 (rd_T43 l (i : Int)).f2.length c2) from fun w1 hb =>
   ⟨(hb.cell (World.block_lt_of_cell? w _ hx0)).trans hx0, (hb.cell (World.block_lt_of_cell? w _ hx1)).trans hx1, (hb.cell (World.block_lt_of_cell? w _ hx2)).trans hx2⟩)
  have HC := Aside0.mk hC
  clear hidx hf hv hx0 hx1 hx2 hC
  generalize rd_T43 l (i : Int) = y at HX HC hl2 ⊢
  go_enter Tryd.func19, Tryd.ntmps19
  go_wp2_with (go_at_call 48; go_loud (refine HP2.out.mono ?_; rintro e w1 ⟨rfl, hb1⟩; obtain ⟨hbk0, hbw0⟩ := HG.out w1 hb1; have BK := Aside0.mk hbk0; have HB := Aside0.mk hbw0; clear hbk0 hbw0 hb1; obtain ⟨hy0, hy1, hy2⟩ := HX.out w1 HB.out; have hc0 := blk_cell BK.out 0; have hc1 := blk_cell BK.out 1; have hc2 := blk_cell BK.out 2; have hf0 := blk_frozen BK.out 0; have hf1 := blk_frozen BK.out 1; have hf2 := blk_frozen BK.out 2))
  refine bodyPost_ret (results_ct rfl _ _ (w.heap.size + 1) 43 #[.string y.f0, .int .i64 y.f1, .slice A2 y.f2.length c2] (0, 0) _ rfl (blk_put (cs := #[.string y.f0, .int .i64 y.f1, .slice none 0 0]) (blk_put (cs := #[.string y.f0, .int .i64 0, .slice none 0 0]) (blk_put BK.out 0 _ rfl) 1 _ rfl) 2 _ rfl) Tryd.underlying43 rfl (by kernel_rfl)) rfl ?_
  exact ⟨⟨A2, c2, rfl, hl2, HC.out⟩, below_set (below_set (below_set HB.out (by omega)) (by omega)) (by omega)⟩
/-- A row with a file. -/
def withV (f : S43) (l : List S43) : List S43 := if isN f.f0 l = true then l.set (cntN f.f0 l) f else l.take (cntN f.f0 l) ++ f :: l.drop (cntN f.f0 l)
def fileC3 (f : S43) (A : Option Addr) (c : Nat) : List Value := [.string f.f0, .int .i64 f.f1, .slice A f.f2.length c]
theorem OwnP.set_ {w0 w : World} {g cap : Nat} {L : List Value} {ps : List Pr} (hg : w0.heap.size ≤ g) (hh : w.heap[g]? = some (.cells L.toArray 43 (0, 0))) (hcn : ps.length ≤ cap) (hcm : cap ≤ maxLen) (hLl : L.length = cap * 3) (hLt : L.take (ps.length * 3) = ps.flatMap (·.2)) (hK : ∀ p ∈ ps, (k43).K w0 p.1 p.2) (i : Nat) (hi : i < ps.length) (x : S43) (cs : List Value) (hx : (k43).K w0 x cs) : OwnP w0 (w.setCells g (i * 3) cs) (.slice (some ⟨g, 0, none⟩) ps.length cap) (ps.set i (x, cs)) := by
 have hc3 : cs.length = 3 := (k43).K_len hx
 have hps3 : ∀ p ∈ ps, p.2.length = 3 := fun p hp => (k43).K_len (hK p hp)
 have hh2 := blk_setCells g cs (i * 3) w L hh (by omega)
 refine OwnP.mk' hg hh2 (by rw [List.length_set]) hcn hcm (by simp only [List.length_append, List.length_take, List.length_drop]; omega) ?_ fun p hp => ?_
 ·exact flat_set ps hps3 i hi (x, cs) hc3 L ps.length rfl hLt (by omega)
 ·rcases List.mem_or_eq_of_mem_set hp with hp | rfl
  ·exact hK p hp
  ·exact hx
set_option maxHeartbeats 4000000 in
set_option maxRecDepth 100000 in
theorem withF.calls (A : Option Addr) (c : Nat) (l : List S43) (f : S43) (A2 : Option Addr) (c2 : Nat) (w : World) (hr : Kd.C k43 w A l.length l) (hl : l.length ≤ 1000000) (hm : ∀ a b (ha : a < l.length) (hb : b < l.length), a ≤ b → aheadN l[b].f0 f.f0 = true → aheadN l[a].f0 f.f0 = true)
  (hK : (k43).K w f (fileC3 f A2 c2)) :
  Calls Tryd.prog 21 #[.slice A l.length c, .agg #[.string f.f0, .int .i64 f.f1, .slice A2 f.f2.length c2]] w fun e w' => ∃ v ps, e = .returned v ∧ ps.map (·.1) = withV f l ∧ OwnP w w' v ps ∧ Below w.heap.size w w' := by
 have hu := Tryd.underlying43
 have HP := Aside0.mk (fun W (hW : Below w.heap.size w W) => place.calls A c l f.f0 W (Kd.C_below hr hW) hl hm)
 have HCL := Aside0.mk (fun W (hW : Below w.heap.size w W) => cloneF.calls A c l w W hr hW hl)
 have HK := Aside0.mk hK
 have hW0 : Below w.heap.size w (w.alloc (.cells #[.string f.f0, .int .i64 f.f1, .slice A2 f.f2.length c2] 43)) := below_alloc (Below.refl _ w) _
 have hFB : (w.alloc (.cells #[.string f.f0, .int .i64 f.f1, .slice A2 f.f2.length c2] 43)).heap[w.heap.size]? = some (.cells #[.string f.f0, .int .i64 f.f1, .slice A2 f.f2.length c2] 43 (0, 0)) := blk_new w _
 have HW0 := Aside0.mk hW0
 have HFB := Aside0.mk hFB
 have CNL := Aside0.mk (show cntN f.f0 l ≤ l.length from List.countP_le_length)
 have HV := Aside0.mk (show withV f l = if isN f.f0 l = true then l.set (cntN f.f0 l) f else l.take (cntN f.f0 l) ++ f :: l.drop (cntN f.f0 l) from rfl)
 have HI := Aside0.mk (show isN f.f0 l = true → cntN f.f0 l < l.length from fun h => by unfold isN at h; simp only [Bool.and_eq_true, decide_eq_true_eq] at h; exact h.1)
 clear hr hm hK hW0 hFB
 generalize withV f l = res at HV ⊢
 generalize cntN f.f0 l = cnt at HP HV CNL HI
 generalize isN f.f0 l = is at HP HV HI
 cases is with
 | true =>
  have hlt := HI.out rfl
  have HV2 := Aside0.mk (HV.out.trans (if_pos rfl))
  clear HI HV
  have HCW := Aside0.mk (show ∀ w1, Below w.heap.size w w1 → w1.heap[w.heap.size]? = some (.cells #[.string f.f0, .int .i64 f.f1, .slice A2 f.f2.length c2] 43 (0, 0)) → Calls Tryd.prog 51 #[.slice A l.length c] w1 fun e w' => ∃ g cap L, e = .returned (.slice (some ⟨g, 0, none⟩) l.length cap) ∧ w'.heap[w.heap.size]? = some (.cells #[.string f.f0, .int .i64 f.f1, .slice A2 f.f2.length c2] 43 (0, 0)) ∧ w'.heap[g]? = some (.cells (L : List Value).toArray 43 (0, 0)) ∧ L.length = cap * 3 ∧ l.length ≤ cap ∧ cap ≤ maxLen ∧ (∃ ps, ps.map (·.1) = l.set cnt f ∧ OwnP w (w'.setCells g (cnt * 3) (fileC3 f A2 c2)) (.slice (some ⟨g, 0, none⟩) l.length cap) ps) ∧ w.heap.size ≤ g ∧ Below w.heap.size w w' from fun w1 hb1 hf1 => by
   refine (HCL.out w1 hb1).mono ?_
   rintro e w' ⟨v, ps, rfl, he, ho, hb2⟩
   have hpl : ps.length = l.length := by rw [← he, List.length_map]
   rcases ho.block with ⟨rfl, rfl⟩ | ⟨g, cap, L, rfl, hg, hh, hcn, hcm, hLl, hLt⟩
   ·simp at hpl; omega
   ·refine ⟨g, cap, L, by rw [hpl], blk_below hf1 hb2, hh, hLl, by omega, hcm, ⟨ps.set cnt (f, fileC3 f A2 c2), by rw [List.map_set, he], ?_⟩, hg, hb1.trans (hb2.mono (below_size hb1))⟩
    have := OwnP.set_ hg hh hcn hcm hLl hLt ho.2 cnt (by omega) f (fileC3 f A2 c2) HK.out
    rwa [hpl] at this)
  go_enter Tryd.func21, Tryd.ntmps21
  go_wp2_with (first
   | (go_at_call 50; go_loud (refine (HP.out _ HW0.out).mono ?_; rintro e w1 ⟨rfl, hb1⟩; have HB1 := Aside0.mk (HW0.out.trans (hb1.mono (below_size HW0.out))); have HF1 := Aside0.mk (blk_below HFB.out hb1); clear hb1))
   | (go_at_call 51; go_loud (refine (HCW.out _ HB1.out HF1.out).mono ?_; rintro e w2 ⟨g, cap, L, rfl, hf2, hh2, hLl, hcn, hcm, hown, hg, hb2⟩; have hc0 := blk_cell hf2 0; have hc1 := blk_cell hf2 1; have hc2 := blk_cell hf2 2; obtain ⟨u0, k0⟩ : ∃ u, w2.cell? ⟨g, cnt * 3, none⟩ = some u := ⟨_, (cell_of_list hh2 _).trans (List.getElem?_eq_getElem (by omega))⟩; obtain ⟨u1, k1⟩ : ∃ u, w2.cell? ⟨g, cnt * 3 + 1, none⟩ = some u := ⟨_, (cell_of_list hh2 _).trans (List.getElem?_eq_getElem (by omega))⟩; obtain ⟨u2, k2⟩ : ∃ u, w2.cell? ⟨g, cnt * 3 + 2, none⟩ = some u := ⟨_, (cell_of_list hh2 _).trans (List.getElem?_eq_getElem (by omega))⟩; have z0 := frozen_of_list hh2 (cnt * 3); have z1 := frozen_of_list hh2 (cnt * 3 + 1); have z2 := frozen_of_list hh2 (cnt * 3 + 2); have HOWN := Aside0.mk hown; have HG := Aside0.mk (show w.heap.size ≤ g ∧ Below w.heap.size w w2 from ⟨hg, hb2⟩); have hltz : (cnt : Int) < (l.length : Int) := (by omega); have hnn : (0 : Int) ≤ (cnt : Int) := (by omega); clear hf2 hh2 hLl hcn hcm hown hg hb2)))
  go_ret
  obtain ⟨ps, e1, h1⟩ := HOWN.out
  exact ⟨_, ps, rfl, by rw [e1, HV2.out], h1, below_set (below_set (below_set HG.out.2 HG.out.1) HG.out.1) HG.out.1⟩
 | false =>
  have HV2 := Aside0.mk (HV.out.trans (if_neg Bool.false_ne_true))
  clear HI HV
  have HCW := Aside0.mk (show ∀ w1, Below w.heap.size w w1 → w1.heap[w.heap.size]? = some (.cells #[.string f.f0, .int .i64 f.f1, .slice A2 f.f2.length c2] 43 (0, 0)) → Calls Tryd.prog 51 #[.slice A l.length c] w1 fun e w' => ∃ v ps, e = .returned v ∧ w'.heap[w.heap.size]? = some (.cells #[.string f.f0, .int .i64 f.f1, .slice A2 f.f2.length c2] 43 (0, 0)) ∧ ps.map (·.1) = l ∧ OwnP w w' v ps ∧ Below w.heap.size w w' from fun w1 hb1 hf1 => by
   refine (HCL.out w1 hb1).mono ?_
   rintro e w' ⟨v, ps, rfl, he, ho, hb2⟩
   exact ⟨v, ps, rfl, blk_below hf1 hb2, he, ho, hb1.trans (hb2.mono (below_size hb1))⟩)
  have HINS := Aside0.mk (show ∀ w2 v ps, ps.map (·.1) = l → OwnP w w2 v ps → Below w.heap.size w w2 → Calls Tryd.prog 52 #[v, .int .i64 cnt, .slice (some ⟨w2.heap.size, 0, none⟩) 1 1] (w2.alloc (.cells #[.string f.f0, .int .i64 f.f1, .slice A2 f.f2.length c2] 43)) fun e w' => ∃ v' ps', e = .returned v' ∧ ps'.map (·.1) = l.take cnt ++ f :: l.drop cnt ∧ OwnP w w' v' ps' ∧ Below w.heap.size w w' from fun w2 v ps he ho hb2 => by
   have hpl : ps.length = l.length := by rw [← he, List.length_map]
   have hblk := blk_new w2 (.cells #[.string f.f0, .int .i64 f.f1, .slice A2 f.f2.length c2] 43)
   refine (insertF.calls w _ v ps cnt f (fileC3 f A2 c2) w2.heap.size ⟨own_alloc ho.1 _, ho.2⟩ (below_alloc hb2 _) (by rw [hpl]; exact CNL.out) (by omega) HK.out hblk ?_).mono ?_
   ·intro h
    have := own_lt ho.1 _ h
    omega
   ·rintro e w' ⟨v', rfl, ho', hb'⟩
    exact ⟨v', _, rfl, by rw [List.map_append, List.map_cons, List.map_take, List.map_drop, he], ho', hb'⟩)
  go_enter Tryd.func21, Tryd.ntmps21
  go_wp2_with (first
   | (go_at_call 50; go_loud (refine (HP.out _ HW0.out).mono ?_; rintro e w1 ⟨rfl, hb1⟩; have HB1 := Aside0.mk (HW0.out.trans (hb1.mono (below_size HW0.out))); have HF1 := Aside0.mk (blk_below HFB.out hb1); clear hb1))
   | (go_at_call 51; go_loud (refine (HCW.out _ HB1.out HF1.out).mono ?_; rintro e w2 ⟨v, ps, rfl, hf2, he, ho, hb2⟩; have hc0 := blk_cell hf2 0; have hc1 := blk_cell hf2 1; have hc2 := blk_cell hf2 2; have HO := Aside0.mk ho; have HE := Aside0.mk he; have HB2 := Aside0.mk hb2; clear hf2 ho he hb2))
   | (go_at_call 52; go_loud (refine (HINS.out w2 v ps HE.out HO.out HB2.out).mono ?_; rintro e w3 ⟨v', ps', rfl, he3, ho3, hb3⟩; have HFIN := Aside0.mk (show ps'.map (·.1) = l.take cnt ++ f :: l.drop cnt ∧ OwnP w w3 v' ps' ∧ Below w.heap.size w w3 from ⟨he3, ho3, hb3⟩); clear he3 ho3 hb3)))
  go_ret
  obtain ⟨e1, h1, h2⟩ := HFIN.out
  exact ⟨_, ps', rfl, by rw [e1, HV2.out], h1, h2⟩
end Go.Proofs.YtppbcankhkgpfaaDoor.PDq
namespace Go.Proofs.YtppbcankhkgpfaaDoor.PDq
open Go.RowKit Go.Proofs.YtppbcankhkgpfaaDoorW.PrintWords Go.Proofs.YtppbcankhkgpfaaDoorW.PrintLast Go.Proofs.YtppbcankhkgpfaaDoorW.PrintMore
attribute [local go_sem] max2_int min2_int max_two min_two max_three min_three max_four min_four
attribute [local go_sem high] hw_str_leq hw_str_gtr
set_option linter.unusedVariables false
set_option linter.unusedSimpArgs false
theorem run_clear_k {P : Program} (w : World) (t e ty : TypeId) (z : Value) (ht : P.underlying t = some (.slice e)) (hv : ∀ w, (zeroValue e).run P w = .ok z w) (b o n c : Nat) (hn : 0 < n) (zs : List Value) (hzs : zs = (Builtin.zeroCells z.cells n).toList) (h1 : ∀ v ∈ zs, v.oneCell' = true)
  (hc : ∀ j, j < zs.length → (w.cell? ⟨b, o + j, none⟩).isSome = true) (hf : ∀ j, j < zs.length → w.frozen? ⟨b, o + j, none⟩ = false) :
  (Builtin.clear_ #[t] ty #[.slice (some ⟨b, o, none⟩) n c]).run P w = .ok (.tuple #[]) (w.setCells b o zs) := by
 have hst := run_storeCells_cells (P := P) b o zs 0 w (by simpa using hc) (by simpa using hf) h1
 simp only [Nat.add_zero] at hst
 obtain ⟨m, rfl⟩ : ∃ m, n = m + 1 := ⟨n - 1, by omega⟩
 simp [Builtin.clear_, run_underlying ht, hv, ← hzs, hst]
theorem zeros3 (a b c : Value) (n : Nat) (h : a.oneCell' = true ∧ b.oneCell' = true ∧ c.oneCell' = true) : ((Builtin.zeroCells #[a, b, c] n).toList).length = n * 3 ∧ ∀ v ∈ (Builtin.zeroCells #[a, b, c] n).toList, v.oneCell' = true := by
 refine ⟨by simp [Builtin.zeroCells], fun v hv => ?_⟩
 simp only [Builtin.zeroCells, Array.toList_map, List.mem_map] at hv
 obtain ⟨i, _, rfl⟩ := hv
 have hm : i % 3 = 0 ∨ i % 3 = 1 ∨ i % 3 = 2 := by omega
 show ((#[a, b, c] : Array Value)[i % 3]!).oneCell' = true
 rcases hm with e | e | e
 ·rw [e]; exact h.1
 ·rw [e]; exact h.2.1
 ·rw [e]; exact h.2.2
theorem del_keep {L p2 : List Value} {n i j cap : Nat} (hl : L.length = cap * 3) (hn : n ≤ cap) (hij : i < j) (hj : j < n) (hp : p2.length = 3) :
  (L.take (i * 3) ++ p2 ++ L.drop (i * 3 + p2.length)).length = cap * 3 ∧ (L.take (i * 3) ++ p2 ++ L.drop (i * 3 + p2.length)).take ((i + 1) * 3) = L.take (i * 3) ++ p2 ∧ ((L.take (i * 3) ++ p2 ++ L.drop (i * 3 + p2.length)).take (n * 3)).drop ((j + 1) * 3) = (L.take (n * 3)).drop ((j + 1) * 3) := by
 have e1 : (L.take (i * 3) ++ p2).length = (i + 1) * 3 := by rw [List.length_append, List.length_take]; omega
 refine ⟨by simp only [List.length_append, List.length_take, List.length_drop]; omega, List.take_left' e1, ?_⟩
 rw [List.drop_take, List.drop_take]
 congr 1
 rw [hp, show (j + 1) * 3 = (i + 1) * 3 + (j - i) * 3 by omega, ← List.drop_drop, List.drop_left' e1, List.drop_drop]
 congr 1
 omega
theorem cells_at {L : List Value} {n j : Nat} {ps : List Pr} (hr : (L.take (n * 3)).drop (j * 3) = (ps.drop j).flatMap (·.2)) (hj : j < ps.length) (hn : ps.length = n) (hp : (ps[j]).2.length = 3) (t : Nat) (ht : t < 3) : L[j * 3 + t]? = (ps[j]).2[t]? := by
 have h1 : ((L.take (n * 3)).drop (j * 3))[t]? = L[j * 3 + t]? := by
  rw [List.getElem?_drop, List.getElem?_take, if_pos (by omega)]
 rw [← h1, hr, List.drop_eq_getElem_cons hj, List.flatMap_cons, List.getElem?_append_left (by omega)]
theorem cell_same {w w' : World} {a : Addr} (h : w'.heap[a.block]? = w.heap[a.block]?) : w'.cell? a = w.cell? a := by unfold World.cell?; rw [h]
theorem zeroV : ∀ w, (zeroValue 43).run Tryd.prog w = .ok (.agg #[.string ⟨#[]⟩, .int .i64 0, .slice none 0 0]) w := fun w => by
 obtain ⟨i0, hi0, hz0, _, _⟩ := info_parts info43
 simp [zeroValue, typeInfo, hi0, hz0]
set_option maxHeartbeats 4000000 in
set_option maxRecDepth 100000 in
theorem deleteF.calls (w0 w : World) (v : Value) (ps : List Pr) (gb : Nat) (name : ByteArray) (ho : OwnP w0 w v ps) (hb : Below w0.heap.size w0 w) (hgb : w.cell? ⟨gb, 0, none⟩ = some (.string name)) (hne : v.ownBlock ≠ some gb) (hl : ps.length ≤ 1000000) :
  Calls Tryd.prog 53 #[v, .func (.func 54) #[] #[.pointer (some ⟨gb, 0, none⟩)]] w fun e w' => ∃ v', e = .returned v' ∧ OwnP w0 w' v' (ps.filter (fun p => !(p.1.f0.toList == name.toList))) ∧ Below w0.heap.size w0 w' := by
 obtain ⟨A, c, hv, hlc, hC⟩ := ho.reads hb
 have hIF := indexG.calls A c (ps.map (·.1)) gb (fun x => x.f0.toList == name.toList) w hC (without1.calls name gb w hgb)
 rw [← hv] at hIF
 have hml : (ps.map (·.1)).length = ps.length := List.length_map ..
 have hu := Tryd.underlying43
 have HB := Aside0.mk hb
 have HO := Aside0.mk ho
 have hidx : idxP (fun x => x.f0.toList == name.toList) (ps.map (·.1)) = (match (ps.map (·.1)).findIdx? (fun x => x.f0.toList == name.toList) with | some i => (i : Int) | none => -1) := rfl
 cases hf : (ps.map (·.1)).findIdx? (fun x => x.f0.toList == name.toList) with
 | none =>
  rw [hf] at hidx
  simp only at hidx
  rw [hidx] at hIF
  have hall : ps.filter (fun p => !(p.1.f0.toList == name.toList)) = ps := by
   rw [List.filter_eq_self]
   intro p hp
   rw [List.findIdx?_eq_none_iff] at hf
   have := hf p.1 (List.mem_map_of_mem hp)
   simp only [this, Bool.not_false]
  have HIF := Aside0.mk hIF
  have HALL := Aside0.mk hall
  clear hf hidx hIF hC ho hb hgb hall hne hml hv hlc
  go_enter Tryd.func53, Tryd.ntmps53
  go_wp2_with (go_at_call 48; go_loud (refine HIF.out.mono ?_; rintro e w1 ⟨rfl, hb1⟩; have HB1 := Aside0.mk hb1; clear hb1))
  go_ret
  rw [HALL.out]
  exact ⟨v, rfl, ⟨pw_own_below HO.out.1 HB1.out, HO.out.2⟩, HB.out.trans (HB1.out.mono (below_size HB.out))⟩
 | some k0 =>
  rw [hf] at hidx
  simp only at hidx
  rw [hidx] at hIF
  rw [List.findIdx?_eq_some_iff_getElem] at hf
  obtain ⟨hk0, hk1, hk2⟩ := hf
  rw [hml] at hk0
  have HKP : Aside0 (∃ kp : Pr → Bool, kp = fun p => !(p.1.f0.toList == name.toList)) := ⟨_, rfl⟩
  obtain ⟨kp, hkp⟩ := HKP.out
  have hdrop : kp ps[k0] = false := by
   rw [List.getElem_map] at hk1
   simp only [hkp, hk1, Bool.not_true]
  have hkeep : ∀ p ∈ ps.take k0, kp p = true := fun p hp => by
   obtain ⟨j, hj, rfl⟩ := List.getElem_of_mem hp
   rw [List.length_take] at hj
   have := hk2 j (by omega)
   rw [List.getElem_map] at this
   rw [List.getElem_take]
   simp only [hkp]
   simpa using this
  have hfil : (ps.take (k0 + 1)).filter kp = ps.take k0 := by
   rw [List.take_succ_eq_append_getElem hk0, List.filter_append, List.filter_eq_self.2 hkeep, List.filter_cons_of_neg (by rw [hdrop]; decide), List.filter_nil, List.append_nil]
  rw [← hkp]
  rcases ho.block with ⟨rfl, rfl⟩ | ⟨g, cap, L, hv2, hg, hh, hcn, hcm, hLl, hLt⟩
  ·simp at hk0
  ·clear hv hlc hC hk1 hk2 hidx
   subst hv2
   have hne2 : gb ≠ g := fun h => hne (by rw [h]; rfl)
   have hglt : g < w.heap.size := blk_lt hh
   have hgblt : gb < w.heap.size := World.block_lt_of_cell? w _ hgb
   have hps3 := ho.len
   obtain ⟨n, hn⟩ : ∃ n, n = ps.length := ⟨_, rfl⟩
   have hst : ∀ w1, Below w.heap.size w w1 → w1.heap[g]? = some (.cells L.toArray 43 (0, 0)) ∧ L.length = cap * 3 ∧ L.take (k0 * 3) = ((ps.take (k0 + 1)).filter kp).flatMap (·.2) ∧ (L.take (n * 3)).drop ((k0 + 1) * 3) = (ps.drop (k0 + 1)).flatMap (·.2) ∧ k0 = ((ps.take (k0 + 1)).filter kp).length ∧ w1.cell? ⟨gb, 0, none⟩ = some (.string name) ∧ g < w1.heap.size ∧ gb < w1.heap.size ∧ Below w0.heap.size w0 w1 := fun w1 hb1 => by
    refine ⟨blk_below hh hb1, hLl, ?_, ?_, ?_, (hb1.cell hgblt).trans hgb, Nat.lt_of_lt_of_le hglt hb1.size, Nat.lt_of_lt_of_le hgblt hb1.size, hb.trans (hb1.mono (below_size hb))⟩
    ·rw [hfil, ← (flat_cut ps hps3 k0 (by omega)).1, ← hLt, List.take_take, Nat.min_eq_left (by omega)]
    ·rw [hn, hLt, (flat_cut ps hps3 (k0 + 1) (by omega)).2]
    ·rw [hfil, List.length_take]; omega
   have HST := Aside0.mk hst
   have HIF := Aside0.mk hIF
   have HNUM := Aside0.mk (show n = ps.length ∧ k0 < n ∧ n ≤ cap ∧ cap ≤ maxLen ∧ w0.heap.size ≤ g ∧ n ≤ 1000000 from ⟨hn, by omega, by omega, hcm, hg, by omega⟩)
   have HNE := Aside0.mk hne2
   have hn63 : n ≤ 9223372036854775807 := by omega
   have hk63 : k0 < n := by omega
   have hne1 : ((k0 : Int) == -1) = false := beq_eq_false_iff_ne.2 (by omega)
   rw [← hn] at HIF ⊢
   have HKP2 := Aside0.mk hkp
   clear hfil hkeep hdrop hst hIF hne2 hglt hgblt hps3 hn hne hgb hh hcn hcm hLl hLt hg ho hb hl hml hk0 hkp HKP
   go_enter Tryd.func53, Tryd.ntmps53
   go_wp2_with (go_at_call 48; go_loud (refine HIF.out.mono ?_; rintro e w1 ⟨rfl, hb1⟩; have HB1 := Aside0.mk hb1; clear hb1))
   go_loopg [5, 6, 7] n (fun gg s5 s6 s7 wr => ∃ (i j : Nat) (L : List Value), s5 = .int .i64 i ∧ s6 = .int .i64 j ∧ i < j ∧ j ≤ n ∧ n - j ≤ gg ∧ Aside0 (wr.heap[g]? = some (.cells L.toArray 43 (0, 0)) ∧ L.length = cap * 3 ∧ L.take (i * 3) = ((ps.take j).filter kp).flatMap (·.2) ∧ (L.take (n * 3)).drop (j * 3) = (ps.drop j).flatMap (·.2) ∧ i = ((ps.take j).filter kp).length ∧ wr.cell? ⟨gb, 0, none⟩ = some (.string name) ∧ g < wr.heap.size ∧ gb < wr.heap.size ∧ Below w0.heap.size w0 wr))
   case atStart => exact ⟨k0, k0 + 1, L, rfl, by go_num, by omega, by omega, by omega, ⟨HST.out w1 HB1.out⟩⟩
   case round =>
    clear HST HIF HB1
    obtain ⟨i, j, L, rfl, rfl, hij, hjn, hgg, HI⟩ := hrel
    by_cases hlt : j < n
    ·have hltz : decide ((j : Int) < (n : Int)) = true := decide_eq_true (by omega)
     have hj0 : (0 : Int) ≤ (j : Int) := by omega
     have hj1 : (j : Int) < (n : Int) := by omega
     have hjp : j < ps.length := by have := HNUM.out.1; omega
     obtain ⟨hh, hLl, hLi, hLr, hic, hgb, hglt, hgblt, hbw⟩ := HI.out
     have hp3 := HO.out.len ps[j] (List.getElem_mem hjp)
     obtain ⟨A2, c2, hcs, hl2, hC⟩ := k43_open (HO.out.2 ps[j] (List.getElem_mem hjp))
     have hcell : ∀ t, t < 3 → wr.cell? ⟨g, j * 3 + t, none⟩ = (ps[j]).2[t]? := fun t ht => (cell_of_list hh _).trans (cells_at hLr hjp HNUM.out.1.symm hp3 t ht)
     rw [hcs] at hcell
     have hx0 := hcell 0 (by decide)
     have hx1 := hcell 1 (by decide)
     have hx2 := hcell 2 (by decide)
     simp only [Nat.add_zero, List.getElem?_cons_zero, List.getElem?_cons_succ] at hx0 hx1 hx2
     have hkpj : kp ps[j] = !((ps[j]).1.f0.toList == name.toList) := by rw [HKP2.out]
     obtain ⟨x, hx⟩ : ∃ x, x = (ps[j]).1 := ⟨_, rfl⟩
     rw [← hx] at hcs hl2 hC hx0 hx1 hx2 hkpj
     have hbx := And.intro (blk_new wr (.cells #[.string x.f0, .int .i64 x.f1, .slice A2 x.f2.length c2] 43)) (below_alloc (Below.refl _ wr) (.cells #[.string x.f0, .int .i64 x.f1, .slice A2 x.f2.length c2] 43))
     have hcall := (without1.calls name gb _ ((hbx.2.cell hgblt).trans hgb) _ x A2 c2 (Below.refl _ _)).mono fun e w' (h : e = .returned (.bool (x.f0.toList == name.toList)) ∧ Below _ _ w') => (show e = .returned (.bool (x.f0.toList == name.toList)) ∧ w'.heap[wr.heap.size]? = some (.cells #[.string x.f0, .int .i64 x.f1, .slice A2 x.f2.length c2] 43 (0, 0)) ∧ w'.heap[g]? = some (.cells L.toArray 43 (0, 0)) ∧ w'.cell? ⟨gb, 0, none⟩ = some (.string name) ∧ g < w'.heap.size ∧ gb < w'.heap.size ∧ Below w0.heap.size w0 w' from
      ⟨h.1, blk_below hbx.1 h.2, (blk_below (blk_below hh hbx.2) h.2), (h.2.cell (Nat.lt_of_lt_of_le hgblt hbx.2.size)).trans ((hbx.2.cell hgblt).trans hgb), Nat.lt_of_lt_of_le hglt (Nat.le_trans hbx.2.size h.2.size), Nat.lt_of_lt_of_le hgblt (Nat.le_trans hbx.2.size h.2.size), (hbw.trans (hbx.2.mono (below_size hbw))).trans (h.2.mono (Nat.le_trans (below_size hbw) hbx.2.size))⟩)
     have HCALL := Aside0.mk hcall
     have htk : ps.take (j + 1) = ps.take j ++ [ps[j]] := List.take_succ_eq_append_getElem hjp
     have hdr : (ps.drop (j + 1)).flatMap (·.2) = (L.take (n * 3)).drop ((j + 1) * 3) := by
      have e1 : ((L.take (n * 3)).drop (j * 3)).drop 3 = (L.take (n * 3)).drop ((j + 1) * 3) := by rw [List.drop_drop]; congr 1; omega
      rw [← e1, hLr, List.drop_eq_getElem_cons hjp, List.flatMap_cons, ← hp3, List.drop_left]
     have HL := Aside0.mk (show L.length = cap * 3 ∧ L.take (i * 3) = ((ps.take j).filter kp).flatMap (·.2) ∧ i = ((ps.take j).filter kp).length ∧ (ps[j]).2.length = 3 ∧ ps.take (j + 1) = ps.take j ++ [ps[j]] ∧ (ps.drop (j + 1)).flatMap (·.2) = (L.take (n * 3)).drop ((j + 1) * 3) ∧ (ps[j]).2 = [.string x.f0, .int .i64 x.f1, .slice A2 x.f2.length c2] from ⟨hLl, hLi, hic, hp3, htk, hdr, hcs⟩)
     cases hq : (x.f0.toList == name.toList) with
     | true =>
      rw [hq] at HCALL hkpj
      have HQ := Aside0.mk hkpj
      clear hh hLl hLi hLr hic hgb hglt hgblt hbw hp3 hcs hl2 hC hcell hkpj hx hbx hcall htk hdr hq
      go_wp2_with (go_at_call 54; go_loud (refine HCALL.out.mono ?_; rintro e w5 ⟨rfl, hh5⟩; have H5 := Aside0.mk hh5; clear hh5))
      go_roundg (n - (j + 1))
      case measure => omega
      case rel =>
       obtain ⟨_, hh5, hgb5, hg5, hgb5', hb5⟩ := H5.out
       obtain ⟨hLl, hLi, hic, hp3, htk, hdr, hcs⟩ := HL.out
       have hff : (ps.take (j + 1)).filter kp = (ps.take j).filter kp := by rw [htk, List.filter_append, List.filter_cons_of_neg (by rw [HQ.out]; decide), List.filter_nil, List.append_nil]
       exact ⟨i, j + 1, L, rfl, by go_num, by omega, by omega, Nat.le_refl _, ⟨hh5, hLl, by rw [hff]; exact hLi, hdr.symm, by rw [hff]; exact hic, hgb5, hg5, hgb5', hb5⟩⟩
     | false =>
      rw [hq] at HCALL hkpj
      have HQ := Aside0.mk hkpj
      have hi0 : (0 : Int) ≤ (i : Int) := by omega
      have hi1 : (i : Int) < (n : Int) := by omega
      clear hh hLl hLi hLr hic hgb hglt hgblt hbw hp3 hcs hl2 hC hcell hkpj hx hbx hcall htk hdr hq
      go_wp2_with (go_at_call 54; go_loud (refine HCALL.out.mono ?_; rintro e w5 ⟨rfl, hh5⟩; have hb0 := blk_cell hh5.1 0; have hb1 := blk_cell hh5.1 1; have hb2 := blk_cell hh5.1 2; obtain ⟨u0, k0_⟩ : ∃ u, w5.cell? ⟨g, i * 3, none⟩ = some u := ⟨_, (cell_of_list hh5.2.1 _).trans (List.getElem?_eq_getElem (by have h1_ := HL.out.1; have h2_ := HNUM.out.2.2.1; omega))⟩; obtain ⟨u1, k1_⟩ : ∃ u, w5.cell? ⟨g, i * 3 + 1, none⟩ = some u := ⟨_, (cell_of_list hh5.2.1 _).trans (List.getElem?_eq_getElem (by have h1_ := HL.out.1; have h2_ := HNUM.out.2.2.1; omega))⟩; obtain ⟨u2, k2_⟩ : ∃ u, w5.cell? ⟨g, i * 3 + 2, none⟩ = some u := ⟨_, (cell_of_list hh5.2.1 _).trans (List.getElem?_eq_getElem (by have h1_ := HL.out.1; have h2_ := HNUM.out.2.2.1; omega))⟩; have z0 := frozen_of_list hh5.2.1 (i * 3); have z1 := frozen_of_list hh5.2.1 (i * 3 + 1); have z2 := frozen_of_list hh5.2.1 (i * 3 + 2); have H5 := Aside0.mk hh5; clear hh5))
      go_roundg (n - (j + 1))
      case measure => omega
      case rel =>
       obtain ⟨_, hh5, hgb5, hg5, hgb5', hb5⟩ := H5.out
       obtain ⟨hLl, hLi, hic, hp3, htk, hdr, hcs⟩ := HL.out
       obtain ⟨hn, hk0, hncap, hcm, hg0, hnm⟩ := HNUM.out
       obtain ⟨d1, d2, d3⟩ := del_keep hLl hncap hij hlt hp3
       have hff : (ps.take (j + 1)).filter kp = (ps.take j).filter kp ++ [ps[j]] := by rw [htk, List.filter_append, List.filter_cons_of_pos (by rw [HQ.out]; rfl), List.filter_nil]
       have hh6 := blk_setCells g (ps[j]).2 (i * 3) w5 L hh5 (by omega)
       refine ⟨i + 1, j + 1, L.take (i * 3) ++ (ps[j]).2 ++ L.drop (i * 3 + (ps[j]).2.length), by go_num, by go_num, by omega, by omega, Nat.le_refl _, ⟨?_, d1, ?_, by rw [d3]; exact hdr.symm, by rw [hff, List.length_append, ← hic]; rfl, ?_, by simpa using hg5, by simpa using hgb5', below_set (below_set (below_set hb5 hg0) hg0) hg0⟩⟩
       ·rw [hcs] at hh6 ⊢
        exact hh6
       ·rw [d2, hff, List.flatMap_append, ← hLi]; simp
       ·exact (cell_same (heap_setsK w5 g HNE.out [.string x.f0, .int .i64 x.f1, .slice A2 x.f2.length c2] (i * 3) w5)).trans hgb5
    ·obtain rfl : j = n := by omega
     have hltz : decide ((j : Int) < (j : Int)) = false := decide_eq_false (by omega)
     obtain ⟨hh, hLl, hLi, hLr, hic, hgb, hglt, hgblt, hbw⟩ := HI.out
     obtain ⟨hn, hk0, hncap, hcm, hg0, hnm⟩ := HNUM.out
     have hz := zeros3 (.string ⟨#[]⟩) (.int .i64 0) (.slice none 0 0) (j - i) ⟨rfl, rfl, rfl⟩
     obtain ⟨Z, hZ⟩ : ∃ Z, Z = (Builtin.zeroCells #[.string ⟨#[]⟩, .int .i64 0, .slice none 0 0] (j - i)).toList := ⟨_, rfl⟩
     rw [← hZ] at hz
     have hcl : ∀ ty c, (Builtin.clear_ #[24] ty #[.slice (some ⟨g, i * 3, none⟩) (j - i) c]).run Tryd.prog wr = .ok (.tuple #[]) (wr.setCells g (i * 3) Z) := fun ty c =>
      run_clear_k wr _ 43 ty _ Tryd.underlying24 zeroV g (i * 3) (j - i) c (by omega) Z hZ hz.2 (fun t ht => by rw [cell_of_list hh, List.getElem?_eq_getElem (by omega)]; rfl) (fun t ht => frozen_of_list hh _)
     have hh6 := blk_setCells g Z (i * 3) wr L hh (by omega)
     have hall : ps.take j = ps := List.take_of_length_le (by omega)
     rw [hall] at hLi hic
     have HFIN := Aside0.mk (show OwnP w0 (wr.setCells g (i * 3) Z) (.slice (some ⟨g, 0, none⟩) i cap) (ps.filter kp) ∧ Below w0.heap.size w0 (wr.setCells g (i * 3) Z) from
      ⟨OwnP.mk' hg0 hh6 hic (by omega) hcm (by simp only [List.length_append, List.length_take, List.length_drop]; omega) (by rw [List.append_assoc, List.take_left' (by rw [List.length_take]; omega)]; exact hLi) (fun p hp => HO.out.2 p ((List.mem_filter.1 hp).1)), below_sets hg0 _ _ hbw⟩)
     have hi0 : (0 : Int) ≤ (i : Int) := by omega
     have hi1 : (i : Int) ≤ (j : Int) := by omega
     have hi2 : (j : Int) ≤ (cap : Int) := by omega
     have hi3 : (cap : Int) ≤ 9223372036854775807 := by unfold maxLen at hcm; omega
     have hi4 : i ≤ j := by omega
     have hi5 : ¬ (cap = i) := by omega
     clear hh hLl hLi hLr hic hgb hglt hgblt hbw hn hk0 hncap hcm hg0 hnm hz hZ hh6 hall
     go_wp2_with (at_builtin; go_loud (simp only [hcl]))
     go_ret
     exact ⟨_, rfl, HFIN.out⟩
/-- A row without a name's files. -/
def withoutV (name : ByteArray) (l : List S43) : List S43 := l.filter fun x => !(x.f0.toList == name.toList)
set_option maxHeartbeats 2000000 in
set_option maxRecDepth 100000 in
theorem withoutF.calls (A : Option Addr) (c : Nat) (l : List S43) (name : ByteArray) (w : World) (hr : Kd.C k43 w A l.length l) (hl : l.length ≤ 1000000) :
  Calls Tryd.prog 23 #[.slice A l.length c, .string name] w fun e w' => ∃ v ps, e = .returned v ∧ ps.map (·.1) = withoutV name l ∧ OwnP w w' v ps ∧ Below w.heap.size w w' := by
 have hbox : Below w.heap.size w (w.alloc (.cells #[.string name] 9)) := below_alloc (Below.refl _ w) _
 have HCL := Aside0.mk ((cloneF.calls A c l w _ hr hbox hl).mono fun e w' (h : ∃ v ps, e = .returned v ∧ ps.map (·.1) = l ∧ OwnP w w' v ps ∧ Below (w.alloc (.cells #[.string name] 9)).heap.size (w.alloc (.cells #[.string name] 9)) w') => (show ∃ v ps, e = .returned v ∧ ps.map (·.1) = l ∧ OwnP w w' v ps ∧ w'.cell? ⟨w.heap.size, 0, none⟩ = some (.string name) ∧ v.ownBlock ≠ some w.heap.size ∧ Below w.heap.size w w' from by
  obtain ⟨v, ps, rfl, he, ho, hb⟩ := h
  refine ⟨v, ps, rfl, he, ho, (hb.cell (by simp)).trans (by simp), ?_, hbox.trans (hb.mono (by simp))⟩
  intro hv
  rcases ho.block with ⟨rfl, _⟩ | ⟨g, cap, L, rfl, hg, hh, _⟩
  ·simp [Value.ownBlock] at hv
  ·have e1 : g = w.heap.size := by simpa [Value.ownBlock] using hv
   subst e1
   have h1 := blk_below (blk_new w (.cells #[.string name] 9)) hb
   rw [h1] at hh
   injection hh with hh
   injection hh with _ hh
   exact absurd hh (by decide)))
 have HD := Aside0.mk (fun (w1 : World) v ps (he : ps.map (·.1) = l) (ho : OwnP w w1 v ps) (hg : w1.cell? ⟨w.heap.size, 0, none⟩ = some (.string name)) (hn : v.ownBlock ≠ some w.heap.size) (hb : Below w.heap.size w w1) => deleteF.calls w w1 v ps w.heap.size name ho hb hg hn (by rw [← List.length_map (f := (·.1)), he]; exact hl))
 clear hr hbox
 go_enter Tryd.func23, Tryd.ntmps23
 go_wp2_with (first
  | (go_at_call 51; go_loud (refine HCL.out.mono ?_; rintro e w1 ⟨v, ps, rfl, he, ho, hg, hn, hb⟩; have HE := Aside0.mk he; have HO := Aside0.mk ho; have HG := Aside0.mk hg; have HN := Aside0.mk hn; have HB := Aside0.mk hb; clear he ho hg hn hb))
  | (go_at_call 53; go_loud (refine (HD.out w1 v ps HE.out HO.out HG.out HN.out HB.out).mono ?_; rintro e w2 ⟨v2, rfl, ho2, hb2⟩; have HF := Aside0.mk (show OwnP w w2 v2 _ ∧ Below w.heap.size w w2 from ⟨ho2, hb2⟩); clear ho2 hb2)))
 go_ret
 refine ⟨v2, _, rfl, ?_, HF.out.1, HF.out.2⟩
 unfold withoutV
 rw [← HE.out, List.filter_map]
 rfl
end Go.Proofs.YtppbcankhkgpfaaDoor.PDq
