import Derived.Test.YtcclaidbikjhiaaGreatDoorPVox0
import Derived.Outline
import Derived.Lib.SliceRun
import Derived.Laws.NewBlocks
import Derived.Maps.AppendAt
import Derived.IntWalk
import Derived.RegionTactic
import Derived.ChangeAlike
import Derived.Lib.AppendZerosOnto
import Derived.Lib.Overlaps
import Derived.Laws.Externs
import Derived.Laws.IdiomCopy
import Derived.Deep.AppendSrc
import Derived.Shelf.RegionOpenPlain
--compressed
namespace Go.Proofs.YtcclaidbikjhiaaGreatDoor.PVo
open Go.RowKit Go.Proofs.YtcclaidbikjhiaaGreatDoorW.PrintWords Go.Proofs.YtcclaidbikjhiaaGreatDoorW.PrintLast Go.Proofs.YtcclaidbikjhiaaGreatDoorW.PrintMore
attribute [local go_sem] max2_int min2_int max_two min_two max_three min_three max_four min_four
set_option linter.unusedVariables false
set_option linter.unusedSimpArgs false
structure DV where
 now : List ByteArray
 last : List ByteArray
 pend : List (Int × ByteArray)
 left : Int
 down : Bool
structure DV.Ok (D : DV) : Prop where
 pos : 0 < D.now.length
 few : D.now.length ≤ 8192
 len : D.last.length = D.now.length
 lo : -1 ≤ D.left
 hi : D.left < 4611686018427387904
 at_ : ∀ p ∈ D.pend, 0 ≤ p.1 ∧ p.1 < (D.now.length : Int)
def pcells (l : List (Int × ByteArray)) : List Value := l.flatMap fun p => [.int .i64 p.1, .string p.2]
theorem pcells_len (l : List (Int × ByteArray)) : (pcells l).length = l.length * 2 := by
 induction l with
 | nil => rfl
 | cons p t ih => simp only [pcells, List.flatMap_cons, zO, List.length_cons, List.length_nil] at ih ⊢; omega
theorem pcells_snoc (l : List (Int × ByteArray)) (p : Int × ByteArray) : pcells (l ++ [p]) = pcells l ++ [.int .i64 p.1, .string p.2] := by simp [pcells, List.flatMap_append]
theorem own_slice {w : World} {base : Nat} {e : TypeId} {size : Nat} {v : Value} {n : Nat} {xs : List Value} (h : w.ownsRow base e size v n xs) (hn : 0 < n) : ∃ g c, v = .slice (some ⟨g, 0, none⟩) n c := by
 rcases h.2 with ⟨_, h2⟩ | ⟨g, cap, cur, rfl, _⟩
 ·omega
 ·exact ⟨g, cap, rfl⟩
structure DevC (w0 W : World) (S : Nat → Prop) (g : Nat) (vn vl vp : Value) (D : DV) : Prop where
 ok : D.Ok
 blk : W.heap[g]? = some (.cells #[vn, vl, vp, .int .i64 D.left, .bool D.down] 118 (0, 0))
 sg : S g
 sb : ∀ k, S k → w0.heap.size ≤ k ∧ k < W.heap.size
 now : W.ownsRow w0.heap.size 9 1 vn D.now.length (D.now.map .string)
 last : W.ownsRow w0.heap.size 9 1 vl D.last.length (D.last.map .string)
 pend : W.ownsRow w0.heap.size 123 2 vp D.pend.length (pcells D.pend)
 sn : ∀ k, vn.ownBlock = some k → S k
 sl : ∀ k, vl.ownBlock = some k → S k
 sp : ∀ k, vp.ownBlock = some k → S k
 ne : vn.ownBlock ≠ vl.ownBlock
def DevAt (w0 W : World) (S : Nat → Prop) (g : Nat) (D : DV) : Prop := ∃ vn vl vp, DevC w0 W S g vn vl vp D
theorem row_block {w : World} {base : Nat} {e : TypeId} {size : Nat} {v : Value} {n : Nat} {xs : List Value} (h : w.ownsRow base e size v n xs) {k : Nat} (hk : v.ownBlock = some k) : ∃ cur, w.heap[k]? = some (.cells cur e (0, 0)) := by
 rcases h.2 with ⟨rfl, _⟩ | ⟨g, cap, cur, rfl, _, hg, _⟩
 ·simp [Value.ownBlock] at hk
 ·simp [Value.ownBlock] at hk; subst hk; exact ⟨cur, hg⟩
theorem row_ne {w : World} {base : Nat} {e t : TypeId} {size g : Nat} {cs : Array Value} {v : Value} {n : Nat} {xs : List Value} (h : w.ownsRow base e size v n xs) (hb : w.heap[g]? = some (.cells cs t (0, 0))) (ht : t ≠ e) : v.ownBlock ≠ some g := fun hk => by
 obtain ⟨cur, hc⟩ := row_block h hk
 exact blk_ne hb hc ht rfl
theorem row_kept {w w' : World} {base : Nat} {e : TypeId} {size : Nat} {v : Value} {n : Nat} {xs : List Value} (h : w.ownsRow base e size v n xs) (hk : ∀ k, v.ownBlock = some k → w'.heap[k]? = w.heap[k]?) : w'.ownsRow base e size v n xs := by
 refine ⟨h.1, ?_⟩
 rcases h.2 with h2 | ⟨g, cap, cur, rfl, hb, hg, r⟩
 ·exact .inl h2
 ·exact .inr ⟨g, cap, cur, rfl, hb, (hk g rfl).trans hg, r⟩
theorem DevC.kept {w0 W W' : World} {S T : Nat → Prop} {g : Nat} {vn vl vp : Value} {D : DV} (h : DevC w0 W S g vn vl vp D) (hk : Kept W W' T) (hne : ∀ k, S k → ¬ T k) : DevC w0 W' S g vn vl vp D := by
 have hh : ∀ k, S k → W'.heap[k]? = W.heap[k]? := fun k hs => hk.2 k (h.sb k hs).2 (hne k hs)
 exact ⟨h.ok, (hh g h.sg).trans h.blk, h.sg, fun k hs => ⟨(h.sb k hs).1, Nat.lt_of_lt_of_le (h.sb k hs).2 hk.1⟩, row_kept h.now fun k hq => hh k (h.sn k hq), row_kept h.last fun k hq => hh k (h.sl k hq), row_kept h.pend fun k hq => hh k (h.sp k hq), h.sn, h.sl, h.sp, h.ne⟩
theorem DevAt.kept {w0 W W' : World} {S T : Nat → Prop} {g : Nat} {D : DV} (h : DevAt w0 W S g D) (hk : Kept W W' T) (hne : ∀ k, S k → ¬ T k) : DevAt w0 W' S g D := by
 obtain ⟨vn, vl, vp, h⟩ := h
 exact ⟨vn, vl, vp, h.kept hk hne⟩
theorem DevC.drewN {w0 W : World} {S : Nat → Prop} {g : Nat} {vn vl vp : Value} {D : DV} (h : DevC w0 W S g vn vl vp D) (m : Nat) : DevC w0 (W.drewN m) S g vn vl vp D := h.kept (Kept.drewN (Kept.refl W fun _ => False) m) fun _ _ h => h
theorem DevC.set3 {w0 W : World} {S : Nat → Prop} {g : Nat} {vn vl vp : Value} {D : DV} (h : DevC w0 W S g vn vl vp D) (x : Int) (hx : -1 ≤ x) (hx2 : x < 4611686018427387904) : DevC w0 (W.setCell ⟨g, 3, none⟩ (.int .i64 x)) S g vn vl vp { D with left := x } := by
 have hz : (W.setCell ⟨g, 3, none⟩ (.int .i64 x)).heap.size = W.heap.size := by simp [World.setCell]
 exact ⟨⟨h.ok.pos, h.ok.few, h.ok.len, hx, hx2, h.ok.at_⟩, by simpa using blk_set h.blk 3 (.int .i64 x), h.sg, fun k hs => ⟨(h.sb k hs).1, by rw [hz]; exact (h.sb k hs).2⟩, ownsRow_setCell_other h.now (row_ne h.now h.blk (by decide)) _, ownsRow_setCell_other h.last (row_ne h.last h.blk (by decide)) _, ownsRow_setCell_other h.pend (row_ne h.pend h.blk (by decide)) _, h.sn, h.sl, h.sp, h.ne⟩
theorem DevC.set4 {w0 W : World} {S : Nat → Prop} {g : Nat} {vn vl vp : Value} {D : DV} (h : DevC w0 W S g vn vl vp D) (x : Bool) : DevC w0 (W.setCell ⟨g, 4, none⟩ (.bool x)) S g vn vl vp { D with down := x } := by
 have hz : (W.setCell ⟨g, 4, none⟩ (.bool x)).heap.size = W.heap.size := by simp [World.setCell]
 exact ⟨⟨h.ok.pos, h.ok.few, h.ok.len, h.ok.lo, h.ok.hi, h.ok.at_⟩, by simpa using blk_set h.blk 4 (.bool x), h.sg, fun k hs => ⟨(h.sb k hs).1, by rw [hz]; exact (h.sb k hs).2⟩, ownsRow_setCell_other h.now (row_ne h.now h.blk (by decide)) _, ownsRow_setCell_other h.last (row_ne h.last h.blk (by decide)) _, ownsRow_setCell_other h.pend (row_ne h.pend h.blk (by decide)) _, h.sn, h.sl, h.sp, h.ne⟩
theorem own_set {w : World} {base : Nat} {e : TypeId} {v : Value} {n : Nat} {xs : List Value} (h : w.ownsRow base e 1 v n xs) {b c i : Nat} (hv : v = .slice (some ⟨b, 0, none⟩) n c) (u : Value) : (w.setCell ⟨b, i, none⟩ u).ownsRow base e 1 v n (xs.set i u) := by
 subst hv
 refine ⟨by rw [List.length_set]; exact h.1, ?_⟩
 rcases h.2 with ⟨h2, _⟩ | ⟨g, cap, cur, h2, hb, hg, r1, r2, r3, r4⟩
 ·exact absurd h2 (by simp)
 ·injection h2 with h2 _ h3
  injection h2 with h2
  injection h2 with h2
  subst h2
  subst h3
  exact .inr ⟨_, _, cur.setIfInBounds i u, rfl, hb, blk_set hg i u, r1, r2, by simpa using r3, by rw [Array.toList_setIfInBounds, List.take_set, r4]⟩
theorem DevC.setNow {w0 W : World} {S : Nat → Prop} {g gn cn : Nat} {vn vl vp : Value} {D : DV} (h : DevC w0 W S g vn vl vp D) (hv : vn = .slice (some ⟨gn, 0, none⟩) D.now.length cn) (i : Nat) (s : ByteArray) : DevC w0 (W.setCell ⟨gn, i, none⟩ (.string s)) S g vn vl vp { D with now := D.now.set i s } := by
 have hz : (W.setCell ⟨gn, i, none⟩ (.string s)).heap.size = W.heap.size := by simp [World.setCell]
 have hgn : vn.ownBlock = some gn := by rw [hv]; rfl
 obtain ⟨cur, hcur⟩ := row_block h.now hgn
 have hne : gn ≠ g := blk_ne hcur h.blk (by decide)
 have hn : ({ D with now := D.now.set i s } : DV).now.length = D.now.length := List.length_set
 refine ⟨⟨by rw [hn]; exact h.ok.pos, by rw [hn]; exact h.ok.few, by rw [hn]; exact h.ok.len, h.ok.lo, h.ok.hi, by rw [hn]; exact h.ok.at_⟩, blk_far h.blk (Ne.symm hne) _, h.sg, fun k hs => ⟨(h.sb k hs).1, by rw [hz]; exact (h.sb k hs).2⟩, ?_, ownsRow_setCell_other h.last (by rw [← hgn]; exact Ne.symm h.ne) _, ownsRow_setCell_other h.pend (fun hk => by obtain ⟨c2, hc2⟩ := row_block h.pend hk; exact blk_ne hcur hc2 (by decide) rfl) _, h.sn, h.sl, h.sp, h.ne⟩
 rw [hn]
 simpa [List.map_set] using own_set h.now hv (i := i) (.string s)
theorem own_ne_none {w : World} {base : Nat} {e e' : TypeId} {size size' : Nat} {v u : Value} {n m : Nat} {xs ys : List Value} (h : w.ownsRow base e size v n xs) (h' : w.ownsRow base e' size' u m ys) (hne : e ≠ e') : v.ownBlock = none ∨ v.ownBlock ≠ u.ownBlock := by
 cases hv : v.ownBlock with
 | none => exact .inl rfl
 | some k =>
  refine .inr fun hu => ?_
  obtain ⟨c1, h1⟩ := row_block h hv
  obtain ⟨c2, h2⟩ := row_block h' hu.symm
  exact blk_ne h1 h2 hne rfl
theorem DevC.setPend {w0 W W4 : World} {S : Nat → Prop} {g : Nat} {vn vl vp v4 : Value} {D : DV} (h : DevC w0 W S g vn vl vp D) {at_ : Int} {s : ByteArray} (ho4 : W4.ownsRow w0.heap.size 123 2 v4 (D.pend.length + 1) (pcells D.pend ++ [.int .i64 at_, .string s])) (hg4 : W.grownBy W4 vp.ownBlock) (hp : 0 ≤ at_ ∧ at_ < (D.now.length : Int)) :
  W4.heap[g]? = some (.cells #[vn, vl, vp, .int .i64 D.left, .bool D.down] 118 (0, 0)) ∧ DevC w0 (W4.setCell ⟨g, 2, none⟩ v4) (fun k => S k ∨ v4.ownBlock = some k) g vn vl v4 { D with pend := D.pend ++ [(at_, s)] } := by
 have hb : W4.heap[g]? = some (.cells #[vn, vl, vp, .int .i64 D.left, .bool D.down] 118 (0, 0)) := blk_grown h.blk hg4 (Ne.symm (row_ne h.pend h.blk (by decide)))
 have hz : (W4.setCell ⟨g, 2, none⟩ v4).heap.size = W4.heap.size := by simp [World.setCell]
 have hsz : W.heap.size ≤ W4.heap.size := hg4.size
 have hl : ({ D with pend := D.pend ++ [(at_, s)] } : DV).pend.length = D.pend.length + 1 := by simp
 refine ⟨hb, ⟨h.ok.pos, h.ok.few, h.ok.len, h.ok.lo, h.ok.hi, fun p hq => ?_⟩, by simpa using blk_set hb 2 v4, .inl h.sg, fun k hs => ?_, ownsRow_setCell_other (h.now.kept hg4 (own_ne_none h.now h.pend (by decide))) (row_ne h.now h.blk (by decide)) _, ownsRow_setCell_other (h.last.kept hg4 (own_ne_none h.last h.pend (by decide))) (row_ne h.last h.blk (by decide)) _, ?_, fun k hk => .inl (h.sn k hk), fun k hk => .inl (h.sl k hk), fun k hk => .inr hk, h.ne⟩
 ·rcases List.mem_append.1 hq with hq | hq
  ·exact h.ok.at_ p hq
  ·rw [List.mem_singleton.1 hq]; exact hp
 ·rw [hz]
  rcases hs with hs | hs
  ·exact ⟨(h.sb k hs).1, Nat.lt_of_lt_of_le (h.sb k hs).2 hsz⟩
  ·obtain ⟨c, hc⟩ := row_block ho4 hs
   exact ⟨own_base ho4 k hs, blk_lt hc⟩
 ·rw [hl, pcells_snoc]
  exact ownsRow_setCell_other ho4 (row_ne ho4 hb (by decide)) _
def DevTo (w0 W W' : World) (S : Nat → Prop) : Prop := Below w0.heap.size w0 W' ∧ Kept W W' S
def DV.spend (D : DV) : Int × DV := if D.left = 0 then (8, { D with down := true }) else if 0 < D.left then (0, { D with left := D.left - 1 }) else (0, D)
set_option maxHeartbeats 2000000 in
set_option maxRecDepth 100000 in
theorem dspend.calls (g : Nat) (S : Nat → Prop) (D : DV) (w0 w : World) (vn vl vp : Value) (hC : DevC w0 w S g vn vl vp D) (hB : Below w0.heap.size w0 w) :
  Calls Tryz.prog 69 #[.pointer (some ⟨g, 0, none⟩)] w fun e w' => e = .returned (.int .i64 D.spend.1) ∧ DevC w0 w' S g vn vl vp D.spend.2 ∧ DevTo w0 w w' S := by
 have h3 := (zN hC.blk 3).trans rfl
 have h4 := (zN hC.blk 4).trans rfl
 have f3 := zM hC.blk 3
 have f4 := zM hC.blk 4
 have hg := (hC.sb g hC.sg).1
 have HC := zA hC
 have HB := zA hB
 clear hC hB
 by_cases c0 : D.left = 0
 ·have b0 : (D.left == 0) = true := beq_iff_eq.mpr c0
  have hs : D.spend = (8, { D with down := true }) := if_pos c0
  rw [hs]
  go_enter Tryz.func69, Tryz.ntmps69
  go_wp2
  go_ret
  exact ⟨rfl, HC.out.set4 true, below_set HB.out hg, (Kept.refl w S).setCell (.inl HC.out.sg) _⟩
 ·have b0 : (D.left == 0) = false := beq_eq_false_iff_ne.mpr c0
  by_cases c1 : 0 < D.left
  ·have b1 : decide (0 < D.left) = true := zH c1
   have hs : D.spend = (0, { D with left := D.left - 1 }) := by rw [DV.spend, if_neg c0, if_pos c1]
   have hw : wrap64 (D.left - 1) = D.left - 1 := IntWalk.wrap64_in _ (by have := HC.out.ok.hi; constructor <;> omega)
   rw [hs]
   go_enter Tryz.func69, Tryz.ntmps69
   go_wp2
   go_ret
   exact ⟨rfl, HC.out.set3 (D.left - 1) (by omega) (by have := HC.out.ok.hi; omega), below_set HB.out hg, (Kept.refl w S).setCell (.inl HC.out.sg) _⟩
  ·have b1 : decide (0 < D.left) = false := zI c1
   have hs : D.spend = (0, D) := by rw [DV.spend, if_neg c0, if_neg c1]
   rw [hs]
   go_enter Tryz.func69, Tryz.ntmps69
   go_wp2
   go_ret
   exact ⟨rfl, HC.out, HB.out, Kept.refl w S⟩
def DV.wrong (D : DV) (at_ : Int) : Int := if D.down then 8 else if at_ < 0 ∨ (D.now.length : Int) ≤ at_ then 11 else 0
set_option maxHeartbeats 2000000 in
set_option maxRecDepth 100000 in
theorem dwrong.calls (g : Nat) (S : Nat → Prop) (D : DV) (at_ : Int) (w0 w : World) (vn vl vp : Value) (hC : DevC w0 w S g vn vl vp D) :
  Calls Tryz.prog 68 #[.pointer (some ⟨g, 0, none⟩), .int .i64 at_] w fun e w' => e = .returned (.int .i64 (D.wrong at_)) ∧ Drawn0 w w' := by
 have h0 := (zN hC.blk 0).trans rfl
 have h4 := (zN hC.blk 4).trans rfl
 have f0 := zM hC.blk 0
 have f4 := zM hC.blk 4
 obtain ⟨gn, cn, rfl⟩ := own_slice hC.now hC.ok.pos
 clear hC
 cases hd : D.down with
 | true =>
  rw [hd] at h4
  rw [DV.wrong, hd, if_pos rfl]
  go_enter Tryz.func68, Tryz.ntmps68
  go_wp2
  go_ret
  exact ⟨rfl, by repeat (first | exact Drawn0.refl _ | apply Drawn0.step)⟩
 | false =>
  rw [hd] at h4
  rw [DV.wrong, hd, if_neg (by decide)]
  by_cases c1 : at_ < 0
  ·have b1 : decide (at_ < 0) = true := zH c1
   rw [if_pos (.inl c1)]
   go_enter Tryz.func68, Tryz.ntmps68
   go_wp2
   go_ret
   exact ⟨rfl, by repeat (first | exact Drawn0.refl _ | apply Drawn0.step)⟩
  ·have b1 : decide (at_ < 0) = false := zI c1
   by_cases c2 : (D.now.length : Int) ≤ at_
   ·have b2 : decide ((D.now.length : Int) ≤ at_) = true := zH c2
    rw [if_pos (.inr c2)]
    go_enter Tryz.func68, Tryz.ntmps68
    go_wp2
    go_ret
    exact ⟨rfl, by repeat (first | exact Drawn0.refl _ | apply Drawn0.step)⟩
   ·have b2 : decide ((D.now.length : Int) ≤ at_) = false := zI c2
    rw [if_neg (by omega)]
    go_enter Tryz.func68, Tryz.ntmps68
    go_wp2
    go_ret
    exact ⟨rfl, by repeat (first | exact Drawn0.refl _ | apply Drawn0.step)⟩
theorem DevC.drawn {w0 W W' : World} {S : Nat → Prop} {g : Nat} {vn vl vp : Value} {D : DV} (h : DevC w0 W S g vn vl vp D) (hd : Drawn0 W W') : DevC w0 W' S g vn vl vp D := h.kept (T := fun _ => False) (zP hd.below _) fun _ _ h => h
theorem drawn_kept {W W' : World} (hd : Drawn0 W W') (S : Nat → Prop) : Kept W W' S := zP hd.below S
def DV.read (D : DV) (at_ : Int) : ByteArray × Int := if D.wrong at_ = 0 then (D.now.getD at_.toNat ⟨#[]⟩, 0) else (⟨#[]⟩, D.wrong at_)
theorem wrong_zero {D : DV} {at_ : Int} (h : D.wrong at_ = 0) : D.down = false ∧ 0 ≤ at_ ∧ at_ < (D.now.length : Int) := by
 unfold DV.wrong at h
 split at h
 ·omega
 ·rename_i hd
  split at h
  ·omega
  ·exact ⟨by simpa using hd, by omega, by omega⟩
theorem row_get {w : World} {base : Nat} {e : TypeId} {size : Nat} {v : Value} {n : Nat} {xs : List Value} (h : w.ownsRow base e size v n xs) {b c i : Nat} (hv : v = .slice (some ⟨b, 0, none⟩) n c) {u : Value} (hu : xs[i]? = some u) : w.cell? ⟨b, i, none⟩ = some u := by
 have := h.cells (g := b) (by rw [hv]; rfl) i u hu
 have hadd : (⟨b, 0, none⟩ : Addr).add i = ⟨b, i, none⟩ := by unfold Addr.add; split <;> simp_all
 rwa [hadd] at this
set_option maxHeartbeats 2000000 in
set_option maxRecDepth 100000 in
theorem dread.calls (g : Nat) (S : Nat → Prop) (D : DV) (at_ : Int) (w0 w : World) (vn vl vp : Value) (hC : DevC w0 w S g vn vl vp D) :
  Calls Tryz.prog 90 #[.pointer (some ⟨g, 0, none⟩), .int .i64 at_] w fun e w' => e = .returned (.tuple #[.string (D.read at_).1, .int .i64 (D.read at_).2]) ∧ Drawn0 w w' := by
 have HW := zA (dwrong.calls g S D at_ w0 · vn vl vp)
 obtain ⟨gn, cn, hvn⟩ := own_slice hC.now hC.ok.pos
 have HC := zA hC
 clear hC
 by_cases c0 : D.wrong at_ = 0
 ·have b0 : (D.wrong at_ == 0) = true := beq_iff_eq.mpr c0
  have b1 : (D.wrong at_ != 0) = false := bne_eq_false_iff_eq.mpr c0
  obtain ⟨hd, p1, p2⟩ := wrong_zero c0
  have q1 : decide (0 ≤ at_) = true := zH p1
  have q2 : decide (at_ < (D.now.length : Int)) = true := zH p2
  have hr : D.read at_ = (D.now.getD at_.toNat ⟨#[]⟩, 0) := if_pos c0
  rw [hr]
  obtain ⟨i, rfl⟩ := Int.eq_ofNat_of_zero_le p1
  have hi : i < D.now.length := by omega
  go_enter Tryz.func90, Tryz.ntmps90
  go_wp2_with (go_at_call 68; go_loud (refine (HW.out _ HC.out).mono ?_; rintro e w1 ⟨rfl, hd1⟩; have hc0 := (zN (HC.out.drawn hd1).blk 0).trans rfl; have hci := row_get (HC.out.drawn hd1).now hvn (i := i) (u := .string (D.now.getD i ⟨#[]⟩)) (by simp [hi]); have f0 := zM (HC.out.drawn hd1).blk 0; rw [hvn] at hc0))
  go_ret2
  exact ⟨by simp [hi], by repeat (first | exact hd1 | apply Drawn0.step)⟩
 ·have b0 : (D.wrong at_ == 0) = false := beq_eq_false_iff_ne.mpr c0
  have b1 : (D.wrong at_ != 0) = true := bne_iff_ne.mpr c0
  have hr : D.read at_ = (⟨#[]⟩, D.wrong at_) := if_neg c0
  rw [hr]
  go_enter Tryz.func90, Tryz.ntmps90
  go_wp2_with (go_at_call 68; go_loud (refine (HW.out _ HC.out).mono ?_; rintro e w1 ⟨rfl, hd1⟩))
  go_ret2
  exact ⟨rfl, by repeat (first | exact hd1 | apply Drawn0.step)⟩
theorem infoW : (Tryz.prog.info? 123).map (fun i => (i.zero, i.size, i.bytes)) = some (some (.agg #[(.int .i64 0), (.string ⟨#[]⟩)]), 2, 24) := by kernel_rfl
def DV.wrote (D : DV) (at_ : Int) (s : ByteArray) : DV := { D with now := D.now.set at_.toNat s, pend := D.pend ++ [(at_, s)] }
def DV.write (D : DV) (at_ : Int) (s : ByteArray) : Int × DV := if D.wrong at_ ≠ 0 then (D.wrong at_, D) else if s.size ≠ 64 then (1, D) else if D.spend.1 ≠ 0 then D.spend else (0, D.spend.2.wrote at_ s)
theorem spend_now (D : DV) : D.spend.2.now = D.now := by
 unfold DV.spend
 repeat' split
 all_goals rfl
theorem spend_pend (D : DV) : D.spend.2.pend = D.pend := by
 unfold DV.spend
 repeat' split
 all_goals rfl
def DevGrew (w0 w w' : World) (S : Nat → Prop) (g : Nat) (D : DV) : Prop := ∃ S' : Nat → Prop, DevAt w0 w' S' g D ∧ (∀ k, S k → S' k) ∧ (∀ k, S' k → S k ∨ w.heap.size ≤ k) ∧ DevTo w0 w w' S
set_option maxHeartbeats 4000000 in
set_option maxRecDepth 100000 in
theorem dwrite.calls (g : Nat) (S : Nat → Prop) (D : DV) (at_ : Int) (s : ByteArray) (w0 w : World) (hC : DevAt w0 w S g D) (hB : Below w0.heap.size w0 w) (hp : D.pend.length < 1000000) :
  Calls Tryz.prog 30 #[.pointer (some ⟨g, 0, none⟩), .int .i64 at_, .string s] w fun e w' => e = .returned (.int .i64 (D.write at_ s).1) ∧ DevGrew w0 w w' S g (D.write at_ s).2 := by
 obtain ⟨vn, vl, vp, hC⟩ := hC
 have HW := zA (dwrong.calls g S D at_ w0 · vn vl vp)
 have HS := zA (dspend.calls g S D w0 · vn vl vp)
 obtain ⟨gn, cn, hvn⟩ := own_slice hC.now hC.ok.pos
 have HC := zA hC
 have HB := zA hB
 clear hC hB
 by_cases c0 : D.wrong at_ = 0
 ·have b0 : (D.wrong at_ == 0) = true := beq_iff_eq.mpr c0
  have b1 : (D.wrong at_ != 0) = false := bne_eq_false_iff_eq.mpr c0
  obtain ⟨hd, p1, p2⟩ := wrong_zero c0
  obtain ⟨i, rfl⟩ := Int.eq_ofNat_of_zero_le p1
  have hi : i < D.now.length := by omega
  by_cases c1 : s.size = 64
  ·have b2 : ((s.size : Int) != 64) = false := by rw [c1]; rfl
   by_cases c2 : D.spend.1 = 0
   ·have b3 : (D.spend.1 != 0) = false := bne_eq_false_iff_eq.mpr c2
    have hr : D.write i s = (0, D.spend.2.wrote i s) := by rw [DV.write, if_neg (fun h => h c0), if_neg (fun h => h c1), if_neg (fun h => h c2)]
    rw [hr]
    go_enter Tryz.func30, Tryz.ntmps30
    go_wp2_with (first | (go_at_call 68; go_loud (refine (HW.out _ HC.out).mono ?_; rintro e w1 ⟨rfl, hd1⟩; have HD1 := zA hd1; clear hd1)))
    go_at_call 69
    refine (HS.out _ (HC.out.drawn HD1.out) (HB.out.trans (HD1.out.below.mono (below_size HB.out)))).mono ?_
    rintro e w2 ⟨rfl, hc2, hb2, hk2⟩
    have HC2 := zA hc2
    have HB2 := zA hb2
    have HK2 := zA ((drawn_kept HD1.out S).then_ hk2 fun _ h => .inl h)
    have hc0 := (zN hc2.blk 0).trans rfl
    have f0 := zM hc2.blk 0
    rw [hvn] at hc0
    obtain ⟨cur, hcur⟩ := row_block hc2.now (k := gn) (by rw [hvn]; rfl)
    have fn := zM hcur i
    have hnl : D.spend.2.now.length = D.now.length := by rw [spend_now]
    have hc3 := hc2.setNow (hvn.trans (by rw [hnl])) i s
    have h3c := (zN hc3.blk 2).trans rfl
    have f3c := zM hc3.blk 2
    have hne1 : gn ≠ g := blk_ne hcur hc2.blk (by decide)
    have hne2 : g ≠ gn := Ne.symm hne1
    have c2c := (zN hc2.blk 2).trans rfl
    have c2f := zM hc2.blk 2
    have hci := row_get hc2.now (hvn.trans (by rw [hnl])) (i := i) (u := .string (D.now.getD i ⟨#[]⟩)) (by simp [hi, spend_now])
    have hgb : w0.heap.size ≤ gn := own_base hc2.now gn (by rw [hvn]; rfl)
    clear hc2 hb2 hk2 hcur
    have HC3 := zA hc3
    clear hc3
    go_wp2_with (first | (at_builtin; go_loud (refine print_append_cells (w0 := w0) w0.heap.size rfl (.tmp 34) (.tmp 38) 116 123 (.agg #[.int .i64 0, .string (⟨#[]⟩ : ByteArray)]) 2 24 rfl Tryz.underlying116 infoW rfl (by decide) (by decide) vp D.spend.2.pend.length (pcells D.spend.2.pend) [.int .i64 i, .string s] rfl (show Value.slice (some ⟨w2.heap.size, 0, none⟩) 1 1 = _ by simp [World.setCell]) rfl (by simp [Value.oneCell']) ?aO ?aB ?aS ?aL ?_; (case aO => exact HC3.out.pend); (case aB => exact HB2.out.setCell hgb _); (case aS => have := below_size HB2.out; simp [World.setCell]; omega); (case aL => rw [spend_pend]; omega); intro v4 w4 ho4 hb4 hg4 hat4; obtain ⟨gp, cp, rfl⟩ := own_slice ho4 (Nat.succ_pos _); obtain ⟨hk4, hc4⟩ := HC3.out.setPend ho4 hg4 ⟨p1, by rw [List.length_set, hnl]; exact p2⟩; have c42 := zN hk4 2; have f42 := zM hk4 2; have HC4 := zA hc4; have HB4 := zA hb4; have HG4 := zA hg4; have HA4 := zA hat4; clear ho4 hb4 hg4 hat4 hk4 hc4)))
    go_ret
    have hw : D.spend.2.wrote i s = { D.spend.2 with now := D.spend.2.now.set i s, pend := D.spend.2.pend ++ [((i : Int), s)] } := rfl
    have hgs : w0.heap.size ≤ g := (HC4.out.sb g (.inl HC2.out.sg)).1
    have hk3 : Kept w (w2.setCell ⟨gn, i, none⟩ (.string s)) S := HK2.out.setCell (.inl (HC2.out.sn gn (by rw [hvn]; rfl))) _
    refine ⟨rfl, _, ⟨_, _, _, hw ▸ HC4.out⟩, fun k hk => .inl hk, fun k hk => ?_, below_set HB4.out hgs, (Kept.of_grown HG4.out hk3 fun k hk => .inl (HC2.out.sp k hk)).setCell (.inl HC2.out.sg) _⟩
    rcases hk with hk | hk
    ·exact .inl hk
    ·rcases HA4.out with ha | ⟨b, hb, hle⟩
     ·exact .inl (HC2.out.sp k (ha ▸ hk))
     ·rw [hb] at hk
      cases hk
      exact .inr (Nat.le_trans hk3.1 hle)
   ·have b3 : (D.spend.1 != 0) = true := bne_iff_ne.mpr c2
    have hr : D.write i s = D.spend := by rw [DV.write, if_neg (fun h => h c0), if_neg (fun h => h c1), if_pos c2]
    rw [hr]
    go_enter Tryz.func30, Tryz.ntmps30
    go_wp2_with (first | (go_at_call 68; go_loud (refine (HW.out _ HC.out).mono ?_; rintro e w1 ⟨rfl, hd1⟩; have HD1 := zA hd1; clear hd1)) | (go_at_call 69; go_loud (refine (HS.out _ (HC.out.drawn HD1.out) (HB.out.trans (HD1.out.below.mono (below_size HB.out)))).mono ?_; rintro e w2 ⟨rfl, hc2, hb2, hk2⟩; have HC2 := zA hc2; have HB2 := zA hb2; have HK2 := zA ((drawn_kept HD1.out S).then_ hk2 fun _ h => .inl h); clear hc2 hb2 hk2)))
    go_ret
    exact ⟨rfl, S, ⟨_, _, _, HC2.out⟩, fun _ h => h, fun _ h => .inl h, HB2.out, HK2.out⟩
  ·have b2 : ((s.size : Int) != 64) = true := bne_iff_ne.mpr (by omega)
   have hr : D.write i s = (1, D) := by rw [DV.write, if_neg (fun h => h c0), if_pos c1]
   rw [hr]
   go_enter Tryz.func30, Tryz.ntmps30
   go_wp2_with (go_at_call 68; go_loud (refine (HW.out _ HC.out).mono ?_; rintro e w1 ⟨rfl, hd1⟩; have HD1 := zA hd1; clear hd1))
   go_ret
   exact ⟨rfl, S, ⟨_, _, _, HC.out.drawn HD1.out⟩, fun _ h => h, fun _ h => .inl h, HB.out.trans (HD1.out.below.mono (below_size HB.out)), drawn_kept HD1.out S⟩
 ·have b0 : (D.wrong at_ == 0) = false := beq_eq_false_iff_ne.mpr c0
  have b1 : (D.wrong at_ != 0) = true := bne_iff_ne.mpr c0
  have hr : D.write at_ s = (D.wrong at_, D) := by rw [DV.write, if_pos c0]
  rw [hr]
  go_enter Tryz.func30, Tryz.ntmps30
  go_wp2_with (go_at_call 68; go_loud (refine (HW.out _ HC.out).mono ?_; rintro e w1 ⟨rfl, hd1⟩; have HD1 := zA hd1; clear hd1))
  go_ret
  exact ⟨rfl, S, ⟨_, _, _, HC.out.drawn HD1.out⟩, fun _ h => h, fun _ h => .inl h, HB.out.trans (HD1.out.below.mono (below_size HB.out)), drawn_kept HD1.out S⟩
theorem run_clear_w {P : Program} (w : World) (t e ty : TypeId) (z : Value) (ht : P.underlying t = some (.slice e)) (hv : ∀ w, (zeroValue e).run P w = .ok z w) (b o n c : Nat) (hn : 0 < n) (zs : List Value) (hzs : zs = (Builtin.zeroCells z.cells n).toList) (h1 : ∀ v ∈ zs, v.oneCell' = true)
  (hc : ∀ j, j < zs.length → (w.cell? ⟨b, o + j, none⟩).isSome = true) (hf : ∀ j, j < zs.length → w.frozen? ⟨b, o + j, none⟩ = false) :
  (Builtin.clear_ #[t] ty #[.slice (some ⟨b, o, none⟩) n c]).run P w = .ok (.tuple #[]) (w.setCells b o zs) := by
 have hst := run_storeCells_cells (P := P) b o zs 0 w (by simpa using hc) (by simpa using hf) h1
 simp only [Nat.add_zero] at hst
 obtain ⟨m, rfl⟩ : ∃ m, n = m + 1 := ⟨n - 1, by omega⟩
 simp [Builtin.clear_, run_underlying ht, hv, ← hzs, hst]
theorem zeros2 (a b : Value) (n : Nat) (h : a.oneCell' = true ∧ b.oneCell' = true) : ((Builtin.zeroCells #[a, b] n).toList).length = n * 2 ∧ ∀ v ∈ (Builtin.zeroCells #[a, b] n).toList, v.oneCell' = true := by
 refine ⟨by simp [Builtin.zeroCells], fun v hv => ?_⟩
 simp only [Builtin.zeroCells, Array.toList_map, List.mem_map] at hv
 obtain ⟨i, _, rfl⟩ := hv
 have hm : i % 2 = 0 ∨ i % 2 = 1 := by omega
 show ((#[a, b] : Array Value)[i % 2]!).oneCell' = true
 rcases hm with e | e
 ·rw [e]; exact h.1
 ·rw [e]; exact h.2
theorem zeroW : ∀ w, (zeroValue 123).run Tryz.prog w = .ok (.agg #[.int .i64 0, .string ⟨#[]⟩]) w := fun w => by
 obtain ⟨i0, hi0, hz0, _⟩ := info_parts infoW
 simp [zeroValue, typeInfo, hi0, hz0]
theorem sets_other {b g : Nat} (hne : g ≠ b) : ∀ (vs : List Value) (o : Nat) (w : World), (w.setCells b o vs).heap[g]? = w.heap[g]?
 | [], _, _ => rfl
 | v :: r, o, w => (sets_other hne r (o + 1) _).trans (Below.heap_setCell w ⟨b, o, none⟩ v g hne)
theorem sets_size {b : Nat} : ∀ (vs : List Value) (o : Nat) (w : World), (w.setCells b o vs).heap.size = w.heap.size
 | [], _, _ => rfl
 | v :: r, o, w => (sets_size r (o + 1) _).trans (by simp [World.setCell])
theorem sets_block {b : Nat} {e : TypeId} : ∀ (vs : List Value) (o : Nat) (w : World) (cur : Array Value), w.heap[b]? = some (.cells cur e (0, 0)) → ∃ cur', cur'.size = cur.size ∧ (w.setCells b o vs).heap[b]? = some (.cells cur' e (0, 0))
 | [], _, _, cur, h => ⟨cur, rfl, h⟩
 | v :: r, o, w, cur, h => by
  obtain ⟨c', h1, h2⟩ := sets_block r (o + 1) _ _ (blk_set h o v)
  exact ⟨c', by rw [h1]; simp, h2⟩
theorem below_setsW {B g : Nat} {a : World} (hg : B ≤ g) : ∀ (vs : List Value) (o : Nat) {w : World}, Below B a w → Below B a (w.setCells g o vs)
 | [], _, _, h => h
 | v :: r, o, _, h => below_setsW hg r (o + 1) (h.setCell (p := ⟨g, o, none⟩) hg v)
theorem DevC.cut {w0 W Wz : World} {S : Nat → Prop} {g gp cp : Nat} {vn vl vp : Value} {D : DV} (h : DevC w0 W S g vn vl vp D) (hv : vp = .slice (some ⟨gp, 0, none⟩) D.pend.length cp) (hk : Kept W Wz (· = gp)) (hgp : ∃ cur, cur.size = cp * 2 ∧ Wz.heap[gp]? = some (.cells cur 123 (0, 0))) :
  Wz.heap[g]? = some (.cells #[vn, vl, vp, .int .i64 D.left, .bool D.down] 118 (0, 0)) ∧ DevC w0 (Wz.setCell ⟨g, 2, none⟩ (.slice (some ⟨gp, 0, none⟩) 0 cp)) S g vn vl (.slice (some ⟨gp, 0, none⟩) 0 cp) { D with pend := [] } := by
 have hop : vp.ownBlock = some gp := by rw [hv]; rfl
 have hgg : g ≠ gp := fun hq => row_ne h.pend h.blk (by decide) (by rw [hop, hq])
 have hb : Wz.heap[g]? = some (.cells #[vn, vl, vp, .int .i64 D.left, .bool D.down] 118 (0, 0)) := blk_kept h.blk hk hgg
 have hz : (Wz.setCell ⟨g, 2, none⟩ (.slice (some ⟨gp, 0, none⟩) 0 cp)).heap.size = Wz.heap.size := by simp [World.setCell]
 obtain ⟨cur, hcs, hcur⟩ := hgp
 have old : ∀ {v : Value} {n : Nat} {xs : List Value}, W.ownsRow w0.heap.size 9 1 v n xs → (∀ k, v.ownBlock = some k → S k) → Wz.ownsRow w0.heap.size 9 1 v n xs := fun ho hs => row_kept ho fun k hq => hk.2 k (h.sb k (hs k hq)).2 fun he => by
  rcases own_ne_none ho h.pend (by decide) with hx | hx
  ·rw [hx] at hq; cases hq
  ·exact hx (by rw [hq, hop, he])
 have hcap : cp ≤ maxLen := by
  rcases h.pend.2 with ⟨h2, _⟩ | ⟨g2, cap, cu, h2, _, _, _, hm, _⟩
  ·rw [hv] at h2; cases h2
  ·rw [hv] at h2; injection h2 with _ _ h3; rw [h3]; exact hm
 refine ⟨hb, ⟨h.ok.pos, h.ok.few, h.ok.len, h.ok.lo, h.ok.hi, fun p hq => nomatch hq⟩, by simpa using blk_set hb 2 (.slice (some ⟨gp, 0, none⟩) 0 cp), h.sg, fun k hs => ⟨(h.sb k hs).1, by rw [hz]; exact Nat.lt_of_lt_of_le (h.sb k hs).2 hk.1⟩, ownsRow_setCell_other (old h.now h.sn) (row_ne h.now h.blk (by decide)) _, ownsRow_setCell_other (old h.last h.sl) (row_ne h.last h.blk (by decide)) _, ?_, h.sn, h.sl, fun k hk => h.sp k (by rw [hop]; exact hk), h.ne⟩
 refine ⟨rfl, .inr ⟨gp, cp, cur, rfl, (h.sb gp (h.sp gp hop)).1, ?_, Nat.zero_le _, hcap, hcs, by simp [pcells]⟩⟩
 exact (Below.heap_setCell Wz ⟨g, 2, none⟩ _ gp (Ne.symm hgg)).trans hcur
theorem DevC.set2 {w0 W : World} {S : Nat → Prop} {g : Nat} {vn vl vp : Value} {D : DV} (h : DevC w0 W S g vn vl vp D) : DevC w0 (W.setCell ⟨g, 2, none⟩ vp) S g vn vl vp D := by
 have hz : (W.setCell ⟨g, 2, none⟩ vp).heap.size = W.heap.size := by simp [World.setCell]
 exact ⟨h.ok, by simpa using blk_set h.blk 2 vp, h.sg, fun k hs => ⟨(h.sb k hs).1, by rw [hz]; exact (h.sb k hs).2⟩, ownsRow_setCell_other h.now (row_ne h.now h.blk (by decide)) _, ownsRow_setCell_other h.last (row_ne h.last h.blk (by decide)) _, ownsRow_setCell_other h.pend (row_ne h.pend h.blk (by decide)) _, h.sn, h.sl, h.sp, h.ne⟩
def DV.forgot (D : DV) : DV := { D with pend := [] }
set_option maxHeartbeats 2000000 in
set_option maxRecDepth 100000 in
theorem dforget.calls (g : Nat) (S : Nat → Prop) (D : DV) (w0 w : World) (vn vl vp : Value) (hC : DevC w0 w S g vn vl vp D) (hB : Below w0.heap.size w0 w) :
  Calls Tryz.prog 67 #[.pointer (some ⟨g, 0, none⟩)] w fun e w' => e = .returned (.tuple #[]) ∧ (∃ vp', DevC w0 w' S g vn vl vp' D.forgot) ∧ DevTo w0 w w' S := by
 have h2 : w.cell? ⟨g, 2, none⟩ = some vp := zN hC.blk 2
 have f2 := zM hC.blk 2
 have hg := (hC.sb g hC.sg).1
 have HC := zA hC
 have HB := zA hB
 clear hC hB
 rcases HC.out.pend.2 with ⟨hv, hn⟩ | ⟨gp, cp, cur, hv, hgb, hcur, hle, hm, hcs, htk⟩
 ·rw [hv] at h2
  have hp : D.pend = [] := List.length_eq_zero_iff.1 hn
  have hf : D.forgot = D := by cases D; simp only [DV.forgot] at hp ⊢; rw [hp]
  have hcl : ∀ ty, (Builtin.clear_ #[116] ty #[.slice none 0 0]).run Tryz.prog w = .ok (.tuple #[]) w := fun ty => by simp [Builtin.clear_, run_underlying Tryz.underlying116]
  go_enter Tryz.func67, Tryz.ntmps67
  go_wp2
  (first | go_end0 | ((try simp only [Exit.inBlock, Exit.then]); refine bodyPost_ret (results_none rfl _ _ _) rfl ?_))
  rw [hf]
  exact ⟨rfl, ⟨vp, hv ▸ HC.out.set2⟩, below_set HB.out hg, (Kept.refl w S).setCell (.inl HC.out.sg) _⟩
 ·rw [hv] at h2
  have hl2 : (pcells D.pend).length = D.pend.length * 2 := pcells_len _
  by_cases hn : D.pend.length = 0
  ·have hx := HC.out.cut hv (Kept.refl w _) ⟨cur, hcs, hcur⟩
   have HX := zA hx.2
   clear hx
   rw [hn] at h2
   have hcl : ∀ ty c, (Builtin.clear_ #[116] ty #[.slice (some ⟨gp, 0, none⟩) 0 c]).run Tryz.prog w = .ok (.tuple #[]) w := fun ty c => by simp [Builtin.clear_, run_underlying Tryz.underlying116]
   go_enter Tryz.func67, Tryz.ntmps67
   go_wp2
   (first | go_end0 | ((try simp only [Exit.inBlock, Exit.then]); refine bodyPost_ret (results_none rfl _ _ _) rfl ?_))
   exact ⟨rfl, ⟨_, HX.out⟩, below_set HB.out hg, (Kept.refl w S).setCell (.inl HC.out.sg) _⟩
  ·have hz := zeros2 (.int .i64 0) (.string ⟨#[]⟩) D.pend.length ⟨rfl, rfl⟩
   obtain ⟨Z, hZ⟩ : ∃ Z, Z = (Builtin.zeroCells #[.int .i64 0, .string ⟨#[]⟩] D.pend.length).toList := ⟨_, rfl⟩
   rw [← hZ] at hz
   have hcl : ∀ ty c, (Builtin.clear_ #[116] ty #[.slice (some ⟨gp, 0, none⟩) D.pend.length c]).run Tryz.prog w = .ok (.tuple #[]) (w.setCells gp 0 Z) := fun ty c =>
    run_clear_w w _ 123 ty _ Tryz.underlying116 zeroW gp 0 D.pend.length c (by omega) Z hZ hz.2 (fun t ht => by rw [Nat.zero_add, zN hcur, Array.getElem?_eq_getElem (by omega)]; rfl) (fun t ht => zM hcur _)
   have hkz : Kept w (w.setCells gp 0 Z) (· = gp) := ⟨by rw [sets_size]; exact Nat.le_refl _, fun i _ hi => sets_other hi Z 0 w⟩
   obtain ⟨c2, hc2, hb2⟩ := sets_block Z 0 w cur hcur
   have hx := HC.out.cut hv hkz ⟨c2, by rw [hc2]; exact hcs, hb2⟩
   have hc3 : (w.setCells gp 0 Z).cell? ⟨g, 2, none⟩ = some vp := zN hx.1 2
   have hf3 := zM hx.1 2
   rw [hv] at hc3
   have HX := zA hx.2
   have HK := zA hkz
   have HBz := zA (below_setsW hgb Z 0 HB.out)
   clear hx hkz hc2 hb2 hZ
   go_enter Tryz.func67, Tryz.ntmps67
   go_wp2
   (first | go_end0 | ((try simp only [Exit.inBlock, Exit.then]); refine bodyPost_ret (results_none rfl _ _ _) rfl ?_))
   exact ⟨rfl, ⟨_, HX.out⟩, below_set HBz.out hg, (HK.out.mono fun k hk => HC.out.sp k (by rw [hv, hk]; rfl)).setCell (.inl HC.out.sg) _⟩
def lay1 (l : List ByteArray) (p : Int × ByteArray) : List ByteArray := l.set p.1.toNat p.2
def DV.laid (D : DV) (i : Nat) : DV := { D with last := (D.pend.take i).foldl lay1 D.last }
def DV.flush (D : DV) : Int × DV := if D.down then (8, D) else if D.spend.1 ≠ 0 then D.spend else (0, (D.spend.2.laid D.pend.length).forgot)
theorem laid_succ (D : DV) (i : Nat) (hi : i < D.pend.length) : D.laid (i + 1) = { D.laid i with last := (D.laid i).last.set (D.pend[i]).1.toNat (D.pend[i]).2 } := by
 unfold DV.laid
 rw [List.take_succ_eq_append_getElem hi, List.foldl_append]
 rfl
theorem DevC.setLast {w0 W : World} {S : Nat → Prop} {g gl cl : Nat} {vn vl vp : Value} {D : DV} (h : DevC w0 W S g vn vl vp D) (hv : vl = .slice (some ⟨gl, 0, none⟩) D.last.length cl) (i : Nat) (s : ByteArray) : DevC w0 (W.setCell ⟨gl, i, none⟩ (.string s)) S g vn vl vp { D with last := D.last.set i s } := by
 have hz : (W.setCell ⟨gl, i, none⟩ (.string s)).heap.size = W.heap.size := by simp [World.setCell]
 have hgl : vl.ownBlock = some gl := by rw [hv]; rfl
 obtain ⟨cur, hcur⟩ := row_block h.last hgl
 have hne : gl ≠ g := blk_ne hcur h.blk (by decide)
 have hn : ({ D with last := D.last.set i s } : DV).last.length = D.last.length := List.length_set
 refine ⟨⟨h.ok.pos, h.ok.few, by rw [hn]; exact h.ok.len, h.ok.lo, h.ok.hi, h.ok.at_⟩, blk_far h.blk (Ne.symm hne) _, h.sg, fun k hs => ⟨(h.sb k hs).1, by rw [hz]; exact (h.sb k hs).2⟩, ownsRow_setCell_other h.now (by rw [← hgl]; exact h.ne) _, ?_, ownsRow_setCell_other h.pend (fun hk => by obtain ⟨c2, hc2⟩ := row_block h.pend hk; exact blk_ne hcur hc2 (by decide) rfl) _, h.sn, h.sl, h.sp, h.ne⟩
 rw [hn]
 simpa [List.map_set] using own_set h.last hv (i := i) (.string s)
theorem pcells_get : ∀ (l : List (Int × ByteArray)) (i : Nat) (hi : i < l.length), (pcells l)[i * 2]? = some (.int .i64 (l[i]).1) ∧ (pcells l)[i * 2 + 1]? = some (.string (l[i]).2)
 | p :: t, 0, _ => ⟨rfl, rfl⟩
 | p :: t, i + 1, hi => by
  have := pcells_get t i (by simpa using hi)
  have e : pcells (p :: t) = .int .i64 p.1 :: .string p.2 :: pcells t := rfl
  rw [e, show (i + 1) * 2 = i * 2 + 1 + 1 by omega]
  exact this
theorem own_shape {w : World} {base : Nat} {e : TypeId} {size : Nat} {v : Value} {n : Nat} {xs : List Value} (h : w.ownsRow base e size v n xs) : ∃ A c, v = .slice A n c := by
 rcases h.2 with ⟨rfl, rfl⟩ | ⟨g, cap, cur, rfl, _⟩
 ·exact ⟨_, _, rfl⟩
 ·exact ⟨_, _, rfl⟩
set_option maxHeartbeats 4000000 in
set_option maxRecDepth 100000 in
theorem dflush.calls (g : Nat) (S : Nat → Prop) (D : DV) (w0 w : World) (hC : DevAt w0 w S g D) (hB : Below w0.heap.size w0 w) (hpl : D.pend.length < 1000000) :
  Calls Tryz.prog 52 #[.pointer (some ⟨g, 0, none⟩)] w fun e w' => e = .returned (.int .i64 D.flush.1) ∧ DevAt w0 w' S g D.flush.2 ∧ DevTo w0 w w' S := by
 obtain ⟨vn, vl, vp, hC⟩ := hC
 have HS := zA (dspend.calls g S D w0 · vn vl vp)
 have h4 : w.cell? ⟨g, 4, none⟩ = some (.bool D.down) := zN hC.blk 4
 have f4 := zM hC.blk 4
 obtain ⟨gl, cl, hvl⟩ := own_slice hC.last (by rw [hC.ok.len]; exact hC.ok.pos)
 obtain ⟨Ap, cp, rfl⟩ := own_shape hC.pend
 have HC := zA hC
 have HB := zA hB
 clear hC hB
 cases hd : D.down with
 | true =>
  have hf : D.flush = (8, D) := by rw [DV.flush, if_pos hd]
  rw [hd] at h4
  rw [hf]
  go_enter Tryz.func52, Tryz.ntmps52
  go_wp2
  go_ret
  exact ⟨rfl, ⟨_, _, _, HC.out⟩, HB.out, Kept.refl w S⟩
 | false =>
  rw [hd] at h4
  by_cases c2 : D.spend.1 = 0
  ·have b3 : (D.spend.1 != 0) = false := bne_eq_false_iff_eq.mpr c2
   have hf : D.flush = (0, (D.spend.2.laid D.pend.length).forgot) := by rw [DV.flush, hd, if_neg (by decide), if_neg (fun h => h c2)]
   rw [hf]
   go_enter Tryz.func52, Tryz.ntmps52
   go_wp2_with (go_at_call 69; go_loud (refine (HS.out _ HC.out HB.out).mono ?_; rintro e w2 ⟨rfl, hc2, hb2, hk2⟩; have HC2 := zA hc2; have HB2 := zA hb2; have HK2 := zA hk2; have hq2 : w2.cell? ⟨g, 2, none⟩ = some (.slice Ap D.pend.length cp) := zN hc2.blk 2; have f2 := zM hc2.blk 2; clear hc2 hb2 hk2))
   have hst := HC2.out
   have hpd : D.spend.2.pend = D.pend := spend_pend D
   have hlaid0 : D.spend.2.laid 0 = D.spend.2 := by unfold DV.laid; rw [List.take_zero]; rfl
   go_loopg [20] D.pend.length (fun gg s20 wr => ∃ i : Nat, s20 = .int .i64 i ∧ i ≤ D.pend.length ∧ D.pend.length - i ≤ gg ∧ Aside0 (DevC w0 wr S g vn vl (.slice Ap D.pend.length cp) (D.spend.2.laid i)) ∧ Aside0 (Below w0.heap.size w0 wr) ∧ Aside0 (Kept w wr S))
   case atStart => exact ⟨0, rfl, Nat.zero_le _, by omega, ⟨by rw [hlaid0]; exact hst⟩, HB2, HK2⟩
   case round =>
    clear hst hlaid0 HC2 HB2 HK2 hq2 f2
    obtain ⟨i, rfl, hi, hg, HCr, HBr, HKr⟩ := hrel
    by_cases hlt : i < D.pend.length
    ·have hltz : decide ((i : Int) < (D.pend.length : Int)) = true := zH (by omega)
     have hi0 : (0 : Int) ≤ (i : Int) := by omega
     have hi1 : (i : Int) < (D.pend.length : Int) := by omega
     have hps : (D.spend.2.laid i).pend = D.pend := hpd
     obtain ⟨gp, cp', hvp⟩ := own_slice HCr.out.pend (by rw [hps]; omega)
     have hA : Ap = some ⟨gp, 0, none⟩ := by injection hvp
     clear hvp
     subst hA
     have hx := pcells_get D.pend i hlt
     have hq := HCr.out.pend
     rw [hps] at hq
     have e0 := row_get hq rfl hx.1
     have e1 := row_get hq rfl hx.2
     have eg : wr.cell? ⟨g, 1, none⟩ = some (.slice (some ⟨gl, 0, none⟩) D.last.length cl) := by rw [zN HCr.out.blk 1, ← hvl]; rfl
     have fg := zM HCr.out.blk 1
     have hat := HCr.out.ok.at_ (D.pend[i]) (by rw [hps]; exact List.getElem_mem hlt)
     have hnl : (D.spend.2.laid i).now.length = D.now.length := by show D.spend.2.now.length = _; rw [spend_now]
     have hll : (D.spend.2.laid i).last.length = D.now.length := by rw [HCr.out.ok.len, hnl]
     have hl0 : D.last.length = D.now.length := HC.out.ok.len
     rw [hnl] at hat
     have HSU := zA (laid_succ D.spend.2 i (by rw [hpd]; exact hlt))
     have hpi : ∀ hh : i < D.spend.2.pend.length, D.spend.2.pend[i] = D.pend[i] := fun hh => by simp [hpd]
     obtain ⟨⟨a1, t1⟩, hpe⟩ : ∃ p, p = D.pend[i] := ⟨_, rfl⟩
     rw [← hpe] at e0 e1 hat
     obtain ⟨q, hqq⟩ := Int.eq_ofNat_of_zero_le hat.1
     simp only at hqq e0 e1 hat
     subst hqq
     have hql : q < D.now.length := by omega
     have p1 : (0 : Int) ≤ (q : Int) := by omega
     have p2 : (q : Int) < (D.last.length : Int) := by omega
     obtain ⟨Wa, hWa⟩ : ∃ Wa, Wa = wr.alloc (.cells #[.int .i64 q, .string t1] 123) := ⟨_, rfl⟩
     have hka : Kept wr Wa (fun _ => False) := by rw [hWa]; exact (Kept.refl wr _).alloc _
     have hca := HCr.out.kept hka fun _ _ h => h
     have eg2 : Wa.cell? ⟨g, 1, none⟩ = some (.slice (some ⟨gl, 0, none⟩) D.last.length cl) := by rw [zN hca.blk 1, ← hvl]; rfl
     have fg2 := zM hca.blk 1
     have hvl2 : vl = .slice (some ⟨gl, 0, none⟩) (D.spend.2.laid i).last.length cl := by rw [hvl, hll, hl0]
     have el := row_get hca.last hvl2 (i := q) (u := .string ((D.spend.2.laid i).last.getD q ⟨#[]⟩)) (by simp [hll, hql])
     obtain ⟨cur, hcur⟩ := row_block hca.last (k := gl) (by rw [hvl]; rfl)
     have fl := zM hcur q
     have hgb : w0.heap.size ≤ gl := own_base hca.last gl (by rw [hvl]; rfl)
     have HN := zA (hca.setLast hvl2 q t1)
     have hnew : (wr.alloc (.cells #[.int .i64 q, .string t1] 123)).heap[wr.heap.size]? = some (.cells #[.int .i64 q, .string t1] 123 (0, 0)) := heap_alloc_new wr _
     have n0 := zN hnew 0
     have n1 := zN hnew 1
     rw [hWa] at eg2 fg2 el fl
     have HBA := zA (zJ HBr.out (.cells #[.int .i64 q, .string t1] 123))
     have hrel2 : ∀ h : i < D.spend.2.pend.length, D.spend.2.pend[i] = ((q : Int), t1) := fun h => by rw [hpi h, ← hpe]
     have hH : i < D.spend.2.pend.length := by rw [hpd]; exact hlt
     have HSV := zA (show D.spend.2.laid (i + 1) = { D.spend.2.laid i with last := (D.spend.2.laid i).last.set q t1 } by rw [HSU.out, hrel2 hH]; rfl)
     clear hq hx hca hcur hka hnew hl0 hll hnl hpi hrel2 hH HSU hps hvl2 hpe
     go_wp2
     go_region
     all_goals go_wp2
     go_roundg (D.pend.length - (i + 1))
     case measure => omega
     case rel =>
      rw [hWa] at HN
      refine ⟨i + 1, by go_num, by omega, by omega, ⟨?_⟩, ⟨?_⟩, ⟨?_⟩⟩
      ·rw [HSV.out]; exact HN.out.drawn (show Drawn0 _ _ from ⟨⟨1, rfl⟩⟩)
      ·exact zK (below_set HBA.out hgb)
      ·exact ((HKr.out.alloc _).setCell (p := ⟨gl, q, none⟩) (.inl (HC.out.sl gl (by rw [hvl]; rfl))) (.string t1)).drew
    ·have hltz : decide ((i : Int) < (D.pend.length : Int)) = false := zI (by omega)
     obtain rfl : i = D.pend.length := by omega
     have HF := zA (dforget.calls g S (D.spend.2.laid D.pend.length) w0 · vn vl (.slice Ap D.pend.length cp))
     go_wp2_with (go_at_call 67; go_loud (refine (HF.out _ HCr.out HBr.out).mono ?_; rintro e w5 ⟨rfl, hc5, hb5, hk5⟩; have HC5 := zA hc5; have HB5 := zA hb5; have HK5 := zA (HKr.out.then_ hk5 fun _ h => .inl h); clear hc5 hb5 hk5))
     go_ret
     obtain ⟨vp', h5⟩ := HC5.out
     exact ⟨rfl, ⟨_, _, _, h5⟩, HB5.out, HK5.out⟩
  ·have b3 : (D.spend.1 != 0) = true := bne_iff_ne.mpr c2
   have hf : D.flush = D.spend := by rw [DV.flush, hd, if_neg (by decide), if_pos c2]
   rw [hf]
   go_enter Tryz.func52, Tryz.ntmps52
   go_wp2_with (go_at_call 69; go_loud (refine (HS.out _ HC.out HB.out).mono ?_; rintro e w2 ⟨rfl, hc2, hb2, hk2⟩; have HC2 := zA hc2; have HB2 := zA hb2; have HK2 := zA hk2; clear hc2 hb2 hk2))
   go_ret
   exact ⟨rfl, ⟨_, _, _, HC2.out⟩, HB2.out, HK2.out⟩
structure RefC (w0 W : World) (S : Nat → Prop) (g : Nat) (vn vl vp : Value) (D : DV) : Prop where
 ok : D.Ok
 blk : W.heap[g]? = some (.cells #[vn, vl, vp, .int .i64 D.left, .bool D.down] 127 (0, 0))
 sg : S g
 sb : ∀ k, S k → w0.heap.size ≤ k ∧ k < W.heap.size
 now : W.ownsRow w0.heap.size 9 1 vn D.now.length (D.now.map .string)
 last : W.ownsRow w0.heap.size 9 1 vl D.last.length (D.last.map .string)
 pend : W.ownsRow w0.heap.size 129 2 vp D.pend.length (pcells D.pend)
 sn : ∀ k, vn.ownBlock = some k → S k
 sl : ∀ k, vl.ownBlock = some k → S k
 sp : ∀ k, vp.ownBlock = some k → S k
 ne : vn.ownBlock ≠ vl.ownBlock
def RefAt (w0 W : World) (S : Nat → Prop) (g : Nat) (D : DV) : Prop := ∃ vn vl vp, RefC w0 W S g vn vl vp D
theorem RefC.kept {w0 W W' : World} {S T : Nat → Prop} {g : Nat} {vn vl vp : Value} {D : DV} (h : RefC w0 W S g vn vl vp D) (hk : Kept W W' T) (hne : ∀ k, S k → ¬ T k) : RefC w0 W' S g vn vl vp D := by
 have hh : ∀ k, S k → W'.heap[k]? = W.heap[k]? := fun k hs => hk.2 k (h.sb k hs).2 (hne k hs)
 exact ⟨h.ok, (hh g h.sg).trans h.blk, h.sg, fun k hs => ⟨(h.sb k hs).1, Nat.lt_of_lt_of_le (h.sb k hs).2 hk.1⟩, row_kept h.now fun k hq => hh k (h.sn k hq), row_kept h.last fun k hq => hh k (h.sl k hq), row_kept h.pend fun k hq => hh k (h.sp k hq), h.sn, h.sl, h.sp, h.ne⟩
theorem RefAt.kept {w0 W W' : World} {S T : Nat → Prop} {g : Nat} {D : DV} (h : RefAt w0 W S g D) (hk : Kept W W' T) (hne : ∀ k, S k → ¬ T k) : RefAt w0 W' S g D := by
 obtain ⟨vn, vl, vp, h⟩ := h
 exact ⟨vn, vl, vp, h.kept hk hne⟩
theorem RefC.set3 {w0 W : World} {S : Nat → Prop} {g : Nat} {vn vl vp : Value} {D : DV} (h : RefC w0 W S g vn vl vp D) (x : Int) (hx : -1 ≤ x) (hx2 : x < 4611686018427387904) : RefC w0 (W.setCell ⟨g, 3, none⟩ (.int .i64 x)) S g vn vl vp { D with left := x } := by
 have hz : (W.setCell ⟨g, 3, none⟩ (.int .i64 x)).heap.size = W.heap.size := by simp [World.setCell]
 exact ⟨⟨h.ok.pos, h.ok.few, h.ok.len, hx, hx2, h.ok.at_⟩, by simpa using blk_set h.blk 3 (.int .i64 x), h.sg, fun k hs => ⟨(h.sb k hs).1, by rw [hz]; exact (h.sb k hs).2⟩, ownsRow_setCell_other h.now (row_ne h.now h.blk (by decide)) _, ownsRow_setCell_other h.last (row_ne h.last h.blk (by decide)) _, ownsRow_setCell_other h.pend (row_ne h.pend h.blk (by decide)) _, h.sn, h.sl, h.sp, h.ne⟩
theorem RefC.set4 {w0 W : World} {S : Nat → Prop} {g : Nat} {vn vl vp : Value} {D : DV} (h : RefC w0 W S g vn vl vp D) (x : Bool) : RefC w0 (W.setCell ⟨g, 4, none⟩ (.bool x)) S g vn vl vp { D with down := x } := by
 have hz : (W.setCell ⟨g, 4, none⟩ (.bool x)).heap.size = W.heap.size := by simp [World.setCell]
 exact ⟨⟨h.ok.pos, h.ok.few, h.ok.len, h.ok.lo, h.ok.hi, h.ok.at_⟩, by simpa using blk_set h.blk 4 (.bool x), h.sg, fun k hs => ⟨(h.sb k hs).1, by rw [hz]; exact (h.sb k hs).2⟩, ownsRow_setCell_other h.now (row_ne h.now h.blk (by decide)) _, ownsRow_setCell_other h.last (row_ne h.last h.blk (by decide)) _, ownsRow_setCell_other h.pend (row_ne h.pend h.blk (by decide)) _, h.sn, h.sl, h.sp, h.ne⟩
theorem RefC.setNow {w0 W : World} {S : Nat → Prop} {g gn cn : Nat} {vn vl vp : Value} {D : DV} (h : RefC w0 W S g vn vl vp D) (hv : vn = .slice (some ⟨gn, 0, none⟩) D.now.length cn) (i : Nat) (s : ByteArray) : RefC w0 (W.setCell ⟨gn, i, none⟩ (.string s)) S g vn vl vp { D with now := D.now.set i s } := by
 have hz : (W.setCell ⟨gn, i, none⟩ (.string s)).heap.size = W.heap.size := by simp [World.setCell]
 have hgn : vn.ownBlock = some gn := by rw [hv]; rfl
 obtain ⟨cur, hcur⟩ := row_block h.now hgn
 have hne : gn ≠ g := blk_ne hcur h.blk (by decide)
 have hn : ({ D with now := D.now.set i s } : DV).now.length = D.now.length := List.length_set
 refine ⟨⟨by rw [hn]; exact h.ok.pos, by rw [hn]; exact h.ok.few, by rw [hn]; exact h.ok.len, h.ok.lo, h.ok.hi, by rw [hn]; exact h.ok.at_⟩, blk_far h.blk (Ne.symm hne) _, h.sg, fun k hs => ⟨(h.sb k hs).1, by rw [hz]; exact (h.sb k hs).2⟩, ?_, ownsRow_setCell_other h.last (by rw [← hgn]; exact Ne.symm h.ne) _, ownsRow_setCell_other h.pend (fun hk => by obtain ⟨c2, hc2⟩ := row_block h.pend hk; exact blk_ne hcur hc2 (by decide) rfl) _, h.sn, h.sl, h.sp, h.ne⟩
 rw [hn]
 simpa [List.map_set] using own_set h.now hv (i := i) (.string s)
theorem RefC.setPend {w0 W W4 : World} {S : Nat → Prop} {g : Nat} {vn vl vp v4 : Value} {D : DV} (h : RefC w0 W S g vn vl vp D) {at_ : Int} {s : ByteArray} (ho4 : W4.ownsRow w0.heap.size 129 2 v4 (D.pend.length + 1) (pcells D.pend ++ [.int .i64 at_, .string s])) (hg4 : W.grownBy W4 vp.ownBlock) (hp : 0 ≤ at_ ∧ at_ < (D.now.length : Int)) :
  W4.heap[g]? = some (.cells #[vn, vl, vp, .int .i64 D.left, .bool D.down] 127 (0, 0)) ∧ RefC w0 (W4.setCell ⟨g, 2, none⟩ v4) (fun k => S k ∨ v4.ownBlock = some k) g vn vl v4 { D with pend := D.pend ++ [(at_, s)] } := by
 have hb : W4.heap[g]? = some (.cells #[vn, vl, vp, .int .i64 D.left, .bool D.down] 127 (0, 0)) := blk_grown h.blk hg4 (Ne.symm (row_ne h.pend h.blk (by decide)))
 have hz : (W4.setCell ⟨g, 2, none⟩ v4).heap.size = W4.heap.size := by simp [World.setCell]
 have hsz : W.heap.size ≤ W4.heap.size := hg4.size
 have hl : ({ D with pend := D.pend ++ [(at_, s)] } : DV).pend.length = D.pend.length + 1 := by simp
 refine ⟨hb, ⟨h.ok.pos, h.ok.few, h.ok.len, h.ok.lo, h.ok.hi, fun p hq => ?_⟩, by simpa using blk_set hb 2 v4, .inl h.sg, fun k hs => ?_, ownsRow_setCell_other (h.now.kept hg4 (own_ne_none h.now h.pend (by decide))) (row_ne h.now h.blk (by decide)) _, ownsRow_setCell_other (h.last.kept hg4 (own_ne_none h.last h.pend (by decide))) (row_ne h.last h.blk (by decide)) _, ?_, fun k hk => .inl (h.sn k hk), fun k hk => .inl (h.sl k hk), fun k hk => .inr hk, h.ne⟩
 ·rcases List.mem_append.1 hq with hq | hq
  ·exact h.ok.at_ p hq
  ·rw [List.mem_singleton.1 hq]; exact hp
 ·rw [hz]
  rcases hs with hs | hs
  ·exact ⟨(h.sb k hs).1, Nat.lt_of_lt_of_le (h.sb k hs).2 hsz⟩
  ·obtain ⟨c, hc⟩ := row_block ho4 hs
   exact ⟨own_base ho4 k hs, blk_lt hc⟩
 ·rw [hl, pcells_snoc]
  exact ownsRow_setCell_other ho4 (row_ne ho4 hb (by decide)) _
theorem RefC.drawn {w0 W W' : World} {S : Nat → Prop} {g : Nat} {vn vl vp : Value} {D : DV} (h : RefC w0 W S g vn vl vp D) (hd : Drawn0 W W') : RefC w0 W' S g vn vl vp D := h.kept (T := fun _ => False) (zP hd.below _) fun _ _ h => h
theorem infoRW : (Tryz.prog.info? 129).map (fun i => (i.zero, i.size, i.bytes)) = some (some (.agg #[(.int .i64 0), (.string ⟨#[]⟩)]), 2, 24) := by kernel_rfl
def RefGrew (w0 w w' : World) (S : Nat → Prop) (g : Nat) (D : DV) : Prop := ∃ S' : Nat → Prop, RefAt w0 w' S' g D ∧ (∀ k, S k → S' k) ∧ (∀ k, S' k → S k ∨ w.heap.size ≤ k) ∧ DevTo w0 w w' S
set_option maxHeartbeats 2000000 in
set_option maxRecDepth 100000 in
theorem rcount.calls (g : Nat) (S : Nat → Prop) (D : DV) (w0 w : World) (vn vl vp : Value) (hC : RefC w0 w S g vn vl vp D) (hB : Below w0.heap.size w0 w) :
  Calls Tryz.prog 70 #[.pointer (some ⟨g, 0, none⟩)] w fun e w' => e = .returned (.bool (D.spend.1 == 0)) ∧ RefC w0 w' S g vn vl vp D.spend.2 ∧ DevTo w0 w w' S := by
 have h3 := (zN hC.blk 3).trans rfl
 have h4 := (zN hC.blk 4).trans rfl
 have f3 := zM hC.blk 3
 have f4 := zM hC.blk 4
 have hg := (hC.sb g hC.sg).1
 have HC := zA hC
 have HB := zA hB
 clear hC hB
 by_cases c0 : D.left = 0
 ·have b0 : (D.left == 0) = true := beq_iff_eq.mpr c0
  have hs : D.spend = (8, { D with down := true }) := if_pos c0
  rw [hs]
  go_enter Tryz.func70, Tryz.ntmps70
  go_wp2
  go_ret
  exact ⟨rfl, HC.out.set4 true, below_set HB.out hg, (Kept.refl w S).setCell (.inl HC.out.sg) _⟩
 ·have b0 : (D.left == 0) = false := beq_eq_false_iff_ne.mpr c0
  by_cases c1 : 0 < D.left
  ·have b1 : decide (0 < D.left) = true := zH c1
   have hs : D.spend = (0, { D with left := D.left - 1 }) := by rw [DV.spend, if_neg c0, if_pos c1]
   have hw : wrap64 (D.left - 1) = D.left - 1 := IntWalk.wrap64_in _ (by have := HC.out.ok.hi; constructor <;> omega)
   rw [hs]
   go_enter Tryz.func70, Tryz.ntmps70
   go_wp2
   go_ret
   exact ⟨rfl, HC.out.set3 (D.left - 1) (by omega) (by have := HC.out.ok.hi; omega), below_set HB.out hg, (Kept.refl w S).setCell (.inl HC.out.sg) _⟩
  ·have b1 : decide (0 < D.left) = false := zI c1
   have hs : D.spend = (0, D) := by rw [DV.spend, if_neg c0, if_neg c1]
   rw [hs]
   go_enter Tryz.func70, Tryz.ntmps70
   go_wp2
   go_ret
   exact ⟨rfl, HC.out, HB.out, Kept.refl w S⟩
theorem spend_or (D : DV) : D.spend.1 = 0 ∨ D.spend.1 = 8 := by
 unfold DV.spend
 repeat' split
 all_goals first | exact .inl rfl | exact .inr rfl
set_option maxHeartbeats 4000000 in
set_option maxRecDepth 100000 in
theorem rwrite.calls (g : Nat) (S : Nat → Prop) (D : DV) (at_ : Int) (s : ByteArray) (w0 w : World) (hC : RefAt w0 w S g D) (hB : Below w0.heap.size w0 w) (hp : D.pend.length < 1000000) :
  Calls Tryz.prog 31 #[.pointer (some ⟨g, 0, none⟩), .int .i64 at_, .string s] w fun e w' => e = .returned (.int .i64 (D.write at_ s).1) ∧ RefGrew w0 w w' S g (D.write at_ s).2 := by
 obtain ⟨vn, vl, vp, hC⟩ := hC
 have HS := zA (rcount.calls g S D w0 · vn vl vp)
 obtain ⟨gn, cn, hvn⟩ := own_slice hC.now hC.ok.pos
 have h0 : w.cell? ⟨g, 0, none⟩ = some (.slice (some ⟨gn, 0, none⟩) D.now.length cn) := by rw [zN hC.blk 0, ← hvn]; rfl
 have h4 : w.cell? ⟨g, 4, none⟩ = some (.bool D.down) := zN hC.blk 4
 have f0 := zM hC.blk 0
 have f4 := zM hC.blk 4
 have HC := zA hC
 have HB := zA hB
 clear hC hB
 cases hd : D.down with
 | true =>
  have hw : D.wrong at_ = 8 := by rw [DV.wrong, if_pos hd]
  have hr : D.write at_ s = (8, D) := by rw [DV.write, hw, if_pos (by decide)]
  rw [hd] at h4
  rw [hr]
  go_enter Tryz.func31, Tryz.ntmps31
  go_wp2
  go_ret
  exact ⟨rfl, S, ⟨_, _, _, HC.out⟩, fun _ h => h, fun _ h => .inl h, HB.out, Kept.refl w S⟩
 | false =>
  rw [hd] at h4
  by_cases c1 : at_ < 0
  ·have b1 : decide (at_ < 0) = true := zH c1
   have hw : D.wrong at_ = 11 := by rw [DV.wrong, hd, if_neg (by decide), if_pos (.inl c1)]
   have hr : D.write at_ s = (11, D) := by rw [DV.write, hw, if_pos (by decide)]
   rw [hr]
   go_enter Tryz.func31, Tryz.ntmps31
   go_wp2
   go_ret
   exact ⟨rfl, S, ⟨_, _, _, HC.out⟩, fun _ h => h, fun _ h => .inl h, HB.out, Kept.refl w S⟩
  ·have b1 : decide (at_ < 0) = false := zI c1
   by_cases c2 : (D.now.length : Int) ≤ at_
   ·have b2 : decide ((D.now.length : Int) ≤ at_) = true := zH c2
    have hw : D.wrong at_ = 11 := by rw [DV.wrong, hd, if_neg (by decide), if_pos (.inr c2)]
    have hr : D.write at_ s = (11, D) := by rw [DV.write, hw, if_pos (by decide)]
    rw [hr]
    go_enter Tryz.func31, Tryz.ntmps31
    go_wp2
    go_ret
    exact ⟨rfl, S, ⟨_, _, _, HC.out⟩, fun _ h => h, fun _ h => .inl h, HB.out, Kept.refl w S⟩
   ·have b2 : decide ((D.now.length : Int) ≤ at_) = false := zI c2
    have hw : D.wrong at_ = 0 := by rw [DV.wrong, hd, if_neg (by decide), if_neg (by omega)]
    obtain ⟨i, rfl⟩ := Int.eq_ofNat_of_zero_le (show 0 ≤ at_ by omega)
    have hi : i < D.now.length := by omega
    have p1 : (0 : Int) ≤ (i : Int) := by omega
    have p2 : (i : Int) < (D.now.length : Int) := by omega
    by_cases c3 : s.size = 64
    ·have b3 : ((s.size : Int) != 64) = false := by rw [c3]; rfl
     by_cases c4 : D.spend.1 = 0
     ·have b4 : (D.spend.1 == 0) = true := beq_iff_eq.mpr c4
      have hr : D.write i s = (0, D.spend.2.wrote i s) := by rw [DV.write, if_neg (fun h => h hw), if_neg (fun h => h c3), if_neg (fun h => h c4)]
      rw [hr]
      go_enter Tryz.func31, Tryz.ntmps31
      go_wp2_with (fail)
      go_at_call 70
      refine (HS.out _ HC.out HB.out).mono ?_
      rintro e w2 ⟨rfl, hc2, hb2, hk2⟩
      have HC2 := zA hc2
      have HB2 := zA hb2
      have HK2 := zA hk2
      have hc0 := (zN hc2.blk 0).trans rfl
      have f0 := zM hc2.blk 0
      rw [hvn] at hc0
      obtain ⟨cur, hcur⟩ := row_block hc2.now (k := gn) (by rw [hvn]; rfl)
      have fn := zM hcur i
      have hnl : D.spend.2.now.length = D.now.length := by rw [spend_now]
      have hc3 := hc2.setNow (hvn.trans (by rw [hnl])) i s
      have h3c := (zN hc3.blk 2).trans rfl
      have f3c := zM hc3.blk 2
      have hne1 : gn ≠ g := blk_ne hcur hc2.blk (by decide)
      have hne2 : g ≠ gn := Ne.symm hne1
      have c2c := (zN hc2.blk 2).trans rfl
      have c2f := zM hc2.blk 2
      have hci := row_get hc2.now (hvn.trans (by rw [hnl])) (i := i) (u := .string (D.now.getD i ⟨#[]⟩)) (by simp [hi, spend_now])
      have hgb : w0.heap.size ≤ gn := own_base hc2.now gn (by rw [hvn]; rfl)
      clear hc2 hb2 hk2 hcur
      have HC3 := zA hc3
      clear hc3
      go_wp2_with (first | (at_builtin; go_loud (refine print_append_cells (w0 := w0) w0.heap.size rfl (.tmp 41) (.tmp 45) 125 129 (.agg #[.int .i64 0, .string (⟨#[]⟩ : ByteArray)]) 2 24 rfl Tryz.underlying125 infoRW rfl (by decide) (by decide) vp D.spend.2.pend.length (pcells D.spend.2.pend) [.int .i64 i, .string s] rfl (show Value.slice (some ⟨w2.heap.size, 0, none⟩) 1 1 = _ by simp [World.setCell]) rfl (by simp [Value.oneCell']) ?aO ?aB ?aS ?aL ?_; (case aO => exact HC3.out.pend); (case aB => exact HB2.out.setCell hgb _); (case aS => have := below_size HB2.out; simp [World.setCell]; omega); (case aL => rw [spend_pend]; omega); intro v4 w4 ho4 hb4 hg4 hat4; obtain ⟨gp, cp, rfl⟩ := own_slice ho4 (Nat.succ_pos _); obtain ⟨hk4, hc4⟩ := HC3.out.setPend ho4 hg4 ⟨p1, by rw [List.length_set, hnl]; exact p2⟩; have c42 := zN hk4 2; have f42 := zM hk4 2; have HC4 := zA hc4; have HB4 := zA hb4; have HG4 := zA hg4; have HA4 := zA hat4; clear ho4 hb4 hg4 hat4 hk4 hc4)))
      go_ret
      have hw : D.spend.2.wrote i s = { D.spend.2 with now := D.spend.2.now.set i s, pend := D.spend.2.pend ++ [((i : Int), s)] } := rfl
      have hgs : w0.heap.size ≤ g := (HC4.out.sb g (.inl HC2.out.sg)).1
      have hk3 : Kept w (w2.setCell ⟨gn, i, none⟩ (.string s)) S := HK2.out.setCell (.inl (HC2.out.sn gn (by rw [hvn]; rfl))) _
      refine ⟨rfl, _, ⟨_, _, _, hw ▸ HC4.out⟩, fun k hk => .inl hk, fun k hk => ?_, below_set HB4.out hgs, (Kept.of_grown HG4.out hk3 fun k hk => .inl (HC2.out.sp k hk)).setCell (.inl HC2.out.sg) _⟩
      rcases hk with hk | hk
      ·exact .inl hk
      ·rcases HA4.out with ha | ⟨b, hb, hle⟩
       ·exact .inl (HC2.out.sp k (ha ▸ hk))
       ·rw [hb] at hk
        cases hk
        exact .inr (Nat.le_trans hk3.1 hle)
     ·have b4 : (D.spend.1 == 0) = false := beq_eq_false_iff_ne.mpr c4
      have h8 : D.spend.1 = 8 := (spend_or D).resolve_left c4
      have hr : D.write i s = (8, D.spend.2) := by rw [DV.write, if_neg (fun h => h hw), if_neg (fun h => h c3), if_pos c4, ← h8]
      rw [hr]
      go_enter Tryz.func31, Tryz.ntmps31
      go_wp2_with (go_at_call 70; go_loud (refine (HS.out _ HC.out HB.out).mono ?_; rintro e w2 ⟨rfl, hc2, hb2, hk2⟩; have HC2 := zA hc2; have HB2 := zA hb2; have HK2 := zA hk2; clear hc2 hb2 hk2))
      go_ret
      exact ⟨rfl, S, ⟨_, _, _, HC2.out⟩, fun _ h => h, fun _ h => .inl h, HB2.out, HK2.out⟩
    ·have b3 : ((s.size : Int) != 64) = true := bne_iff_ne.mpr (by omega)
     have hr : D.write i s = (1, D) := by rw [DV.write, if_neg (fun h => h hw), if_pos c3]
     rw [hr]
     go_enter Tryz.func31, Tryz.ntmps31
     go_wp2
     go_ret
     exact ⟨rfl, S, ⟨_, _, _, HC.out⟩, fun _ h => h, fun _ h => .inl h, HB.out, Kept.refl w S⟩
theorem infoStr : (Tryz.prog.info? 9).map (fun i => (i.zero, i.size, i.bytes)) = some (some (.string ⟨#[]⟩), 1, 16) := by kernel_rfl
theorem RefC.anew {w0 W W4 : World} {S : Nat → Prop} {g : Nat} {vn vl vp v4 : Value} {D : DV} (h : RefC w0 W S g vn vl vp D) (ho4 : W4.ownsRow w0.heap.size 9 1 v4 D.now.length (D.now.map .string)) (hk : Kept W W4 (fun _ => False)) (hat : ∀ k, v4.ownBlock = some k → W.heap.size ≤ k) :
  W4.heap[g]? = some (.cells #[vn, vl, vp, .int .i64 D.left, .bool D.down] 127 (0, 0)) ∧ RefC w0 ((W4.setCell ⟨g, 1, none⟩ v4).setCell ⟨g, 2, none⟩ (.slice none 0 0)) (fun k => S k ∨ v4.ownBlock = some k) g vn v4 (.slice none 0 0) { D with last := D.now, pend := [] } := by
 have h4 := h.kept hk fun _ _ h => h
 have hb := h4.blk
 have hb1 : (W4.setCell ⟨g, 1, none⟩ v4).heap[g]? = some (.cells #[vn, v4, vp, .int .i64 D.left, .bool D.down] 127 (0, 0)) := by simpa using blk_set hb 1 v4
 have hz : ((W4.setCell ⟨g, 1, none⟩ v4).setCell ⟨g, 2, none⟩ (.slice none 0 0)).heap.size = W4.heap.size := by simp [World.setCell]
 have hne4 : v4.ownBlock ≠ some g := row_ne ho4 hb (by decide)
 refine ⟨hb, ⟨h.ok.pos, h.ok.few, rfl, h.ok.lo, h.ok.hi, fun p hq => nomatch hq⟩, by simpa using blk_set hb1 2 (.slice none 0 0), .inl h.sg, fun k hs => ?_, ownsRow_setCell_other (ownsRow_setCell_other h4.now (row_ne h4.now hb (by decide)) _) (row_ne h4.now hb (by decide)) _, ownsRow_setCell_other (ownsRow_setCell_other ho4 hne4 _) hne4 _, ⟨rfl, .inl ⟨rfl, rfl⟩⟩, fun k hk => .inl (h.sn k hk), fun k hk => .inr hk, fun k hk => by simp [Value.ownBlock] at hk, fun he => ?_⟩
 ·rw [hz]
  rcases hs with hs | hs
  ·exact h4.sb k hs
  ·obtain ⟨c, hc⟩ := row_block ho4 hs
   exact ⟨own_base ho4 k hs, blk_lt hc⟩
 ·obtain ⟨gn, cn, hvn⟩ := own_slice h.now h.ok.pos
  have h1 : vn.ownBlock = some gn := by rw [hvn]; rfl
  have h2 := hat gn (he ▸ h1)
  have h3 := (h.sb gn (h.sn gn h1)).2
  omega
def DV.rflush (D : DV) : Int × DV := if D.down then (8, D) else if D.spend.1 ≠ 0 then (8, D.spend.2) else (0, { D.spend.2 with last := D.spend.2.now, pend := [] })
set_option maxHeartbeats 4000000 in
set_option maxRecDepth 100000 in
theorem rflush.calls (g : Nat) (S : Nat → Prop) (D : DV) (w0 w : World) (hC : RefAt w0 w S g D) (hB : Below w0.heap.size w0 w) :
  Calls Tryz.prog 99 #[.pointer (some ⟨g, 0, none⟩)] w fun e w' => e = .returned (.int .i64 D.rflush.1) ∧ RefGrew w0 w w' S g D.rflush.2 := by
 obtain ⟨vn, vl, vp, hC⟩ := hC
 have HS := zA (rcount.calls g S D w0 · vn vl vp)
 obtain ⟨gn, cn, hvn⟩ := own_slice hC.now hC.ok.pos
 have h4 : w.cell? ⟨g, 4, none⟩ = some (.bool D.down) := zN hC.blk 4
 have f4 := zM hC.blk 4
 have HC := zA hC
 have HB := zA hB
 clear hC hB
 cases hd : D.down with
 | true =>
  have hf : D.rflush = (8, D) := by rw [DV.rflush, if_pos hd]
  rw [hd] at h4
  rw [hf]
  go_enter Tryz.func99, Tryz.ntmps99
  go_wp2
  go_ret
  exact ⟨rfl, S, ⟨_, _, _, HC.out⟩, fun _ h => h, fun _ h => .inl h, HB.out, Kept.refl w S⟩
 | false =>
  rw [hd] at h4
  by_cases c4 : D.spend.1 = 0
  ·have b4 : (D.spend.1 == 0) = true := beq_iff_eq.mpr c4
   have hf : D.rflush = (0, { D.spend.2 with last := D.spend.2.now, pend := [] }) := by rw [DV.rflush, hd, if_neg (by decide), if_neg (fun h => h c4)]
   rw [hf]
   obtain ⟨i0, hi, hz0, hz1, hz2⟩ := info_parts infoStr
   go_enter Tryz.func99, Tryz.ntmps99
   go_wp2_with (fail)
   go_at_call 70
   refine (HS.out _ HC.out HB.out).mono ?_
   rintro e w2 ⟨rfl, hc2, hb2, hk2⟩
   have hq0 : w2.cell? ⟨g, 0, none⟩ = some (.slice (some ⟨gn, 0, none⟩) D.now.length cn) := by rw [zN hc2.blk 0, ← hvn]; rfl
   have hq1 : w2.cell? ⟨g, 1, none⟩ = some vl := zN hc2.blk 1
   have hq2 : w2.cell? ⟨g, 2, none⟩ = some vp := zN hc2.blk 2
   have fq0 := zM hc2.blk 0
   have fq1 := zM hc2.blk 1
   have fq2 := zM hc2.blk 2
   have hnl : D.spend.2.now.length = D.now.length := by rw [spend_now]
   have HC2 := zA hc2
   have HB2 := zA hb2
   have HK2 := zA hk2
   have hfew : D.now.length ≤ 8192 := HC.out.ok.few
   have HCELL := zA (show ∀ j u, (D.spend.2.now.map Value.string)[j]? = some u → (w2.alloc (.cells #[] 9)).cell? ((⟨gn, 0, none⟩ : Addr).add j) = some u from fun j u hj => Lib.cell?_alloc_some _ (hc2.now.cells (g := gn) (by rw [hvn]; rfl) j u hj))
   have hq0a := Lib.cell?_alloc_some (.cells #[] 9) hq0
   clear hc2 hb2 hk2
   go_wp2_with (at_builtin; go_loud (refine wpList_append_own_at _ rfl (.tmp 13) (.tmp 17) 60 rfl w0.heap.size 9 i0 _ 1 _ Tryz.underlying60 hi hz0 hz1 hz2 rfl (by decide) _ 0 [] rfl (World.ownsRow_made w2 #[] 0 (below_size HB2.out) (Nat.zero_le _) (by simp)) ⟨gn, 0, none⟩ D.now.length cn (D.spend.2.now.map .string) rfl ?qc1 HCELL.out ?qc3 ?qc4 ?qc5 ?qc6 ?_); (case qc1 => simp [spend_now]); (case qc3 => (intro u hu; rw [List.mem_map] at hu; obtain ⟨x, _, rfl⟩ := hu; rfl)); (case qc4 => unfold maxLen; omega); (case qc5 => omega); (case qc6 => have := below_size HB2.out; simp; omega); go_loud (intro v4 w4 ho4 hg4 hnil4 hat4; rw [Nat.zero_add, List.nil_append] at ho4; obtain ⟨g4, c4c, rfl⟩ := own_slice ho4 (by have := HC.out.ok.pos; omega); have hk4 : Kept w2 w4 (fun _ => False) := Kept.of_grown hg4 ((Kept.refl w2 _).alloc _) (fun k hk => .inr (Nat.le_of_eq (Option.some.inj hk))); have hn4 : ∀ k, (Value.slice (some ⟨g4, 0, none⟩) D.now.length c4c).ownBlock = some k → w2.heap.size ≤ k := (fun k hk => by rcases hat4 with h | h <;> (rw [h] at hk; have hk' := Option.some.inj hk; first | exact Nat.le_of_eq hk' | (simp at hk'; omega))); have hx := HC2.out.anew (by rw [hnl]; exact ho4) hk4 hn4; have c41 := zN hx.1 1; have c42 := zN hx.1 2; have f41 := zM hx.1 1; have f42 := zM hx.1 2; have hy1 := blk_set hx.1 1 (.slice (some ⟨g4, 0, none⟩) D.now.length c4c); have c43 := zN hy1 2; have f43 := zM hy1 2; have HX := zA hx.2; have HK4 := zA hk4; have HN4 := zA hn4; have HB4 := zA ((HB2.out.alloc (below_size HB2.out) (.cells #[] 9)).grown hg4 (by have := below_size HB2.out; simp; omega) (fun k hk => Nat.le_trans (below_size HB2.out) (Nat.le_of_eq (Option.some.inj hk)))); clear hx ho4 hg4 hnil4 hat4 hk4 hn4 hy1))
   go_ret
   have hg0 : w0.heap.size ≤ g := (HC2.out.sb g HC2.out.sg).1
   refine ⟨rfl, _, ⟨_, _, _, HX.out⟩, fun k hk => .inl hk, fun k hk => ?_, below_set (below_set HB4.out hg0) hg0, ((HK2.out.then_ HK4.out fun _ h => h.elim).setCell (.inl HC2.out.sg) _).setCell (.inl HC2.out.sg) _⟩
   rcases hk with hk | hk
   ·exact .inl hk
   ·exact .inr (Nat.le_trans HK2.out.1 (HN4.out k hk))
  ·have b4 : (D.spend.1 == 0) = false := beq_eq_false_iff_ne.mpr c4
   have hf : D.rflush = (8, D.spend.2) := by rw [DV.rflush, hd, if_neg (by decide), if_pos c4]
   rw [hf]
   go_enter Tryz.func99, Tryz.ntmps99
   go_wp2_with (go_at_call 70; go_loud (refine (HS.out _ HC.out HB.out).mono ?_; rintro e w2 ⟨rfl, hc2, hb2, hk2⟩; have HC2 := zA hc2; have HB2 := zA hb2; have HK2 := zA hk2; clear hc2 hb2 hk2))
   go_ret
   exact ⟨rfl, S, ⟨_, _, _, HC2.out⟩, fun _ h => h, fun _ h => .inl h, HB2.out, HK2.out⟩
open Classical in
noncomputable def mask (T : Nat → Prop) (W : World) : World := { W with heap := W.heap.mapIdx fun i o => if T i then .cells #[] 0 (0, 0) else o }
theorem mask_at {T : Nat → Prop} {W : World} {k : Nat} (h : ¬ T k) : (mask T W).heap[k]? = W.heap[k]? := by simp [mask, h]
theorem mask_in {T : Nat → Prop} {W : World} {k : Nat} (h : T k) : (mask T W).heap[k]? = W.heap[k]?.map fun _ => .cells #[] 0 (0, 0) := by simp [mask, h]
theorem mask_none {T : Nat → Prop} {W : World} {a : Addr} (h : T a.block) : (mask T W).cell? a = none := by
 unfold World.cell?
 rw [mask_in h]
 cases W.heap[a.block]? with
 | none => rfl
 | some o => simp
theorem mask_cell {T : Nat → Prop} {W : World} {a : Addr} {v : Value} (h : (mask T W).cell? a = some v) : W.cell? a = some v ∧ ¬ T a.block := by
 by_cases ht : T a.block
 ·rw [mask_none ht] at h; cases h
 ·refine ⟨?_, ht⟩
  unfold World.cell? at h ⊢
  rwa [mask_at ht] at h
theorem cell_mask {T : Nat → Prop} {W : World} {a : Addr} {v : Value} (h : W.cell? a = some v) (ht : ¬ T a.block) : (mask T W).cell? a = some v := by
 unfold World.cell? at h ⊢
 rwa [mask_at ht]
def Sub (Z W : World) : Prop := ∀ a v, Z.cell? a = some v → W.cell? a = some v
theorem Sub.refl (W : World) : Sub W W := fun _ _ h => h
theorem Sub.trans {A B C : World} (h : Sub A B) (k : Sub B C) : Sub A C := fun a v q => k a v (h a v q)
theorem sub_mask (T : Nat → Prop) (W : World) : Sub (mask T W) W := fun _ _ h => (mask_cell h).1
theorem kept_cell {W W' : World} {T : Nat → Prop} (hk : Kept W W' T) {a : Addr} {v : Value} (h : W.cell? a = some v) (ht : ¬ T a.block) : W'.cell? a = some v := by
 have hb := hk.2 a.block (zB W a h) ht
 unfold World.cell? at h ⊢
 rwa [hb]
theorem sub_use {W W' : World} {T T0 : Nat → Prop} (hk : Kept W W' T0) (ht : ∀ k, T0 k → T k) : Sub (mask T W) W' := fun a v h => by
 obtain ⟨h1, h2⟩ := mask_cell h
 exact kept_cell hk h1 fun q => h2 (ht _ q)
theorem sub_move {W W' : World} {T T0 T' : Nat → Prop} (hk : Kept W W' T0) (ht : ∀ k, T0 k → T k) (ht' : ∀ k, k < W.heap.size → T' k → T k) : Sub (mask T W) (mask T' W') := fun a v h => by
 obtain ⟨h1, h2⟩ := mask_cell h
 exact cell_mask (kept_cell hk h1 fun q => h2 (ht _ q)) fun q => h2 (ht' _ (zB W a h1) q)
theorem sub_below {W W' : World} (hb : Below W.heap.size W W') : Sub W W' := fun a v h => (hb.cell (zB W a h)).trans h
def Mono {α : Type} (d : Kd α) : Prop := ∀ Z W x cs, Sub Z W → d.K Z x cs → d.K W x cs
theorem Mono.C {α : Type} {d : Kd α} (h : Mono d) {Z W : World} (hs : Sub Z W) {A : Option Addr} {n : Nat} {xs : List α} (hc : d.C Z A n xs) : d.C W A n xs := by
 refine ⟨hc.1, hc.2.1, fun hn => ?_⟩
 obtain ⟨ad, he, hcell⟩ := hc.2.2 hn
 refine ⟨ad, he, fun j p hj => ?_⟩
 obtain ⟨c, h1, h2, h3⟩ := hcell j p hj
 exact ⟨c, h1, h _ _ _ _ hs h2, fun i u hu => hs _ _ (h3 i u hu)⟩
theorem mono_scalar {α : Type} {enc : α → Value} {h1 : ∀ x, (enc x).oneCell' = true} : Mono (Kd.scalar enc h1) := fun _ _ _ _ _ h => h
theorem mono_pair {α β : Type} {a : Kd α} {b : Kd β} (ha : Mono a) (hb : Mono b) : Mono (Kd.pair a b) := by
 rintro Z W x cs hs ⟨c0, c1, rfl, h0, h1⟩
 exact ⟨c0, c1, rfl, ha _ _ _ _ hs h0, hb _ _ _ _ hs h1⟩
theorem mono_iso {α β : Type} {d : Kd α} (f : β → α) (h : Mono d) : Mono (Kd.iso d f) := fun Z W x cs hs hk => h Z W (f x) cs hs hk
theorem mono_slice {α : Type} {e : Nat} {d : Kd α} (h : Mono d) : Mono (Kd.slice e d) := by
 rintro Z W x cs hs ⟨A, c, rfl, hl, hr⟩
 exact ⟨A, c, rfl, hl, h.C hs hr⟩
theorem mono_span : Mono k87 := mono_iso _ (mono_pair mono_scalar mono_scalar)
theorem mono_file : Mono k85 := mono_iso _ (mono_pair mono_scalar (mono_pair mono_scalar (mono_slice mono_span)))
theorem R_mask {α : Type} {d : Kd α} {e base : Nat} {W : World} {ok T : Nat → Prop} {v : Value} {xs : List α} (h : d.R e W base ok v xs) (ht : ∀ k, base ≤ k → k < W.heap.size → ¬ T k) : ∃ A c, v = .slice A xs.length c ∧ xs.length ≤ c ∧ d.C (mask T W) A xs.length xs :=
 Kd.R_reads (Kd.R_move (Kd.R_bound h) fun k hk => mask_at (ht k hk.2.1 hk.2.2.1))
def idxFi (p : S85 → Bool) (l : List S85) : Int := match l.findIdx? p with | some i => (i : Int) | none => -1
theorem idxFi_hit (p : S85 → Bool) (l : List S85) (i : Nat) (h : i < l.length) (hi : p l[i] = true) (ha : ∀ j (hj : j < l.length), j < i → p l[j] = false) : idxFi p l = (i : Int) := by
 have : l.findIdx? p = some i := by
  rw [List.findIdx?_eq_some_iff_getElem]
  exact ⟨h, hi, fun j hj => by simp [ha j (by omega) hj]⟩
 unfold idxFi
 rw [this]
theorem idxFi_miss (p : S85 → Bool) (l : List S85) (ha : ∀ j (hj : j < l.length), p l[j] = false) : idxFi p l = -1 := by
 have : l.findIdx? p = none := by
  rw [List.findIdx?_eq_none_iff]
  intro x hx
  obtain ⟨j, hj, rfl⟩ := List.getElem_of_mem hx
  exact ha j hj
 unfold idxFi
 rw [this]
def PBFi (g gb : Nat) (p : S85 → Bool) (w : World) : Prop := ∀ (W : World) (x : S85) (A : Option Addr) (c : Nat), Below w.heap.size w W →
 Calls Tryz.prog g #[.agg #[.string x.f0, .int .i64 x.f1, .slice A x.f2.length c], .pointer (some ⟨gb, 0, none⟩)] W fun e w' => e = .returned (.bool (p x)) ∧ Below W.heap.size W w'
set_option maxHeartbeats 2000000 in
set_option maxRecDepth 100000 in
theorem find1.calls (name : ByteArray) (gb : Nat) (w : World) (hn : w.cell? ⟨gb, 0, none⟩ = some (.string name)) : PBFi 112 gb (fun x => x.f0.toList == name.toList) w := by
 intro W x A c hb
 have hlt : gb < w.heap.size := zB w _ hn
 have hc : W.cell? ⟨gb, 0, none⟩ = some (.string name) := (hb.cell hlt).trans hn
 have hlt2 : gb < W.heap.size := zB W _ hc
 clear hn
 have hu := Tryz.underlying85
 go_enter Tryz.func112, Tryz.ntmps112
 go_wp2
 go_ret
 exact ⟨rfl, Below.alloc (Below.refl _ _) (Nat.le_refl _) _⟩
set_option maxHeartbeats 2000000 in
set_option maxRecDepth 100000 in
theorem indexF.calls (A : Option Addr) (c : Nat) (l : List S85) (gb : Nat) (p : S85 → Bool) (w : World) (hr : Kd.C k85 w A l.length l) (hp : PBFi 112 gb p w) :
  Calls Tryz.prog 111 #[.slice A l.length c, .func (.func 112) #[] #[.pointer (some ⟨gb, 0, none⟩)]] w fun e w' => e = .returned (.int .i64 (idxFi p l)) ∧ Below w.heap.size w w' := by
 have HR := zA hr
 have HP := zA hp
 have hbig : l.length ≤ 9223372036854775807 := hr.2.1
 clear hr hp
 have hu := Tryz.underlying85
 go_enter Tryz.func111, Tryz.ntmps111
 go_wp2
 go_loopg [5, 8] l.length (fun gg _ s8 wr => ∃ i : Nat, i ≤ l.length ∧ l.length - i ≤ gg ∧ s8 = .int .i64 i ∧ Aside0 (Below w.heap.size w wr) ∧ Aside0 (∀ j (hj : j < l.length), j < i → p l[j] = false))
 case atStart => exact ⟨0, Nat.zero_le _, by omega, rfl, ⟨Below.refl _ _⟩, ⟨fun j _ hj => absurd hj (Nat.not_lt_zero _)⟩⟩
 case round =>
  obtain ⟨i, hi, hg, rfl, HB, HA⟩ := hrel
  by_cases hlt : i < l.length
  ·have hltz : decide ((i : Int) < (l.length : Int)) = true := zH (by omega)
   have hi0 : (0 : Int) ≤ (i : Int) := by omega
   have hi1 : (i : Int) < (l.length : Int) := by omega
   obtain ⟨ad, A2, c2, rfl, hx0, hx1, hx2, hl2, hC⟩ := at_T85 HR.out (i : Int) hi0 hi1
   have hrd : rd_T85 l (i : Int) = l[i] := by simp [rd_T85, List.getD_eq_getElem?_getD, hlt]
   rw [hrd] at hx0 hx1 hx2 hl2 hC
   have hbb := zB w _ hx0
   replace hx0 := (HB.out.cell hbb).trans hx0
   replace hx1 := (HB.out.cell (zB w _ hx1)).trans hx1
   replace hx2 := (HB.out.cell (zB w _ hx2)).trans hx2
   simp only [Int.toNat_natCast] at hx0 hx1 hx2
   have hcall := HP.out wr l[i] A2 c2 HB.out
   generalize hy : l[i] = y at hx0 hx1 hx2 hcall
   have HY := zA hy
   have HCALL := zA hcall
   clear hy hrd hC hl2 hcall
   cases hq : p y with
   | true =>
    rw [hq] at HCALL
    go_wp2_with (go_at_call 112; refine HCALL.out.mono ?_; rintro e w' ⟨rfl, hb'⟩)
    go_ret
    refine ⟨?_, HB.out.trans (hb'.mono HB.out.size)⟩
    rw [idxFi_hit p l i hlt (by rw [HY.out]; exact hq) HA.out]
    rfl
   | false =>
    rw [hq] at HCALL
    go_wp2_with (go_at_call 112; refine HCALL.out.mono ?_; rintro e w' ⟨rfl, hb'⟩)
    go_roundg (l.length - (i + 1))
    case measure => omega
    case rel =>
     refine ⟨i + 1, by omega, by omega, by go_num, ⟨HB.out.trans (hb'.mono HB.out.size)⟩, ⟨fun j hj hji => ?_⟩⟩
     by_cases e : j = i
     ·subst e
      rw [HY.out]; exact hq
     ·exact HA.out j hj (by omega)
  ·have hltz : decide ((i : Int) < (l.length : Int)) = false := zI (by omega)
   go_wp2
   go_ret
   refine ⟨?_, HB.out⟩
   rw [idxFi_miss p l fun j hj => HA.out j hj (by omega)]
   rfl
theorem pairs_inner {α : Type} {R : α → List Value → Prop} {sz : Nat} : ∀ (l : List α) (inner : List Value), Reps R sz l inner → ∃ ps : List (α × List Value), ps.map (·.1) = l ∧ ps.flatMap (·.2) = inner ∧ ∀ p ∈ ps, R p.1 p.2 ∧ p.2.length = sz
 | [], inner, h => ⟨[], rfl, by have := h.1; simp at this; subst this; rfl, fun _ h => nomatch h⟩
 | x :: t, inner, h => by
  have hl : inner.length = (t.length + 1) * sz := h.1
  rw [Nat.add_mul, Nat.one_mul] at hl
  have h2 : Reps R sz t (inner.drop sz) := ⟨by rw [List.length_drop]; omega, fun j p hj => by
   have := h.2 (j + 1) p (by simpa using hj)
   rwa [Nat.add_mul, Nat.one_mul, Nat.add_comm, ← List.drop_drop] at this⟩
  obtain ⟨ps, e1, e2, e3⟩ := pairs_inner t _ h2
  have h0 := h.2 0 x rfl
  rw [Nat.zero_mul, List.drop_zero] at h0
  refine ⟨(x, inner.take sz) :: ps, by rw [List.map_cons, e1], ?_, fun p hp => ?_⟩
  ·rw [List.flatMap_cons, e2]; exact List.take_append_drop _ _
  ·rcases List.mem_cons.1 hp with rfl | hp
   ·exact ⟨h0, by rw [List.length_take]; omega⟩
   ·exact e3 p hp
theorem reps_pairs {α : Type} {R : α → List Value → Prop} {sz : Nat} : ∀ ps : List (α × List Value), (∀ p ∈ ps, R p.1 p.2 ∧ p.2.length = sz) → Reps R sz (ps.map (·.1)) (ps.flatMap (·.2))
 | [], _ => Reps.none _ _
 | p :: t, h => Reps.front (h p (List.mem_cons_self ..)).1 (h p (List.mem_cons_self ..)).2 (reps_pairs t fun q hq => h q (List.mem_cons_of_mem _ hq)) rfl
theorem flat_len {α : Type} {sz : Nat} : ∀ ps : List (α × List Value), (∀ p ∈ ps, p.2.length = sz) → (ps.flatMap (·.2)).length = ps.length * sz
 | [], _ => by simp
 | p :: t, h => by
  rw [List.flatMap_cons, zO, h p (List.mem_cons_self ..), flat_len t fun q hq => h q (List.mem_cons_of_mem _ hq), List.length_cons, Nat.add_mul, Nat.one_mul, Nat.add_comm]
theorem flat_cut {α : Type} {sz : Nat} (ps : List (α × List Value)) (h : ∀ p ∈ ps, p.2.length = sz) (i : Nat) (hi : i ≤ ps.length) : (ps.flatMap (·.2)).take (i * sz) = (ps.take i).flatMap (·.2) ∧ (ps.flatMap (·.2)).drop (i * sz) = (ps.drop i).flatMap (·.2) := by
 have h1 : ((ps.take i).flatMap (·.2)).length = i * sz := by rw [flat_len _ fun p hp => h p (List.mem_of_mem_take hp), List.length_take, Nat.min_eq_left hi]
 have h2 : ps.flatMap (·.2) = (ps.take i).flatMap (·.2) ++ (ps.drop i).flatMap (·.2) := by rw [← List.flatMap_append, List.take_append_drop]
 rw [h2]
 exact ⟨by rw [← h1, List.take_left], by rw [← h1, List.drop_left]⟩
theorem blk_setCells {e : TypeId} {fz : Nat × Nat} (g : Nat) : ∀ (vs : List Value) (o : Nat) (w : World) (L : List Value), w.heap[g]? = some (.cells L.toArray e fz) → o + vs.length ≤ L.length → (w.setCells g o vs).heap[g]? = some (.cells (L.take o ++ vs ++ L.drop (o + vs.length)).toArray e fz)
 | [], o, w, L, h, _ => by simpa [World.setCells] using h
 | v :: r, o, w, L, h, hl => by
  rw [List.length_cons] at hl
  have hw : (w.setCell ⟨g, o, none⟩ v).heap[g]? = some (.cells (L.set o v).toArray e fz) := by simp [World.setCell, Array.getElem?_modify, h]
  show ((w.setCell ⟨g, o, none⟩ v).setCells g (o + 1) r).heap[g]? = _
  rw [blk_setCells g r (o + 1) _ _ hw (by rw [List.length_set]; omega)]
  congr 3
  have h1 : (L.set o v).take (o + 1) = L.take o ++ [v] := by
   rw [List.take_succ_eq_append_getElem (by rw [List.length_set]; omega), List.take_set_of_le (Nat.le_refl _)]
   simp
  rw [h1, List.drop_set_of_lt (by omega), List.length_cons, show o + 1 + r.length = o + (r.length + 1) by omega]
  simp
theorem below_sets {B g : Nat} {a : World} (hg : B ≤ g) : ∀ (vs : List Value) (o : Nat) {w : World}, Below B a w → Below B a (w.setCells g o vs)
 | [], _, _, h => h
 | v :: r, o, _, h => below_sets hg r (o + 1) (h.setCell (p := ⟨g, o, none⟩) hg v)
abbrev Pr := S85 × List Value
def OwnP (ZW w0 w : World) (v : Value) (ps : List Pr) : Prop := w.ownsRow w0.heap.size 85 3 v ps.length (ps.flatMap (·.2)) ∧ ∀ p ∈ ps, (k85).K ZW p.1 p.2
theorem OwnP.len {ZW w0 w : World} {v : Value} {ps : List Pr} (h : OwnP ZW w0 w v ps) : ∀ p ∈ ps, p.2.length = 3 := fun p hp => (k85).K_len (h.2 p hp)
theorem OwnP.reads {ZW w0 w : World} {v : Value} {ps : List Pr} (h : OwnP ZW w0 w v ps) (hs : Sub ZW w) : ∃ A c, v = .slice A (ps.map (·.1)).length c ∧ (ps.map (·.1)).length ≤ c ∧ Kd.C k85 w A (ps.map (·.1)).length (ps.map (·.1)) := by
 have hr : Reps ((k85).K w) 3 (ps.map (·.1)) (ps.flatMap (·.2)) := reps_pairs ps fun p hp => ⟨mono_file _ _ _ _ hs (h.2 p hp), (k85).K_len (h.2 p hp)⟩
 obtain ⟨A, c, rfl, hrow⟩ := own_reads_row h.1 hr (List.length_map ..)
 have hl := own_le h.1
 exact ⟨A, c, by rw [List.length_map], by rw [List.length_map]; exact hl, by rw [List.length_map]; exact hrow⟩
set_option maxHeartbeats 2000000 in
set_option maxRecDepth 100000 in
theorem cloneF.calls (A : Option Addr) (c : Nat) (l : List S85) (ZW w0 w : World) (hs : Sub ZW w) (hr : Kd.C k85 ZW A l.length l) (hb : Below w0.heap.size w0 w) (hl : l.length ≤ 1000000) :
  Calls Tryz.prog 55 #[.slice A l.length c] w fun e w' => ∃ v ps, e = .returned v ∧ ps.map (·.1) = l ∧ OwnP ZW w0 w' v ps ∧ Below w.heap.size w w' := by
 have q22 : ∀ (w : World) (a : Option Addr) (n c n' c' : Nat), (binOp .eql 40 (.slice a n c) (.slice none n' c')).run Tryz.prog w = .ok (.bool a.isNone) w := fun w a n c n' c' => Lib.run_eql_slice_nil w _ _ a n c n' c' Tryz.underlying40
 have HR := zA hr
 have HB := zA hb
 clear hr hb
 cases A with
 | none =>
  have h0 : l = [] := by
   rcases Nat.eq_zero_or_pos l.length with h | h
   ·exact List.eq_nil_of_length_eq_zero h
   ·obtain ⟨ad, he, _⟩ := HR.out.2.2 h
    cases he
  subst h0
  go_enter Tryz.func55, Tryz.ntmps55
  go_wp2
  go_ret
  exact ⟨_, [], rfl, rfl, ⟨⟨rfl, .inl ⟨rfl, rfl⟩⟩, fun _ h => nomatch h⟩, Below.refl _ _⟩
 | some ad =>
  obtain ⟨inner, hin, hcell⟩ := ReadsRow.inner_ HR.out
  obtain ⟨ps, e1, e2, e3⟩ := pairs_inner l inner hin
  obtain ⟨i0, hi, hz0, hz1, hz2⟩ := info_parts info85
  have hlen : inner.length = l.length * 3 := hin.1
  have h1 : ∀ u ∈ inner, u.oneCell' = true := fun u hu => by
   rw [← e2, List.mem_flatMap] at hu
   obtain ⟨p, hp, hu⟩ := hu
   exact (k85).K_one (e3 p hp).1 u hu
  have HC := zA (show ∀ j u, inner[j]? = some u → w.cell? (ad.add j) = some u from fun j u hj => hs _ _ (hcell j u hj))
  have H1 := zA h1
  have HL := zA hlen
  have HP := zA (show ps.map (·.1) = l ∧ ps.flatMap (·.2) = inner ∧ ∀ p ∈ ps, (k85).K ZW p.1 p.2 from ⟨e1, e2, fun p hp => (e3 p hp).1⟩)
  clear hin hcell e1 e2 e3 h1 hlen hs
  go_enter Tryz.func55, Tryz.ntmps55
  go_wp2_with (at_builtin; refine wpList_append_own _ rfl (.tmp 5) (.tmp 6) 40 rfl w0.heap.size 85 i0 _ 3 _ Tryz.underlying40 hi hz0 hz1 hz2 rfl (by decide) _ 0 [] rfl (World.ownsRow_made w #[] 0 (below_size HB.out) (Nat.zero_le _) (by simp)) ad l.length c inner rfl HL.out ?qc2 H1.out ?qc4 ?qc5 ?qc6 ?_)
  case qc2 => exact fun j u hj => Lib.cell?_alloc_some _ (HC.out j u hj)
  case qc4 => unfold maxLen; omega
  case qc5 => omega
  case qc6 => have := below_size HB.out; simp; omega
  intro v' w1 hown hgrow hnil
  go_wp2
  go_ret
  obtain ⟨e1, e2, e3⟩ := HP.out
  refine ⟨v', ps, rfl, e1, ⟨?_, e3⟩, ((Below.refl _ w).alloc (Nat.le_refl _) _).grown hgrow (by simp) (by intro k hk; simp [Value.ownBlock] at hk; omega)⟩
  have hpl : ps.length = l.length := by rw [← e1, List.length_map]
  rw [e2, hpl]
  simpa using hown
theorem OwnP.block {ZW w0 w : World} {v : Value} {ps : List Pr} (h : OwnP ZW w0 w v ps) : (v = .slice none 0 0 ∧ ps = []) ∨ ∃ g cap L, v = .slice (some ⟨g, 0, none⟩) ps.length cap ∧ w0.heap.size ≤ g ∧ w.heap[g]? = some (.cells (L : List Value).toArray 85 (0, 0)) ∧ ps.length ≤ cap ∧ cap ≤ maxLen ∧ L.length = cap * 3 ∧ L.take (ps.length * 3) = ps.flatMap (·.2) := by
 obtain ⟨⟨h1, h2⟩, h3⟩ := h
 rcases h2 with ⟨rfl, h0⟩ | ⟨g, cap, cur, rfl, hg, hh, hn, hc, hs, ht⟩
 ·exact .inl ⟨rfl, List.eq_nil_of_length_eq_zero h0⟩
 ·exact .inr ⟨g, cap, cur.toList, rfl, hg, by simpa using hh, hn, hc, by simpa using hs, ht⟩
theorem OwnP.mk' {ZW w0 w : World} {g cap n : Nat} {L : List Value} {ps : List Pr} (hg : w0.heap.size ≤ g) (hh : w.heap[g]? = some (.cells L.toArray 85 (0, 0))) (hn : n = ps.length) (hc : n ≤ cap) (hm : cap ≤ maxLen) (hl : L.length = cap * 3) (ht : L.take (n * 3) = ps.flatMap (·.2)) (hK : ∀ p ∈ ps, (k85).K ZW p.1 p.2) : OwnP ZW w0 w (.slice (some ⟨g, 0, none⟩) n cap) ps := by
 subst hn
 exact ⟨⟨flat_len ps fun p hp => (k85).K_len (hK p hp), .inr ⟨g, cap, L.toArray, rfl, hg, hh, hc, hm, by simpa using hl, by simpa using ht⟩⟩, hK⟩
theorem flat_set (ps : List Pr) (h : ∀ p ∈ ps, p.2.length = 3) (i : Nat) (hi : i < ps.length) (q : Pr) (hq : q.2.length = 3) (L : List Value) (n : Nat) (hn : n = ps.length) (hL : L.take (n * 3) = ps.flatMap (·.2)) (hl : n * 3 ≤ L.length) : (L.take (i * 3) ++ q.2 ++ L.drop (i * 3 + q.2.length)).take (n * 3) = (ps.set i q).flatMap (·.2) := by
 subst hn
 have e1 : L.take (i * 3) = (ps.take i).flatMap (·.2) := by
  rw [← (flat_cut ps h i (by omega)).1, ← hL, List.take_take, Nat.min_eq_left (by omega)]
 have e2 : (L.drop (i * 3 + 3)).take (ps.length * 3 - (i * 3 + 3)) = (ps.drop (i + 1)).flatMap (·.2) := by
  rw [← (flat_cut ps h (i + 1) (by omega)).2, ← hL, List.drop_take, Nat.add_mul, Nat.one_mul]
 have e3 : (L.take (i * 3)).length = i * 3 := by rw [List.length_take]; omega
 rw [hq, List.append_assoc, List.take_append, e3, List.take_of_length_le (by omega), List.take_append, hq, List.take_of_length_le (l := q.2) (by omega), show ps.length * 3 - i * 3 - 3 = ps.length * 3 - (i * 3 + 3) by omega, e2, e1, List.set_eq_take_append_cons_drop, if_pos hi, List.flatMap_append, List.flatMap_cons]
theorem flat_ins (ps : List Pr) (h : ∀ p ∈ ps, p.2.length = 3) (i : Nat) (hi : i ≤ ps.length) (q : Pr) : (ps.take i ++ q :: ps.drop i).flatMap (·.2) = (ps.flatMap (·.2)).take (i * 3) ++ (q.2 ++ (ps.flatMap (·.2)).drop (i * 3)) := by
 rw [(flat_cut ps h i hi).1, (flat_cut ps h i hi).2, List.flatMap_append, List.flatMap_cons]
theorem run_copy_k {P : Program} (w : World) (dT sT ty elem : TypeId) (k b o dLen dCap : Nat) (a : Addr) (sLen sCap : Nat) (cs : List Value)
  (hu : P.underlying dT = some (.slice elem)) (hs : (P.info? elem).map (·.size) = some k) (hn : cs.length = Nat.min sLen dLen * k)
  (hsrc : ∀ j v, cs[j]? = some v → w.cell? (a.add j) = some v) (hc : ∀ j, j < cs.length → (w.cell? ⟨b, o + j, none⟩).isSome = true) (hf : ∀ j, j < cs.length → w.frozen? ⟨b, o + j, none⟩ = false) (h1 : ∀ v ∈ cs, v.oneCell' = true) :
  (Builtin.copy_ #[dT, sT] ty #[.slice (some ⟨b, o, none⟩) dLen dCap, .slice (some a) sLen sCap]).run P w = .ok (goInt (Nat.min sLen dLen)) (w.setCells b o cs) := by
 have hl := run_loadCells_list (P := P) w a cs hsrc
 have hst := run_storeCells_cells (P := P) b o cs 0 w (by simpa using hc) (by simpa using hf) h1
 cases hq : P.info? elem with
 | none => simp [hq] at hs
 | some i =>
  have hi : i.size = k := by simpa [hq] using hs
  rw [hn] at hl
  simp [Builtin.copy_, run_underlying hu, Builtin.lenOf, Builtin.firstCells, sizeOf, typeInfo, hq, hi, hl, hst]
theorem wp_copy_runK {P : Program} (w : World) {o : Oper} {a : Act} {K : Act → World → Prop} {Q : Exit → Act → World → Prop} (d s : Operand) (t t' : TypeId)
  (ho : o.op = .call { callee := .builtin .copy, args := #[d, s], argTypes := #[t, t'] }) (v u : Value) (hd : a.eval d = v) (hs : a.eval s = u) {v' : Value} {w' : World}
  (hr : (Builtin.copy_ #[t, t'] o.type #[v, u]).run P w = .ok v' w') (h : K (a.put o.dst v') w') : o.wp P a w K Q := by
 unfold Oper.wp execOp
 simp only [ho, resolve, invoke, builtin, Sem.run_bind, Sem.run_pure, Result.andThen_ok, List.map_toArray, List.map_cons, List.map_nil, hd, hs, hr]
 exact h
theorem wpList_copy_runK {P : Program} (w : World) {ops : Array Oper} {rest : List Oper} {o : Oper} {a : Act} {Q : Exit → Act → World → Prop} (hgd : o.guard = none) (d s : Operand) (t t' : TypeId)
  (ho : o.op = .call { callee := .builtin .copy, args := #[d, s], argTypes := #[t, t'] }) (v u : Value) (hd : a.eval d = v) (hs : a.eval s = u) {v' : Value} {w' : World}
  (hr : (Builtin.copy_ #[t, t'] o.type #[v, u]).run P w = .ok v' w') (h : wpList P ops Q rest (a.put o.dst v') w') : wpList P ops Q (o :: rest) a w :=
 wpList_plain hgd fun _ hK => wp_copy_runK w d s t t' ho v u hd hs hr (hK _ _ h)
theorem step_copy_runK {P : Program} {ops : Array Oper} {o : Oper} {a : Act} {w : World} {K : Act → World → Prop} {Q : Exit → Act → World → Prop} {E : Prop}
  (hg : o.guard = none) (d x : Operand) (dT sT : TypeId) (hop : o.op = Op.call { callee := Callee.builtin Builtin.copy, args := #[d, x], argTypes := #[dT, sT] })
  (v u : Value) (hd : a.eval d = v) (hx : a.eval x = u) {v' : Value} {w' : World} (hr : (Builtin.copy_ #[dT, sT] o.type #[v, u]).run P w = .ok v' w') (hK : K (a.put o.dst v') w') :
  if Region.wanted o (yielded ops a.tmps) = true then Oper.wp P o a w K Q else E := by
 have hw : Region.wanted o (yielded ops a.tmps) = true := by simp [Region.wanted, hg]
 rw [if_pos hw]
 exact wp_copy_runK w d x dT sT hop v u hd hx hr hK
theorem heap_setsK (w : World) (g : Nat) {i : Nat} (hne : i ≠ g) : ∀ (vs : List Value) (o : Nat) (w : World), (w.setCells g o vs).heap[i]? = w.heap[i]?
 | [], _, _ => rfl
 | v :: r, o, w => (heap_setsK w g hne r (o + 1) _).trans (Below.heap_setCell w ⟨g, o, none⟩ v i hne)
theorem sizeOf_k {P : Program} {t k : Nat} (h : (P.info? t).map (·.size) = some k) (w : World) : (Go.sizeOf t).run P w = .ok k w := by
 cases hq : P.info? t with
 | none => simp [hq] at h
 | some i =>
  have hi : i.size = k := by simpa [hq] using h
  simp [sizeOf, typeInfo, hq, hi]
theorem cell_of_list {w : World} {g : Nat} {L : List Value} {e : TypeId} (h : w.heap[g]? = some (.cells L.toArray e (0, 0))) (j : Nat) : w.cell? ⟨g, j, none⟩ = L[j]? := by
 rw [cell_of_row w g j _ _ _ h]
 simp
theorem frozen_of_list {w : World} {g : Nat} {L : List Value} {e : TypeId} (h : w.heap[g]? = some (.cells L.toArray e (0, 0))) (j : Nat) : w.frozen? ⟨g, j, none⟩ = false := by
 simp [World.frozen?, h]
set_option maxHeartbeats 2000000 in
set_option maxRecDepth 100000 in
theorem insert_end (ZW w0 w : World) (v : Value) (ps : List Pr) (x : S85) (cs : List Value) (vb : Nat) (ho : OwnP ZW w0 w v ps) (hb : Below w0.heap.size w0 w) (hl : ps.length ≤ 1000000) (hK : (k85).K ZW x cs) (hvb : w.heap[vb]? = some (.cells cs.toArray 85 (0, 0))) :
  Calls Tryz.prog 104 #[v, .int .i64 ps.length, .slice (some ⟨vb, 0, none⟩) 1 1] w fun e w' => ∃ v', e = .returned v' ∧ OwnP ZW w0 w' v' (ps ++ [(x, cs)]) ∧ Below w0.heap.size w0 w' := by
 obtain ⟨i0, hi, hz0, hz1, hz2⟩ := info_parts info85
 have H1 : Aside0 (∀ u ∈ cs, u.oneCell' = true) := ⟨(k85).K_one hK⟩
 have H3 : Aside0 (cs.length = 1 * 3) := ⟨(k85).K_len hK⟩
 have HC : Aside0 (∀ j u, cs[j]? = some u → w.cell? ((⟨vb, 0, none⟩ : Addr).add j) = some u) := ⟨fun j u hj => by
  rw [Addr.add_lit, Nat.zero_add, cell_of_list hvb j]; exact hj⟩
 have HO := zA ho
 have HB := zA hb
 have HK := zA hK
 have hn0 : (0 : Int) ≤ (ps.length : Int) := by omega
 have fin : ∀ v' w1, w1.ownsRow w0.heap.size 85 3 v' (ps.length + 1) (ps.flatMap (·.2) ++ cs) → w.grownBy w1 v.ownBlock → OwnP ZW w0 w1 v' (ps ++ [(x, cs)]) ∧ Below w0.heap.size w0 w1 := fun v' w1 hown hgrow => by
  refine ⟨⟨by simpa using hown, fun p hp => ?_⟩, HB.out.grown hgrow (below_size HB.out) fun k hk => ?_⟩
  ·rcases List.mem_append.1 hp with hp | hp
   ·exact HO.out.2 p hp
   ·obtain rfl := List.mem_singleton.1 hp
    exact HK.out
  ·rcases HO.out.1.2 with ⟨rfl, _⟩ | ⟨g, cap, cur, rfl, hg, _⟩
   ·simp [Value.ownBlock] at hk
   ·simp [Value.ownBlock] at hk
    omega
 have HF := zA fin
 clear fin hK hvb
 rcases ho.block with ⟨rfl, rfl⟩ | ⟨g, cap, L, rfl, hg, hh, hcn, hcm, hLl, hLt⟩
 ·clear ho hb
  go_enter Tryz.func104, Tryz.ntmps104
  go_wp2_with (at_builtin; refine wpList_append_own _ rfl (.tmp 23) (.tmp 24) 40 rfl w0.heap.size 85 i0 _ 3 _ Tryz.underlying40 hi hz0 hz1 hz2 rfl (by decide) _ 0 [] rfl HO.out.1 ⟨vb, 0, none⟩ 1 1 cs rfl H3.out HC.out H1.out ?qc4 ?qc5 (below_size HB.out) ?_)
  case qc4 => decide
  case qc5 => omega
  intro v' w1 hown hgrow hnil
  go_wp2
  go_ret
  exact ⟨v', rfl, HF.out v' w1 hown hgrow⟩
 ·have hn1 : (ps.length : Int) ≤ (cap : Int) := by omega
  have hn2 : (cap : Int) ≤ 9223372036854775807 := by unfold maxLen at hcm; omega
  clear ho hb hh hLl hLt
  go_enter Tryz.func104, Tryz.ntmps104
  by_cases hcap : cap = ps.length
  all_goals
   go_wp2_with (at_builtin; go_loud (refine wpList_append_own _ rfl (.tmp 23) (.tmp 24) 40 rfl w0.heap.size 85 i0 _ 3 _ Tryz.underlying40 hi hz0 hz1 hz2 rfl (by decide) (.slice (some ⟨g, 0, none⟩) ps.length cap) ps.length _ rfl HO.out.1 ⟨vb, 0, none⟩ 1 1 cs rfl H3.out HC.out H1.out ?qc4 ?qc5 (below_size HB.out) ?_))
   case qc4 => unfold maxLen; omega
   case qc5 => omega
   intro v' w1 hown hgrow hnil
   go_wp2
   go_ret
   exact ⟨v', rfl, HF.out v' w1 hown hgrow⟩
theorem seg_ins {A cs D T inn : List Value} {a n i : Nat} (hi : i ≤ n) (ha : a = i * 3) (hA : A.length = a + 3) (hc : cs.length = 3) (hD : D = inn.drop a) (hn : inn.length = n * 3) (hAi : A.take a = inn.take a) :
  ((A ++ D ++ T).take a ++ cs ++ (A ++ D ++ T).drop (a + cs.length)).take ((n + 1) * 3) = inn.take a ++ (cs ++ inn.drop a) := by
 have hDl : D.length = n * 3 - a := by rw [hD, List.length_drop, hn]
 have e1 : (A ++ D ++ T).take a = inn.take a := by rw [List.append_assoc, List.take_append_of_le_length (by omega), hAi]
 have e2 : (A ++ D ++ T).drop (a + 3) = D ++ T := by rw [List.append_assoc, ← hA, List.drop_left]
 have e3 : (inn.take a).length = a := by rw [List.length_take]; omega
 rw [hc, e1, e2, ← List.append_assoc, List.take_left' (by rw [zO, zO]; omega), List.append_assoc, hD]
theorem seg_new {A cs D T inn : List Value} {a n i : Nat} (hi : i ≤ n) (ha : a = i * 3) (hc : cs.length = 3) (hD : D = inn.drop a) (hn : inn.length = n * 3) (hA : A.take a = inn.take a) (hAl : a ≤ A.length) :
  ((A.take a ++ cs ++ T).take (a + 3) ++ D ++ (A.take a ++ cs ++ T).drop (a + 3 + D.length)).take ((n + 1) * 3) = inn.take a ++ (cs ++ inn.drop a) := by
 have hDl : D.length = n * 3 - a := by rw [hD, List.length_drop, hn]
 have e3 : (A.take a).length = a := by rw [List.length_take]; omega
 have e1 : (A.take a ++ cs ++ T).take (a + 3) = A.take a ++ cs := by
  rw [List.take_append_of_le_length (by rw [zO]; omega), List.take_of_length_le (by rw [zO]; omega)]
 rw [e1, List.take_left' (by rw [zO, zO]; omega), hD, hA, List.append_assoc]
set_option maxHeartbeats 4000000 in
set_option maxRecDepth 100000 in
theorem insert_room (ZW w0 w : World) (g cap : Nat) (L : List Value) (ps : List Pr) (i : Nat) (x : S85) (cs : List Value) (vb : Nat) (hb : Below w0.heap.size w0 w) (hg : w0.heap.size ≤ g) (hh : w.heap[g]? = some (.cells L.toArray 85 (0, 0))) (hroom : ps.length + 1 ≤ cap) (hcm : cap ≤ maxLen) (hLl : L.length = cap * 3) (hLt : L.take (ps.length * 3) = ps.flatMap (·.2)) (hKs : ∀ p ∈ ps, (k85).K ZW p.1 p.2)
  (hi : i < ps.length) (hl : ps.length ≤ 1000000) (hK : (k85).K ZW x cs) (hvb : w.heap[vb]? = some (.cells cs.toArray 85 (0, 0))) (hne : vb ≠ g) :
  Calls Tryz.prog 104 #[.slice (some ⟨g, 0, none⟩) ps.length cap, .int .i64 i, .slice (some ⟨vb, 0, none⟩) 1 1] w fun e w' => ∃ v', e = .returned v' ∧ OwnP ZW w0 w' v' (ps.take i ++ (x, cs) :: ps.drop i) ∧ Below w0.heap.size w0 w' := by
 have hc3 : cs.length = 3 := (k85).K_len hK
 have h1 : ∀ u ∈ cs, u.oneCell' = true := (k85).K_one hK
 have hps3 : ∀ p ∈ ps, p.2.length = 3 := fun p hp => (k85).K_len (hKs p hp)
 have hfl := flat_len ps hps3
 have h1i : ∀ u ∈ ps.flatMap (·.2), u.oneCell' = true := fun u hu => by
  rw [List.mem_flatMap] at hu
  obtain ⟨p, hp, hu⟩ := hu
  exact (k85).K_one (hKs p hp) u hu
 obtain ⟨n, hn⟩ : ∃ n, n = ps.length := ⟨_, rfl⟩
 obtain ⟨inn, hinn⟩ : ∃ inn, inn = ps.flatMap (·.2) := ⟨_, rfl⟩
 rw [← hinn] at hLt hfl h1i
 obtain ⟨D, hD⟩ : ∃ D, D = inn.drop (i * 3) := ⟨_, rfl⟩
 have hDl : D.length = (n - i) * 3 := by rw [hD, List.length_drop, hfl, hn]; omega
 have hD1 : ∀ u ∈ D, u.oneCell' = true := fun u hu => h1i u (by rw [hD] at hu; exact List.mem_of_mem_drop hu)
 have hcell := cell_of_list hh
 have hfz := frozen_of_list hh
 have hDc : ∀ j u, D[j]? = some u → L[i * 3 + j]? = some u := fun j u hj => by
  rw [hD, List.getElem?_drop, ← hLt, List.getElem?_take] at hj
  split at hj
  ·exact hj
  ·cases hj
 have hsz : (Tryz.prog.info? 85).map (·.size) = some 3 := by
  obtain ⟨i0, hi0, _, h3, _⟩ := info_parts info85
  rw [hi0]; simp [h3]
 rw [← hn] at hl hi hroom hLt hfl
 have hL2 : i * 3 + 3 + D.length ≤ L.length := by omega
 have hcp1 : ∀ ty dc sc, (Builtin.copy_ #[40, 40] ty #[.slice (some ⟨g, (i + 1) * 3, none⟩) (n - i) dc, .slice (some ⟨g, i * 3, none⟩) (n + 1 - i) sc]).run Tryz.prog w.drew = .ok (goInt (Nat.min (n + 1 - i) (n - i))) (w.drew.setCells g ((i + 1) * 3) D) := fun ty dc sc =>
  run_copy_k w.drew _ _ ty 85 3 g ((i + 1) * 3) (n - i) dc ⟨g, i * 3, none⟩ (n + 1 - i) sc D Tryz.underlying40 hsz (by rw [hDl]; simp only [Nat.min_def]; split <;> omega)
   (fun j v hj => by rw [Addr.add_lit]; exact (hcell _).trans (hDc j v hj))
   (fun j hj => by show (w.cell? _).isSome = true; rw [hcell, List.getElem?_eq_getElem (by omega)]; rfl) (fun j hj => hfz _) hD1
 obtain ⟨W1, hW1⟩ : ∃ W1, W1 = w.drew.setCells g ((i + 1) * 3) D := ⟨_, rfl⟩
 obtain ⟨L1, hL1⟩ : ∃ L1, L1 = L.take ((i + 1) * 3) ++ D ++ L.drop ((i + 1) * 3 + D.length) := ⟨_, rfl⟩
 have hh1 : W1.heap[g]? = some (.cells L1.toArray 85 (0, 0)) := by rw [hW1, hL1]; exact blk_setCells g D ((i + 1) * 3) w.drew L hh (by omega)
 have hv1 : W1.heap[vb]? = some (.cells cs.toArray 85 (0, 0)) := by
  rw [hW1, heap_setsK w g hne]; exact hvb
 have hL1l : L1.length = L.length := by rw [hL1]; simp only [zO, List.length_take, List.length_drop]; omega
 have hB1 : Below w0.heap.size w0 W1 := by rw [hW1]; exact below_sets hg _ _ (zK hb)
 have hcp2 : ∀ ty dc, (Builtin.copy_ #[40, 40] ty #[.slice (some ⟨g, i * 3, none⟩) (n + 1 - i) dc, .slice (some ⟨vb, 0, none⟩) 1 1]).run Tryz.prog W1 = .ok (goInt (Nat.min 1 (n + 1 - i))) (W1.setCells g (i * 3) cs) := fun ty dc =>
  run_copy_k W1 _ _ ty 85 3 g (i * 3) (n + 1 - i) dc ⟨vb, 0, none⟩ 1 1 cs Tryz.underlying40 hsz (by rw [hc3]; simp only [Nat.min_def]; split <;> omega)
   (fun j v hj => by rw [Addr.add_lit, Nat.zero_add]; exact (cell_of_list hv1 j).trans hj)
   (fun j hj => by rw [cell_of_list hh1, List.getElem?_eq_getElem (by omega)]; rfl) (fun j hj => frozen_of_list hh1 _) h1
 have hh2 := blk_setCells g cs (i * 3) W1 L1 hh1 (by omega)
 have hfin : OwnP ZW w0 (W1.setCells g (i * 3) cs) (.slice (some ⟨g, 0, none⟩) (n + 1) cap) (ps.take i ++ (x, cs) :: ps.drop i) := by
  refine OwnP.mk' hg hh2 (by simp; omega) hroom hcm (by simp only [zO, List.length_take, List.length_drop]; omega) ?_ fun p hp => ?_
  ·rw [flat_ins ps hps3 i (by omega), ← hinn, hL1]
   exact seg_ins (by omega) rfl (by rw [List.length_take]; omega) hc3 hD hfl (by rw [List.take_take, Nat.min_eq_left (by omega), ← hLt, List.take_take, Nat.min_eq_left (by omega)])
  ·rcases List.mem_append.1 hp with hp | hp
   ·exact hKs p (List.mem_of_mem_take hp)
   ·rcases List.mem_cons.1 hp with rfl | hp
    ·exact hK
    ·exact hKs p (List.mem_of_mem_drop hp)
 have HFIN := zA (show OwnP ZW w0 (W1.setCells g (i * 3) cs) (.slice (some ⟨g, 0, none⟩) (n + 1) cap) (ps.take i ++ (x, cs) :: ps.drop i) ∧ Below w0.heap.size w0 (W1.setCells g (i * 3) cs) from ⟨hfin, below_sets hg _ _ hB1⟩)
 have hov : ∀ lb cb, (callFunc 151 #[.slice (some ⟨vb, 0, none⟩) 1 1, .slice (some ⟨g, (i + 1) * 3, none⟩) lb cb]).run Tryz.prog w = .ok (.value (.bool false)) w := fun lb cb => by
  have hvc := hvb
  rw [run_callFunc_extern Tryz.func151 (by kernel_rfl) (by kernel_rfl) (by kernel_rfl) (e := Extern.SlicesOverlaps.overlaps #[40, 40] #[4]) (by kernel_rfl),
   Lib.run_overlaps_apart w 40 4 85 Tryz.underlying40 3 (sizeOf_k hsz) ⟨vb, 0, none⟩ ⟨g, (i + 1) * 3, none⟩ 1 1 lb cb hne 85 85 3 (cap * 3) (by simp [World.shape?, hvb, hc3]) (by simp [World.shape?, hh, hLl]) (by omega) (by simp [World.frozen?, hvb]) (by simp [World.frozen?, hvb])]
  rfl
 have hcm2 : cap ≤ 9223372036854775807 := by unfold maxLen at hcm; omega
 have hz2 : ¬ ((i : Int) = (n : Int)) := by omega
 have hin : i ≤ n := by omega
 have hw1 : IntKind.i64.wrap ((i : Int) + 1) = (i : Int) + 1 := by rw [IntKind.wrap_i64]; omega
 have hw2 : IntKind.i64.wrap ((n : Int) + 1) = (n : Int) + 1 := by rw [IntKind.wrap_i64]; omega
 have hb1 : (0 : Int) ≤ (i : Int) + 1 := by omega
 have htn : ((i : Int) + 1).toNat = i + 1 := by omega
 have hb2 : ¬ (cap = i + 1) := by omega
 have hb3 : (i : Int) ≤ (n : Int) + 1 := by omega
 have hb4 : ¬ (cap = i) := by omega
 have hb5 : ¬ ((cap : Int) < (n : Int) + 1) := by omega
 rw [← hn]
 rw [← hW1] at hcp1
 have HN := zA hn
 clear hn
 have mixed : Tryz.prog.follows .mixedOrders = true := by kernel_rfl
 clear hfin hh2 hB1 hL1l hv1 hh1 hL1 hW1 hL2 hDc hfz hcell hD1 hDl hD h1i hfl hps3 h1 hc3 hinn hvb hK hKs hLt hLl hh hb
 go_enter Tryz.func104, Tryz.ntmps104
 go_wp2_with (simp only [hov])
 go_region_law_o (refine step_copy_runK rfl _ _ 40 40 rfl _ _ (by simp [Act.eval, Act.put]) (by simp [Act.eval, Act.put]) (hcp1 _ _ _) ?_)
 go_wp2_with (at_builtin; go_loud (refine wpList_copy_runK _ rfl _ _ 40 40 rfl _ _ rfl rfl (hcp2 _ _) ?_))
 go_ret
 exact ⟨_, rfl, HFIN.out⟩
set_option maxHeartbeats 4000000 in
set_option maxRecDepth 100000 in
theorem insert_grow (ZW w0 w : World) (g cap : Nat) (L : List Value) (ps : List Pr) (i : Nat) (x : S85) (cs : List Value) (vb : Nat) (hb : Below w0.heap.size w0 w) (hg : w0.heap.size ≤ g) (hh : w.heap[g]? = some (.cells L.toArray 85 (0, 0))) (hnc : ps.length ≤ cap) (hroom : cap < ps.length + 1) (hLl : L.length = cap * 3) (hLt : L.take (ps.length * 3) = ps.flatMap (·.2)) (hKs : ∀ p ∈ ps, (k85).K ZW p.1 p.2)
  (hi : i < ps.length) (hl : ps.length ≤ 1000000) (hK : (k85).K ZW x cs) (hvb : w.heap[vb]? = some (.cells cs.toArray 85 (0, 0))) :
  Calls Tryz.prog 104 #[.slice (some ⟨g, 0, none⟩) ps.length cap, .int .i64 i, .slice (some ⟨vb, 0, none⟩) 1 1] w fun e w' => ∃ v', e = .returned v' ∧ OwnP ZW w0 w' v' (ps.take i ++ (x, cs) :: ps.drop i) ∧ Below w0.heap.size w0 w' := by
 have hc3 : cs.length = 3 := (k85).K_len hK
 have h1 : ∀ u ∈ cs, u.oneCell' = true := (k85).K_one hK
 have hps3 : ∀ p ∈ ps, p.2.length = 3 := fun p hp => (k85).K_len (hKs p hp)
 have hfl := flat_len ps hps3
 have h1i : ∀ u ∈ ps.flatMap (·.2), u.oneCell' = true := fun u hu => by
  rw [List.mem_flatMap] at hu
  obtain ⟨p, hp, hu⟩ := hu
  exact (k85).K_one (hKs p hp) u hu
 obtain ⟨n, hn⟩ : ∃ n, n = ps.length := ⟨_, rfl⟩
 obtain ⟨inn, hinn⟩ : ∃ inn, inn = ps.flatMap (·.2) := ⟨_, rfl⟩
 rw [← hinn] at hLt hfl h1i
 obtain ⟨D, hD⟩ : ∃ D, D = inn.drop (i * 3) := ⟨_, rfl⟩
 have hDl : D.length = (n - i) * 3 := by rw [hD, List.length_drop, hfl, hn]; omega
 have hD1 : ∀ u ∈ D, u.oneCell' = true := fun u hu => h1i u (by rw [hD] at hu; exact List.mem_of_mem_drop hu)
 have hcell := cell_of_list hh
 have hic : ∀ j u, inn[j]? = some u → w.cell? ⟨g, j, none⟩ = some u := fun j u hj => by
  rw [hcell]
  rw [← hLt, List.getElem?_take] at hj
  split at hj
  ·exact hj
  ·cases hj
 have hDc : ∀ j u, D[j]? = some u → w.cell? ⟨g, i * 3 + j, none⟩ = some u := fun j u hj => by
  rw [hD, List.getElem?_drop] at hj
  exact hic _ _ hj
 obtain ⟨i0, hi0, hz0, hz1, hz2⟩ := info_parts info85
 have hsz : (Tryz.prog.info? 85).map (·.size) = some 3 := by rw [hi0]; simp [hz1]
 have hgl : g < w.heap.size := blk_lt hh
 have hvl : vb < w.heap.size := blk_lt hvb
 rw [← hn] at hl hi hroom hLt hfl hnc
 obtain ⟨kz, hkz⟩ : ∃ kz, kz = n + 1 - i := ⟨_, rfl⟩
 have hik : i + kz = n + 1 := by omega
 have hold : (Builtin.firstCells i0.size i (.slice (some ⟨g, 0, none⟩) i cap)).run Tryz.prog w.drew = .ok (inn.take (i * 3)).toArray w.drew := by
  rw [hz1]
  exact run_firstCells_some w.drew 3 i ⟨g, 0, none⟩ i cap (inn.take (i * 3)) (by rw [List.length_take]; omega) fun j u hj => by
   rw [Addr.add_lit, Nat.zero_add]
   rw [List.getElem?_take] at hj
   split at hj
   ·exact hic j u hj
   ·cases hj
 have hrz : ∀ ty, _ := fun ty => Lib.run_append_grow_zeros w 40 3 ty 85 i0 _ .i64 .i64 Tryz.underlying40 Tryz.underlying3 hi0 hz0 (some ⟨g, 0, none⟩) i cap (inn.take (i * 3)) hold kz (by omega) (by rw [hz1]; decide) (by omega) (by omega) (by rw [hz2]; omega) (by rw [hz2, hik]; exact growslice_fits hroom (by omega))
 rw [hik] at hrz
 obtain ⟨G, hG⟩ : ∃ G, G = grownCap w (n + 1) cap 85 := ⟨_, rfl⟩
 have hGn : n + 1 ≤ G := by rw [hG]; exact grownCap_ge w _ _ _
 have hGm : G ≤ maxLen := by rw [hG]; exact grownCap_le_maxLen w (n + 1) cap 85 (by unfold maxLen; omega)
 rw [← hG] at hrz
 generalize hZ : Builtin.zeroCells _ kz = Z1 at hrz
 generalize hY : Builtin.zeroCells _ (G - (n + 1)) = Z2 at hrz
 have hZl : Z1.size = kz * 3 := by rw [← hZ]; simp [Builtin.zeroCells, Value.cells]
 have hYl : Z2.size = (G - (n + 1)) * 3 := by rw [← hY]; simp [Builtin.zeroCells, Value.cells]
 obtain ⟨R, hR⟩ : ∃ R : List Value, R = inn.take (i * 3) ++ Z1.toList ++ Z2.toList := ⟨_, rfl⟩
 rw [show (inn.take (i * 3)).toArray ++ Z1 ++ Z2 = R.toArray by rw [hR]; simp] at hrz
 have hRl : R.length = G * 3 := by rw [hR]; simp only [zO, List.length_take, Array.length_toList]; omega
 obtain ⟨W0, hW0⟩ : ∃ W0, W0 = w.drew.alloc (.cells R.toArray 85) := ⟨_, rfl⟩
 rw [← hW0] at hrz
 obtain ⟨N, hN⟩ : ∃ N, N = w.heap.size := ⟨_, rfl⟩
 rw [← hN] at hrz
 have hh0 : W0.heap[N]? = some (.cells R.toArray 85 (0, 0)) := by rw [hW0, hN]; exact blk_new w.drew _
 have hB0 : Below w0.heap.size w0 W0 := by rw [hW0]; exact zJ (zK hb) _
 have hold2 : ∀ k, k < N → W0.heap[k]? = w.heap[k]? := fun k hk => by rw [hW0]; exact Below.heap_alloc w.drew _ k (by rw [hN] at hk; exact hk)
 have hgN : w0.heap.size ≤ N := by rw [hN]; exact below_size hb
 have hcpA : ∀ ty dc, (Builtin.copy_ #[40, 40] ty #[.slice (some ⟨N, i * 3, none⟩) (n + 1 - i) dc, .slice (some ⟨vb, 0, none⟩) 1 1]).run Tryz.prog W0 = .ok (goInt (Nat.min 1 (n + 1 - i))) (W0.setCells N (i * 3) cs) := fun ty dc =>
  run_copy_k W0 _ _ ty 85 3 N (i * 3) (n + 1 - i) dc ⟨vb, 0, none⟩ 1 1 cs Tryz.underlying40 hsz (by rw [hc3]; simp only [Nat.min_def]; split <;> omega)
   (fun j v hj => by rw [Addr.add_lit, Nat.zero_add, cell_of_list ((hold2 vb (by omega)).trans hvb) j]; exact hj)
   (fun j hj => by rw [cell_of_list hh0, List.getElem?_eq_getElem (by omega)]; rfl) (fun j hj => frozen_of_list hh0 _) h1
 obtain ⟨W1, hW1⟩ : ∃ W1, W1 = W0.setCells N (i * 3) cs := ⟨_, rfl⟩
 obtain ⟨L1, hL1⟩ : ∃ L1, L1 = R.take (i * 3) ++ cs ++ R.drop (i * 3 + cs.length) := ⟨_, rfl⟩
 have hh1 : W1.heap[N]? = some (.cells L1.toArray 85 (0, 0)) := by rw [hW1, hL1]; exact blk_setCells N cs (i * 3) W0 R hh0 (by omega)
 have hL1l : L1.length = G * 3 := by rw [hL1]; simp only [zO, List.length_take, List.length_drop]; omega
 have hB1 : Below w0.heap.size w0 W1 := by rw [hW1]; exact below_sets hgN _ _ hB0
 have hg1 : W1.heap[g]? = w.heap[g]? := by rw [hW1, heap_setsK W0 N (by omega)]; exact hold2 g (by omega)
 have hDc1 : ∀ j u, D[j]? = some u → W1.cell? ⟨g, i * 3 + j, none⟩ = some u := fun j u hj => by
  rw [cell_of_list (hg1.trans hh), ← hcell]
  exact hDc j u hj
 rw [← hW1] at hcpA
 have hcpB : ∀ (W : World), (∀ x, W.cell? x = W1.cell? x) → (∀ x, W.frozen? x = W1.frozen? x) → ∀ ty dc sc, (Builtin.copy_ #[40, 40] ty #[.slice (some ⟨N, (i + 1) * 3, none⟩) (n - i) dc, .slice (some ⟨g, i * 3, none⟩) (n - i) sc]).run Tryz.prog W = .ok (goInt (Nat.min (n - i) (n - i))) (W.setCells N ((i + 1) * 3) D) := fun W hWc hWf ty dc sc =>
  run_copy_k W _ _ ty 85 3 N ((i + 1) * 3) (n - i) dc ⟨g, i * 3, none⟩ (n - i) sc D Tryz.underlying40 hsz (by rw [hDl]; simp only [Nat.min_def]; split <;> omega)
   (fun j v hj => by rw [Addr.add_lit, hWc]; exact hDc1 j v hj)
   (fun j hj => by rw [hWc, cell_of_list hh1, List.getElem?_eq_getElem (by omega)]; rfl) (fun j hj => by rw [hWf]; exact frozen_of_list hh1 _) hD1
 have hfin : ∀ W : World, W.heap = W1.heap → Below w0.heap.size w0 W → OwnP ZW w0 (W.setCells N ((i + 1) * 3) D) (.slice (some ⟨N, 0, none⟩) (n + 1) G) (ps.take i ++ (x, cs) :: ps.drop i) ∧ Below w0.heap.size w0 (W.setCells N ((i + 1) * 3) D) := fun W hWh hWb => by
  have hh2 := blk_setCells N D ((i + 1) * 3) W L1 (by rw [hWh]; exact hh1) (by omega)
  refine ⟨OwnP.mk' hgN hh2 (by simp; omega) (by omega) hGm (by simp only [zO, List.length_take, List.length_drop]; omega) ?_ fun p hp => ?_, below_sets hgN _ _ hWb⟩
  ·rw [flat_ins ps hps3 i (by omega), ← hinn, hL1, hc3, show (i + 1) * 3 = i * 3 + 3 by omega]
   exact seg_new (by omega) rfl hc3 hD hfl (by rw [hR, List.append_assoc, List.take_append_of_le_length (by rw [List.length_take]; omega), List.take_take, Nat.min_self]) (by omega)
  ·rcases List.mem_append.1 hp with hp | hp
   ·exact hKs p (List.mem_of_mem_take hp)
   ·rcases List.mem_cons.1 hp with rfl | hp
    ·exact hK
    ·exact hKs p (List.mem_of_mem_drop hp)
 have HFIN := zA hfin
 have hcm2 : cap ≤ 9223372036854775807 := by omega
 have hGm2 : G ≤ 9223372036854775807 := by unfold maxLen at hGm; omega
 have hzi2 : ¬ ((i : Int) = (n : Int)) := by omega
 have hin : i ≤ n := by omega
 have hw1 : IntKind.i64.wrap ((i : Int) + 1) = (i : Int) + 1 := by rw [IntKind.wrap_i64]; omega
 have hw2 : IntKind.i64.wrap ((n : Int) + 1) = (n : Int) + 1 := by rw [IntKind.wrap_i64]; omega
 have hw3 : IntKind.i64.wrap ((n : Int) + 1 - (i : Int)) = (kz : Int) := by rw [IntKind.wrap_i64]; omega
 have hw4 : (n : Int) + 1 - (i : Int) = (kz : Int) := by omega
 have hb1 : (0 : Int) ≤ (i : Int) + 1 := by omega
 have htn : ((i : Int) + 1).toNat = i + 1 := by omega
 have hb3 : (i : Int) ≤ (n : Int) := by omega
 have hb4 : ¬ (cap = i) := by omega
 have hb5 : (cap : Int) < (n : Int) + 1 := by omega
 have hb6 : ¬ (G = i) := by omega
 have hb7 : ¬ (G = i + 1) := by omega
 rw [← hn]
 have HN := zA hn
 have HW := zA (show Below w0.heap.size w0 W1 from hB1)
 have HB1 := hB1
 have mixed : Tryz.prog.follows .mixedOrders = true := by kernel_rfl
 clear hn hfin hB1 hL1l hh1 hL1 hW1 hDc hcell hD1 hDl hD h1i hfl hps3 h1 hc3 hinn hvb hK hKs hLt hLl hh hb HB1 hDc1 hg1 hold2 hB0 hh0 hN hW0 hRl hR hYl hZl hY hZ hG hkz hold hic hi0 hz0 hz1 hz2
 go_enter Tryz.func104, Tryz.ntmps104
 go_wp2_with (first
  | (at_builtin; go_loud (refine Lib.wpList_append_run _ rfl (.tmp 34) (.tmp 39) _ _ rfl _ _ rfl rfl _ _ (hrz _) ?_))
  | (at_builtin; refine wpList_copy_runK _ rfl _ _ 40 40 rfl _ _ rfl rfl (hcpA _ _) ?_))
 have hcpC := hcpB W1.drew (fun _ => rfl) (fun _ => rfl) 3 (G - (i + 1)) (cap - i)
 go_region_law_o (refine step_copy_runK rfl _ _ 40 40 rfl (.slice (some ⟨N, (i + 1) * 3, none⟩) (n - i) (G - (i + 1))) (.slice (some ⟨g, i * 3, none⟩) (n - i) (cap - i)) (by simp [Act.eval, Act.put]) (by simp [Act.eval, Act.put]) hcpC ?_)
 go_wp2
 go_ret
 exact ⟨_, rfl, HFIN.out _ rfl (zK HW.out)⟩
theorem insertF.calls (ZW w0 w : World) (v : Value) (ps : List Pr) (i : Nat) (x : S85) (cs : List Value) (vb : Nat) (ho : OwnP ZW w0 w v ps) (hb : Below w0.heap.size w0 w) (hi : i ≤ ps.length) (hl : ps.length ≤ 1000000) (hK : (k85).K ZW x cs) (hvb : w.heap[vb]? = some (.cells cs.toArray 85 (0, 0))) (hne : v.ownBlock ≠ some vb) :
  Calls Tryz.prog 104 #[v, .int .i64 i, .slice (some ⟨vb, 0, none⟩) 1 1] w fun e w' => ∃ v', e = .returned v' ∧ OwnP ZW w0 w' v' (ps.take i ++ (x, cs) :: ps.drop i) ∧ Below w0.heap.size w0 w' := by
 by_cases he : i = ps.length
 ·subst he
  have := insert_end ZW w0 w v ps x cs vb ho hb hl hK hvb
  rwa [List.take_length, List.drop_length]
 ·rcases ho.block with ⟨rfl, rfl⟩ | ⟨g, cap, L, rfl, hg, hh, hcn, hcm, hLl, hLt⟩
  ·exact absurd (by simpa using hi) he
  ·have hne2 : vb ≠ g := fun h => hne (by rw [h]; rfl)
   by_cases hroom : ps.length + 1 ≤ cap
   ·exact insert_room ZW w0 w g cap L ps i x cs vb hb hg hh hroom hcm hLl hLt ho.2 (by omega) hl hK hvb hne2
   ·exact insert_grow ZW w0 w g cap L ps i x cs vb hb hg hh hcn (by omega) hLl hLt ho.2 (by omega) hl hK hvb
end Go.Proofs.YtcclaidbikjhiaaGreatDoor.PVo
