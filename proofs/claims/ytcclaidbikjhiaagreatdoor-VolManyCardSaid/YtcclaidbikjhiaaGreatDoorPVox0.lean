-- laid by gprint.py (this session's own program) out of the translation: Lean checks it
import Derived.Test.YtcclaidbikjhiaaGreatDoorProg
import Derived.Below
import Derived.Deep.Draws
import Derived.Deep.AppendLies
import Derived.Maps.AppendAt
import Derived.OwnWalk
import Derived.Laws.BytesArg
import Derived.Laws.MakeOwn
import Derived.Laws.OwnMore
import Derived.Deep.OwnRows
import Derived.Tactics
import Derived.Lib.ConvBytes
import Derived.Laws.Slices
import Derived.WalkKit
import Derived.KernelRfl
import Derived.RowKit3
import Derived.Deep.LoopGhost
import Derived.Deep.QuietTactic
import Derived.BigQuiet
import Derived.WideLaws
import Derived.Deep.DeepCutAuto
import Derived.Deep.CutBlock
import Derived.Deep.RegionHeld3
import Derived.Laws.Rows
import Derived.Lib.AppendStr
import Derived.ArgAppend
import Derived.Laws.IdiomCopy
import Derived.OrdersHeld
import Derived.Laws.BitsLemmas
import Derived.RowKit
import Derived.Test.YtcclaidbikjhiaaGreatDoorWWords
import Derived.Test.YtcclaidbikjhiaaGreatDoorWLast
import Derived.Test.YtcclaidbikjhiaaGreatDoorWTab
import Derived.Test.YtcclaidbikjhiaaGreatDoorWFour
import Derived.Test.YtcclaidbikjhiaaGreatDoorWQPut
import Derived.Test.YtcclaidbikjhiaaGreatDoorWApart
import Derived.Test.YtcclaidbikjhiaaGreatDoorWArr
import Derived.Test.YtcclaidbikjhiaaGreatDoorWZeros
import Derived.Test.YtcclaidbikjhiaaGreatDoorWFoot
import Derived.Test.YtcclaidbikjhiaaGreatDoorWKept
import Derived.Test.YtcclaidbikjhiaaGreatDoorWShare
import Derived.Test.YtcclaidbikjhiaaGreatDoorWN
import Derived.Test.YtcclaidbikjhiaaGreatDoorWFootNe
import Derived.Test.YtcclaidbikjhiaaGreatDoorWAt
import Derived.Test.YtcclaidbikjhiaaGreatDoorWEqStruct
import Derived.Test.YtcclaidbikjhiaaGreatDoorWRepsOne
import Derived.Test.YtcclaidbikjhiaaGreatDoorWInv
import Derived.Test.YtcclaidbikjhiaaGreatDoorWInvWords
import Derived.Test.YtcclaidbikjhiaaGreatDoorWGuard
import Derived.Test.YtcclaidbikjhiaaGreatDoorWNEv
import Derived.Test.YtcclaidbikjhiaaGreatDoorWMore
import Derived.Test.YtcclaidbikjhiaaGreatDoorWOwn
--compressed
namespace Go.Proofs.YtcclaidbikjhiaaGreatDoor.PVo
open Go.RowKit Go.Proofs.YtcclaidbikjhiaaGreatDoorW.PrintWords Go.Proofs.YtcclaidbikjhiaaGreatDoorW.PrintLast Go.Proofs.YtcclaidbikjhiaaGreatDoorW.PrintMore
attribute [local go_sem] max2_int min2_int max_two min_two max_three min_three max_four min_four   -- for this text's walks alone
attribute [local go_sem high] hw_str_leq hw_str_gtr
set_option linter.unusedVariables false
set_option linter.unusedSimpArgs false
def errW : Option Int → Value
 | none => .nilIface
 | some c => .iface 0 (.int .i64 c)
theorem errW_none : errW none = .nilIface := rfl
theorem errW_some (c : Int) : errW (some c) = .iface 0 (.int .i64 c) := rfl
theorem info4 : (Tryz.prog.info? 4).map (fun i => (i.zero, i.size, i.bytes)) = some (some (.bool false), 1, 1) := by kernel_rfl
theorem info5 : (Tryz.prog.info? 5).map (fun i => (i.zero, i.size, i.bytes)) = some (some (.int .u8 0), 1, 1) := by kernel_rfl
theorem info85 : (Tryz.prog.info? 85).map (fun i => (i.zero, i.size, i.bytes)) = some (some (.agg #[(.string ⟨#[]⟩), (.int .i64 0), (.slice none 0 0)]), 3, 48) := by kernel_rfl
theorem info87 : (Tryz.prog.info? 87).map (fun i => (i.zero, i.size, i.bytes)) = some (some (.agg #[(.int .i64 0), (.int .i64 0)]), 2, 16) := by kernel_rfl
-- the values' own types
structure S87 where
 f0 : Int
 f1 : Int
def z87 : S87 := ⟨(0 : Int), (0 : Int)⟩
def k87 : Kd S87 := Kd.iso (Kd.pair (Kd.int .i64) (Kd.int .i64)) (fun x : S87 => (x.f0, x.f1))
theorem k87_heap : Kd.Heap k87 := Kd.heap_iso _ (Kd.heap_pair (Kd.heap_int .i64) (Kd.heap_int .i64))
theorem k87_open {w : World} {x : S87} {cs : List Value} (h : k87.K w x cs) : cs = [.int .i64 x.f0, .int .i64 x.f1] := by
 obtain ⟨_, _, rfl, rfl, rfl⟩ := h
 exact rfl
theorem k87_openM {w : World} {base : Nat} {ok : Nat → Prop} {x : S87} {cs : List Value} (h : k87.M w base ok x cs) : cs = [.int .i64 x.f0, .int .i64 x.f1] := by
 obtain ⟨_, _, rfl, rfl, rfl⟩ := h
 exact rfl
theorem k87_mk (w : World) (x : S87)  : k87.K w x [.int .i64 x.f0, .int .i64 x.f1] := ⟨[.int .i64 x.f0], [.int .i64 x.f1], rfl, rfl, rfl⟩
theorem k87_mkM (w : World) (base : Nat) (ok : Nat → Prop) (x : S87)  : k87.M w base ok x [.int .i64 x.f0, .int .i64 x.f1] := ⟨[.int .i64 x.f0], [.int .i64 x.f1], rfl, rfl, rfl⟩
def rd_T87 (xs : List S87) (i : Int) : S87 := xs.getD i.toNat z87
theorem at_T87 {w : World} {A : Option Addr} {n : Nat} {xs : List S87} (h : Kd.C k87 w A n xs) (i : Int) (h0 : 0 ≤ i) (h1 : i < n) : ∃ ad , A = some ad ∧ w.cell? (ad.add (i.toNat * 2)) = some (.int .i64 (rd_T87 xs i).f0) ∧ w.cell? ⟨(ad.add (i.toNat * 2)).block, (ad.add (i.toNat * 2)).off + 1, none⟩ = some (.int .i64 (rd_T87 xs i).f1) := by
 obtain ⟨ad, c, e, _, hK, hc0⟩ := Kd.C_get h z87 i h0 h1
 have hc : ∀ j u, c[j]? = some u → w.cell? (ad.add (i.toNat * 2 + j)) = some u := hc0
 obtain rfl := k87_open hK
 exact ⟨ad, e, hc 0 _ rfl, by rw [← add_field _ _ 1 (by omega)]; exact hc 1 _ rfl⟩
def rd_L6 (xs : List (List S87)) (i : Int) : (List S87) := xs.getD i.toNat ([] : List S87)
theorem at_L6 {w : World} {A : Option Addr} {n : Nat} {xs : List (List S87)} (h : Kd.C (Kd.slice 87 k87) w A n xs) (i : Int) (h0 : 0 ≤ i) (h1 : i < n) : ∃ ad A0 c0, A = some ad ∧ w.cell? (ad.add i.toNat) = some (.slice A0 (rd_L6 xs i).length c0) ∧ (rd_L6 xs i).length ≤ c0 ∧ k87.C w A0 (rd_L6 xs i).length (rd_L6 xs i) := by
 obtain ⟨ad, c, e, _, hK, hc0⟩ := Kd.C_get h ([] : List S87) i h0 h1
 have hc : ∀ j u, c[j]? = some u → w.cell? (ad.add (i.toNat * 1 + j)) = some u := hc0
 obtain ⟨A0, c0, rfl, l0, g0⟩ := hK
 exact ⟨ad, A0, c0, e, by have hq := hc 0 _ rfl; rwa [Nat.mul_one, Nat.add_zero] at hq, l0, g0⟩
structure S85 where
 f0 : ByteArray
 f1 : Int
 f2 : (List S87)
def z85 : S85 := ⟨(⟨#[]⟩ : ByteArray), (0 : Int), ([] : List S87)⟩
def k85 : Kd S85 := Kd.iso (Kd.pair Kd.string (Kd.pair (Kd.int .i64) (Kd.slice 87 k87))) (fun x : S85 => (x.f0, x.f1, x.f2))
theorem k85_open {w : World} {x : S85} {cs : List Value} (h : k85.K w x cs) : ∃ A2 c2, cs = [.string x.f0, .int .i64 x.f1, .slice A2 x.f2.length c2] ∧ x.f2.length ≤ c2 ∧ k87.C w A2 x.f2.length x.f2 := by
 obtain ⟨_, _, rfl, rfl, ⟨_, _, rfl, rfl, ⟨A2, c2, rfl, l2, g2⟩⟩⟩ := h
 exact ⟨A2, c2, rfl, l2, g2⟩
theorem k85_mkM (w : World) (base : Nat) (ok : Nat → Prop) (x : S85) {v2 : Value} (g2 : k87.R 87 w base ok v2 x.f2) : k85.M w base ok x [.string x.f0, .int .i64 x.f1, v2] := ⟨[.string x.f0], [.int .i64 x.f1, v2], rfl, rfl, ⟨[.int .i64 x.f1], [v2], rfl, rfl, ⟨v2, rfl, g2⟩⟩⟩
def rd_T85 (xs : List S85) (i : Int) : S85 := xs.getD i.toNat z85
theorem at_T85 {w : World} {A : Option Addr} {n : Nat} {xs : List S85} (h : Kd.C k85 w A n xs) (i : Int) (h0 : 0 ≤ i) (h1 : i < n) : ∃ ad A2 c2, A = some ad ∧ w.cell? (ad.add (i.toNat * 3)) = some (.string (rd_T85 xs i).f0) ∧ w.cell? ⟨(ad.add (i.toNat * 3)).block, (ad.add (i.toNat * 3)).off + 1, none⟩ = some (.int .i64 (rd_T85 xs i).f1) ∧ w.cell? ⟨(ad.add (i.toNat * 3)).block, (ad.add (i.toNat * 3)).off + 2, none⟩ = some (.slice A2 (rd_T85 xs i).f2.length c2) ∧ (rd_T85 xs i).f2.length ≤ c2 ∧ k87.C w A2 (rd_T85 xs i).f2.length (rd_T85 xs i).f2 := by
 obtain ⟨ad, c, e, _, hK, hc0⟩ := Kd.C_get h z85 i h0 h1
 have hc : ∀ j u, c[j]? = some u → w.cell? (ad.add (i.toNat * 3 + j)) = some u := hc0
 obtain ⟨A2, c2, rfl, l2, g2⟩ := k85_open hK
 exact ⟨ad, A2, c2, e, hc 0 _ rfl, by rw [← add_field _ _ 1 (by omega)]; exact hc 1 _ rfl, by rw [← add_field _ _ 2 (by omega)]; exact hc 2 _ rfl, l2, g2⟩
structure S123 where
 f0 : Int
 f1 : ByteArray
def k123 : Kd S123 := Kd.iso (Kd.pair (Kd.int .i64) Kd.string) (fun x : S123 => (x.f0, x.f1))
structure S129 where
 f0 : Int
 f1 : ByteArray
def k129 : Kd S129 := Kd.iso (Kd.pair (Kd.int .i64) Kd.string) (fun x : S129 => (x.f0, x.f1))
structure S137 where
 f0 : ByteArray
 f1 : Int
 f2 : (List S87)
def k137 : Kd S137 := Kd.iso (Kd.pair Kd.string (Kd.pair (Kd.int .i64) (Kd.slice 87 k87))) (fun x : S137 => (x.f0, x.f1, x.f2))
theorem belA {n : Nat} {w W : World} (h : Below n w W := by repeat (first | (with_reducible first | exact HB.out | apply below_alloc | apply pw_below_drewN | apply below_drew1) | exact HB.out)) : Below n w W := h
theorem argA {p : Prop} (h : p := by (try simp only [List.map_toArray, List.map_cons, List.map_nil]); first | done | rfl | (simp only [List.length_drop, List.length_take]; rfl)) : p := h
theorem asA {p : Prop} (h : p := by first | (with_reducible assumption) | assumption) : p := h
abbrev Y : Bool := true
abbrev Z : Bool := false
theorem blkN {p q : Prop} (x : p) (h : p → q := by intro x_; (with_reducible repeat (first | refine blk_drewN ?_ _ | refine blk_drew ?_ | refine blk_alloc ?_ _)); exact x_) : q := h x
theorem kdN_ {p q : Prop} (x : p) (h : p → q := by intro x_; (with_reducible repeat (first | apply Kd.N_alloc | apply Kd.N_drewN | apply Kd.N_drew)); exact x_) : q := h x
theorem kdS_ {p q : Prop} (x : p) (h : p → q := by intro x_; (with_reducible repeat (first | apply Kd.S_alloc | apply Kd.S_drewN | apply Kd.S_drew)); exact x_) : q := h x
theorem kdR_ {p q : Prop} (x : p) (h : p → q := by intro x_; (with_reducible repeat (first | apply Kd.R_alloc | apply Kd.R_drewN | apply Kd.R_drew)); exact x_) : q := h x
theorem rW0 {p : Prop} (h : p := by repeat (first | (with_reducible first | exact HB.out | apply below_alloc | apply pw_below_drewN | apply below_drew1) | exact HB.out)) : p := h
theorem rW1 {p : Prop} (h : p := by repeat (first | (with_reducible first | exact HB.out | apply below_alloc | apply pw_below_drewN | apply below_drew1 | refine below_set ?_ (Aside0.out (by assumption))) | exact HB.out)) : p := h
theorem rW2 {p : Prop} (h : p := by repeat (first | (with_reducible first | exact HK.out | apply KeepBut.set_ | apply keep_drewN | apply keep_drew | apply keep_alloc) | exact HK.out)) : p := h
theorem rW3 {p : Prop} (h : p := by repeat (first | (with_reducible first | exact HB.out | apply below_alloc | apply pw_below_drewN | apply below_drew1 | refine below_set ?_ (IsS179.ge HI355.out)) | exact HB.out)) : p := h
theorem rW4 {p : Prop} (h : p := by repeat (first | (with_reducible first | exact HI421.out | apply IsS186.alloc | apply IsS186.drewN | apply IsS186.drew | apply IsS186.set_0 | apply IsS186.set_1 | refine IsS186.far ?_ NB421_431.out _) | exact HI421.out)) : p := h
theorem rW5 {p : Prop} (h : p := by repeat (first | (with_reducible first | exact HI0.out | apply IsS179.alloc | apply IsS179.drewN | apply IsS179.drew | apply IsS179.set_0 | apply IsS179.set_1) | exact HI0.out)) : p := h
theorem rW6 {p : Prop} (h : p := by repeat (first | (with_reducible first | exact HI355.out | apply IsS179.alloc | apply IsS179.drewN | apply IsS179.drew | apply IsS179.set_0 | apply IsS179.set_1) | exact HI355.out)) : p := h
theorem rW7 {p : Prop} (h : p := by repeat (first | (with_reducible first | exact HB.out | apply below_alloc | apply pw_below_drewN | apply below_drew1 | refine below_set ?_ (IsS179.ge HI0.out)) | exact HB.out)) : p := h
theorem rW8 {p : Prop} (h : p := by repeat (first | (with_reducible first | exact HB.out | apply below_alloc | apply pw_below_drewN | apply below_drew1 | refine below_set ?_ (IsS186.ge HI421.out)) | exact HB.out)) : p := h
theorem rW9 {p : Prop} (h : p := by repeat (first | (with_reducible first | exact HB.out | apply below_alloc | apply pw_below_drewN | apply below_drew1 | refine below_set ?_ (IsS186.ge HI421.out) | refine below_set ?_ GE431.out) | exact HB.out)) : p := h
theorem rW10 {p : Prop} (h : p := by repeat (first | (with_reducible first | exact HI421.out | apply IsS186.alloc | apply IsS186.drewN | apply IsS186.drew | apply IsS186.set_0 | apply IsS186.set_1) | exact HI421.out)) : p := h
theorem rW11 {p : Prop} (h : p := by repeat (first | (with_reducible first | exact HI0.out | apply IsS179.alloc | apply IsS179.drewN | apply IsS179.drew | apply IsS179.set_0 | apply IsS179.set_1 | refine IsS179.far ?_ NB0_329.out _ | refine IsS179.far ?_ NB0_336.out _) | exact HI0.out)) : p := h
theorem rW12 {p : Prop} (h : p := by repeat (first | (with_reducible first | exact HK.out | apply KeepBut.set_ | apply keep_drewN | apply keep_drew | apply keep_alloc | refine keep_far ?_ GW329.out _ | refine keep_far ?_ GW336.out _) | exact HK.out)) : p := h
theorem rW13 {p : Prop} (h : p := by repeat (first | (with_reducible first | exact HB.out | apply below_alloc | apply pw_below_drewN | apply below_drew1 | refine below_set ?_ (IsS179.ge HI0.out) | refine below_set ?_ GE329.out | refine below_set ?_ GE336.out) | exact HB.out)) : p := h
theorem rW14 {p : Prop} (h : p := by repeat (first | (with_reducible first | exact HI0.out | apply IsS179.alloc | apply IsS179.drewN | apply IsS179.drew | apply IsS179.set_0 | apply IsS179.set_1 | refine IsS179.far ?_ NB0_329.out _) | exact HI0.out)) : p := h
theorem rW15 {p : Prop} (h : p := by repeat (first | (with_reducible first | exact HK.out | apply KeepBut.set_ | apply keep_drewN | apply keep_drew | apply keep_alloc | refine keep_far ?_ GW329.out _) | exact HK.out)) : p := h
theorem rW16 {p : Prop} (h : p := by repeat (first | (with_reducible first | exact HI0.out | apply IsS179.alloc | apply IsS179.drewN | apply IsS179.drew | apply IsS179.set_0 | apply IsS179.set_1 | refine IsS179.far ?_ NB0_329.out _ | refine IsS179.far ?_ NB0_336.out _ | refine IsS179.far ?_ NB0_346.out _) | exact HI0.out)) : p := h
theorem rW17 {p : Prop} (h : p := by repeat (first | (with_reducible first | exact HK.out | apply KeepBut.set_ | apply keep_drewN | apply keep_drew | apply keep_alloc | refine keep_far ?_ GW329.out _ | refine keep_far ?_ GW336.out _ | refine keep_far ?_ GW346.out _) | exact HK.out)) : p := h
theorem rW18 {p : Prop} (h : p := by repeat (first | (with_reducible first | exact HB.out | apply below_alloc | apply pw_below_drewN | apply below_drew1 | refine below_set ?_ (IsS179.ge HI0.out) | refine below_set ?_ GE329.out) | exact HB.out)) : p := h
theorem rW19 {p : Prop} (h : p := by repeat (first | (with_reducible first | exact HB.out | apply below_alloc | apply pw_below_drewN | apply below_drew1 | refine below_set ?_ (IsS179.ge HI0.out) | refine below_set ?_ GE329.out | refine below_set ?_ GE336.out | refine below_set ?_ GE346.out) | exact HB.out)) : p := h
theorem rfA {p : Prop} (h : p := by first | rfl | (simp [errW_none, errW_some] <;> rfl) | (simp [*, errW_none, errW_some] <;> rfl)) : p := h
theorem rfB {p : Prop} (h : p := by first | rfl | (simp; done) | (simp [*]; done)) : p := h
theorem zA {p : Prop} (h : p) : Aside0 p := Aside0.mk h
abbrev zB := @World.block_lt_of_cell?
abbrev zC := @List.setIfInBounds_toArray
abbrev zD := @List.set_cons_zero
abbrev zE := @List.set_cons_succ
abbrev zF := @pw_below_drewN
abbrev zG := @of_decide_eq_true
abbrev zH := @decide_eq_true
abbrev zI := @decide_eq_false
abbrev zJ := @below_alloc
abbrev zK := @below_drew1
abbrev zL := @below_step
abbrev zM := @blk_frozen
abbrev zN := @blk_cell
abbrev zO := @List.length_append
abbrev zP := @Kept.of_below
end Go.Proofs.YtcclaidbikjhiaaGreatDoor.PVo
