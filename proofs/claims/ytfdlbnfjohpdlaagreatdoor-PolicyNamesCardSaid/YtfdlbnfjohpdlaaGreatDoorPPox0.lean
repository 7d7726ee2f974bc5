-- laid by gprint.py (this session's own program) out of the translation: Lean checks it
import Derived.Test.YtfdlbnfjohpdlaaGreatDoorProg
import Derived.Below
import Derived.Deep.Draws
import Derived.Deep.AppendLies
import Derived.Maps.AppendAt
import Derived.OwnWalk
import Derived.Laws.BytesArg
import Derived.Laws.MakeOwn
import Derived.Laws.OwnMore
import Derived.Deep.OwnRows
import Derived.Tactics
import Derived.Lib.ConvBytes
import Derived.Laws.Slices
import Derived.WalkKit
import Derived.KernelRfl
import Derived.RowKit3
import Derived.Deep.LoopGhost
import Derived.Deep.QuietTactic
import Derived.BigQuiet
import Derived.WideLaws
import Derived.Deep.DeepCutAuto
import Derived.Deep.CutBlock
import Derived.Deep.RegionHeld3
import Derived.Laws.Rows
import Derived.Lib.AppendStr
import Derived.ArgAppend
import Derived.Laws.IdiomCopy
import Derived.OrdersHeld
import Derived.Laws.BitsLemmas
import Derived.RowKit
import Derived.Test.YtfdlbnfjohpdlaaGreatDoorWWords
import Derived.Test.YtfdlbnfjohpdlaaGreatDoorWLast
import Derived.Test.YtfdlbnfjohpdlaaGreatDoorWTab
import Derived.Test.YtfdlbnfjohpdlaaGreatDoorWFour
import Derived.Test.YtfdlbnfjohpdlaaGreatDoorWQPut
import Derived.Test.YtfdlbnfjohpdlaaGreatDoorWApart
import Derived.Test.YtfdlbnfjohpdlaaGreatDoorWArr
import Derived.Test.YtfdlbnfjohpdlaaGreatDoorWZeros
import Derived.Test.YtfdlbnfjohpdlaaGreatDoorWFoot
import Derived.Test.YtfdlbnfjohpdlaaGreatDoorWKept
import Derived.Test.YtfdlbnfjohpdlaaGreatDoorWShare
import Derived.Test.YtfdlbnfjohpdlaaGreatDoorWN
import Derived.Test.YtfdlbnfjohpdlaaGreatDoorWFootNe
import Derived.Test.YtfdlbnfjohpdlaaGreatDoorWAt
import Derived.Test.YtfdlbnfjohpdlaaGreatDoorWEqStruct
import Derived.Test.YtfdlbnfjohpdlaaGreatDoorWRepsOne
import Derived.Test.YtfdlbnfjohpdlaaGreatDoorWInv
import Derived.Test.YtfdlbnfjohpdlaaGreatDoorWInvWords
import Derived.Test.YtfdlbnfjohpdlaaGreatDoorWGuard
import Derived.Test.YtfdlbnfjohpdlaaGreatDoorWNEv
import Derived.Test.YtfdlbnfjohpdlaaGreatDoorWMore
import Derived.Test.YtfdlbnfjohpdlaaGreatDoorWOwn
--compressed
namespace Go.Proofs.YtfdlbnfjohpdlaaGreatDoor.PPo
open Go.RowKit Go.Proofs.YtfdlbnfjohpdlaaGreatDoorW.PrintWords Go.Proofs.YtfdlbnfjohpdlaaGreatDoorW.PrintLast Go.Proofs.YtfdlbnfjohpdlaaGreatDoorW.PrintMore
attribute [local go_sem] max2_int min2_int max_two min_two max_three min_three max_four min_four   -- for this text's walks alone
attribute [local go_sem high] hw_str_leq hw_str_gtr
set_option linter.unusedVariables false
set_option linter.unusedSimpArgs false
def errW : Option Int → Value
 | none => .nilIface
 | some c => .iface 0 (.int .i64 c)
theorem errW_none : errW none = .nilIface := rfl
theorem errW_some (c : Int) : errW (some c) = .iface 0 (.int .i64 c) := rfl
theorem info3 : (Tryz.prog.info? 3).map (fun i => (i.zero, i.size, i.bytes)) = some (some (.int .i64 0), 1, 8) := by kernel_rfl
theorem info31 : (Tryz.prog.info? 31).map (fun i => (i.zero, i.size, i.bytes)) = some (some (.agg #[(.int .i64 0), (.int .i64 0), (.string ⟨#[]⟩), (.int .u64 0), (.bool false), (.bool false)]), 6, 48) := by kernel_rfl
-- the values' own types
structure S68 where
 f0 : Int
 f1 : Bool
 f2 : Int
def z68 : S68 := ⟨(0 : Int), false, (0 : Int)⟩
def k68 : Kd S68 := Kd.iso (Kd.pair (Kd.int .u64) (Kd.pair Kd.bool (Kd.int .i64))) (fun x : S68 => (x.f0, x.f1, x.f2))
theorem k68_open {w : World} {x : S68} {cs : List Value} (h : k68.K w x cs) : cs = [.int .u64 x.f0, .bool x.f1, .int .i64 x.f2] := by
 obtain ⟨_, _, rfl, rfl, ⟨_, _, rfl, rfl, rfl⟩⟩ := h
 exact rfl
theorem k68_mk (w : World) (x : S68)  : k68.K w x [.int .u64 x.f0, .bool x.f1, .int .i64 x.f2] := ⟨[.int .u64 x.f0], [.bool x.f1, .int .i64 x.f2], rfl, rfl, ⟨[.bool x.f1], [.int .i64 x.f2], rfl, rfl, rfl⟩⟩
def rd_T68 (xs : List S68) (i : Int) : S68 := xs.getD i.toNat z68
theorem at_T68 {w : World} {A : Option Addr} {n : Nat} {xs : List S68} (h : Kd.C k68 w A n xs) (i : Int) (h0 : 0 ≤ i) (h1 : i < n) : ∃ ad , A = some ad ∧ w.cell? (ad.add (i.toNat * 3)) = some (.int .u64 (rd_T68 xs i).f0) ∧ w.cell? ⟨(ad.add (i.toNat * 3)).block, (ad.add (i.toNat * 3)).off + 1, none⟩ = some (.bool (rd_T68 xs i).f1) ∧ w.cell? ⟨(ad.add (i.toNat * 3)).block, (ad.add (i.toNat * 3)).off + 2, none⟩ = some (.int .i64 (rd_T68 xs i).f2) := by
 obtain ⟨ad, c, e, _, hK, hc0⟩ := Kd.C_get h z68 i h0 h1
 have hc : ∀ j u, c[j]? = some u → w.cell? (ad.add (i.toNat * 3 + j)) = some u := hc0
 obtain rfl := k68_open hK
 exact ⟨ad, e, hc 0 _ rfl, by rw [← add_field _ _ 1 (by omega)]; exact hc 1 _ rfl, by rw [← add_field _ _ 2 (by omega)]; exact hc 2 _ rfl⟩
structure S31 where
 f0 : Int
 f1 : Int
 f2 : ByteArray
 f3 : Int
 f4 : Bool
 f5 : Bool
def z31 : S31 := ⟨(0 : Int), (0 : Int), (⟨#[]⟩ : ByteArray), (0 : Int), false, false⟩
def k31 : Kd S31 := Kd.iso (Kd.pair (Kd.int .i64) (Kd.pair (Kd.int .i64) (Kd.pair Kd.string (Kd.pair (Kd.int .u64) (Kd.pair Kd.bool Kd.bool))))) (fun x : S31 => (x.f0, x.f1, x.f2, x.f3, x.f4, x.f5))
theorem k31_open {w : World} {x : S31} {cs : List Value} (h : k31.K w x cs) : cs = [.int .i64 x.f0, .int .i64 x.f1, .string x.f2, .int .u64 x.f3, .bool x.f4, .bool x.f5] := by
 obtain ⟨_, _, rfl, rfl, ⟨_, _, rfl, rfl, ⟨_, _, rfl, rfl, ⟨_, _, rfl, rfl, ⟨_, _, rfl, rfl, rfl⟩⟩⟩⟩⟩ := h
 exact rfl
theorem k31_openM {w : World} {base : Nat} {ok : Nat → Prop} {x : S31} {cs : List Value} (h : k31.M w base ok x cs) : cs = [.int .i64 x.f0, .int .i64 x.f1, .string x.f2, .int .u64 x.f3, .bool x.f4, .bool x.f5] := by
 obtain ⟨_, _, rfl, rfl, ⟨_, _, rfl, rfl, ⟨_, _, rfl, rfl, ⟨_, _, rfl, rfl, ⟨_, _, rfl, rfl, rfl⟩⟩⟩⟩⟩ := h
 exact rfl
theorem k31_mkM (w : World) (base : Nat) (ok : Nat → Prop) (x : S31)  : k31.M w base ok x [.int .i64 x.f0, .int .i64 x.f1, .string x.f2, .int .u64 x.f3, .bool x.f4, .bool x.f5] := ⟨[.int .i64 x.f0], [.int .i64 x.f1, .string x.f2, .int .u64 x.f3, .bool x.f4, .bool x.f5], rfl, rfl, ⟨[.int .i64 x.f1], [.string x.f2, .int .u64 x.f3, .bool x.f4, .bool x.f5], rfl, rfl, ⟨[.string x.f2], [.int .u64 x.f3, .bool x.f4, .bool x.f5], rfl, rfl, ⟨[.int .u64 x.f3], [.bool x.f4, .bool x.f5], rfl, rfl, ⟨[.bool x.f4], [.bool x.f5], rfl, rfl, rfl⟩⟩⟩⟩⟩
def rd_T31 (xs : List S31) (i : Int) : S31 := xs.getD i.toNat z31
theorem at_T31 {w : World} {A : Option Addr} {n : Nat} {xs : List S31} (h : Kd.C k31 w A n xs) (i : Int) (h0 : 0 ≤ i) (h1 : i < n) : ∃ ad , A = some ad ∧ w.cell? (ad.add (i.toNat * 6)) = some (.int .i64 (rd_T31 xs i).f0) ∧ w.cell? ⟨(ad.add (i.toNat * 6)).block, (ad.add (i.toNat * 6)).off + 1, none⟩ = some (.int .i64 (rd_T31 xs i).f1) ∧ w.cell? ⟨(ad.add (i.toNat * 6)).block, (ad.add (i.toNat * 6)).off + 2, none⟩ = some (.string (rd_T31 xs i).f2) ∧ w.cell? ⟨(ad.add (i.toNat * 6)).block, (ad.add (i.toNat * 6)).off + 3, none⟩ = some (.int .u64 (rd_T31 xs i).f3) ∧ w.cell? ⟨(ad.add (i.toNat * 6)).block, (ad.add (i.toNat * 6)).off + 4, none⟩ = some (.bool (rd_T31 xs i).f4) ∧ w.cell? ⟨(ad.add (i.toNat * 6)).block, (ad.add (i.toNat * 6)).off + 5, none⟩ = some (.bool (rd_T31 xs i).f5) := by
 obtain ⟨ad, c, e, _, hK, hc0⟩ := Kd.C_get h z31 i h0 h1
 have hc : ∀ j u, c[j]? = some u → w.cell? (ad.add (i.toNat * 6 + j)) = some u := hc0
 obtain rfl := k31_open hK
 exact ⟨ad, e, hc 0 _ rfl, by rw [← add_field _ _ 1 (by omega)]; exact hc 1 _ rfl, by rw [← add_field _ _ 2 (by omega)]; exact hc 2 _ rfl, by rw [← add_field _ _ 3 (by omega)]; exact hc 3 _ rfl, by rw [← add_field _ _ 4 (by omega)]; exact hc 4 _ rfl, by rw [← add_field _ _ 5 (by omega)]; exact hc 5 _ rfl⟩
theorem belA {n : Nat} {w W : World} (h : Below n w W := by repeat (first | (with_reducible first | exact HB.out | apply below_alloc | apply pw_below_drewN | apply below_drew1) | exact HB.out)) : Below n w W := h
theorem argA {p : Prop} (h : p := by (try simp only [List.map_toArray, List.map_cons, List.map_nil]); first | done | rfl | (simp only [List.length_drop, List.length_take]; rfl)) : p := h
theorem asA {p : Prop} (h : p := by first | (with_reducible assumption) | assumption) : p := h
abbrev Y : Bool := true
abbrev Z : Bool := false
theorem blkN {p q : Prop} (x : p) (h : p → q := by intro x_; (with_reducible repeat (first | refine blk_drewN ?_ _ | refine blk_drew ?_ | refine blk_alloc ?_ _)); exact x_) : q := h x
theorem kdN_ {p q : Prop} (x : p) (h : p → q := by intro x_; (with_reducible repeat (first | apply Kd.N_alloc | apply Kd.N_drewN | apply Kd.N_drew)); exact x_) : q := h x
theorem kdS_ {p q : Prop} (x : p) (h : p → q := by intro x_; (with_reducible repeat (first | apply Kd.S_alloc | apply Kd.S_drewN | apply Kd.S_drew)); exact x_) : q := h x
theorem kdR_ {p q : Prop} (x : p) (h : p → q := by intro x_; (with_reducible repeat (first | apply Kd.R_alloc | apply Kd.R_drewN | apply Kd.R_drew)); exact x_) : q := h x
end Go.Proofs.YtfdlbnfjohpdlaaGreatDoor.PPo
