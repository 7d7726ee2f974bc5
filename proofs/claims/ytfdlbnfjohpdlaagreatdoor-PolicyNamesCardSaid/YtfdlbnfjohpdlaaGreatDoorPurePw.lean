import Derived.Test.YtfdlbnfjohpdlaaGreatDoorPureDp
import Derived.Test.YtfdlbnfjohpdlaaGreatDoorPPox16
import Derived.Test.YtfdlbnfjohpdlaaGreatDoorPPox7
import Derived.Test.YtfdlbnfjohpdlaaGreatDoorPureRn
import Derived.KernelRfl
import Derived.Test.YtfdlbnfjohpdlaaGreatDoorPPox0
import Derived.Test.YtfdlbnfjohpdlaaGreatDoorLayP
import Derived.Test.YtfdlbnfjohpdlaaGreatDoorPureTR
import Derived.Lib.OthersKept
import Derived.Outline
import Derived.Lib.ConvBytes
import Derived.Lib.LazyBuf
import Derived.Test.YtfdlbnfjohpdlaaGreatDoorPPox23
import Derived.Lib.LaidTab
import Derived.Lib.SlBytesRow
import Derived.Lib.AppendIntMem
import Derived.Test.YtfdlbnfjohpdlaaGreatDoorPPox25
import Derived.Test.YtfdlbnfjohpdlaaGreatDoorPPox26
import Derived.Lib.SplitLaws
import Derived.Lib.IndexLaws
import Derived.Lib.Join
--compressed
namespace Go.Proofs.YtfdlbnfjohpdlaaGreatDoor.PPo
open Go.RowKit Go.Proofs.YtfdlbnfjohpdlaaGreatDoor.Th Go.Proofs.YtfdlbnfjohpdlaaGreatDoorW.PrintWords Go.Proofs.YtfdlbnfjohpdlaaGreatDoorW.PrintLast Go.Proofs.YtfdlbnfjohpdlaaGreatDoorW.PrintMore
attribute [local go_sem] max2_int min2_int max_two min_two max_three min_three max_four min_four
set_option linter.unusedVariables false
set_option linter.unusedSimpArgs false
def TwoB (u v : Value) : Prop := ∀ k, u.ownBlock = some k → some k ≠ v.ownBlock
theorem TwoB.symm {u v : Value} (h : TwoB u v) : TwoB v u := fun k hk he => h k he.symm hk.symm
theorem TwoB.step {W : World} {u u1 v : Value} {ys : List Int} {base : Nat} (h : TwoB u v) (hv : Kd.R (Kd.int .i64) 3 W base (fun _ => True) v ys) (hat : u1.ownBlock = u.ownBlock ∨ ∃ b, u1.ownBlock = some b ∧ W.heap.size ≤ b) : TwoB u1 v := fun k hk he => by
 rcases hat with h1 | ⟨b, h1, h2⟩
 ·exact h k (h1 ▸ hk) he
 ·rw [h1] at hk
  injection hk with hk
  have := Kd.R_lt hv k he.symm
  omega
end Go.Proofs.YtfdlbnfjohpdlaaGreatDoor.PPo
namespace Go.Proofs.YtfdlbnfjohpdlaaGreatDoor.PPo
open Go.RowKit Go.Proofs.YtfdlbnfjohpdlaaGreatDoor.Th Go.Proofs.YtfdlbnfjohpdlaaGreatDoorW.PrintWords Go.Proofs.YtfdlbnfjohpdlaaGreatDoorW.PrintLast Go.Proofs.YtfdlbnfjohpdlaaGreatDoorW.PrintMore
attribute [local go_sem] max2_int min2_int max_two min_two max_three min_three max_four min_four
set_option linter.unusedVariables false
set_option linter.unusedSimpArgs false
end Go.Proofs.YtfdlbnfjohpdlaaGreatDoor.PPo
namespace Go.Proofs.YtfdlbnfjohpdlaaGreatDoor.Th
open Go.RowKit Go.Lib Go.Proofs.YtfdlbnfjohpdlaaGreatDoor.PPo Go.Proofs.YtfdlbnfjohpdlaaGreatDoorW.PrintWords
set_option linter.unusedVariables false
abbrev Nd := S68
def Small (l : List Lk) : Prop := ∀ x ∈ l, x.f2.size ≤ 120 ∧ Tm x
def nodes4 : List Nd := [⟨432000, false, 0⟩, ⟨432001, false, 0⟩, ⟨604800, false, 0⟩, ⟨777600, false, 0⟩]
def links5 : List Lk := [⟨1, 0, ⟨#[114, 111, 111, 116]⟩, 0, false, false⟩, ⟨2, 1, ⟨#[110]⟩, 432000, false, false⟩, ⟨3, 1, ⟨#[110]⟩, 432001, false, false⟩, ⟨4, 1, ⟨#[110]⟩, 604800, false, false⟩, ⟨5, 1, ⟨#[110]⟩, 777600, false, false⟩]
theorem grown4 : rootcellarlaw16_grown.f 9 nodes4 0 = some (links5, 1, 6, 0) := by kernel_rfl
theorem keep4 : keepV 2 0 0 0 links5 1 6 = [1, 4, 5] := by decide +kernel
theorem drops4 : dropsV 2 0 0 0 links5 1 6 = [2, 3] := by decide +kernel
end Go.Proofs.YtfdlbnfjohpdlaaGreatDoor.Th
namespace Go.Proofs.YtfdlbnfjohpdlaaGreatDoor.PPo
open Go.RowKit Go.Proofs.YtfdlbnfjohpdlaaGreatDoorW.PrintWords Go.Proofs.YtfdlbnfjohpdlaaGreatDoorW.PrintLast Go.Proofs.YtfdlbnfjohpdlaaGreatDoorW.PrintMore
attribute [local go_sem] max2_int min2_int max_two min_two max_three min_three max_four min_four
set_option linter.unusedVariables false
set_option linter.unusedSimpArgs false
def MaxW (w : World) : Prop := ∃ m : Int, w.cell? ⟨Tryz.laySplit_ren.g 1, 0, none⟩ = some (.int .i64 m)
theorem MaxW.below {w w' : World} (h : MaxW w) (hb : Below w.heap.size w w') : MaxW w' := by
 obtain ⟨m, hm⟩ := h
 exact ⟨m, (hb.cell (World.block_lt_of_cell? w _ hm)).trans hm⟩
theorem strOfNums_bytesOf (s : ByteArray) : strOfNums (bytesOf s) = s := by
 unfold bytesOf
 rw [Lib.Lz.strOfNums_map]
def plainS (s : ByteArray) : Prop := ∀ j, j < s.size → ¬ (65 ≤ (bytesOf s).getD j 0 ∧ (bytesOf s).getD j 0 ≤ 90)
set_option maxHeartbeats 2000000 in
set_option maxRecDepth 100000 in
theorem foldId.calls (s : ByteArray) (hs : s.size ≤ 1000) (hp : plainS s) (w : World) : Calls Tryz.prog 49 #[.string s] w fun e w' => e = .returned (.string s) ∧ Below w.heap.size w w' := by
 have kb := print_bytes (P := Tryz.prog) 9 114 5 Tryz.underlying9 Tryz.underlying114 Tryz.underlying5 s w
 have hrd := bytes_reads w 5 s (by omega)
 have HB0 := Aside0.mk (bytes_below (Below.refl w.heap.size w) (Nat.le_refl _) 5 s)
 have hlen := bytesOf_length s
 have HRD := Aside0.mk (show ∀ W, Below (Lib.bytesWorld w 5 s).heap.size (Lib.bytesWorld w 5 s) W → ReadsInt W .u8 (some ⟨w.heap.size, 0, none⟩) s.size (bytesOf s) from fun W hW => ⟨hrd.1, hrd.2.1, fun hp => by
  obtain ⟨ad, e, h⟩ := hrd.2.2 hp
  exact ⟨ad, e, fun j hj => (hW.cell (World.block_lt_of_cell? _ _ (h j hj))).trans (h j hj)⟩⟩)
 have HPL := Aside0.mk hp
 have HST := Aside0.mk (strOfNums_bytesOf s)
 generalize grownCap w s.size 0 5 = cap at kb
 clear hrd hp
 go_enter Tryz.func49, Tryz.ntmps49
 go_wp2
 generalize hwb : Lib.bytesWorld w 5 s = wb at HRD HB0 ⊢
 clear hwb kb
 go_loopg [10] s.size (fun gg s10 wr => ∃ i : Nat, s10 = .int .i64 i ∧ i ≤ s.size ∧ s.size - i ≤ gg ∧ Aside0 (Below wb.heap.size wb wr))
 case atStart => exact ⟨0, rfl, Nat.zero_le _, by omega, ⟨Below.refl _ _⟩⟩
 case round =>
  obtain ⟨i, rfl, hi, hg, HBr⟩ := hrel
  by_cases hlt : i < s.size
  ·have hltz : decide ((i : Int) < (s.size : Int)) = true := decide_eq_true (by omega)
   have hi0 : (0 : Int) ≤ (i : Int) := by omega
   have hi1 : (i : Int) < (s.size : Int) := by omega
   obtain ⟨ad, e, hcl⟩ := (HRD.out wr HBr.out).2.2 (by omega)
   cases e
   have hx := hcl i hlt
   rw [add_plain] at hx
   have hnot := HPL.out i hlt
   clear hcl
   generalize (bytesOf s).getD i 0 = x at hx hnot
   have hz0 : (⟨w.heap.size, 0, none⟩ : Addr).add i = ⟨w.heap.size, i, none⟩ := add_plain _ _
   cases h65 : decide (65 ≤ x) with
   | false =>
    clear hnot
    go_wp2
    go_roundg (s.size - (i + 1))
    case measure => omega
    case rel => exact ⟨i + 1, by go_num, by omega, by omega, HBr⟩
   | true =>
    have h90 : decide (x ≤ 90) = false := decide_eq_false (fun h => hnot ⟨of_decide_eq_true h65, h⟩)
    clear hnot
    go_wp2
    go_roundg (s.size - (i + 1))
    case measure => omega
    case rel => exact ⟨i + 1, by go_num, by omega, by omega, HBr⟩
  ·have hltz : decide ((i : Int) < (s.size : Int)) = false := decide_eq_false (by omega)
   have hcv : (convert 114 9 (.slice (some ⟨w.heap.size, 0, none⟩) s.size cap)).run Tryz.prog wr = .ok (.string s) wr := by
    have h := string_of_reads (P := Tryz.prog) (src := 114) (dst := 9) (e := 5) (c := cap) Tryz.underlying114 Tryz.underlying5 Tryz.underlying9 (HRD.out wr HBr.out)
    rw [HST.out] at h
    exact h
   go_wp2
   go_ret
   exact ⟨rfl, HB0.out.trans (HBr.out.mono (below_size HB0.out))⟩
def first1 (s : ByteArray) : ByteArray := s.extract 0 (Utf8.decode s 0).2
set_option maxHeartbeats 2000000 in
set_option maxRecDepth 100000 in
theorem first1.calls (s : ByteArray) (hs : 0 < s.size) (hw : 1 ≤ (Utf8.decode s 0).2 ∧ (Utf8.decode s 0).2 ≤ s.size) (hs2 : s.size ≤ 1000) (w : World) : Calls Tryz.prog 50 #[.string s, .int .i64 1] w fun e w' => e = .returned (.string (first1 s)) ∧ Below w.heap.size w w' := by
 have HF := Aside0.mk (show first1 s = s.extract 0 (Utf8.decode s 0).2 from rfl)
 generalize first1 s = F at HF ⊢
 have hdc : ∃ d, d = (Utf8.decode s 0).2 := ⟨_, rfl⟩
 obtain ⟨d, hd⟩ := hdc
 rw [← hd] at hw HF
 have HD := Aside0.mk hd
 clear hd
 go_enter Tryz.func50, Tryz.ntmps50
 go_wp2
 go_loopw [1] (fun s1 wr => ∃ (pos n : Nat), s1 = .int .i64 n ∧ wr.heap[w.heap.size]? = some (.stringIter s pos) ∧ Aside0 (Below w.heap.size w wr) ∧ ((pos = 0 ∧ n = 1) ∨ (pos = d ∧ n = 0))) (fun _ wr => s.size - wr.iterPos w.heap.size)
 case atStart => exact ⟨0, 1, rfl, World.iter_heap w s 0, ⟨(Below.refl _ w).alloc (Nat.le_refl _) _⟩, .inl ⟨rfl, rfl⟩⟩
 case round =>
  obtain ⟨pos, n, rfl, hit, hbw, hpn⟩ := hrel
  rcases hpn with ⟨rfl, rfl⟩ | ⟨rfl, rfl⟩
  ·have hnx : ∀ ty, (Instr.next (.pointer (some ⟨w.heap.size, 0, none⟩)) true ty).run Tryz.prog wr = _ := fun ty => Lib.run_next_any_at wr w.heap.size s 0 ty hit hs
   have hit2 := Lib.iterAt_heap wr w.heap.size s 0 (0 + (Utf8.decode s 0).2) hit
   have hbw2 := Aside0.mk (Lib.below_iterAt hbw.out (k := w.heap.size) (Nat.le_refl _) s (0 + (Utf8.decode s 0).2))
   rw [Nat.zero_add] at hit2 hbw2
   have HI2 := Aside0.mk hit2
   go_wp2
   go_roundw
   case rel => exact ⟨d, 0, by first | rfl | go_num, by rw [HD.out]; exact HI2.out, hbw2, .inr ⟨rfl, rfl⟩⟩
   case measure =>
    have h2 := HI2.out
    have h3 := HD.out
    simp only [World.iterPos, h2, hit]
    omega
  ·by_cases hp : pos < s.size
   ·have hnx : ∀ ty, (Instr.next (.pointer (some ⟨w.heap.size, 0, none⟩)) true ty).run Tryz.prog wr = _ := fun ty => Lib.run_next_any_at wr w.heap.size s pos ty hit hp
    have hbw2 := Aside0.mk (Lib.below_iterAt hbw.out (k := w.heap.size) (Nat.le_refl _) s (pos + (Utf8.decode s pos).2))
    have hpi : (pos : Int) ≤ (s.size : Int) := by omega
    go_wp2
    go_ret
    exact ⟨by rw [HF.out]; rfl, hbw2.out⟩
   ·have hnx : ∀ ty, (Instr.next (.pointer (some ⟨w.heap.size, 0, none⟩)) true ty).run Tryz.prog wr = _ := fun ty => Lib.run_next_end_at wr w.heap.size s pos ty hit hp
    have hps : pos = s.size := by omega
    have HE := Aside0.mk (show F = s by rw [HF.out, hps]; exact ByteArray.extract_zero_size)
    go_wp2
    go_ret
    exact ⟨by rw [HE.out]; rfl, hbw.out⟩
theorem itoa2 : (⟨(Lib.decDigits 2).toArray⟩ : ByteArray) = ⟨#[50]⟩ := by simp [Lib.decDigits]
set_option maxHeartbeats 2000000 in
set_option maxRecDepth 100000 in
theorem count2.calls (w : World) : Calls Tryz.prog 52 #[.string ⟨#[50]⟩] w fun e w' => e = .returned (.tuple #[.int .i64 2, .bool true]) ∧ Below w.heap.size w w' := by
 have HIT := Aside0.mk (show ∀ W, Calls Tryz.prog 58 #[.int .i64 2] W fun e w' => e = .returned (.string ⟨#[50]⟩) ∧ w' = W from fun W => by
  have h := Any.strconv_Itoa_small { Tryz.layItoa with } 2 (by decide) W
  rw [itoa2] at h
  exact h)
 obtain ⟨s, hs⟩ : ∃ s : ByteArray, s = ⟨#[50]⟩ := ⟨_, rfl⟩
 rw [← hs] at HIT ⊢
 have hsz : s.size = 1 := by rw [hs]; rfl
 have hdc : Utf8.decode s 0 = (50, 1) := by rw [hs]; rfl
 clear hs
 go_enter Tryz.func52, Tryz.ntmps52
 go_wp2
 go_loopw [4] (fun s4 wr => ∃ (pos n : Nat), s4 = .int .i64 n ∧ wr.heap[w.heap.size]? = some (.stringIter s pos) ∧ Aside0 (Below w.heap.size w wr) ∧ ((pos = 0 ∧ n = 0) ∨ (pos = 1 ∧ n = 2))) (fun _ wr => s.size - wr.iterPos w.heap.size)
 case atStart => exact ⟨0, 0, rfl, World.iter_heap w s 0, ⟨(Below.refl _ w).alloc (Nat.le_refl _) _⟩, .inl ⟨rfl, rfl⟩⟩
 case round =>
  obtain ⟨pos, n, rfl, hit, hbw, hpn⟩ := hrel
  rcases hpn with ⟨rfl, rfl⟩ | ⟨rfl, rfl⟩
  ·have hnx0 : ∀ ty, (Instr.next (.pointer (some ⟨w.heap.size, 0, none⟩)) true ty).run Tryz.prog wr = _ := fun ty => Lib.run_next_any_at wr w.heap.size s 0 ty hit (by omega)
   have hit2 := Lib.iterAt_heap wr w.heap.size s 0 (0 + (Utf8.decode s 0).2) hit
   have hbw2 := Aside0.mk (Lib.below_iterAt hbw.out (k := w.heap.size) (Nat.le_refl _) s (0 + (Utf8.decode s 0).2))
   have hnx := hnx0
   clear hnx0
   simp only [hdc, Nat.zero_add] at hnx hit2 hbw2
   have HI2 := Aside0.mk hit2
   go_wp2
   go_roundw
   case rel => exact ⟨1, 2, by first | rfl | go_num, HI2.out, hbw2, .inr ⟨rfl, rfl⟩⟩
   case measure =>
    have h2 := HI2.out
    simp only [World.iterPos, h2, hit]
    omega
  ·have hnx : ∀ ty, (Instr.next (.pointer (some ⟨w.heap.size, 0, none⟩)) true ty).run Tryz.prog wr = _ := fun ty => Lib.run_next_end_at wr w.heap.size s 1 ty hit (by omega)
   go_wp2_with (go_at_call 58; go_loud (refine (HIT.out _).mono ?_; rintro e w2 ⟨rfl, rfl⟩))
   refine bodyPost_ret (results_tmp2 rfl _ _ _) rfl ?_
   exact ⟨by simp, hbw.out⟩
end Go.Proofs.YtfdlbnfjohpdlaaGreatDoor.PPo
namespace Go.Proofs.YtfdlbnfjohpdlaaGreatDoor.PPo
open Go.RowKit Go.Proofs.YtfdlbnfjohpdlaaGreatDoorW.PrintWords Go.Proofs.YtfdlbnfjohpdlaaGreatDoorW.PrintLast Go.Proofs.YtfdlbnfjohpdlaaGreatDoorW.PrintMore
attribute [local go_sem] max2_int min2_int max_two min_two max_three min_three max_four min_four
set_option linter.unusedVariables false
set_option linter.unusedSimpArgs false
theorem cnt_d2 : Lib.countB ⟨#[100, 50]⟩ ⟨#[32]⟩ = 0 := by decide +kernel
theorem spl_d2 : Lib.splitB ⟨#[32]⟩ 0 0 ⟨#[100, 50]⟩ = [⟨#[100, 50]⟩] := by decide +kernel
theorem fst_d2 : first1 ⟨#[100, 50]⟩ = ⟨#[100]⟩ := by decide +kernel
theorem dec_d2 : (Utf8.decode ⟨#[100, 50]⟩ 0).2 = 1 := by decide +kernel
theorem idx_d : Lib.indexByte [100, 119, 109, 121] 100 = 0 := by decide +kernel
theorem idx_0 : decide (0 ≤ Lib.indexByte [] 100) = false := by decide +kernel
theorem trm_d2 : strings_TrimPrefix.f ⟨#[100, 50]⟩ ⟨#[100]⟩ = some ⟨#[50]⟩ := by decide +kernel
set_option maxHeartbeats 4000000 in
set_option maxRecDepth 100000 in
theorem parse2.calls (w : World) (hm : MaxW w) : Calls Tryz.prog 28 #[.string ⟨#[100, 50]⟩] w fun e w' => e = .returned (.tuple #[.agg #[.int .i64 2, .int .i64 0, .int .i64 0, .int .i64 0], .int .i64 0]) ∧ Below w.heap.size w w' := by
 have hu := Tryz.underlying23
 have hu2 := Tryz.underlying74
 have HB := Aside0.mk (Below.refl w.heap.size w)
 have HSP := Aside0.mk (show ∀ W, Below w.heap.size w W → Calls Tryz.prog 48 #[.string ⟨#[100, 50]⟩, .string ⟨#[32]⟩] W fun e w' => ∃ g, e = .returned (.slice (some ⟨g, 0, none⟩) 1 1) ∧ w'.heap[g]? = some (.cells #[.string ⟨#[100, 50]⟩] 9 (0, 0)) ∧ Below W.heap.size W w' from fun W hW => by
  obtain ⟨m, hm2⟩ := hm.below hW
  refine (Any.strings_Split { Tryz.laySplit with } Tryz.laySplit.i9 ⟨#[100, 50]⟩ ⟨#[32]⟩ m W (by decide) hm2 (by decide)).mono ?_
  rw [cnt_d2, spl_d2]
  rintro e w' ⟨rfl, rfl⟩
  exact ⟨_, rfl, blk_new W _, below_alloc (Below.refl _ _) _⟩)
 have HF1 := Aside0.mk (fun W => first1.calls ⟨#[100, 50]⟩ (by decide) (by rw [dec_d2]; decide) (by decide) W)
 rw [fst_d2] at HF1
 have HFA := Aside0.mk (fun W => foldId.calls ⟨#[100]⟩ (by decide) (by unfold plainS; decide +kernel) W)
 have HFB := Aside0.mk (fun W => foldId.calls ⟨#[100, 50]⟩ (by decide) (by unfold plainS; decide +kernel) W)
 have HIX := Aside0.mk (show ∀ W, Calls Tryz.prog 51 #[.string ⟨#[100, 119, 109, 121]⟩, .string ⟨#[100]⟩] W fun e w' => e = .returned (.int .i64 0) ∧ w' = W from fun W => (Any.strings_Index_one { Tryz.layIndex with } ⟨#[100, 119, 109, 121]⟩ 100 W).mono fun e w' q => ⟨by rw [q.1]; exact congrArg (fun z => Ending.returned (.int .i64 z)) idx_d, q.2⟩)
 have HCT := Aside0.mk (show ∀ W, Calls Tryz.prog 54 #[.string ⟨#[]⟩, .string ⟨#[100]⟩] W fun e w' => e = .returned (.bool false) ∧ w' = W from fun W => (Any.strings_Contains_one { Tryz.layContains with } ⟨#[]⟩ 100 W).mono fun e w' q => ⟨by rw [q.1]; exact congrArg (fun z => Ending.returned (.bool z)) idx_0, q.2⟩)
 have HTP := Aside0.mk (fun W => strings_TrimPrefix.calls _ _ _ W trm_d2)
 have HC2 := Aside0.mk (fun W => count2.calls W)
 go_enter Tryz.func28, Tryz.ntmps28
 go_wp2_with (first
  | ((with_reducible refine gate_dst (N := 2) rfl ?_); refine box_event ?hg (N := 2) ?hd (cs := #[.int .i64 0, .int .i64 0, .int .i64 0, .int .i64 0]) (t := 23) ?hr ?_; (case hd => rfl); (case hg => rfl); (case hr => first | (go_simp; done) | (go_simp; rfl)); intro g2 hg2 wb2 hbox hb; have HB2 := Aside0.mk (below_step HB.out hb); have BK2 := Aside0.mk hbox; have HG2 := Aside0.mk (show w.heap.size ≤ g2 by rw [hg2]; exact below_size HB.out); clear hg2 hb hbox; have hb2_0 := blk_cell BK2.out 0; have hb2_1 := blk_cell BK2.out 1; have hb2_2 := blk_cell BK2.out 2; have hb2_3 := blk_cell BK2.out 3)
  | ((with_reducible refine gate_dst (N := 4) rfl ?_); refine box_event ?hg (N := 4) ?hd (cs := #[.int .i64 0, .int .i64 0, .int .i64 0, .int .i64 0]) (t := 74) ?hr ?_; (case hd => rfl); (case hg => rfl); (case hr => first | (go_simp; done) | (go_simp; rfl)); intro g4 hg4 wb4 hbox hb; have HB4 := Aside0.mk (below_step HB2.out hb); have BK4 := Aside0.mk hbox; have HG4 := Aside0.mk (show w.heap.size ≤ g4 by rw [hg4]; exact below_size HB2.out); have BP4 := Aside0.mk (blk_below BK2.out hb); clear hg4 hb hbox; have hb4_0 := blk_cell BK4.out 0; have hb4_1 := blk_cell BK4.out 1; have hb4_2 := blk_cell BK4.out 2; have hb4_3 := blk_cell BK4.out 3)
  | (go_at_call 48; go_loud (refine (HSP.out _ HB4.out).mono ?_; rintro e w5 ⟨g5, rfl, q1, q2⟩; have HB5 := Aside0.mk (below_step HB4.out q2); have HG5 := Aside0.mk q1; have BP5 := Aside0.mk (blk_below BP4.out q2); have BA5 := Aside0.mk (blk_below BK4.out q2); clear q1 q2 hb2_0 hb2_1 hb2_2 hb2_3 hb4_0 hb4_1 hb4_2 hb4_3)))
 go_loopg [5, 15] 1 (fun gg s5 s15 wr => ∃ (i : Nat) (sn : ByteArray) (c0 : Int), s5 = .string sn ∧ s15 = .int .i64 i ∧ i ≤ 1 ∧ 1 - i ≤ gg ∧ ((i = 0 ∧ sn = ⟨#[]⟩ ∧ c0 = 0) ∨ (i = 1 ∧ c0 = 2)) ∧ Aside0 (Below w.heap.size w wr) ∧ Aside0 (wr.heap[g5]? = some (.cells #[.string ⟨#[100, 50]⟩] 9 (0, 0))) ∧ Aside0 (wr.heap[g2]? = some (.cells #[.int .i64 0, .int .i64 0, .int .i64 0, .int .i64 0] 23 (0, 0))) ∧ Aside0 (wr.heap[g4]? = some (.cells #[.int .i64 c0, .int .i64 0, .int .i64 0, .int .i64 0] 74 (0, 0))))
 case atStart => exact ⟨0, ⟨#[]⟩, 0, rfl, rfl, by omega, by omega, .inl ⟨rfl, rfl, rfl⟩, HB5, HG5, BP5, BA5⟩
 case round =>
  obtain ⟨i, sn, c0, rfl, rfl, hi, hg, hst, HBr, HGr, BPr, BAr⟩ := hrel
  rcases hst with ⟨rfl, rfl, rfl⟩ | ⟨rfl, rfl⟩
  ·have hg0 := blk_cell HGr.out 0
   go_wp2_with (first
    | (go_at_call 50; go_loud (refine (HF1.out _).mono ?_; rintro e wa ⟨rfl, q1⟩; have HA := Aside0.mk q1; clear q1))
    | (go_at_call 49; with_reducible refine (HFA.out _).mono ?_; rintro e wb ⟨rfl, q1⟩; have HBB := Aside0.mk (below_step HA.out q1); clear q1)
    | (go_at_call 51; go_loud (refine (HIX.out _).mono ?_; rintro e wi ⟨rfl, rfl⟩))
    | (go_at_call 49; with_reducible refine (HFB.out _).mono ?_; rintro e wc ⟨rfl, q1⟩; have HCC := Aside0.mk (below_step HBB.out q1); clear q1)
    | (go_at_call 53; go_loud (refine (HTP.out _).mono ?_; rintro e wd ⟨rfl, q1⟩; have HDD := Aside0.mk (below_step HCC.out q1.below); clear q1))
    | (go_at_call 52; go_loud (refine (HC2.out _).mono ?_; rintro e we ⟨rfl, q1⟩; have HEE := Aside0.mk (below_step HDD.out q1); have BAe := Aside0.mk (blk_below BAr.out HEE.out); have BPe := Aside0.mk (blk_below BPr.out HEE.out); have HGe := Aside0.mk (blk_below HGr.out HEE.out); clear q1 hg0; have hc0 := blk_cell BAe.out 0; have hf0 := blk_frozen BAe.out 0))
    | (go_at_call 54; go_loud (refine (HCT.out _).mono ?_; rintro e wg ⟨rfl, rfl⟩)))
   go_roundg (1 - (0 + 1))
   case measure => omega
   case rel => exact ⟨1, _, 2, rfl, by first | rfl | go_num, by omega, by omega, .inr ⟨rfl, rfl⟩, ⟨below_set (below_step HBr.out HEE.out) HG4.out⟩, ⟨blk_far HGe.out (p := ⟨g4, 0, none⟩) (blk_ne HGe.out BAe.out (by decide)) _⟩, ⟨blk_far BPe.out (p := ⟨g4, 0, none⟩) (blk_ne BPe.out BAe.out (by decide)) _⟩, ⟨blk_put BAe.out 0 _ rfl⟩⟩
  ·have ha0 := blk_cell BAr.out 0
   have ha1 := blk_cell BAr.out 1
   have ha2 := blk_cell BAr.out 2
   have ha3 := blk_cell BAr.out 3
   have hp0 := blk_cell BPr.out 0
   have hp1 := blk_cell BPr.out 1
   have hp2 := blk_cell BPr.out 2
   have hp3 := blk_cell BPr.out 3
   have hq0 := blk_frozen BPr.out 0
   have hq1 := blk_frozen BPr.out 1
   have hq2 := blk_frozen BPr.out 2
   have hq3 := blk_frozen BPr.out 3
   go_wp2
   refine bodyPost_ret (results_ct rfl _ _ g2 23 #[.int .i64 2, .int .i64 0, .int .i64 0, .int .i64 0] (0, 0) _ rfl (blk_put (cs := #[.int .i64 2, .int .i64 0, .int .i64 0, .int .i64 0]) (blk_put (cs := #[.int .i64 2, .int .i64 0, .int .i64 0, .int .i64 0]) (blk_put (cs := #[.int .i64 2, .int .i64 0, .int .i64 0, .int .i64 0]) (blk_put (cs := #[.int .i64 0, .int .i64 0, .int .i64 0, .int .i64 0]) BPr.out 0 _ rfl) 1 _ rfl) 2 _ rfl) 3 _ rfl) Tryz.underlying23 rfl (by kernel_rfl)) rfl ?_
   exact ⟨rfl, below_set (below_set (below_set (below_set HBr.out HG2.out) HG2.out) HG2.out) HG2.out⟩
end Go.Proofs.YtfdlbnfjohpdlaaGreatDoor.PPo
namespace Go.Proofs.YtfdlbnfjohpdlaaGreatDoor.PPo
open Go.RowKit Go.Proofs.YtfdlbnfjohpdlaaGreatDoor.Th Go.Proofs.YtfdlbnfjohpdlaaGreatDoorW.PrintWords Go.Proofs.YtfdlbnfjohpdlaaGreatDoorW.PrintLast Go.Proofs.YtfdlbnfjohpdlaaGreatDoorW.PrintMore
set_option linter.unusedVariables false
abbrev givesI (L : List Int) (w : World) (ex : Ending) (w' : World) : Prop := ∃ A c, ex = .returned (.slice A L.length c) ∧ L.length ≤ c ∧ Kd.C (Kd.int .i64) w' A L.length L ∧ Below w.heap.size w w'
theorem givesI_of {L : List Int} {w w' : World} {ex : Ending} (h : ∃ v, ex = .returned v ∧ Kd.R (Kd.int .i64) 3 w' w.heap.size (fun _ => True) v L ∧ Below w.heap.size w w') : givesI L w ex w' := by
 obtain ⟨v, rfl, h1, h2⟩ := h
 obtain ⟨A, c, rfl, h3, h4⟩ := Kd.R_reads h1
 exact ⟨A, c, rfl, h3, h4, h2⟩
theorem small_size {l : List Lk} (h : Small l) : ∀ x ∈ l, x.f2.size ≤ 9223372036854775807 := fun x hx => by have := (h x hx).1; omega
theorem keepC.calls (a b d e : Int) (A : Option Addr) (c : Nat) (l : List Lk) (live next now : Int) (w : World) (hr : Kd.C k31 w A l.length l) (hc : l.length ≤ c) (hs : Small l) (ht : TabsW w) :
  Calls Tryz.prog 13 #[.agg #[.int .i64 a, .int .i64 b, .int .i64 d, .int .i64 e], .agg #[.slice A l.length c, .int .i64 live, .int .i64 next, .int .u64 now]] w (givesI (keepV a b d e l live next) w) :=
 (keepR.calls a b d e A c l live next now w hr hc (small_size hs) (fun x hx => (hs x hx).2) ht).mono fun ex w' ⟨v, q1, _, q2, q3⟩ => givesI_of ⟨v, q1, q2, q3⟩
theorem dropsC.calls (a b d e : Int) (A : Option Addr) (c : Nat) (l : List Lk) (live next now : Int) (w : World) (hr : Kd.C k31 w A l.length l) (hc : l.length ≤ c) (hs : Small l) (ht : TabsW w) :
  Calls Tryz.prog 17 #[.agg #[.int .i64 a, .int .i64 b, .int .i64 d, .int .i64 e], .agg #[.slice A l.length c, .int .i64 live, .int .i64 next, .int .u64 now]] w (givesI (dropsV a b d e l live next) w) :=
 (dropsR.calls a b d e A c l live next now w hr hc (small_size hs) (fun x hx => (hs x hx).2) ht).mono fun ex w' q => givesI_of q
theorem mustC.calls (a b d e : Int) (w : World) : Calls Tryz.prog 15 #[.agg #[.int .i64 a, .int .i64 b, .int .i64 d, .int .i64 e]] w fun ex w' => ex = .returned (.agg #[.int .i64 a, .int .i64 b, .int .i64 d, .int .i64 e]) ∧ Below w.heap.size w w' := rootcellarlaw16_must.calls a b d e a b d e w rfl
theorem sameC.calls (L : List Int) (A : Option Addr) (c : Nat) (A' : Option Addr) (c' : Nat) (w : World) (hl : L.length ≤ 1000) (hr : Kd.C (Kd.int .i64) w A L.length L) (hc : L.length ≤ c) (hr' : Kd.C (Kd.int .i64) w A' L.length L) (hc' : L.length ≤ c') :
  Calls Tryz.prog 12 #[.slice A L.length c, .slice A' L.length c'] w fun ex w' => ex = .returned (.bool true) ∧ Below w.heap.size w w' := by
 obtain ⟨k, hk⟩ := (same_ev L L hl).get
 rw [decide_eq_true (rfl : L = L)] at hk
 exact (rootcellarlaw16_sameInts.calls k A c L A' c' L true w hr hc hr' hc' hk).mono fun ex w' q => ⟨q.1, q.2.below⟩
end Go.Proofs.YtfdlbnfjohpdlaaGreatDoor.PPo
namespace Go.Proofs.YtfdlbnfjohpdlaaGreatDoor.PPo
open Go.RowKit Go.Proofs.YtfdlbnfjohpdlaaGreatDoor.Th Go.Proofs.YtfdlbnfjohpdlaaGreatDoorW.PrintWords Go.Proofs.YtfdlbnfjohpdlaaGreatDoorW.PrintLast Go.Proofs.YtfdlbnfjohpdlaaGreatDoorW.PrintMore
attribute [local go_sem] max2_int min2_int max_two min_two max_three min_three max_four min_four
set_option linter.unusedVariables false
set_option linter.unusedSimpArgs false
theorem pol_put {W : World} {g : Nat} {z0 z1 z2 z3 : Value} (a0 a1 a2 a3 : Value) (h : W.heap[g]? = some (.cells #[z0, z1, z2, z3] 23 (0, 0))) :
  ((((W.setCell ⟨g, 0, none⟩ a0).setCell ⟨g, 1, none⟩ a1).setCell ⟨g, 2, none⟩ a2).setCell ⟨g, 3, none⟩ a3).heap[g]? = some (.cells #[a0, a1, a2, a3] 23 (0, 0)) :=
 blk_put (blk_put (blk_put (blk_put h 0 a0 rfl) 1 a1 rfl) 2 a2 rfl) 3 a3 rfl
theorem pol_below {w0 W : World} {g : Nat} (a0 a1 a2 a3 : Value) (hb : Below w0.heap.size w0 W) (hg : w0.heap.size ≤ g) :
  Below w0.heap.size w0 ((((W.setCell ⟨g, 0, none⟩ a0).setCell ⟨g, 1, none⟩ a1).setCell ⟨g, 2, none⟩ a2).setCell ⟨g, 3, none⟩ a3) :=
 below_set (below_set (below_set (below_set hb hg) hg) hg) hg
theorem nodes_C {W : World} {g : Nat} (h : W.heap[g]? = some (.cells #[.int .u64 432000, .bool false, .int .i64 0, .int .u64 432001, .bool false, .int .i64 0, .int .u64 604800, .bool false, .int .i64 0, .int .u64 777600, .bool false, .int .i64 0] 68 (0, 0))) : Kd.C k68 W (some ⟨g, 0, none⟩) 4 nodes4 := by
 have hc : ∀ q v, (#[.int .u64 432000, .bool false, .int .i64 0, .int .u64 432001, .bool false, .int .i64 0, .int .u64 604800, .bool false, .int .i64 0, .int .u64 777600, .bool false, .int .i64 0] : Array Value)[q]? = some v → W.cell? ((⟨g, 0, none⟩ : Addr).add q) = some v := fun q v hv => by
  rw [add_plain]
  exact (blk_cell h q).trans hv
 refine ⟨rfl, by decide, fun _ => ⟨_, rfl, fun j p hj => ?_⟩⟩
 have hj4 : j < 4 := by
  have := (List.getElem?_eq_some_iff.1 hj).1
  simpa [nodes4] using this
 have h5 : j = 0 ∨ j = 1 ∨ j = 2 ∨ j = 3 := by omega
 rcases h5 with rfl | rfl | rfl | rfl <;>
 ·obtain rfl := Option.some.inj hj
  refine ⟨_, rfl, k68_mk W _, fun q v hv => ?_⟩
  have hq : q < 3 := (List.getElem?_eq_some_iff.1 hv).1
  have h6 : q = 0 ∨ q = 1 ∨ q = 2 := by omega
  rcases h6 with rfl | rfl | rfl <;> exact hc _ _ hv
theorem ints_C {W : World} {g : Nat} {l : List Int} (h : W.heap[g]? = some (.cells (l.map (Value.int .i64)).toArray 3 (0, 0))) (hl : l.length ≤ 1000) : Kd.C (Kd.int .i64) W (some ⟨g, 0, none⟩) l.length l := by
 refine ⟨rfl, by omega, fun _ => ⟨_, rfl, fun j p hj => ⟨[.int .i64 p], rfl, rfl, fun q v hv => ?_⟩⟩⟩
 obtain ⟨hq, rfl⟩ := List.getElem?_eq_some_iff.1 hv
 have hq0 : q = 0 := by simpa using hq
 subst hq0
 obtain ⟨hjl, rfl⟩ := List.getElem?_eq_some_iff.1 hj
 rw [add_plain]
 refine (blk_cell h _).trans ?_
 show (l.map (Value.int .i64)).toArray[j * 1 + 0]? = _
 simp [hjl]
set_option maxHeartbeats 8000000 in
set_option maxRecDepth 100000 in
theorem shownR.calls (w : World) (ht : TabsW w) (hm : MaxW w) : Calls Tryz.prog 10 #[] w fun e w' => e = .returned (.bool true) ∧ Below w.heap.size w w' := by
 have hu := Tryz.underlying23
 have hu2 := Tryz.underlying28
 have hu3 := Tryz.underlying68
 have hu4 := Tryz.underlying56
 have HB := Aside0.mk (Below.refl w.heap.size w)
 have HPA := Aside0.mk (parse2.calls w hm)
 have HGR := Aside0.mk (show ∀ (W : World) (g : Nat), W.heap[g]? = some (.cells #[.int .u64 432000, .bool false, .int .i64 0, .int .u64 432001, .bool false, .int .i64 0, .int .u64 604800, .bool false, .int .i64 0, .int .u64 777600, .bool false, .int .i64 0] 68 (0, 0)) → Calls Tryz.prog 11 #[.slice (some ⟨g, 0, none⟩) 4 4, .int .i64 0] W fun e w' => ∃ A c, e = .returned (.agg #[.slice A 5 c, .int .i64 1, .int .i64 6, .int .u64 0]) ∧ 5 ≤ c ∧ Kd.C k31 w' A 5 links5 ∧ Below W.heap.size W w' from fun W g hg => by
  refine (rootcellarlaw16_grown.calls 9 _ 4 nodes4 0 links5 1 6 0 W (nodes_C hg) (by decide) grown4).mono ?_
  rintro e w' ⟨v, rfl, h1, h2⟩
  obtain ⟨A, c, rfl, h3, h4⟩ := Kd.R_reads h1
  exact ⟨A, c, rfl, h3, h4, h2⟩)
 have hsm : Small links5 := by unfold Small links5 Tm; decide +kernel
 have HKE := Aside0.mk (show ∀ (W : World) (A : Option Addr) (c : Nat), Below w.heap.size w W → 5 ≤ c → Kd.C k31 W A 5 links5 → Calls Tryz.prog 13 #[.agg #[.int .i64 2, .int .i64 0, .int .i64 0, .int .i64 0], .agg #[.slice A 5 c, .int .i64 1, .int .i64 6, .int .u64 0]] W fun e w' => ∃ A c, e = .returned (.slice A 3 c) ∧ 3 ≤ c ∧ Kd.C (Kd.int .i64) w' A 3 [1, 4, 5] ∧ Below W.heap.size W w' from fun W A c hW h1 h2 => by
  have h := keepC.calls 2 0 0 0 A c links5 1 6 0 W h2 h1 hsm (ht.below hW)
  unfold givesI at h
  rw [keep4] at h
  exact h)
 have HDE := Aside0.mk (show ∀ (W : World) (A : Option Addr) (c : Nat), Below w.heap.size w W → 5 ≤ c → Kd.C k31 W A 5 links5 → Calls Tryz.prog 17 #[.agg #[.int .i64 2, .int .i64 0, .int .i64 0, .int .i64 0], .agg #[.slice A 5 c, .int .i64 1, .int .i64 6, .int .u64 0]] W fun e w' => ∃ A c, e = .returned (.slice A 2 c) ∧ 2 ≤ c ∧ Kd.C (Kd.int .i64) w' A 2 [2, 3] ∧ Below W.heap.size W w' from fun W A c hW h1 h2 => by
  have h := dropsC.calls 2 0 0 0 A c links5 1 6 0 W h2 h1 hsm (ht.below hW)
  unfold givesI at h
  rw [drops4] at h
  exact h)
 have HS3 := Aside0.mk (fun (W : World) (A : Option Addr) (c g : Nat) (h1 : 3 ≤ c) (h2 : Kd.C (Kd.int .i64) W A 3 [1, 4, 5]) (h3 : W.heap[g]? = some (.cells #[.int .i64 1, .int .i64 4, .int .i64 5] 3 (0, 0))) => sameC.calls [1, 4, 5] A c (some ⟨g, 0, none⟩) 3 W (by decide) h2 h1 (ints_C (l := [1, 4, 5]) h3 (by decide)) (by decide))
 have HS2 := Aside0.mk (fun (W : World) (A : Option Addr) (c g : Nat) (h1 : 2 ≤ c) (h2 : Kd.C (Kd.int .i64) W A 2 [2, 3]) (h3 : W.heap[g]? = some (.cells #[.int .i64 2, .int .i64 3] 3 (0, 0))) => sameC.calls [2, 3] A c (some ⟨g, 0, none⟩) 2 W (by decide) h2 h1 (ints_C (l := [2, 3]) h3 (by decide)) (by decide))
 clear ht hm hsm
 go_enter Tryz.func10, Tryz.ntmps10
 go_upto_region 3 with (first
  | (go_at_call 28; go_loud (refine HPA.out.mono ?_; rintro e w5 ⟨rfl, q1⟩; have HB5 := Aside0.mk q1; clear q1))
  | ((with_reducible refine gate_dst (N := 1) rfl ?_); refine box_event ?hg (N := 1) ?hd (cs := #[.int .i64 0, .int .i64 0, .int .i64 0, .int .i64 0]) (t := 23) ?hr ?_; (case hd => rfl); (case hg => rfl); (case hr => first | (go_simp; done) | (go_simp; rfl)); intro g1 hg1 wa1 hbox hb; have HX1 := Aside0.mk hb; have BZ1 := Aside0.mk hbox; have HG1 := Aside0.mk (Nat.le_of_eq hg1.symm); clear hg1 hb hbox; have hc1_0 := blk_cell BZ1.out 0; have hf1_0 := blk_frozen BZ1.out 0; have hc1_1 := blk_cell BZ1.out 1; have hf1_1 := blk_frozen BZ1.out 1; have hc1_2 := blk_cell BZ1.out 2; have hf1_2 := blk_frozen BZ1.out 2; have hc1_3 := blk_cell BZ1.out 3; have hf1_3 := blk_frozen BZ1.out 3)
  | ((with_reducible refine gate_store (t := 23) (p := 1) rfl ?_); refine store_event (t := 23) (p := 1) (v := .tmp 6) (w1 := ((((wa1.setCell ⟨g1, 0, none⟩ (.int .i64 2)).setCell ⟨g1, 1, none⟩ (.int .i64 0)).setCell ⟨g1, 2, none⟩ (.int .i64 0)).setCell ⟨g1, 3, none⟩ (.int .i64 0))) rfl rfl rfl ?hr ?_; (case hr => first | (go_simp; done) | (go_simp; rfl)); intro w1 hw1; have q1 := pol_put (.int .i64 2) (.int .i64 0) (.int .i64 0) (.int .i64 0) BZ1.out; have q2 := pol_below (.int .i64 2) (.int .i64 0) (.int .i64 0) (.int .i64 0) HX1.out HG1.out; rw [← hw1] at q1 q2; clear hw1; have BK1 := Aside0.mk q1; have HY1 := Aside0.mk q2; have HB1 := Aside0.mk (below_step HB5.out q2); clear hc1_0 hf1_0 hc1_1 hf1_1 hc1_2 hf1_2 hc1_3 hf1_3 q1 q2; have hd1_0 := blk_cell BK1.out 0; have hd1_1 := blk_cell BK1.out 1; have hd1_2 := blk_cell BK1.out 2; have hd1_3 := blk_cell BK1.out 3)
  | (go_at_call 11; go_loud (refine (HGR.out _ _ (blk_new w1 _)).mono ?_; rintro e wg ⟨Ag, cg, rfl, q1, q2, q3⟩; have HBg := Aside0.mk (below_step (below_alloc HB1.out _) q3); have BPg := Aside0.mk (blk_below (blk_alloc BK1.out _) q3); have HCg := Aside0.mk (And.intro q1 q2); clear q1 q2 q3 hd1_0 hd1_1 hd1_2 hd1_3))
  | ((with_reducible refine gate_dst (N := 3) rfl ?_); refine box_event ?hg (N := 3) ?hd (cs := #[.slice none 0 0, .int .i64 0, .int .i64 0, .int .u64 0]) (t := 28) ?hr ?_; (case hd => rfl); (case hg => rfl); (case hr => first | (go_simp; done) | (go_simp; rfl)); intro g3 hg3 wa3 hbox hb; have HX3 := Aside0.mk hb; have BZ3 := Aside0.mk hbox; have HG3 := Aside0.mk (Nat.le_of_eq hg3.symm); clear hg3 hb hbox; have hc3_0 := blk_cell BZ3.out 0; have hf3_0 := blk_frozen BZ3.out 0; have hc3_1 := blk_cell BZ3.out 1; have hf3_1 := blk_frozen BZ3.out 1; have hc3_2 := blk_cell BZ3.out 2; have hf3_2 := blk_frozen BZ3.out 2; have hc3_3 := blk_cell BZ3.out 3; have hf3_3 := blk_frozen BZ3.out 3)
  | ((with_reducible refine gate_store (t := 28) (p := 3) rfl ?_); refine store_event (t := 28) (p := 3) (v := .tmp 13) (w1 := ((((wa3.setCell ⟨g3, 0, none⟩ (.slice Ag 5 cg)).setCell ⟨g3, 1, none⟩ (.int .i64 1)).setCell ⟨g3, 2, none⟩ (.int .i64 6)).setCell ⟨g3, 3, none⟩ (.int .u64 0))) rfl rfl rfl ?hr ?_; (case hr => first | (go_simp; done) | (go_simp; rfl)); intro w3 hw3; have q1 := tree_put (.slice Ag 5 cg) (.int .i64 1) (.int .i64 6) (.int .u64 0) BZ3.out; have q2 := tree_below (.slice Ag 5 cg) (.int .i64 1) (.int .i64 6) (.int .u64 0) HX3.out HG3.out; rw [← hw3] at q1 q2; clear hw3; have BK3 := Aside0.mk q1; have HY3 := Aside0.mk q2; have HB3 := Aside0.mk (below_step HBg.out q2); have BP3 := Aside0.mk (blk_below BPg.out q2); clear hc3_0 hf3_0 hc3_1 hf3_1 hc3_2 hf3_2 hc3_3 hf3_3 q1 q2; have hd3_0 := blk_cell BK3.out 0; have hd3_1 := blk_cell BK3.out 1; have hd3_2 := blk_cell BK3.out 2; have hd3_3 := blk_cell BK3.out 3; have hp0 := blk_cell BP3.out 0; have hp1 := blk_cell BP3.out 1; have hp2 := blk_cell BP3.out 2; have hp3 := blk_cell BP3.out 3; have HC3 := Aside0.mk (Kd.C_below HCg.out.2 HY3.out)))
 go_wp2_with (first
  | (go_at_call 13; go_loud (refine (HKE.out _ Ag cg HB3.out HCg.out.1 HC3.out).mono ?_; rintro e wk ⟨Ak, ck, rfl, q1, q2, q3⟩; have HBk := Aside0.mk (below_step HB3.out q3); have HCk := Aside0.mk (And.intro q1 q2); have BPk := Aside0.mk (blk_below BP3.out q3); have BTk := Aside0.mk (blk_below BK3.out q3); have HCt := Aside0.mk (Kd.C_below HC3.out q3); clear q1 q2 q3))
  | (go_at_call 12; (with_reducible show Calls _ _ #[.slice Ak 3 ck, _] _ _); refine (HS3.out _ Ak ck wk.heap.size HCk.out.1 (Kd.C_alloc HCk.out.2 _) (blk_new wk _)).mono ?_; rintro e ws ⟨rfl, q1⟩; have q2 := below_step (below_alloc (Below.refl wk.heap.size wk) _) q1; have HBs := Aside0.mk (below_step HBk.out q2); have BPs := Aside0.mk (blk_below BPk.out q2); have BTs := Aside0.mk (blk_below BTk.out q2); have HCs := Aside0.mk (Kd.C_below HCt.out q2); clear q1 q2 hp0 hp1 hp2 hp3 hd3_0 hd3_1 hd3_2 hd3_3; have hp0 := blk_cell BPs.out 0; have hp1 := blk_cell BPs.out 1; have hp2 := blk_cell BPs.out 2; have hp3 := blk_cell BPs.out 3; have hv0 := blk_cell BTs.out 0; have hv1 := blk_cell BTs.out 1; have hv2 := blk_cell BTs.out 2; have hv3 := blk_cell BTs.out 3)
  | (go_at_call 17; go_loud (refine (HDE.out _ Ag cg HBs.out HCg.out.1 HCs.out).mono ?_; rintro e wd ⟨Ad, cd, rfl, q1, q2, q3⟩; have HBd := Aside0.mk (below_step HBs.out q3); have HCd := Aside0.mk (And.intro q1 q2); clear q1 q2 q3))
  | (go_at_call 12; (with_reducible show Calls _ _ #[.slice Ad 2 cd, _] _ _); refine (HS2.out _ Ad cd wd.heap.size HCd.out.1 (Kd.C_alloc HCd.out.2 _) (blk_new wd _)).mono ?_; rintro e we ⟨rfl, q1⟩; have HBe := Aside0.mk (below_step (below_alloc HBd.out _) q1); clear q1))
 go_ret
 exact ⟨rfl, HBe.out⟩
end Go.Proofs.YtfdlbnfjohpdlaaGreatDoor.PPo
namespace Go.Proofs.YtfdlbnfjohpdlaaGreatDoor.Th
open Go.RowKit Go.Proofs.YtfdlbnfjohpdlaaGreatDoor.PPo Go.Proofs.YtfdlbnfjohpdlaaGreatDoorW.PrintWords
set_option linter.unusedVariables false
def lowc (c : UInt8) : UInt8 := if 65 ≤ c.toNat ∧ c.toNat ≤ 90 then UInt8.ofNat (c.toNat + 32) else c
theorem or32 (x : Nat) (h1 : 65 ≤ x) (h2 : x ≤ 90) : bits .or .u8 (x : Int) 32 = ((x + 32 : Nat) : Int) := by
 have h : ∀ d : Fin 26, bits .or .u8 ((65 + d.val : Nat) : Int) 32 = ((65 + d.val + 32 : Nat) : Int) := by decide +kernel
 have := h ⟨x - 65, by omega⟩
 simp only at this
 rw [show 65 + (x - 65) = x by omega] at this
 exact this
theorem fold_set {l : List UInt8} {i : Nat} (h : i < l.length) : ((l.take i).map lowc ++ l.drop i).set i (lowc l[i]) = (l.take (i + 1)).map lowc ++ l.drop (i + 1) := by
 rw [List.drop_eq_getElem_cons h, List.take_succ_eq_append_getElem h, List.map_append]
 have hl : ((l.take i).map lowc).length = i := by rw [List.length_map, List.length_take]; omega
 rw [List.set_append_right _ _ (by omega), hl, Nat.sub_self, List.set_cons_zero]
 simp
theorem fold_get {l : List UInt8} {i : Nat} (h : i < l.length) : ((l.take i).map lowc ++ l.drop i).getD i 0 = l[i] := by
 have hl : ((l.take i).map lowc).length = i := by rw [List.length_map, List.length_take]; omega
 rw [List.getD_eq_getElem?_getD, List.getElem?_append_right (by omega), hl, Nat.sub_self, List.drop_eq_getElem_cons h]
 rfl
theorem fold_len (l : List UInt8) (i : Nat) : ((l.take i).map lowc ++ l.drop i).length = l.length := by
 rw [List.length_append, List.length_map, List.length_take, List.length_drop]
 omega
end Go.Proofs.YtfdlbnfjohpdlaaGreatDoor.Th
namespace Go.Proofs.YtfdlbnfjohpdlaaGreatDoor.PPo
open Go.RowKit Go.Proofs.YtfdlbnfjohpdlaaGreatDoor.Th Go.Proofs.YtfdlbnfjohpdlaaGreatDoorW.PrintWords Go.Proofs.YtfdlbnfjohpdlaaGreatDoorW.PrintLast Go.Proofs.YtfdlbnfjohpdlaaGreatDoorW.PrintMore
attribute [local go_sem] max2_int min2_int max_two min_two max_three min_three max_four min_four
set_option linter.unusedVariables false
set_option linter.unusedSimpArgs false
def BLK (W : World) (b : Nat) (l : List UInt8) : Prop := ∃ cs t sz, W.heap[b]? = some (.cells cs t (sz, sz + 1)) ∧ l.length ≤ sz ∧ ∀ j, j < l.length → cs[j]? = some (.int .u8 (l.getD j 0).toNat)
theorem BLK.cell {W : World} {b : Nat} {l : List UInt8} (h : BLK W b l) (j : Nat) (hj : j < l.length) : W.cell? ⟨b, j, none⟩ = some (.int .u8 (l.getD j 0).toNat) := by
 obtain ⟨cs, t, sz, h1, h2, h3⟩ := h
 exact (cell_of_row W b j cs t (sz, sz + 1) h1).trans (h3 j hj)
theorem BLK.frozen {W : World} {b : Nat} {l : List UInt8} (h : BLK W b l) (j : Nat) (hj : j < l.length) : W.frozen? ⟨b, j, none⟩ = false := by
 obtain ⟨cs, t, sz, h1, h2, h3⟩ := h
 simp [World.frozen?, h1]
 omega
theorem BLK.set {W : World} {b : Nat} {l : List UInt8} (h : BLK W b l) (i : Nat) (x : Nat) (hx : x < 256) : BLK (W.setCell ⟨b, i, none⟩ (.int .u8 (x : Int))) b (l.set i (UInt8.ofNat x)) := by
 obtain ⟨cs, t, sz, h1, h2, h3⟩ := h
 refine ⟨cs.setIfInBounds i (.int .u8 (x : Int)), t, sz, by simp [World.setCell, Array.getElem?_modify, h1], by rw [List.length_set]; exact h2, fun j hj => ?_⟩
 rw [List.length_set] at hj
 have hjc := h3 j hj
 rw [Array.getElem?_setIfInBounds, List.getD_eq_getElem?_getD, List.getElem?_set]
 by_cases e : i = j
 ·subst e
  have hlt := (Array.getElem?_eq_some_iff.1 hjc).1
  rw [if_pos rfl, if_pos hlt, if_pos rfl, if_pos hj]
  have : (UInt8.ofNat x).toNat = x := by rw [UInt8.toNat_ofNat']; exact Nat.mod_eq_of_lt hx
  simp [this]
 ·rw [if_neg e, if_neg e, ← List.getD_eq_getElem?_getD]
  exact hjc
theorem BLK.new (W : World) (e : TypeId) (s : ByteArray) : BLK (Lib.bytesWorld W e s) W.heap.size s.data.toList := by
 refine ⟨_, _, _, Lib.bytesWorld_at_new W e s, ?_, fun j hj => ?_⟩
 ·unfold Lib.bytesCells
  simp
 ·have h1 := Lib.bytesWorld_cell W e s j (by rw [Lib.size_eq]; exact hj)
  rw [← h1]
  exact (cell_of_row _ _ _ _ _ _ (Lib.bytesWorld_at_new W e s)).symm
theorem BLK.bytes {W : World} {b : Nat} {l : List UInt8} (h : BLK W b l) : Lib.Bytes W b 0 ⟨l.toArray⟩ := fun i hi => by
 have hi' : i < l.length := by simpa [ByteArray.size] using hi
 rw [Nat.zero_add, h.cell i hi', List.getD_eq_getElem?_getD, List.getElem?_eq_getElem hi']
 rfl
set_option maxHeartbeats 2000000 in
set_option maxRecDepth 100000 in
theorem fold.calls (l : List UInt8) (hs : l.length ≤ 1000) (w : World) : Calls Tryz.prog 49 #[.string (B l)] w fun e w' => e = .returned (.string (B (l.map lowc))) ∧ Below w.heap.size w w' := by
 have hsz : (B l).size = l.length := B_size l
 have kb := print_bytes (P := Tryz.prog) 9 114 5 Tryz.underlying9 Tryz.underlying114 Tryz.underlying5 (B l) w
 have HB0 := Aside0.mk (bytes_below (Below.refl w.heap.size w) (Nat.le_refl _) 5 (B l))
 have hbk := BLK.new w 5 (B l)
 rw [B_data] at hbk
 have HBK := Aside0.mk hbk
 rw [hsz] at kb
 generalize grownCap w l.length 0 5 = cap at kb
 clear hbk
 go_enter Tryz.func49, Tryz.ntmps49
 go_wp2
 generalize hwb : Lib.bytesWorld w 5 (B l) = wb at HBK HB0 ⊢
 clear hwb kb
 go_loopg [10] l.length (fun gg s10 wr => ∃ i : Nat, s10 = .int .i64 i ∧ i ≤ l.length ∧ l.length - i ≤ gg ∧ Aside0 (Below w.heap.size w wr) ∧ Aside0 (BLK wr w.heap.size ((l.take i).map lowc ++ l.drop i)))
 case atStart => exact ⟨0, rfl, Nat.zero_le _, by omega, HB0, HBK⟩
 case round =>
  clear HBK HB0
  obtain ⟨i, rfl, hi, hg, HBr, HKr⟩ := hrel
  by_cases hlt : i < l.length
  ·have hltz : decide ((i : Int) < (l.length : Int)) = true := decide_eq_true (by omega)
   have hi0 : (0 : Int) ≤ (i : Int) := by omega
   have hi1 : (i : Int) < (l.length : Int) := by omega
   have hx := HKr.out.cell i (by rw [fold_len]; exact hlt)
   have hf := HKr.out.frozen i (by rw [fold_len]; exact hlt)
   rw [fold_get hlt] at hx
   have HST := Aside0.mk (fold_set hlt)
   have HSE := Aside0.mk (fun (x : Nat) (h : x < 256) => HKr.out.set i x h)
   have hb := l[i].toNat_lt
   have HX := Aside0.mk (show ¬ (65 ≤ l[i].toNat ∧ l[i].toNat ≤ 90) → (l.take (i + 1)).map lowc ++ l.drop (i + 1) = (l.take i).map lowc ++ l.drop i from fun h => by
    rw [List.take_succ_eq_append_getElem hlt, List.map_append, List.drop_eq_getElem_cons hlt (l := l)]
    have : lowc l[i] = l[i] := if_neg h
    simp [this])
   have HY := Aside0.mk (show 65 ≤ l[i].toNat → l[i].toNat ≤ 90 → lowc l[i] = UInt8.ofNat (l[i].toNat + 32) from fun h1 h2 => if_pos ⟨h1, h2⟩)
   generalize lowc l[i] = cl at HST HY
   generalize l[i].toNat = x at hx HX HY hb
   cases h65 : decide (65 ≤ x) with
   | false =>
    have HZ := Aside0.mk (HX.out (fun h => by have := of_decide_eq_false h65; omega))
    have h65z : decide ((65 : Int) ≤ (x : Int)) = false := decide_eq_false (by have := of_decide_eq_false h65; omega)
    clear h65
    go_wp2
    go_roundg (l.length - (i + 1))
    case measure => omega
    case rel => exact ⟨i + 1, by go_num, by omega, by omega, HBr, ⟨by rw [HZ.out]; exact HKr.out⟩⟩
   | true =>
    have h65z : decide ((65 : Int) ≤ (x : Int)) = true := decide_eq_true (by have := of_decide_eq_true h65; omega)
    cases h90 : decide (x ≤ 90) with
    | false =>
     have HZ := Aside0.mk (HX.out (fun h => by have := of_decide_eq_false h90; omega))
     have h90z : decide ((x : Int) ≤ 90) = false := decide_eq_false (by have := of_decide_eq_false h90; omega)
     clear h65 h90
     go_wp2
     go_roundg (l.length - (i + 1))
     case measure => omega
     case rel => exact ⟨i + 1, by go_num, by omega, by omega, HBr, ⟨by rw [HZ.out]; exact HKr.out⟩⟩
    | true =>
     have hor := or32 x (of_decide_eq_true h65) (of_decide_eq_true h90)
     have h90z : decide ((x : Int) ≤ 90) = true := decide_eq_true (by have := of_decide_eq_true h90; omega)
     have HZ := Aside0.mk (show BLK (wr.setCell ⟨w.heap.size, i, none⟩ (.int .u8 ((x + 32 : Nat) : Int))) w.heap.size ((l.take (i + 1)).map lowc ++ l.drop (i + 1)) from by
      rw [← HST.out, HY.out (of_decide_eq_true h65) (of_decide_eq_true h90)]
      exact HSE.out (x + 32) (by have := of_decide_eq_true h90; omega))
     generalize ((x + 32 : Nat) : Int) = y at hor HZ
     clear h65 h90
     go_wp2
     go_roundg (l.length - (i + 1))
     case measure => omega
     case rel => exact ⟨i + 1, by go_num, by omega, by omega, ⟨below_set HBr.out (Nat.le_refl _)⟩, HZ⟩
  ·have hltz : decide ((i : Int) < (l.length : Int)) = false := decide_eq_false (by omega)
   have HE := Aside0.mk (show (l.take i).map lowc ++ l.drop i = l.map lowc by rw [List.take_of_length_le (by omega), List.drop_of_length_le (by omega), List.append_nil])
   have hcv : (convert 114 9 (.slice (some ⟨w.heap.size, 0, none⟩) l.length cap)).run Tryz.prog wr = .ok (.string (B (l.map lowc))) wr := by
    have hby := HKr.out.bytes
    rw [HE.out] at hby
    have h := Lib.run_convert_whole (P := Tryz.prog) wr 114 5 9 Tryz.underlying114 Tryz.underlying5 Tryz.underlying9 w.heap.size 0 _ hby cap
    rw [show (⟨(l.map lowc).toArray⟩ : ByteArray).size = l.length by simp [ByteArray.size]] at h
    exact h
   go_wp2
   go_ret
   exact ⟨rfl, HBr.out⟩
theorem first.calls (l : List UInt8) (hl : 0 < l.length) (hs : l.length ≤ 1000) (w : World) : Calls Tryz.prog 50 #[.string (B l), .int .i64 1] w fun e w' => e = .returned (.string (B (l.take (dec l).2))) ∧ Below w.heap.size w w' := by
 have hd : Utf8.decode (B l) 0 = dec l := by rw [decode_dec, B_data, List.drop_zero]
 have hw := dec_width l hl
 have h := first1.calls (B l) (by rw [B_size]; exact hl) (by rw [hd, B_size]; exact hw) (by rw [B_size]; exact hs) w
 unfold first1 at h
 rw [hd, B_upto] at h
 exact h
def PowW (w : World) : Prop := Lib.TabIs Tryz.prog w "internal/strconv.uint64pow10" .u64 Lib.pow10Tab
theorem PowW.below {w w' : World} (h : PowW w) (hb : Below w.heap.size w w') : PowW w' := by
 unfold PowW Lib.TabIs World.var? at h ⊢
 cases hg : Tryz.prog.globalNamed "internal/strconv.uint64pow10" with
 | none => rw [hg] at h; cases h
 | some g =>
  rw [hg] at h
  simp only [Option.bind_some] at h ⊢
  have hlt : g < w.heap.size := by
   rcases Nat.lt_or_ge g w.heap.size with h' | h'
   ·exact h'
   ·rw [Array.getElem?_eq_none h'] at h; cases h
  rw [hb.block g hlt]
  exact h
theorem itoa.calls (n : Nat) (hn : n ≤ 100000) (w : World) (hp : PowW w) : Calls Tryz.prog 58 #[.int .i64 (n : Int)] w fun e w' => e = .returned (.string (B (Lib.decDigits n))) ∧ Below w.heap.size w w' := by
 refine (Any.strconv_Itoa { Tryz.layItoa with } (n : Int) (by omega) (by omega) w hp).mono ?_
 rw [show Lib.itoa (n : Int) = Lib.decDigits n by unfold Lib.itoa; rw [if_neg (by omega)]; simp]
 rintro e w' ⟨rfl, k, os, rfl⟩
 exact ⟨rfl, Lib.below_grow _ w (Nat.le_refl _) k os⟩
end Go.Proofs.YtfdlbnfjohpdlaaGreatDoor.PPo
namespace Go.Proofs.YtfdlbnfjohpdlaaGreatDoor.Th
open Go.RowKit Go.Proofs.YtfdlbnfjohpdlaaGreatDoor.PPo Go.Proofs.YtfdlbnfjohpdlaaGreatDoorW.PrintWords
set_option linter.unusedVariables false
def isDig (c : UInt8) : Bool := decide (48 ≤ c.toNat ∧ c.toNat ≤ 57)
def val (l : List UInt8) : Nat := l.foldl (fun a c => 10 * a + (c.toNat - 48)) 0
def numOf (l : List UInt8) : Int := if l.all isDig = true ∧ val l ≤ 1000 ∧ l = Lib.decDigits (val l) then (val l : Int) else -1
theorem val_snoc (l : List UInt8) (c : UInt8) : val (l ++ [c]) = 10 * val l + (c.toNat - 48) := by unfold val; rw [List.foldl_append]; rfl
theorem val_from : ∀ (l : List UInt8) (a : Nat), a ≤ l.foldl (fun a c => 10 * a + (c.toNat - 48)) a
 | [], a => Nat.le_refl _
 | c :: l, a => by
  have := val_from l (10 * a + (c.toNat - 48))
  rw [List.foldl_cons]
  omega
theorem val_mono (a b : List UInt8) : val a ≤ val (a ++ b) := by unfold val; rw [List.foldl_append]; exact val_from b _
theorem dec_dig {l : List UInt8} (h : 0 < l.length) : (48 ≤ (dec l).1 ∧ (dec l).1 ≤ 57) → isDig l[0] = true ∧ dec l = (l[0].toNat, 1) := by
 intro ⟨h1, h2⟩
 rcases dec_cases l with ⟨_, e⟩ | ⟨_, e⟩ | ⟨h3, _⟩
 ·rw [e] at h1 h2
  rw [g8_get l 0 h] at e h1 h2
  exact ⟨decide_eq_true ⟨h1, h2⟩, e⟩
 ·rw [e] at h2
  simp only at h2
  omega
 ·omega
theorem dec_undig {l : List UInt8} (h : 0 < l.length) (hn : ¬ (48 ≤ (dec l).1 ∧ (dec l).1 ≤ 57)) : isDig l[0] = false := by
 refine decide_eq_false fun ⟨h1, h2⟩ => hn ?_
 rw [← g8_get l 0 h] at h1 h2
 rcases dec_cases l with ⟨_, e⟩ | ⟨h3, _⟩ | ⟨_, h4, _, h5⟩
 ·rw [e]; exact ⟨h1, h2⟩
 ·omega
 ·have := h5 0 (by omega); omega
theorem num_bad {l : List UInt8} {i : Nat} (hi : i < l.length) (h : isDig l[i] = false) : numOf l = -1 := by
 refine if_neg fun ⟨h1, _⟩ => ?_
 have := List.all_eq_true.1 h1 _ (List.getElem_mem hi)
 rw [h] at this
 cases this
theorem num_great {l : List UInt8} {i : Nat} (h : 1000 < val (l.take i)) : numOf l = -1 := by
 refine if_neg fun ⟨_, h1, _⟩ => ?_
 have := val_mono (l.take i) (l.drop i)
 rw [List.take_append_drop] at this
 omega
end Go.Proofs.YtfdlbnfjohpdlaaGreatDoor.Th
namespace Go.Proofs.YtfdlbnfjohpdlaaGreatDoor.PPo
open Go.RowKit Go.Proofs.YtfdlbnfjohpdlaaGreatDoor.Th Go.Proofs.YtfdlbnfjohpdlaaGreatDoorW.PrintWords Go.Proofs.YtfdlbnfjohpdlaaGreatDoorW.PrintLast Go.Proofs.YtfdlbnfjohpdlaaGreatDoorW.PrintMore
attribute [local go_sem] max2_int min2_int max_two min_two max_three min_three max_four min_four
set_option linter.unusedVariables false
set_option linter.unusedSimpArgs false
set_option maxHeartbeats 2000000 in
set_option maxRecDepth 100000 in
theorem count.calls (l : List UInt8) (hs : l.length ≤ 1000) (w : World) (hpw : PowW w) : Calls Tryz.prog 52 #[.string (B l)] w fun e w' => ∃ (n : Int) (b : Bool), e = .returned (.tuple #[.int .i64 n, .bool b]) ∧ Below w.heap.size w w' ∧ (b = true → numOf l = n ∧ 0 ≤ n) ∧ (b = false → numOf l = -1) := by
 have hsz : (B l).size = l.length := B_size l
 have HD := Aside0.mk (fun pos => show Utf8.decode (B l) pos = dec (l.drop pos) by rw [decode_dec, B_data])
 have HIT := Aside0.mk (fun (n : Nat) (hn : n ≤ 100000) (W : World) (hW : Below w.heap.size w W) => itoa.calls n hn W (hpw.below hW))
 have HTL := Aside0.mk (B_toList l)
 have HS := Aside0.mk hsz
 clear hpw
 generalize B l = s at HD HTL HS hsz ⊢
 go_enter Tryz.func52, Tryz.ntmps52
 go_wp2
 go_loopw [4] (fun s4 wr => ∃ (pos n : Nat), s4 = .int .i64 n ∧ wr.heap[w.heap.size]? = some (.stringIter s pos) ∧ Aside0 (Below w.heap.size w wr) ∧ pos ≤ l.length ∧ n ≤ 20000 ∧ Aside0 ((l.take pos).all isDig = true ∧ n = val (l.take pos))) (fun _ wr => s.size - wr.iterPos w.heap.size)
 case atStart => exact ⟨0, 0, rfl, World.iter_heap w s 0, ⟨(Below.refl _ w).alloc (Nat.le_refl _) _⟩, Nat.zero_le _, by omega, ⟨rfl, rfl⟩⟩
 case round =>
  obtain ⟨pos, n, rfl, hit, hbw, hpl, hn2, HV⟩ := hrel
  by_cases hlt : pos < l.length
  ·have hnx := fun ty => Lib.run_next_any_at (P := Tryz.prog) wr w.heap.size s pos ty hit (by omega)
   have hit2 := Lib.iterAt_heap wr w.heap.size s pos (pos + (Utf8.decode s pos).2) hit
   have hbw2 := Aside0.mk (Lib.below_iterAt hbw.out (k := w.heap.size) (Nat.le_refl _) s (pos + (Utf8.decode s pos).2))
   obtain ⟨r, wd, hrw⟩ : ∃ r wd, dec (l.drop pos) = (r, wd) := ⟨_, _, rfl⟩
   have hdc := (HD.out pos).trans hrw
   simp only [hdc] at hnx hit2 hbw2
   have hdl : 0 < (l.drop pos).length := by rw [List.length_drop]; omega
   have hg0 : (l.drop pos)[0] = l[pos] := by rw [List.getElem_drop]; rfl
   have hdig := dec_dig hdl
   have hund := dec_undig hdl
   rw [hrw, hg0] at hdig hund
   simp only at hdig hund
   have HI2 := Aside0.mk hit2
   clear hdc hrw hdl hg0 hit2
   by_cases h48 : r < 48
   ·have hz : decide ((r : Int) < 48) = true := decide_eq_true (by omega)
    have HNB := Aside0.mk (num_bad hlt (hund (by omega)))
    clear hdig hund h48 HI2
    go_wp2
    refine bodyPost_ret (results_tmp2 rfl _ _ _) rfl ?_
    exact ⟨_, _, rfl, hbw2.out, fun h => by simp at h, fun _ => HNB.out⟩
   ·have hz : decide ((r : Int) < 48) = false := decide_eq_false (by omega)
    by_cases h57 : 57 < r
    ·have hz2 : decide ((57 : Int) < (r : Int)) = true := decide_eq_true (by omega)
     have HNB := Aside0.mk (num_bad hlt (hund (by omega)))
     clear hdig hund h48 h57 HI2
     go_wp2
     refine bodyPost_ret (results_tmp2 rfl _ _ _) rfl ?_
     exact ⟨_, _, rfl, hbw2.out, fun h => by simp at h, fun _ => HNB.out⟩
    ·have hz2 : decide ((57 : Int) < (r : Int)) = false := decide_eq_false (by omega)
     by_cases h1000 : 1000 < n
     ·have hz3 : decide ((1000 : Int) < (n : Int)) = true := decide_eq_true (by omega)
      have HNB := Aside0.mk (num_great (l := l) (i := pos) (by rw [← HV.out.2]; exact h1000))
      clear hdig hund h48 h57 HI2 h1000
      go_wp2
      refine bodyPost_ret (results_tmp2 rfl _ _ _) rfl ?_
      exact ⟨_, _, rfl, hbw2.out, fun h => by simp at h, fun _ => HNB.out⟩
     ·have hz3 : decide ((1000 : Int) < (n : Int)) = false := decide_eq_false (by omega)
      obtain ⟨hd1, hd2⟩ := hdig ⟨by omega, by omega⟩
      injection hd2 with hd2 hd3
      subst hd3
      have HNX := Aside0.mk (show (l.take (pos + 1)).all isDig = true ∧ 10 * n + (r - 48) = val (l.take (pos + 1)) from by
       rw [List.take_succ_eq_append_getElem hlt, List.all_append, val_snoc, HV.out.1, ← HV.out.2, hd2]
       exact ⟨by simp [hd1], rfl⟩)
      obtain ⟨dg, hdg⟩ : ∃ dg, dg = r - 48 := ⟨_, rfl⟩
      rw [← hdg] at HNX
      have hw1 : IntKind.i32.wrap ((r : Int) - 48) = (dg : Int) := by rw [IntKind.wrap_i32]; omega
      have hw2 : wrap32 ((r : Int) - 48) = (dg : Int) := by unfold wrap32; omega
      have hd9 : dg ≤ 9 := by omega
      have hn3 : n ≤ 1000 := by omega
      clear hd1 hd2 hund h48 h57 h1000 hdg
      go_wp2
      go_roundw
      case rel => exact ⟨pos + 1, 10 * n + dg, by first | rfl | go_num, HI2.out, hbw2, by omega, by omega, ⟨HNX.out⟩⟩
      case measure =>
       have h2 := HI2.out
       simp only [World.iterPos, h2, hit]
       omega
  ·have hps : pos = l.length := by omega
   subst hps
   have hnx := fun ty => Lib.run_next_end_at (P := Tryz.prog) wr w.heap.size s l.length ty hit (by omega)
   rw [List.take_length] at HV
   by_cases h1000 : n ≤ 1000
   ·have hz : decide ((n : Int) ≤ 1000) = true := decide_eq_true (by omega)
    have HI := Aside0.mk (HIT.out n (by omega) wr hbw.out)
    obtain ⟨q, hq⟩ : ∃ q, ((B (Lib.decDigits n)).toList == s.toList) = q := ⟨_, rfl⟩
    have HQ := Aside0.mk hq
    go_wp2_with (go_at_call 58; go_loud (refine HI.out.mono ?_; rintro e w2 ⟨rfl, q1⟩; have HB2 := Aside0.mk (below_step hbw.out q1); clear q1))
    refine bodyPost_ret (results_tmp2 rfl _ _ _) rfl ?_
    refine ⟨_, _, rfl, HB2.out, fun h => ?_, fun h => ?_⟩
    ·rw [h, HTL.out, B_toList] at HQ
     have h2 := beq_iff_eq.1 HQ.out
     rw [HV.out.2] at h2 ⊢
     refine ⟨if_pos ⟨HV.out.1, by rw [← HV.out.2]; exact h1000, h2.symm⟩, by omega⟩
    ·rw [h, HTL.out, B_toList] at HQ
     have h2 := beq_eq_false_iff_ne.1 HQ.out
     rw [HV.out.2] at h2
     exact if_neg fun k => h2 k.2.2.symm
   ·have hz : decide ((n : Int) ≤ 1000) = false := decide_eq_false (by omega)
    have HNB := Aside0.mk (num_great (l := l) (i := l.length) (by rw [List.take_length, ← HV.out.2]; omega))
    go_wp2
    refine bodyPost_ret (results_tmp2 rfl _ _ _) rfl ?_
    exact ⟨_, _, rfl, hbw.out, fun h => by simp at h, fun _ => HNB.out⟩
end Go.Proofs.YtfdlbnfjohpdlaaGreatDoor.PPo
namespace Go.Proofs.YtfdlbnfjohpdlaaGreatDoor.Th
open Go.RowKit Go.Lib Go.Proofs.YtfdlbnfjohpdlaaGreatDoor.PPo Go.Proofs.YtfdlbnfjohpdlaaGreatDoorW.PrintWords
set_option linter.unusedVariables false
theorem dig_of (n : Nat) (h : n < 10) : isDig (UInt8.ofNat (48 + n)) = true ∧ (UInt8.ofNat (48 + n)).toNat = 48 + n := by
 have e : (UInt8.ofNat (48 + n)).toNat = 48 + n := by rw [UInt8.toNat_ofNat']; exact Nat.mod_eq_of_lt (by omega)
 refine ⟨decide_eq_true ?_, e⟩
 rw [e]
 omega
theorem dd_big {n : Nat} (h : ¬ n < 10) : decDigits n = decDigits (n / 10) ++ [UInt8.ofNat (48 + n % 10)] := by rw [decDigits, dif_neg h]
theorem dd_all (n : Nat) : (decDigits n).all isDig = true ∧ val (decDigits n) = n := by
 induction n using Nat.strongRecOn with
 | _ n ih =>
  by_cases h : n < 10
  ·rw [decDigits_one h]
   obtain ⟨h1, h2⟩ := dig_of n h
   refine ⟨by rw [List.all_cons, h1]; rfl, ?_⟩
   show 10 * 0 + ((UInt8.ofNat (48 + n)).toNat - 48) = n
   rw [h2]
   omega
  ·obtain ⟨h1, h2⟩ := ih (n / 10) (by omega)
   obtain ⟨h3, h4⟩ := dig_of (n % 10) (by omega)
   rw [dd_big h, val_snoc, h2, h4, List.all_append, h1]
   exact ⟨by rw [List.all_cons, h3]; rfl, by omega⟩
theorem dd_len {n : Nat} (h : n ≤ 1000) : (decDigits n).length ≤ 4 := by
 rw [decDigits_length]
 by_cases h1 : n < 10
 ·rw [nDigits_small h1]; omega
 ·rw [nDigits_big h1]
  by_cases h2 : n / 10 < 10
  ·rw [nDigits_small h2]; omega
  ·rw [nDigits_big h2]
   by_cases h3 : n / 10 / 10 < 10
   ·rw [nDigits_small h3]; omega
   ·rw [nDigits_big h3, nDigits_small (by omega)]; omega
theorem num_dd {n : Nat} (h : n ≤ 1000) : numOf (decDigits n) = (n : Int) := by
 obtain ⟨h1, h2⟩ := dd_all n
 unfold numOf
 rw [h2, if_pos ⟨h1, h, rfl⟩]
def tierOf (c : UInt8) : Int := if c.toNat = 100 ∨ c.toNat = 68 then 0 else if c.toNat = 119 ∨ c.toNat = 87 then 1 else if c.toNat = 109 ∨ c.toNat = 77 then 2 else if c.toNat = 121 ∨ c.toNat = 89 then 3 else -1
end Go.Proofs.YtfdlbnfjohpdlaaGreatDoor.Th
namespace Go.Proofs.YtfdlbnfjohpdlaaGreatDoor.Th
open Go.RowKit Go.Lib Go.Proofs.YtfdlbnfjohpdlaaGreatDoor.PPo Go.Proofs.YtfdlbnfjohpdlaaGreatDoorW.PrintWords
set_option linter.unusedVariables false
def pieces : List UInt8 → List (List UInt8)
 | [] => [[]]
 | c :: r => if c = 32 then [] :: pieces r else match pieces r with
  | [] => [[c]]
  | h :: t => (c :: h) :: t
theorem pieces_ne (l : List UInt8) : pieces l ≠ [] := by
 cases l with
 | nil => simp [pieces]
 | cons c r => unfold pieces; split <;> (try split) <;> simp
theorem pieces_form (l : List UInt8) : ∃ h t, pieces l = h :: t := by
 match hp : pieces l with
 | [] => exact absurd hp (pieces_ne l)
 | h :: t => exact ⟨h, t, rfl⟩
def wordsL (l : List UInt8) : List (List UInt8) := (pieces l).filter fun w => !w.isEmpty
theorem pieces_blank (r : List UInt8) : pieces (32 :: r) = [] :: pieces r := by rw [pieces, if_pos rfl]
theorem pieces_cons {c : UInt8} (h : c ≠ 32) {r a : List UInt8} {t : List (List UInt8)} (hp : pieces r = a :: t) : pieces (c :: r) = (c :: a) :: t := by rw [pieces, if_neg h, hp]
theorem pieces_one (w : List UInt8) (h : ∀ c ∈ w, c ≠ 32) : pieces w = [w] := by
 induction w with
 | nil => rfl
 | cons c w ih => exact pieces_cons (h c (List.mem_cons_self ..)) (ih fun x hx => h x (List.mem_cons_of_mem _ hx))
def pstep (m : List Int) : List UInt8 → Option (List Int)
 | [] => some m
 | c :: r => if tierOf c < 0 ∨ numOf r < 0 ∨ 0 ≤ m.getD (tierOf c).toNat 0 then none else some (m.set (tierOf c).toNat (numOf r))
def pgo : List Int → List (List UInt8) → Option (List Int)
 | m, [] => some m
 | m, w :: ws => (pstep m w).bind fun m' => pgo m' ws
theorem pgo_app : ∀ (a b : List (List UInt8)) (m : List Int), pgo m (a ++ b) = (pgo m a).bind fun m' => pgo m' b
 | [], b, m => rfl
 | w :: a, b, m => by
  rw [List.cons_append, pgo, pgo]
  cases pstep m w with
  | none => rfl
  | some m' => exact pgo_app a b m'
theorem pgo_words : ∀ (ws : List (List UInt8)) (m : List Int), pgo m (ws.filter fun w => !w.isEmpty) = pgo m ws
 | [], m => rfl
 | w :: ws, m => by
  cases w with
  | nil => exact pgo_words ws m
  | cons c r =>
   rw [List.filter_cons_of_pos rfl, pgo, pgo]
   congr 1
   funext m'
   exact pgo_words ws m'
def parseOut : Option (List Int) → Int × Int × Int × Int × Int
 | none => (0, 0, 0, 0, 2)
 | some m => (mx (m.getD 0 0) 0, mx (m.getD 1 0) 0, mx (m.getD 2 0) 0, mx (m.getD 3 0) 0, 0)
def parseL (l : List UInt8) : Int × Int × Int × Int × Int := parseOut (pgo [-1, -1, -1, -1] (pieces l))
theorem tier_le (c : UInt8) : tierOf c ≤ 3 ∧ -1 ≤ tierOf c := by unfold tierOf; repeat' split; all_goals omega
end Go.Proofs.YtfdlbnfjohpdlaaGreatDoor.Th
namespace Go.Proofs.YtfdlbnfjohpdlaaGreatDoor.Th
open Go.RowKit Go.Lib Go.Proofs.YtfdlbnfjohpdlaaGreatDoor.PPo Go.Proofs.YtfdlbnfjohpdlaaGreatDoorW.PrintWords
set_option linter.unusedVariables false
theorem splitK_pieces : ∀ (l : List UInt8), splitK [32] 0 (count l [32]) l = pieces l
 | [] => rfl
 | c :: r => by
  have ih := splitK_pieces r
  by_cases hc : c = 32
  ·subst hc
   have hix : index (32 :: r) [32] = 0 := by rw [index]; simp [List.isPrefixOf]
   rw [count_cons_eq, Nat.add_comm, pieces_blank, splitK, hix]
   rw [← ih]
   rfl
  ·obtain ⟨h, t, hp⟩ := pieces_form r
   rw [count_cons_ne c 32 r hc, pieces_cons hc hp]
   rw [hp] at ih
   have hix : index (c :: r) [32] = if index r [32] == -1 then -1 else index r [32] + 1 := by rw [index]; simp [List.isPrefixOf, Ne.symm hc]
   cases hk : count r [32] with
   | zero =>
    rw [hk] at ih
    rw [splitK] at ih ⊢
    injection ih with h1 h2
    rw [h1, h2]
   | succ k =>
    rw [hk] at ih
    rw [splitK] at ih ⊢
    rw [hix]
    by_cases hm : index r [32] = -1
    ·rw [hm] at ih ⊢
     rw [if_pos (by rfl)] at ih
     rw [if_pos (by rfl)]
     injection ih with h1 h2
     rw [h1, h2]
    ·have hge := index_ge r [32]
     obtain ⟨j, hj⟩ : ∃ j : Nat, index r [32] = j := ⟨(index r [32]).toNat, by omega⟩
     rw [hj] at ih ⊢
     have e1 : ((j : Int) == -1) = false := by rw [beq_eq_false_iff_ne]; omega
     have e2 : (((j : Int) + 1) == -1) = false := by rw [beq_eq_false_iff_ne]; omega
     rw [e1, if_neg (show ¬ false = true by decide)] at ih
     rw [e1, if_neg (show ¬ false = true by decide), e2, if_neg (show ¬ false = true by decide)]
     injection ih with h1 h2
     rw [show ((j : Int) + 1).toNat + 0 = j + 1 by omega, show ((j : Int) + 1).toNat + [(32 : UInt8)].length = (j + 1) + 1 by simp]
     rw [show (j : Int).toNat + 0 = j by omega] at h1
     rw [show (j : Int).toNat + [(32 : UInt8)].length = j + 1 by simp] at h2
     rw [List.take_succ_cons, List.drop_succ_cons, h1, h2]
theorem split_B (l : List UInt8) : splitB ⟨#[32]⟩ 0 (countB (B l) ⟨#[32]⟩) (B l) = (pieces l).map B := by
 have h := splitB_data ⟨#[32]⟩ 0 (countB (B l) ⟨#[32]⟩) (B l)
 have hc : countB (B l) ⟨#[32]⟩ = count l [32] := by unfold countB; rw [B_data]
 rw [B_data] at h
 have h2 : splitK (⟨#[32]⟩ : ByteArray).data.toList 0 (countB (B l) ⟨#[32]⟩) l = pieces l := by rw [hc]; exact splitK_pieces l
 rw [h2] at h
 rw [← h, List.map_map]
 exact (List.map_id'' (f := B ∘ fun x => x.data.toList) (fun x => B_of x) _).symm
theorem bytes_all {p : UInt8 → Bool} (h : ∀ n : Fin 256, p (UInt8.ofNat n.val) = true) (c : UInt8) : p c = true := by
 have := h ⟨c.toNat, c.toNat_lt⟩
 rwa [UInt8.ofNat_toNat] at this
theorem low_index (c : UInt8) : index [100, 119, 109, 121] [lowc c] = tierOf c :=
 of_decide_eq_true (bytes_all (p := fun c => decide (index [100, 119, 109, 121] [lowc c] = tierOf c)) (by decide +kernel) c)
theorem low_dig (c : UInt8) : isDig (lowc c) = isDig c :=
 of_decide_eq_true (bytes_all (p := fun c => decide (isDig (lowc c) = isDig c)) (by decide +kernel) c)
theorem low_same (c : UInt8) : isDig c = true → lowc c = c :=
 of_decide_eq_true (bytes_all (p := fun c => decide (isDig c = true → lowc c = c)) (by decide +kernel) c)
theorem low_great (c : UInt8) : 128 ≤ c.toNat → lowc c = c ∧ tierOf c = -1 :=
 of_decide_eq_true (bytes_all (p := fun c => decide (128 ≤ c.toNat → lowc c = c ∧ tierOf c = -1)) (by decide +kernel) c)
def ltr (k : Nat) : UInt8 := [100, 119, 109, 121].getD k 0
theorem low_ltr (c : UInt8) : 0 ≤ tierOf c → lowc c = ltr (tierOf c).toNat :=
 of_decide_eq_true (bytes_all (p := fun c => decide (0 ≤ tierOf c → lowc c = ltr (tierOf c).toNat)) (by decide +kernel) c)
theorem ltr_inj (i j : Nat) (hi : i < 4) (hj : j < 4) (h : ltr i = ltr j) : i = j := by
 have : ∀ (i j : Fin 4), ltr i.val = ltr j.val → i = j := by decide +kernel
 exact Fin.mk.inj (this ⟨i, hi⟩ ⟨j, hj⟩ h)
theorem num_low (l : List UInt8) : numOf (l.map lowc) = numOf l := by
 cases hd : l.all isDig with
 | true =>
  have : l.map lowc = l := by
   have h2 := List.all_eq_true.1 hd
   have : l.map lowc = l.map id := List.map_congr_left fun c hc => low_same c (h2 c hc)
   rw [this, List.map_id]
  rw [this]
 | false =>
  have h2 : (l.map lowc).all isDig = false := by
   rw [List.all_map, ← hd]
   congr 1
   funext c
   exact low_dig c
  unfold numOf
  rw [if_neg (fun h => by rw [h2] at h; cases h.1), if_neg (fun h => by rw [hd] at h; cases h.1)]
theorem idx_bad (b : UInt8) (t : List UInt8) (hb : 128 ≤ b.toNat) : index [100, 119, 109, 121] (b :: t) = -1 := by
 refine index_none fun j hj => ?_
 cases h : occAt [100, 119, 109, 121] (b :: t) j with
 | false => rfl
 | true =>
  have h2 := occAt_head rfl h
  have h3 : b ∈ ([100, 119, 109, 121] : List UInt8) := List.mem_of_getElem? h2
  simp only [List.mem_cons, List.not_mem_nil, or_false] at h3
  rcases h3 with rfl | rfl | rfl | rfl <;> exact absurd hb (by decide)
def letL (w : List UInt8) : List UInt8 := (w.take (dec w).2).map lowc
theorem let_small {c : UInt8} {r : List UInt8} (h : c.toNat < 128) : letL (c :: r) = [lowc c] ∧ (dec (c :: r)).2 = 1 := by
 have hg : g8 (c :: r) 0 = c.toNat := g8_get (c :: r) 0 (by simp)
 have hd : dec (c :: r) = (c.toNat, 1) := by
  rcases dec_cases (c :: r) with ⟨_, e⟩ | ⟨h2, _⟩ | ⟨_, h3, _, h4⟩
  ·rw [e, hg]
  ·rw [hg] at h2; omega
  ·have := h4 0 (by omega); rw [hg] at this; omega
 unfold letL
 rw [hd]
 exact ⟨rfl, rfl⟩
theorem let_index (c : UInt8) (r : List UInt8) : index [100, 119, 109, 121] (letL (c :: r)) = tierOf c := by
 by_cases h : c.toNat < 128
 ·rw [(let_small h).1]
  exact low_index c
 ·obtain ⟨h1, h2⟩ := low_great c (by omega)
  have hw := dec_width (c :: r) (by simp)
  obtain ⟨k, hk⟩ : ∃ k, (dec (c :: r)).2 = k + 1 := ⟨(dec (c :: r)).2 - 1, by omega⟩
  unfold letL
  rw [hk, List.take_succ_cons, List.map_cons, h1, h2]
  exact idx_bad c _ (by omega)
theorem let_tier {c : UInt8} {r : List UInt8} (h : 0 ≤ tierOf c) : letL (c :: r) = [lowc c] ∧ (dec (c :: r)).2 = 1 := by
 refine let_small ?_
 by_cases h1 : c.toNat < 128
 ·exact h1
 ·have := (low_great c (by omega)).2
  omega
theorem trim_f (x : List UInt8) (m : Nat) (h : m ≤ x.length) (hl : x.length ≤ 1000) : strings_TrimPrefix.f (B x) (B (x.take m)) = some (B (x.drop m)) := by
 have hm : (x.take m).length = m := by rw [List.length_take]; omega
 have h1 : stringslite_HasPrefix.f (B x) (B (x.take m)) = some true := by
  unfold stringslite_HasPrefix.f
  rw [B_size, B_size, hm, if_pos (by omega), if_pos (by omega), if_pos (by omega), Int.toNat_natCast, B_upto, B_toList]
  simp
 unfold strings_TrimPrefix.f stringslite_TrimPrefix.f
 rw [h1]
 simp only [Option.bind_some, if_true]
 rw [B_size (x.take m), B_size, hm, if_pos (by omega), if_pos (by omega), Int.toNat_natCast]
 rw [Option.bind_some, ← B_size x, B_from]
theorem indexByte_mem (c : UInt8) : ∀ s : List UInt8, decide (0 ≤ indexByte s c) = s.contains c
 | [] => rfl
 | b :: s => by
  have ih := indexByte_mem c s
  have hge := indexByte_ge s c
  unfold indexByte
  rw [List.contains_cons]
  by_cases h : b = c
  ·subst h
   simp
  ·rw [show (b == c) = false from beq_eq_false_iff_ne.2 h, show (c == b) = false from beq_eq_false_iff_ne.2 (Ne.symm h), if_neg (by decide), Bool.false_or, ← ih]
   by_cases hm : indexByte s c = -1
   ·rw [hm]; rfl
   ·rw [show (indexByte s c == -1) = false from beq_eq_false_iff_ne.2 hm, if_neg (by decide)]
    refine decide_eq_decide.2 ⟨fun _ => by omega, fun _ => by omega⟩
def Seen (S : List UInt8) (m : List Int) : Prop := m.length = 4 ∧ ∀ c : UInt8, 0 ≤ tierOf c → S.contains (lowc c) = decide (0 ≤ m.getD (tierOf c).toNat 0)
theorem Seen.start : Seen [] [-1, -1, -1, -1] := by
 refine ⟨rfl, fun c h => ?_⟩
 have h3 := (tier_le c).1
 have h4 : (tierOf c).toNat < 4 := by omega
 generalize (tierOf c).toNat = k at h4
 match k, h4 with
 | 0, _ => rfl
 | 1, _ => rfl
 | 2, _ => rfl
 | 3, _ => rfl
theorem Seen.step {S : List UInt8} {m : List Int} (h : Seen S m) {c0 : UInt8} (h0 : 0 ≤ tierOf c0) {n : Int} (hn : 0 ≤ n) : Seen (S ++ [lowc c0]) (m.set (tierOf c0).toNat n) := by
 obtain ⟨hl, hs⟩ := h
 refine ⟨by rw [List.length_set]; exact hl, fun c hc => ?_⟩
 have k0 := (tier_le c0).1
 have k1 := (tier_le c).1
 have e : (S ++ [lowc c0]).contains (lowc c) = (S.contains (lowc c) || (lowc c == lowc c0)) := by
  rw [Bool.eq_iff_iff, List.contains_iff_mem, Bool.or_eq_true, List.contains_iff_mem, List.mem_append, List.mem_singleton, beq_iff_eq]
 rw [e, hs c hc, List.getD_eq_getElem?_getD (l := m.set _ _), List.getElem?_set]
 by_cases he : (tierOf c0).toNat = (tierOf c).toNat
 ·rw [if_pos he, if_pos (by omega)]
  rw [show (lowc c == lowc c0) = true from beq_iff_eq.2 (by rw [low_ltr c hc, low_ltr c0 h0, he]), Bool.or_true]
  simp [hn]
 ·rw [if_neg he]
  rw [show (lowc c == lowc c0) = false from beq_eq_false_iff_ne.2 (fun k => he (ltr_inj _ _ (by omega) (by omega) (by rw [← low_ltr c hc, ← low_ltr c0 h0, k]))), Bool.or_false, List.getD_eq_getElem?_getD]
end Go.Proofs.YtfdlbnfjohpdlaaGreatDoor.Th
namespace Go.Proofs.YtfdlbnfjohpdlaaGreatDoor.Th
open Go.RowKit Go.Lib Go.Proofs.YtfdlbnfjohpdlaaGreatDoor.PPo Go.Proofs.YtfdlbnfjohpdlaaGreatDoorW.PrintWords
set_option linter.unusedVariables false
theorem pieces_mid (b : List UInt8) : ∀ a : List UInt8, pieces (a ++ 32 :: b) = pieces a ++ pieces b
 | [] => by rw [List.nil_append, pieces_blank]; rfl
 | c :: a => by
  have ih := pieces_mid b a
  by_cases hc : c = 32
  ·subst hc
   rw [List.cons_append, pieces_blank, pieces_blank, ih]
   rfl
  ·obtain ⟨h, t, hp⟩ := pieces_form a
   rw [hp] at ih
   rw [List.cons_append, pieces_cons hc hp, pieces_cons hc ih]
   rfl
theorem words_mid (a b : List UInt8) : wordsL (a ++ 32 :: b) = wordsL a ++ wordsL b := by unfold wordsL; rw [pieces_mid, List.filter_append]
def Word (w : List UInt8) : Prop := w ≠ [] ∧ ∀ c ∈ w, c ≠ 32
theorem words_one {w : List UInt8} (h : Word w) : wordsL w = [w] := by
 unfold wordsL
 rw [pieces_one w h.2]
 cases w with
 | nil => exact absurd rfl h.1
 | cons c r => rfl
theorem words_nil : wordsL [] = [] := rfl
theorem words_blank (r : List UInt8) : wordsL (32 :: r) = wordsL r := by
 have := words_mid [] r
 rw [words_nil] at this
 exact this
theorem parse_words (l : List UInt8) : parseL l = parseOut (pgo [-1, -1, -1, -1] (wordsL l)) := by unfold parseL wordsL; rw [pgo_words]
theorem dig_ne {c : UInt8} (h : isDig c = true) : c ≠ 32 := by rintro rfl; cases h
theorem word_dd {x : UInt8} (hx : x ≠ 32) (n : Nat) : Word (x :: decDigits n) := by
 refine ⟨by simp, fun c hc => ?_⟩
 rcases List.mem_cons.1 hc with rfl | hc
 ·exact hx
 ·exact dig_ne (List.all_eq_true.1 (dd_all n).1 c hc)
theorem pstep_dd {x : UInt8} {k : Nat} {m : List Int} {n : Nat} (hx : tierOf x = (k : Int)) (hn : n ≤ 1000) (hm : m.getD k 0 = -1) : pstep m (x :: decDigits n) = some (m.set k (n : Int)) := by
 rw [pstep, hx, num_dd hn, Int.toNat_natCast, hm, if_neg (by omega)]
def wk (k : Nat) (n : Int) : List (List UInt8) := if 0 < n then [ltr k :: decDigits n.toNat] else []
theorem tier_ltr (k : Nat) (h : k < 4) : tierOf (ltr k) = (k : Int) ∧ ltr k ≠ 32 := by
 match k, h with
 | 0, _ => decide +kernel
 | 1, _ => decide +kernel
 | 2, _ => decide +kernel
 | 3, _ => decide +kernel
theorem okN_iff {n : Int} : okN n = true ↔ 0 ≤ n ∧ n ≤ 1000 := by unfold okN; simp
theorem right_iff {a b d e : Int} : rightP a b d e = true ↔ (0 ≤ a ∧ a ≤ 1000) ∧ (0 ≤ b ∧ b ≤ 1000) ∧ (0 ≤ d ∧ d ≤ 1000) ∧ 0 ≤ e ∧ e ≤ 1000 := by
 unfold rightP
 simp only [Bool.and_eq_true, okN_iff, and_assoc]
def upr (k : Nat) : UInt8 := [68, 87, 77, 89].getD k 0
theorem tier_upr (k : Nat) (h : k < 4) : tierOf (upr k) = (k : Int) ∧ upr k ≠ 32 ∧ isDig (upr k) = false := by
 match k, h with
 | 0, _ => decide +kernel
 | 1, _ => decide +kernel
 | 2, _ => decide +kernel
 | 3, _ => decide +kernel
def ofK (a b d e : Nat) (k : Nat) : Nat := if k = 0 then a else if k = 1 then b else if k = 2 then d else e
def sN (f a b d e : Nat) : Nat → List UInt8
 | 0 => []
 | i + 1 => sN f a b d e i ++ [32, 32] ++ [ltr ((f + i) % 4)] ++ decDigits (ofK a b d e ((f + i) % 4))
def tN (f a b d e : Nat) : Nat → List UInt8
 | 0 => []
 | i + 1 => tN f a b d e i ++ [upr ((f + i) % 4)] ++ decDigits (ofK a b d e ((f + i) % 4)) ++ [32]
theorem sN_words (f a b d e : Nat) (r : List UInt8) : ∀ i, wordsL (sN f a b d e i ++ 32 :: r) = ((List.range i).map fun i => ltr ((f + i) % 4) :: decDigits (ofK a b d e ((f + i) % 4))) ++ wordsL r
 | 0 => by
  show wordsL (32 :: r) = _
  rw [words_blank]
  rfl
 | i + 1 => by
  have hk : (f + i) % 4 < 4 := Nat.mod_lt _ (by decide)
  have e1 : sN f a b d e (i + 1) ++ 32 :: r = sN f a b d e i ++ 32 :: (32 :: ((ltr ((f + i) % 4) :: decDigits (ofK a b d e ((f + i) % 4))) ++ 32 :: r)) := by
   rw [sN]
   simp
  rw [e1, sN_words f a b d e _ i, words_blank, words_mid, words_one (word_dd (tier_ltr _ hk).2 _), List.range_succ, List.map_append, List.append_assoc]
  rfl
theorem tN_words (f a b d e : Nat) : ∀ (i : Nat) (r : List UInt8), wordsL (tN f a b d e i ++ r) = ((List.range i).map fun i => upr ((f + i) % 4) :: decDigits (ofK a b d e ((f + i) % 4))) ++ wordsL r
 | 0, r => rfl
 | i + 1, r => by
  have hk : (f + i) % 4 < 4 := Nat.mod_lt _ (by decide)
  have e1 : tN f a b d e (i + 1) ++ r = tN f a b d e i ++ ((upr ((f + i) % 4) :: decDigits (ofK a b d e ((f + i) % 4))) ++ 32 :: r) := by
   rw [tN]
   simp
  rw [e1, tN_words f a b d e i, words_mid, words_one (word_dd (tier_upr _ hk).2.1 _), List.range_succ, List.map_append, List.append_assoc]
  rfl
theorem sN_last (f a b d e i : Nat) : wordsL (sN f a b d e (i + 1)) = ((List.range (i + 1)).map fun i => ltr ((f + i) % 4) :: decDigits (ofK a b d e ((f + i) % 4))) := by
 have hk : (f + i) % 4 < 4 := Nat.mod_lt _ (by decide)
 have e1 : sN f a b d e (i + 1) = sN f a b d e i ++ 32 :: (32 :: (ltr ((f + i) % 4) :: decDigits (ofK a b d e ((f + i) % 4)))) := by
  rw [sN]
  simp
 rw [e1, sN_words, words_blank, words_one (word_dd (tier_ltr _ hk).2 _), List.range_succ, List.map_append]
 rfl
theorem ofK_le {a b d e : Nat} (ha : a ≤ 1000) (hb : b ≤ 1000) (hd : d ≤ 1000) (he : e ≤ 1000) (k : Nat) : ofK a b d e k ≤ 1000 := by unfold ofK; split <;> (try split) <;> (try split) <;> omega
theorem names_go (L : Nat → UInt8) (hL : ∀ k, k < 4 → tierOf (L k) = (k : Int)) {f a b d e : Nat} (hf : f < 4) (ha : a ≤ 1000) (hb : b ≤ 1000) (hd : d ≤ 1000) (he : e ≤ 1000) :
  pgo [-1, -1, -1, -1] ((List.range 4).map fun i => L ((f + i) % 4) :: decDigits (ofK a b d e ((f + i) % 4))) = some [(a : Int), b, d, e] := by
 have hs : ∀ (k : Nat), k < 4 → ∀ m : List Int, m.getD k 0 = -1 → ∀ ws, pgo m ((L k :: decDigits (ofK a b d e k)) :: ws) = pgo (m.set k (ofK a b d e k : Int)) ws := fun k hk m hm ws => by
  rw [pgo, pstep_dd (hL k hk) (ofK_le ha hb hd he k) hm]
  rfl
 have hr : List.range 4 = [0, 1, 2, 3] := rfl
 rw [hr]
 match f, hf with
 | 0, _ =>
  show pgo _ [L 0 :: decDigits (ofK a b d e 0), L 1 :: decDigits (ofK a b d e 1), L 2 :: decDigits (ofK a b d e 2), L 3 :: decDigits (ofK a b d e 3)] = _
  rw [hs 0 (by decide) _ rfl, hs 1 (by decide) _ rfl, hs 2 (by decide) _ rfl, hs 3 (by decide) _ rfl]
  rfl
 | 1, _ =>
  show pgo _ [L 1 :: decDigits (ofK a b d e 1), L 2 :: decDigits (ofK a b d e 2), L 3 :: decDigits (ofK a b d e 3), L 0 :: decDigits (ofK a b d e 0)] = _
  rw [hs 1 (by decide) _ rfl, hs 2 (by decide) _ rfl, hs 3 (by decide) _ rfl, hs 0 (by decide) _ rfl]
  rfl
 | 2, _ =>
  show pgo _ [L 2 :: decDigits (ofK a b d e 2), L 3 :: decDigits (ofK a b d e 3), L 0 :: decDigits (ofK a b d e 0), L 1 :: decDigits (ofK a b d e 1)] = _
  rw [hs 2 (by decide) _ rfl, hs 3 (by decide) _ rfl, hs 0 (by decide) _ rfl, hs 1 (by decide) _ rfl]
  rfl
 | 3, _ =>
  show pgo _ [L 3 :: decDigits (ofK a b d e 3), L 0 :: decDigits (ofK a b d e 0), L 1 :: decDigits (ofK a b d e 1), L 2 :: decDigits (ofK a b d e 2)] = _
  rw [hs 3 (by decide) _ rfl, hs 0 (by decide) _ rfl, hs 1 (by decide) _ rfl, hs 2 (by decide) _ rfl]
  rfl
theorem out_nat (a b d e : Nat) : parseOut (some [(a : Int), b, d, e]) = ((a : Int), (b : Int), (d : Int), (e : Int), 0) := by
 have hx : ∀ n : Nat, mx (n : Int) 0 = (n : Int) := fun n => by unfold mx; split <;> omega
 show (mx (a : Int) 0, mx (b : Int) 0, mx (d : Int) 0, mx (e : Int) 0, (0 : Int)) = _
 rw [hx, hx, hx, hx]
theorem names_plain {f a b d e : Nat} (hf : f < 4) (ha : a ≤ 1000) (hb : b ≤ 1000) (hd : d ≤ 1000) (he : e ≤ 1000) :
  parseL (sN f a b d e 4) = ((a : Int), (b : Int), (d : Int), (e : Int), 0) ∧ parseL (tN f a b d e 4) = ((a : Int), (b : Int), (d : Int), (e : Int), 0) ∧ parseL (sN f a b d e 4 ++ tN f a b d e 4) = (0, 0, 0, 0, 2) := by
 refine ⟨?_, ?_, ?_⟩
 ·rw [parse_words, sN_last, names_go ltr (fun k hk => (tier_ltr k hk).1) hf ha hb hd he, out_nat]
 ·have := tN_words f a b d e 4 []
  rw [List.append_nil, words_nil, List.append_nil] at this
  rw [parse_words, this, names_go upr (fun k hk => (tier_upr k hk).1) hf ha hb hd he, out_nat]
 ·have hk : (f + 3) % 4 < 4 := Nat.mod_lt _ (by decide)
  have hk0 : (f + 0) % 4 < 4 := Nat.mod_lt _ (by decide)
  have hu := tier_upr _ hk0
  obtain ⟨rest, hrest⟩ : ∃ rest, tN f a b d e 4 = (upr ((f + 0) % 4) :: decDigits (ofK a b d e ((f + 0) % 4))) ++ 32 :: rest := by
   refine ⟨[upr ((f + 1) % 4)] ++ decDigits (ofK a b d e ((f + 1) % 4)) ++ [32] ++ [upr ((f + 2) % 4)] ++ decDigits (ofK a b d e ((f + 2) % 4)) ++ [32] ++ [upr ((f + 3) % 4)] ++ decDigits (ofK a b d e ((f + 3) % 4)) ++ [32], ?_⟩
   simp [tN]
  have e1 : sN f a b d e 4 ++ tN f a b d e 4 = sN f a b d e 3 ++ 32 :: (32 :: ((ltr ((f + 3) % 4) :: (decDigits (ofK a b d e ((f + 3) % 4)) ++ upr ((f + 0) % 4) :: decDigits (ofK a b d e ((f + 0) % 4)))) ++ 32 :: rest)) := by
   rw [hrest, sN]
   simp
  have hw : Word (ltr ((f + 3) % 4) :: (decDigits (ofK a b d e ((f + 3) % 4)) ++ upr ((f + 0) % 4) :: decDigits (ofK a b d e ((f + 0) % 4)))) := by
   refine ⟨by simp, fun c hc => ?_⟩
   rcases List.mem_cons.1 hc with rfl | hc
   ·exact (tier_ltr _ hk).2
   ·rcases List.mem_append.1 hc with hc | hc
    ·exact dig_ne (List.all_eq_true.1 (dd_all _).1 c hc)
    ·exact (word_dd hu.2.1 _).2 c hc
  have hbad : ∀ m ws, pgo m ((ltr ((f + 3) % 4) :: (decDigits (ofK a b d e ((f + 3) % 4)) ++ upr ((f + 0) % 4) :: decDigits (ofK a b d e ((f + 0) % 4)))) :: ws) = none := fun m ws => by
   have hn : numOf (decDigits (ofK a b d e ((f + 3) % 4)) ++ upr ((f + 0) % 4) :: decDigits (ofK a b d e ((f + 0) % 4))) = -1 := by
    refine if_neg fun h => ?_
    have := List.all_eq_true.1 h.1 (upr ((f + 0) % 4)) (by simp)
    rw [hu.2.2] at this
    cases this
   rw [pgo, pstep, hn, if_pos (.inr (.inl (by decide)))]
   rfl
  rw [parse_words, e1, sN_words, words_blank, words_mid, words_one hw, pgo_app]
  cases pgo [-1, -1, -1, -1] ((List.range 3).map fun i => ltr ((f + i) % 4) :: decDigits (ofK a b d e ((f + i) % 4))) with
  | none => rfl
  | some m =>
   rw [Option.bind_some, List.singleton_append, hbad]
   rfl
end Go.Proofs.YtfdlbnfjohpdlaaGreatDoor.Th
namespace Go.Proofs.YtfdlbnfjohpdlaaGreatDoor.PPo
open Go.RowKit Go.Proofs.YtfdlbnfjohpdlaaGreatDoor.Th Go.Proofs.YtfdlbnfjohpdlaaGreatDoorW.PrintWords Go.Proofs.YtfdlbnfjohpdlaaGreatDoorW.PrintLast Go.Proofs.YtfdlbnfjohpdlaaGreatDoorW.PrintMore
attribute [local go_sem] max2_int min2_int max_two min_two max_three min_three max_four min_four
set_option linter.unusedVariables false
set_option linter.unusedSimpArgs false
theorem str_small (s t : ByteArray) (h1 : s.size ≤ 1000000) (h2 : t.size ≤ 1000000) : (s.size + t.size ≤ 9223372036854775807) = True ∧ (9223372036854775807 < s.size + t.size) = False := ⟨eq_true (by omega), eq_false (by omega)⟩
theorem word_steps (c : UInt8) (r S : List UInt8) (m : List Int) (hl : (c :: r).length ≤ 1000) (hS : S.length ≤ 1000) (hsn : Seen S m) (w : World) (hm : MaxW w) (hp : PowW w) :
  ∃ (sF sL sG sT : ByteArray), sL = B (letL (c :: r)) ∧ (∀ W, Calls Tryz.prog 50 #[.string (B (c :: r)), .int .i64 1] W fun e w' => e = .returned (.string sF) ∧ Below W.heap.size W w') ∧
   (∀ W, Calls Tryz.prog 49 #[.string sF] W fun e w' => e = .returned (.string sL) ∧ Below W.heap.size W w') ∧
   (∀ W, Below w.heap.size w W → Calls Tryz.prog 51 #[.string ⟨#[100, 119, 109, 121]⟩, .string sL] W fun e w' => e = .returned (.int .i64 (tierOf c)) ∧ w' = W) ∧
   (∀ W, Calls Tryz.prog 49 #[.string (B (c :: r))] W fun e w' => e = .returned (.string sG) ∧ Below W.heap.size W w') ∧
   (∀ W, Calls Tryz.prog 53 #[.string sG, .string sL] W fun e w' => e = .returned (.string sT) ∧ Below W.heap.size W w') ∧
   (∀ W, Below w.heap.size w W → Calls Tryz.prog 52 #[.string sT] W fun e w' => ∃ (n : Int) (b : Bool), e = .returned (.tuple #[.int .i64 n, .bool b]) ∧ Below W.heap.size W w' ∧ (0 ≤ tierOf c → (b = true → numOf r = n ∧ 0 ≤ n) ∧ (b = false → numOf r = -1))) ∧
   (0 ≤ tierOf c → sL = B [lowc c] ∧ ∀ W, Calls Tryz.prog 54 #[.string (B S), .string sL] W fun e w' => e = .returned (.bool (decide (0 ≤ m.getD (tierOf c).toNat 0))) ∧ w' = W) := by
 have hw := dec_width (c :: r) (by simp)
 have hml : ((c :: r).map lowc).length = (c :: r).length := List.length_map _
 refine ⟨B ((c :: r).take (dec (c :: r)).2), B (letL (c :: r)), B ((c :: r).map lowc), B (((c :: r).map lowc).drop (dec (c :: r)).2), rfl, fun W => first.calls _ (by simp) hl W, fun W => fold.calls _ (by rw [List.length_take]; omega) W, fun W hW => ?_, fun W => fold.calls _ hl W, fun W => ?_, fun W hW => ?_, fun h0 => ?_⟩
 ·obtain ⟨z, hz⟩ := hm.below hW
  have h := Any.strings_Index { Tryz.layIndex with } ⟨#[100, 119, 109, 121]⟩ (B (letL (c :: r))) z W (by decide) hz
  rw [B_data] at h
  refine h.mono fun e w' q => ⟨?_, q.2⟩
  rw [q.1]
  exact congrArg (fun z => Ending.returned (.int .i64 z)) (let_index c r)
 ·have ht := trim_f ((c :: r).map lowc) (dec (c :: r)).2 (by rw [hml]; omega) (by rw [hml]; exact hl)
  rw [← List.map_take] at ht
  exact (strings_TrimPrefix.calls _ _ _ W ht).mono fun e w' q => ⟨q.1, q.2.below⟩
 ·refine (count.calls _ (by rw [List.length_drop, hml]; omega) W (hp.below hW)).mono ?_
  rintro e w' ⟨n, b, h1, h2, h3, h4⟩
  refine ⟨n, b, h1, h2, fun h0 => ?_⟩
  rw [(let_tier h0).2, ← List.map_drop, num_low] at h3 h4
  exact ⟨h3, h4⟩
 ·obtain ⟨h1, _⟩ := let_tier (r := r) h0
  rw [h1]
  refine ⟨rfl, fun W => ?_⟩
  have h := Any.strings_Contains_one { Tryz.layContains with } (B S) (lowc c) W
  rw [B_data, Th.indexByte_mem, hsn.2 c h0] at h
  exact h
theorem pieces_small (l : List UInt8) : (pieces l).length ≤ l.length + 1 ∧ ∀ w ∈ pieces l, w.length ≤ l.length := by
 induction l with
 | nil => exact ⟨Nat.le_refl _, fun w hw => by obtain rfl := List.mem_singleton.1 hw; exact Nat.le_refl _⟩
 | cons c r ih =>
  obtain ⟨h, t, hp⟩ := pieces_form r
  rw [hp] at ih
  obtain ⟨h1, h2⟩ := ih
  rw [List.length_cons] at h1
  by_cases hc : c = 32
  ·subst hc
   rw [pieces_blank, hp, List.length_cons, List.length_cons, List.length_cons]
   refine ⟨by omega, fun w hw => ?_⟩
   rcases List.mem_cons.1 hw with rfl | hw
   ·exact Nat.zero_le _
   ·have := h2 w hw; omega
  ·rw [pieces_cons hc hp, List.length_cons, List.length_cons]
   refine ⟨by omega, fun w hw => ?_⟩
   rcases List.mem_cons.1 hw with rfl | hw
   ·have := h2 h (List.mem_cons_self ..); rw [List.length_cons]; omega
   ·have := h2 w (List.mem_cons_of_mem _ hw); omega
def cnt (m : List Int) : Array Value := (m.map fun x => Value.int .i64 (mx x 0)).toArray
theorem cnt_set {m : List Int} {k : Nat} {n : Int} (hn : 0 ≤ n) : (cnt m).setIfInBounds k (.int .i64 n) = cnt (m.set k n) := by
 unfold cnt
 rw [List.setIfInBounds_toArray, List.map_set, show mx n 0 = n by unfold mx; split <;> omega]
theorem cnt_get {m : List Int} {k : Nat} (hk : k < m.length) : (cnt m)[k]? = some (.int .i64 (mx (m.getD k 0) 0)) := by
 unfold cnt
 simp [hk]
set_option maxHeartbeats 8000000 in
set_option maxRecDepth 100000 in
theorem parse.calls (l : List UInt8) (hl : l.length ≤ 300) (r0 r1 r2 r3 r4 : Int) (hr : parseL l = (r0, r1, r2, r3, r4)) (w : World) (hm : MaxW w) (hpw : PowW w) : Calls Tryz.prog 28 #[.string (B l)] w fun e w' => e = .returned (.tuple #[.agg #[.int .i64 r0, .int .i64 r1, .int .i64 r2, .int .i64 r3], .int .i64 r4]) ∧ Below w.heap.size w w' := by
 have hu := Tryz.underlying23
 have hu2 := Tryz.underlying74
 have HB := Aside0.mk (Below.refl w.heap.size w)
 unfold parseL at hr
 have HPL := Aside0.mk (pieces_small l)
 have HSP := Aside0.mk (show ∀ W, Below w.heap.size w W → Calls Tryz.prog 48 #[.string (B l), .string ⟨#[32]⟩] W fun e w' => ∃ g, e = .returned (.slice (some ⟨g, 0, none⟩) (pieces l).length (pieces l).length) ∧ w'.heap[g]? = some (.cells (((pieces l).map B).map Value.string).toArray 9 (0, 0)) ∧ Below W.heap.size W w' from fun W hW => by
  obtain ⟨z, hz⟩ := hm.below hW
  refine (Any.strings_Split { Tryz.laySplit with } Tryz.laySplit.i9 (B l) ⟨#[32]⟩ z W (by rw [B_size]; omega) hz (by decide)).mono ?_
  have hc : Lib.countB (B l) ⟨#[32]⟩ + 1 = (pieces l).length := by
   have h := Lib.splitB_all ⟨#[32]⟩ (by decide) 0 _ (B l) rfl
   rw [split_B, List.length_map] at h
   exact h.symm
  rw [hc, split_B]
  rintro e w' ⟨rfl, rfl⟩
  exact ⟨_, rfl, blk_new W _, below_alloc (Below.refl _ _) _⟩)
 generalize pieces l = P at hr HSP HPL
 have HWS := Aside0.mk (fun (c : UInt8) (r S : List UInt8) (m : List Int) (hl : (c :: r).length ≤ 1000) (hS : S.length ≤ 1000) (hsn : Seen S m) (W : World) (hW : Below w.heap.size w W) => word_steps c r S m hl hS hsn W (hm.below hW) (hpw.below hW))
 have HPN := Aside0.mk (show P.length ≤ 301 from by have := HPL.out.1; omega)
 have hpn := HPN.out
 have HR := Aside0.mk hr
 clear hr hm hpw
 go_enter Tryz.func28, Tryz.ntmps28
 go_wp2_with (first
  | ((with_reducible refine gate_dst (N := 2) rfl ?_); refine box_event ?hg (N := 2) ?hd (cs := #[.int .i64 0, .int .i64 0, .int .i64 0, .int .i64 0]) (t := 23) ?hr ?_; (case hd => rfl); (case hg => rfl); (case hr => first | (go_simp; done) | (go_simp; rfl)); intro g2 hg2 wb2 hbox hb; have HB2 := Aside0.mk (below_step HB.out hb); have BK2 := Aside0.mk hbox; have HG2 := Aside0.mk (show w.heap.size ≤ g2 by rw [hg2]; exact below_size HB.out); clear hg2 hb hbox; have hb2_0 := blk_cell BK2.out 0; have hb2_1 := blk_cell BK2.out 1; have hb2_2 := blk_cell BK2.out 2; have hb2_3 := blk_cell BK2.out 3)
  | ((with_reducible refine gate_dst (N := 4) rfl ?_); refine box_event ?hg (N := 4) ?hd (cs := #[.int .i64 0, .int .i64 0, .int .i64 0, .int .i64 0]) (t := 74) ?hr ?_; (case hd => rfl); (case hg => rfl); (case hr => first | (go_simp; done) | (go_simp; rfl)); intro g4 hg4 wb4 hbox hb; have HB4 := Aside0.mk (below_step HB2.out hb); have BK4 := Aside0.mk hbox; have HG4 := Aside0.mk (show w.heap.size ≤ g4 by rw [hg4]; exact below_size HB2.out); have BP4 := Aside0.mk (blk_below BK2.out hb); clear hg4 hb hbox; have hb4_0 := blk_cell BK4.out 0; have hb4_1 := blk_cell BK4.out 1; have hb4_2 := blk_cell BK4.out 2; have hb4_3 := blk_cell BK4.out 3)
  | (go_at_call 48; go_loud (refine (HSP.out _ HB4.out).mono ?_; rintro e w5 ⟨g5, rfl, q1, q2⟩; have HB5 := Aside0.mk (below_step HB4.out q2); have HG5 := Aside0.mk q1; have BP5 := Aside0.mk (blk_below BP4.out q2); have BA5 := Aside0.mk (blk_below BK4.out q2); clear q1 q2 hb2_0 hb2_1 hb2_2 hb2_3 hb4_0 hb4_1 hb4_2 hb4_3)))
 go_loopg [5, 15] P.length (fun gg s5 s15 wr => ∃ (i : Nat) (S : List UInt8) (m : List Int), s5 = .string (B S) ∧ s15 = .int .i64 i ∧ i ≤ P.length ∧ P.length - i ≤ gg ∧ S.length ≤ i ∧ Aside0 (Seen S m) ∧ Aside0 (parseOut (pgo m (P.drop i)) = (r0, r1, r2, r3, r4)) ∧ Aside0 (Below w.heap.size w wr) ∧ Aside0 (wr.heap[g5]? = some (.cells ((P.map B).map Value.string).toArray 9 (0, 0))) ∧ Aside0 (wr.heap[g2]? = some (.cells #[.int .i64 0, .int .i64 0, .int .i64 0, .int .i64 0] 23 (0, 0))) ∧ Aside0 (wr.heap[g4]? = some (.cells (cnt m) 74 (0, 0))))
 case atStart => exact ⟨0, [], [-1, -1, -1, -1], rfl, rfl, Nat.zero_le _, by omega, Nat.le_refl 0, ⟨Seen.start⟩, HR, HB5, HG5, BP5, BA5⟩
 case round =>
  obtain ⟨i, S, m, rfl, rfl, hi, hg, hSl, HSN, HRm, HBr, HGr, BPr, BAr⟩ := hrel
  by_cases hlt : i < P.length
  ·have hltz : decide ((i : Int) < (P.length : Int)) = true := decide_eq_true (by omega)
   have hi0 : (0 : Int) ≤ (i : Int) := by omega
   have hi1 : (i : Int) < (P.length : Int) := by omega
   have hx0 : wr.cell? ⟨g5, i, none⟩ = some (.string (B P[i])) := by
    refine (blk_cell HGr.out i).trans ?_
    simp [hlt]
   have hdr := List.drop_eq_getElem_cons hlt
   have hwl := HPL.out.2 P[i] (List.getElem_mem hlt)
   have HRD := Aside0.mk HRm.out
   rw [hdr] at HRD
   generalize P[i] = wd at hx0 hwl HRD
   clear hdr
   cases wd with
   | nil =>
    have he : ((B []).toList == ([] : List UInt8)) = true := by rw [B_toList]; rfl
    have HRN := Aside0.mk (show parseOut (pgo m (P.drop (i + 1))) = (r0, r1, r2, r3, r4) from HRD.out)
    generalize B [] = sW at hx0 he
    go_wp2
    go_roundg (P.length - (i + 1))
    case measure => omega
    case rel => exact ⟨i + 1, S, m, rfl, by go_num, by omega, by omega, by omega, HSN, HRN, HBr, HGr, BPr, BAr⟩
   | cons c r =>
    have he : ((B (c :: r)).toList == ([] : List UInt8)) = false := by rw [B_toList]; rfl
    obtain ⟨sF, sL, sG, sT, hsL, hF1, hFA, hIX, hFB, hTP, hCN, hCT⟩ := HWS.out c r S m (by omega) (by omega) HSN.out wr HBr.out
    have HF1 := Aside0.mk hF1
    have HFA := Aside0.mk hFA
    have HIX := Aside0.mk hIX
    have HFB := Aside0.mk hFB
    have HTP := Aside0.mk hTP
    have HCN := Aside0.mk hCN
    have HCT := Aside0.mk hCT
    have HST := str_small (B S) sL (by rw [B_size]; omega) (by rw [hsL, B_size]; unfold letL; rw [List.length_map, List.length_take]; omega)
    have HAP := Aside0.mk (show B S ++ B [lowc c] = B (S ++ [lowc c]) from B_append S [lowc c])
    have HSS := Aside0.mk (fun (h0 : 0 ≤ tierOf c) (n : Int) (hn : 0 ≤ n) => HSN.out.step (c0 := c) h0 hn)
    have HTL := Aside0.mk (tier_le c)
    have HRE : (pstep m (c :: r)).bind (fun m' => pgo m' (P.drop (i + 1))) = pgo m ((c :: r) :: P.drop (i + 1)) := rfl
    rw [← HRE, pstep] at HRD
    have HM4 := Aside0.mk HSN.out.1
    clear HRE hF1 hFA hIX hFB hTP hCN hCT hsL hwl
    generalize B (c :: r) = sW at hx0 he HF1 HFB
    generalize tierOf c = t at HIX HCN HCT HRD HSS HTL
    generalize lowc c = lc at HCT HSS HAP
    go_upto_region 10 with (first
     | (go_at_call 50; go_loud (refine (HF1.out _).mono ?_; rintro e wa ⟨rfl, q1⟩; have HA := Aside0.mk q1; clear q1))
     | (go_at_call 49; (with_reducible show Calls _ _ #[.string sF] _ _); go_loud (refine (HFA.out _).mono ?_; rintro e wb ⟨rfl, q1⟩; have HBB := Aside0.mk (below_step HA.out q1); clear q1))
     | (go_at_call 51; go_loud (refine (HIX.out _ HBB.out).mono ?_; rintro e wi ⟨rfl, rfl⟩))
     | (go_at_call 49; (with_reducible show Calls _ _ #[.string sW] _ _); go_loud (refine (HFB.out _).mono ?_; rintro e wc ⟨rfl, q1⟩; have HCC := Aside0.mk (below_step HBB.out q1); clear q1))
     | (go_at_call 53; go_loud (refine (HTP.out _).mono ?_; rintro e wd ⟨rfl, q1⟩; have HDD := Aside0.mk (below_step HCC.out q1); clear q1))
     | (go_at_call 52; go_loud (refine (HCN.out _ HDD.out).mono ?_; rintro e we ⟨n, b, rfl, q1, q2⟩; have HEE := Aside0.mk (below_step HDD.out q1); have HNB := Aside0.mk q2; have BAe := Aside0.mk (blk_below BAr.out HEE.out); have BPe := Aside0.mk (blk_below BPr.out HEE.out); have HGe := Aside0.mk (blk_below HGr.out HEE.out); have HBe := Aside0.mk (below_step HBr.out HEE.out); clear q1 q2 hx0)))
    cases b with
    | false =>
     have HRZ := HRD.out
     rw [if_pos (by
      by_cases h0 : t < 0
      ·exact .inl h0
      ·exact .inr (.inl (by rw [(HNB.out (by omega)).2 rfl]; decide)))] at HRZ
     injection HRZ with z0 z1
     injection z1 with z1 z2
     injection z2 with z2 z3
     injection z3 with z3 z4
     subst z0 z1 z2 z3 z4
     have hp0 := blk_cell BPe.out 0
     have hp1 := blk_cell BPe.out 1
     have hp2 := blk_cell BPe.out 2
     have hp3 := blk_cell BPe.out 3
     have hq0 := blk_frozen BPe.out 0
     have hq1 := blk_frozen BPe.out 1
     have hq2 := blk_frozen BPe.out 2
     have hq3 := blk_frozen BPe.out 3
     go_wp2
     refine bodyPost_ret (results_ct rfl _ _ g2 23 #[.int .i64 0, .int .i64 0, .int .i64 0, .int .i64 0] (0, 0) _ rfl (blk_put (cs := #[.int .i64 0, .int .i64 0, .int .i64 0, .int .i64 0]) (blk_put (cs := #[.int .i64 0, .int .i64 0, .int .i64 0, .int .i64 0]) (blk_put (cs := #[.int .i64 0, .int .i64 0, .int .i64 0, .int .i64 0]) (blk_put (cs := #[.int .i64 0, .int .i64 0, .int .i64 0, .int .i64 0]) BPe.out 0 _ rfl) 1 _ rfl) 2 _ rfl) 3 _ rfl) Tryz.underlying23 rfl (by kernel_rfl)) rfl ?_
     exact ⟨rfl, below_set (below_set (below_set (below_set HBe.out HG2.out) HG2.out) HG2.out) HG2.out⟩
    | true =>
     by_cases h0 : t < 0
     ·have htz : decide (t < 0) = true := decide_eq_true h0
      have HRZ := HRD.out
      rw [if_pos (.inl h0)] at HRZ
      injection HRZ with z0 z1
      injection z1 with z1 z2
      injection z2 with z2 z3
      injection z3 with z3 z4
      subst z0 z1 z2 z3 z4
      clear h0
      have hp0 := blk_cell BPe.out 0
      have hp1 := blk_cell BPe.out 1
      have hp2 := blk_cell BPe.out 2
      have hp3 := blk_cell BPe.out 3
      have hq0 := blk_frozen BPe.out 0
      have hq1 := blk_frozen BPe.out 1
      have hq2 := blk_frozen BPe.out 2
      have hq3 := blk_frozen BPe.out 3
      go_wp2
      refine bodyPost_ret (results_ct rfl _ _ g2 23 #[.int .i64 0, .int .i64 0, .int .i64 0, .int .i64 0] (0, 0) _ rfl (blk_put (cs := #[.int .i64 0, .int .i64 0, .int .i64 0, .int .i64 0]) (blk_put (cs := #[.int .i64 0, .int .i64 0, .int .i64 0, .int .i64 0]) (blk_put (cs := #[.int .i64 0, .int .i64 0, .int .i64 0, .int .i64 0]) (blk_put (cs := #[.int .i64 0, .int .i64 0, .int .i64 0, .int .i64 0]) BPe.out 0 _ rfl) 1 _ rfl) 2 _ rfl) 3 _ rfl) Tryz.underlying23 rfl (by kernel_rfl)) rfl ?_
      exact ⟨rfl, below_set (below_set (below_set (below_set HBe.out HG2.out) HG2.out) HG2.out) HG2.out⟩
     ·have htz : decide (t < 0) = false := decide_eq_false h0
      have ht0 : 0 ≤ t := by omega
      obtain ⟨hn1, hn2⟩ := (HNB.out ht0).1 rfl
      obtain ⟨hsl, hct⟩ := HCT.out ht0
      have HCT1 := Aside0.mk (hct we)
      have HAL := Aside0.mk (show B S ++ sL = B (S ++ [lc]) by rw [hsl]; exact HAP.out)
      obtain ⟨k, hk⟩ : ∃ k : Nat, t = (k : Int) := ⟨t.toNat, by omega⟩
      have hk4 : k < 4 := by have := HTL.out.1; omega
      subst hk
      have HSS1 := Aside0.mk (HSS.out ht0 n hn2)
      have HRZ := HRD.out
      rw [hn1] at HRZ
      rw [Int.toNat_natCast] at HCT1 HSS1 HRZ
      have HCG := Aside0.mk (cnt_get (m := m) (k := k) (by rw [HM4.out]; exact hk4))
      have HCS := Aside0.mk (cnt_set (m := m) (k := k) hn2)
      cases hz : decide (0 ≤ m.getD k 0) with
      | true =>
       rw [hz] at HCT1
       rw [if_pos (.inr (.inr (of_decide_eq_true hz)))] at HRZ
       injection HRZ with z0 z1
       injection z1 with z1 z2
       injection z2 with z2 z3
       injection z3 with z3 z4
       subst z0 z1 z2 z3 z4
       clear hz hct hsl hn1 hn2
       have hp0 := blk_cell BPe.out 0
       have hp1 := blk_cell BPe.out 1
       have hp2 := blk_cell BPe.out 2
       have hp3 := blk_cell BPe.out 3
       have hq0 := blk_frozen BPe.out 0
       have hq1 := blk_frozen BPe.out 1
       have hq2 := blk_frozen BPe.out 2
       have hq3 := blk_frozen BPe.out 3
       go_wp2_with (go_at_call 54; go_loud (refine HCT1.out.mono ?_; rintro e wg ⟨rfl, rfl⟩))
       refine bodyPost_ret (results_ct rfl _ _ g2 23 #[.int .i64 0, .int .i64 0, .int .i64 0, .int .i64 0] (0, 0) _ rfl (blk_put (cs := #[.int .i64 0, .int .i64 0, .int .i64 0, .int .i64 0]) (blk_put (cs := #[.int .i64 0, .int .i64 0, .int .i64 0, .int .i64 0]) (blk_put (cs := #[.int .i64 0, .int .i64 0, .int .i64 0, .int .i64 0]) (blk_put (cs := #[.int .i64 0, .int .i64 0, .int .i64 0, .int .i64 0]) BPe.out 0 _ rfl) 1 _ rfl) 2 _ rfl) 3 _ rfl) Tryz.underlying23 rfl (by kernel_rfl)) rfl ?_
       exact ⟨rfl, below_set (below_set (below_set (below_set HBe.out HG2.out) HG2.out) HG2.out) HG2.out⟩
      | false =>
       rw [hz] at HCT1
       rw [if_neg (by
        rintro (h | h | h)
        ·omega
        ·omega
        ·exact of_decide_eq_false hz h)] at HRZ
       have HRN := Aside0.mk (show parseOut (pgo (m.set k n) (P.drop (i + 1))) = (r0, r1, r2, r3, r4) from HRZ)
       have hidx : ∀ W : World, (Instr.indexAt 74 (.pointer (some ⟨g4, 0, none⟩)) (.int .i64 (k : Int))).run Tryz.prog W = .ok (.pointer (some ⟨g4, k, none⟩)) W := by
        have h5 : k = 0 ∨ k = 1 ∨ k = 2 ∨ k = 3 := by omega
        rcases h5 with rfl | rfl | rfl | rfl <;> exact fun _ => by kernel_rfl
       have hd1 := (blk_cell BAe.out k).trans HCG.out
       have hf1 := blk_frozen BAe.out k
       obtain ⟨hsz1, hsz2⟩ := HST
       clear hz hct hsl hn1 hn2 HRZ
       go_wp2_with (first
        | (go_at_call 54; go_loud (refine HCT1.out.mono ?_; rintro e wg ⟨rfl, rfl⟩))
        | ((with_reducible refine gate_store (t := 3) (p := 48) rfl ?_); refine store_event (t := 3) (p := 48) (v := .tmp 47) (w1 := wg.setCell ⟨g4, k, none⟩ (.int .i64 n)) rfl rfl rfl ?hr ?_; (case hr => first | (go_simp; done) | (go_simp; rfl)); intro ws hws; have q1 := blk_put (cs' := cnt (m.set k n)) BAe.out k (.int .i64 n) HCS.out; have q2 := below_set (g := g4) (j := k) (v := .int .i64 n) HBe.out HG4.out; have q3 := blk_far HGe.out (p := ⟨g4, k, none⟩) (blk_ne HGe.out BAe.out (by decide)) (.int .i64 n); have q4 := blk_far BPe.out (p := ⟨g4, k, none⟩) (blk_ne BPe.out BAe.out (by decide)) (.int .i64 n); rw [← hws] at q1 q2 q3 q4; clear hws; have BAs := Aside0.mk q1; have HBs := Aside0.mk q2; have HGs := Aside0.mk q3; have BPs := Aside0.mk q4; clear q1 q2 q3 q4 hd1 hf1))
       go_roundg (P.length - (i + 1))
       case measure => omega
       case rel => exact ⟨i + 1, S ++ [lc], m.set k n, congrArg Value.string HAL.out, by go_num, by omega, by omega, by rw [List.length_append, List.length_singleton]; omega, HSS1, HRN, HBs, HGs, BPs, BAs⟩
  ·have hltz : decide ((i : Int) < (P.length : Int)) = false := decide_eq_false (by omega)
   have hdn : P.drop i = [] := List.drop_of_length_le (by omega)
   have HRZ := HRm.out
   rw [hdn] at HRZ
   have hm4 := HSN.out.1
   clear HSN HRm hdn
   match m, hm4 with
   | [x0, x1, x2, x3], _ =>
    have HRY : (mx x0 0, mx x1 0, mx x2 0, mx x3 0, (0 : Int)) = (r0, r1, r2, r3, r4) := HRZ
    have BAq := Aside0.mk (show wr.heap[g4]? = some (.cells #[.int .i64 (mx x0 0), .int .i64 (mx x1 0), .int .i64 (mx x2 0), .int .i64 (mx x3 0)] 74 (0, 0)) from BAr.out)
    injection HRY with z0 z1
    injection z1 with z1 z2
    injection z2 with z2 z3
    injection z3 with z3 z4
    rw [z0, z1, z2, z3] at BAq
    clear z0 z1 z2 z3 HRZ
    subst z4
    have ha0 := blk_cell BAq.out 0
    have ha1 := blk_cell BAq.out 1
    have ha2 := blk_cell BAq.out 2
    have ha3 := blk_cell BAq.out 3
    have hp0 := blk_cell BPr.out 0
    have hp1 := blk_cell BPr.out 1
    have hp2 := blk_cell BPr.out 2
    have hp3 := blk_cell BPr.out 3
    have hq0 := blk_frozen BPr.out 0
    have hq1 := blk_frozen BPr.out 1
    have hq2 := blk_frozen BPr.out 2
    have hq3 := blk_frozen BPr.out 3
    go_wp2
    refine bodyPost_ret (results_ct rfl _ _ g2 23 #[.int .i64 r0, .int .i64 r1, .int .i64 r2, .int .i64 r3] (0, 0) _ rfl (blk_put (cs := #[.int .i64 r0, .int .i64 r1, .int .i64 r2, .int .i64 0]) (blk_put (cs := #[.int .i64 r0, .int .i64 r1, .int .i64 0, .int .i64 0]) (blk_put (cs := #[.int .i64 r0, .int .i64 0, .int .i64 0, .int .i64 0]) (blk_put (cs := #[.int .i64 0, .int .i64 0, .int .i64 0, .int .i64 0]) BPr.out 0 _ rfl) 1 _ rfl) 2 _ rfl) 3 _ rfl) Tryz.underlying23 rfl (by kernel_rfl)) rfl ?_
    exact ⟨rfl, below_set (below_set (below_set (below_set HBr.out HG2.out) HG2.out) HG2.out) HG2.out⟩
end Go.Proofs.YtfdlbnfjohpdlaaGreatDoor.PPo
