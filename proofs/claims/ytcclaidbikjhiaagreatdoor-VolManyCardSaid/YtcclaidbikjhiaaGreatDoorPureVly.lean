import Derived.Test.YtcclaidbikjhiaaGreatDoorPureVhp
import Derived.Test.YtcclaidbikjhiaaGreatDoorPVox47
import Derived.Defers
import Derived.Test.YtcclaidbikjhiaaGreatDoorPureDr
import Derived.Test.YtcclaidbikjhiaaGreatDoorPVox44
import Derived.Test.YtcclaidbikjhiaaGreatDoorPVox9
import Derived.Test.YtcclaidbikjhiaaGreatDoorPVox33
import Derived.Deep.QuietTactic
import Derived.BigQuiet
import Derived.Test.YtcclaidbikjhiaaGreatDoorPVox18
--compressed
namespace Go.Proofs.YtcclaidbikjhiaaGreatDoor.PVo
open Go.RowKit Go.Proofs.YtcclaidbikjhiaaGreatDoorW.PrintWords Go.Proofs.YtcclaidbikjhiaaGreatDoorW.PrintLast Go.Proofs.YtcclaidbikjhiaaGreatDoorW.PrintMore Go.Proofs.YtcclaidbikjhiaaGreatDoor.Th
attribute [local go_sem] max2_int min2_int max_two min_two max_three min_three max_four min_four
set_option linter.unusedVariables false
set_option linter.unusedSimpArgs false
def HV.zero : HV := ⟨0, 0, 0, []⟩
def magicL : List UInt8 := [114, 116, 99, 108]
structure HParse where
  name : List UInt8
  h : HV
  left : St
def hparse (t : List UInt8) : HParse :=
  let m := tx 4 (t, false); let a := nm 8 m.2; let b := nm 2 a.2; let c := nm 4 b.2; let n := nm 1 c.2; let F := spansC n.1.toNat n.2 []
  ⟨m.1, ⟨a.1, b.1, c.1, F.1⟩, F.2⟩
def hgood (p : HParse) : Bool := !p.left.2 && (decide (p.name = magicL) && (p.left.1.all (· == 0) && headR p.h))
def headT (s : List UInt8) : HV × Int :=
  if s.length ≠ 64 then (HV.zero, 1) else if (unsV s).2 ≠ 0 then (HV.zero, (unsV s).2) else if hgood (hparse (unsV s).1) = true then ((hparse (unsV s).1).h, 0) else (HV.zero, 2)
set_option maxHeartbeats 2000000 in
set_option maxRecDepth 100000 in
theorem htake1_ok (g2 g3 : Nat) (u : FrameMode) (w : World) (h3 : w.cell? ⟨g3, 0, none⟩ = some (.int .i64 0)) :
    CallsD Tryz.prog 165 #[.pointer (some ⟨g3, 0, none⟩), .pointer (some ⟨g2, 0, none⟩)] u w fun e u' w' => u' = u ∧ (e = .returned (.tuple #[]) ∧ w' = w) := by
  go_enter_d Tryz.func165, Tryz.ntmps165
  go_wp2
  (first | go_end0 | ((try simp only [Exit.inBlock, Exit.then]); refine bodyPost_ret (results_none rfl _ _ _) rfl ?_))
  exact ⟨rfl, rfl⟩
theorem htake1_err (g2 g3 : Nat) (x : Int) (hx : x ≠ 0) (cs : Array Value) (hcs : cs.size = 4) (u : FrameMode) (w : World) (h3 : w.cell? ⟨g3, 0, none⟩ = some (.int .i64 x)) (hb : w.heap[g2]? = some (.cells cs 46 (0, 0))) :
    CallsD Tryz.prog 165 #[.pointer (some ⟨g3, 0, none⟩), .pointer (some ⟨g2, 0, none⟩)] u w fun e u' w' => u' = u ∧ (e = .returned (.tuple #[]) ∧ w' = (((w.setCell ⟨g2, 0, none⟩ (.int .u64 0)).setCell ⟨g2, 1, none⟩ (.int .i64 0)).setCell ⟨g2, 2, none⟩ (.int .i64 0)).setCell ⟨g2, 3, none⟩ (.slice none 0 0)) := by
  have b0 : (x != 0) = true := bne_iff_ne.mpr hx
  have c0 : w.cell? ⟨g2, 0, none⟩ = some (cs[0]'(by omega)) := by rw [zN hb]; simp [hcs]
  have c1 : w.cell? ⟨g2, 1, none⟩ = some (cs[1]'(by omega)) := by rw [zN hb]; simp [hcs]
  have c2 : w.cell? ⟨g2, 2, none⟩ = some (cs[2]'(by omega)) := by rw [zN hb]; simp [hcs]
  have c3 : w.cell? ⟨g2, 3, none⟩ = some (cs[3]'(by omega)) := by rw [zN hb]; simp [hcs]
  have f0 := zM hb 0
  have f1 := zM hb 1
  have f2 := zM hb 2
  have f3 := zM hb 3
  go_enter_d Tryz.func165, Tryz.ntmps165
  go_wp2
  (first | go_end0 | ((try simp only [Exit.inBlock, Exit.then]); refine bodyPost_ret (results_none rfl _ _ _) rfl ?_))
  exact ⟨rfl, rfl⟩
theorem htake_leaves {R : Ending → World → Prop} (tmps : Array Value) (w : World) (g2 g3 : Nat) (a0 a1 a2 a3 : Value) (x : Int) (h2 : tmps.getD 2 undef = .pointer (some ⟨g2, 0, none⟩)) (h3 : tmps.getD 3 undef = .pointer (some ⟨g3, 0, none⟩)) (hb : w.heap[g2]? = some (.cells #[a0, a1, a2, a3] 46 (0, 0))) (hc : w.heap[g3]? = some (.cells #[.int .i64 x] 35 (0, 0))) (hR : R (.returned (.tuple #[.agg #[a0, a1, a2, a3], .int .i64 x])) w) : Leaves Tryz.prog Tryz.f119 tmps R [] .returning w := by
  refine ⟨.tuple #[.agg #[a0, a1, a2, a3], .int .i64 x], ?_, hR⟩
  have h2' : tmps[2]?.getD undef = .pointer (some ⟨g2, 0, none⟩) := by simpa using h2
  have h3' : tmps[3]?.getD undef = .pointer (some ⟨g3, 0, none⟩) := by simpa using h3
  have hr : (Tryz.f119).results = #[.cell 2 46, .cell 3 35] := rfl
  have k0 := zN hb 0
  have k1 := zN hb 1
  have k2 := zN hb 2
  have k3 := zN hb 3
  have k4 := zN hc 0
  simp at k0 k1 k2 k3 k4
  simp [results, hr, h2', h3', asAddr, go_sem, k0, k1, k2, k3, k4]
theorem blk_put4 {w : World} {g : Nat} {t : TypeId} {a0 a1 a2 a3 : Value} (h : w.heap[g]? = some (.cells #[a0, a1, a2, a3] t (0, 0))) (b0 b1 b2 b3 : Value) : ((((w.setCell ⟨g, 0, none⟩ b0).setCell ⟨g, 1, none⟩ b1).setCell ⟨g, 2, none⟩ b2).setCell ⟨g, 3, none⟩ b3).heap[g]? = some (.cells #[b0, b1, b2, b3] t (0, 0)) := by
  have := blk_set (blk_set (blk_set (blk_set h 0 b0) 1 b1) 2 b2) 3 b3
  simpa using this
theorem blk_far4 {w : World} {g k : Nat} {t : TypeId} {cs : Array Value} (h : w.heap[k]? = some (.cells cs t (0, 0))) (hne : k ≠ g) (b0 b1 b2 b3 : Value) : ((((w.setCell ⟨g, 0, none⟩ b0).setCell ⟨g, 1, none⟩ b1).setCell ⟨g, 2, none⟩ b2).setCell ⟨g, 3, none⟩ b3).heap[k]? = some (.cells cs t (0, 0)) :=
  blk_far (blk_far (blk_far (blk_far h hne _) hne _) hne _) hne _
structure HTk (w W : World) (g5 : Nat) (st : St) (a0 a1 a2 a3 : Value) : Prop where
  rd : IsS179 w W g5 (B st.1) st.2
  bel : Below w.heap.size w W
  b2 : W.heap[w.heap.size]? = some (.cells #[a0, a1, a2, a3] 46 (0, 0))
  b3 : W.heap[w.heap.size + 1]? = some (.cells #[.int .i64 0] 35 (0, 0))
  n2 : w.heap.size ≠ g5
  n3 : w.heap.size + 1 ≠ g5
theorem HTk.past {w W W' : World} {g5 : Nat} {st : St} {a0 a1 a2 a3 : Value} (h : HTk w W g5 st a0 a1 a2 a3) (hb : Below W.heap.size W W') : HTk w W' g5 st a0 a1 a2 a3 :=
  ⟨h.rd.below hb, zL h.bel hb, blk_below h.b2 hb, blk_below h.b3 hb, h.n2, h.n3⟩
theorem HTk.moved {w W W' : World} {g5 : Nat} {st st' : St} {a0 a1 a2 a3 : Value} (h : HTk w W g5 st a0 a1 a2 a3) (hr : IsS179 w W' g5 (B st'.1) st'.2) (hb : Below w.heap.size w W') (hk : KeepBut W W' g5 none) : HTk w W' g5 st' a0 a1 a2 a3 :=
  ⟨hr, hb, hk.blk h.b2 h.n2 (by simp), hk.blk h.b3 h.n3 (by simp), h.n2, h.n3⟩
theorem HTk.text {w W : World} {g5 : Nat} {st : St} {a0 a1 a2 a3 : Value} (h : HTk w W g5 st a0 a1 a2 a3) (m : Nat) : Calls Tryz.prog 166 #[.pointer (some ⟨g5, 0, none⟩), .int .i64 m] W fun e w' => e = .returned (.string (B (tx m st).1)) ∧ HTk w w' g5 (tx m st).2 a0 a1 a2 a3 ∧ KeepBut W w' g5 none := by
  obtain ⟨k, hk⟩ := (text_ev st m).get
  refine (le_Reader_Text.calls k g5 (B st.1) st.2 m _ _ _ w W h.rd h.bel hk).mono ?_
  rintro e w' ⟨rfl, h1, h2, h3⟩
  exact ⟨rfl, h.moved h1 h2 h3, h3⟩
theorem HTk.num {w W : World} {g5 : Nat} {st : St} {a0 a1 a2 a3 : Value} (h : HTk w W g5 st a0 a1 a2 a3) (m : Nat) (hm : m ≤ 8) : Calls Tryz.prog 121 #[.pointer (some ⟨g5, 0, none⟩), .int .i64 m] W fun e w' => e = .returned (.int .u64 (nm m st).1) ∧ HTk w w' g5 (nm m st).2 a0 a1 a2 a3 ∧ KeepBut W w' g5 none := by
  obtain ⟨k, hk⟩ := (number_ev st m hm).get
  refine (le_Reader_Number.calls k g5 (B st.1) st.2 m _ _ _ w W h.rd h.bel hk).mono ?_
  rintro e w' ⟨rfl, h1, h2, h3⟩
  exact ⟨rfl, h.moved h1 h2 h3, h3⟩
def noP (Q : Exit → Act → World → Prop) : Exit → Act → World → Prop := fun e a w => (match e with | .panic _ => False | _ => True) ∧ Q e a w
theorem noP_no {Q : Exit → Act → World → Prop} {c : List PanicEntry} {a : Act} {w : World} {X : Prop} (h : noP Q (.panic c) a w) : X := h.1.elim
theorem HTk.put3 {w W : World} {g5 : Nat} {st : St} {a0 a1 a2 a3 : Value} (h : HTk w W g5 st a0 a1 a2 a3) (b3 : Value) : HTk w (W.setCell ⟨w.heap.size, 3, none⟩ b3) g5 st a0 a1 a2 b3 :=
  ⟨h.rd.far (Ne.symm h.n2) b3, below_set h.bel (Nat.le_refl _), by simpa using blk_set h.b2 3 b3, blk_far h.b3 (by simp) b3, h.n2, h.n3⟩
theorem htake_door_err {R : Ending → World → Prop} (tmps : Array Value) (w : World) (g2 g3 : Nat) (a0 a1 a2 a3 : Value) (x : Int) (hx : x ≠ 0) (hne : g3 ≠ g2) (h2 : tmps.getD 2 undef = .pointer (some ⟨g2, 0, none⟩)) (h3 : tmps.getD 3 undef = .pointer (some ⟨g3, 0, none⟩)) (hb : w.heap[g2]? = some (.cells #[a0, a1, a2, a3] 46 (0, 0))) (hc : w.heap[g3]? = some (.cells #[.int .i64 x] 35 (0, 0)))
    (hR : R (.returned (.tuple #[.agg #[.int .u64 0, .int .i64 0, .int .i64 0, .slice none 0 0], .int .i64 x])) ((((w.setCell ⟨g2, 0, none⟩ (.int .u64 0)).setCell ⟨g2, 1, none⟩ (.int .i64 0)).setCell ⟨g2, 2, none⟩ (.int .i64 0)).setCell ⟨g2, 3, none⟩ (.slice none 0 0))) : Leaves Tryz.prog Tryz.f119 tmps R [{ target := .fn (.func 165) #[.pointer (some ⟨g3, 0, none⟩), .pointer (some ⟨g2, 0, none⟩)], args := #[] }] .returning w := by
  refine leaves_cons (f := 165) (args := #[.pointer (some ⟨g3, 0, none⟩), .pointer (some ⟨g2, 0, none⟩)]) (by simp) (by simp [go_sem]) ?_
  refine (htake1_err g2 g3 x hx _ rfl .returning w ((zN hc 0).trans rfl) hb).mono ?_
  rintro e u' w'' ⟨rfl, rfl, rfl⟩
  exact htake_leaves tmps _ g2 g3 _ _ _ _ x h2 h3 (blk_put4 hb _ _ _ _) (blk_far4 hc hne _ _ _ _) hR
theorem htake_door_ok {R : Ending → World → Prop} (tmps : Array Value) (w : World) (g2 g3 : Nat) (a0 a1 a2 a3 : Value) (h2 : tmps.getD 2 undef = .pointer (some ⟨g2, 0, none⟩)) (h3 : tmps.getD 3 undef = .pointer (some ⟨g3, 0, none⟩)) (hb : w.heap[g2]? = some (.cells #[a0, a1, a2, a3] 46 (0, 0))) (hc : w.heap[g3]? = some (.cells #[.int .i64 0] 35 (0, 0)))
    (hR : R (.returned (.tuple #[.agg #[a0, a1, a2, a3], .int .i64 0])) w) : Leaves Tryz.prog Tryz.f119 tmps R [{ target := .fn (.func 165) #[.pointer (some ⟨g3, 0, none⟩), .pointer (some ⟨g2, 0, none⟩)], args := #[] }] .returning w := by
  refine leaves_cons (f := 165) (args := #[.pointer (some ⟨g3, 0, none⟩), .pointer (some ⟨g2, 0, none⟩)]) (by simp) (by simp [go_sem]) ?_
  refine (htake1_ok g2 g3 .returning w ((zN hc 0).trans rfl)).mono ?_
  rintro e u' w'' ⟨rfl, rfl, rfl⟩
  exact htake_leaves tmps _ g2 g3 _ _ _ _ 0 h2 h3 hb hc hR
theorem HTk.put4 {w W : World} {g5 : Nat} {st : St} {a0 a1 a2 a3 : Value} (h : HTk w W g5 st a0 a1 a2 a3) (b0 b1 b2 b3 : Value) : HTk w ((((W.setCell ⟨w.heap.size, 0, none⟩ b0).setCell ⟨w.heap.size, 1, none⟩ b1).setCell ⟨w.heap.size, 2, none⟩ b2).setCell ⟨w.heap.size, 3, none⟩ b3) g5 st b0 b1 b2 b3 :=
  ⟨(((h.rd.far (Ne.symm h.n2) b0).far (Ne.symm h.n2) b1).far (Ne.symm h.n2) b2).far (Ne.symm h.n2) b3, below_set (below_set (below_set (below_set h.bel (Nat.le_refl _)) (Nat.le_refl _)) (Nat.le_refl _)) (Nat.le_refl _), blk_put4 h.b2 b0 b1 b2 b3, blk_far4 h.b3 (by omega) b0 b1 b2 b3, h.n2, h.n3⟩
theorem HTk.doorE {w W : World} {g5 : Nat} {st : St} {a0 a1 a2 a3 : Value} (h : HTk w W g5 st a0 a1 a2 a3) {R : Ending → World → Prop} (tmps : Array Value) (x : Int) (hx : x ≠ 0) (h2 : tmps.getD 2 undef = .pointer (some ⟨w.heap.size, 0, none⟩)) (h3 : tmps.getD 3 undef = .pointer (some ⟨w.heap.size + 1, 0, none⟩))
    (hR : ∀ W', Below w.heap.size w W' → R (.returned (.tuple #[.agg #[.int .u64 0, .int .i64 0, .int .i64 0, .slice none 0 0], .int .i64 x])) W') : Leaves Tryz.prog Tryz.f119 tmps R [{ target := .fn (.func 165) #[.pointer (some ⟨w.heap.size + 1, 0, none⟩), .pointer (some ⟨w.heap.size, 0, none⟩)], args := #[] }] .returning (((((W.setCell ⟨w.heap.size, 0, none⟩ a0).setCell ⟨w.heap.size, 1, none⟩ a1).setCell ⟨w.heap.size, 2, none⟩ a2).setCell ⟨w.heap.size, 3, none⟩ a3).setCell ⟨w.heap.size + 1, 0, none⟩ (.int .i64 x)) := by
  have hp := h.put4 a0 a1 a2 a3
  refine htake_door_err tmps _ w.heap.size (w.heap.size + 1) a0 a1 a2 a3 x hx (by omega) h2 h3 (blk_far hp.b2 (by simp) _) (by simpa using blk_set hp.b3 0 (.int .i64 x)) (hR _ ?_)
  exact below_set (below_set (below_set (below_set (below_set hp.bel (by omega)) (Nat.le_refl _)) (Nat.le_refl _)) (Nat.le_refl _)) (Nat.le_refl _)
theorem HTk.doorO {w W : World} {g5 : Nat} {st : St} {a0 a1 a2 a3 : Value} (h : HTk w W g5 st a0 a1 a2 a3) {R : Ending → World → Prop} (tmps : Array Value) (h2 : tmps.getD 2 undef = .pointer (some ⟨w.heap.size, 0, none⟩)) (h3 : tmps.getD 3 undef = .pointer (some ⟨w.heap.size + 1, 0, none⟩))
    (hR : ∀ W', HTk w W' g5 st a0 a1 a2 a3 → (∀ k, k ≠ w.heap.size → k ≠ w.heap.size + 1 → W'.heap[k]? = W.heap[k]?) → R (.returned (.tuple #[.agg #[a0, a1, a2, a3], .int .i64 0])) W') : Leaves Tryz.prog Tryz.f119 tmps R [{ target := .fn (.func 165) #[.pointer (some ⟨w.heap.size + 1, 0, none⟩), .pointer (some ⟨w.heap.size, 0, none⟩)], args := #[] }] .returning (((((W.setCell ⟨w.heap.size, 0, none⟩ a0).setCell ⟨w.heap.size, 1, none⟩ a1).setCell ⟨w.heap.size, 2, none⟩ a2).setCell ⟨w.heap.size, 3, none⟩ a3).setCell ⟨w.heap.size + 1, 0, none⟩ (.int .i64 0)) := by
  have hp := h.put4 a0 a1 a2 a3
  have h2' := blk_far hp.b2 (p := ⟨w.heap.size + 1, 0, none⟩) (by simp) (.int .i64 0)
  have h3' := blk_set hp.b3 0 (.int .i64 0)
  refine htake_door_ok tmps _ w.heap.size (w.heap.size + 1) a0 a1 a2 a3 h2 h3 h2' (by simpa using h3') (hR _ ⟨hp.rd.far (Ne.symm hp.n3) _, below_set hp.bel (by omega), h2', by simpa using h3', hp.n2, hp.n3⟩ fun k q1 q2 => ?_)
  rw [Below.heap_setCell _ ⟨w.heap.size + 1, 0, none⟩ _ k q2, Below.heap_setCell _ ⟨w.heap.size, 3, none⟩ _ k q1, Below.heap_setCell _ ⟨w.heap.size, 2, none⟩ _ k q1, Below.heap_setCell _ ⟨w.heap.size, 1, none⟩ _ k q1, Below.heap_setCell _ ⟨w.heap.size, 0, none⟩ _ k q1]
theorem dw_nil {l : List UInt8} : l.dropWhile (· == 0) = [] ↔ l.all (· == 0) = true := by
  induction l with
  | nil => simp
  | cons x r ih =>
    rw [List.dropWhile_cons, List.all_cons]
    cases hx : (x == 0) with
    | true => simpa using ih
    | false => simp
theorem trim_nil {l : List UInt8} : Lib.trimB l 0 = [] ↔ l.all (· == 0) = true := by
  unfold Lib.trimB Lib.trimLeftB Lib.trimRightB
  rw [dw_nil, List.all_reverse]
  constructor
  · intro h
    have h2 : l.reverse.dropWhile (· == 0) = [] := by
      cases hd : l.reverse.dropWhile (· == 0) with
      | nil => rfl
      | cons x r =>
        rw [hd] at h
        have h3 : (x == 0) = true := by rw [List.all_cons, Bool.and_eq_true] at h; exact h.1
        have h4 := List.head_dropWhile_not (p := (· == (0 : UInt8))) (l := l.reverse) (by rw [hd]; simp)
        simp only [hd, List.head_cons] at h4
        rw [h3] at h4
        cases h4
    rw [dw_nil, List.all_reverse] at h2
    exact h2
  · intro h
    have h2 : l.reverse.dropWhile (· == 0) = [] := by rw [dw_nil, List.all_reverse]; exact h
    rw [h2]; rfl
theorem htrim.calls (l : List UInt8) (w : World) (hl : l.length ≤ 1000000) : Calls Tryz.prog 167 #[.string (B l), .string ⟨#[0]⟩] w fun e w' => e = .returned (.string (B (Lib.trimB l 0))) ∧ Drawn0 w w' := by
  refine (Any.strings_Trim_one Tryz.layTrim (B l) 0 (by decide) w (by rw [B_size]; omega)).mono ?_
  rintro e w' ⟨rfl, hw⟩
  refine ⟨by rw [B_data]; rfl, ?_⟩
  rcases hw with rfl | rfl
  · exact Drawn0.refl _
  · exact ⟨⟨1, rfl⟩⟩
theorem p256_2 : ((256 ^ 2 : Nat) : Int) = 65536 := by decide
theorem HTk.first {w w1 : World} (t : List UInt8) (hb : Below w.heap.size w w1) (h2 : w1.heap[w.heap.size]? = some (.cells #[.int .u64 0, .int .i64 0, .int .i64 0, .slice none 0 0] 46 (0, 0))) (h3 : w1.heap[w.heap.size + 1]? = some (.cells #[.int .i64 0] 35 (0, 0))) :
    HTk w ((w1.setCell ⟨w.heap.size + 1, 0, none⟩ (.int .i64 0)).alloc (.cells #[.string (B t), .bool false] 179)) w1.heap.size (t, false) (.int .u64 0) (.int .i64 0) (.int .i64 0) (.slice none 0 0) := by
  have hz : (w1.setCell ⟨w.heap.size + 1, 0, none⟩ (.int .i64 0)).heap.size = w1.heap.size := by simp [World.setCell]
  have hb' : Below w.heap.size w (w1.setCell ⟨w.heap.size + 1, 0, none⟩ (.int .i64 0)) := below_set hb (by omega)
  have hn := IsS179.new w (w1.setCell ⟨w.heap.size + 1, 0, none⟩ (.int .i64 0)) (B t) false hb'
  rw [hz] at hn
  have l2 := blk_lt h2
  have l3 := blk_lt h3
  refine ⟨hn, zL hb' (zJ (Below.refl _ _) _), blk_alloc (blk_far h2 (by simp) _) _, blk_alloc (by simpa using blk_set h3 0 (.int .i64 0)) _, by omega, by omega⟩
set_option maxHeartbeats 4000000 in
set_option maxRecDepth 100000 in
theorem htake.calls (s : List UInt8) (w : World) (hs : s.length ≤ 100000) :
    Calls Tryz.prog 119 #[.string (B s)] w fun e w' => ∃ A c, e = .returned (.tuple #[.agg #[.int .u64 (headT s).1.gen, .int .i64 (headT s).1.sect, .int .i64 (headT s).1.size, .slice A (headT s).1.spans.length c], .int .i64 (headT s).2]) ∧ (headT s).1.spans.length ≤ c ∧ Kd.C k87 (mask (fun k => k < w.heap.size) w') A (headT s).1.spans.length (headT s).1.spans ∧ Below w.heap.size w w' := by
  have hmf : ∀ (fn : Fn) (first cap : Array Value) (w : World), (Instr.makeFunc fn first cap).run Tryz.prog w = .ok (.func fn first cap) w := fun _ _ _ _ => rfl
  by_cases c1 : s.length = 64
  · obtain ⟨t, e, hu⟩ : ∃ t e, unsV s = (t, e) := ⟨_, _, rfl⟩
    have hsT := take_f s (by omega)
    rw [hu] at hsT
    have HS := zA (fun W => seal_Take.calls (B s) (B t) e W hsT)
    have b1 : (((B s).size : Int) != 64) = false := bne_eq_false_iff_eq.mpr (by rw [B_size]; omega)
    clear hsT
    by_cases c2 : e = 0
    · subst c2
      obtain ⟨p, hp⟩ : ∃ p, p = hparse t := ⟨_, rfl⟩
      have hT : headT s = if hgood p = true then (p.h, 0) else (HV.zero, 2) := by
        unfold headT
        rw [if_neg (by omega), hu, if_neg (fun h => h rfl), hp]
      have HTT := zA hT
      have hlt : t.length ≤ 100000 := by
        have := unseal_len s
        rw [hu] at this
        exact Nat.le_trans this hs
      have hLT := zA hlt
      obtain ⟨m, hm⟩ : ∃ m, m = tx 4 (t, false) := ⟨_, rfl⟩
      obtain ⟨a, ha⟩ : ∃ a, a = nm 8 m.2 := ⟨_, rfl⟩
      obtain ⟨b, hb⟩ : ∃ b, b = nm 2 a.2 := ⟨_, rfl⟩
      obtain ⟨d, hd⟩ : ∃ d, d = nm 4 b.2 := ⟨_, rfl⟩
      obtain ⟨n, hn⟩ : ∃ n, n = nm 1 d.2 := ⟨_, rfl⟩
      have hp2 : p = ⟨m.1, ⟨a.1, b.1, d.1, (spansC n.1.toNat n.2 []).1⟩, (spansC n.1.toNat n.2 []).2⟩ := by rw [hp, hn, hd, hb, ha, hm]; rfl
      have ra := nm_range 8 (by decide) m.2
      have rb := nm_range 2 (by decide) a.2
      have rd := nm_range 4 (by decide) b.2
      have rn := nm_range 1 (by decide) d.2
      rw [← ha] at ra
      rw [← hb] at rb
      rw [← hd] at rd
      rw [← hn] at rn
      have hwb : wrap64 b.1 = b.1 := wrap64_id (by omega) (by have := rb.2.2; have h9 : ((256 ^ 2 : Nat) : Int) = 65536 := by decide
                                                              omega)
      have hwd : wrap64 d.1 = d.1 := wrap64_id (by omega) (by have := rd.2.2; have h9 : ((256 ^ 4 : Nat) : Int) = 4294967296 := by decide
                                                              omega)
      obtain ⟨N, hN⟩ := Int.eq_ofNat_of_zero_le rn.1
      have hN2 : N < 256 := by have := rn.2.2; have h9 : ((256 ^ 1 : Nat) : Int) = 256 := by decide
                               omega
      have HM := zA (fun W a0 a1 a2 a3 g (h : HTk w W g (t, false) a0 a1 a2 a3) => by have := h.text 4; rw [← hm] at this; exact this)
      have HA := zA (fun W a0 a1 a2 a3 g (h : HTk w W g m.2 a0 a1 a2 a3) => by have := h.num 8 (by decide); rw [← ha] at this; exact this)
      have HBn := zA (fun W a0 a1 a2 a3 g (h : HTk w W g a.2 a0 a1 a2 a3) => by have := h.num 2 (by decide); rw [← hb] at this; exact this)
      have HD := zA (fun W a0 a1 a2 a3 g (h : HTk w W g b.2 a0 a1 a2 a3) => by have := h.num 4 (by decide); rw [← hd] at this; exact this)
      have HNn := zA (fun W a0 a1 a2 a3 g (h : HTk w W g d.2 a0 a1 a2 a3) => by have := h.num 1 (by decide); rw [← hn, hN] at this; exact this)
      have hlf : (spansC N n.2 []).2.1.length ≤ 100000 := by
        have l1 := (spansC_len N n.2 []).2
        have l2 := nm_len 1 d.2
        have l3 := nm_len 4 b.2
        have l4 := nm_len 2 a.2
        have l5 := nm_len 8 m.2
        have l6 := (tx_len 4 (t, false)).2.1
        rw [← hn] at l2
        rw [← hd] at l3
        rw [← hb] at l4
        rw [← ha] at l5
        rw [← hm] at l6
        have l7 : ((t, false) : St).1.length = t.length := rfl
        have := hLT.out
        omega
      have HLF0 := zA hlf
      rw [hN, Int.toNat_natCast] at hp2
      have HRA := zA (show (0 ≤ a.1 ∧ a.1 < 18446744073709551616) ∧ (0 ≤ b.1 ∧ b.1 < 65536) ∧ (0 ≤ d.1 ∧ d.1 < 4294967296) from ⟨⟨ra.1, ra.2.1⟩, ⟨rb.1, rb.2.2⟩, ⟨rd.1, rd.2.2⟩⟩)
      have HP := zA hp2
      have HN2 := zA hN2
      clear hm ha hb hd hn hp2 ra rb rd rn hN hN2 hlf
      clear hT hu hp hlt b1
      have b1 : (((B s).size : Int) != 64) = false := bne_eq_false_iff_eq.mpr (by rw [B_size]; omega)
      go_enter_defers Tryz.func119, Tryz.ntmps119
      go_wp2_with (first
        | (go_at_call 120; go_loud (refine (HS.out _).mono ?_; rintro ex w1 ⟨rfl, hb1⟩; have hB1 := zA (zL (zJ (zJ (Below.refl _ w) (.cells #[.int .u64 0, .int .i64 0, .int .i64 0, .slice none 0 0] 46)) (.cells #[.int .i64 0] 35)) hb1); have hK2 := zA (blk_below (blk_alloc (blk_new w (.cells #[.int .u64 0, .int .i64 0, .int .i64 0, .slice none 0 0] 46)) (.cells #[.int .i64 0] 35)) hb1); have hK3 := zA (blk_below (blk_new (w.alloc (.cells #[.int .u64 0, .int .i64 0, .int .i64 0, .slice none 0 0] 46)) (.cells #[.int .i64 0] 35)) hb1); clear hb1; rw [show (w.alloc (.cells #[.int .u64 0, .int .i64 0, .int .i64 0, .slice none 0 0] 46)).heap.size = w.heap.size + 1 by simp] at hK3; have k4 := zN hK3.out 0; have q4 := zM hK3.out 0; have HT0 := zA (HTk.first t hB1.out hK2.out hK3.out)))
        | (go_at_call 166; go_loud (refine (HM.out _ _ _ _ _ _ HT0.out).mono ?_; rintro ex w2 ⟨rfl, h2, _⟩; have H2 := zA h2; clear h2))
        | (go_at_call 121; (with_reducible show Calls _ _ #[_, .int .i64 8] _ _); go_loud (refine (HA.out _ _ _ _ _ _ H2.out).mono ?_; rintro ex w3 ⟨rfl, h3, _⟩; have H3 := zA h3; clear h3))
        | (go_at_call 121; (with_reducible show Calls _ _ #[_, .int .i64 2] _ _); go_loud (refine (HBn.out _ _ _ _ _ _ H3.out).mono ?_; rintro ex w4 ⟨rfl, h4, _⟩; have H4 := zA h4; clear h4))
        | (go_at_call 121; (with_reducible show Calls _ _ #[_, .int .i64 4] _ _); go_loud (refine (HD.out _ _ _ _ _ _ H4.out).mono ?_; rintro ex w5 ⟨rfl, h5, _⟩; have k0 := zN h5.b2 0; have k1 := zN h5.b2 1; have k2 := zN h5.b2 2; have k3 := zN h5.b2 3; have q0 := zM h5.b2 0; have q1 := zM h5.b2 1; have q2 := zM h5.b2 2; have q3 := zM h5.b2 3; have H5 := zA (h5.put4 (.int .u64 a.1) (.int .i64 b.1) (.int .i64 d.1) (.slice none 0 0)); clear h5))
        | (go_at_call 121; (with_reducible show Calls _ _ #[_, .int .i64 1] _ _); go_loud (refine (HNn.out _ _ _ _ _ _ H5.out).mono ?_; rintro ex w6 ⟨rfl, h6, _⟩; have H6 := zA h6; clear h6)))
      obtain ⟨F, hF⟩ : ∃ F, F = spansC N n.2 [] := ⟨_, rfl⟩
      have HFF := zA hF
      have hF0 := zA hF
      have HLF := zA (show F.2.1.length ≤ 100000 by rw [hF]; exact HLF0.out)
      obtain ⟨g5, hg5⟩ : ∃ g5, g5 = w1.heap.size := ⟨_, rfl⟩
      rw [← hg5] at H6 ⊢
      clear hg5 H2 H3 H4 H5 HM HA HBn HD HNn hF HT0 hB1 hK2 hK3 k0 k1 k2 k3 k4 q0 q1 q2 q3 q4
      go_loopg [37] N (fun gg s37 wr => ∃ (i : Nat) (st : St) (acc : List Sp) (v : Value), s37 = .int .u64 i ∧ i ≤ N ∧ N - i ≤ gg ∧ acc.length = i ∧ Aside0 (F = spansC (N - i) st acc) ∧ Aside0 (HTk w wr g5 st (.int .u64 a.1) (.int .i64 b.1) (.int .i64 d.1) v) ∧ Aside0 (Kd.R k87 87 wr w.heap.size (fun k => k ≠ g5 ∧ k ≠ w.heap.size ∧ k ≠ w.heap.size + 1) v acc))
      case atStart => exact ⟨0, n.2, [], _, rfl, Nat.zero_le _, by omega, rfl, HFF, H6, ⟨Kd.R_nil _ _ _ _ _⟩⟩
      case round =>
        clear HFF H6
        obtain ⟨i, st, acc, v, rfl, hi, hg, hac, HFF, HK, HR⟩ := hrel
        by_cases hlt : i < N
        · have hltz : decide ((i : Int) < (N : Int)) = true := zH (by omega)
          have hi255 : i < 255 := by have := HN2.out; omega
          obtain ⟨x, hx⟩ : ∃ x, x = nm 2 st := ⟨_, rfl⟩
          obtain ⟨y, hy⟩ : ∃ y, y = nm 2 x.2 := ⟨_, rfl⟩
          have rx := nm_range 2 (by decide) st
          have ry := nm_range 2 (by decide) x.2
          rw [← hx] at rx
          rw [← hy] at ry
          have hwx : IntKind.i64.wrap x.1 = x.1 := by rw [i64_w]; exact wrap64_id (by omega) (by have := rx.2.2; rw [p256_2] at this; omega)
          have hwy : IntKind.i64.wrap y.1 = y.1 := by rw [i64_w]; exact wrap64_id (by omega) (by have := ry.2.2; rw [p256_2] at this; omega)
          have HX := zA (fun W a0 a1 a2 a3 g (h : HTk w W g st a0 a1 a2 a3) => by have := h.num 2 (by decide); rw [← hx] at this; exact this)
          have HY := zA (fun W a0 a1 a2 a3 g (h : HTk w W g x.2 a0 a1 a2 a3) => by have := h.num 2 (by decide); rw [← hy] at this; exact this)
          have HF2 := zA (show F = spansC (N - (i + 1)) y.2 (acc ++ [⟨x.1, y.1⟩]) from by
            rw [HFF.out, show N - i = (N - (i + 1)) + 1 by omega, spansC, ← hx, ← hy])
          have HGI := zA (show N - i ≤ _ ∧ i < N from ⟨hg, hlt⟩)
          have HAC := zA hac
          clear hx hy rx ry HFF hac hg
          go_upto_region 12 with (fail)
          refine Code.wp_mono (Q := noP _) (fun e a w h => h.2) ?_
          refine start_ (n := 13) (S := fun w' => w'.cell? ⟨w.heap.size, 3, none⟩ = some v ∧ True) (ds := [12]) #[false, false, false, false, false, false, false, false, false, false, false, false, false] (by kernel_rfl) rfl rfl ⟨(zN HK.out.b2 3).trans rfl, trivial⟩ (fun hHeld => ?_)
          generalize hwd : wr.drew = wd
          have HKd := zA (show HTk w wd g5 st (.int .u64 a.1) (.int .i64 b.1) (.int .i64 d.1) v by rw [← hwd]; exact HK.out.past (zK (Below.refl _ _)))
          have HRd := zA (show Kd.R k87 87 wd w.heap.size (fun k => k ≠ g5 ∧ k ≠ w.heap.size ∧ k ≠ w.heap.size + 1) v acc by rw [← hwd]; exact Kd.R_drew HR.out)
          rw [hwd] at hHeld
          clear hwd
          refine pure_ (i := 0) (N := some 39) (v := ?_) (a' := ?_) #[true, false, false, false, false, false, false, false, false, false, false, false, false] rfl rfl (by kernel_rfl) (fun _ _ _ h => noP_no h) (Or.inl ⟨by rfl, ?_⟩) ?_ ?_
          rotate_left
          · intro w'
            go_simp
            try with_reducible rfl
          rotate_left
          · simp only [Act.put, zC, zD, zE, i64_w, i32_w]
            rfl
          refine take_ (i := 1) (N := some 40) (v := ?_) (a' := ?_) #[true, true, false, false, false, false, false, false, false, false, false, false, false] rfl rfl (by kernel_rfl) (fun _ _ _ h => noP_no h) (Or.inl ⟨by rfl, ?_⟩) hHeld ?_ ?_
          rotate_left
          · rintro w' ⟨s0_, s1_⟩
            go_simp
            try with_reducible rfl
          rotate_left
          · simp only [Act.put, zC, zD, zE, i64_w, i32_w]
            rfl
          refine pure_ (i := 2) (N := some 41) (v := ?_) (a' := ?_) #[true, true, true, false, false, false, false, false, false, false, false, false, false] rfl rfl (by kernel_rfl) (fun _ _ _ h => noP_no h) (Or.inl ⟨by rfl, ?_⟩) ?_ ?_
          rotate_left
          · intro w'
            go_simp
            try with_reducible rfl
          rotate_left
          · simp only [Act.put, zC, zD, zE, i64_w, i32_w]
            rfl
          refine pure_ (i := 5) (N := some 44) (v := ?_) (a' := ?_) #[true, true, true, false, false, true, false, false, false, false, false, false, false] rfl rfl (by kernel_rfl) (fun _ _ _ h => noP_no h) (Or.inl ⟨by rfl, ?_⟩) ?_ ?_
          rotate_left
          · intro w'
            go_simp
            try with_reducible rfl
          rotate_left
          · simp only [Act.put, zC, zD, zE, i64_w, i32_w]
            rfl
          refine one_ (i := 3) (N := some 42) #[true, true, true, true, false, true, false, false, false, false, false, false, false] rfl rfl (by kernel_rfl) (by decide) (fun K hK => ?_)
          refine goes_ Tryz.func121 (by kernel_rfl) rfl #[.pointer (some ⟨g5, 0, none⟩), .int .i64 2] (by rfl) rfl rfl (by (try simp only [List.map_toArray, List.map_cons, List.map_nil]); first | done | rfl) ?_
          refine (HX.out _ _ _ _ _ _ HKd.out).mono ?_
          rintro ex w7 ⟨rfl, h7, k7⟩
          have HK7 := zA h7
          have HR7 := zA (Kd.R_keep HRd.out k7 fun k hk => hk.1)
          clear h7 k7
          refine ⟨_, rfl, ?_⟩
          refine hK.out _ _ ⟨(zN HK7.out.b2 3).trans rfl, trivial⟩ (fun hHeld => ?_)
          clear hK K
          refine norm_ (a' := ?_) ?_ ?_
          rotate_left
          · show Act.put _ (some 42) _ = _
            simp only [Act.put, zC, zD, zE]
            rfl
          refine pure_ (i := 4) (N := some 43) (v := ?_) (a' := ?_) #[true, true, true, true, true, true, false, false, false, false, false, false, false] rfl rfl (by kernel_rfl) (fun _ _ _ h => noP_no h) (Or.inl ⟨by rfl, ?_⟩) ?_ ?_
          rotate_left
          · intro w'
            go_simp
            try with_reducible rfl
          rotate_left
          · simp only [Act.put, zC, zD, zE, i64_w, i32_w]
            rfl
          refine one_ (i := 6) (N := some 45) #[true, true, true, true, true, true, true, false, false, false, false, false, false] rfl rfl (by kernel_rfl) (by decide) (fun K hK => ?_)
          refine goes_ Tryz.func121 (by kernel_rfl) rfl #[.pointer (some ⟨g5, 0, none⟩), .int .i64 2] (by rfl) rfl rfl (by (try simp only [List.map_toArray, List.map_cons, List.map_nil]); first | done | rfl) ?_
          refine (HY.out _ _ _ _ _ _ HK7.out).mono ?_
          rintro ex w8 ⟨rfl, h8, k8⟩
          have HK8 := zA h8
          have HR8 := zA (Kd.R_keep HR7.out k8 fun k hk => hk.1)
          clear h8 k8
          refine ⟨_, rfl, ?_⟩
          refine hK.out _ _ ⟨(zN HK8.out.b2 3).trans rfl, trivial⟩ (fun hHeld => ?_)
          clear hK K
          refine norm_ (a' := ?_) ?_ ?_
          rotate_left
          · show Act.put _ (some 45) _ = _
            simp only [Act.put, zC, zD, zE]
            rfl
          refine pure_ (i := 7) (N := some 46) (v := ?_) (a' := ?_) #[true, true, true, true, true, true, true, true, false, false, false, false, false] rfl rfl (by kernel_rfl) (fun _ _ _ h => noP_no h) (Or.inl ⟨by rfl, ?_⟩) ?_ ?_
          rotate_left
          · intro w'
            go_simp
            try with_reducible rfl
          rotate_left
          · simp only [Act.put, zC, zD, zE, i64_w, i32_w]
            rfl
          refine pure_ (i := 8) (N := some 47) (v := ?_) (a' := ?_) #[true, true, true, true, true, true, true, true, true, false, false, false, false] rfl rfl (by kernel_rfl) (fun _ _ _ h => noP_no h) (Or.inl ⟨by rfl, ?_⟩) ?_ ?_
          rotate_left
          · intro w'
            go_simp
            try with_reducible rfl
          rotate_left
          · simp only [Act.put, zC, zD, zE, i64_w, i32_w]
            rfl
          refine one_ (i := 9) (N := some 48) #[true, true, true, true, true, true, true, true, true, true, false, false, false] rfl rfl (by kernel_rfl) (by decide) (fun K hK => ?_)
          refine value_ (w1 := ?_) (v := ?_) (by rfl) rfl ?_ ?_
          rotate_left 2
          · go_simp
            constructor
            · rfl
            · rfl
          have hB8 := zJ (Below.refl _ w8) (.cells #[.int .i64 x.1, .int .i64 y.1] 87)
          refine hK.out _ _ ⟨(zN (HK8.out.past hB8).b2 3).trans rfl, trivial⟩ (fun hHeld => ?_)
          clear hK K
          refine norm_ (a' := ?_) ?_ ?_
          rotate_left
          · show Act.put _ (some 48) _ = _
            simp only [Act.put, zC, zD, zE]
            rfl
          refine one_ (i := 10) (N := some 49) #[true, true, true, true, true, true, true, true, true, true, true, false, false] rfl rfl (by kernel_rfl) (by decide) (fun K hK => ?_)
          refine Kd.R_append_step k87 (w0 := w) w.heap.size (by rfl) (.tmp 40) (.tmp 48) 44 87 (.agg #[(.int .i64 0), (.int .i64 0)]) 16 rfl Tryz.underlying44 info87 rfl (by decide) (by omega) v acc ⟨x.1, y.1⟩ [.int .i64 x.1, .int .i64 y.1] (fun k => k ≠ g5 ∧ k ≠ w.heap.size ∧ k ≠ w.heap.size + 1) (fun _ => False) rfl rfl (k87_mkM _ _ _ _) (fun _ hk => hk.elim) (fun k hk => ?hfr) HR8.out HK8.out.bel HK8.out.bel.size (by have := HAC.out; omega) ?_
          case hfr =>
            have l2 := blk_lt HK8.out.b2
            have l3 := blk_lt HK8.out.b3
            have l5 := HK8.out.rd.lt
            exact ⟨by omega, by omega, by omega⟩
          intro v9 w9 ho hb hg hat
          have l2 := blk_lt HK8.out.b2
          have l3 := blk_lt HK8.out.b3
          have l5 := HK8.out.rd.lt
          have hvn : ∀ k, v.ownBlock = some k → k ≠ g5 ∧ k ≠ w.heap.size ∧ k ≠ w.heap.size + 1 := HR8.out.1
          have HK9 := zA (show HTk w w9 g5 y.2 (.int .u64 a.1) (.int .i64 b.1) (.int .i64 d.1) v from
            ⟨HK8.out.rd.grown hg (fun h => (hvn g5 h.symm).1 rfl), hb, blk_grown HK8.out.b2 hg (fun h => (hvn _ h.symm).2.1 rfl), blk_grown HK8.out.b3 hg (fun h => (hvn _ h.symm).2.2 rfl), HK8.out.n2, HK8.out.n3⟩)
          have HR9 := zA ho
          obtain ⟨A9, c9, rfl⟩ := Kd.R_slice ho
          clear ho hb hg hat hvn
          refine hK.out _ _ ⟨(zN HK9.out.b2 3).trans rfl, trivial⟩ (fun hHeld => ?_)
          clear hK K
          refine norm_ (a' := ?_) ?_ ?_
          rotate_left
          · show Act.put _ (some 49) _ = _
            simp only [Act.put, zC, zD, zE]
            rfl
          refine pure_ (i := 11) (N := some 50) (v := ?_) (a' := ?_) #[true, true, true, true, true, true, true, true, true, true, true, true, false] rfl rfl (by kernel_rfl) (fun _ _ _ h => noP_no h) (Or.inl ⟨by rfl, ?_⟩) ?_ ?_
          rotate_left
          · intro w'
            go_simp
            try with_reducible rfl
          rotate_left
          · simp only [Act.put, zC, zD, zE, i64_w, i32_w]
            rfl
          refine last_ (i := 12) (N := none) #[true, true, true, true, true, true, true, true, true, true, true, true, true] rfl rfl (by kernel_rfl) (by decide) (fun K hK => ?_)
          have hs9 : w9.cell? ⟨w.heap.size, 3, none⟩ = some v := (zN HK9.out.b2 3).trans rfl
          have hf9 := zM HK9.out.b2 3
          refine skip_ (w1 := ?_) (by rfl) rfl ?_ ?_
          rotate_left
          · go_simp
            rfl
          refine hK.out _ _ ?_
          clear hK K
          refine done_ (by kernel_rfl) ?_
          refine ⟨trivial, ?_⟩
          have HK10 := zA (HK9.out.put3 (.slice A9 (acc ++ [(⟨x.1, y.1⟩ : Sp)]).length c9))
          have HR10 := zA (Kd.R_far (p := ⟨w.heap.size, 3, none⟩) HR9.out (fun k hk => hk.2.1) (.slice A9 (acc ++ [(⟨x.1, y.1⟩ : Sp)]).length c9))
          rw [show (acc ++ [(⟨x.1, y.1⟩ : Sp)]).length = acc.length + 1 by simp] at HK10 HR10
          have hwu : IntKind.u64.wrap ((i : Int) + 1) = ((i + 1 : Nat) : Int) := by rw [IntKind.wrap_u64]; omega
          clear hs9 hf9 hHeld
          (try simp only [Exit.inBlock, Exit.then])
          go_wp2
          go_roundg (N - (i + 1))
          case measure => have := HGI.out; omega
          case rel => exact ⟨i + 1, y.2, acc ++ [⟨x.1, y.1⟩], _, by first | rfl | rw [hwu], by have := HGI.out; omega, Nat.le_refl _, by rw [zO, HAC.out]; rfl, HF2, HK10, HR10⟩
        · obtain rfl : i = N := by omega
          have hltz : decide ((i : Int) < (i : Int)) = false := zI (by omega)
          subst hac
          rw [Nat.sub_self] at HFF
          have hFF : F = (acc, st) := HFF.out
          have hp : p = ⟨m.1, ⟨a.1, b.1, d.1, acc⟩, st⟩ := by
            have := HP.out
            rw [← hF0.out, hFF] at this
            exact this
          have hgd : hgood p = (!st.2 && (decide (m.1 = magicL) && (st.1.all (· == 0) && headR ⟨a.1, b.1, d.1, acc⟩))) := by rw [hp]; rfl
          obtain ⟨A9, c9, rfl⟩ := Kd.R_slice HR.out
          obtain ⟨st1, st2⟩ := st
          obtain ⟨hrn, hrc, hrr⟩ := Kd.R_reads' HR.out
          have r0 : wr.cell? ⟨g5, 0, none⟩ = some (.string (B st1)) := (zN HK.out.rd.1 0).trans rfl
          have r1 : wr.cell? ⟨g5, 1, none⟩ = some (.bool st2) := (zN HK.out.rd.1 1).trans rfl
          have k0 := zN HK.out.b2 0
          have k1 := zN HK.out.b2 1
          have k2 := zN HK.out.b2 2
          have k3 := zN HK.out.b2 3
          have k4 := zN HK.out.b3 0
          have q0 := zM HK.out.b2 0
          have q1 := zM HK.out.b2 1
          have q2 := zM HK.out.b2 2
          have q3 := zM HK.out.b2 3
          have q4 := zM HK.out.b3 0
          simp only at hgd
          have HGD := zA hgd
          have HPP := zA hp
          clear hgd hp HFF hrn
          have hSL := zA (show st1.length ≤ 1000000 from by
            have := HLF.out
            rw [hFF] at this
            exact Nat.le_trans this (by decide))
          clear hFF
          have HTR := zA (fun W (h : st1.length ≤ 1000000) => htrim.calls st1 W h)
          have HZ := zA (show hgood p = false → headT s = (HV.zero, 2) from fun h => by rw [HTT.out, if_neg (by rw [h]; decide)])
          have HHR := zA (fun W (hW : Below wr.heap.size wr W) => hright.calls ⟨a.1, b.1, d.1, acc⟩ A9 c9 W (Kd.C_below hrr hW) hrc (by show acc.length ≤ _; have := HN2.out; omega) ⟨by show _ ≤ d.1; have := HRA.out.2.2; omega, by show d.1 ≤ _; have := HRA.out.2.2; omega⟩)
          have hEr : ∀ W', headT s = (HV.zero, 2) → Below w.heap.size w W' → ∃ A c, (Ending.returned (.tuple #[.agg #[.int .u64 0, .int .i64 0, .int .i64 0, .slice none 0 0], .int .i64 2])) = Ending.returned (.tuple #[.agg #[.int .u64 (headT s).1.gen, .int .i64 (headT s).1.sect, .int .i64 (headT s).1.size, .slice A (headT s).1.spans.length c], .int .i64 (headT s).2]) ∧ (headT s).1.spans.length ≤ c ∧ Kd.C k87 (mask (fun k => k < w.heap.size) W') A (headT s).1.spans.length (headT s).1.spans ∧ Below w.heap.size w W' := fun W' h hb => by
            rw [h]
            exact ⟨none, 0, rfl, Nat.le_refl _, Kd.C_nil _ _, hb⟩
          have HER := zA hEr
          clear hEr
          cases st2 with
          | true =>
            have HZA := zA (HZ.out (by rw [HGD.out]; rfl))
            go_wp2
            all_goals (
              change Leaves _ _ _ _ [_] _ _
              exact HK.out.doorE _ 2 (by decide) rfl rfl fun W' hb => HER.out W' HZA.out hb)
          | false =>
            by_cases g1 : m.1 = magicL
            · have n1 : (B magicL).toList = [114, 116, 99, 108] := by rw [B_toList]; rfl
              have hl1 : st1.length ≤ 1000000 := hSL.out
              cases g2 : st1.all (· == 0) with
              | false =>
                have HZA := zA (HZ.out (by rw [HGD.out, zH g1, g2]; rfl))
                have n2 : ¬ (B (Lib.trimB st1 0)).toList = [] := by rw [B_toList, trim_nil, g2]; decide
                clear g2
                go_wp2_with (first
                  | (go_at_call 167; go_loud (refine (HTR.out _ hl1).mono ?_; rintro ex w7 ⟨rfl, ⟨⟨nd, rfl⟩⟩⟩; have HK7 := zA (HK.out.past (zF (Below.refl _ wr) nd)))))
                all_goals (
              change Leaves _ _ _ _ [_] _ _
              exact HK7.out.doorE _ 2 (by decide) rfl rfl fun W' hb => HER.out W' HZA.out hb)
              | true =>
                have n2 : (B (Lib.trimB st1 0)).toList = [] := by rw [B_toList, trim_nil, g2]
                have hHD : hgood p = headR ⟨a.1, b.1, d.1, acc⟩ := by rw [HGD.out, zH g1, g2]; rfl
                clear g2
                cases g3 : headR ⟨a.1, b.1, d.1, acc⟩ with
                | false =>
                  rw [g3] at HHR hHD
                  have HZA := zA (HZ.out hHD)
                  clear hHD g3
                  go_wp2_with (first
                    | (go_at_call 167; go_loud (refine (HTR.out _ hl1).mono ?_; rintro ex w7 ⟨rfl, ⟨⟨nd, rfl⟩⟩⟩; have HK7 := zA (HK.out.past (zF (Below.refl _ wr) nd))))
                    | (go_at_call 109; go_loud (refine (HHR.out _ (zF (Below.refl _ wr) nd)).mono ?_; rintro ex w8 ⟨rfl, hb8⟩; have HK8 := zA (HK7.out.past hb8); clear hb8; have k0 := zN HK8.out.b2 0; have k1 := zN HK8.out.b2 1; have k2 := zN HK8.out.b2 2; have k3 := zN HK8.out.b2 3; have k4 := zN HK8.out.b3 0; have q0 := zM HK8.out.b2 0; have q1 := zM HK8.out.b2 1; have q2 := zM HK8.out.b2 2; have q3 := zM HK8.out.b2 3; have q4 := zM HK8.out.b3 0)))
                  all_goals (
              change Leaves _ _ _ _ [_] _ _
              exact HK8.out.doorE _ 2 (by decide) rfl rfl fun W' hb => HER.out W' HZA.out hb)
                | true =>
                  rw [g3] at HHR hHD
                  have HZA := zA (show headT s = (⟨a.1, b.1, d.1, acc⟩, 0) from by rw [HTT.out, if_pos hHD, HPP.out])
                  clear hHD g3
                  go_wp2_with (first
                    | (go_at_call 167; go_loud (refine (HTR.out _ hl1).mono ?_; rintro ex w7 ⟨rfl, ⟨⟨nd, rfl⟩⟩⟩; have HK7 := zA (HK.out.past (zF (Below.refl _ wr) nd))))
                    | (go_at_call 109; go_loud (refine (HHR.out _ (zF (Below.refl _ wr) nd)).mono ?_; rintro ex w8 ⟨rfl, hb8⟩; have HK8 := zA (HK7.out.past hb8); have HR8 := zA (Kd.R_below (Kd.R_drewN HR.out nd) hb8); clear hb8; have k0 := zN HK8.out.b2 0; have k1 := zN HK8.out.b2 1; have k2 := zN HK8.out.b2 2; have k3 := zN HK8.out.b2 3; have k4 := zN HK8.out.b3 0; have q0 := zM HK8.out.b2 0; have q1 := zM HK8.out.b2 1; have q2 := zM HK8.out.b2 2; have q3 := zM HK8.out.b2 3; have q4 := zM HK8.out.b3 0)))
                  all_goals (
                    change Leaves _ _ _ _ [_] _ _
                    refine HK8.out.doorO _ rfl rfl fun W' hk hsame => ?_
                    rw [HZA.out]
                    have hR9 := Kd.R_move HR8.out (w1 := W') (fun k hk => hsame k hk.2.1 hk.2.2)
                    obtain ⟨A', c', he, h1, h2⟩ := R_mask (T := fun k => k < w.heap.size) hR9 (fun k h _ => by omega)
                    injection he with he1 _ he3
                    subst he1
                    subst he3
                    exact ⟨A9, c9, rfl, h1, h2, hk.bel⟩)
            · have n1 : ¬ (B m.1).toList = [114, 116, 99, 108] := by rw [B_toList]; exact g1
              have HZA := zA (HZ.out (by rw [HGD.out, zI g1]; rfl))
              go_wp2
              all_goals (
              change Leaves _ _ _ _ [_] _ _
              exact HK.out.doorE _ 2 (by decide) rfl rfl fun W' hb => HER.out W' HZA.out hb)
    · have b2 : (e != 0) = true := bne_iff_ne.mpr c2
      have hT : headT s = (HV.zero, e) := by
        unfold headT
        rw [if_neg (by omega), hu, if_pos c2]
      rw [hT]
      clear hT hu
      go_enter_defers Tryz.func119, Tryz.ntmps119
      go_wp2_with (go_at_call 120; go_loud (refine (HS.out _).mono ?_; rintro ex w1 ⟨rfl, hb1⟩; have hB1 := zA (zL (zJ (zJ (Below.refl _ w) (.cells #[.int .u64 0, .int .i64 0, .int .i64 0, .slice none 0 0] 46)) (.cells #[.int .i64 0] 35)) hb1); have hK2 := zA (blk_below (blk_alloc (blk_new w (.cells #[.int .u64 0, .int .i64 0, .int .i64 0, .slice none 0 0] 46)) (.cells #[.int .i64 0] 35)) hb1); have hK3 := zA (blk_below (blk_new (w.alloc (.cells #[.int .u64 0, .int .i64 0, .int .i64 0, .slice none 0 0] 46)) (.cells #[.int .i64 0] 35)) hb1); clear hb1; rw [show (w.alloc (.cells #[.int .u64 0, .int .i64 0, .int .i64 0, .slice none 0 0] 46)).heap.size = w.heap.size + 1 by simp] at hK3; have k0 := zN hK2.out 0; have k1 := zN hK2.out 1; have k2 := zN hK2.out 2; have k3 := zN hK2.out 3; have k4 := zN hK3.out 0; have q0 := zM hK2.out 0; have q1 := zM hK2.out 1; have q2 := zM hK2.out 2; have q3 := zM hK2.out 3; have q4 := zM hK3.out 0))
      have hE := blk_set hK3.out 0 (.int .i64 e)
      have hZ := blk_far hK2.out (p := ⟨w.heap.size + 1, 0, none⟩) (by simp) (.int .i64 e)
      have hBz := zA (below_set hB1.out (show w.heap.size ≤ w.heap.size + 1 by omega) (j := 0) (v := .int .i64 e))
      generalize w1.setCell ⟨w.heap.size + 1, 0, none⟩ (.int .i64 e) = w2 at hE hZ hBz ⊢
      have z0 := zN hZ 0
      have z1 := zN hZ 1
      have z2 := zN hZ 2
      have z3 := zN hZ 3
      have z4 := zN hE 0
      have y0 := zM hZ 0
      have y1 := zM hZ 1
      have y2 := zM hZ 2
      have y3 := zM hZ 3
      have y4 := zM hE 0
      have hne : w.heap.size ≠ w.heap.size + 1 := by omega
      have hne2 : w.heap.size + 1 ≠ w.heap.size := by omega
      have HE := zA hE
      have HZ := zA hZ
      clear hE hZ k0 k1 k2 k3 k4 q0 q1 q2 q3 q4 hB1 hK2 hK3
      go_region
      all_goals go_wp2
      all_goals (
        change Leaves _ _ _ _ [] _ _
        refine htake_leaves _ _ w.heap.size (w.heap.size + 1) (.int .u64 0) (.int .i64 0) (.int .i64 0) (.slice none 0 0) e rfl rfl ?_ ?_ ?_
        · exact blk_drew (blk_far (blk_put4 HZ.out _ _ _ _) hne _)
        · have := blk_set (blk_far4 HE.out hne2 (.int .u64 0) (.int .i64 0) (.int .i64 0) (.slice none 0 0)) 0 (.int .i64 e)
          exact blk_drew (by simpa using this)
        · refine ⟨none, 0, rfl, Nat.le_refl _, Kd.C_nil _ _, ?_⟩
          exact zK (below_set (below_set (below_set (below_set (below_set hBz.out (Nat.le_refl _)) (Nat.le_refl _)) (Nat.le_refl _)) (Nat.le_refl _)) (by omega)))
  · have b1 : (((B s).size : Int) != 64) = true := bne_iff_ne.mpr (by rw [B_size]; omega)
    have b2 : ((s.length : Int) != 64) = true := bne_iff_ne.mpr (by omega)
    have hT : headT s = (HV.zero, 1) := if_pos c1
    rw [hT]
    go_enter_defers Tryz.func119, Tryz.ntmps119
    go_wp2
    have HK3 := blk_new (w.alloc (.cells #[.int .u64 0, .int .i64 0, .int .i64 0, .slice none 0 0] 46)) (.cells #[.int .i64 1] 35)
    rw [show (w.alloc (.cells #[.int .u64 0, .int .i64 0, .int .i64 0, .slice none 0 0] 46)).heap.size = w.heap.size + 1 by simp] at HK3
    change Leaves _ _ _ _ [] _ _
    refine htake_leaves _ _ w.heap.size (w.heap.size + 1) (.int .u64 0) (.int .i64 0) (.int .i64 0) (.slice none 0 0) 1 rfl rfl (blk_alloc (blk_new w _) _) HK3 ?_
    exact ⟨none, 0, rfl, Nat.le_refl _, Kd.C_nil _ _, zJ (zJ (Below.refl _ w) _) _⟩
def chooseV (a b : List UInt8) : HV × Int × Int :=
  if (headT a).2 = 0 then (if (headT b).2 = 0 ∧ (headT a).1.gen < (headT b).1.gen then ((headT b).1, 1, 0) else ((headT a).1, 0, 0)) else (if (headT b).2 = 0 then ((headT b).1, 1, 0) else (HV.zero, 0, 2))
theorem hchoose_ret {R : Ending → World → Prop} (a : Act) (w W : World) (b0 b1 b2 b3 x5 x6 : Value) (hd : a.defers = []) (h4 : a.tmps.getD 4 undef = .pointer (some ⟨w.heap.size, 0, none⟩)) (h5 : a.tmps.getD 5 undef = x5) (h6 : a.tmps.getD 6 undef = x6) (hb : W.heap[w.heap.size]? = some (.cells #[b0, b1, b2, b3] 46 (0, 0))) (hR : R (.returned (.tuple #[.agg #[b0, b1, b2, b3], x5, x6])) W) : bodyPost Tryz.prog Tryz.f62 R .ret a W := by
  have h := results_ctt (fn := Tryz.f62) (P := Tryz.prog) rfl a.tmps W w.heap.size 46 #[b0, b1, b2, b3] (0, 0) _ h4 hb Tryz.underlying46 rfl (by kernel_rfl)
  rw [h5, h6] at h
  exact bodyPost_ret h hd hR
theorem kept_put4 {w W W' : World} {T : Nat → Prop} (h : Kept W W' T) (ht : T w.heap.size) (b0 b1 b2 b3 : Value) : Kept W ((((W'.setCell ⟨w.heap.size, 0, none⟩ b0).setCell ⟨w.heap.size, 1, none⟩ b1).setCell ⟨w.heap.size, 2, none⟩ b2).setCell ⟨w.heap.size, 3, none⟩ b3) T :=
  (((h.setCell (.inl ht) b0).setCell (.inl ht) b1).setCell (.inl ht) b2).setCell (.inl ht) b3
theorem choose_move {w W W' : World} {n : Nat} {b0 b1 b2 b3 : Value} {A : Option Addr} {l : List Sp} (h : Kd.C k87 (mask (fun k => k < n) W) A l.length l) (hb : Below W.heap.size W W') (hn : w.heap.size < n) : Kd.C k87 (mask (fun k => k < w.heap.size) ((((W'.setCell ⟨w.heap.size, 0, none⟩ b0).setCell ⟨w.heap.size, 1, none⟩ b1).setCell ⟨w.heap.size, 2, none⟩ b2).setCell ⟨w.heap.size, 3, none⟩ b3)) A l.length l :=
  mono_span.C (sub_move (T0 := fun k => k = w.heap.size) (kept_put4 (w := w) (T := fun k => k = w.heap.size) (zP hb _) rfl b0 b1 b2 b3) (fun k hk => by omega) (fun k _ hk => by omega)) h
theorem below_put4 {w W : World} (h : Below w.heap.size w W) (b0 b1 b2 b3 : Value) : Below w.heap.size w ((((W.setCell ⟨w.heap.size, 0, none⟩ b0).setCell ⟨w.heap.size, 1, none⟩ b1).setCell ⟨w.heap.size, 2, none⟩ b2).setCell ⟨w.heap.size, 3, none⟩ b3) := below_set (below_set (below_set (below_set h (Nat.le_refl _)) (Nat.le_refl _)) (Nat.le_refl _)) (Nat.le_refl _)
set_option maxHeartbeats 4000000 in
set_option maxRecDepth 100000 in
theorem hchoose.calls (a b : List UInt8) (w : World) (ha : a.length ≤ 100000) (hb : b.length ≤ 100000) :
    Calls Tryz.prog 62 #[.string (B a), .string (B b)] w fun e w' => ∃ A c, e = .returned (.tuple #[.agg #[.int .u64 (chooseV a b).1.gen, .int .i64 (chooseV a b).1.sect, .int .i64 (chooseV a b).1.size, .slice A (chooseV a b).1.spans.length c], .int .i64 (chooseV a b).2.1, .int .i64 (chooseV a b).2.2]) ∧ (chooseV a b).1.spans.length ≤ c ∧ Kd.C k87 (mask (fun k => k < w.heap.size) w') A (chooseV a b).1.spans.length (chooseV a b).1.spans ∧ Below w.heap.size w w' := by
  have HTa := zA (fun W => htake.calls a W ha)
  have HTb := zA (fun W => htake.calls b W hb)
  have HV0 := zA (show chooseV a b = if (headT a).2 = 0 then (if (headT b).2 = 0 ∧ (headT a).1.gen < (headT b).1.gen then ((headT b).1, 1, 0) else ((headT a).1, 0, 0)) else (if (headT b).2 = 0 then ((headT b).1, 1, 0) else (HV.zero, 0, 2)) from rfl)
  generalize chooseV a b = V at HV0 ⊢
  generalize hx : headT a = x at HTa HV0
  generalize hy : headT b = y at HTb HV0
  clear hx hy ha hb
  obtain ⟨⟨xg, xs, xz, xl⟩, xe⟩ := x
  obtain ⟨⟨yg, ys, yz, yl⟩, ye⟩ := y
  simp only at HTa HTb HV0
  have HB0 := zA (zJ (Below.refl _ w) (.cells #[.int .u64 0, .int .i64 0, .int .i64 0, .slice none 0 0] 46))
  have HK0 := zA (blk_new w (.cells #[.int .u64 0, .int .i64 0, .int .i64 0, .slice none 0 0] 46))
  by_cases cx : xe = 0
  · have bx : (xe != 0) = false := bne_eq_false_iff_eq.mpr cx
    have bx2 : (xe == 0) = true := beq_iff_eq.mpr cx
    by_cases cy : ye = 0
    · have by1 : (ye != 0) = false := bne_eq_false_iff_eq.mpr cy
      have by2 : (ye == 0) = true := beq_iff_eq.mpr cy
      by_cases cg : xg < yg
      · have bg : decide (yg > xg) = true := zH cg
        have hV : V = (⟨yg, ys, yz, yl⟩, 1, 0) := by rw [HV0.out, if_pos cx, if_pos ⟨cy, cg⟩]
        rw [hV]
        clear hV
        go_enter Tryz.func62, Tryz.ntmps62
        go_wp2_with (first
          | (go_at_call 119; (with_reducible show Calls _ _ #[.string (B a)] _ _); go_loud (refine (HTa.out _).mono ?_; rintro e w1 ⟨Ax, cx', rfl, hxl, hxc, hb1⟩; have HB1 := zA (zL HB0.out hb1); have HK1 := zA (blk_below HK0.out hb1); have HXC := zA (And.intro hxl hxc); clear hxl hxc hb1))
          | (go_at_call 119; (with_reducible show Calls _ _ #[.string (B b)] _ _); go_loud (refine (HTb.out _).mono ?_; rintro e w2 ⟨Ay, cy', rfl, hyl, hyc, hb2⟩; have hax := zJ (Below.refl _ w1) (.cells #[.int .u64 xg, .int .i64 xs, .int .i64 xz, .slice Ax xl.length cx'] 46); have hay := zJ (Below.refl _ w2) (.cells #[.int .u64 yg, .int .i64 ys, .int .i64 yz, .slice Ay yl.length cy'] 46); have HB2 := zA (zL (zL HB1.out (zL hax hb2)) hay); have HK2 := zA (blk_below (blk_below HK1.out (zL hax hb2)) hay); have HXX := zA (blk_below (blk_below (blk_new w1 (.cells #[.int .u64 xg, .int .i64 xs, .int .i64 xz, .slice Ax xl.length cx'] 46)) hb2) hay); have HYY := zA (blk_new w2 (.cells #[.int .u64 yg, .int .i64 ys, .int .i64 yz, .slice Ay yl.length cy'] 46)); have HXC2 := zA (choose_move (w := w) (b0 := (.int .u64 yg)) (b1 := (.int .i64 ys)) (b2 := (.int .i64 yz)) (b3 := (.slice Ay yl.length cy')) HXC.out.2 (zL (zL hax hb2) hay) (by simp)); have HYC := zA (And.intro hyl (choose_move (w := w) (b0 := (.int .u64 yg)) (b1 := (.int .i64 ys)) (b2 := (.int .i64 yz)) (b3 := (.slice Ay yl.length cy')) hyc hay (by have := HB1.out.size; simp; omega))); have k0 := zN HK2.out 0; have k1 := zN HK2.out 1; have k2 := zN HK2.out 2; have k3 := zN HK2.out 3; have q0 := zM HK2.out 0; have q1 := zM HK2.out 1; have q2 := zM HK2.out 2; have q3 := zM HK2.out 3; have x0 := zN HXX.out 0; have x1 := zN HXX.out 1; have x2 := zN HXX.out 2; have x3 := zN HXX.out 3; have y0 := zN HYY.out 0; have y1 := zN HYY.out 1; have y2 := zN HYY.out 2; have y3 := zN HYY.out 3; clear hyl hyc hb2 hax hay)))
        refine hchoose_ret _ w _ (.int .u64 yg) (.int .i64 ys) (.int .i64 yz) (.slice Ay yl.length cy') _ _ rfl rfl rfl rfl (blk_put4 HK2.out _ _ _ _) ?_
        exact ⟨Ay, cy', rfl, HYC.out.1, HYC.out.2, below_put4 HB2.out _ _ _ _⟩
      · have bg : decide (yg > xg) = false := zI cg
        have hV : V = (⟨xg, xs, xz, xl⟩, 0, 0) := by rw [HV0.out, if_pos cx, if_neg (fun h => cg h.2)]
        rw [hV]
        clear hV
        go_enter Tryz.func62, Tryz.ntmps62
        go_wp2_with (first
          | (go_at_call 119; (with_reducible show Calls _ _ #[.string (B a)] _ _); go_loud (refine (HTa.out _).mono ?_; rintro e w1 ⟨Ax, cx', rfl, hxl, hxc, hb1⟩; have HB1 := zA (zL HB0.out hb1); have HK1 := zA (blk_below HK0.out hb1); have HXC := zA (And.intro hxl hxc); clear hxl hxc hb1))
          | (go_at_call 119; (with_reducible show Calls _ _ #[.string (B b)] _ _); go_loud (refine (HTb.out _).mono ?_; rintro e w2 ⟨Ay, cy', rfl, hyl, hyc, hb2⟩; have hax := zJ (Below.refl _ w1) (.cells #[.int .u64 xg, .int .i64 xs, .int .i64 xz, .slice Ax xl.length cx'] 46); have hay := zJ (Below.refl _ w2) (.cells #[.int .u64 yg, .int .i64 ys, .int .i64 yz, .slice Ay yl.length cy'] 46); have HB2 := zA (zL (zL HB1.out (zL hax hb2)) hay); have HK2 := zA (blk_below (blk_below HK1.out (zL hax hb2)) hay); have HXX := zA (blk_below (blk_below (blk_new w1 (.cells #[.int .u64 xg, .int .i64 xs, .int .i64 xz, .slice Ax xl.length cx'] 46)) hb2) hay); have HYY := zA (blk_new w2 (.cells #[.int .u64 yg, .int .i64 ys, .int .i64 yz, .slice Ay yl.length cy'] 46)); have HXC2 := zA (choose_move (w := w) (b0 := (.int .u64 xg)) (b1 := (.int .i64 xs)) (b2 := (.int .i64 xz)) (b3 := (.slice Ax xl.length cx')) HXC.out.2 (zL (zL hax hb2) hay) (by simp)); have HYC := zA (And.intro hyl (choose_move (w := w) (b0 := (.int .u64 xg)) (b1 := (.int .i64 xs)) (b2 := (.int .i64 xz)) (b3 := (.slice Ax xl.length cx')) hyc hay (by have := HB1.out.size; simp; omega))); have k0 := zN HK2.out 0; have k1 := zN HK2.out 1; have k2 := zN HK2.out 2; have k3 := zN HK2.out 3; have q0 := zM HK2.out 0; have q1 := zM HK2.out 1; have q2 := zM HK2.out 2; have q3 := zM HK2.out 3; have x0 := zN HXX.out 0; have x1 := zN HXX.out 1; have x2 := zN HXX.out 2; have x3 := zN HXX.out 3; have y0 := zN HYY.out 0; have y1 := zN HYY.out 1; have y2 := zN HYY.out 2; have y3 := zN HYY.out 3; clear hyl hyc hb2 hax hay)))
        refine hchoose_ret _ w _ (.int .u64 xg) (.int .i64 xs) (.int .i64 xz) (.slice Ax xl.length cx') _ _ rfl rfl rfl rfl (blk_put4 HK2.out _ _ _ _) ?_
        exact ⟨Ax, cx', rfl, HXC.out.1, HXC2.out, below_put4 HB2.out _ _ _ _⟩
    · have by1 : (ye != 0) = true := bne_iff_ne.mpr cy
      have by2 : (ye == 0) = false := beq_eq_false_iff_ne.mpr cy
      have hV : V = (⟨xg, xs, xz, xl⟩, 0, 0) := by rw [HV0.out, if_pos cx, if_neg (fun h => cy h.1)]
      rw [hV]
      clear hV
      go_enter Tryz.func62, Tryz.ntmps62
      go_wp2_with (first
        | (go_at_call 119; (with_reducible show Calls _ _ #[.string (B a)] _ _); go_loud (refine (HTa.out _).mono ?_; rintro e w1 ⟨Ax, cx', rfl, hxl, hxc, hb1⟩; have HB1 := zA (zL HB0.out hb1); have HK1 := zA (blk_below HK0.out hb1); have HXC := zA (And.intro hxl hxc); clear hxl hxc hb1))
        | (go_at_call 119; (with_reducible show Calls _ _ #[.string (B b)] _ _); go_loud (refine (HTb.out _).mono ?_; rintro e w2 ⟨Ay, cy', rfl, hyl, hyc, hb2⟩; have hax := zJ (Below.refl _ w1) (.cells #[.int .u64 xg, .int .i64 xs, .int .i64 xz, .slice Ax xl.length cx'] 46); have hay := zJ (Below.refl _ w2) (.cells #[.int .u64 yg, .int .i64 ys, .int .i64 yz, .slice Ay yl.length cy'] 46); have HB2 := zA (zL (zL HB1.out (zL hax hb2)) hay); have HK2 := zA (blk_below (blk_below HK1.out (zL hax hb2)) hay); have HXX := zA (blk_below (blk_below (blk_new w1 (.cells #[.int .u64 xg, .int .i64 xs, .int .i64 xz, .slice Ax xl.length cx'] 46)) hb2) hay); have HYY := zA (blk_new w2 (.cells #[.int .u64 yg, .int .i64 ys, .int .i64 yz, .slice Ay yl.length cy'] 46)); have HXC2 := zA (choose_move (w := w) (b0 := (.int .u64 xg)) (b1 := (.int .i64 xs)) (b2 := (.int .i64 xz)) (b3 := (.slice Ax xl.length cx')) HXC.out.2 (zL (zL hax hb2) hay) (by simp)); have HYC := zA (And.intro hyl (choose_move (w := w) (b0 := (.int .u64 xg)) (b1 := (.int .i64 xs)) (b2 := (.int .i64 xz)) (b3 := (.slice Ax xl.length cx')) hyc hay (by have := HB1.out.size; simp; omega))); have k0 := zN HK2.out 0; have k1 := zN HK2.out 1; have k2 := zN HK2.out 2; have k3 := zN HK2.out 3; have q0 := zM HK2.out 0; have q1 := zM HK2.out 1; have q2 := zM HK2.out 2; have q3 := zM HK2.out 3; have x0 := zN HXX.out 0; have x1 := zN HXX.out 1; have x2 := zN HXX.out 2; have x3 := zN HXX.out 3; have y0 := zN HYY.out 0; have y1 := zN HYY.out 1; have y2 := zN HYY.out 2; have y3 := zN HYY.out 3; clear hyl hyc hb2 hax hay)))
      refine hchoose_ret _ w _ (.int .u64 xg) (.int .i64 xs) (.int .i64 xz) (.slice Ax xl.length cx') _ _ rfl rfl rfl rfl (blk_put4 HK2.out _ _ _ _) ?_
      exact ⟨Ax, cx', rfl, HXC.out.1, HXC2.out, below_put4 HB2.out _ _ _ _⟩
  · have bx : (xe != 0) = true := bne_iff_ne.mpr cx
    have bx2 : (xe == 0) = false := beq_eq_false_iff_ne.mpr cx
    by_cases cy : ye = 0
    · have by1 : (ye != 0) = false := bne_eq_false_iff_eq.mpr cy
      have by2 : (ye == 0) = true := beq_iff_eq.mpr cy
      have hV : V = (⟨yg, ys, yz, yl⟩, 1, 0) := by rw [HV0.out, if_neg cx, if_pos cy]
      rw [hV]
      clear hV
      go_enter Tryz.func62, Tryz.ntmps62
      go_wp2_with (first
        | (go_at_call 119; (with_reducible show Calls _ _ #[.string (B a)] _ _); go_loud (refine (HTa.out _).mono ?_; rintro e w1 ⟨Ax, cx', rfl, hxl, hxc, hb1⟩; have HB1 := zA (zL HB0.out hb1); have HK1 := zA (blk_below HK0.out hb1); have HXC := zA (And.intro hxl hxc); clear hxl hxc hb1))
        | (go_at_call 119; (with_reducible show Calls _ _ #[.string (B b)] _ _); go_loud (refine (HTb.out _).mono ?_; rintro e w2 ⟨Ay, cy', rfl, hyl, hyc, hb2⟩; have hax := zJ (Below.refl _ w1) (.cells #[.int .u64 xg, .int .i64 xs, .int .i64 xz, .slice Ax xl.length cx'] 46); have hay := zJ (Below.refl _ w2) (.cells #[.int .u64 yg, .int .i64 ys, .int .i64 yz, .slice Ay yl.length cy'] 46); have HB2 := zA (zL (zL HB1.out (zL hax hb2)) hay); have HK2 := zA (blk_below (blk_below HK1.out (zL hax hb2)) hay); have HXX := zA (blk_below (blk_below (blk_new w1 (.cells #[.int .u64 xg, .int .i64 xs, .int .i64 xz, .slice Ax xl.length cx'] 46)) hb2) hay); have HYY := zA (blk_new w2 (.cells #[.int .u64 yg, .int .i64 ys, .int .i64 yz, .slice Ay yl.length cy'] 46)); have HXC2 := zA (choose_move (w := w) (b0 := (.int .u64 yg)) (b1 := (.int .i64 ys)) (b2 := (.int .i64 yz)) (b3 := (.slice Ay yl.length cy')) HXC.out.2 (zL (zL hax hb2) hay) (by simp)); have HYC := zA (And.intro hyl (choose_move (w := w) (b0 := (.int .u64 yg)) (b1 := (.int .i64 ys)) (b2 := (.int .i64 yz)) (b3 := (.slice Ay yl.length cy')) hyc hay (by have := HB1.out.size; simp; omega))); have k0 := zN HK2.out 0; have k1 := zN HK2.out 1; have k2 := zN HK2.out 2; have k3 := zN HK2.out 3; have q0 := zM HK2.out 0; have q1 := zM HK2.out 1; have q2 := zM HK2.out 2; have q3 := zM HK2.out 3; have x0 := zN HXX.out 0; have x1 := zN HXX.out 1; have x2 := zN HXX.out 2; have x3 := zN HXX.out 3; have y0 := zN HYY.out 0; have y1 := zN HYY.out 1; have y2 := zN HYY.out 2; have y3 := zN HYY.out 3; clear hyl hyc hb2 hax hay)))
      refine hchoose_ret _ w _ (.int .u64 yg) (.int .i64 ys) (.int .i64 yz) (.slice Ay yl.length cy') _ _ rfl rfl rfl rfl (blk_put4 HK2.out _ _ _ _) ?_
      exact ⟨Ay, cy', rfl, HYC.out.1, HYC.out.2, below_put4 HB2.out _ _ _ _⟩
    · have by1 : (ye != 0) = true := bne_iff_ne.mpr cy
      have by2 : (ye == 0) = false := beq_eq_false_iff_ne.mpr cy
      have hV : V = (HV.zero, 0, 2) := by rw [HV0.out, if_neg cx, if_neg cy]
      rw [hV]
      clear hV
      go_enter Tryz.func62, Tryz.ntmps62
      go_wp2_with (first
        | (go_at_call 119; (with_reducible show Calls _ _ #[.string (B a)] _ _); go_loud (refine (HTa.out _).mono ?_; rintro e w1 ⟨Ax, cx', rfl, hxl, hxc, hb1⟩; have HB1 := zA (zL HB0.out hb1); have HK1 := zA (blk_below HK0.out hb1); have HXC := zA (And.intro hxl hxc); clear hxl hxc hb1))
        | (go_at_call 119; (with_reducible show Calls _ _ #[.string (B b)] _ _); go_loud (refine (HTb.out _).mono ?_; rintro e w2 ⟨Ay, cy', rfl, hyl, hyc, hb2⟩; have hax := zJ (Below.refl _ w1) (.cells #[.int .u64 xg, .int .i64 xs, .int .i64 xz, .slice Ax xl.length cx'] 46); have hay := zJ (Below.refl _ w2) (.cells #[.int .u64 yg, .int .i64 ys, .int .i64 yz, .slice Ay yl.length cy'] 46); have HB2 := zA (zL (zL HB1.out (zL hax hb2)) hay); have HK2 := zA (blk_below (blk_below HK1.out (zL hax hb2)) hay); have HXX := zA (blk_below (blk_below (blk_new w1 (.cells #[.int .u64 xg, .int .i64 xs, .int .i64 xz, .slice Ax xl.length cx'] 46)) hb2) hay); have HYY := zA (blk_new w2 (.cells #[.int .u64 yg, .int .i64 ys, .int .i64 yz, .slice Ay yl.length cy'] 46)); have HXC2 := zA (choose_move (w := w) (b0 := (.int .u64 0)) (b1 := (.int .i64 0)) (b2 := (.int .i64 0)) (b3 := (.slice none 0 0)) HXC.out.2 (zL (zL hax hb2) hay) (by simp)); have HYC := zA (And.intro hyl (choose_move (w := w) (b0 := (.int .u64 0)) (b1 := (.int .i64 0)) (b2 := (.int .i64 0)) (b3 := (.slice none 0 0)) hyc hay (by have := HB1.out.size; simp; omega))); have k0 := zN HK2.out 0; have k1 := zN HK2.out 1; have k2 := zN HK2.out 2; have k3 := zN HK2.out 3; have q0 := zM HK2.out 0; have q1 := zM HK2.out 1; have q2 := zM HK2.out 2; have q3 := zM HK2.out 3; have x0 := zN HXX.out 0; have x1 := zN HXX.out 1; have x2 := zN HXX.out 2; have x3 := zN HXX.out 3; have y0 := zN HYY.out 0; have y1 := zN HYY.out 1; have y2 := zN HYY.out 2; have y3 := zN HYY.out 3; clear hyl hyc hb2 hax hay)))
      refine hchoose_ret _ w _ (.int .u64 0) (.int .i64 0) (.int .i64 0) (.slice none 0 0) _ _ rfl rfl rfl rfl (blk_put4 HK2.out _ _ _ _) ?_
      exact ⟨none, 0, rfl, Nat.le_refl _, Kd.C_nil _ _, below_put4 HB2.out _ _ _ _⟩
end Go.Proofs.YtcclaidbikjhiaaGreatDoor.PVo
namespace Go.Proofs.YtcclaidbikjhiaaGreatDoor.Th
open Go.RowKit Go.Proofs.YtcclaidbikjhiaaGreatDoor.PVo Go.Proofs.YtcclaidbikjhiaaGreatDoorW.PrintWords
set_option linter.unusedVariables false
set_option linter.unusedSimpArgs false
theorem less_irrefl (a : List UInt8) : Op.bytesLess a a = false := by
  have := hw_less_asymm a a
  cases h : Op.bytesLess a a with
  | false => rfl
  | true => rw [h] at this; simp at this
theorem less_eq {a b : List UInt8} (h1 : Op.bytesLess a b = false) (h2 : Op.bytesLess b a = false) : a = b := by
  have := hw_less_asymm a b
  rw [h1, h2] at this
  simpa using this
theorem less_asymm {a b : List UInt8} (h1 : Op.bytesLess a b = true) : Op.bytesLess b a = false := by
  have := hw_less_asymm a b
  rw [h1] at this
  simpa using this
theorem less_trans : ∀ (a b c : List UInt8), Op.bytesLess a b = true → Op.bytesLess b c = true → Op.bytesLess a c = true
  | _, _, [], _, h => by cases ‹List UInt8› <;> simp [Op.bytesLess] at h
  | _, [], _ :: _, h, _ => by cases ‹List UInt8› <;> simp [Op.bytesLess] at h
  | [], _ :: _, _ :: _, _, _ => rfl
  | x :: a, y :: b, z :: c, h1, h2 => by
    have ih := less_trans a b c
    simp only [Op.bytesLess, Bool.or_eq_true, Bool.and_eq_true, beq_iff_eq, decide_eq_true_eq] at h1 h2 ⊢
    rcases h1 with h1 | ⟨rfl, h1⟩
    · rcases h2 with h2 | ⟨rfl, h2⟩
      · exact .inl (UInt8.lt_trans h1 h2)
      · exact .inl h1
    · rcases h2 with h2 | ⟨rfl, h2⟩
      · exact .inl h2
      · exact .inr ⟨rfl, ih h1 h2⟩
theorem ba_ext {a b : ByteArray} (h : a.toList = b.toList) : a = b := by
  have h1 : a.data.toList = b.data.toList := by rw [← Lib.toList_data, ← Lib.toList_data]; exact h
  have h2 : a.data = b.data := by rw [← Array.toArray_toList (xs := a.data), h1, Array.toArray_toList]
  cases a; cases b
  simpa using h2
def Sd (l : List Fi) : Prop := l.Pairwise fun a b => aheadN a.f0 b.f0 = true
theorem goB_sd : ∀ (l : List Fi), goB none l = true ↔ (∀ f ∈ l, wellB f = true) ∧ Sd l := by
  have key : ∀ (l : List Fi) (q : ByteArray), goB (some q) l = true ↔ (∀ f ∈ l, wellB f = true) ∧ Sd l ∧ ∀ f ∈ l, aheadN q f.f0 = true := by
    intro l
    induction l with
    | nil => exact fun q => ⟨fun _ => ⟨fun _ h => (nomatch h), List.Pairwise.nil, fun _ h => nomatch h⟩, fun _ => rfl⟩
    | cons f t ih =>
      intro q
      unfold goB
      simp only [Bool.and_eq_true]
      rw [ih f.f0]
      constructor
      · rintro ⟨h1, h2, h3, h4, h5⟩
        refine ⟨fun g hg => ?_, List.pairwise_cons.2 ⟨h5, h4⟩, fun g hg => ?_⟩
        · rcases List.mem_cons.1 hg with rfl | hg
          · exact h1
          · exact h3 g hg
        · rcases List.mem_cons.1 hg with rfl | hg
          · exact h2
          · exact less_trans _ _ _ h2 (h5 g hg)
      · rintro ⟨h1, h2, h3⟩
        obtain ⟨h4, h5⟩ := List.pairwise_cons.1 h2
        exact ⟨h1 f (List.mem_cons_self ..), h3 f (List.mem_cons_self ..), fun g hg => h1 g (List.mem_cons_of_mem _ hg), h5, h4⟩
  intro l
  cases l with
  | nil => exact ⟨fun _ => ⟨fun _ h => (nomatch h), List.Pairwise.nil⟩, fun _ => rfl⟩
  | cons f t =>
    unfold goB
    simp only [Bool.and_eq_true]
    rw [key t f.f0]
    constructor
    · rintro ⟨h1, h3, h4, h5⟩
      refine ⟨fun g hg => ?_, List.pairwise_cons.2 ⟨h5, h4⟩⟩
      rcases List.mem_cons.1 hg with rfl | hg
      · exact h1
      · exact h3 g hg
    · rintro ⟨h1, h2⟩
      obtain ⟨h4, h5⟩ := List.pairwise_cons.1 h2
      exact ⟨h1 f (List.mem_cons_self ..), fun g hg => h1 g (List.mem_cons_of_mem _ hg), h5, h4⟩
theorem dirB_iff (l : List Fi) : dirB l = true ↔ (∀ f ∈ l, wellB f = true) ∧ Sd l ∧ l.length ≤ 120 := by
  unfold dirB
  rw [Bool.and_eq_true, decide_eq_true_eq, goB_sd, and_assoc]
theorem parted (a : ByteArray) : ∀ (l : List Fi), Sd l → ∃ P E S : List Fi, l = P ++ E ++ S ∧ (∀ x ∈ P, aheadN x.f0 a = true) ∧ (∀ x ∈ S, aheadN a x.f0 = true) ∧ (E = [] ∨ ∃ e, E = [e] ∧ e.f0 = a)
  | [], _ => ⟨[], [], [], rfl, fun _ h => (nomatch h), fun _ h => (nomatch h), .inl rfl⟩
  | f :: t, h => by
    obtain ⟨h1, h2⟩ := List.pairwise_cons.1 h
    cases hq : aheadN f.f0 a with
    | true =>
      obtain ⟨P, E, S, e1, e2, e3, e4⟩ := parted a t h2
      refine ⟨f :: P, E, S, by rw [e1]; rfl, fun x hx => ?_, e3, e4⟩
      rcases List.mem_cons.1 hx with rfl | hx
      · exact hq
      · exact e2 x hx
    | false =>
      cases hp : aheadN a f.f0 with
      | true =>
        refine ⟨[], [], f :: t, rfl, fun _ h => (nomatch h), fun x hx => ?_, .inl rfl⟩
        rcases List.mem_cons.1 hx with rfl | hx
        · exact hp
        · exact less_trans _ _ _ hp (h1 x hx)
      | false =>
        have he : f.f0 = a := ba_ext (less_eq hq hp)
        refine ⟨[], [f], t, rfl, fun _ h => (nomatch h), fun x hx => ?_, .inr ⟨f, rfl, he⟩⟩
        rw [← he]
        exact h1 x hx
theorem ahead_ne {a b : ByteArray} (h : aheadN a b = true) : (a.toList == b.toList) = false := by
  rw [beq_eq_false_iff_ne]
  intro e
  unfold aheadN at h
  rw [e, less_irrefl] at h
  cases h
section
variable {a : ByteArray} {P E S : List Fi}
theorem cnt_part (hP : ∀ x ∈ P, aheadN x.f0 a = true) (hS : ∀ x ∈ S, aheadN a x.f0 = true) (hE : E = [] ∨ ∃ e, E = [e] ∧ e.f0 = a) : cntN a (P ++ E ++ S) = P.length := by
  unfold cntN
  rw [List.countP_append, List.countP_append, List.countP_eq_length.2 hP, List.countP_eq_zero (l := S) |>.2 fun x hx => by rw [show aheadN x.f0 a = false from less_asymm (hS x hx)]; decide]
  have : E.countP (fun x => aheadN x.f0 a) = 0 := by
    rcases hE with rfl | ⟨e, rfl, he⟩
    · rfl
    · rw [List.countP_eq_zero]
      intro x hx
      obtain rfl := List.mem_singleton.1 hx
      rw [he, show aheadN a a = false from less_irrefl _]
      decide
  rw [this]
  rfl
theorem is_part (hP : ∀ x ∈ P, aheadN x.f0 a = true) (hS : ∀ x ∈ S, aheadN a x.f0 = true) (hE : E = [] ∨ ∃ e, E = [e] ∧ e.f0 = a) : isN a (P ++ E ++ S) = !E.isEmpty := by
  unfold isN
  rw [cnt_part hP hS hE]
  rcases hE with rfl | ⟨e, rfl, he⟩
  · cases S with
    | nil => simp
    | cons s t =>
      have : rd_T85 (P ++ [] ++ s :: t) (P.length : Int) = s := by rw [List.append_nil]; exact rdF_mid P s t
      rw [this]
      have h1 := hS s (List.mem_cons_self ..)
      have h2 : cmpN s.f0 a = 1 := by unfold cmpN; rw [if_neg (by rw [show aheadN s.f0 a = false from less_asymm h1]; decide), if_pos h1]
      rw [h2]
      simp
  · have : rd_T85 (P ++ [e] ++ S) (P.length : Int) = e := by rw [List.append_assoc]; exact rdF_mid P e S
    rw [this, he]
    have h2 : cmpN a a = 0 := by unfold cmpN; rw [if_neg (by rw [show aheadN a a = false from less_irrefl _]; decide), if_neg (by rw [show aheadN a a = false from less_irrefl _]; decide)]
    rw [h2]
    simp
theorem with_part {f : Fi} (hf : f.f0 = a) (hP : ∀ x ∈ P, aheadN x.f0 a = true) (hS : ∀ x ∈ S, aheadN a x.f0 = true) (hE : E = [] ∨ ∃ e, E = [e] ∧ e.f0 = a) : withV f (P ++ E ++ S) = P ++ f :: S := by
  unfold withV
  rw [hf, is_part hP hS hE, cnt_part hP hS hE]
  rcases hE with rfl | ⟨e, rfl, he⟩
  · rw [if_neg (by decide), List.append_nil, List.take_left, List.drop_left]
  · rw [if_pos (show (![e].isEmpty) = true from rfl), List.append_assoc, List.set_append_right _ _ (Nat.le_refl _), Nat.sub_self]
    rfl
end
theorem find_at {a : ByteArray} {P S : List Fi} {e : Fi} (hP : ∀ x ∈ P, (x.f0.toList == a.toList) = false) (he : e.f0 = a) : findV a (P ++ e :: S) = (e, true) := by
  have : (P ++ e :: S).findIdx? (fun x => x.f0.toList == a.toList) = some P.length := by
    rw [List.findIdx?_append, List.findIdx?_eq_none_iff.2 hP, List.findIdx?_cons, if_pos (by rw [he]; simp)]
    simp
  unfold findV
  rw [this]
  show (rd_T85 (P ++ e :: S) (P.length : Int), true) = _
  rw [rdF_mid P e S]
theorem find_sd {l : List Fi} (h : Sd l) {e : Fi} (he : e ∈ l) : findV e.f0 l = (e, true) := by
  obtain ⟨P, S, rfl⟩ := List.append_of_mem he
  refine find_at (fun x hx => ?_) rfl
  obtain ⟨_, _, h3⟩ := List.pairwise_append.1 h
  exact ahead_ne (h3 x hx e (List.mem_cons_self ..))
theorem mono_sd {l : List Fi} (h : Sd l) (name : ByteArray) : ∀ a b (ha : a < l.length) (hb : b < l.length), a ≤ b → aheadN l[b].f0 name = true → aheadN l[a].f0 name = true := fun a b ha hb hab hq => by
  rcases Nat.lt_or_ge a b with hlt | hge
  · exact less_trans _ _ _ (List.pairwise_iff_getElem.1 h a b ha hb hlt) hq
  · obtain rfl : a = b := by omega
    exact hq
theorem cnt_perm {a b : List Sp} (h : a.Perm b) (x : Int) : cnt a x = cnt b x := h.countP_eq _
theorem outF_iff {size : Int} (h1 : 1 ≤ size) (h2 : size ≤ 8192) (l : List Sp) : outF size l = false ↔ OkL size l := by
  unfold outF OkL
  rw [List.any_eq_false]
  constructor
  · intro h s hs
    have := h s hs
    have h9 : Go.Proofs.YtcclaidbikjhiaaGreatDoor.PVo.insB size s = true := by simpa using this
    exact (insB_iff h1 h2 s).1 h9
  · intro h s hs
    have h9 : Go.Proofs.YtcclaidbikjhiaaGreatDoor.PVo.insB size s = true := (insB_iff h1 h2 s).2 (h s hs)
    simp [h9]
theorem chkF_of_cnt {size : Int} (h2 : size ≤ 8192) : ∀ (l : List Sp) (e : Int), OkL size l → l.Pairwise (fun a b => a.f0 ≤ b.f0) → (∀ x, cnt l x ≤ 1) → (∀ s ∈ l, e ≤ s.f0) → chkF e l = true
  | [], _, _, _, _, _ => rfl
  | s :: t, e, ho, hp, hc, he => by
    obtain ⟨p1, p2⟩ := List.pairwise_cons.1 hp
    have hs := ho.head
    unfold chkF
    rw [if_neg (by have := he s (List.mem_cons_self ..); omega)]
    have hw : wrap64 (s.f0 + s.f1) = s.f0 + s.f1 := by obtain ⟨_, _, _⟩ := hs; unfold wrap64; omega
    rw [hw]
    refine chkF_of_cnt h2 t _ ho.tail p2 (fun x => by have := hc x; rw [cnt_cons] at this; omega) fun u hu => ?_
    rcases Int.lt_or_le u.f0 (s.f0 + s.f1) with hlt | hge
    · have h3 := hc u.f0
      rw [cnt_cons, if_pos ⟨p1 u hu, hlt⟩] at h3
      have h4 := cnt_mem hu (Int.le_refl u.f0) (by have := (ho.tail u hu).1; omega)
      omega
    · exact hge
theorem dis_of_chkF {size : Int} (h2 : size ≤ 8192) : ∀ (l : List Sp) (e : Int), OkL size l → chkF e l = true → Dis l ∧ ∀ s ∈ l, e ≤ s.f0
  | [], _, _, _ => ⟨List.Pairwise.nil, fun _ h => nomatch h⟩
  | s :: t, e, ho, hc => by
    have hs := ho.head
    unfold chkF at hc
    split at hc
    · cases hc
    · rename_i hse
      have hw : wrap64 (s.f0 + s.f1) = s.f0 + s.f1 := by obtain ⟨_, _, _⟩ := hs; unfold wrap64; omega
      rw [hw] at hc
      obtain ⟨hd, hge⟩ := dis_of_chkF h2 t _ ho.tail hc
      refine ⟨List.Pairwise.cons hge hd, fun u hu => ?_⟩
      rcases List.mem_cons.1 hu with rfl | hu
      · omega
      · have := hge u hu; have := hs.1; omega
theorem sorted_bad {l : List Sp} {size : Int} (h : ¬ (Sized size ∧ OkL size l)) : sortedF l size = ([], 11) := by
  unfold sortedF
  rw [if_pos]
  by_cases h1 : Sized size
  · refine .inr (.inr ?_)
    have : ¬ OkL size l := fun k => h ⟨h1, k⟩
    rw [← outF_iff h1.1 h1.2] at this
    simpa using this
  · unfold Sized at h1; omega
theorem sorted_twice {l : List Sp} {size : Int} (h1 : Sized size) (h2 : OkL size l) (h3 : ¬ ∀ x, cnt l x ≤ 1) : sortedF l size = ([], 5) := by
  unfold sortedF
  rw [if_neg (by rw [(outF_iff h1.1 h1.2 l).2 h2]; obtain ⟨_, _⟩ := h1; simp; omega), if_neg]
  intro hc
  have hok := h2.perm (sortF_perm l).symm
  obtain ⟨hd, _⟩ := dis_of_chkF h1.2 _ _ hok hc
  exact h3 fun x => by rw [← cnt_perm (sortF_perm l) x]; exact cnt_dis hok hd x
theorem sorted_ok {l : List Sp} {size : Int} (h1 : Sized size) (h2 : OkL size l) (h3 : ∀ x, cnt l x ≤ 1) : ∃ z, sortedF l size = (z, 0) ∧ OkL size z ∧ Dis z ∧ ∀ x, cnt z x = cnt l x := by
  have hok := h2.perm (sortF_perm l).symm
  have hc := chkF_of_cnt h1.2 (sortF l) 0 hok (sortF_pairwise l) (fun x => by rw [cnt_perm (sortF_perm l) x]; exact h3 x) (fun s hs => (hok s hs).2.1)
  refine ⟨sortF l, ?_, hok, (dis_of_chkF h1.2 _ _ hok hc).1, cnt_perm (sortF_perm l)⟩
  unfold sortedF
  rw [if_neg (by rw [(outF_iff h1.1 h1.2 l).2 h2]; obtain ⟨_, _⟩ := h1; simp; omega), if_pos hc]
theorem getLast_split {α : Type} {l : List α} {t : α} (h : l.getLast? = some t) : l = l.dropLast ++ [t] := by
  rw [List.getLast?_eq_some_iff] at h
  obtain ⟨i, rfl⟩ := h
  simp
theorem joinStep_spec {size : Int} (h2 : size ≤ 8192) {acc : List Sp} {s : Sp} (ha : OkL size acc) (hc : Canon acc) (hs : Ok size s) (he : ∀ a ∈ acc, a.f0 + a.f1 ≤ s.f0) :
    OkL size (joinStep acc s) ∧ Canon (joinStep acc s) ∧ (∀ x, cnt (joinStep acc s) x = cnt acc x + cnt [s] x) ∧ ∀ a ∈ joinStep acc s, a.f0 + a.f1 ≤ s.f0 + s.f1 := by
  unfold joinStep
  split
  · rename_i t ht
    have hsp := getLast_split ht
    generalize acc.dropLast = i at hsp
    subst hsp
    have hto := ha t (by simp)
    obtain ⟨o1, o2, o3⟩ := hto
    obtain ⟨s1, s2, s3⟩ := hs
    have hw : wrap64 (t.f0 + t.f1) = t.f0 + t.f1 := by unfold wrap64; omega
    rw [hw]
    obtain ⟨ci, _, cit⟩ := List.pairwise_append.1 hc
    split
    · rename_i heq
      have hw2 : wrap64 (t.f1 + s.f1) = t.f1 + s.f1 := by unfold wrap64; omega
      rw [hw2]
      refine ⟨OkL.append (fun u hu => ha u (by simp [hu])) (OkL.cons ⟨by show 0 < t.f1 + s.f1; omega, by show 0 ≤ t.f0; omega, by show t.f0 + (t.f1 + s.f1) ≤ size; omega⟩ OkL.nil), ?_, fun x => ?_, fun a h => ?_⟩
      · refine List.pairwise_append.2 ⟨ci, List.pairwise_singleton _ _, fun a h b hb => ?_⟩
        obtain rfl := List.mem_singleton.1 hb
        exact cit a h t (by simp)
      · rw [cnt_append, cnt_append, cnt_one, cnt_one, cnt_one]
        simp only
        split <;> split <;> split <;> omega
      · rcases List.mem_append.1 h with h | h
        · have := cit a h t (by simp)
          omega
        · obtain rfl := List.mem_singleton.1 h
          show t.f0 + (t.f1 + s.f1) ≤ s.f0 + s.f1
          omega
    · rename_i hne
      have := he t (by simp)
      refine ⟨OkL.append ha (OkL.cons ⟨s1, s2, s3⟩ OkL.nil), ?_, fun x => cnt_append _ _ x, fun a h => ?_⟩
      · refine List.pairwise_append.2 ⟨hc, List.pairwise_singleton _ _, fun a h b hb => ?_⟩
        obtain rfl := List.mem_singleton.1 hb
        rcases List.mem_append.1 h with h | h
        · have := cit a h t (by simp)
          omega
        · obtain rfl := List.mem_singleton.1 h
          omega
      · rcases List.mem_append.1 h with h | h
        · have := he a h; omega
        · obtain rfl := List.mem_singleton.1 h
          omega
  · rename_i ht
    have : acc = [] := by simpa using ht
    subst this
    refine ⟨OkL.cons hs OkL.nil, List.pairwise_singleton _ _, fun x => by rw [cnt_nil]; omega, fun a h => ?_⟩
    obtain rfl := List.mem_singleton.1 h
    omega
theorem join_spec {size : Int} (h2 : size ≤ 8192) : ∀ (z acc : List Sp), OkL size acc → Canon acc → OkL size z → Dis z → (∀ a ∈ acc, ∀ b ∈ z, a.f0 + a.f1 ≤ b.f0) →
    OkL size (z.foldl joinStep acc) ∧ Canon (z.foldl joinStep acc) ∧ ∀ x, cnt (z.foldl joinStep acc) x = cnt acc x + cnt z x
  | [], acc, ha, hc, _, _, _ => ⟨ha, hc, fun x => by rw [cnt_nil]; rfl⟩
  | s :: t, acc, ha, hc, hz, hd, he => by
    obtain ⟨d1, d2⟩ := List.pairwise_cons.1 hd
    obtain ⟨j1, j2, j3, j4⟩ := joinStep_spec h2 ha hc hz.head (fun a h => he a h s (List.mem_cons_self ..))
    obtain ⟨k1, k2, k3⟩ := join_spec h2 t _ j1 j2 hz.tail d2 (fun a h b hb => by have := j4 a h; have := d1 b hb; omega)
    refine ⟨k1, k2, fun x => ?_⟩
    rw [List.foldl_cons, k3 x, j3 x, cnt_cons s t x, cnt_one]
    omega
theorem joinF_spec {size : Int} (h2 : size ≤ 8192) {z : List Sp} (hz : OkL size z) (hd : Dis z) : OkL size (joinF z) ∧ Canon (joinF z) ∧ ∀ x, cnt (joinF z) x = cnt z x := by
  obtain ⟨a, b, c⟩ := join_spec h2 z [] OkL.nil List.Pairwise.nil hz hd (fun _ h => nomatch h)
  exact ⟨a, b, fun x => by have := c x; rw [cnt_nil] at this; unfold joinF; omega⟩
theorem gap_spec {size : Int} (h2 : size ≤ 8192) : ∀ (z : List Sp) (at_ : Int) (acc : List Sp), 0 ≤ at_ → OkL size acc → Dis acc → (∀ a ∈ acc, a.f0 + a.f1 ≤ at_) → OkL size z → Dis z → (∀ s ∈ z, at_ ≤ s.f0) →
    ∃ e g, z.foldl gapStep (at_, acc) = (e, acc ++ g) ∧ at_ ≤ e ∧ (at_ ≤ size → e ≤ size) ∧ OkL size (acc ++ g) ∧ Dis (acc ++ g) ∧ (∀ a ∈ acc ++ g, a.f0 + a.f1 ≤ e) ∧ ∀ x, cnt g x + cnt z x = if at_ ≤ x ∧ x < e then 1 else 0
  | [], at_, acc, h0, ha, hd, hl, _, _, _ => ⟨at_, [], by simp, Int.le_refl _, fun h => h, by simpa using ha, by simpa using hd, by simpa using hl, fun x => by rw [cnt_nil, if_neg (by omega)]⟩
  | s :: t, at_, acc, h0, ha, hd, hl, hz, hdz, hge => by
    obtain ⟨d1, d2⟩ := List.pairwise_cons.1 hdz
    obtain ⟨s1, s2, s3⟩ := hz.head
    have hg := hge s (List.mem_cons_self ..)
    have hw : wrap64 (s.f0 + s.f1) = s.f0 + s.f1 := by unfold wrap64; omega
    have hw2 : wrap64 (s.f0 - at_) = s.f0 - at_ := by unfold wrap64; omega
    by_cases hlt : at_ < s.f0
    · have hst : gapStep (at_, acc) s = (s.f0 + s.f1, acc ++ [⟨at_, s.f0 - at_⟩]) := by unfold gapStep; simp only [hw, hw2]; rw [if_pos hlt]
      have ha' : OkL size (acc ++ [(⟨at_, s.f0 - at_⟩ : Sp)]) := OkL.append ha (OkL.cons ⟨by show 0 < s.f0 - at_; omega, h0, by show at_ + (s.f0 - at_) ≤ size; omega⟩ OkL.nil)
      have hd' : Dis (acc ++ [(⟨at_, s.f0 - at_⟩ : Sp)]) := List.pairwise_append.2 ⟨hd, List.pairwise_singleton _ _, fun a h b hb => by obtain rfl := List.mem_singleton.1 hb; exact hl a h⟩
      obtain ⟨e, g, r1, r2, r3, r4, r5, r6, r7⟩ := gap_spec h2 t (s.f0 + s.f1) (acc ++ [⟨at_, s.f0 - at_⟩]) (by omega) ha' hd' (fun a h => by
        rcases List.mem_append.1 h with h | h
        · have := hl a h; omega
        · obtain rfl := List.mem_singleton.1 h
          show at_ + (s.f0 - at_) ≤ _
          omega) hz.tail d2 d1
      refine ⟨e, ⟨at_, s.f0 - at_⟩ :: g, by rw [List.foldl_cons, hst, r1]; simp, by omega, fun _ => r3 (by omega), by simpa using r4, by simpa using r5, by simpa using r6, fun x => ?_⟩
      have := r7 x
      rw [cnt_cons, cnt_cons]
      simp only
      split at this <;> split <;> split <;> split <;> omega
    · have hst : gapStep (at_, acc) s = (s.f0 + s.f1, acc) := by unfold gapStep; simp only [hw, hw2]; rw [if_neg hlt]
      obtain ⟨e, g, r1, r2, r3, r4, r5, r6, r7⟩ := gap_spec h2 t (s.f0 + s.f1) acc (by omega) ha hd (fun a h => by have := hl a h; omega) hz.tail d2 d1
      refine ⟨e, g, by rw [List.foldl_cons, hst, r1], by omega, fun _ => r3 (by omega), r4, r5, r6, fun x => ?_⟩
      have := r7 x
      rw [cnt_cons]
      split at this <;> split <;> split <;> omega
theorem gapsF_spec {size : Int} (h1 : 1 ≤ size) (h2 : size ≤ 8192) {z : List Sp} (hz : OkL size z) (hd : Dis z) : OkL size (gapsF size z) ∧ Dis (gapsF size z) ∧ ∀ x, cnt (gapsF size z) x + cnt z x = if 0 ≤ x ∧ x < size then 1 else 0 := by
  obtain ⟨e, g, r1, r2, r3, r4, r5, r6, r7⟩ := gap_spec h2 z 0 [] (Int.le_refl _) OkL.nil List.Pairwise.nil (fun _ h => nomatch h) hz hd (fun s hs => (hz s hs).2.1)
  have hes := r3 (by omega)
  unfold gapsF
  rw [r1]
  simp only [List.nil_append] at r4 r5 r6 ⊢
  have hw : wrap64 (size - e) = size - e := by unfold wrap64; omega
  rw [hw]
  split
  · rename_i hlt
    refine ⟨OkL.append r4 (OkL.cons ⟨by show 0 < size - e; omega, r2, by show e + (size - e) ≤ size; omega⟩ OkL.nil), List.pairwise_append.2 ⟨r5, List.pairwise_singleton _ _, fun a h b hb => by obtain rfl := List.mem_singleton.1 hb; exact r6 a h⟩, fun x => ?_⟩
    have := r7 x
    rw [cnt_append, cnt_one]
    simp only
    split at this <;> split <;> split <;> omega
  · refine ⟨r4, r5, fun x => ?_⟩
    rw [r7 x]
    split <;> split <;> omega
theorem norm_bad {l : List Sp} {size : Int} (hl : l.length < 8796092000000) (h : ¬ (Sized size ∧ OkL size l)) : span_Norm.f l size = some ([], 11) ∧ span_Rest.f l size = some ([], 11) := by
  unfold span_Norm.f span_Rest.f
  rw [if_pos hl, if_pos hl, sorted_bad h]
  exact ⟨rfl, rfl⟩
theorem norm_twice {l : List Sp} {size : Int} (hl : l.length < 8796092000000) (h1 : Sized size) (h2 : OkL size l) (h3 : ¬ ∀ x, cnt l x ≤ 1) : span_Norm.f l size = some ([], 5) ∧ span_Rest.f l size = some ([], 5) := by
  unfold span_Norm.f span_Rest.f
  rw [if_pos hl, if_pos hl, sorted_twice h1 h2 h3]
  exact ⟨rfl, rfl⟩
theorem norm_ok {l : List Sp} {size : Int} (hl : l.length < 8796092000000) (h1 : Sized size) (h2 : OkL size l) (h3 : ∀ x, cnt l x ≤ 1) :
    ∃ a b, span_Norm.f l size = some (a, 0) ∧ span_Rest.f l size = some (b, 0) ∧ OkL size a ∧ Canon a ∧ (∀ x, cnt a x = cnt l x) ∧ OkL size b ∧ Canon b ∧ ∀ x, cnt b x + cnt l x = if 0 ≤ x ∧ x < size then 1 else 0 := by
  obtain ⟨z, e, z1, z2, z3⟩ := sorted_ok h1 h2 h3
  obtain ⟨j1, j2, j3⟩ := joinF_spec h1.2 z1 z2
  obtain ⟨g1, g2, g3⟩ := gapsF_spec h1.1 h1.2 z1 z2
  obtain ⟨k1, k2, k3⟩ := joinF_spec h1.2 g1 g2
  refine ⟨joinF z, joinF (gapsF size z), ?_, ?_, j1, j2, fun x => by rw [j3, z3], k1, k2, fun x => by rw [k3, ← z3]; exact g3 x⟩
  · unfold span_Norm.f; rw [if_pos hl, e]; rfl
  · unfold span_Rest.f; rw [if_pos hl, e]; rfl
def takeStep (st : Int × List Sp × List Sp) (s : Sp) : Int × List Sp × List Sp :=
  (wrap64 (st.1 - mn st.1 s.f1), (if mn st.1 s.f1 > 0 then st.2.1 ++ [⟨s.f0, mn st.1 s.f1⟩] else st.2.1), (if mn st.1 s.f1 < s.f1 then st.2.2 ++ [⟨wrap64 (s.f0 + mn st.1 s.f1), wrap64 (s.f1 - mn st.1 s.f1)⟩] else st.2.2))
theorem takeStep_len (st : Int × List Sp × List Sp) (s : Sp) : (takeStep st s).2.1.length ≤ st.2.1.length + 1 ∧ (takeStep st s).2.2.length ≤ st.2.2.length + 1 := by
  unfold takeStep
  constructor
  · simp only; split <;> simp
  · simp only; split <;> simp
def takeF (l : List Sp) (n : Int) : List Sp × List Sp × Bool :=
  if n < 0 ∨ totF l < n then ([], [], false) else ((l.foldl takeStep (n, [], [])).2.1, (l.foldl takeStep (n, [], [])).2.2, true)
theorem take_ev (l : List Sp) (n : Int) (hl : l.length < 8796093000000) : Evt (fun k => span_Take.f k l n) (takeF l n) := by
  unfold span_Take.f takeF
  by_cases h1 : n < 0
  · refine Evt.pos h1 (Evt.step (fun k => by rw [span_Take.j0]) (Evt.pos rfl (Evt.val' ?_)))
    rw [if_pos (.inl h1)]
  · refine Evt.neg h1 (Evt.bind (total_ev l (by omega)) (Evt.step (fun k => by rw [span_Take.j0]) ?_))
    by_cases h2 : totF l < n
    · refine Evt.pos (by simpa using h2) (Evt.val' ?_)
      rw [if_pos (.inr h2)]
    · refine Evt.neg (by simpa using h2) ?_
      rw [if_neg (by omega)]
      have key : ∀ m i : Nat, ∀ st : Int × List Sp × List Sp, l.length - i = m → i ≤ l.length → st.2.1.length ≤ i → st.2.2.length ≤ i →
          Evt (fun k => span_Take.l0 k st.1 st.2.1 st.2.2 l (l.length : Int) (i : Int)) (((l.drop i).foldl takeStep st).2.1, ((l.drop i).foldl takeStep st).2.2, true) := by
        intro m
        induction m with
        | zero =>
          intro i st hn hi _ _
          refine Evt.step (fun k => by rw [span_Take.l0]) (Evt.neg (by omega) (Evt.val' ?_))
          rw [List.drop_eq_nil_of_le (by omega)]; rfl
        | succ m ih =>
          intro i st hn hi g1 g2
          have hlt : i < l.length := by omega
          have hi' : i < 8796093022208 := by omega
          have g1' : st.2.1.length < 8796093022208 := Nat.lt_of_le_of_lt g1 hi'
          have g2' : st.2.2.length < 8796093022208 := Nat.lt_of_le_of_lt g2 hi'
          have hrec := ih (i + 1) (takeStep st l[i]) (by omega) (by omega) (Nat.le_trans (takeStep_len st l[i]).1 (Nat.succ_le_succ g1)) (Nat.le_trans (takeStep_len st l[i]).2 (Nat.succ_le_succ g2))
          rw [List.drop_eq_getElem_cons hlt, List.foldl_cons]
          generalize hR : (((l.drop (i + 1)).foldl takeStep (takeStep st l[i])).2.1, ((l.drop (i + 1)).foldl takeStep (takeStep st l[i])).2.2, true) = R at hrec ⊢
          have j2 : ∀ a : List Sp, a = (takeStep st l[i]).2.1 → Evt (fun k => span_Take.j2 k (wrap64 (st.1 - mn st.1 l[i].f1)) a st.2.2 (mn st.1 l[i].f1) l (l.length : Int) (i : Int) l[i].f0 l[i].f1) R := by
            intro a ea
            refine Evt.step (fun k => by rw [span_Take.j2]) ?_
            have hw : wrap64 ((i : Int) + 1) = ((i + 1 : Nat) : Int) := by rw [wrap64_id (by omega) (by omega)]; rfl
            by_cases c : mn st.1 l[i].f1 < l[i].f1
            · refine Evt.pos c (Evt.pos g2' ?_)
              rw [hw, ea]
              have e2 : (takeStep st l[i]).2.2 = st.2.2 ++ [⟨wrap64 (l[i].f0 + mn st.1 l[i].f1), wrap64 (l[i].f1 - mn st.1 l[i].f1)⟩] := by unfold takeStep; exact if_pos c
              rw [← e2]
              exact hrec
            · refine Evt.neg c ?_
              rw [hw, ea]
              have e2 : (takeStep st l[i]).2.2 = st.2.2 := by unfold takeStep; exact if_neg c
              rw [← e2]
              exact hrec
          refine Evt.step (fun k => by rw [span_Take.l0]) ?_
          refine Evt.pos (by omega) (Evt.pos (by omega) (Evt.pos (by omega) ?_))
          rw [rd_T87_get l i hlt]
          by_cases c : mn st.1 l[i].f1 > 0
          · exact Evt.pos c (Evt.pos g1' (j2 _ (by unfold takeStep; exact (if_pos c).symm)))
          · exact Evt.neg c (j2 _ (by unfold takeStep; exact (if_neg c).symm))
      exact key _ 0 (n, [], []) rfl (Nat.zero_le _) (by simp) (by simp)
def tk : Int → List Sp → List Sp × List Sp
  | _, [] => ([], [])
  | n, s :: t => if n ≤ 0 then ([], s :: t) else if n < s.f1 then ([⟨s.f0, n⟩], ⟨s.f0 + n, s.f1 - n⟩ :: t) else (s :: (tk (n - s.f1) t).1, (tk (n - s.f1) t).2)
theorem tk_zero {n : Int} (h : n ≤ 0) (l : List Sp) : tk n l = ([], l) := by
  cases l with
  | nil => rfl
  | cons s t => unfold tk; rw [if_pos h]
theorem takeStep_fold {size : Int} (h2 : size ≤ 8192) : ∀ (l : List Sp) (n : Int) (a b : List Sp), OkL size l → 0 ≤ n → n < 4611686018427387904 →
    (l.foldl takeStep (n, a, b)).2 = (a ++ (tk n l).1, b ++ (tk n l).2)
  | [], n, a, b, _, _, _ => by simp [tk]
  | s :: t, n, a, b, h, h0, hb => by
    obtain ⟨s1, s2, s3⟩ := h.head
    rw [List.foldl_cons]
    unfold tk
    by_cases hn : n ≤ 0
    · have e0 : n = 0 := by omega
      subst e0
      have hm : mn 0 s.f1 = 0 := by unfold mn; rw [if_neg (by omega)]
      have hst : takeStep (0, a, b) s = (0, a, b ++ [s]) := by
        unfold takeStep
        simp only [hm]
        rw [if_neg (by omega), if_pos (by omega), wrap64_id (n := 0 - 0) (by omega) (by omega), wrap64_id (n := s.f0 + 0) (by omega) (by omega), wrap64_id (n := s.f1 - 0) (by omega) (by omega)]
        simp
      rw [hst, takeStep_fold h2 t 0 a _ h.tail (by omega) (by omega), if_pos hn, tk_zero (Int.le_refl _)]
      simp
    · rw [if_neg hn]
      by_cases hlt : n < s.f1
      · have hm : mn n s.f1 = n := by unfold mn; rw [if_neg (by omega)]
        have hst : takeStep (n, a, b) s = (0, a ++ [⟨s.f0, n⟩], b ++ [⟨s.f0 + n, s.f1 - n⟩]) := by
          unfold takeStep
          simp only [hm]
          rw [if_pos (by omega), if_pos (by omega), wrap64_id (n := n - n) (by omega) (by omega), wrap64_id (n := s.f0 + n) (by omega) (by omega), wrap64_id (n := s.f1 - n) (by omega) (by omega)]
          simp
        rw [hst, takeStep_fold h2 t 0 _ _ h.tail (by omega) (by omega), if_pos hlt, tk_zero (Int.le_refl _)]
        simp
      · have hm : mn n s.f1 = s.f1 := by unfold mn; split <;> omega
        have hst : takeStep (n, a, b) s = (n - s.f1, a ++ [s], b) := by
          unfold takeStep
          simp only [hm]
          rw [if_pos (by omega), if_neg (by omega), wrap64_id (by omega) (by omega)]
        rw [hst, takeStep_fold h2 t _ _ _ h.tail (by omega) (by omega), if_neg hlt]
        simp
theorem takeF_ok {size : Int} (h2 : size ≤ 8192) {l : List Sp} {n : Int} (ho : OkL size l) (h0 : 0 ≤ n) (hb : n < 4611686018427387904) (ht : n ≤ totF l) : takeF l n = ((tk n l).1, (tk n l).2, true) := by
  unfold takeF
  rw [if_neg (by omega)]
  have := takeStep_fold h2 l n [] [] ho h0 hb
  rw [this]
  simp
theorem tk_spec {size : Int} : ∀ (l : List Sp) (n : Int), OkL size l → Canon l → 0 ≤ n → n ≤ sumF l →
    OkL size (tk n l).1 ∧ Canon (tk n l).1 ∧ OkL size (tk n l).2 ∧ Canon (tk n l).2 ∧ (∀ x, cnt (tk n l).1 x + cnt (tk n l).2 x = cnt l x) ∧ sumF (tk n l).1 = n ∧ sumF (tk n l).2 = sumF l - n ∧
    (∀ a ∈ (tk n l).1, ∃ s ∈ l, a.f0 = s.f0) ∧ (∀ a ∈ (tk n l).1, ∀ b ∈ (tk n l).2, a.f0 + a.f1 ≤ b.f0) ∧ (∀ a ∈ (tk n l).2, ∃ s ∈ l, s.f0 ≤ a.f0)
  | [], n, _, _, h0, hn => by
    simp only [sumF] at hn
    simp only [tk, sumF]
    exact ⟨OkL.nil, List.Pairwise.nil, OkL.nil, List.Pairwise.nil, fun x => rfl, by omega, by omega, fun _ h => (nomatch h), fun _ h => (nomatch h), fun _ h => (nomatch h)⟩
  | s :: t, n, ho, hc, h0, hn => by
    obtain ⟨c1, c2⟩ := List.pairwise_cons.1 hc
    obtain ⟨s1, s2, s3⟩ := ho.head
    unfold tk
    by_cases hz : n ≤ 0
    · rw [if_pos hz]
      refine ⟨OkL.nil, List.Pairwise.nil, ho, hc, fun x => by show cnt [] x + cnt (s :: t) x = _; rw [cnt_nil]; omega, by simp only [sumF]; omega, by show sumF (s :: t) = sumF (s :: t) - n; omega, fun _ h => (nomatch h), fun _ h => (nomatch h), fun a h => ⟨a, h, Int.le_refl _⟩⟩
    · rw [if_neg hz]
      by_cases hlt : n < s.f1
      · rw [if_pos hlt]
        refine ⟨OkL.cons ⟨by show 0 < n; omega, s2, by show s.f0 + n ≤ size; omega⟩ OkL.nil, List.pairwise_singleton _ _, OkL.cons ⟨by show 0 < s.f1 - n; omega, by show 0 ≤ s.f0 + n; omega, by show s.f0 + n + (s.f1 - n) ≤ size; omega⟩ ho.tail,
          List.Pairwise.cons (fun b hb => by have := c1 b hb; show s.f0 + n + (s.f1 - n) < b.f0; omega) c2, fun x => ?_, by simp only [sumF]; omega, by simp only [sumF]; omega, fun a h => ?_, fun a h b hb => ?_, fun a h => ?_⟩
        · rw [cnt_one, cnt_cons, cnt_cons]
          simp only
          split <;> split <;> split <;> omega
        · obtain rfl := List.mem_singleton.1 h
          exact ⟨s, List.mem_cons_self .., rfl⟩
        · obtain rfl := List.mem_singleton.1 h
          show s.f0 + n ≤ b.f0
          rcases List.mem_cons.1 hb with rfl | hb
          · exact Int.le_refl _
          · have := c1 b hb; omega
        · rcases List.mem_cons.1 h with rfl | h
          · exact ⟨s, List.mem_cons_self .., by show s.f0 ≤ s.f0 + n; omega⟩
          · exact ⟨a, List.mem_cons_of_mem _ h, Int.le_refl _⟩
      · rw [if_neg hlt]
        have hn' : n - s.f1 ≤ sumF t := by simp only [sumF] at hn; omega
        obtain ⟨k1, k2, k3, k4, k5, k6, k7, k8, k9, k10⟩ := tk_spec t (n - s.f1) ho.tail c2 (by omega) hn'
        refine ⟨OkL.cons ho.head k1, List.Pairwise.cons (fun b hb => by obtain ⟨u, hu, e⟩ := k8 b hb; have := c1 u hu; omega) k2, k3, k4, fun x => ?_, by simp only [sumF]; omega, by simp only [sumF]; omega, fun a h => ?_, fun a h b hb => ?_, fun a h => ?_⟩
        · have := k5 x
          show cnt (s :: (tk (n - s.f1) t).1) x + cnt (tk (n - s.f1) t).2 x = cnt (s :: t) x
          rw [cnt_cons, cnt_cons s t]
          omega
        · rcases List.mem_cons.1 h with rfl | h
          · exact ⟨_, List.mem_cons_self .., rfl⟩
          · obtain ⟨u, hu, e⟩ := k8 a h
            exact ⟨u, List.mem_cons_of_mem _ hu, e⟩
        · rcases List.mem_cons.1 h with rfl | h
          · obtain ⟨u, hu, e⟩ := k10 b hb
            have := c1 u hu
            omega
          · exact k9 a h b hb
        · obtain ⟨u, hu, e⟩ := k10 a h
          exact ⟨u, List.mem_cons_of_mem _ hu, e⟩
theorem tk_len (l : List Sp) : ∀ n : Int, (tk n l).1.length ≤ l.length ∧ (tk n l).2.length ≤ l.length := by
  induction l with
  | nil => intro n; simp [tk]
  | cons s t ih =>
    intro n
    unfold tk
    split
    · simp
    · split
      · simp
      · have := ih (n - s.f1)
        simp only [List.length_cons]
        omega
theorem sumF_of_cnt {size : Int} {a b : List Sp} (ha : OkL size a) (hb : OkL size b) (h : ∀ x, cnt a x = cnt b x) : sumF a = sumF b := by
  obtain ⟨a1, a2⟩ := cnt_sum ha
  obtain ⟨b1, b2⟩ := cnt_sum hb
  have : ((List.range size.toNat).map fun (i : Nat) => cnt a (i : Int)) = ((List.range size.toNat).map fun (i : Nat) => cnt b (i : Int)) := List.map_congr_left fun i _ => h _
  rw [this, b1] at a1
  omega
theorem sumF_compl {size : Int} (h1 : 0 ≤ size) {a b : List Sp} (ha : OkL size a) (hb : OkL size b) (h : ∀ x, cnt b x + cnt a x = if 0 ≤ x ∧ x < size then 1 else 0) : sumF a + sumF b = size := by
  obtain ⟨a1, a2⟩ := cnt_sum ha
  obtain ⟨b1, b2⟩ := cnt_sum hb
  have e := sum_map_add (fun (i : Nat) => cnt a (i : Int)) (fun (i : Nat) => cnt b (i : Int)) (List.range size.toNat)
  have e2 : ((List.range size.toNat).map fun (i : Nat) => cnt a (i : Int) + cnt b (i : Int)) = ((List.range size.toNat).map fun _ => 1) := List.map_congr_left fun i hi => by
    have := List.mem_range.1 hi
    have := h (i : Int)
    rw [if_pos (by omega)] at this
    omega
  rw [e2, sum_const_one, a1, b1] at e
  omega
open Go.RowKit Go.Proofs.YtcclaidbikjhiaaGreatDoor.PVo
def usedV (l : List Fi) : List Sp := l.flatMap fun f => f.f2
theorem used_len {l : List Fi} (h : BdL l) : (usedV l).length ≤ 100000 * l.length := by
  replace h := h.2
  induction l with
  | nil => exact Nat.zero_le _
  | cons f t ih =>
    have h1 := (h f (List.mem_cons_self ..)).2
    have h2 := ih (fun u hu => h u (List.mem_cons_of_mem _ hu))
    show (f.f2 ++ usedV t).length ≤ _
    rw [zO, List.length_cons]
    omega
theorem used_ev (l : List Fi) (hb : BdL l) : Evt (fun k => dir_Used.f k l) (usedV l) := by
  have hl := hb.1
  have hu := used_len hb
  have key : ∀ r d : List Fi, l = d ++ r → Evt (fun k => dir_Used.l0 k (usedV d) l (l.length : Int) (d.length : Int)) (usedV l) := by
    intro r
    induction r with
    | nil =>
      intro d hd
      rw [List.append_nil] at hd
      subst hd
      refine Evt.step (fun k => by rw [dir_Used.l0]) ?_
      exact Evt.neg (by omega) (Evt.val _)
    | cons f r ih =>
      intro d hd
      have hlen : l.length = d.length + (r.length + 1) := by rw [hd]; simp
      have hr1 : rd_T85 l (d.length : Int) = f := by
        have := rdF_mid d f r
        rwa [← hd] at this
      have hsum : (usedV d).length + f.f2.length ≤ (usedV l).length := by
        rw [hd]
        unfold usedV
        rw [List.flatMap_append, List.flatMap_cons]
        simp only [zO]
        omega
      refine Evt.step (fun k => by rw [dir_Used.l0]) ?_
      refine Evt.pos (by omega) ?_
      refine Evt.pos (by omega) ?_
      refine Evt.pos (by omega) ?_
      rw [hr1]
      refine Evt.pos (by omega) ?_
      rw [idx _ (by omega)]
      have := ih (d ++ [f]) (by rw [hd]; simp)
      rw [zO] at this
      rw [show usedV d ++ f.f2 = usedV (d ++ [f]) by unfold usedV; rw [List.flatMap_append]; simp]
      exact this
  unfold dir_Used.f
  exact key l [] rfl
end Go.Proofs.YtcclaidbikjhiaaGreatDoor.Th
namespace Go.Proofs.YtcclaidbikjhiaaGreatDoor.PVo
open Go.RowKit Go.Proofs.YtcclaidbikjhiaaGreatDoorW.PrintWords Go.Proofs.YtcclaidbikjhiaaGreatDoorW.PrintLast Go.Proofs.YtcclaidbikjhiaaGreatDoorW.PrintMore Go.Proofs.YtcclaidbikjhiaaGreatDoor.Th
attribute [local go_sem] max2_int min2_int max_two min_two max_three min_three max_four min_four
set_option linter.unusedVariables false
set_option linter.unusedSimpArgs false
structure VV where
  l : List Fi
  h : HV
  slot : Int
  began : Int
structure TV where
  l : List Fi
  no : Int
  free : List Sp
  done : Bool
def restV (l : List Sp) (size : Int) : List Sp := if (sortedF l size).2 = 0 then joinF (gapsF size (sortedF l size).1) else []
theorem rest_f (l : List Sp) (size : Int) (hl : l.length < 8796092000000) : span_Rest.f l size = some (restV l size, (sortedF l size).2) := by
  unfold span_Rest.f restV
  rw [if_pos hl]
  by_cases h : (sortedF l size).2 = 0
  · rw [if_pos h, if_pos h, h]
  · rw [if_neg h, if_neg h]
def freeV (V : VV) : List Sp := restV (usedV V.l ++ (V.h.spans ++ [(⟨0, 2⟩ : Sp)])) V.h.sect
def volCells (gd : Nat) (V : VV) (A : Option Addr) (c : Nat) (B : Option Addr) (d : Nat) : Array Value := #[.pointer (some ⟨gd, 0, none⟩), .slice A V.l.length c, .int .u64 V.h.gen, .int .i64 V.h.sect, .int .i64 V.h.size, .slice B V.h.spans.length d, .int .i64 V.slot, .int .i64 V.began]
theorem three_rows {W : World} {g : Nat} {A B C : Option Addr} {a b c : Nat} {x y z : List Sp} (hg : W.heap[g]? = some (.cells #[.slice A x.length a, .slice B y.length b, .slice C z.length c] 44 (0, 0))) (ha : x.length ≤ a) (hb : y.length ≤ b) (hc : z.length ≤ c) (h1 : Kd.C k87 W A x.length x) (h2 : Kd.C k87 W B y.length y) (h3 : Kd.C k87 W C z.length z) : Kd.C (Kd.slice 87 k87) W (some ⟨g, 0, none⟩) [x, y, z].length [x, y, z] := by
  refine ⟨rfl, by simp, fun _ => ⟨_, rfl, fun j p hj => ?_⟩⟩
  have cell : ∀ i, W.cell? ((⟨g, 0, none⟩ : Addr).add i) = (#[Value.slice A x.length a, .slice B y.length b, .slice C z.length c])[i]? := fun i => by rw [add_plain]; exact zN hg i
  match j, hj with
  | 0, hj =>
    obtain rfl : x = p := by simpa using hj
    exact ⟨[.slice A x.length a], rfl, ⟨A, a, rfl, ha, h1⟩, fun i u hu => by
      match i, hu with
      | 0, hu => rw [cell]; simpa using hu
      | i + 1, hu => simp at hu⟩
  | 1, hj =>
    obtain rfl : y = p := by simpa using hj
    exact ⟨[.slice B y.length b], rfl, ⟨B, b, rfl, hb, h2⟩, fun i u hu => by
      match i, hu with
      | 0, hu => rw [show 1 * (Kd.slice 87 k87).sz + 0 = 1 from rfl, cell]; simpa using hu
      | i + 1, hu => simp at hu⟩
  | 2, hj =>
    obtain rfl : z = p := by simpa using hj
    exact ⟨[.slice C z.length c], rfl, ⟨C, c, rfl, hc, h3⟩, fun i u hu => by
      match i, hu with
      | 0, hu => rw [show 2 * (Kd.slice 87 k87).sz + 0 = 2 from rfl, cell]; simpa using hu
      | i + 1, hu => simp at hu⟩
  | j + 3, hj => simp at hj
theorem lit_row {W : World} {g : Nat} (h : W.heap[g]? = some (.cells #[.int .i64 0, .int .i64 2] 87 (0, 0))) : Kd.C k87 W (some ⟨g, 0, none⟩) [(⟨0, 2⟩ : Sp)].length [⟨0, 2⟩] := by
  refine ⟨rfl, by simp, fun _ => ⟨_, rfl, fun j p hj => ?_⟩⟩
  match j, hj with
  | 0, hj =>
    obtain rfl : (⟨0, 2⟩ : Sp) = p := by simpa using hj
    exact ⟨[.int .i64 0, .int .i64 2], rfl, k87_mk _ _, fun i u hu => by
      rw [add_plain, show 0 * (k87).sz + i = i by omega, zN h]
      match i, hu with
      | 0, hu => simpa using hu
      | 1, hu => simpa using hu
      | i + 2, hu => simp at hu⟩
  | j + 1, hj => simp at hj
theorem blk_new2 (w : World) {o : Obj} (o' : Obj) {cs : Array Value} {t : TypeId} (ho : o = .cells cs t := by rfl) : ((w.alloc o').alloc o).heap[w.heap.size + 1]? = some (.cells cs t (0, 0)) := by
  subst ho
  have := blk_new (w.alloc o') (.cells cs t)
  rwa [show (w.alloc o').heap.size = w.heap.size + 1 by simp] at this
set_option maxHeartbeats 4000000 in
set_option maxRecDepth 100000 in
theorem vfree.calls (gv gd : Nat) (V : VV) (A : Option Addr) (c : Nat) (B' : Option Addr) (d : Nat) (w : World) (hb : w.heap[gv]? = some (.cells (volCells gd V A c B' d) 48 (0, 0))) (hc : V.l.length ≤ c) (hd : V.h.spans.length ≤ d) (h1 : Kd.C k85 w A V.l.length V.l) (h2 : Kd.C k87 w B' V.h.spans.length V.h.spans) (hbd : BdL V.l) (hl : V.l.length ≤ 1000) (hs : V.h.spans.length ≤ 100000) :
    Calls Tryz.prog 43 #[.pointer (some ⟨gv, 0, none⟩)] w fun e w' => ∃ v, e = .returned v ∧ Kd.R k87 87 w' w.heap.size (fun _ => True) v (freeV V) ∧ Below w.heap.size w w' := by
  have hu := Tryz.underlying87
  obtain ⟨ku, hku⟩ := (used_ev V.l hbd).get
  have hul := used_len hbd
  have hcat : api_Span_86.f [usedV V.l, V.h.spans, [(⟨0, 2⟩ : Sp)]] = some (usedV V.l ++ (V.h.spans ++ [(⟨0, 2⟩ : Sp)])) := by
    unfold api_Span_86.f
    rw [if_pos ⟨by simp, by unfold sumLen; simp; omega⟩]
    simp
  have hres := rest_f (usedV V.l ++ (V.h.spans ++ [(⟨0, 2⟩ : Sp)])) V.h.sect (by simp; omega)
  have HU := zA (fun (W : World) (hW : Below w.heap.size w W) => dir_Used.calls ku A c V.l (usedV V.l) W (Kd.C_below h1 hW) hc hku)
  have HH2 := zA (fun (W : World) (hW : Below w.heap.size w W) => Kd.C_below h2 hW)
  have HRS := zA (fun (W : World) (A0 : Option Addr) (c0 : Nat) (hr : Kd.C k87 W A0 (usedV V.l ++ (V.h.spans ++ [(⟨0, 2⟩ : Sp)])).length (usedV V.l ++ (V.h.spans ++ [(⟨0, 2⟩ : Sp)]))) (hc : _ ≤ c0) => span_Rest.calls A0 c0 _ V.h.sect _ _ W hr hc hres)
  have HCC1 := zA (show ∀ (wk : World) (A1 : Option Addr) (a1 : Nat), (usedV V.l).length ≤ a1 → Kd.C k87 wk A1 (usedV V.l).length (usedV V.l) → Below w.heap.size w wk → wk.heap[w.heap.size]? = some (.cells #[.int .i64 0, .int .i64 2] 87 (0, 0)) → Calls Tryz.prog 86 #[.slice (some ⟨wk.heap.size, 0, none⟩) 3 3] (wk.alloc (.cells #[.slice A1 (usedV V.l).length a1, .slice B' V.h.spans.length d, .slice (some ⟨w.heap.size, 0, none⟩) 1 1] 44)) fun e w' => ∃ v0_ : Value, e = .returned (v0_) ∧ Kd.R k87 87 w' (wk.heap.size + 1) (fun _ => True) v0_ (usedV V.l ++ (V.h.spans ++ [(⟨0, 2⟩ : Sp)])) ∧ Below w.heap.size w w' from fun wk A1 a1 ha q1 hbw hlit => by
    refine (api_Span_86.calls (some ⟨wk.heap.size, 0, none⟩) 3 [usedV V.l, V.h.spans, [(⟨0, 2⟩ : Sp)]] _ _ (three_rows (blk_new wk _) ha hd (Nat.le_refl 1) (Kd.C_alloc q1 _) (Kd.C_below h2 (zJ hbw _)) (lit_row (blk_alloc hlit _))) (by simp) hcat).mono ?_
    rintro e w' ⟨v, rfl, r1, r2⟩
    refine ⟨v, rfl, ?_, zL (zJ hbw _) r2⟩
    exact Kd.R_lower r1 (by simp))
  have HCC2 := zA (show ∀ (wk : World) (A1 : Option Addr) (a1 : Nat), (usedV V.l).length ≤ a1 → Kd.C k87 wk A1 (usedV V.l).length (usedV V.l) → Below w.heap.size w wk → Calls Tryz.prog 86 #[.slice (some ⟨wk.heap.size + 1, 0, none⟩) 3 3] ((wk.alloc (.cells #[.int .i64 0, .int .i64 2] 87)).alloc (.cells #[.slice A1 (usedV V.l).length a1, .slice B' V.h.spans.length d, .slice (some ⟨wk.heap.size, 0, none⟩) 1 1] 44)) fun e w' => ∃ v0_ : Value, e = .returned (v0_) ∧ Kd.R k87 87 w' (wk.heap.size + 1) (fun _ => True) v0_ (usedV V.l ++ (V.h.spans ++ [(⟨0, 2⟩ : Sp)])) ∧ Below w.heap.size w w' from fun wk A1 a1 ha q1 hbw => by
    refine (api_Span_86.calls (some ⟨wk.heap.size + 1, 0, none⟩) 3 [usedV V.l, V.h.spans, [(⟨0, 2⟩ : Sp)]] _ _ (three_rows (blk_new2 wk _) ha hd (Nat.le_refl 1) (Kd.C_alloc (Kd.C_alloc q1 _) _) (Kd.C_below h2 (zJ (zJ hbw _) _)) (lit_row (blk_alloc (blk_new wk _) _))) (by simp) hcat).mono ?_
    rintro e w' ⟨v, rfl, r1, r2⟩
    refine ⟨v, rfl, ?_, zL (zJ (zJ hbw _) _) r2⟩
    refine Kd.R_lower r1 ?_
    simp)
  have HLA := zA (show ∀ wk : World, Below ((w.alloc (.cells #[.int .i64 0, .int .i64 2] 87)).drew).heap.size ((w.alloc (.cells #[.int .i64 0, .int .i64 2] 87)).drew) wk → wk.heap[w.heap.size]? = some (.cells #[.int .i64 0, .int .i64 2] 87 (0, 0)) from fun wk h => blk_below (blk_drew (blk_new w _)) h)
  have HBL := zA hb
  have HFR := zA (show restV (usedV V.l ++ (V.h.spans ++ [(⟨0, 2⟩ : Sp)])) V.h.sect = freeV V from rfl)
  unfold volCells at hb
  have k1 := (zN hb 1).trans rfl
  have k3 := (zN hb 3).trans rfl
  have k5 := (zN hb 5).trans rfl
  clear hku hul hcat hres hb h1 h2 hbd hl hs
  generalize usedV V.l ++ (V.h.spans ++ [(⟨0, 2⟩ : Sp)]) = M at HRS HCC1 HCC2 HFR
  generalize usedV V.l = U at HU HRS HCC1 HCC2 HFR
  generalize freeV V = Fr at HFR ⊢
  go_enter Tryz.func43, Tryz.ntmps43
  go_wp2
  have HBd := zA (zK (Below.refl w.heap.size w))
  have HKEEP := zA (show ∀ W : World, Below w.heap.size w W → W.cell? ⟨gv, 1, none⟩ = some (.slice A V.l.length c) ∧ W.cell? ⟨gv, 3, none⟩ = some (.int .i64 V.h.sect) ∧ W.cell? ⟨gv, 5, none⟩ = some (.slice B' V.h.spans.length d) from fun W hW => by
    have := blk_below HBL.out hW
    unfold volCells at this
    exact ⟨(zN this 1).trans rfl, (zN this 3).trans rfl, (zN this 5).trans rfl⟩)
  go_region_held3 (fun w' => w'.cell? ⟨gv, 1, none⟩ = some (.slice A V.l.length c) ∧ w'.cell? ⟨gv, 3, none⟩ = some (.int .i64 V.h.sect) ∧ w'.cell? ⟨gv, 5, none⟩ = some (.slice B' V.h.spans.length d)) (exact HKEEP.out _ (by with_reducible first | exact HBc.out | (repeat (with_reducible first | exact HBd.out | apply zJ | apply zK | exact Below.refl _ _)))) (first
    | (go_at_call 87; go_loud (refine (HU.out _ (by repeat (with_reducible first | exact HBd.out | apply zJ | apply zK | exact Below.refl _ _))).mono ?_; rintro ex wk ⟨vk, rfl, q1, q2⟩; obtain ⟨A1, a1, rfl, ha1, hr1⟩ := Kd.R_reads q1; have HR1 := zA (And.intro ha1 hr1); (try (have HLIT := zA (HLA.out _ q2))); have HBd := zA (zL (by repeat (with_reducible first | exact HBd.out | apply zJ | apply zK | exact Below.refl _ _)) q2); clear q1 q2 ha1 hr1))
    | (go_at_call 86; go_loud (first
        | (with_reducible refine (HCC1.out _ A1 a1 HR1.out.1 HR1.out.2 HBd.out HLIT.out).mono ?_)
        | (with_reducible refine (HCC2.out _ A1 a1 HR1.out.1 HR1.out.2 HBd.out).mono ?_)); rintro ex wc ⟨vc, rfl, q1, q2⟩; obtain ⟨A3, a3, rfl, ha3, hr3⟩ := Kd.R_reads q1; have HR3 := zA (And.intro ha3 hr3); have HBc := zA q2; clear q1 q2 ha3 hr3))
  all_goals (
    (try simp only [Exit.then])
    have hv := HKEEP.out wc HBc.out
    obtain ⟨_, k3c, _⟩ := hv
    go_wp2_with (go_at_call 100; go_loud (refine (HRS.out _ A3 a3 HR3.out.2 HR3.out.1).mono ?_; rintro ex w5 ⟨v5, rfl, q1, q2⟩; rw [HFR.out] at q1; have HR5 := zA (Kd.R_lower q1 HBc.out.size); have HB5 := zA (zL HBc.out q2); obtain ⟨A5, c5, rfl⟩ := Kd.R_slice q1; clear q1 q2))
    go_ret
    exact ⟨_, rfl, HR5.out, HB5.out⟩)
def txCells (gd gv : Nat) (T : TV) (A : Option Addr) (c : Nat) (B : Option Addr) (d : Nat) : Array Value := #[.pointer (some ⟨gd, 0, none⟩), .slice A T.l.length c, .pointer (some ⟨gv, 0, none⟩), .int .i64 T.no, .slice B T.free.length d, .bool T.done]
def VolM (W : World) (M : Nat → Prop) (gv gd : Nat) (V : VV) : Prop := ∃ A c B d, W.heap[gv]? = some (.cells (volCells gd V A c B d) 48 (0, 0)) ∧ V.l.length ≤ c ∧ V.h.spans.length ≤ d ∧ Kd.C k85 (mask M W) A V.l.length V.l ∧ Kd.C k87 (mask M W) B V.h.spans.length V.h.spans
def TxM (W : World) (M : Nat → Prop) (gt gd gv : Nat) (T : TV) : Prop := ∃ A c B d, W.heap[gt]? = some (.cells (txCells gd gv T A c B d) 63 (0, 0)) ∧ T.l.length ≤ c ∧ T.free.length ≤ d ∧ Kd.C k85 (mask M W) A T.l.length T.l ∧ Kd.C k87 (mask M W) B T.free.length T.free
theorem VolM.move {W W' : World} {M M' M0 : Nat → Prop} {gv gd : Nat} {V : VV} (h : VolM W M gv gd V) (hk : Kept W W' M0) (h0 : ∀ k, M0 k → M k) (h1 : ∀ k, k < W.heap.size → M' k → M k) (hg : ¬ M0 gv) : VolM W' M' gv gd V := by
  obtain ⟨A, c, B, d, hb, h2, h3, h4, h5⟩ := h
  have hs := sub_move hk h0 h1
  exact ⟨A, c, B, d, (hk.2 gv (blk_lt hb) hg).trans hb, h2, h3, mono_file.C hs h4, mono_span.C hs h5⟩
theorem TxM.move {W W' : World} {M M' M0 : Nat → Prop} {gt gd gv : Nat} {T : TV} (h : TxM W M gt gd gv T) (hk : Kept W W' M0) (h0 : ∀ k, M0 k → M k) (h1 : ∀ k, k < W.heap.size → M' k → M k) (hg : ¬ M0 gt) : TxM W' M' gt gd gv T := by
  obtain ⟨A, c, B, d, hb, h2, h3, h4, h5⟩ := h
  have hs := sub_move hk h0 h1
  exact ⟨A, c, B, d, (hk.2 gt (blk_lt hb) hg).trans hb, h2, h3, mono_file.C hs h4, mono_span.C hs h5⟩
def beginT (V : VV) : TV := ⟨V.l, V.began + 1, freeV V, false⟩
structure VV.Ok (V : VV) : Prop where
  bd : BdL V.l
  few : V.l.length ≤ 1000
  sp : V.h.spans.length ≤ 100000
  b0 : 0 ≤ V.began ∧ V.began < 1000000000
set_option maxHeartbeats 4000000 in
set_option maxRecDepth 100000 in
theorem vbegin.calls (M : Nat → Prop) (gv gd : Nat) (V : VV) (w : World) (hV : VolM w M gv gd V) (hM : M gv) (hMb : ∀ k, M k → k < w.heap.size) (hok : V.Ok) :
    Calls Tryz.prog 12 #[.pointer (some ⟨gv, 0, none⟩)] w fun e w' => ∃ gt, e = .returned (.pointer (some ⟨gt, 0, none⟩)) ∧ w.heap.size ≤ gt ∧ gt < w'.heap.size ∧ VolM w' (fun k => M k ∨ k = gt) gv gd { V with began := V.began + 1 } ∧ TxM w' (fun k => M k ∨ k = gt) gt gd gv (beginT V) ∧ Kept w w' (· = gv) ∧ (∀ B, B ≤ gv → B ≤ w.heap.size → Below B w w') := by
  obtain ⟨A, c, B', d, hb, h2, h3, h4, h5⟩ := hV
  have hw : wrap64 (V.began + 1) = V.began + 1 := wrap64_id (by have := hok.b0; omega) (by have := hok.b0; omega)
  have hb1 : (w.setCell ⟨gv, 7, none⟩ (.int .i64 (V.began + 1))).heap[gv]? = some (.cells (volCells gd { V with began := V.began + 1 } A c B' d) 48 (0, 0)) := by
    have := blk_set hb 7 (.int .i64 (V.began + 1))
    simpa [volCells] using this
  have hk1 : Kept w (w.setCell ⟨gv, 7, none⟩ (.int .i64 (V.began + 1))) (· = gv) := (Kept.refl w (fun k => k = gv)).setCell (p := ⟨gv, 7, none⟩) (.inl rfl) _
  have hs1 : Sub (mask M w) (w.setCell ⟨gv, 7, none⟩ (.int .i64 (V.began + 1))) := sub_use hk1 (fun k hk => hk ▸ hM)
  have k7 : w.cell? ⟨gv, 7, none⟩ = some (.int .i64 V.began) := (zN hb 7).trans rfl
  have q7 := zM hb 7
  have k0 := (zN hb 0).trans rfl
  have k1 := (zN hb 1).trans rfl
  have hz1 : (w.setCell ⟨gv, 7, none⟩ (.int .i64 (V.began + 1))).heap.size = w.heap.size := by simp [World.setCell]
  have HF := zA (fun (W : World) (hW : Below (w.setCell ⟨gv, 7, none⟩ (.int .i64 (V.began + 1))).heap.size (w.setCell ⟨gv, 7, none⟩ (.int .i64 (V.began + 1))) W) => vfree.calls gv gd { V with began := V.began + 1 } A c B' d W (blk_below hb1 hW) h2 h3 (Kd.C_below (mono_file.C hs1 h4) hW) (Kd.C_below (mono_span.C hs1 h5) hW) hok.bd hok.few hok.sp)
  have HB1 := zA hb1
  have HS1 := zA (show ∀ B, B ≤ gv → Below B w (w.setCell ⟨gv, 7, none⟩ (.int .i64 (V.began + 1))) from fun B hB => (Below.refl B w).setCell (p := ⟨gv, 7, none⟩) hB _)
  have HK1 := zA hk1
  have H45 := zA (And.intro h4 h5)
  have HM := zA (And.intro hM hMb)
  have HZ1 := zA hz1
  have H23 := zA (And.intro h2 h3)
  clear hok hb1 hk1 hs1 h4 h5 hM hMb hb hz1 h2 h3
  go_enter Tryz.func12, Tryz.ntmps12
  go_wp2
  generalize w.setCell ⟨gv, 7, none⟩ (.int .i64 (V.began + 1)) = w1 at HF HB1 HK1 HZ1 HS1 ⊢
  clear k7 q7 k0 k1
  have k0 := (zN HB1.out 0).trans rfl
  have k1 := (zN HB1.out 1).trans rfl
  have k7 := (zN HB1.out 7).trans rfl
  have HBd := zA (zK (Below.refl w1.heap.size w1))
  have HKEEP := zA (show ∀ W : World, Below w1.heap.size w1 W → W.cell? ⟨gv, 0, none⟩ = some (.pointer (some ⟨gd, 0, none⟩)) ∧ W.cell? ⟨gv, 1, none⟩ = some (.slice A V.l.length c) ∧ W.cell? ⟨gv, 7, none⟩ = some (.int .i64 (V.began + 1)) from fun W hW => by
    have := blk_below HB1.out hW
    exact ⟨(zN this 0).trans rfl, (zN this 1).trans rfl, (zN this 7).trans rfl⟩)
  go_region_held3 (fun w' => w'.cell? ⟨gv, 0, none⟩ = some (.pointer (some ⟨gd, 0, none⟩)) ∧ w'.cell? ⟨gv, 1, none⟩ = some (.slice A V.l.length c) ∧ w'.cell? ⟨gv, 7, none⟩ = some (.int .i64 (V.began + 1))) (exact HKEEP.out _ (by repeat (with_reducible first | exact HBd.out | apply zJ | apply zK | exact Below.refl _ _))) (first
    | (go_at_call 43; go_loud (refine (HF.out _ HBd.out).mono ?_; rintro ex wk ⟨vk, rfl, q1, q2⟩; have HR := zA q1; obtain ⟨Af, cf, rfl⟩ := Kd.R_slice q1; have HBd := zA (zL HBd.out q2); clear q1 q2)))
  (try simp only [Exit.then])
  go_wp2
  go_ret
  obtain ⟨hM, hMb⟩ := HM.out
  have hal := zJ (Below.refl _ wk) (.cells #[.pointer (some ⟨gd, 0, none⟩), .slice A V.l.length c, .pointer (some ⟨gv, 0, none⟩), .int .i64 (V.began + 1), .slice Af (freeV { l := V.l, h := V.h, slot := V.slot, began := V.began + 1 }).length cf, .bool false] 63)
  have hwk : w.heap.size ≤ wk.heap.size := by have := HBd.out.size; have := HZ1.out; omega
  have hkw : Kept w (wk.alloc (.cells #[.pointer (some ⟨gd, 0, none⟩), .slice A V.l.length c, .pointer (some ⟨gv, 0, none⟩), .int .i64 (V.began + 1), .slice Af (freeV { l := V.l, h := V.h, slot := V.slot, began := V.began + 1 }).length cf, .bool false] 63)) (fun k => k = gv) := HK1.out.then_ (zP (zL HBd.out hal) (fun _ => False)) fun _ h => h.elim
  have hold : ∀ k, k < w.heap.size → (M k ∨ k = wk.heap.size) → M k := fun k hk h => h.elim id fun h => by omega
  have hsub := sub_move (T' := fun k => M k ∨ k = wk.heap.size) hkw (fun k h => h ▸ hM) hold
  obtain ⟨A2, c2, he, hl2, hc2⟩ := R_mask (T := M) HR.out (fun k hk _ hm => by have h8 := hMb k hm; have h9 := HZ1.out; have h7 : w1.heap.size ≤ k := hk; omega)
  injection he with he1 _ he3
  subst he1
  subst he3
  have hsub2 : Sub (mask M wk) (mask (fun k => M k ∨ k = wk.heap.size) (wk.alloc (.cells #[.pointer (some ⟨gd, 0, none⟩), .slice A V.l.length c, .pointer (some ⟨gv, 0, none⟩), .int .i64 (V.began + 1), .slice Af (freeV { l := V.l, h := V.h, slot := V.slot, began := V.began + 1 }).length cf, .bool false] 63))) := sub_move (zP hal (fun _ => False)) (fun _ h => h.elim) fun k hk h => h.elim id fun h => by omega
  exact ⟨wk.heap.size, rfl, hwk, by simp, ⟨A, c, B', d, blk_below HB1.out (zL HBd.out hal), H23.out.1, H23.out.2, mono_file.C hsub H45.out.1, mono_span.C hsub H45.out.2⟩, ⟨A, c, Af, cf, blk_new wk _, H23.out.1, hl2, mono_file.C hsub H45.out.1, mono_span.C hsub2 hc2⟩, hkw, fun B hB hB2 => (HS1.out B hB).trans ((zL HBd.out hal).mono (by have := HZ1.out; omega))⟩
def overV (T : TV) (V : VV) : Bool := T.done || (T.no != V.began)
set_option maxHeartbeats 2000000 in
set_option maxRecDepth 100000 in
theorem vover.calls (M : Nat → Prop) (gt gv gd : Nat) (V : VV) (T : TV) (w : World) (hV : VolM w M gv gd V) (hT : TxM w M gt gd gv T) :
    Calls Tryz.prog 44 #[.pointer (some ⟨gt, 0, none⟩)] w fun e w' => e = .returned (.bool (overV T V)) ∧ Drawn0 w w' := by
  obtain ⟨A, c, B', d, hb, -⟩ := hV
  obtain ⟨A2, c2, B2, d2, hb2, -⟩ := hT
  have v7 : w.cell? ⟨gv, 7, none⟩ = some (.int .i64 V.began) := (zN hb 7).trans rfl
  have t2 : w.cell? ⟨gt, 2, none⟩ = some (.pointer (some ⟨gv, 0, none⟩)) := (zN hb2 2).trans rfl
  have t3 : w.cell? ⟨gt, 3, none⟩ = some (.int .i64 T.no) := (zN hb2 3).trans rfl
  have t5 : w.cell? ⟨gt, 5, none⟩ = some (.bool T.done) := (zN hb2 5).trans rfl
  unfold overV
  clear hb hb2
  cases hd : T.done with
  | true =>
    rw [hd] at t5
    go_enter Tryz.func44, Tryz.ntmps44
    go_wp2
    go_quiet (fail)
    go_wp2
    go_ret
    exact ⟨rfl, ⟨⟨_, rfl⟩⟩⟩
  | false =>
    rw [hd] at t5
    go_enter Tryz.func44, Tryz.ntmps44
    go_wp2
    go_quiet (fail)
    go_wp2
    go_ret
    exact ⟨rfl, ⟨⟨_, rfl⟩⟩⟩
structure TxSys (w0 W : World) (S M : Nat → Prop) (gd gv gt : Nat) (D : DV) (V : VV) (T : TV) : Prop where
  dev : DevAt w0 W S gd D
  bel : Below w0.heap.size w0 W
  vol : VolM W M gv gd V
  tx : TxM W M gt gd gv T
  mb : ∀ k, M k → w0.heap.size ≤ k ∧ k < W.heap.size
  ms : ∀ k, S k → M k
  mv : M gv ∧ ¬ S gv
  mt : M gt ∧ ¬ S gt ∧ gt ≠ gv
theorem TxSys.past {w0 W W' : World} {S M : Nat → Prop} {gd gv gt : Nat} {D : DV} {V : VV} {T : TV} (h : TxSys w0 W S M gd gv gt D V T) (hb : Below W.heap.size W W') : TxSys w0 W' S M gd gv gt D V T := by
  have hk : Kept W W' (fun _ => False) := zP hb _
  exact ⟨h.dev.kept hk fun _ _ h => h, below_then h.bel (below_size h.bel) hb, h.vol.move hk (fun _ h => h.elim) (fun _ _ h => h) (fun h => h), h.tx.move hk (fun _ h => h.elim) (fun _ _ h => h) (fun h => h), fun k q => ⟨(h.mb k q).1, Nat.lt_of_lt_of_le (h.mb k q).2 hb.size⟩, h.ms, h.mv, h.mt⟩
def TxTo (w0 w w' : World) (S M : Nat → Prop) (gd gv gt : Nat) (D : DV) (V : VV) (T : TV) : Prop := ∃ S' M' : Nat → Prop, TxSys w0 w' S' M' gd gv gt D V T ∧ (∀ k, S k → S' k) ∧ (∀ k, M k → M' k) ∧ (∀ k, M' k → M k ∨ w.heap.size ≤ k) ∧ Kept w w' (fun k => S k ∨ k = gt)
theorem TxSys.set {w0 W : World} {S M : Nat → Prop} {gd gv gt : Nat} {D : DV} {V : VV} {T : TV} (h : TxSys w0 W S M gd gv gt D V T) (i : Nat) (v : Value) {T' : TV} (ht : ∀ A c B d, W.heap[gt]? = some (.cells (txCells gd gv T A c B d) 63 (0, 0)) → T.l.length ≤ c → T.free.length ≤ d → Kd.C k85 (mask M W) A T.l.length T.l → Kd.C k87 (mask M W) B T.free.length T.free → ∃ A' c' B' d', (txCells gd gv T A c B d).setIfInBounds i v = txCells gd gv T' A' c' B' d' ∧ T'.l.length ≤ c' ∧ T'.free.length ≤ d' ∧ Kd.C k85 (mask M W) A' T'.l.length T'.l ∧ Kd.C k87 (mask M W) B' T'.free.length T'.free) : TxSys w0 (W.setCell ⟨gt, i, none⟩ v) S M gd gv gt D V T' ∧ Kept W (W.setCell ⟨gt, i, none⟩ v) (fun k => k = gt) := by
  have hk : Kept W (W.setCell ⟨gt, i, none⟩ v) (fun k => k = gt) := (Kept.refl W (fun k => k = gt)).setCell (p := ⟨gt, i, none⟩) (.inl rfl) v
  have hz : (W.setCell ⟨gt, i, none⟩ v).heap.size = W.heap.size := by simp [World.setCell]
  have hsub : Sub (mask M W) (mask M (W.setCell ⟨gt, i, none⟩ v)) := sub_move hk (fun k q => q ▸ h.mt.1) (fun _ _ q => q)
  obtain ⟨A, c, B, d, e1, e2, e3, e4, e5⟩ := h.tx
  obtain ⟨A', c', B', d', f1, f2, f3, f4, f5⟩ := ht A c B d e1 e2 e3 e4 e5
  refine ⟨⟨h.dev.kept hk fun k q q2 => h.mt.2.1 (q2 ▸ q), below_then h.bel (below_size h.bel) (Below.refl _ _) |>.setCell (p := ⟨gt, i, none⟩) (h.mb gt h.mt.1).1 v, h.vol.move hk (fun k q => q ▸ h.mt.1) (fun _ _ q => q) (fun q => h.mt.2.2 q.symm), ⟨A', c', B', d', ?_, f2, f3, mono_file.C hsub f4, mono_span.C hsub f5⟩, fun k q => by rw [hz]; exact h.mb k q, h.ms, h.mv, h.mt⟩, hk⟩
  rw [← f1]
  exact blk_set e1 i v
theorem TxSys.setFree {w0 W : World} {S M : Nat → Prop} {gd gv gt : Nat} {D : DV} {V : VV} {T : TV} (h : TxSys w0 W S M gd gv gt D V T) (B : Option Addr) (d : Nat) (l : List Sp) (hd : l.length ≤ d) (hc : Kd.C k87 (mask M W) B l.length l) : TxSys w0 (W.setCell ⟨gt, 4, none⟩ (.slice B l.length d)) S M gd gv gt D V { T with free := l } ∧ Kept W (W.setCell ⟨gt, 4, none⟩ (.slice B l.length d)) (fun k => k = gt) :=
  h.set 4 _ fun A c B' d' e1 e2 e3 e4 e5 => ⟨A, c, B, d, by simp [txCells], e2, hd, e4, hc⟩
theorem TxSys.setL {w0 W : World} {S M : Nat → Prop} {gd gv gt : Nat} {D : DV} {V : VV} {T : TV} (h : TxSys w0 W S M gd gv gt D V T) (A : Option Addr) (c : Nat) (l : List Fi) (hd : l.length ≤ c) (hc : Kd.C k85 (mask M W) A l.length l) : TxSys w0 (W.setCell ⟨gt, 1, none⟩ (.slice A l.length c)) S M gd gv gt D V { T with l := l } ∧ Kept W (W.setCell ⟨gt, 1, none⟩ (.slice A l.length c)) (fun k => k = gt) :=
  h.set 1 _ fun A' c' B' d' e1 e2 e3 e4 e5 => ⟨A, c, B', d', by simp [txCells], hd, e3, hc, e5⟩
theorem TxSys.grew {w0 w W : World} {S M : Nat → Prop} {gd gv gt : Nat} {D D' : DV} {V : VV} {T : TV} (h : TxSys w0 w S M gd gv gt D V T) (hg : DevGrew w0 w W S gd D') : ∃ S' M' : Nat → Prop, TxSys w0 W S' M' gd gv gt D' V T ∧ (∀ k, S k → S' k) ∧ (∀ k, M k → M' k) ∧ (∀ k, M' k → M k ∨ w.heap.size ≤ k) ∧ Kept w W S := by
  obtain ⟨S', h1, h2, h3, h4, h5⟩ := hg
  have hold : ∀ k, k < w.heap.size → (M k ∨ S' k) → M k := fun k hk q => q.elim id fun q => by
    rcases h3 k q with q | q
    · exact h.ms k q
    · omega
  have hnew : ∀ k, k < w.heap.size → ¬ S k → ¬ S' k := fun k hk q q2 => by
    rcases h3 k q2 with q3 | q3
    · exact q q3
    · omega
  refine ⟨S', fun k => M k ∨ S' k, ⟨h1, h4, h.vol.move h5 h.ms hold h.mv.2, h.tx.move h5 h.ms hold h.mt.2.1, fun k q => ?_, fun k q => .inr q, ⟨.inl h.mv.1, hnew gv (h.mb gv h.mv.1).2 h.mv.2⟩, ⟨.inl h.mt.1, hnew gt (h.mb gt h.mt.1).2 h.mt.2.1, h.mt.2.2⟩⟩, h2, fun k q => .inl q, fun k q => ?_, h5⟩
  · rcases q with q | q
    · exact ⟨(h.mb k q).1, Nat.lt_of_lt_of_le (h.mb k q).2 h5.1⟩
    · exact h1.sb k q
  · rcases q with q | q
    · exact .inl q
    · exact (h3 k q).imp_left (h.ms k)
set_option maxHeartbeats 4000000 in
set_option maxRecDepth 100000 in
theorem vlay.calls (S M : Nat → Prop) (gd gv gt : Nat) (D : DV) (V : VV) (T : TV) (s : List UInt8) (In Out : List Sp) (Ai Ao : Option Addr) (ci co : Nat) (w0 w : World) (hX : TxSys w0 w S M gd gv gt D V T) (hci : In.length ≤ ci) (hco : Out.length ≤ co) (hi : Kd.C k87 (mask M w) Ai In.length In) (ho : Kd.C k87 (mask M w) Ao Out.length Out) (hok : OkL 8192 In) (hl : In.length ≤ 8192) (hs : (s.length : Int) ≤ Th.sumF In * 64) (hp : (D.pend.length : Int) + Th.sumF In < 1000000) :
    Calls Tryz.prog 48 #[.pointer (some ⟨gt, 0, none⟩), .string (B s), .slice Ai In.length ci, .slice Ao Out.length co] w fun e w' => e = .returned (.tuple #[.slice Ai In.length ci, .int .i64 (wrF In s D).1]) ∧ TxTo w0 w w' S M gd gv gt (wrF In s D).2 V { T with free := Out } := by
  obtain ⟨hX1, hk1⟩ := hX.setFree Ao co Out hco ho
  have hz : (w.setCell ⟨gt, 4, none⟩ (.slice Ao Out.length co)).heap.size = w.heap.size := by simp [World.setCell]
  have hkk : ∀ W', Kept (w.setCell ⟨gt, 4, none⟩ (.slice Ao Out.length co)) W' S → Kept w W' (fun k => S k ∨ k = gt) := fun W' hk => (hk1.mono fun k q => .inr q).then_ hk fun k q => .inl (.inl q)
  have HW := zA (vwrite.calls gd S D In s Ai ci (mask M w) w0 (w.setCell ⟨gt, 4, none⟩ (.slice Ao Out.length co)) hX1.dev hX1.bel (fun W' hk => sub_use (hkk W' hk) (fun k q => q.elim (hX.ms k) fun q => q ▸ hX.mt.1)) hi hci hok hl hs hp)
  obtain ⟨A, c, B', d, hb, -⟩ := hX.tx
  have k4 := (zN hb 4).trans rfl
  have q4 := zM hb 4
  have hb1 := blk_set hb 4 (.slice Ao Out.length co)
  have k0 : (w.setCell ⟨gt, 4, none⟩ (.slice Ao Out.length co)).cell? ⟨gt, 0, none⟩ = some (.pointer (some ⟨gd, 0, none⟩)) := by rw [zN hb1]; rfl
  have HX1 := zA hX1
  have HKK := zA hkk
  have HZ := zA hz
  clear hX hX1 hk1 hz hkk hb hb1 hi ho hok hl hs hp hci hco
  generalize wrF In s D = R at HW ⊢
  go_enter Tryz.func48, Tryz.ntmps48
  go_wp2_with (go_at_call 95; go_loud (refine HW.out.mono ?_; rintro e w2 ⟨rfl, hg⟩; have HG := zA hg; clear hg))
  go_ret2
  obtain ⟨S', M', h1, h2, h3, h4, h5⟩ := HX1.out.grew HG.out
  exact ⟨rfl, S', M', h1, h2, h3, fun k q => by rw [← HZ.out]; exact h4 k q, HKK.out _ h5⟩
end Go.Proofs.YtcclaidbikjhiaaGreatDoor.PVo
