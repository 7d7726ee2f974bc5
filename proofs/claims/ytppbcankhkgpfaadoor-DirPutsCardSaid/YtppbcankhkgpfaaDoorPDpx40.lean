import Derived.Test.YtppbcankhkgpfaaDoorPDpx0
import Derived.Test.YtppbcankhkgpfaaDoorPDpx12
import Derived.Test.YtppbcankhkgpfaaDoorPDpx35
import Derived.Outline
--compressed
namespace Go.Proofs.YtppbcankhkgpfaaDoor.PDp
open Go.RowKit Go.Proofs.YtppbcankhkgpfaaDoorW.PrintWords Go.Proofs.YtppbcankhkgpfaaDoorW.PrintLast Go.Proofs.YtppbcankhkgpfaaDoorW.PrintMore
attribute [local go_sem] max2_int min2_int max_two min_two max_three min_three max_four min_four   -- for this text's walks alone
attribute [local go_sem high] hw_str_leq hw_str_gtr
set_option linter.unusedVariables false
set_option linter.unusedSimpArgs false
def insB (size : Int) (s : S64) : Bool := decide (0 < s.f1) && (decide (0 ≤ s.f0) && (decide (s.f0 < size) && decide (s.f1 ≤ wrap64 (size - s.f0))))
theorem insB_f (size : Int) (s : S64) : span_inside.f s.f0 s.f1 size = some (insB size s) := by
 unfold span_inside.f insB
 by_cases h1 : 0 < s.f1 <;> by_cases h2 : 0 ≤ s.f0 <;> by_cases h3 : s.f0 < size <;> simp [h1, h2, h3, GT.gt, GE.ge] <;> omega
theorem span_sorted_1.calls (size : Int) (B : Nat) (x : S64) (W : World) (hc : W.cell? ⟨B, 0, none⟩ = some (.int .i64 size)) :
  Calls Tryd.prog 87 #[.agg #[.int .i64 x.f0, .int .i64 x.f1], .pointer (some ⟨B, 0, none⟩)] W fun e W' => e = .returned (.bool (!insB size x)) ∧ Below W.heap.size W W' := by
 have hu := Tryd.underlying64
 have hBW : B < W.heap.size := World.block_lt_of_cell? W _ hc
 have hne : B ≠ W.heap.size := by omega
 have hin := fun W' => span_inside.calls x.f0 x.f1 size (insB size x) W' (insB_f size x)
 generalize insB size x = b at hin ⊢
 go_enter Tryd.func87, Tryd.ntmps87
 go_wp2_with (go_at_call 88; refine (hin _).mono ?_; rintro e w' ⟨rfl, hb⟩)
 go_ret
 exact ⟨rfl, ((Below.refl _ W).alloc (Nat.le_refl _) _).trans (hb.mono (by simp))⟩
def chkF : Int → List S64 → Bool
 | _, [] => true
 | e, s :: t => if s.f0 < e then false else chkF (wrap64 (s.f0 + s.f1)) t
def outF (size : Int) (l : List S64) : Bool := l.any fun s => !insB size s
def sortF (l : List S64) : List S64 := l.mergeSort (fun a b => decide (a.f0 ≤ b.f0))
def sortedF (l : List S64) (size : Int) : List S64 × Int :=
 if size < 1 ∨ 8192 < size ∨ outF size l = true then ([], 11) else if chkF 0 (sortF l) = true then (sortF l, 0) else ([], 5)
theorem insB_spec {size : Int} (h1 : 1 ≤ size) (h2 : size ≤ 8192) {s : S64} (h : insB size s = true) : 0 < s.f1 ∧ 0 ≤ s.f0 ∧ s.f0 + s.f1 ≤ size := by
 unfold insB at h
 simp only [Bool.and_eq_true, decide_eq_true_eq] at h
 obtain ⟨a, b, c, d⟩ := h
 unfold wrap64 at d
 omega
theorem chkF_strict {size : Int} (h1 : 1 ≤ size) (h2 : size ≤ 8192) : ∀ (l : List S64) (e : Int), (∀ s ∈ l, insB size s = true) → chkF e l = true → l.Pairwise (fun a b => a.f0 < b.f0) ∧ ∀ s ∈ l, e ≤ s.f0
 | [], _, _, _ => ⟨List.Pairwise.nil, by simp⟩
 | s :: t, e, hin, hc => by
  unfold chkF at hc
  split at hc
  ·cases hc
  ·rename_i hse
   have hs := insB_spec h1 h2 (hin s (by simp))
   have hw : wrap64 (s.f0 + s.f1) = s.f0 + s.f1 := by unfold wrap64; omega
   rw [hw] at hc
   obtain ⟨hp, he⟩ := chkF_strict h1 h2 t _ (fun x hx => hin x (by simp [hx])) hc
   refine ⟨List.Pairwise.cons (fun b hb => ?_) hp, fun x hx => ?_⟩
   ·have := he b hb; omega
   ·rcases List.mem_cons.1 hx with rfl | hx
    ·omega
    ·have := he x hx; omega
theorem strict_inj {l : List S64} (h : l.Pairwise (fun a b => a.f0 < b.f0)) {a b : S64} (ha : a ∈ l) (hb : b ∈ l) (e : a.f0 = b.f0) : a = b := by
 induction h with
 | nil => cases ha
 | cons h1 _ ih =>
  rcases List.mem_cons.1 ha with rfl | ha'
  ·rcases List.mem_cons.1 hb with rfl | hb'
   ·rfl
   ·have := h1 b hb'; omega
  ·rcases List.mem_cons.1 hb with rfl | hb'
   ·have := h1 a ha'; omega
   ·exact ih ha' hb'
theorem sorted_unique {size : Int} (h1 : 1 ≤ size) (h2 : size ≤ 8192) {l m : List S64} (hp : l.Perm m) (hl : l.Pairwise (fun a b => a.f0 ≤ b.f0)) (hm : m.Pairwise (fun a b => a.f0 ≤ b.f0)) (hin : ∀ s ∈ l, insB size s = true) (hc : chkF 0 l = true) : l = m := by
 obtain ⟨hs, _⟩ := chkF_strict h1 h2 l 0 hin hc
 exact List.Perm.eq_of_pairwise (fun a b ha hb hab hba => strict_inj hs ha (hp.mem_iff.2 hb) (by omega)) hl hm hp
theorem sortF_perm (l : List S64) : (sortF l).Perm l := List.mergeSort_perm _ _
theorem sortF_pairwise (l : List S64) : (sortF l).Pairwise (fun a b => a.f0 ≤ b.f0) := by
 have := List.pairwise_mergeSort (le := fun a b : S64 => decide (a.f0 ≤ b.f0)) (by intro a b c; simp; omega) (by intro a b; simp; omega) l
 exact this.imp (by intro a b h; simpa using h)
theorem sorted_told {size : Int} (h1 : 1 ≤ size) (h2 : size ≤ 8192) {l m : List S64} (hp : m.Perm l) (hm : m.Pairwise (fun a b => a.f0 ≤ b.f0)) (ho : outF size l = false) :
  chkF 0 (sortF l) = chkF 0 m ∧ (chkF 0 m = true → m = sortF l) := by
 have hin : ∀ s ∈ l, insB size s = true := by
  intro s hs
  have := List.any_eq_false.1 ho s hs
  simpa using this
 have hmm : chkF 0 m = true → m = sortF l := fun hc => sorted_unique h1 h2 (hp.trans (sortF_perm l).symm) hm (sortF_pairwise l) (fun s hs => hin s (hp.mem_iff.1 hs)) hc
 have hss : chkF 0 (sortF l) = true → sortF l = m := fun hc => sorted_unique h1 h2 ((sortF_perm l).trans hp.symm) (sortF_pairwise l) hm (fun s hs => hin s ((sortF_perm l).mem_iff.1 hs)) hc
 refine ⟨?_, hmm⟩
 cases hb : chkF 0 m with
 | true => rw [← hmm hb]; exact hb
 | false =>
  cases hc : chkF 0 (sortF l) with
  | false => rfl
  | true => rw [hss hc] at hc; rw [hc] at hb; cases hb
set_option maxHeartbeats 2000000 in
theorem span_sortedH.calls (A0 : Option Addr) (c0 : Nat) (l0 : List S64) (a1 : Int) (w : World) (hr0 : Kd.C k64 w A0 l0.length l0) (hl : l0.length < 8796093000000) :
  Calls Tryd.prog 72 #[.slice A0 l0.length c0, .int .i64 a1] w fun e w' => ∃ v0_ : Value, e = .returned (.tuple #[v0_, .int .i64 (sortedF l0 a1).2]) ∧ Kd.R k64 64 w' w.heap.size (fun _ => True) v0_ (sortedF l0 a1).1 ∧ Below w.heap.size w w' := by
 have hu := Tryd.underlying64
 have eg : ∀ args w, (callFunc 87 args).run Tryd.prog w = .ok (.enter 87 args) w := enters_of Tryd.func87 (by kernel_rfl) rfl
 have HR0 := Aside0.mk hr0
 clear hr0
 have HBX := Aside0.mk ((Below.refl _ w).alloc (Nat.le_refl _) (.cells #[.int .i64 a1] 3))
 have hcell : (w.alloc (.cells #[.int .i64 a1] 3)).cell? ⟨w.heap.size, 0, none⟩ = some (.int .i64 a1) := by simp
 by_cases hs : 1 ≤ a1 ∧ a1 ≤ 8192
 ·have hsz : span_sized.f a1 = some true := by unfold span_sized.f; rw [if_pos hs.1]; simp [hs.2]
  have hcon := Aside0.mk (show ∀ W, Below (w.heap.size + 1) (w.alloc (.cells #[.int .i64 a1] 3)) W → Calls Tryd.prog 90 #[.slice A0 l0.length c0, .func (.func 87) #[] #[.pointer (some ⟨w.heap.size, 0, none⟩)]] W fun e w' => e = .returned (.bool (outF a1 l0)) ∧ Below W.heap.size W w' from fun W hW =>
   hasSpan.calls (fun s => !insB a1 s) 87 #[.pointer (some ⟨w.heap.size, 0, none⟩)] eg A0 c0 l0 W (Kd.C_below (Kd.C_alloc HR0.out _) (by simpa using hW)) (fun W' x cs hb hk => by
    obtain rfl := k64_open hk
    have h1 : W.cell? ⟨w.heap.size, 0, none⟩ = some (.int .i64 a1) := (hW.cell (p := ⟨w.heap.size, 0, none⟩) (by simp)).trans hcell
    exact span_sorted_1.calls a1 w.heap.size x W' ((hb.cell (p := ⟨w.heap.size, 0, none⟩) (World.block_lt_of_cell? W _ h1)).trans h1)))
  cases ho : outF a1 l0 with
  | true =>
   have hres : sortedF l0 a1 = ([], 11) := by unfold sortedF; rw [if_pos (.inr (.inr ho))]
   rw [hres]
   have hcon2 := hcon.out
   rw [ho] at hcon2
   have HC := Aside0.mk hcon2
   clear hcon hcon2 ho hres hs
   go_enter Tryd.func72, Tryd.ntmps72
   go_wp2_with (first | (go_at_call 89; refine (span_sized.calls a1 true _ hsz).mono ?_; rintro e w' ⟨rfl, ⟨nd, rfl⟩⟩) | (go_at_call 90; refine (HC.out _ (by first | exact Below.refl _ _ | exact pw_below_drewN (Below.refl _ _) _)).mono ?_; rintro e w' ⟨rfl, hb⟩))
   go_ret2
   exact ⟨_, rfl, Kd.R_nil _ _ _ _ _, HBX.out.trans (Below.mono (by first | exact hb | exact (pw_below_drewN (Below.refl _ _) _).trans hb) (by simp))⟩
  | false =>
   have hres : sortedF l0 a1 = if chkF 0 (sortF l0) = true then (sortF l0, 0) else ([], 5) := by unfold sortedF; rw [if_neg (by rw [ho]; simp; omega)]
   have hcon2 := hcon.out
   rw [ho] at hcon2
   have HC := Aside0.mk hcon2
   have HTOLD := Aside0.mk (show ∀ m : List S64, m.Perm l0 → m.Pairwise (fun a b => a.f0 ≤ b.f0) → (chkF 0 m = true → sortedF l0 a1 = (m, 0)) ∧ (chkF 0 m = false → sortedF l0 a1 = ([], 5)) from fun m hpm hsm => by
    obtain ⟨h1, h2⟩ := sorted_told hs.1 hs.2 hpm hsm ho
    rw [hres, h1]
    exact ⟨fun h => by rw [if_pos h, h2 h], fun h => by rw [h]; rfl⟩)
   have HL := Aside0.mk hl
   clear hcon hcon2 ho hres hs hl
   generalize sortedF l0 a1 = res at HTOLD ⊢
   go_enter Tryd.func72, Tryd.ntmps72
   go_wp2_with (first | (go_at_call 89; refine (span_sized.calls a1 true _ hsz).mono ?_; rintro e w' ⟨rfl, ⟨nd, rfl⟩⟩) | (go_at_call 90; refine (HC.out _ (by first | exact Below.refl _ _ | exact pw_below_drewN (Below.refl _ _) _)).mono ?_; rintro e w1 ⟨rfl, hb1⟩; have HB1 := Aside0.mk (HBX.out.trans (Below.mono (by first | exact hb1 | exact (pw_below_drewN (Below.refl _ _) _).trans hb1) (by simp) : Below w.heap.size _ w1)); clear hb1 HC HBX) | (go_at_call 91; refine (cloneSpan.calls A0 c0 l0 _ (Kd.C_below HR0.out HB1.out) (by have := HL.out; omega)).mono ?_; rintro e w2 ⟨v0, rfl, hR1, hb2⟩; obtain ⟨A1, c1, rfl⟩ := Kd.R_slice hR1; have HR1 := Aside0.mk hR1; have HB2 := Aside0.mk (below_step HB1.out hb2); clear hR1 hb2) | (go_at_call 92; refine (sortSpan.calls _ l0 _ w1.heap.size HR1.out (by have := HL.out; omega)).mono ?_; rintro e w3 ⟨rfl, m, hpm, hsm, hR2, hg2⟩; have hml := hpm.length_eq; have HT := Aside0.mk (HTOLD.out m hpm hsm); have HR2 := Aside0.mk hR2; have HB3 := Aside0.mk (Below.grown HB2.out hg2 (below_size HB2.out) (fun k hk => Nat.le_trans (below_size HB1.out) (Kd.R_base HR1.out k hk))); clear HTOLD hpm hsm hR2 hg2))
   rw [← hml] at HR2 ⊢
   clear hml
   have HC2 := Aside0.mk (Kd.R_reads' HR2.out).2.2
   have hbig : m.length ≤ 9223372036854775807 := HC2.out.2.1
   go_loopg [7, 25] m.length (fun gg s7 s25 wr => ∃ (kk : Nat) (e : Int), kk ≤ m.length ∧ m.length - kk ≤ gg ∧ s7 = .int .i64 e ∧ s25 = .int .i64 kk ∧ Aside0 (Below w3.heap.size w3 wr) ∧ Aside0 (chkF 0 m = chkF e (m.drop kk)))
   case atStart => exact ⟨0, 0, Nat.zero_le _, by omega, rfl, rfl, ⟨Below.refl _ w3⟩, ⟨rfl⟩⟩
   case round =>
    obtain ⟨kk, e, hkk, hg, rfl, rfl, BW, AA⟩ := hrel
    by_cases hlt : kk < m.length
    ·have hltz : (kk : Int) < (m.length : Int) := by omega
     obtain ⟨ad, e0, hx0, hx1⟩ := at_T64 HC2.out (kk : Int) (by omega) hltz
     cases e0
     rw [rd_T64_get m kk hlt] at hx0 hx1
     simp only [Int.toNat_natCast] at hx0 hx1
     replace hx0 := (BW.out.cell (World.block_lt_of_cell? w3 _ hx0)).trans hx0
     replace hx1 := (BW.out.cell (World.block_lt_of_cell? w3 _ hx1)).trans hx1
     have AS : Aside0 (chkF 0 m = if m[kk].f0 < e then false else chkF (wrap64 (m[kk].f0 + m[kk].f1)) (m.drop (kk + 1))) := ⟨by rw [AA.out, List.drop_eq_getElem_cons hlt]; rfl⟩
     clear AA
     generalize m[kk] = y at hx0 hx1 AS
     by_cases hq : y.f0 < e
     ·have hb : decide (y.f0 < e) = true := decide_eq_true hq
      have hres := Aside0.mk (HT.out.2 (by rw [AS.out, if_pos hq]))
      clear hq AS HT
      go_wp2
      go_ret2
      rw [hres.out]
      exact ⟨_, rfl, Kd.R_nil _ _ _ _ _, below_step HB3.out (by first | exact BW.out | apply below_step BW.out; repeat (first | exact Below.refl _ _ | apply below_alloc | apply pw_below_drewN | refine below_set ?_ (Nat.le_refl _)))⟩
     ·have hb : decide (y.f0 < e) = false := decide_eq_false hq
      have AA := Aside0.mk (AS.out.trans (if_neg hq))
      clear hq AS
      go_wp2
      go_roundg (m.length - (kk + 1))
      case measure => omega
      case rel => exact ⟨kk + 1, _, by omega, by omega, rfl, by go_num, ⟨below_step BW.out (by repeat (first | exact Below.refl _ _ | apply below_alloc | apply pw_below_drewN | refine below_set ?_ (Nat.le_refl _)))⟩, AA⟩
    ·have hltz : ¬ (kk : Int) < (m.length : Int) := by omega
     have hkl : kk = m.length := by omega
     subst hkl
     have hres := Aside0.mk (HT.out.1 (by rw [AA.out, List.drop_length]; rfl))
     clear HT AA
     go_wp2
     go_ret2
     rw [hres.out]
     exact ⟨_, rfl, Kd.R_lower (Kd.R_below HR2.out BW.out) (below_size HB1.out), below_step HB3.out BW.out⟩
 ·have hsz : span_sized.f a1 = some false := by
   unfold span_sized.f
   by_cases h1 : 1 ≤ a1
   ·rw [if_pos h1]
    have : ¬ a1 ≤ 8192 := fun h => hs ⟨h1, h⟩
    simp [this]
   ·rw [if_neg h1]
  have hres : sortedF l0 a1 = ([], 11) := by unfold sortedF; rw [if_pos (by omega)]
  rw [hres]
  clear hs hres
  go_enter Tryd.func72, Tryd.ntmps72
  go_wp2_with (go_at_call 89; refine (span_sized.calls a1 false _ hsz).mono ?_; rintro e w' ⟨rfl, ⟨nd, rfl⟩⟩)
  go_ret2
  exact ⟨_, rfl, Kd.R_nil _ _ _ _ _, by first | exact HBX.out | exact pw_below_drewN HBX.out _⟩
end Go.Proofs.YtppbcankhkgpfaaDoor.PDp
namespace Go.Proofs.YtppbcankhkgpfaaDoor.PDp
open Go.RowKit Go.Proofs.YtppbcankhkgpfaaDoorW.PrintWords Go.Proofs.YtppbcankhkgpfaaDoorW.PrintLast Go.Proofs.YtppbcankhkgpfaaDoorW.PrintMore
attribute [local go_sem] max2_int min2_int max_two min_two max_three min_three max_four min_four   -- for this text's walks alone
attribute [local go_sem high] hw_str_leq hw_str_gtr
set_option linter.unusedVariables false
set_option linter.unusedSimpArgs false
theorem valsSpan.calls (A1 : Option Addr) (n1 c1 : Nat) (w : World) : Calls Tryd.prog 74 #[.slice A1 n1 c1] w fun e w' => e = .returned (.func (.func 95) #[] #[.pointer (some ⟨w.heap.size, 0, none⟩)]) ∧ w' = w.alloc (.cells #[.slice A1 n1 c1] 41) := by
 go_enter Tryd.func74, Tryd.ntmps74
 go_wp2
 go_ret
 exact ⟨rfl, rfl⟩
theorem joinedVals.calls (A1 : Option Addr) (c1 : Nat) (zs : List S64) (w : World) (hC : Kd.C k64 w A1 zs.length zs) (hl : zs.length < 8796093000000) :
  Calls Tryd.prog 73 #[.func (.func 95) #[] #[.pointer (some ⟨w.heap.size, 0, none⟩)]] (w.alloc (.cells #[.slice A1 zs.length c1] 41)) fun e W' => ∃ v, e = .returned v ∧ Kd.R k64 64 W' w.heap.size (fun _ => True) v (joinF zs) ∧ Below w.heap.size w W' := by
 have eg : ∀ args w, (callFunc 95 args).run Tryd.prog w = .ok (.enter 95 args) w := enters_of Tryd.func95 (by kernel_rfl) rfl
 have hb1 : Below w.heap.size w (w.alloc (.cells #[.slice A1 zs.length c1] 41)) := (Below.refl _ w).alloc (Nat.le_refl _) _
 have hC1 := Kd.C_alloc hC (.cells #[.slice A1 zs.length c1] 41)
 have hB : (w.alloc (.cells #[.slice A1 zs.length c1] 41)).cell? ⟨w.heap.size, 0, none⟩ = some (.slice A1 zs.length c1) := by simp
 generalize hW : w.alloc (.cells #[.slice A1 zs.length c1] 41) = W1 at hb1 hC1 hB ⊢
 have hs1 : w.heap.size < W1.heap.size := World.block_lt_of_cell? W1 _ hB
 refine (callsIn_wide (n := 2)).1 ((joined_in Fence.wide 2 trivial rfl (Nat.le_refl _) _ _ trivial eg zs (fun _ => True) zs.length hl W1 (fun l J Jx W hb hJ hJx hY h0 => ?_)).mono ?_)
 ·exact vals1_in Fence.wide 1 trivial rfl (Nat.le_refl _) l w.heap.size W1.heap.size c1 A1 zs W1 (Nat.le_refl _) J Jx hC1 hY W hJ hb.size hb ((hb.cell (p := ⟨w.heap.size, 0, none⟩) hs1).trans hB) h0
 ·rintro e W' ⟨v, rfl, hR, hb2⟩
  exact ⟨v, rfl, Kd.R_lower hR (Nat.le_of_lt hs1), below_step hb1 hb2⟩
theorem sortedF_cases (l0 : List S64) (a1 : Int) : (sortedF l0 a1).2 = 0 → (sortedF l0 a1).1.length = l0.length := by
 unfold sortedF
 split
 ·intro h; cases h
 ·split
  ·intro _; exact (sortF_perm l0).length_eq
  ·intro h; cases h
end Go.Proofs.YtppbcankhkgpfaaDoor.PDp
namespace Go.Proofs.YtppbcankhkgpfaaDoor.PDp
open Go.RowKit Go.Proofs.YtppbcankhkgpfaaDoorW.PrintWords Go.Proofs.YtppbcankhkgpfaaDoorW.PrintLast Go.Proofs.YtppbcankhkgpfaaDoorW.PrintMore
attribute [local go_sem] max2_int min2_int max_two min_two max_three min_three max_four min_four   -- for this text's walks alone
attribute [local go_sem high] hw_str_leq hw_str_gtr
set_option linter.unusedVariables false
set_option linter.unusedSimpArgs false
def span_Norm.f (l0 : List S64) (a1 : Int) : Option (List S64 × Int) := if l0.length < 8796092000000 then (if (sortedF l0 a1).2 = 0 then some (joinF (sortedF l0 a1).1, 0) else some ([], (sortedF l0 a1).2)) else none
theorem span_Norm.calls (A0 : Option Addr) (c0 : Nat) (l0 : List S64) (a1 : Int) (r1 : List S64) (r2 : Int) (w : World) (hr0 : Kd.C k64 w A0 l0.length l0) (hc0 : l0.length ≤ c0) (h : span_Norm.f l0 a1 = some (r1, r2)) :
  Calls Tryd.prog 55 #[.slice A0 l0.length c0, .int .i64 a1] w fun e w' => ∃ v0_ : Value, e = .returned (.tuple #[v0_, .int .i64 r2]) ∧ Kd.R k64 64 w' w.heap.size (fun _ => True) v0_ r1 ∧ Below w.heap.size w w' := by
 unfold span_Norm.f at h
 by_cases hl : l0.length < 8796092000000
 ·rw [if_pos hl] at h
  have HS := Aside0.mk (span_sortedH.calls A0 c0 l0 a1 w hr0 (by omega))
  have hlen := sortedF_cases l0 a1
  clear hr0 hc0
  generalize sortedF l0 a1 = res at h HS hlen
  obtain ⟨zs, er⟩ := res
  dsimp only at h HS hlen
  by_cases he : er = 0
  ·rw [if_pos he] at h
   obtain ⟨rfl, rfl⟩ := Prod.mk.inj (Option.some.inj h)
   have HL := Aside0.mk (show zs.length < 8796093000000 by rw [hlen he]; omega)
   clear h hlen hl
   subst he
   go_enter Tryd.func55, Tryd.ntmps55
   go_wp2_with (first | (go_at_call 72; refine HS.out.mono ?_; rintro e w1 ⟨v0, rfl, hR, hb⟩; obtain ⟨A1, c1, rfl⟩ := Kd.R_slice hR; have HC := Aside0.mk (Kd.R_reads' hR).2.2; have HB := Aside0.mk hb; clear hR hb) | (go_at_call 74; refine (valsSpan.calls _ _ _ _).mono ?_; rintro e w2 ⟨rfl, rfl⟩) | (go_at_call 73; refine (joinedVals.calls A1 c1 zs w1 HC.out HL.out).mono ?_; rintro e w3 ⟨v3, rfl, hR3, hb3⟩))
   go_ret2
   exact ⟨_, rfl, Kd.R_lower hR3 (below_size HB.out), below_step HB.out hb3⟩
  ·rw [if_neg he] at h
   obtain ⟨rfl, rfl⟩ := Prod.mk.inj (Option.some.inj h)
   have hb : decide (er = 0) = false := decide_eq_false he
   clear h hlen hl
   go_enter Tryd.func55, Tryd.ntmps55
   go_wp2_with (go_at_call 72; refine HS.out.mono ?_; rintro e w1 ⟨v0, rfl, hR, hb⟩; have HB := Aside0.mk hb; clear hR hb)
   go_ret2
   exact ⟨_, rfl, Kd.R_nil _ _ _ _ _, HB.out⟩
 ·rw [if_neg hl] at h
  cases h
end Go.Proofs.YtppbcankhkgpfaaDoor.PDp
namespace Go.Proofs.YtppbcankhkgpfaaDoor.PDp
open Go.RowKit Go.Proofs.YtppbcankhkgpfaaDoorW.PrintWords Go.Proofs.YtppbcankhkgpfaaDoorW.PrintLast Go.Proofs.YtppbcankhkgpfaaDoorW.PrintMore
attribute [local go_sem] max2_int min2_int max_two min_two max_three min_three max_four min_four   -- for this text's walks alone
attribute [local go_sem high] hw_str_leq hw_str_gtr
set_option linter.unusedVariables false
set_option linter.unusedSimpArgs false
set_option maxHeartbeats 2000000 in
set_option maxRecDepth 100000 in
theorem grow_zero.calls (w : World) : Calls Tryd.prog 75 #[.slice none 0 0, .int .i64 0] w fun e w' => ∃ v, e = .returned v ∧ Kd.R k64 64 w' w.heap.size (fun _ => True) v [] ∧ Below w.heap.size w w' := by
 go_enter Tryd.func75, Tryd.ntmps75
 go_wp2
 go_ret
 exact ⟨_, rfl, Kd.R_nil _ _ _ _ _, Below.refl _ _⟩
set_option maxHeartbeats 2000000 in
set_option maxRecDepth 100000 in
theorem grow_nil.calls (n : Nat) (h0 : 0 < n) (hn : n ≤ 1000000000) (w : World) : Calls Tryd.prog 75 #[.slice none 0 0, .int .i64 n] w fun e w' => ∃ v, e = .returned v ∧ Kd.R k64 64 w' w.heap.size (fun _ => True) v [] ∧ Below w.heap.size w w' := by
 have hw : wrap64 (n : Int) = (n : Int) := by unfold wrap64; omega
 have b1 : decide ((n : Int) < 0) = false := decide_eq_false (by omega)
 have b2 : decide (0 < (n : Int)) = true := decide_eq_true (by omega)
 go_enter Tryd.func75, Tryd.ntmps75
 have hB : Tryd.t64.bytes = 16 := by kernel_rfl
 have hN : Builtin.nextslicecap n 0 = n := by unfold Builtin.nextslicecap; rw [if_pos (by omega)]
 go_wp2
 all_goals try (exfalso; simp only [hB, hN] at *; omega)
 have hC : n ≤ (Question.appendCap n 0 64).cut (w.tape w.drawn (Question.appendCap n 0 64)) ∧ (Question.appendCap n 0 64).cut (w.tape w.drawn (Question.appendCap n 0 64)) ≤ maxLen := by
  show n ≤ n + (w.tape w.drawn (Question.appendCap n 0 64)) % (2 ^ 63 - n) ∧ n + (w.tape w.drawn (Question.appendCap n 0 64)) % (2 ^ 63 - n) ≤ maxLen
  have hlt := Nat.mod_lt (w.tape w.drawn (.appendCap n 0 64)) (show 0 < 2 ^ 63 - n by omega)
  unfold maxLen
  omega
 generalize (Question.appendCap n 0 64).cut (w.tape w.drawn (Question.appendCap n 0 64)) = C at hC ⊢
 go_ret
 refine ⟨_, rfl, ⟨fun _ _ => trivial, ?_⟩, below_drew1 ((Below.refl _ w).alloc (Nat.le_refl _) _)⟩
 refine ⟨[], ⟨rfl, .inr ⟨w.heap.size, C, _, rfl, Nat.le_refl _, blk_new w _, Nat.zero_le _, hC.2, ?_, by simp⟩⟩, Reps.none _ _⟩
 have hk : (k64).sz = 2 := rfl
 rw [hk]
 simp [Builtin.zeroCells]
 omega
theorem grow_any (n : Nat) (hn : n ≤ 1000000000) (w : World) : Calls Tryd.prog 75 #[.slice none 0 0, .int .i64 n] w fun e w' => ∃ v, e = .returned v ∧ Kd.R k64 64 w' w.heap.size (fun _ => True) v [] ∧ Below w.heap.size w w' := by
 by_cases h : n = 0
 ·subst h
  exact grow_zero.calls w
 ·exact grow_nil.calls n (by omega) hn w
end Go.Proofs.YtppbcankhkgpfaaDoor.PDp
namespace Go.Proofs.YtppbcankhkgpfaaDoor.PDp
open Go.RowKit Go.Proofs.YtppbcankhkgpfaaDoorW.PrintWords Go.Proofs.YtppbcankhkgpfaaDoorW.PrintLast Go.Proofs.YtppbcankhkgpfaaDoorW.PrintMore
attribute [local go_sem] max2_int min2_int max_two min_two max_three min_three max_four min_four   -- for this text's walks alone
attribute [local go_sem high] hw_str_leq hw_str_gtr
set_option linter.unusedVariables false
set_option linter.unusedSimpArgs false
def sumLen (ls : List (List S64)) : Nat := (ls.map List.length).sum
def api_Span.f (ls : List (List S64)) : Option (List S64) := if ls.length ≤ 1000000 ∧ sumLen ls ≤ 1000000000 then some ls.flatten else none
theorem sumLen_take (ls : List (List S64)) (i : Nat) (h : i < ls.length) : sumLen (ls.take (i + 1)) = sumLen (ls.take i) + ls[i].length ∧ sumLen (ls.take (i + 1)) ≤ sumLen ls := by
 constructor
 ·unfold sumLen
  rw [List.take_succ_eq_append_getElem h, List.map_append, List.sum_append]
  simp
 ·unfold sumLen
  conv => rhs; rw [← List.take_append_drop (i + 1) ls]
  rw [List.map_append, List.sum_append]
  omega
set_option maxHeartbeats 2000000 in
set_option maxRecDepth 100000 in
theorem api_Span.calls (A0 : Option Addr) (c0 : Nat) (l0 : List (List S64)) (r : List S64) (w : World) (hr0 : Kd.C (Kd.slice 64 k64) w A0 l0.length l0) (hc0 : l0.length ≤ c0) (h : api_Span.f l0 = some r) :
  Calls Tryd.prog 56 #[.slice A0 l0.length c0] w fun e w' => ∃ v0_ : Value, e = .returned (v0_) ∧ Kd.R k64 64 w' w.heap.size (fun _ => True) v0_ r ∧ Below w.heap.size w w' := by
 unfold api_Span.f at h
 by_cases hs : l0.length ≤ 1000000 ∧ sumLen l0 ≤ 1000000000
 ·rw [if_pos hs] at h
  obtain rfl := Option.some.inj h
  obtain ⟨hs1, hs2⟩ := hs
  have HR := Aside0.mk hr0
  have HS := Aside0.mk hs2
  clear h hr0 hs2
  go_enter Tryd.func56, Tryd.ntmps56
  go_wp2
  have hst := sumLen_take l0
  have HST := Aside0.mk hst
  clear hst
  go_loopg [3, 11] l0.length (fun gg s3 s11 wr => ∃ i : Nat, i ≤ l0.length ∧ l0.length - i ≤ gg ∧ s11 = .int .i64 i ∧ s3 = .int .i64 (sumLen (l0.take i)) ∧ w = wr)
  case atStart => exact ⟨0, Nat.zero_le _, by omega, rfl, rfl, rfl⟩
  case round =>
   obtain ⟨i, hi, hg, rfl, rfl, rfl⟩ := hrel
   by_cases hlt : i < l0.length
   ·have hltz : decide ((i : Int) < (l0.length : Int)) = true := decide_eq_true (by omega)
    have hi0 : (0 : Int) ≤ (i : Int) := by omega
    have hi1 : (i : Int) < (l0.length : Int) := by omega
    obtain ⟨ad, A1, c1, e0, hx, hl1, hC1⟩ := at_L6 HR.out (i : Int) hi0 hi1
    subst e0
    have hrd : rd_L6 l0 (i : Int) = l0[i] := by simp [rd_L6, List.getD_eq_getElem?_getD, hlt]
    rw [hrd] at hx hl1 hC1
    simp only [Int.toNat_natCast] at hx
    obtain ⟨h1, h2⟩ := HST.out i hlt
    have h3 := Nat.le_trans h2 HS.out
    rw [h1] at h3
    have HN := Aside0.mk h1
    clear h1 h2 hC1 hrd
    generalize sumLen (l0.take i) = S at h3 HN ⊢
    generalize l0[i].length = L at hx hl1 h3 HN
    have hwa : wrap64 ((S : Int) + (L : Int)) = ((S + L : Nat) : Int) := by unfold wrap64; omega
    have hneg : decide (((S : Int) + (L : Int)) < 0) = false := decide_eq_false (by omega)
    go_wp2
    go_roundg (l0.length - (i + 1))
    case measure => omega
    case rel => exact ⟨i + 1, by omega, by omega, by go_num, by rw [HN.out]; push_cast; rfl, rfl⟩
   ·have hltz : decide ((i : Int) < (l0.length : Int)) = false := decide_eq_false (by omega)
    obtain rfl : i = l0.length := by omega
    rw [List.take_length]
    have hgrow := grow_any (sumLen l0) HS.out
    generalize sumLen l0 = S at hgrow ⊢
    have HG := Aside0.mk hgrow
    clear hgrow
    go_wp2_with (go_at_call 75; go_loud (refine (HG.out _).mono ?_; rintro e w1 ⟨v1, rfl, o1, x1⟩))
    have HO0 := Aside0.mk o1
    have HB0 := Aside0.mk x1
    clear o1 x1
    go_loopg [6, 27] l0.length (fun gg s6 s27 wi => ∃ j : Nat, j ≤ l0.length ∧ l0.length - j ≤ gg ∧ s27 = .int .i64 j ∧ Aside0 (Kd.R k64 64 wi w.heap.size (fun _ => True) s6 (l0.take j).flatten) ∧ Aside0 (Below w.heap.size w wi))
    case atStart => exact ⟨0, Nat.zero_le _, by omega, rfl, ⟨by simpa using HO0.out⟩, HB0⟩
    case round =>
     clear HO0 HB0
     obtain ⟨j, hj, hgj, rfl, HO, HB⟩ := hrel
     by_cases hlt2 : j < l0.length
     ·have hltz2 : decide ((j : Int) < (l0.length : Int)) = true := decide_eq_true (by omega)
      have hj0 : (0 : Int) ≤ (j : Int) := by omega
      have hj1 : (j : Int) < (l0.length : Int) := by omega
      obtain ⟨ad, A1, c1, e0, hx, hl1, hC1⟩ := at_L6 HR.out (j : Int) hj0 hj1
      subst e0
      have hrd : rd_L6 l0 (j : Int) = l0[j] := by simp [rd_L6, List.getD_eq_getElem?_getD, hlt2]
      rw [hrd] at hx hl1 hC1
      simp only [Int.toNat_natCast] at hx
      replace hx := (HB.out.cell (World.block_lt_of_cell? w _ hx)).trans hx
      have HC1 := Aside0.mk (Kd.C_below hC1 HB.out)
      have hfl : (l0.take (j + 1)).flatten = (l0.take j).flatten ++ l0[j] := by rw [List.take_succ_eq_append_getElem hlt2, List.flatten_append]; simp only [List.flatten_cons, List.flatten_nil, List.append_nil]
      obtain ⟨h1, h2⟩ := HST.out j hlt2
      have hlen : (l0.take j).flatten.length = sumLen (l0.take j) := by rw [List.length_flatten]; rfl
      have h3 : (l0.take j).flatten.length + l0[j].length ≤ 1000000000 := by rw [hlen, ← h1]; exact Nat.le_trans h2 HS.out
      have HF := Aside0.mk hfl
      have HL := Aside0.mk h3
      clear hC1 hrd hfl h1 h2 hlen h3
      generalize (l0.take j).flatten = xs at HO HF HL
      generalize l0[j] = ys at hx hl1 HC1 HF HL
      go_wp2_with ((with_reducible refine gate_builtin (b := .append) (xs := #[.tmp 31, .tmp 32]) rfl ?_); go_loud (at_builtin; refine Kd.R_append_rows k64 (w0 := w) w.heap.size rfl (.tmp 31) (.tmp 32) 41 64 (.agg #[(.int .i64 0), (.int .i64 0)]) 16 rfl Tryd.underlying41 info64 rfl (by decide) (by omega) _ xs ys _ _ _ (fun _ => True) (fun _ => False) rfl rfl HO.out HC1.out (fun _ _ h => h) (fun _ h => h.elim) (fun _ _ => trivial) HB.out (below_size HB.out) (by have := HL.out; omega) ?_; intro v2 w2 ho2 hb2 hg2 hat2))
      go_roundg (l0.length - (j + 1))
      case measure => omega
      case rel => exact ⟨j + 1, by omega, by omega, by go_num, ⟨by rw [HF.out]; exact ho2⟩, ⟨hb2⟩⟩
     ·have hltz2 : decide ((j : Int) < (l0.length : Int)) = false := decide_eq_false (by omega)
      have hjj : l0.take j = l0 := List.take_of_length_le (by omega)
      rw [hjj] at HO
      go_wp2
      go_ret
      exact ⟨_, rfl, HO.out, HB.out⟩
 ·rw [if_neg hs] at h
  cases h
end Go.Proofs.YtppbcankhkgpfaaDoor.PDp
