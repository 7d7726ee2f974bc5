-- laid by gprint.py (this session's own program) out of the translation: Lean checks it
import Derived.Test.YtjmplchknbgmgaaPSpanx0
import Derived.Test.YtjmplchknbgmgaaPSpanx2
import Derived.Test.YtjmplchknbgmgaaPSpanx3
import Derived.Test.YtjmplchknbgmgaaPSpanx8
import Derived.Test.YtjmplchknbgmgaaPSpanx9
namespace Go.Proofs.Ytjmplchknbgmgaa.PSpan
open Go.RowKit Go.Proofs.YtjmplchknbgmgaaW.PrintWords Go.Proofs.YtjmplchknbgmgaaW.PrintLast Go.Proofs.YtjmplchknbgmgaaW.PrintMore
attribute [local go_sem] max2_int min2_int max_two min_two max_three min_three max_four min_four   -- for this text's walks alone
set_option linter.unusedVariables false
set_option linter.unusedSimpArgs false

/-! ### part:spansorted -/
def insB (size : Int) (s : S32) : Bool := decide (0 < s.f1) && (decide (0 ≤ s.f0) && (decide (s.f0 < size) && decide (s.f1 ≤ wrap64 (size - s.f0))))
theorem insB_f (size : Int) (s : S32) : span_inside.f s.f0 s.f1 size = some (insB size s) := by
  unfold span_inside.f insB
  by_cases h1 : 0 < s.f1 <;> by_cases h2 : 0 ≤ s.f0 <;> by_cases h3 : s.f0 < size <;> simp [h1, h2, h3, GT.gt, GE.ge] <;> omega
/-- The closure that tells what lies outside. -/
theorem span_sorted_1.calls (size : Int) (B : Nat) (x : S32) (W : World) (hc : W.cell? ⟨B, 0, none⟩ = some (.int .i64 size)) :
    Calls Try.prog 33 #[.agg #[.int .i64 x.f0, .int .i64 x.f1], .pointer (some ⟨B, 0, none⟩)] W fun e W' => e = .returned (.bool (!insB size x)) ∧ Below W.heap.size W W' := by
  have hu := Try.underlying32
  have hBW : B < W.heap.size := World.block_lt_of_cell? W _ hc
  have hne : B ≠ W.heap.size := by omega
  have hin := fun W' => span_inside.calls x.f0 x.f1 size (insB size x) W' (insB_f size x)
  generalize insB size x = b at hin ⊢
  go_enter Try.func33, Try.ntmps33
  go_wp2_with (go_at_call 27; refine (hin _).mono ?_; rintro e w' ⟨rfl, hb⟩)
  go_ret
  exact ⟨rfl, ((Below.refl _ W).alloc (Nat.le_refl _) _).trans (hb.mono (by simp))⟩
/-- No span begins ahead of the end of the one ahead. -/
def chkF : Int → List S32 → Bool
  | _, [] => true
  | e, s :: t => if s.f0 < e then false else chkF (wrap64 (s.f0 + s.f1)) t
def outF (size : Int) (l : List S32) : Bool := l.any fun s => !insB size s
def sortF (l : List S32) : List S32 := l.mergeSort (fun a b => decide (a.f0 ≤ b.f0))
def sortedF (l : List S32) (size : Int) : List S32 × Int :=
  if size < 1 ∨ 8192 < size ∨ outF size l = true then ([], 11) else if chkF 0 (sortF l) = true then (sortF l, 0) else ([], 5)
theorem insB_spec {size : Int} (h1 : 1 ≤ size) (h2 : size ≤ 8192) {s : S32} (h : insB size s = true) : 0 < s.f1 ∧ 0 ≤ s.f0 ∧ s.f0 + s.f1 ≤ size := by
  unfold insB at h
  simp only [Bool.and_eq_true, decide_eq_true_eq] at h
  obtain ⟨a, b, c, d⟩ := h
  unfold wrap64 at d
  omega
theorem chkF_strict {size : Int} (h1 : 1 ≤ size) (h2 : size ≤ 8192) : ∀ (l : List S32) (e : Int), (∀ s ∈ l, insB size s = true) → chkF e l = true → l.Pairwise (fun a b => a.f0 < b.f0) ∧ ∀ s ∈ l, e ≤ s.f0
  | [], _, _, _ => ⟨List.Pairwise.nil, by simp⟩
  | s :: t, e, hin, hc => by
    unfold chkF at hc
    split at hc
    · cases hc
    · rename_i hse
      have hs := insB_spec h1 h2 (hin s (by simp))
      have hw : wrap64 (s.f0 + s.f1) = s.f0 + s.f1 := by unfold wrap64; omega
      rw [hw] at hc
      obtain ⟨hp, he⟩ := chkF_strict h1 h2 t _ (fun x hx => hin x (by simp [hx])) hc
      refine ⟨List.Pairwise.cons (fun b hb => ?_) hp, fun x hx => ?_⟩
      · have := he b hb; omega
      · rcases List.mem_cons.1 hx with rfl | hx
        · omega
        · have := he x hx; omega
theorem strict_inj {l : List S32} (h : l.Pairwise (fun a b => a.f0 < b.f0)) {a b : S32} (ha : a ∈ l) (hb : b ∈ l) (e : a.f0 = b.f0) : a = b := by
  induction h with
  | nil => cases ha
  | cons h1 _ ih =>
    rcases List.mem_cons.1 ha with rfl | ha'
    · rcases List.mem_cons.1 hb with rfl | hb'
      · rfl
      · have := h1 b hb'; omega
    · rcases List.mem_cons.1 hb with rfl | hb'
      · have := h1 a ha'; omega
      · exact ih ha' hb'
theorem sorted_unique {size : Int} (h1 : 1 ≤ size) (h2 : size ≤ 8192) {l m : List S32} (hp : l.Perm m) (hl : l.Pairwise (fun a b => a.f0 ≤ b.f0)) (hm : m.Pairwise (fun a b => a.f0 ≤ b.f0)) (hin : ∀ s ∈ l, insB size s = true) (hc : chkF 0 l = true) : l = m := by
  obtain ⟨hs, _⟩ := chkF_strict h1 h2 l 0 hin hc
  exact List.Perm.eq_of_pairwise (fun a b ha hb hab hba => strict_inj hs ha (hp.mem_iff.2 hb) (by omega)) hl hm hp
theorem sortF_perm (l : List S32) : (sortF l).Perm l := List.mergeSort_perm _ _
theorem sortF_pairwise (l : List S32) : (sortF l).Pairwise (fun a b => a.f0 ≤ b.f0) := by
  have := List.pairwise_mergeSort (le := fun a b : S32 => decide (a.f0 ≤ b.f0)) (by intro a b c; simp; omega) (by intro a b; simp; omega) l
  exact this.imp (by intro a b h; simpa using h)
/-- Whatever sorted permutation the sort has made: it is told as ours. -/
theorem sorted_told {size : Int} (h1 : 1 ≤ size) (h2 : size ≤ 8192) {l m : List S32} (hp : m.Perm l) (hm : m.Pairwise (fun a b => a.f0 ≤ b.f0)) (ho : outF size l = false) :
    chkF 0 (sortF l) = chkF 0 m ∧ (chkF 0 m = true → m = sortF l) := by
  have hin : ∀ s ∈ l, insB size s = true := by
    intro s hs
    have := List.any_eq_false.1 ho s hs
    simpa using this
  have hmm : chkF 0 m = true → m = sortF l := fun hc => sorted_unique h1 h2 (hp.trans (sortF_perm l).symm) hm (sortF_pairwise l) (fun s hs => hin s (hp.mem_iff.1 hs)) hc
  have hss : chkF 0 (sortF l) = true → sortF l = m := fun hc => sorted_unique h1 h2 ((sortF_perm l).trans hp.symm) (sortF_pairwise l) hm (fun s hs => hin s ((sortF_perm l).mem_iff.1 hs)) hc
  refine ⟨?_, hmm⟩
  cases hb : chkF 0 m with
  | true => rw [← hmm hb]; exact hb
  | false =>
    cases hc : chkF 0 (sortF l) with
    | false => rfl
    | true => rw [hss hc] at hc; rw [hc] at hb; cases hb
set_option maxHeartbeats 2000000 in
/-- span.sorted. -/
theorem span_sortedH.calls (A0 : Option Addr) (c0 : Nat) (l0 : List S32) (a1 : Int) (w : World) (hr0 : Kd.C k32 w A0 l0.length l0) (hl : l0.length < 8796093000000) :
    Calls Try.prog 23 #[.slice A0 l0.length c0, .int .i64 a1] w fun e w' => ∃ v0_ : Value, e = .returned (.tuple #[v0_, .int .i64 (sortedF l0 a1).2]) ∧ Kd.R k32 32 w' w.heap.size (fun _ => True) v0_ (sortedF l0 a1).1 ∧ Below w.heap.size w w' := by
  have hu := Try.underlying32
  have eg : ∀ args w, (callFunc 33 args).run Try.prog w = .ok (.enter 33 args) w := enters_of Try.func33 (by kernel_rfl) rfl
  have HR0 := Aside0.mk hr0
  clear hr0
  have HBX := Aside0.mk ((Below.refl _ w).alloc (Nat.le_refl _) (.cells #[.int .i64 a1] 3))
  have hcell : (w.alloc (.cells #[.int .i64 a1] 3)).cell? ⟨w.heap.size, 0, none⟩ = some (.int .i64 a1) := by simp
  by_cases hs : 1 ≤ a1 ∧ a1 ≤ 8192
  · have hsz : span_sized.f a1 = some true := by unfold span_sized.f; rw [if_pos hs.1]; simp [hs.2]
    have hcon := Aside0.mk (show ∀ W, Below (w.heap.size + 1) (w.alloc (.cells #[.int .i64 a1] 3)) W → Calls Try.prog 31 #[.slice A0 l0.length c0, .func (.func 33) #[] #[.pointer (some ⟨w.heap.size, 0, none⟩)]] W fun e w' => e = .returned (.bool (outF a1 l0)) ∧ Below W.heap.size W w' from fun W hW =>
      hasSpan.calls (fun s => !insB a1 s) 33 #[.pointer (some ⟨w.heap.size, 0, none⟩)] eg A0 c0 l0 W (Kd.C_below (Kd.C_alloc HR0.out _) (by simpa using hW)) (fun W' x cs hb hk => by
        obtain rfl := k32_open hk
        have h1 : W.cell? ⟨w.heap.size, 0, none⟩ = some (.int .i64 a1) := (hW.cell (p := ⟨w.heap.size, 0, none⟩) (by simp)).trans hcell
        exact span_sorted_1.calls a1 w.heap.size x W' ((hb.cell (p := ⟨w.heap.size, 0, none⟩) (World.block_lt_of_cell? W _ h1)).trans h1)))
    cases ho : outF a1 l0 with
    | true =>
      have hres : sortedF l0 a1 = ([], 11) := by unfold sortedF; rw [if_pos (.inr (.inr ho))]
      rw [hres]
      have hcon2 := hcon.out
      rw [ho] at hcon2
      have HC := Aside0.mk hcon2
      clear hcon hcon2 ho hres hs
      go_enter Try.func23, Try.ntmps23
      go_wp2_with (first | (go_at_call 28; refine (span_sized.calls a1 true _ hsz).mono ?_; rintro e w' ⟨rfl, ⟨nd, rfl⟩⟩) | (go_at_call 31; refine (HC.out _ (by first | exact Below.refl _ _ | exact pw_below_drewN (Below.refl _ _) _)).mono ?_; rintro e w' ⟨rfl, hb⟩))
      go_ret2
      exact ⟨_, rfl, Kd.R_nil _ _ _ _ _, HBX.out.trans (Below.mono (by first | exact hb | exact (pw_below_drewN (Below.refl _ _) _).trans hb) (by simp))⟩
    | false =>
      have hres : sortedF l0 a1 = if chkF 0 (sortF l0) = true then (sortF l0, 0) else ([], 5) := by unfold sortedF; rw [if_neg (by rw [ho]; simp; omega)]
      have hcon2 := hcon.out
      rw [ho] at hcon2
      have HC := Aside0.mk hcon2
      have HTOLD := Aside0.mk (show ∀ m : List S32, m.Perm l0 → m.Pairwise (fun a b => a.f0 ≤ b.f0) → (chkF 0 m = true → sortedF l0 a1 = (m, 0)) ∧ (chkF 0 m = false → sortedF l0 a1 = ([], 5)) from fun m hpm hsm => by
        obtain ⟨h1, h2⟩ := sorted_told hs.1 hs.2 hpm hsm ho
        rw [hres, h1]
        exact ⟨fun h => by rw [if_pos h, h2 h], fun h => by rw [h]; rfl⟩)
      have HL := Aside0.mk hl
      clear hcon hcon2 ho hres hs hl
      generalize sortedF l0 a1 = res at HTOLD ⊢
      go_enter Try.func23, Try.ntmps23
      go_wp2_with (first | (go_at_call 28; refine (span_sized.calls a1 true _ hsz).mono ?_; rintro e w' ⟨rfl, ⟨nd, rfl⟩⟩) | (go_at_call 31; refine (HC.out _ (by first | exact Below.refl _ _ | exact pw_below_drewN (Below.refl _ _) _)).mono ?_; rintro e w1 ⟨rfl, hb1⟩; have HB1 := Aside0.mk (HBX.out.trans (Below.mono (by first | exact hb1 | exact (pw_below_drewN (Below.refl _ _) _).trans hb1) (by simp) : Below w.heap.size _ w1)); clear hb1 HC HBX) | (go_at_call 34; refine (cloneSpan.calls A0 c0 l0 _ (Kd.C_below HR0.out HB1.out) (by have := HL.out; omega)).mono ?_; rintro e w2 ⟨v0, rfl, hR1, hb2⟩; obtain ⟨A1, c1, rfl⟩ := Kd.R_slice hR1; have HR1 := Aside0.mk hR1; have HB2 := Aside0.mk (below_step HB1.out hb2); clear hR1 hb2) | (go_at_call 35; refine (sortSpan.calls _ l0 _ w1.heap.size HR1.out (by have := HL.out; omega)).mono ?_; rintro e w3 ⟨rfl, m, hpm, hsm, hR2, hg2⟩; have hml := hpm.length_eq; have HT := Aside0.mk (HTOLD.out m hpm hsm); have HR2 := Aside0.mk hR2; have HB3 := Aside0.mk (Below.grown HB2.out hg2 (below_size HB2.out) (fun k hk => Nat.le_trans (below_size HB1.out) (Kd.R_base HR1.out k hk))); clear HTOLD hpm hsm hR2 hg2))
      rw [← hml] at HR2 ⊢
      clear hml
      have HC2 := Aside0.mk (Kd.R_reads' HR2.out).2.2
      have hbig : m.length ≤ 9223372036854775807 := HC2.out.2.1
      go_loopg [7, 25] m.length (fun gg s7 s25 wr => ∃ (kk : Nat) (e : Int), kk ≤ m.length ∧ m.length - kk ≤ gg ∧ s7 = .int .i64 e ∧ s25 = .int .i64 kk ∧ Aside0 (Below w3.heap.size w3 wr) ∧ Aside0 (chkF 0 m = chkF e (m.drop kk)))
      case atStart => exact ⟨0, 0, Nat.zero_le _, by omega, rfl, rfl, ⟨Below.refl _ w3⟩, ⟨rfl⟩⟩
      case round =>
        obtain ⟨kk, e, hkk, hg, rfl, rfl, BW, AA⟩ := hrel
        by_cases hlt : kk < m.length
        · have hltz : (kk : Int) < (m.length : Int) := by omega
          obtain ⟨ad, e0, hx0, hx1⟩ := at_T32 HC2.out (kk : Int) (by omega) hltz
          cases e0
          rw [rd_T32_get m kk hlt] at hx0 hx1
          simp only [Int.toNat_natCast] at hx0 hx1
          replace hx0 := (BW.out.cell (World.block_lt_of_cell? w3 _ hx0)).trans hx0
          replace hx1 := (BW.out.cell (World.block_lt_of_cell? w3 _ hx1)).trans hx1
          have AS : Aside0 (chkF 0 m = if m[kk].f0 < e then false else chkF (wrap64 (m[kk].f0 + m[kk].f1)) (m.drop (kk + 1))) := ⟨by rw [AA.out, List.drop_eq_getElem_cons hlt]; rfl⟩
          clear AA
          generalize m[kk] = y at hx0 hx1 AS
          by_cases hq : y.f0 < e
          · have hb : decide (y.f0 < e) = true := decide_eq_true hq
            have hres := Aside0.mk (HT.out.2 (by rw [AS.out, if_pos hq]))
            clear hq AS HT
            go_wp2
            go_ret2
            rw [hres.out]
            exact ⟨_, rfl, Kd.R_nil _ _ _ _ _, below_step HB3.out (by first | exact BW.out | apply below_step BW.out; repeat (first | exact Below.refl _ _ | apply below_alloc | apply pw_below_drewN | refine below_set ?_ (Nat.le_refl _)))⟩
          · have hb : decide (y.f0 < e) = false := decide_eq_false hq
            have AA := Aside0.mk (AS.out.trans (if_neg hq))
            clear hq AS
            go_wp2
            go_roundg (m.length - (kk + 1))
            case measure => omega
            case rel => exact ⟨kk + 1, _, by omega, by omega, rfl, by go_num, ⟨below_step BW.out (by repeat (first | exact Below.refl _ _ | apply below_alloc | apply pw_below_drewN | refine below_set ?_ (Nat.le_refl _)))⟩, AA⟩
        · have hltz : ¬ (kk : Int) < (m.length : Int) := by omega
          have hkl : kk = m.length := by omega
          subst hkl
          have hres := Aside0.mk (HT.out.1 (by rw [AA.out, List.drop_length]; rfl))
          clear HT AA
          go_wp2
          go_ret2
          rw [hres.out]
          exact ⟨_, rfl, Kd.R_lower (Kd.R_below HR2.out BW.out) (below_size HB1.out), below_step HB3.out BW.out⟩
  · have hsz : span_sized.f a1 = some false := by
      unfold span_sized.f
      by_cases h1 : 1 ≤ a1
      · rw [if_pos h1]
        have : ¬ a1 ≤ 8192 := fun h => hs ⟨h1, h⟩
        simp [this]
      · rw [if_neg h1]
    have hres : sortedF l0 a1 = ([], 11) := by unfold sortedF; rw [if_pos (by omega)]
    rw [hres]
    clear hs hres
    go_enter Try.func23, Try.ntmps23
    go_wp2_with (go_at_call 28; refine (span_sized.calls a1 false _ hsz).mono ?_; rintro e w' ⟨rfl, ⟨nd, rfl⟩⟩)
    go_ret2
    exact ⟨_, rfl, Kd.R_nil _ _ _ _ _, by first | exact HBX.out | exact pw_below_drewN HBX.out _⟩

end Go.Proofs.Ytjmplchknbgmgaa.PSpan
