-- laid by gprint.py (this session's own program) out of the translation: Lean checks it
import Derived.Test.YtjmplchknbgmgaaPSpanx0
import Derived.Shelf.Abstract
namespace Go.Proofs.Ytjmplchknbgmgaa.PSpan
open Go.RowKit Go.Proofs.YtjmplchknbgmgaaW.PrintWords Go.Proofs.YtjmplchknbgmgaaW.PrintLast Go.Proofs.YtjmplchknbgmgaaW.PrintMore
attribute [local go_sem] max2_int min2_int max_two min_two max_three min_three max_four min_four   -- for this text's walks alone
set_option linter.unusedVariables false
set_option linter.unusedSimpArgs false

/-! ### part:spanslices -/
/-- What is asked of a closure that tests an element. -/
def PredC {α : Type} (d : Kd α) (g : Nat) (lb : Array Value) (p : α → Bool) (w : World) : Prop :=
  ∀ (W : World) (x : α) (cs : List Value), Below w.heap.size w W → d.K W x cs → Calls Try.prog g (#[.agg cs.toArray] ++ lb) W fun e W' => e = .returned (.bool (p x)) ∧ Below W.heap.size W W'
/-- Where the first element is that p tells, or -1. -/
def idxP {α : Type} (p : α → Bool) (l : List α) : Int := match l.findIdx? p with | some i => (i : Int) | none => -1
theorem idxP_hit {α : Type} (p : α → Bool) (l : List α) (i : Nat) (h : i < l.length) (hp : p l[i] = true) (hn : ∀ j (hj : j < l.length), j < i → p l[j] = false) : idxP p l = (i : Int) := by
  have : l.findIdx? p = some i := by
    rw [List.findIdx?_eq_some_iff_getElem]
    exact ⟨h, hp, fun j hj => by simp [hn j (by omega) hj]⟩
  simp [idxP, this]
theorem idxP_miss {α : Type} (p : α → Bool) (l : List α) (hn : ∀ j (hj : j < l.length), p l[j] = false) : idxP p l = -1 := by
  have : l.findIdx? p = none := by
    rw [List.findIdx?_eq_none_iff]
    intro x hx
    obtain ⟨j, hj, rfl⟩ := List.mem_iff_getElem.1 hx
    simpa using hn j hj
  simp [idxP, this]
theorem idxP_nonneg {α : Type} (p : α → Bool) (l : List α) : decide (0 ≤ idxP p l) = l.any p := by
  cases h : l.findIdx? p with
  | none =>
    have : ∀ x ∈ l, p x = false := List.findIdx?_eq_none_iff.1 h
    have h2 : l.any p = false := by rw [List.any_eq_false]; intro x hx; simp [this x hx]
    simp [idxP, h, h2]
  | some i =>
    obtain ⟨hi, hp, _⟩ := List.findIdx?_eq_some_iff_getElem.1 h
    have h2 : l.any p = true := List.any_eq_true.2 ⟨_, List.getElem_mem hi, hp⟩
    have : (0 : Int) ≤ (i : Int) := by omega
    simp [idxP, h, h2, this]
theorem rd_T32_get (l : List S32) (j : Nat) (h : j < l.length) : rd_T32 l (j : Int) = l[j] := by
  simp [rd_T32, List.getD_eq_getElem?_getD, h]

set_option maxHeartbeats 2000000 in
theorem idxSpan.calls (p : S32 → Bool) (g : Nat) (lb : Array Value) (eg : ∀ args w, (callFunc g args).run Try.prog w = .ok (.enter g args) w) (A0 : Option Addr) (c0 : Nat) (l0 : List S32) (w : World)
    (hr0 : Kd.C k32 w A0 l0.length l0) (hp : PredC k32 g lb p w) :
    Calls Try.prog 41 #[.slice A0 l0.length c0, .func (.func g) #[] lb] w fun e w' => e = .returned (.int .i64 (idxP p l0)) ∧ Below w.heap.size w w' := by
  have hbig : l0.length ≤ 9223372036854775807 := hr0.2.1
  have HR0 := Aside0.mk hr0
  have HP := Aside0.mk hp
  clear hr0 hp
  go_enter Try.func41, Try.ntmps41
  go_wp2
  go_loopg [5, 8] l0.length (fun gg _ s8 wr => ∃ kk : Nat, kk ≤ l0.length ∧ l0.length - kk ≤ gg ∧ s8 = .int .i64 kk ∧ Aside0 (Below w.heap.size w wr) ∧ Aside0 (∀ j (hj : j < l0.length), j < kk → p l0[j] = false))
  case atStart => exact ⟨0, Nat.zero_le _, by omega, rfl, ⟨Below.refl _ w⟩, ⟨fun j _ hj => absurd hj (Nat.not_lt_zero _)⟩⟩
  case round =>
    obtain ⟨kk, hkk, hg, rfl, BW, AA⟩ := hrel
    by_cases hlt : kk < l0.length
    · have hltz : (kk : Int) < (l0.length : Int) := by omega
      obtain ⟨ad, e0, hx0, hx1⟩ := at_T32 HR0.out (kk : Int) (by omega) hltz
      cases e0
      rw [rd_T32_get l0 kk hlt] at hx0 hx1
      simp only [Int.toNat_natCast] at hx0 hx1
      replace hx0 := (BW.out.cell (World.block_lt_of_cell? w _ hx0)).trans hx0
      replace hx1 := (BW.out.cell (World.block_lt_of_cell? w _ hx1)).trans hx1
      have hcall := HP.out wr l0[kk] _ BW.out (k32_mk wr l0[kk])
      have hB : Aside0 (∀ q, p l0[kk] = q → (q = true → idxP p l0 = (kk : Int)) ∧ (q = false → ∀ j (hj : j < l0.length), j < kk + 1 → p l0[j] = false)) := ⟨fun q hq => ⟨fun h => idxP_hit p l0 kk hlt (hq.trans h) AA.out, fun h j hj hj2 => by
        rcases Nat.lt_succ_iff_lt_or_eq.1 hj2 with h3 | h3
        · exact AA.out j hj h3
        · subst h3; exact hq.trans h⟩⟩
      generalize l0[kk] = y at hx0 hx1 hcall hB
      cases hq : p y with
      | true =>
        rw [hq] at hcall hB
        have hres := Aside0.mk ((hB.out true rfl).1 rfl)
        clear hB hq
        go_wp2_with (go_at_fn g; refine hcall.mono ?_; rintro e w' ⟨rfl, hb'⟩)
        go_ret
        refine ⟨?_, below_step BW.out hb'⟩
        rw [hres.out]; rfl
      | false =>
        rw [hq] at hcall hB
        have hres := Aside0.mk ((hB.out false rfl).2 rfl)
        clear hB hq
        go_wp2_with (go_at_fn g; refine hcall.mono ?_; rintro e w' ⟨rfl, hb'⟩)
        go_roundg (l0.length - (kk + 1))
        case measure => omega
        case rel => exact ⟨kk + 1, by omega, by omega, by go_num, ⟨below_step BW.out hb'⟩, hres⟩
    · have hltz : ¬ (kk : Int) < (l0.length : Int) := by omega
      have hkl : kk = l0.length := by omega
      have hres := Aside0.mk (idxP_miss p l0 (fun j hj => AA.out j hj (by omega)))
      subst hkl
      go_wp2
      go_ret
      refine ⟨?_, BW.out⟩
      rw [hres.out]; rfl

theorem hasSpan.calls (p : S32 → Bool) (g : Nat) (lb : Array Value) (eg : ∀ args w, (callFunc g args).run Try.prog w = .ok (.enter g args) w) (A0 : Option Addr) (c0 : Nat) (l0 : List S32) (w : World)
    (hr0 : Kd.C k32 w A0 l0.length l0) (hp : PredC k32 g lb p w) :
    Calls Try.prog 31 #[.slice A0 l0.length c0, .func (.func g) #[] lb] w fun e w' => e = .returned (.bool (l0.any p)) ∧ Below w.heap.size w w' := by
  have hcon := idxSpan.calls p g lb eg A0 c0 l0 w hr0 hp
  have HN := Aside0.mk (idxP_nonneg p l0)
  clear hr0 hp
  generalize idxP p l0 = q at hcon HN
  generalize l0.any p = b at HN ⊢
  go_enter Try.func31, Try.ntmps31
  go_wp2_with (go_at_call 41; refine hcon.mono ?_; rintro e w' ⟨rfl, hb'⟩)
  go_ret
  exact ⟨by rw [HN.out]; rfl, hb'⟩

end Go.Proofs.Ytjmplchknbgmgaa.PSpan
