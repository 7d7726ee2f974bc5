import Derived.Test.YtppbcankhkgpfaaDoorPDpx0
import Derived.Shelf.Abstract
import Derived.Sort.QuietIn
import Derived.RangeFuncBox
import Derived.RangeFuncLeaves
import Derived.RangeFuncCalls
import Derived.RangeFuncFrom
import Derived.Shelf.RegionOpen
import Derived.OwnWalkIn
import Derived.TacticsInMore
import Derived.LoopNIn
import Derived.LoopIn
import Derived.Outline
import Derived.Deep.DeepMust
import Derived.Shelf.SlSortCmp.WholeK
import Derived.Shelf.SlSortCmp.NoneTotal
import Derived.Test.YtppbcankhkgpfaaDoorLayS
import Derived.Lib.SliceRun
--compressed
namespace Go.Proofs.YtppbcankhkgpfaaDoor.PDp
open Go.RowKit Go.Proofs.YtppbcankhkgpfaaDoorW.PrintWords Go.Proofs.YtppbcankhkgpfaaDoorW.PrintLast Go.Proofs.YtppbcankhkgpfaaDoorW.PrintMore
attribute [local go_sem] max2_int min2_int max_two min_two max_three min_three max_four min_four   -- for this text's walks alone
attribute [local go_sem high] hw_str_leq hw_str_gtr
set_option linter.unusedVariables false
set_option linter.unusedSimpArgs false
def PredC {α : Type} (d : Kd α) (g : Nat) (lb : Array Value) (p : α → Bool) (w : World) : Prop :=
  ∀ (W : World) (x : α) (cs : List Value), Below w.heap.size w W → d.K W x cs → Calls Tryd.prog g (#[.agg cs.toArray] ++ lb) W fun e W' => e = .returned (.bool (p x)) ∧ Below W.heap.size W W'
def idxP {α : Type} (p : α → Bool) (l : List α) : Int := match l.findIdx? p with | some i => (i : Int) | none => -1
theorem idxP_hit {α : Type} (p : α → Bool) (l : List α) (i : Nat) (h : i < l.length) (hp : p l[i] = true) (hn : ∀ j (hj : j < l.length), j < i → p l[j] = false) : idxP p l = (i : Int) := by
  have : l.findIdx? p = some i := by
    rw [List.findIdx?_eq_some_iff_getElem]
    exact ⟨h, hp, fun j hj => by simp [hn j (by omega) hj]⟩
  simp [idxP, this]
theorem idxP_miss {α : Type} (p : α → Bool) (l : List α) (hn : ∀ j (hj : j < l.length), p l[j] = false) : idxP p l = -1 := by
  have : l.findIdx? p = none := by
    rw [List.findIdx?_eq_none_iff]
    intro x hx
    obtain ⟨j, hj, rfl⟩ := List.mem_iff_getElem.1 hx
    simpa using hn j hj
  simp [idxP, this]
theorem idxP_nonneg {α : Type} (p : α → Bool) (l : List α) : decide (0 ≤ idxP p l) = l.any p := by
  cases h : l.findIdx? p with
  | none =>
    have : ∀ x ∈ l, p x = false := List.findIdx?_eq_none_iff.1 h
    have h2 : l.any p = false := by rw [List.any_eq_false]; intro x hx; simp [this x hx]
    simp [idxP, h, h2]
  | some i =>
    obtain ⟨hi, hp, _⟩ := List.findIdx?_eq_some_iff_getElem.1 h
    have h2 : l.any p = true := List.any_eq_true.2 ⟨_, List.getElem_mem hi, hp⟩
    have : (0 : Int) ≤ (i : Int) := by omega
    simp [idxP, h, h2, this]
theorem rd_T64_get (l : List S64) (j : Nat) (h : j < l.length) : rd_T64 l (j : Int) = l[j] := by
  simp [rd_T64, List.getD_eq_getElem?_getD, h]
set_option maxHeartbeats 2000000 in
theorem idxSpan.calls (p : S64 → Bool) (g : Nat) (lb : Array Value) (eg : ∀ args w, (callFunc g args).run Tryd.prog w = .ok (.enter g args) w) (A0 : Option Addr) (c0 : Nat) (l0 : List S64) (w : World)
    (hr0 : Kd.C k64 w A0 l0.length l0) (hp : PredC k64 g lb p w) :
    Calls Tryd.prog 102 #[.slice A0 l0.length c0, .func (.func g) #[] lb] w fun e w' => e = .returned (.int .i64 (idxP p l0)) ∧ Below w.heap.size w w' := by
  have hbig : l0.length ≤ 9223372036854775807 := hr0.2.1
  have HR0 := Aside0.mk hr0
  have HP := Aside0.mk hp
  clear hr0 hp
  go_enter Tryd.func102, Tryd.ntmps102
  go_wp2
  go_loopg [5, 8] l0.length (fun gg _ s8 wr => ∃ kk : Nat, kk ≤ l0.length ∧ l0.length - kk ≤ gg ∧ s8 = .int .i64 kk ∧ Aside0 (Below w.heap.size w wr) ∧ Aside0 (∀ j (hj : j < l0.length), j < kk → p l0[j] = false))
  case atStart => exact ⟨0, Nat.zero_le _, by omega, rfl, ⟨Below.refl _ w⟩, ⟨fun j _ hj => absurd hj (Nat.not_lt_zero _)⟩⟩
  case round =>
    obtain ⟨kk, hkk, hg, rfl, BW, AA⟩ := hrel
    by_cases hlt : kk < l0.length
    · have hltz : (kk : Int) < (l0.length : Int) := by omega
      obtain ⟨ad, e0, hx0, hx1⟩ := at_T64 HR0.out (kk : Int) (by omega) hltz
      cases e0
      rw [rd_T64_get l0 kk hlt] at hx0 hx1
      simp only [Int.toNat_natCast] at hx0 hx1
      replace hx0 := (BW.out.cell (World.block_lt_of_cell? w _ hx0)).trans hx0
      replace hx1 := (BW.out.cell (World.block_lt_of_cell? w _ hx1)).trans hx1
      have hcall := HP.out wr l0[kk] _ BW.out (k64_mk wr l0[kk])
      have hB : Aside0 (∀ q, p l0[kk] = q → (q = true → idxP p l0 = (kk : Int)) ∧ (q = false → ∀ j (hj : j < l0.length), j < kk + 1 → p l0[j] = false)) := ⟨fun q hq => ⟨fun h => idxP_hit p l0 kk hlt (hq.trans h) AA.out, fun h j hj hj2 => by
        rcases Nat.lt_succ_iff_lt_or_eq.1 hj2 with h3 | h3
        · exact AA.out j hj h3
        · subst h3; exact hq.trans h⟩⟩
      generalize l0[kk] = y at hx0 hx1 hcall hB
      cases hq : p y with
      | true =>
        rw [hq] at hcall hB
        have hres := Aside0.mk ((hB.out true rfl).1 rfl)
        clear hB hq
        go_wp2_with (go_at_fn g; refine hcall.mono ?_; rintro e w' ⟨rfl, hb'⟩)
        go_ret
        refine ⟨?_, below_step BW.out hb'⟩
        rw [hres.out]; rfl
      | false =>
        rw [hq] at hcall hB
        have hres := Aside0.mk ((hB.out false rfl).2 rfl)
        clear hB hq
        go_wp2_with (go_at_fn g; refine hcall.mono ?_; rintro e w' ⟨rfl, hb'⟩)
        go_roundg (l0.length - (kk + 1))
        case measure => omega
        case rel => exact ⟨kk + 1, by omega, by omega, by go_num, ⟨below_step BW.out hb'⟩, hres⟩
    · have hltz : ¬ (kk : Int) < (l0.length : Int) := by omega
      have hkl : kk = l0.length := by omega
      have hres := Aside0.mk (idxP_miss p l0 (fun j hj => AA.out j hj (by omega)))
      subst hkl
      go_wp2
      go_ret
      refine ⟨?_, BW.out⟩
      rw [hres.out]; rfl
theorem hasSpan.calls (p : S64 → Bool) (g : Nat) (lb : Array Value) (eg : ∀ args w, (callFunc g args).run Tryd.prog w = .ok (.enter g args) w) (A0 : Option Addr) (c0 : Nat) (l0 : List S64) (w : World)
    (hr0 : Kd.C k64 w A0 l0.length l0) (hp : PredC k64 g lb p w) :
    Calls Tryd.prog 90 #[.slice A0 l0.length c0, .func (.func g) #[] lb] w fun e w' => e = .returned (.bool (l0.any p)) ∧ Below w.heap.size w w' := by
  have hcon := idxSpan.calls p g lb eg A0 c0 l0 w hr0 hp
  have HN := Aside0.mk (idxP_nonneg p l0)
  clear hr0 hp
  generalize idxP p l0 = q at hcon HN
  generalize l0.any p = b at HN ⊢
  go_enter Tryd.func90, Tryd.ntmps90
  go_wp2_with (go_at_call 102; refine hcon.mono ?_; rintro e w' ⟨rfl, hb'⟩)
  go_ret
  exact ⟨by rw [HN.out]; rfl, hb'⟩
end Go.Proofs.YtppbcankhkgpfaaDoor.PDp
namespace Go.Proofs.YtppbcankhkgpfaaDoor.PDp
open Go.RowKit Go.Proofs.YtppbcankhkgpfaaDoorW.PrintWords Go.Proofs.YtppbcankhkgpfaaDoorW.PrintLast Go.Proofs.YtppbcankhkgpfaaDoorW.PrintMore
attribute [local go_sem] max2_int min2_int max_two min_two max_three min_three max_four min_four   -- for this text's walks alone
attribute [local go_sem high] hw_str_leq hw_str_gtr
set_option linter.unusedVariables false
set_option linter.unusedSimpArgs false
def SeqStopsP {α : Type} (F : Fence) (n : Nat) (P : Program) (g : Nat) (lb : Array Value) (encs : α → Array Value) (n₀ : Nat) (S Sp : List α → Prop) (N : Nat) (w : World) : Prop :=
  ∀ (l : Nat) (J Jx : List α → World → Prop) (W : World), Below w.heap.size w W → AbidesFrom W.heap.size J → AbidesFrom W.heap.size Jx →
    (∀ pre x W1 Wx, J pre W1 → W1.grownBy Wx none → n₀ ≤ W1.heap.size → pre.length < N → YieldAt F (n - 1) P l (encs x) Wx fun e W' =>
      (e = .returned (.bool true) ∧ J (pre ++ [x]) W' ∧ Below n₀ Wx W' ∧ (∀ k, W1.heap.size ≤ k → k < Wx.heap.size → W'.heap[k]? = Wx.heap[k]?)) ∨ (e = .returned (.bool false) ∧ Jx (pre ++ [x]) W')) →
    J [] W →
    CallsIn F n P g (#[.func (.yield l) #[] #[]] ++ lb) W fun e W' => (∃ v, e = .returned v) ∧ ((∃ xs, S xs ∧ J xs W') ∨ (∃ pre, Sp pre ∧ Jx pre W'))
def ownPostP {α : Type} (n₀ : Nat) (I : List α → World → Prop) (Ix : Code → List α → World → Prop) (xs : List α) (m mx : Nat) (W : World) : Exit → Act → World → Prop
  | .normal, _, W' => KeepsOthers W W' ∧ Below n₀ W W' ∧ (∀ k, m ≤ k → k < mx → W'.heap[k]? = W.heap[k]?) ∧ I xs W'
  | .ret, _, W' => KeepsOthers W W' ∧ Ix .ret xs W'
  | .exit id, _, W' => KeepsOthers W W' ∧ Ix (.exit id) xs W'
  | .goto t, _, W' => KeepsOthers W W' ∧ Ix (.goto t) xs W'
  | .panic _, _, _ => False
  | .outgrown, _, _ => False
theorem grownBy_putObj_none {W1 Wx : World} (h : W1.grownBy Wx none) {l : Nat} (hl : l < W1.heap.size) (o : Obj) : (W1.putObj l o).grownBy (Wx.putObj l o) none := by
  refine ⟨h.os, h.tape, h.output, by simpa using h.size, fun i hi _ => ?_⟩
  have hi' : i < W1.heap.size := by simpa using hi
  by_cases e : i = l
  · subst e
    rw [World.putObj_heap_same hi', World.putObj_heap_same (Nat.lt_of_lt_of_le hi' h.size)]
  · rw [World.putObj_heap_other e, World.putObj_heap_other e]
    exact h.block i hi' (by simp)
theorem wpIn_rangeFunc_ownP {F : Fence} {n : Nat} {P : Program} {α : Type} {g : Operand} {ps : Array Tmp} {assign body : Code} {Q : Exit → Act → World → Prop} {a : Act} {w : World}
    (hro : F.round = none) (h1 : 1 ≤ n) {gf : Nat} {lb : Array Value} (hg : a.eval g = .func (.func gf) #[] lb) (hFg : F.fn gf) (eg : ∀ args w, (callFunc gf args).run P w = .ok (.enter gf args) w)
    {encs : α → Array Value} {n₀ : Nat} {S Sp : List α → Prop} {N : Nat} {w0 : World} (hseq : SeqStopsP F (n - 1) P gf lb encs n₀ S Sp N w0)
    (hn₀ : n₀ ≤ w.heap.size) (hb0 : Below w0.heap.size w0 w) (hps : ∀ x, (encs x).size = ps.size)
    (I : List α → World → Prop) (Ix : Code → List α → World → Prop) (hI : OwnFrom w.heap.size I) (hIx : ∀ c, OwnFrom w.heap.size (Ix c)) (h0 : I [] w) (Ax : α → Act → Nat → World → Prop) (hAx : ∀ a' m, OwnFrom w.heap.size (fun x W => Ax x a' m W))
    (hassign : ∀ (l : Nat) (x : α) (m : Nat) (W : World) (K : Act → World → Prop), m ≤ W.heap.size → w.heap.size ≤ m → (∀ a' W', W.grownBy W' none → Ax x a' m W' → K a' W') →
      assign.wpIn (F.inRound l) (n - 1 - 1) P (Exit.then K (fun _ _ _ => False)) { tmps := (ps.zip (encs x)).foldl (fun t (p, v) => t.setIfInBounds p v) a.tmps, defers := [] } W)
    (hbody : ∀ (l : Nat) (pre : List α) (x : α) (a' : Act) (mx : Nat) (W1 W : World), I pre W1 → W1.grownBy W none → n₀ ≤ W1.heap.size → mx ≤ W.heap.size → pre.length < N → Ax x a' W1.heap.size W → body.wpIn (F.inRound l) (n - 1 - 1) P (ownPostP n₀ I Ix (pre ++ [x]) W1.heap.size mx W) a' W)
    (hdone : ∀ (D : Nat) (xs : List α) (W : World), w.heap.size ≤ D → S xs → I xs W → W.heap[D]? = some (.deferred (some [])) → Q .normal { a with defers := { target := .collected D, args := #[] } :: a.defers } W)
    (hstop : ∀ (D : Nat) (c : Code) (pre : List α) (W : World), w.heap.size ≤ D → Sp pre → Ix c pre W → W.heap[D]? = some (.deferred (some [])) → c.wpIn F n P Q { a with defers := { target := .collected D, args := #[] } :: a.defers } W) :
    (Code.rangeFunc g ps assign body).wpIn F n P Q a w := by
  refine wpIn_rangeFunc ?_
  intro fn hfn
  rw [hro]
  obtain ⟨rec, hrec⟩ : ∃ rec : LoopState → Option Code → Loop, rec = fun st pe => { state := st, pending := pe, fn, tmps := a.tmps, params := ps, assign, body, defers := w.heap.size } := ⟨_, rfl⟩
  obtain ⟨W1, hW1⟩ : ∃ W1, (w.alloc (.deferred (some []))).alloc (.loop (rec .ready none)) = W1 := ⟨_, rfl⟩
  have hL1 : W1.heap[w.heap.size + 1]? = some (.loop (rec .ready none)) := by
    rw [← hW1]; have := World.alloc_heap_new (w.alloc (.deferred (some []))) (.loop (rec .ready none)); rwa [World.size_alloc] at this
  have hK1 : W1.heap[w.heap.size]? = some (.deferred (some [])) := by
    rw [← hW1]; exact (Below.heap_alloc _ _ _ (by simp)).trans (World.alloc_heap_new w _)
  have hI1 : I [] W1 := by rw [← hW1]; exact hI.alloc _ (hI.alloc _ h0)
  have hb1 : Below w0.heap.size w0 W1 := by
    rw [← hW1]; exact hb0.trans ((((Below.refl _ w).alloc (Nat.le_refl _) _).alloc (by simp) _).mono hb0.size)
  refine ⟨w.heap.size + 1, [{ target := .collected w.heap.size, args := #[] }], W1, { target := .fn (.func gf) lb, args := #[.func (.yield (w.heap.size + 1)) #[] #[]] }, W1, gf,
    #[.func (.yield (w.heap.size + 1)) #[] #[]] ++ lb, W1, ?_, ?_, ?_, ?_, fun _ => h1, ?_⟩
  · rw [← hW1, hrec]; exact run_enterLoop_outer _ _ _ _ _
  · simp only [resolve, hg]
    simp [go_sem]
  · intro f' hf'; simp [Target.leads] at hf'; subst hf'; exact hFg
  · simp [invoke, go_sem, eg]
  · have hnw : ∀ {A B : World} {row : Option Nat}, (∀ r, row = some r → W1.heap.size ≤ r ∧ ∃ o : Obj, A.heap[r]? = some o ∧ o.isWalk = true) → (∀ r, row = some r → w.heap.size ≤ r ∧ ∃ o : Obj, A.heap[r]? = some o ∧ o.isCells = false) :=
      fun hr r e => by obtain ⟨hB, o, ho, hw⟩ := hr r e; exact ⟨by rw [← hW1] at hB; simp at hB; omega, o, ho, Obj.not_cells_of_walk hw⟩
    refine (hseq (w.heap.size + 1)
      (fun pre W => I pre W ∧ W.heap[w.heap.size + 1]? = some (.loop (rec .ready none)) ∧ W.heap[w.heap.size]? = some (.deferred (some [])))
      (fun pre W => ∃ c, Ix c pre W ∧ W.heap[w.heap.size + 1]? = some (.loop (rec .done (some c))) ∧ W.heap[w.heap.size]? = some (.deferred (some [])))
      W1 hb1
      (fun s A B row hs hg' hr => ⟨hI s A B row hs.1 hg' (hnw (B := B) hr), (grownBy_keeps hg' (fun r e => (hr r e).2) hs.2.1 rfl).trans hs.2.1, (grownBy_keeps hg' (fun r e => (hr r e).2) hs.2.2 rfl).trans hs.2.2⟩)
      (fun s A B row hs hg' hr => by
        obtain ⟨c, hc, hl, hk⟩ := hs
        exact ⟨c, hIx c s A B row hc hg' (hnw (B := B) hr), (grownBy_keeps hg' (fun r e => (hr r e).2) hl rfl).trans hl, (grownBy_keeps hg' (fun r e => (hr r e).2) hk rfl).trans hk⟩)
      ?_ ⟨hI1, hL1, hK1⟩).mono ?_
    · rintro pre x Wo W ⟨hi, hlo, hko⟩ hgr hno hlen
      have hlto : w.heap.size + 1 < Wo.heap.size := (Array.getElem?_eq_some_iff.1 hlo).1
      have hl : W.heap[w.heap.size + 1]? = some (.loop (rec .ready none)) := (hgr.block _ hlto (by simp)).trans hlo
      have hk : W.heap[w.heap.size]? = some (.deferred (some [])) := (hgr.block _ (by omega) (by simp)).trans hko
      have hlt : w.heap.size + 1 < W.heap.size := (Array.getElem?_eq_some_iff.1 hl).1
      have hy := run_yield (P := P) (args := encs x) hl (by rw [hrec]; exact hps x)
      rw [hrec] at hy
      refine ⟨fn, _, assign, body, hy, roundIn_of_wpIn hfn (hassign _ x Wo.heap.size W _ hgr.size (by omega) fun a' W2 hgr2 hax => ?_)⟩
      have hlx : W2.heap[w.heap.size + 1]? = some (.loop (rec .ready none)) := (hgr2.block _ hlt (by simp)).trans hl
      have hkx : W2.heap[w.heap.size]? = some (.deferred (some [])) := (hgr2.block _ (by omega) (by simp)).trans hk
      have hltx : w.heap.size + 1 < W2.heap.size := (Array.getElem?_eq_some_iff.1 hlx).1
      refine ⟨_, run_beginRound hlx (by rw [hrec]), ?_⟩
      have hl2 : (W2.putObj (w.heap.size + 1) (.loop { rec .ready none with state := .busy })).heap[w.heap.size + 1]? = some (.loop { rec .ready none with state := .busy }) := World.putObj_heap_same hltx
      have hk2 : (W2.putObj (w.heap.size + 1) (.loop { rec .ready none with state := .busy })).heap[w.heap.size]? = some (.deferred (some [])) := (World.putObj_heap_other (by omega)).trans hkx
      have hw2 : Below n₀ W (W2.putObj (w.heap.size + 1) (.loop { rec .ready none with state := .busy })) := ((Below.refl n₀ W).grown hgr2 (by have := hgr.size; omega) (fun k e => by cases e)).grown (grownBy_putObj' W2 _ _) (by have := hgr.size; have := hgr2.size; omega) (fun k e => by cases e; omega)
      have hgo : Wo.grownBy W2 none := ⟨hgr2.os.trans hgr.os, hgr2.tape.trans hgr.tape, hgr2.output.trans hgr.output, Nat.le_trans hgr.size hgr2.size, fun i hi hne => (hgr2.block i (Nat.lt_of_lt_of_le hi hgr.size) hne).trans (hgr.block i hi hne)⟩
      have hg2 := grownBy_putObj_none hgo hlto (.loop { rec .ready none with state := .busy })
      refine wpIn_mono (hbody _ pre x a' W.heap.size _ _ (hI.putObj _ hi (by omega) hlo rfl) hg2 (by simpa using hno) (by simpa using hgr2.size) hlen (by
        have := (hAx a' Wo.heap.size).putObj (.loop { rec .ready none with state := .busy }) (s := x) hax (l := w.heap.size + 1) (by omega) hlx rfl
        simpa using this)) ?_
      have fin : ∀ (jump : Option Code) (W3 : World), KeepsOthers (W2.putObj (w.heap.size + 1) (.loop { rec .ready none with state := .busy })) W3 →
          (Instr.endRound (w.heap.size + 1) jump).run P W3 = .ok (.bool jump.isNone) (W3.putObj (w.heap.size + 1) (.loop (rec (if jump.isNone then .ready else .done) jump))) ∧
          W3.heap[w.heap.size + 1]? = some (.loop { rec .ready none with state := .busy }) ∧
          (W3.putObj (w.heap.size + 1) (.loop (rec (if jump.isNone then .ready else .done) jump))).heap[w.heap.size + 1]? = some (.loop (rec (if jump.isNone then .ready else .done) jump)) ∧
          (W3.putObj (w.heap.size + 1) (.loop (rec (if jump.isNone then .ready else .done) jump))).heap[w.heap.size]? = some (.deferred (some [])) := fun jump W3 hk3 => by
        have hl3 := hk3.same _ _ hl2 rfl
        have := run_endRound (P := P) jump hl3
        rw [hrec] at this ⊢
        exact ⟨this, by rw [hrec] at hl3; exact hl3, World.putObj_heap_same (Array.getElem?_eq_some_iff.1 hl3).1, (World.putObj_heap_other (by omega)).trans (hk3.same _ _ hk2 rfl)⟩
      rintro e a3 W3 hp
      cases e with
      | normal =>
        obtain ⟨hk3, hkp3, hpr3, hi3⟩ := hp
        obtain ⟨hr, hl3, hl4, hk4⟩ := fin none W3 hk3
        refine ⟨_, _, hr, .inl ⟨rfl, ⟨hI.putObj _ hi3 (by omega) hl3 rfl, hl4, hk4⟩, (hw2.trans hkp3).trans ((Below.refl n₀ W3).grown (grownBy_putObj' W3 _ _) (by have h3 := hkp3.size; have h4 := hgr.size; have h5 := hgr2.size; simp at h3; omega) (fun k e => by cases e; omega)), fun k hk1 hk2 => ?_⟩⟩
        have hne : k ≠ w.heap.size + 1 := by omega
        rw [World.putObj_heap_other hne, hpr3 k (by simpa using hk1) (by simpa using hk2), World.putObj_heap_other hne, hgr2.block k hk2 (by simp)]
      | ret =>
        obtain ⟨hk3, hi3⟩ := hp
        obtain ⟨hr, hl3, hl4, hk4⟩ := fin (some .ret) W3 hk3
        exact ⟨_, _, hr, .inr ⟨rfl, .ret, (hIx _).putObj _ hi3 (by omega) hl3 rfl, hl4, hk4⟩⟩
      | exit id =>
        obtain ⟨hk3, hi3⟩ := hp
        obtain ⟨hr, hl3, hl4, hk4⟩ := fin (some (.exit id)) W3 hk3
        exact ⟨_, _, hr, .inr ⟨rfl, .exit id, (hIx _).putObj _ hi3 (by omega) hl3 rfl, hl4, hk4⟩⟩
      | goto t =>
        obtain ⟨hk3, hi3⟩ := hp
        obtain ⟨hr, hl3, hl4, hk4⟩ := fin (some (.goto t)) W3 hk3
        exact ⟨_, _, hr, .inr ⟨rfl, .goto t, (hIx _).putObj _ hi3 (by omega) hl3 rfl, hl4, hk4⟩⟩
      | panic ch => exact hp.elim
      | outgrown => exact hp.elim
    · rintro e W2 ⟨⟨v, rfl⟩, (⟨xs, hS, hi, hl, hk⟩ | ⟨pre, hSp, c, hi, hl, hk⟩)⟩
      · exact ⟨none, _, by have := run_endLoop (P := P) hl (by rw [hrec]; simp); rw [hrec] at this; exact this, hdone _ xs _ (Nat.le_refl _) hS (hI.putObj _ hi (by omega) hl rfl) ((World.putObj_heap_other (by omega)).trans hk)⟩
      · exact ⟨some c, _, by have := run_endLoop (P := P) hl (by rw [hrec]; simp); rw [hrec] at this; exact this, hstop _ c pre _ (Nat.le_refl _) hSp ((hIx c).putObj _ hi (by omega) hl rfl) ((World.putObj_heap_other (by omega)).trans hk)⟩
theorem R_ownGrown {α : Type} {d : Kd α} {e base : Nat} {ok : Nat → Prop} {w w1 : World} {v : Value} {xs : List α} {row : Option Nat} (h : d.R e w base ok v xs) (hg : w.grownBy w1 row)
    (hr : ∀ r, row = some r → ∃ o : Obj, w.heap[r]? = some o ∧ o.isCells = false) : d.R e w1 base ok v xs := by
  refine Kd.R_mono (Kd.R_grown (Kd.R_bound h) hg (fun k hk er => ?_)) (fun _ hk => hk.1)
  obtain ⟨_, _, _, q, _, cells, hc⟩ := hk
  obtain ⟨o, ho, hn⟩ := hr k er.symm
  rw [hc] at ho
  cases ho
  cases hn
theorem hw_wpIn_inRound {F : Fence} {n : Nat} {P : Program} {o : Oper} {a : Act} {w : World} {K : Act → World → Prop} {Q : Exit → Act → World → Prop} (l : Nat) (hro : F.round = none) (hd : ∀ c, o.op ≠ .defer c)
    (h : o.wpIn F n P a w K Q) : o.wpIn (F.inRound l) n P a w K Q := by
  unfold Oper.wpIn at *
  refine ⟨h.1, ?_⟩
  have h2 := h.2
  rw [hro, Oper.semAt_none] at h2
  show o.uponIn (F.inRound l) n P a K Q ((o.semAt (some l) a.eval).run P w)
  rw [Oper.semAt_some l a.eval o hd]
  exact h2
theorem hw_wpOpIn_inRound {F : Fence} {n : Nat} {P : Program} {ops : Array Oper} {i : Nat} {a : Act} {w : World} {K K' : Act → World → Prop} {Q : Exit → Act → World → Prop} (l : Nat) (hro : F.round = none) (hd : ∀ (i : Nat) (o : Oper), ops[i]? = some o → ∀ c, o.op ≠ .defer c)
    (hK : ∀ a w, K a w → K' a w) (h : wpOpIn F n P ops Q i K a w) : wpOpIn (F.inRound l) n P ops Q i K' a w := by
  have h := wpOpIn_mono hK h
  unfold wpOpIn at *
  split
  · rename_i hn
    simpa [hn] using h
  · rename_i o ho
    simp only [ho] at h
    split
    · rename_i hw
      simp only [hw, if_true] at h
      exact hw_wpIn_inRound l hro (hd _ _ ho) h
    · rename_i hw
      simp only [hw] at h
      exact h
theorem hw_wpAnyIn_inRound {F : Fence} {n : Nat} {P : Program} {md : Region.Mode} {ops : Array Oper} {Q : Exit → Act → World → Prop} (l : Nat) (hro : F.round = none) (hd : ∀ (i : Nat) (o : Oper), ops[i]? = some o → ∀ c, o.op ≠ .defer c) :
    ∀ (fuel : Nat) (listed : Array Bool) (a : Act) (w : World), wpAnyIn F n P md ops Q fuel listed a w → wpAnyIn (F.inRound l) n P md ops Q fuel listed a w
  | 0, _, _, _, h => h
  | fuel + 1, _, _, _, h => ⟨h.1, fun i hi => hw_wpOpIn_inRound l hro hd (fun a w hk => hw_wpAnyIn_inRound l hro hd fuel _ a w hk) (h.2 i hi)⟩
theorem hw_region_quiet {F : Fence} {n : Nat} {P : Program} {id : Nat} {Q : Exit → Act → World → Prop} {a : Act} {w : World} {l : List Oper} (r : Nat) (hro : F.round = none) (hd : (l.all fun (o : Oper) => match o.op with | .defer _ => false | _ => true) = true) (hm : P.follows .mixedOrders = true) (hB : Region.lexB .any l.toArray = true)
    (h : wpQuietIn F n P l.toArray (fun w' => ∃ n, w' = w.drewN n) (fun a' => ∀ w', (∃ n, w' = w.drewN n) → Q .normal a' w') l a) : (Code.region id l.toArray true).wpIn (F.inRound r) n P Q a w := by
  have hd' : ∀ (i : Nat) (o : Oper), l.toArray[i]? = some o → ∀ c, o.op ≠ .defer c := by
    intro i o ho c hc
    have hm : o ∈ l := List.mem_of_getElem? (by simpa using ho)
    have := List.all_eq_true.1 hd o hm
    rw [hc] at this
    cases this
  have hB' := hB
  simp only [Region.lexB, Bool.and_eq_true] at hB'
  refine wpIn_region_any hm (hw_wpAnyIn_inRound r hro hd' _ _ _ _ (wpAnyIn_of_quiet (C := fun w' => ∃ n, w' = w.drewN n) (Q := fun a' => ∀ w', (∃ n, w' = w.drewN n) → Q .normal a' w') hro (fun _ w' hw' h => h w' hw') _ _ _ _ ⟨1, rfl⟩ ?_))
  have := wpAnyQIn_lex (F := F) (n := n) (P := P) (C := fun w' => ∃ n, w' = w.drewN n) (md := .any) (Q := fun a' => ∀ w', (∃ n, w' = w.drewN n) → Q .normal a' w') hB'.1 l 0 (Array.replicate l.toArray.size false) a (by simp) (by simpa using hB'.2) h
  simpa using this
end Go.Proofs.YtppbcankhkgpfaaDoor.PDp
namespace Go.Proofs.YtppbcankhkgpfaaDoor.PDp
open Go.RowKit Go.Proofs.YtppbcankhkgpfaaDoorW.PrintWords Go.Proofs.YtppbcankhkgpfaaDoorW.PrintLast Go.Proofs.YtppbcankhkgpfaaDoorW.PrintMore
attribute [local go_sem] max2_int min2_int max_two min_two max_three min_three max_four min_four   -- for this text's walks alone
attribute [local go_sem high] hw_str_leq hw_str_gtr
set_option linter.unusedVariables false
set_option linter.unusedSimpArgs false
attribute [local go_sem] Oper.semAt_some
open Go.Shelf
def encS (x : S64) : Array Value := #[.agg #[.int .i64 x.f0, .int .i64 x.f1]]
set_option maxRecDepth 100000 in
set_option maxHeartbeats 2000000 in
theorem vals1_in (F : Fence) (n : Nat) (h7 : F.fn 95) (hro : F.round = none) (hn : 1 ≤ n) (l Bs n₀ c0 : Nat) (A0 : Option Addr) (zs : List S64) (W0 : World) (hn₀ : W0.heap.size ≤ n₀) (J Jx : List S64 → World → Prop)
    (hC : Kd.C k64 W0 A0 zs.length zs)
    (hY : ∀ pre x W1 Wx, J pre W1 → W1.grownBy Wx none → n₀ ≤ W1.heap.size → pre.length < zs.length → YieldAt F (n - 1) Tryd.prog l (encS x) Wx fun e W' =>
      (e = .returned (.bool true) ∧ J (pre ++ [x]) W' ∧ Below n₀ Wx W' ∧ (∀ k, W1.heap.size ≤ k → k < Wx.heap.size → W'.heap[k]? = Wx.heap[k]?)) ∨ (e = .returned (.bool false) ∧ Jx (pre ++ [x]) W'))
    (W : World) (hJ : AbidesFrom W.heap.size J) (hWn : n₀ ≤ W.heap.size) (hb0 : Below W0.heap.size W0 W) (hBs : W.cell? ⟨Bs, 0, none⟩ = some (.slice A0 zs.length c0)) (h0 : J [] W) :
    CallsIn F n Tryd.prog 95 #[.func (.yield l) #[] #[], .pointer (some ⟨Bs, 0, none⟩)] W fun e W' => (∃ v, e = .returned v) ∧
      ((∃ ys, ys = zs ∧ J ys W') ∨ (∃ pre, True ∧ Jx pre W')) := by
  have hlen : zs.length ≤ 9223372036854775807 := hC.2.1
  have HC := Aside0.mk hC
  clear hC
  have hu := Tryd.underlying64
  refine callsIn_of_wp Tryd.func95 rfl h7 ?_ hro
  simp only [Tryd.ntmps95, List.size_toArray, List.length_cons, List.length_nil, Nat.reduceAdd, Nat.reduceSub, Array.replicate_succ, Array.replicate_zero, List.push_toArray, List.append_toArray, List.nil_append, List.cons_append]
  gi_wp2
  gi_loopw [4, 7] (fun _ i wr => ∃ k : Nat, k ≤ zs.length ∧ i = .int .i64 k ∧ Aside0 (J (zs.take k) wr) ∧ Aside0 (Below n₀ W wr))
    (fun _ i _ => zs.length - (intOf i).toNat)
  case atStart => exact ⟨0, Nat.zero_le _, rfl, ⟨h0⟩, ⟨Below.refl _ _⟩⟩
  case round =>
    obtain ⟨k, hk, rfl, hJs, hnx⟩ := hrel
    by_cases hlt : k < zs.length
    · obtain ⟨ad, e0, hx0, hx1⟩ := at_T64 HC.out (k : Int) (by omega) (by omega)
      cases e0
      rw [rd_T64_get zs k hlt] at hx0 hx1
      simp only [Int.toNat_natCast] at hx0 hx1
      have hW0 : Below W0.heap.size W0 wr := hb0.trans (hnx.out.mono hn₀)
      replace hx0 := (hW0.cell (World.block_lt_of_cell? _ _ hx0)).trans hx0
      replace hx1 := (hW0.cell (World.block_lt_of_cell? _ _ hx1)).trans hx1
      obtain ⟨fn, tmps, assign, body, hy, hR⟩ := hY _ zs[k] wr _ hJs.out (World.grownBy_alloc wr (.cells #[.int .i64 zs[k].f0, .int .i64 zs[k].f1] 64) none) (Nat.le_trans hWn hnx.out.size) (by rw [List.length_take, Nat.min_eq_left hk]; exact hlt)
      have hT : Aside0 (zs.take k ++ [zs[k]] = zs.take (k + 1)) := ⟨by rw [List.take_succ_eq_append_getElem hlt]⟩
      unfold encS at hy
      have hbig : (k : Int) < (zs.length : Int) := by omega
      generalize zs[k] = y at hx0 hx1 hy hR hT
      generalize hP : zs.take k = pre at hJs hR hT
      clear hP hW0
      gi_wp2
      refine hR.mono ?_
      rintro e W3 (⟨rfl, hJ3, hk3, _⟩ | ⟨rfl, hJx3⟩)
      · gi_wp2
        go_roundw
        case rel => exact ⟨k + 1, by omega, by simp, ⟨by rw [← hT.out]; exact hJ3⟩, ⟨(hnx.out.alloc (Nat.le_trans hWn hnx.out.size) _).trans hk3⟩⟩
        case measure => simp [intOf]; omega
      · gi_wp2
        refine bodyPost_ret (results_none rfl _ _ _) rfl ?_
        exact ⟨⟨_, rfl⟩, .inr ⟨_, trivial, hJx3⟩⟩
    · have hkl : k = zs.length := by omega
      subst hkl
      gi_wp2
      go_end0
      exact ⟨⟨_, rfl⟩, .inl ⟨_, rfl, by have := hJs.out; rwa [List.take_length] at this⟩⟩
end Go.Proofs.YtppbcankhkgpfaaDoor.PDp
namespace Go.Proofs.YtppbcankhkgpfaaDoor.PDp
open Go.RowKit Go.Proofs.YtppbcankhkgpfaaDoorW.PrintWords Go.Proofs.YtppbcankhkgpfaaDoorW.PrintLast Go.Proofs.YtppbcankhkgpfaaDoorW.PrintMore
attribute [local go_sem] max2_int min2_int max_two min_two max_three min_three max_four min_four   -- for this text's walks alone
attribute [local go_sem high] hw_str_leq hw_str_gtr
set_option linter.unusedVariables false
set_option linter.unusedSimpArgs false
attribute [local go_sem] Oper.semAt_some
open Go.Shelf
def joinStep (l : List S64) (s : S64) : List S64 := match l.getLast? with
  | some t => if wrap64 (t.f0 + t.f1) = s.f0 then l.dropLast ++ [⟨t.f0, wrap64 (t.f1 + s.f1)⟩] else l ++ [s]
  | none => [s]
def joinF (l : List S64) : List S64 := l.foldl joinStep []
theorem joinStep_len (l : List S64) (s : S64) : (joinStep l s).length ≤ l.length + 1 := by
  unfold joinStep
  split
  · split <;> simp
  · simp
theorem joinF_len (l : List S64) : (joinF l).length ≤ l.length := by
  unfold joinF
  suffices h : ∀ a, (l.foldl joinStep a).length ≤ a.length + l.length by simpa using h []
  induction l with
  | nil => simp
  | cons s t ih =>
    intro a
    have h1 := ih (joinStep a s)
    have h2 := joinStep_len a s
    simp only [List.foldl_cons, List.length_cons]
    omega
theorem own_ltW1 {w : World} {base : Nat} {v : Value} {xs : List S64} (h : Kd.R k64 64 w base (fun _ => True) v xs) : ∀ k, v.ownBlock = some k → k < w.heap.size := Kd.R_lt h
theorem cells_two_new (w : World) (a b : Value) (T : TypeId) : ∀ j u, ([a, b] : List Value)[j]? = some u → (w.alloc (.cells #[a, b] T)).cell? ((⟨w.heap.size, 0, none⟩ : Addr).add j) = some u := by
  intro j u h
  rw [add_plain]
  have hb := World.alloc_heap_new w (.cells #[a, b] T)
  match j, h with
  | 0, h => simp at h; subst h; simp only [World.cell?, hb]; rfl
  | 1, h => simp at h; subst h; simp only [World.cell?, hb]; rfl
  | j + 2, h => simp at h
theorem joinF_snoc (l : List S64) (s : S64) : joinF (l ++ [s]) = joinStep (joinF l) s := by simp [joinF]
set_option maxRecDepth 100000 in
set_option maxHeartbeats 4000000 in
theorem joined_in (F : Fence) (n : Nat) (h24 : F.fn 73) (hro : F.round = none) (hn : 2 ≤ n) (gf : Nat) (lb : Array Value) (hFg : F.fn gf) (eg : ∀ args w, (callFunc gf args).run Tryd.prog w = .ok (.enter gf args) w) (zs : List S64) (Sp : List S64 → Prop) (N : Nat) (hN : N < 8796093000000) (w : World)
    (hseq : SeqStopsP F (n - 1) Tryd.prog gf lb encS w.heap.size (fun ys => ys = zs) Sp N w) :
    CallsIn F n Tryd.prog 73 #[.func (.func gf) #[] lb] w fun e W' => ∃ v, e = .returned v ∧ Kd.R k64 64 W' w.heap.size (fun _ => True) v (joinF zs) ∧ Below w.heap.size w W' := by
  have hu := Tryd.underlying64
  obtain ⟨i0, hi, hz0, hz1, hz2⟩ := info_parts info64
  refine callsIn_of_wp_marks Tryd.func73 rfl h24 ?_ hro
  simp only [Tryd.ntmps73, List.size_toArray, List.length_cons, List.length_nil, Nat.reduceAdd, Nat.reduceSub, Array.replicate_succ, Array.replicate_zero, List.push_toArray, List.append_toArray, List.nil_append, List.cons_append]
  gi_wp2
  have bO := Boxed.new w 41 (.slice none 0 0)
  have hB0 : Below w.heap.size w (w.alloc (.cells #[.slice none 0 0] 41)) := (Below.refl _ w).alloc (Nat.le_refl _) _
  refine wpIn_rangeFunc_ownP hro (by omega) (gf := gf) (lb := lb) rfl hFg eg hseq (by simp) hB0 (fun _ => rfl)
    (fun pre W => (∃ v, Boxed W w.heap.size 41 v ∧ Kd.R k64 64 W w.heap.size (fun _ => True) v (joinF pre)) ∧ Below w.heap.size w W)
    (fun _ _ _ => False)
    (OwnFrom.and (fun s A B row hs hg hr => by
      obtain ⟨v, h1, h2⟩ := hs
      refine ⟨v, h1.kept hg (fun e => ?_), R_ownGrown h2 hg (fun r e => (hr r e).2)⟩
      obtain ⟨_, o, ho, hc⟩ := hr _ e.symm
      rw [show A.heap[w.heap.size]? = _ from h1] at ho; cases ho; cases hc) (ownFrom_below (Nat.le_refl _) (by simp)))
    (fun _ _ _ _ _ hs _ _ => hs)
    ⟨⟨_, bO, Kd.R_nil _ _ _ _ _⟩, hB0⟩
    (fun x a' m W => ∃ Bx, m ≤ Bx ∧ W.heap[Bx]? = some (.cells #[.int .i64 x.f0, .int .i64 x.f1] 64 (0, 0)) ∧ a' = { tmps := #[.func (.func gf) #[] lb, undef, .slice none 0 0, .pointer (some ⟨w.heap.size, 0, none⟩), .pointer (some ⟨Bx, 0, none⟩), undef, .func (.func gf) #[] lb, .agg #[.int .i64 x.f0, .int .i64 x.f1], undef, undef, undef, undef, undef, undef, undef, undef, undef, undef, undef, undef, undef, undef, undef, undef, undef, undef, undef, undef, undef, undef, undef, undef, undef, undef, undef, undef, undef, undef, undef, undef, undef, undef, undef, undef], defers := [] })
    (fun a' m s A B row hs hg hr => by
      obtain ⟨Bx, h1, h2, h3⟩ := hs
      refine ⟨Bx, h1, (hg.block _ (Array.getElem?_eq_some_iff.1 h2).1 (fun e => ?_)).trans h2, h3⟩
      obtain ⟨_, o, ho, hc⟩ := hr _ e.symm
      rw [h2] at ho; cases ho; cases hc)
    ?assign ?body ?done ?stop
  case assign =>
    intro l x m W K hm hwm hK
    unfold encS
    gi_wp2
    exact hK _ _ (World.grownBy_alloc W _ none) ⟨W.heap.size, hm, World.alloc_heap_new W _, rfl⟩
  case body =>
    rintro l pre x a' mx W1 W ⟨⟨v, hv0, hR0⟩, hB1⟩ hgr hno hmx hlt ⟨Bx, hBx, hbx, rfl⟩
    have hv : Boxed W w.heap.size 41 v := hv0.kept hgr (by simp)
    have hRW := Kd.R_grown hR0 hgr (fun _ _ => by simp)
    have hBW : Below w.heap.size w W := hB1.grown hgr hno (fun k e => by cases e)
    have hc := hv.cell
    have hf := hv.frozen
    have hx0 : W.cell? ⟨Bx, 0, none⟩ = some (.int .i64 x.f0) := by simp [World.cell?, hbx]
    have hx1 : W.cell? ⟨Bx, 1, none⟩ = some (.int .i64 x.f1) := by simp [World.cell?, hbx]
    have hmx : Tryd.prog.follows .mixedOrders = true := by kernel_rfl
    have hJl : (joinF pre).length < 8796093000000 := by have := joinF_len pre; omega
    have hS0 := Aside0.mk (joinF_snoc pre x)
    have HRW := Aside0.mk hRW
    have HBW := Aside0.mk hBW
    have HV := Aside0.mk hv
    have hR1 := hR0
    have hBlt : w.heap.size < W1.heap.size := hv0.lt
    clear hRW hBW hv hv0 hR0 hB1
    have HRB := Aside0.mk hR1
    clear hR1
    by_cases hz : joinF pre = []
    · obtain ⟨A, c, rfl⟩ := Kd.R_slice HRW.out
      rw [hz] at hS0 HRW hc HV HRB
      have hS1 := Aside0.mk (show joinF (pre ++ [x]) = [] ++ [x] from hS0.out)
      clear hz hS0 hJl hgr hlt
      simp only [List.length_nil] at hc HRW HV HRB
      gi_wp2
      refine hw_region_quiet l hro rfl hmx (by kernel_rfl) ?_
      repeat (gi_big_quiet_step (fail))
      refine wpQuietIn_nil ?_
      intro _ hw'
      obtain ⟨nq, hw''⟩ := hw'
      subst hw''
      obtain ⟨W2, hW2⟩ : ∃ W2, W.drewN nq = W2 := ⟨_, rfl⟩
      have hkq : KeepsOthers W W2 := by rw [← hW2]; exact ⟨Nat.le_refl _, fun _ _ h _ => h⟩
      have hbq : Below w.heap.size W W2 := by rw [← hW2]; exact pw_below_drewN (Below.refl _ _) nq
      have hv : Boxed W2 w.heap.size 41 (.slice A 0 c) := by rw [← hW2]; exact HV.out
      have hR2 := Kd.R_drewN HRW.out nq
      have hy0 : W2.cell? ⟨Bx, 0, none⟩ = some (.int .i64 x.f0) := by rw [← hW2]; exact hx0
      have hy1 : W2.cell? ⟨Bx, 1, none⟩ = some (.int .i64 x.f1) := by rw [← hW2]; exact hx1
      have hpq := Aside0.mk (show ∀ k, W1.heap.size ≤ k → k < mx → W2.heap[k]? = W.heap[k]? by rw [← hW2]; intros; rfl)
      have hsz : W2.heap.size = W.heap.size := by rw [← hW2]; rfl
      rw [hW2] at hR2 ⊢
      have hc2 := hv.cell
      have HKQ := Aside0.mk hkq
      have HBQ := Aside0.mk hbq
      have HSZ := Aside0.mk hsz
      clear hW2 hkq hbq hsz hx0 hx1 hc hf HV HRW
      have hOB := Aside0.mk (own_ltW1 HRB.out)
      obtain ⟨_, inner, ho, hr⟩ := hR2
      (try simp only [List.length_append, List.length_singleton] at ho)
      have HR := Aside0.mk hr
      clear hr
      gi_wp2_with (gi_at_builtin; go_must (refine wpListIn_append_own _ rfl _ _ 41 rfl w.heap.size 64 i0 (.agg #[.int .i64 0, .int .i64 0]) 2 16 Tryd.underlying41 hi hz0 hz1 hz2 rfl (by decide) _ _ _ rfl (ho.alloc _) ⟨W2.heap.size, 0, none⟩ 1 1 [.int .i64 x.f0, .int .i64 x.f1] rfl rfl ?qc1 ?qc2 ?qc3 ?qc4 ?qc5 ?_); go_must (case qc1 => exact cells_two_new _ _ _ _); go_must (case qc2 => simp [Value.oneCell']); go_must (case qc3 => first | (simp only [maxLen]; omega) | (simp [maxLen])); go_must (case qc4 => first | omega | simp); go_must (case qc5 => have := HBW.out.size; have := HSZ.out; simp; omega); intro v' w1 hown' hgrow _; go_must (obtain ⟨g', cap', rfl⟩ := ownsRow_succ hown'); go_must (obtain ⟨hv1, hv2, hr2, hk2, hb2⟩ := hv.appended (by decide) ho (by have := HBW.out.size; have := HSZ.out; omega) (Nat.le_refl _) hown' hgrow); have hc1 := hv1.cell; have hf1 := hv1.frozen; have HG := Aside0.mk hgrow; have HHR := Aside0.mk hr2; clear hgrow hown' hr2)
      refine ⟨HKQ.out.trans hk2, HBQ.out.trans hb2, ?_, ⟨_, hv2, ?_⟩, (HBW.out.trans HBQ.out).trans hb2⟩
      · intro k hk1 hk2
        have hkW : k < W2.heap.size := by have := HSZ.out; omega
        rw [← hpq.out k hk1 hk2, Below.heap_setCell _ _ _ _ (by simp; omega), HG.out.block k (by rw [World.size_alloc]; omega) (fun e => by have := hOB.out k e.symm; omega), Below.heap_alloc _ _ _ hkW]
      · rw [hS1.out]
        exact ⟨fun _ _ => trivial, _, by have h_ := HHR.out; simpa [List.length_append] using h_, HR.out.snoc (k64_mkM _ _ _ x) rfl⟩
    · obtain ⟨init, tl, hit⟩ : ∃ init tl, joinF pre = init ++ [tl] := ⟨_, _, (List.dropLast_concat_getLast hz).symm⟩
      rw [hit] at hS0 HRW hJl HRB
      have hJl2 : init.length < 8796093000000 := by simp at hJl; omega
      obtain ⟨g, c, rfl, hgb, hgl, hgc⟩ := Kd.R_form HRW.out (by simp)
      simp only [List.length_append, List.length_singleton] at hc HV HRW HRB
      have HGB := Aside0.mk hgb
      have HGC := Aside0.mk hgc
      obtain ⟨ce, hcl, hM, hcc, hfr⟩ := Kd.R_elem HRW.out z64 (init.length : Int) (by omega) (by omega)
      have htl : (init ++ [tl]).getD (init.length : Int).toNat z64 = tl := by simp
      rw [htl] at hM
      obtain rfl := k64_openM hM
      have he0 : W.cell? ⟨g, init.length * 2, none⟩ = some (.int .i64 tl.f0) := hcc 0 _ rfl
      have he1 : W.cell? ⟨g, init.length * 2 + 1, none⟩ = some (.int .i64 tl.f1) := hcc 1 _ rfl
      have hfe1 : W.frozen? ⟨g, init.length * 2 + 1, none⟩ = false := hfr 1
      have HCC := Aside0.mk hcc
      clear hgb hgl hgc hM hcc hfr hcl htl hJl hgr hlt hz
      by_cases hq : wrap64 (tl.f0 + tl.f1) = x.f0
      · have hS1 := Aside0.mk (show joinF (pre ++ [x]) = init ++ [⟨tl.f0, wrap64 (tl.f1 + x.f1)⟩] by rw [hS0.out]; simp [joinStep, hq])
        have hqb : (wrap64 (tl.f0 + tl.f1) == x.f0) = true := beq_iff_eq.mpr hq
        clear hS0 hq hit
        gi_wp2
        refine hw_region_quiet l hro rfl hmx (by kernel_rfl) ?_
        repeat (gi_big_quiet_step (fail))
        refine wpQuietIn_nil ?_
        intro _ hw'
        obtain ⟨nq, hw''⟩ := hw'
        subst hw''
        obtain ⟨W2, hW2⟩ : ∃ W2, W.drewN nq = W2 := ⟨_, rfl⟩
        have HKQ := Aside0.mk (show KeepsOthers W W2 by rw [← hW2]; exact ⟨Nat.le_refl _, fun _ _ h _ => h⟩)
        have HBQ := Aside0.mk (show Below w.heap.size W W2 by rw [← hW2]; exact pw_below_drewN (Below.refl _ _) nq)
        have hv : Boxed W2 w.heap.size 41 (.slice (some ⟨g, 0, none⟩) (init.length + 1) c) := by rw [← hW2]; exact HV.out
        have HR2 := Aside0.mk (show Kd.R k64 64 W2 w.heap.size (fun _ => True) (.slice (some ⟨g, 0, none⟩) (init.length + 1) c) (init ++ [tl]) by rw [← hW2]; exact Kd.R_drewN HRW.out nq)
        have hy1 : W2.cell? ⟨Bx, 1, none⟩ = some (.int .i64 x.f1) := by rw [← hW2]; exact hx1
        have hg1 : W2.cell? ⟨g, init.length * 2 + 1, none⟩ = some (.int .i64 tl.f1) := by rw [← hW2]; exact he1
        have hgf1 : W2.frozen? ⟨g, init.length * 2 + 1, none⟩ = false := by rw [← hW2]; exact hfe1
        have HPQ := Aside0.mk (show ∀ k : Nat, W2.heap[k]? = W.heap[k]? by rw [← hW2]; intros; rfl)
        have HC2 := Aside0.mk (show ∀ (j : Nat) (u : Value), ([.int .i64 tl.f0, .int .i64 tl.f1] : List Value)[j]? = some u → W2.cell? ⟨g, (init.length : Int).toNat * 2 + j, none⟩ = some u by rw [← hW2]; exact HCC.out)
        have HSZ := Aside0.mk (show W2.heap.size = W.heap.size by rw [← hW2]; rfl)
        rw [hW2]
        have hc2 := hv.cell
        have HV2 := Aside0.mk hv
        have HOB := Aside0.mk (own_ltW1 HRB.out)
        have HFIN := Aside0.mk (show ∀ (a : Act) (X : World), X = W2.drew.setCell ⟨g, init.length * 2 + 1, none⟩ (.int .i64 (wrap64 (tl.f1 + x.f1))) → ownPostP w.heap.size (fun pre W => (∃ v, Boxed W w.heap.size 41 v ∧ Kd.R k64 64 W w.heap.size (fun _ => True) v (joinF pre)) ∧ Below w.heap.size w W) (fun _ _ _ => False) (pre ++ [x]) W1.heap.size mx W .normal a X from fun a X hX => by
          have hR3 := Kd.R_seg (Kd.R_drew HR2.out) (init.length : Int) (by omega) (by omega) (seg := [.int .i64 (wrap64 (tl.f1 + x.f1))]) (j := 1) (c := [.int .i64 tl.f0, .int .i64 tl.f1]) rfl (fun j u hj => HC2.out j u hj) (show 2 ≤ 2 from by decide) (x' := (⟨tl.f0, wrap64 (tl.f1 + x.f1)⟩ : S64)) (k64_mkM _ _ _ (⟨tl.f0, wrap64 (tl.f1 + x.f1)⟩ : S64)) (fun _ hk => hk)
          obtain ⟨h1, h2⟩ := hR3
          have e1 : (W2.drew.setCells g ((init.length : Int).toNat * k64.sz + 1) [.int .i64 (wrap64 (tl.f1 + x.f1))]) = X := by rw [hX]; rfl
          rw [e1] at h1 h2
          replace h2 : W2.grownBy X (some g) := ⟨h2.os, h2.tape, h2.output, h2.size, h2.block⟩
          have hset : (init ++ [tl]).set (init.length : Int).toNat (⟨tl.f0, wrap64 (tl.f1 + x.f1)⟩ : S64) = init ++ [⟨tl.f0, wrap64 (tl.f1 + x.f1)⟩] := by
            rw [Int.toNat_natCast, List.set_append_right _ _ (Nat.le_refl _)]; simp
          rw [hset, ← hS1.out] at h1
          have hgl : g < W1.heap.size := HOB.out g (by simp [Value.ownBlock])
          have hgne : g ≠ w.heap.size := fun e => by
            obtain ⟨cells, hcc⟩ := HGC.out
            have h5 := HV2.out
            rw [e] at hcc
            have h6 : W2.heap[w.heap.size]? = W.heap[w.heap.size]? := HPQ.out _
            rw [show W2.heap[w.heap.size]? = _ from h5, hcc] at h6
            cases h6
          have hkx : KeepsOthers W2 X := ⟨h2.size, fun k o hk ho => (h2.block k (Array.getElem?_eq_some_iff.1 hk).1 (fun e => by
            cases e
            obtain ⟨cells, hcc⟩ := HGC.out
            rw [HPQ.out, hcc] at hk
            cases hk; cases ho)).trans hk⟩
          have hbx : Below w.heap.size W2 X := (Below.refl _ _).grown h2 (by have := HSZ.out; have := HBW.out.size; omega) (fun k e => by cases e; exact HGB.out)
          refine ⟨HKQ.out.trans hkx, HBQ.out.trans hbx, ?_, ⟨_, (HV2.out.kept h2 (fun e => hgne (by cases e; rfl))), h1⟩, (HBW.out.trans HBQ.out).trans hbx⟩
          intro k hk1 hk2
          rw [h2.block k (by have := HSZ.out; show k < W2.heap.size; omega) (fun e => by cases e; omega)]
          exact HPQ.out k)
        clear hW2 hx0 hx1 hc hf HV HRW he0 he1 hfe1 HCC hv hqb HKQ HBQ HR2 HPQ HC2 HV2 HOB HGC HGB hS1 HRB HBW
        gi_wp2
        gi_region_with_o (fail)
        all_goals gi_wp2
        all_goals refine HFIN.out _ _ ?_
        all_goals (simp only [i64_w]; rfl)
      · have hS1 := Aside0.mk (show joinF (pre ++ [x]) = (init ++ [tl]) ++ [x] by rw [hS0.out]; simp [joinStep, hq])
        have hqb : (wrap64 (tl.f0 + tl.f1) == x.f0) = false := beq_eq_false_iff_ne.mpr hq
        clear hS0 hq hit
        gi_wp2
        refine hw_region_quiet l hro rfl hmx (by kernel_rfl) ?_
        repeat (gi_big_quiet_step (fail))
        refine wpQuietIn_nil ?_
        intro _ hw'
        obtain ⟨nq, hw''⟩ := hw'
        subst hw''
        obtain ⟨W2, hW2⟩ : ∃ W2, W.drewN nq = W2 := ⟨_, rfl⟩
        have hkq : KeepsOthers W W2 := by rw [← hW2]; exact ⟨Nat.le_refl _, fun _ _ h _ => h⟩
        have hbq : Below w.heap.size W W2 := by rw [← hW2]; exact pw_below_drewN (Below.refl _ _) nq
        have hv : Boxed W2 w.heap.size 41 (.slice (some ⟨g, 0, none⟩) (init.length + 1) c) := by rw [← hW2]; exact HV.out
        have hR2 := Kd.R_drewN HRW.out nq
        have hy0 : W2.cell? ⟨Bx, 0, none⟩ = some (.int .i64 x.f0) := by rw [← hW2]; exact hx0
        have hy1 : W2.cell? ⟨Bx, 1, none⟩ = some (.int .i64 x.f1) := by rw [← hW2]; exact hx1
        have hpq := Aside0.mk (show ∀ k, W1.heap.size ≤ k → k < mx → W2.heap[k]? = W.heap[k]? by rw [← hW2]; intros; rfl)
        have hsz : W2.heap.size = W.heap.size := by rw [← hW2]; rfl
        rw [hW2] at hR2 ⊢
        have hc2 := hv.cell
        have HKQ := Aside0.mk hkq
        have HBQ := Aside0.mk hbq
        have HSZ := Aside0.mk hsz
        clear hW2 hkq hbq hsz hx0 hx1 hc hf HV HRW
        have hOB := Aside0.mk (own_ltW1 HRB.out)
        obtain ⟨_, inner, ho, hr⟩ := hR2
        (try simp only [List.length_append, List.length_singleton] at ho)
        have HR := Aside0.mk hr
        clear hr
        gi_wp2_with (gi_at_builtin; go_must (refine wpListIn_append_own _ rfl _ _ 41 rfl w.heap.size 64 i0 (.agg #[.int .i64 0, .int .i64 0]) 2 16 Tryd.underlying41 hi hz0 hz1 hz2 rfl (by decide) _ _ _ rfl (ho.alloc _) ⟨W2.heap.size, 0, none⟩ 1 1 [.int .i64 x.f0, .int .i64 x.f1] rfl rfl ?qc1 ?qc2 ?qc3 ?qc4 ?qc5 ?_); go_must (case qc1 => exact cells_two_new _ _ _ _); go_must (case qc2 => simp [Value.oneCell']); go_must (case qc3 => first | (simp only [maxLen]; omega) | (simp [maxLen])); go_must (case qc4 => first | omega | simp); go_must (case qc5 => have := HBW.out.size; have := HSZ.out; simp; omega); intro v' w1 hown' hgrow _; go_must (obtain ⟨g', cap', rfl⟩ := ownsRow_succ hown'); go_must (obtain ⟨hv1, hv2, hr2, hk2, hb2⟩ := hv.appended (by decide) ho (by have := HBW.out.size; have := HSZ.out; omega) (Nat.le_refl _) hown' hgrow); have hc1 := hv1.cell; have hf1 := hv1.frozen; have HG := Aside0.mk hgrow; have HHR := Aside0.mk hr2; clear hgrow hown' hr2)
        refine ⟨HKQ.out.trans hk2, HBQ.out.trans hb2, ?_, ⟨_, hv2, ?_⟩, (HBW.out.trans HBQ.out).trans hb2⟩
        · intro k hk1 hk2
          have hkW : k < W2.heap.size := by have := HSZ.out; omega
          rw [← hpq.out k hk1 hk2, Below.heap_setCell _ _ _ _ (by simp; omega), HG.out.block k (by rw [World.size_alloc]; omega) (fun e => by have := hOB.out k e.symm; omega), Below.heap_alloc _ _ _ hkW]
        · rw [hS1.out]
          exact ⟨fun _ _ => trivial, _, by have h_ := HHR.out; simpa [List.length_append] using h_, HR.out.snoc (k64_mkM _ _ _ x) rfl⟩
  case done =>
    rintro D ys W hD rfl ⟨⟨v, hv, hR⟩, hB⟩ hK
    have hc := hv.cell
    gi_wp2
    refine ⟨by simp, .inl ⟨_, _, rfl, run_takeDeferred hK, ?_⟩⟩
    exact ⟨_, results_tmp rfl _ _ _, v, rfl, R_ownGrown hR (grownBy_putObj' W D _) (fun r e => by cases e; exact ⟨_, hK, rfl⟩), hB.trans (belowK_b (w := w) (Nat.le_refl _) W D _ _ (by simp at hD; omega) hK rfl rfl)⟩
  case stop =>
    rintro D c pre W _ _ h _
    exact h.elim
end Go.Proofs.YtppbcankhkgpfaaDoor.PDp
namespace Go.Proofs.YtppbcankhkgpfaaDoor.PDp
open Go.RowKit Go.Proofs.YtppbcankhkgpfaaDoorW.PrintWords Go.Proofs.YtppbcankhkgpfaaDoorW.PrintLast Go.Proofs.YtppbcankhkgpfaaDoorW.PrintMore
attribute [local go_sem] max2_int min2_int max_two min_two max_three min_three max_four min_four   -- for this text's walks alone
attribute [local go_sem high] hw_str_leq hw_str_gtr
set_option linter.unusedVariables false
set_option linter.unusedSimpArgs false
section
open Go.Sort
variable {α : Type} [Inhabited α] {enc : α → List Value} {k : Nat}
theorem hw_flat_list (xs : List α) (hk : ∀ x, (enc x).length = k) (inner : List Value) (hr : Reps (fun x cs => cs = enc x) k xs inner) : (flatK enc k xs.toArray).toList = inner := by
  have hl := hr.1
  apply List.ext_getElem
  · simp [hl]
  · intro t h1 h2
    have ht : t < xs.length * k := by omega
    have hk0 : 0 < k := by rcases Nat.eq_zero_or_pos k with h | h; · subst h; simp at ht
                           · exact h
    have hq : t / k < xs.length := Nat.div_lt_of_lt_mul (by rw [Nat.mul_comm]; exact ht)
    have hp := hr.2 (t / k) xs[t / k] (List.getElem?_eq_getElem hq)
    have e1 : (flatK enc k xs.toArray).toList[t] = (flatK enc k xs.toArray)[t]! := by
      rw [getElem!_pos (flatK enc k xs.toArray) t (by simpa using ht)]; simp
    rw [e1, get_flatK _ _ _ _ (by simpa using ht)]
    have e2 : (xs.toArray)[t / k]! = xs[t / k] := by rw [getElem!_pos xs.toArray (t / k) (by simpa using hq)]; simp
    rw [e2, ← hp]
    have hm : t % k < k := Nat.mod_lt _ hk0
    have e3 : t / k * k + t % k = t := Nat.div_add_mod' t k
    have hlen : t % k < ((inner.drop (t / k * k)).take k).length := by
      rw [hp, hk]; exact hm
    rw [getElem!_pos ((inner.drop (t / k * k)).take k) (t % k) hlen]
    simp [e3]
theorem hw_holds {w : World} {base e g cap : Nat} {xs : List α} {inner : List Value} (hk : ∀ x, (enc x).length = k) (ho : w.ownsRow base e k (.slice (some ⟨g, 0, none⟩) xs.length cap) xs.length inner) (hr : Reps (fun x cs => cs = enc x) k xs inner) : HoldsK enc k w g 0 xs.toArray := by
  have hf := hw_flat_list xs hk inner hr
  rcases ho.2 with ⟨h, _⟩ | ⟨g', cap', cur, he, hb, hh, h1, h2, h3, h4⟩
  · simp at h
  · simp only [Value.slice.injEq, Option.some.injEq, Addr.mk.injEq] at he
    obtain ⟨⟨rfl, _⟩, _, rfl⟩ := he
    intro j hj
    have hj' : j < xs.length * k := by simpa using hj
    have hle : xs.length * k ≤ cap * k := Nat.mul_le_mul_right _ h1
    have hc : j < cur.size := by omega
    have e1 : (flatK enc k xs.toArray)[j]! = cur[j] := by
      rw [getElem!_pos (flatK enc k xs.toArray) j hj]
      have : (flatK enc k xs.toArray).toList[j]'(by simpa using hj') = (cur.toList.take (xs.length * k))[j]'(by simp; omega) := by
        congr 1; rw [hf, h4]
      simpa using this
    refine ⟨?_, ?_⟩
    · simp only [World.cell?, hh]
      simp [e1, hc]
    · simp [World.frozen?, hh]
theorem hw_sorted {w : World} {base e g cap m : Nat} {xs : List α} {inner : List Value} {d' : Array α} {os : Array Obj} (hk : ∀ x, (enc x).length = k)
    (ho : w.ownsRow base e k (.slice (some ⟨g, 0, none⟩) xs.length cap) xs.length inner) (hs : d'.size = xs.length) :
    (sortWorldK enc k w g 0 m d' os).ownsRow base e k (.slice (some ⟨g, 0, none⟩) xs.length cap) xs.length (flatK enc k d').toList ∧ w.grownBy (sortWorldK enc k w g 0 m d' os) (some g) := by
  have hgl := own_lt ho g (by simp [Value.ownBlock])
  rcases ho.2 with ⟨h, _⟩ | ⟨g', cap', cur, he, hb, hh, h1, h2, h3, h4⟩
  · simp at h
  · simp only [Value.slice.injEq, Option.some.injEq, Addr.mk.injEq] at he
    obtain ⟨⟨rfl, _⟩, _, rfl⟩ := he
    have hle : xs.length * k ≤ cap * k := Nat.mul_le_mul_right _ h1
    have hblk : (sortWorldK enc k w g 0 m d' os).heap[g]? = some (.cells (putCells id 0 (flatK enc k d') cur) e (0, 0)) := by
      unfold sortWorldK putRowK putRow
      rw [heap_grow_old _ _ (by simpa [mapBlock] using hgl)]
      simp [mapBlock, Array.getElem?_modify, hh, onCells]
    refine ⟨⟨by simp [hs], .inr ⟨g, cap, _, rfl, hb, hblk, h1, h2, by simp [putCells, h3], ?_⟩⟩, ?_⟩
    · apply List.ext_getElem
      · simp only [List.length_take, Array.length_toList, size_flatK, hs]
        rw [show (putCells id 0 (flatK enc k d') cur).size = cap * k by simp [putCells, h3], Nat.min_eq_left hle]
      · intro t ht1 ht2
        have ht : t < d'.size * k := by simpa using ht2
        simp [putCells, Array.getElem_mapIdx, ht, getElem!_pos (flatK enc k d') t (by simpa using ht)]
    · refine ⟨rfl, rfl, rfl, ?_, ?_⟩
      · simp [sortWorldK, putRowK]
      · intro i hi hne
        have hig : g ≠ i := fun h => hne (by rw [h])
        unfold sortWorldK putRowK putRow
        rw [heap_grow_old _ _ (by simpa [mapBlock] using hi)]
        simp [mapBlock, Array.getElem?_modify, hig]
theorem hw_reps (d' : Array α) (hk : ∀ x, (enc x).length = k) : Reps (fun x cs => cs = enc x) k d'.toList (flatK enc k d').toList := by
  refine ⟨by simp, fun j p hj => ?_⟩
  obtain ⟨hjl, hp⟩ := List.getElem?_eq_some_iff.1 hj
  have hjl' : j < d'.size := by simpa using hjl
  subst hp
  have hle : j * k + k ≤ d'.size * k := by rw [← Nat.succ_mul]; exact Nat.mul_le_mul_right _ hjl'
  apply List.ext_getElem
  · simp [hk]; omega
  · intro t h1 h2
    have ht : t < k := by simpa [hk] using h2
    have hlt : j * k + t < d'.size * k := by omega
    have hq : (j * k + t) / k = j := (blk_iff k j _ (by omega)).1 ⟨by omega, by omega⟩
    have hm : (j * k + t) % k = t := by rw [Nat.mod_eq_sub_div_mul, hq]; omega
    have e1 : (flatK enc k d')[j * k + t]'(by simpa using hlt) = (flatK enc k d')[j * k + t]! := by rw [getElem!_pos (flatK enc k d') (j * k + t) (by simpa using hlt)]
    simp only [List.getElem_take, List.getElem_drop, Array.getElem_toList]
    rw [e1, get_flatK _ _ _ _ hlt, hq, hm, getElem!_pos d' j hjl', getElem!_pos (enc d'[j]) t (by rw [hk]; exact ht)]
end
end Go.Proofs.YtppbcankhkgpfaaDoor.PDp
namespace Go.Proofs.YtppbcankhkgpfaaDoor.PDp
open Go.RowKit Go.Proofs.YtppbcankhkgpfaaDoorW.PrintWords Go.Proofs.YtppbcankhkgpfaaDoorW.PrintLast Go.Proofs.YtppbcankhkgpfaaDoorW.PrintMore
attribute [local go_sem] max2_int min2_int max_two min_two max_three min_three max_four min_four   -- for this text's walks alone
attribute [local go_sem high] hw_str_leq hw_str_gtr
set_option linter.unusedVariables false
set_option linter.unusedSimpArgs false
section
open Go.Sort
def cmpI (x y : Int) : Int := if x < y then -1 else if y < x then 1 else 0
def encL (x : S64) : List Value := [.int .i64 x.f0, .int .i64 x.f1]
theorem ltCmp (x y : S64) : ltOf (fun x y : S64 => cmpI x.f0 y.f0) x y = decide (x.f0 < y.f0) := by
  unfold ltOf cmpI
  by_cases h1 : x.f0 < y.f0
  · simp [h1]
  · by_cases h2 : y.f0 < x.f0 <;> simp [h1, h2]
theorem swoCmp : SWO (ltOf fun x y : S64 => cmpI x.f0 y.f0) where
  irrefl x := by rw [ltCmp]; simp
  trans x y z h1 h2 := by rw [ltCmp] at *; simp at *; omega
  ntrans x y z h1 h2 := by rw [ltCmp] at *; simp at *; omega
set_option maxHeartbeats 2000000 in
set_option maxRecDepth 100000 in
theorem span_sorted_2.calls (x y : S64) (W : World) : Calls Tryd.prog 93 #[.agg #[.int .i64 x.f0, .int .i64 x.f1], .agg #[.int .i64 y.f0, .int .i64 y.f1]] W fun e w' => e = .returned (.int .i64 (cmpI x.f0 y.f0)) ∧ ∃ q os', w' = grow (W.drewN q) os' := by
  have hu := Tryd.underlying64
  unfold cmpI
  by_cases h1 : x.f0 < y.f0
  · have b1 : decide (x.f0 < y.f0) = true := decide_eq_true h1
    rw [if_pos h1]
    clear h1
    go_enter Tryd.func93, Tryd.ntmps93
    go_wp2
    go_ret
    exact ⟨rfl, 0, _, by rw [alloc_eq_grow, alloc_eq_grow, grow_grow]; rfl⟩
  · have b1 : decide (x.f0 < y.f0) = false := decide_eq_false h1
    rw [if_neg h1]
    by_cases h2 : y.f0 < x.f0
    · have b2 : decide (y.f0 < x.f0) = true := decide_eq_true h2
      rw [if_pos h2]
      clear h1 h2
      go_enter Tryd.func93, Tryd.ntmps93
      go_wp2
      go_ret
      exact ⟨rfl, 0, _, by rw [alloc_eq_grow, alloc_eq_grow, grow_grow]; rfl⟩
    · have b2 : decide (y.f0 < x.f0) = false := decide_eq_false h2
      rw [if_neg h2]
      clear h1 h2
      go_enter Tryd.func93, Tryd.ntmps93
      go_wp2
      go_ret
      exact ⟨rfl, 0, _, by rw [alloc_eq_grow, alloc_eq_grow, grow_grow]; rfl⟩
theorem sortedIn_list [Inhabited S64] (d : Array S64) (h : SortedIn (ltOf fun x y : S64 => cmpI x.f0 y.f0) 0 d.size d) : d.toList.Pairwise (fun a b => a.f0 ≤ b.f0) := by
  rw [List.pairwise_iff_getElem]
  intro i j hi hj hij
  have h1 := h i j (Nat.zero_le _) hij (by simpa using hj)
  rw [ltCmp] at h1
  have hi' : i < d.size := by simpa using hi
  have hj' : j < d.size := by simpa using hj
  rw [getElem!_pos d i hi', getElem!_pos d j hj'] at h1
  simp at h1 ⊢
  exact h1
set_option maxHeartbeats 2000000 in
set_option maxRecDepth 100000 in
theorem sortSpan.calls (v : Value) (l0 : List S64) (w : World) (base : Nat) (hR : Kd.R k64 64 w base (fun _ => True) v l0) (hl : l0.length < 4611686018427387904) :
    Calls Tryd.prog 92 #[v, .func (.func 93) #[] #[]] w fun e w' => e = .returned (.tuple #[]) ∧ ∃ l1 : List S64, l1.Perm l0 ∧ l1.Pairwise (fun a b => a.f0 ≤ b.f0) ∧ Kd.R k64 64 w' base (fun _ => True) v l1 ∧ w.grownBy w' v.ownBlock := by
  haveI : Inhabited S64 := ⟨z64⟩
  have eg : ∀ args w, (callFunc 93 args).run Tryd.prog w = .ok (.enter 93 args) w := enters_of Tryd.func93 (by kernel_rfl) rfl
  by_cases h0 : l0 = []
  · subst h0
    obtain ⟨A, c, rfl⟩ := Kd.R_slice hR
    refine (AnyF.slices_SortFunc_none Tryd.laySort A c (.func (.func 93) #[] #[]) w).mono ?_
    rintro e w' ⟨rfl, rfl⟩
    exact ⟨rfl, [], List.Perm.refl _, List.Pairwise.nil, hR, World.grownBy.refl _ _⟩
  · obtain ⟨g, c, rfl, hgb, hgl, hgc⟩ := Kd.R_form hR (List.length_pos_iff.2 h0)
    obtain ⟨_, inner, ho, hr⟩ := hR
    have hr' : Reps (fun x cs => cs = encL x) 2 l0 inner := ⟨hr.1, fun j p hj => k64_openM (hr.2 j p hj)⟩
    have hH : HoldsK encL 2 w g 0 l0.toArray := hw_holds (fun _ => rfl) ho hr'
    have hcon := AnyQ.slices_SortFunc Tryd.laySort 2 Tryd.isAgg64 Tryd.sizeOf64 encL (fun _ => rfl) (fun x v hv => by simp [encL] at hv; rcases hv with hv | hv <;> (rw [hv]; rfl)) (fun x y => cmpI x.f0 y.f0) swoCmp 93 #[] g 0 c l0.toArray w eg
      (fun _ _ _ _ x y => span_sorted_2.calls x y _) hH hgl (by simpa using hl)
    refine Calls.mono hcon ?_
    rintro e w' ⟨rfl, d', n, os, hp, hs, rfl⟩
    obtain ⟨hp1, _, hp3⟩ := hp
    have hs1 : d'.size = l0.length := by simpa using hp1
    obtain ⟨h1, h2⟩ := hw_sorted (enc := encL) (k := 2) (m := n) (os := os) (fun _ => rfl) ho hs1
    refine ⟨rfl, d'.toList, ?_, sortedIn_list d' (by rw [hp1]; exact hs), ⟨fun _ _ => trivial, _, by rw [show d'.toList.length = l0.length by simpa using hs1]; exact h1, ?_⟩, h2⟩
    · have e1 : (d'.extract 0 (l0.toArray).size).toList = d'.toList := by
        rw [show (l0.toArray).size = d'.size by simp [hs1], Array.extract_size]
      have e2 : ((l0.toArray).extract 0 (l0.toArray).size).toList = l0 := by simp
      rw [e1, e2] at hp3
      exact hp3
    · have h3 := hw_reps (enc := encL) (k := 2) d' (fun _ => rfl)
      exact ⟨h3.1, fun j p hj => by have h4 := h3.2 j p hj; exact h4 ▸ k64_mkM _ _ _ p⟩
end
end Go.Proofs.YtppbcankhkgpfaaDoor.PDp
namespace Go.Proofs.YtppbcankhkgpfaaDoor.PDp
open Go.RowKit Go.Proofs.YtppbcankhkgpfaaDoorW.PrintWords Go.Proofs.YtppbcankhkgpfaaDoorW.PrintLast Go.Proofs.YtppbcankhkgpfaaDoorW.PrintMore
attribute [local go_sem] max2_int min2_int max_two min_two max_three min_three max_four min_four   -- for this text's walks alone
attribute [local go_sem high] hw_str_leq hw_str_gtr
set_option linter.unusedVariables false
set_option linter.unusedSimpArgs false
set_option maxHeartbeats 2000000 in
theorem cloneSpan.calls (A0 : Option Addr) (c0 : Nat) (l0 : List S64) (w : World) (hr0 : Kd.C k64 w A0 l0.length l0) (hl : l0.length < 8796093022208) :
    Calls Tryd.prog 91 #[.slice A0 l0.length c0] w fun e w' => ∃ v0_ : Value, e = .returned v0_ ∧ Kd.R k64 64 w' w.heap.size (fun _ => True) v0_ l0 ∧ Below w.heap.size w w' := by
  have q22 : ∀ (w : World) (a : Option Addr) (n c n' c' : Nat), (binOp .eql 41 (.slice a n c) (.slice none n' c')).run Tryd.prog w = .ok (.bool a.isNone) w := fun w a n c n' c' => Lib.run_eql_slice_nil w _ _ a n c n' c' Tryd.underlying41
  have HR0 := Aside0.mk hr0
  clear hr0
  cases A0 with
  | none =>
    have h0 : l0 = [] := by
      rcases Nat.eq_zero_or_pos l0.length with h | h
      · exact List.eq_nil_of_length_eq_zero h
      · obtain ⟨ad, he, _⟩ := HR0.out.2.2 h
        cases he
    subst h0
    go_enter Tryd.func91, Tryd.ntmps91
    go_wp2
    go_ret
    exact ⟨_, rfl, Kd.R_nil _ _ _ _ _, Below.refl _ _⟩
  | some ad =>
    go_enter Tryd.func91, Tryd.ntmps91
    go_wp2_with (at_builtin; refine Kd.R_append_rows k64 (w0 := w) w.heap.size rfl (.tmp 5) (.tmp 6) 41 64 (.agg #[(.int .i64 0), (.int .i64 0)]) 16 rfl Tryd.underlying41 info64 rfl (by decide) (by omega) (.slice (some ⟨w.heap.size, 0, none⟩) 0 0) ([] : List S64) l0 (some ad) l0.length c0 (fun _ => True) (fun _ => False) rfl rfl ?aO ?aR (fun _ _ h => h) (fun _ h => h.elim) ?aF ?aB ?aS ?aL ?_; (case aR => exact Kd.C_alloc HR0.out _); (case aB => exact (Below.refl _ w).alloc (Nat.le_refl _) _); (case aF => exact (fun _ _ => trivial)); (case aO => exact ⟨fun _ _ => trivial, [], World.ownsRow_made w #[] 0 (Nat.le_refl _) (Nat.zero_le _) (by simp), Reps.none _ _⟩); (case aS => exact below_size ((Below.refl _ w).alloc (Nat.le_refl _) _)); (case aL => simp; omega); intro v1 w1 ho hb hg hat)
    go_ret
    exact ⟨_, rfl, ho, hb⟩
end Go.Proofs.YtppbcankhkgpfaaDoor.PDp
