/- Proved: rootcellarlaw7.DirFiles returns true for every input, and the input reads behind the call as it read before. Conditions: none but the statement's own (the two tables of unicode/utf8 are laid as the program's text lays them: the card ties them). -/
-- laid by rowcard.py (this session's own program)
import Derived.Test.YtppbcankhkgpfaaDoorRows
import Derived.Test.YtppbcankhkgpfaaDoorCards
import Derived.Test.YtppbcankhkgpfaaDoorTie
import Derived.Test.YtppbcankhkgpfaaDoorLayD
import Derived.Test.YtppbcankhkgpfaaDoorPDqx0
import Derived.Test.YtppbcankhkgpfaaDoorPureDirFiles
import Derived.WalkKit
import Derived.ProofKit
import Derived.OpenShut
import Derived.ShutString
import Derived.ChangeOld
import Derived.Below
import Derived.SizedLaws
import Derived.Deep.SlicePairs
import Derived.LaidMore
import Derived.LaidLaws
import Derived.MakeChecks
import Derived.Lib.LaidIn
import Derived.Lib.LaidU8T
import Derived.SevenTiedAt
import Derived.Stop.Joined
namespace Go.Proofs.YtppbcankhkgpfaaDoor.dirFiles
open Go.ChangeShapes Go.WideShapes Go.ChangeAt Go.RowKit Go.Proofs.YtppbcankhkgpfaaDoor.PDq Go.Proofs.YtppbcankhkgpfaaDoorW.PrintWords
open Go.ChangeMaps (open_string shut_string)
open Go.Shelf Go.Lib
set_option linter.unusedVariables false
theorem own : ownKnob Tryd.prog.godebug = none := by kernel_rfl
theorem laidOut : laidOutB Tryd.prog = true := by kernel_rfl
abbrev laid2 : List (String × DataW Unit) := Rows.dirFilesRow.laid
theorem accE : (Rows.laid_unicode_utf8_acceptRanges : DataW Unit) = Lib.acceptData := by kernel_rfl
theorem firstE : Rows.laid_unicode_utf8_first = Lib.firstData := by kernel_rfl
/-- The witness: the world that holds the input, the two tables laid. -/
noncomputable def laidWorld (os : Os) (i : Input) : World :=
  let w0 := World.holding Tryd.prog os i
  let put (h : Array Obj) (g : Nat) (cs : Array Value) : Array Obj := h.modify g fun
    | .cells _ t frozen => .cells cs t frozen
    | o => o
  let h1 := put w0.heap 0 (Lib.firstTab.map fun z => Value.int .u8 z).toArray
  let h2 := put h1 1 ((List.range 16).flatMap fun i => [Value.int .u8 (Lib.accLo i), Value.int .u8 (Lib.accHi i)]).toArray
  { w0 with heap := h2 }
theorem of_laid {W : World} (h : laidMetH Tryd.prog laid2 W) : TabsW W := by
  rw [MakeChecks.laidMetH_plain _ _ _ (by kernel_rfl)] at h
  have h1 := Lib.laidMet.reads h (n := "unicode/utf8.first") (d := Rows.laid_unicode_utf8_first) (.tail _ (.head _))
  have h2 := Lib.laidMet.reads h (n := "unicode/utf8.acceptRanges") (d := Rows.laid_unicode_utf8_acceptRanges) (.head _)
  rw [firstE] at h1
  rw [accE] at h2
  exact utf8Tabs_of_readsT (U8Types.of196 Tryd.layValid) ⟨by kernel_rfl, by kernel_rfl, by kernel_rfl, by kernel_rfl, by kernel_rfl, by kernel_rfl, by kernel_rfl⟩ h1 h2
theorem laid_met (os : Os) (args : Array Value) : laidMetH Tryd.prog laid2 ((laidWorld os ⟨#[], #[], []⟩).forCall (fun _ _ => 0) ⟨#[], args, []⟩).memory := by
  rw [MakeChecks.laidMetH_plain _ _ _ (by kernel_rfl)]
  exact laidMet_of_run' 8 (by kernel_rfl) (by kernel_rfl)
theorem trod_str {H : Type} {enc : TypeId × Value → H} {P : Program} {W : World} {base : Nat} {sp : Nat → Bool} {held : Bool} {fuel : Nat} {t : TypeId} {cs : List Value} {x : DataW H × List MemPlace} (ht : P.underlying t = some .string) (h : DataW.trod enc P W base sp held fuel t cs = some x) : ∃ s : ByteArray, cs = [.string s] ∧ x = (.lit (.string s.data.toList), []) ∧ s.size ≤ maxLen := by
  obtain ⟨s, h1, h2, h3⟩ := DataW.trod_string ht h
  exact ⟨s, h1, h2, h3⟩
def WF64 (s : S64) : Prop := (Lit.int .i64 s.f0).wf = true ∧ (Lit.int .i64 s.f1).wf = true ∧ True
set_option maxRecDepth 100000 in
theorem open_st64 {H : Type} {enc : TypeId × Value → H} {W : World} {sp : Nat → Bool} {fuel : Nat} {cs : List Value} {x : DataW H × List MemPlace} (hl : cs.length = 2) (h : DataW.trod enc Tryd.prog W 0 sp true fuel 64 cs = some x) : ∃ s : S64, k64.K W s cs ∧ WF64 s := by
  obtain ⟨xs, m, rfl, _, _, hxl, hf⟩ := DataW.trod_struct Tryd.underlying64 h
  match xs, hxl, cs, hl with
  | [y0, y1], _, [v0, v1], _ =>
    have g0 : DataW.trod enc Tryd.prog W 0 sp true m 3 (([v0, v1].drop 0).take (Tryd.prog.cellsOf 3)) = [y0, y1][0]? := hf 0 _ rfl
    have c0 : Tryd.prog.cellsOf 3 = 1 := by kernel_rfl
    rw [c0] at g0
    have t0 : DataW.trod enc Tryd.prog W 0 sp true m 3 [v0] = some y0 := g0
    have g1 : DataW.trod enc Tryd.prog W 0 sp true m 3 (([v0, v1].drop 1).take (Tryd.prog.cellsOf 3)) = [y0, y1][1]? := hf 1 _ rfl
    have c1 : Tryd.prog.cellsOf 3 = 1 := by kernel_rfl
    rw [c1] at g1
    have t1 : DataW.trod enc Tryd.prog W 0 sp true m 3 [v1] = some y1 := g1
    obtain ⟨n0, e0, _, w0⟩ := DataW.trod_int Tryd.underlying3 t0
    simp only [List.cons.injEq, and_true] at e0
    subst e0
    obtain ⟨n1, e1, _, w1⟩ := DataW.trod_int Tryd.underlying3 t1
    simp only [List.cons.injEq, and_true] at e1
    subst e1
    exact ⟨⟨n0, n1⟩, k64_mk W ⟨n0, n1⟩, w0, w1, trivial⟩
theorem open_sl64 {H : Type} {enc : TypeId × Value → H} {W : World} {sp : Nat → Bool} {fuel : Nat} {cs : List Value} {x : DataW H × List MemPlace} (h : DataW.trod enc Tryd.prog W 0 sp true fuel 41 cs = some x) :
    ∃ (a : Option Addr) (cap : Nat) (l : List S64), cs = [.slice a l.length cap] ∧ l.length ≤ cap ∧ Kd.C k64 W a l.length l ∧ ∀ s ∈ l, WF64 s := by
  rcases DataW.trod_slice Tryd.underlying41 h with ⟨rfl, _⟩ | ⟨a, len, cap, els, rest, m, rfl, rfl, _, _, hl, hm, hel, hx, _, _⟩
  · exact ⟨none, 0, [], rfl, Nat.le_refl _, ⟨rfl, by simp, fun h => absurd h (by simp)⟩, by simp⟩
  · have ce : Tryd.prog.cellsOf 64 = 2 := by kernel_rfl
    have each : ∀ i, i < len → ∃ q : S64 × List Value, (∀ j u, q.2[j]? = some u → W.cell? (a.add (i * 2 + j)) = some u) ∧ k64.K W q.1 q.2 ∧ WF64 q.1 := by
      intro i hi
      have h1 := hx i hi
      rw [List.getElem?_eq_getElem (by omega)] at h1
      obtain ⟨cs', h2, h3⟩ := Option.bind_eq_some_iff.1 h1
      rw [ce] at h2
      obtain ⟨_, hlen, hcell⟩ := World.cells?_some h2
      obtain ⟨q, hq, hw⟩ := open_st64 hlen h3
      refine ⟨(q, cs'), fun j u hu => ?_, hq, hw⟩
      have hj : j < cs'.length := by rw [List.getElem?_eq_some_iff] at hu; exact hu.1
      have := hcell j (by omega)
      rw [hu] at this
      rw [Addr.add_add] at this
      exact this
    obtain ⟨Q, hQ⟩ : ∃ Q : Nat → S64 × List Value, ∀ i, i < len → (∀ j u, (Q i).2[j]? = some u → W.cell? (a.add (i * 2 + j)) = some u) ∧ k64.K W (Q i).1 (Q i).2 ∧ WF64 (Q i).1 :=
      ⟨fun i => if h : i < len then (each i h).choose else (z64, []), fun i hi => by simp only [hi, dif_pos]; exact (each i hi).choose_spec⟩
    have hlen : ((List.range len).map fun i => (Q i).1).length = len := by simp
    refine ⟨some a, cap, (List.range len).map fun i => (Q i).1, by rw [hlen], by rw [hlen]; exact hl, ⟨rfl, by rw [hlen]; unfold maxLen at hm; omega, fun _ => ⟨a, rfl, fun j p hj => ?_⟩⟩, fun s hs => ?_⟩
    · obtain ⟨hjl, hjp⟩ := List.getElem?_eq_some_iff.1 hj
      have hj2 : j < len := by simpa using hjl
      have : (Q j).1 = p := by simpa using hjp
      obtain ⟨c0, c1, _⟩ := hQ j hj2
      rw [this] at c1
      exact ⟨_, Kd.K_len _ c1, c1, c0⟩
    · obtain ⟨i, hi, rfl⟩ := List.mem_map.1 hs
      exact (hQ i (List.mem_range.1 hi)).2.2
def WF43 (s : S43) : Prop := (Lit.int .i64 s.f1).wf = true ∧ s.f0.size ≤ maxLen ∧ (s.f2.length ≤ 9223372036854775807 ∧ ∀ t ∈ s.f2, WF64 t) ∧ True
set_option maxRecDepth 100000 in
theorem open_st43 {H : Type} {enc : TypeId × Value → H} {W : World} {sp : Nat → Bool} {fuel : Nat} {cs : List Value} {x : DataW H × List MemPlace} (hl : cs.length = 3) (h : DataW.trod enc Tryd.prog W 0 sp true fuel 43 cs = some x) : ∃ s : S43, k43.K W s cs ∧ WF43 s := by
  obtain ⟨xs, m, rfl, _, _, hxl, hf⟩ := DataW.trod_struct Tryd.underlying43 h
  match xs, hxl, cs, hl with
  | [y0, y1, y2], _, [v0, v1, v2], _ =>
    have g0 : DataW.trod enc Tryd.prog W 0 sp true m 9 (([v0, v1, v2].drop 0).take (Tryd.prog.cellsOf 9)) = [y0, y1, y2][0]? := hf 0 _ rfl
    have c0 : Tryd.prog.cellsOf 9 = 1 := by kernel_rfl
    rw [c0] at g0
    have t0 : DataW.trod enc Tryd.prog W 0 sp true m 9 [v0] = some y0 := g0
    have g1 : DataW.trod enc Tryd.prog W 0 sp true m 3 (([v0, v1, v2].drop 1).take (Tryd.prog.cellsOf 3)) = [y0, y1, y2][1]? := hf 1 _ rfl
    have c1 : Tryd.prog.cellsOf 3 = 1 := by kernel_rfl
    rw [c1] at g1
    have t1 : DataW.trod enc Tryd.prog W 0 sp true m 3 [v1] = some y1 := g1
    have g2 : DataW.trod enc Tryd.prog W 0 sp true m 41 (([v0, v1, v2].drop 2).take (Tryd.prog.cellsOf 41)) = [y0, y1, y2][2]? := hf 2 _ rfl
    have c2 : Tryd.prog.cellsOf 41 = 1 := by kernel_rfl
    rw [c2] at g2
    have t2 : DataW.trod enc Tryd.prog W 0 sp true m 41 [v2] = some y2 := g2
    obtain ⟨s0, e0, _, w0⟩ := trod_str Tryd.underlying9 t0
    simp only [List.cons.injEq, and_true] at e0
    subst e0
    obtain ⟨n1, e1, _, w1⟩ := DataW.trod_int Tryd.underlying3 t1
    simp only [List.cons.injEq, and_true] at e1
    subst e1
    obtain ⟨a2, p2, l2, e2, hp2, hC2, w2⟩ := open_sl64 t2
    simp only [List.cons.injEq, and_true] at e2
    subst e2
    exact ⟨⟨s0, n1, l2⟩, k43_mk W ⟨s0, n1, l2⟩ hp2 hC2, w1, w0, ⟨hC2.2.1, w2⟩, trivial⟩
theorem open_sl43 {H : Type} {enc : TypeId × Value → H} {W : World} {sp : Nat → Bool} {fuel : Nat} {cs : List Value} {x : DataW H × List MemPlace} (h : DataW.trod enc Tryd.prog W 0 sp true fuel 24 cs = some x) :
    ∃ (a : Option Addr) (cap : Nat) (l : List S43), cs = [.slice a l.length cap] ∧ l.length ≤ cap ∧ Kd.C k43 W a l.length l ∧ ∀ s ∈ l, WF43 s := by
  rcases DataW.trod_slice Tryd.underlying24 h with ⟨rfl, _⟩ | ⟨a, len, cap, els, rest, m, rfl, rfl, _, _, hl, hm, hel, hx, _, _⟩
  · exact ⟨none, 0, [], rfl, Nat.le_refl _, ⟨rfl, by simp, fun h => absurd h (by simp)⟩, by simp⟩
  · have ce : Tryd.prog.cellsOf 43 = 3 := by kernel_rfl
    have each : ∀ i, i < len → ∃ q : S43 × List Value, (∀ j u, q.2[j]? = some u → W.cell? (a.add (i * 3 + j)) = some u) ∧ k43.K W q.1 q.2 ∧ WF43 q.1 := by
      intro i hi
      have h1 := hx i hi
      rw [List.getElem?_eq_getElem (by omega)] at h1
      obtain ⟨cs', h2, h3⟩ := Option.bind_eq_some_iff.1 h1
      rw [ce] at h2
      obtain ⟨_, hlen, hcell⟩ := World.cells?_some h2
      obtain ⟨q, hq, hw⟩ := open_st43 hlen h3
      refine ⟨(q, cs'), fun j u hu => ?_, hq, hw⟩
      have hj : j < cs'.length := by rw [List.getElem?_eq_some_iff] at hu; exact hu.1
      have := hcell j (by omega)
      rw [hu] at this
      rw [Addr.add_add] at this
      exact this
    obtain ⟨Q, hQ⟩ : ∃ Q : Nat → S43 × List Value, ∀ i, i < len → (∀ j u, (Q i).2[j]? = some u → W.cell? (a.add (i * 3 + j)) = some u) ∧ k43.K W (Q i).1 (Q i).2 ∧ WF43 (Q i).1 :=
      ⟨fun i => if h : i < len then (each i h).choose else (z43, []), fun i hi => by simp only [hi, dif_pos]; exact (each i hi).choose_spec⟩
    have hlen : ((List.range len).map fun i => (Q i).1).length = len := by simp
    refine ⟨some a, cap, (List.range len).map fun i => (Q i).1, by rw [hlen], by rw [hlen]; exact hl, ⟨rfl, by rw [hlen]; unfold maxLen at hm; omega, fun _ => ⟨a, rfl, fun j p hj => ?_⟩⟩, fun s hs => ?_⟩
    · obtain ⟨hjl, hjp⟩ := List.getElem?_eq_some_iff.1 hj
      have hj2 : j < len := by simpa using hjl
      have : (Q j).1 = p := by simpa using hjp
      obtain ⟨c0, c1, _⟩ := hQ j hj2
      rw [this] at c1
      exact ⟨_, Kd.K_len _ c1, c1, c0⟩
    · obtain ⟨i, hi, rfl⟩ := List.mem_map.1 hs
      exact (hQ i (List.mem_range.1 hi)).2.2
set_option maxRecDepth 100000 in
set_option maxHeartbeats 2000000 in
theorem lifted (os : Os) (started : os.Started) (H : Type) (enc : TypeId × Value → H) :
    ReturnsInHanded {} Tryd.checked os 6 .any (fun w args => (Rows.dirFilesSpec.pre enc Tryd.prog Tryd.f6 [] false w args ∧ laidMetH Tryd.prog laid2 w) ∧ sizedMet enc Tryd.prog Tryd.f6 (OpenSpec.ofChange Rows.dirFilesSpec) false w args) (Rows.dirFilesSpec.post enc Tryd.prog Tryd.f6 false true false false) := by
  refine returnsInHanded_of_change_and (C := Tryd.checked) (X := fun w _ => laidMetH Tryd.prog laid2 w) (fun _ _ _ hh h => h.of_heap hh) own started (by kernel_rfl) Tryd.func6
    (ChangeSpec.witness_shaped (enc := enc) (C := Tryd.checked) (os := os) (X := fun w _ => laidMetH Tryd.prog laid2 w) false (laidWorld os ⟨#[], #[], []⟩) #[.slice none 0 0, .agg #[.string ByteArray.empty, .int .i64 0, .slice none 0 0], .string ByteArray.empty] 8 rfl (World.shaped_of_RefB (by kernel_rfl) (by kernel_rfl)) (by kernel_rfl) (by kernel_rfl) (by kernel_rfl) (laid_met os _)) ?_
  intro W base args ds gs before hval0 hW hcnd hsz0 hL _
  have ht : TabsW W := of_laid hL
  have hsz : (DataW.weightsEach Tryd.prog (Tryd.f6.params.toList ++ Rows.dirFilesSpec.plain.varTypes Tryd.prog) (ds ++ gs)).all (· ≤ reachBytes) = true := hsz0
  have hval : ∀ (j : Nat) t v, Tryd.f6.params[j]? = some t → args[j]? = some v → Value.okWide Tryd.prog W .any base t v := hval0
  have hW' := hW
  obtain ⟨p, q, hA0, hV, rfl, hfz, hnd⟩ := hW
  have hA : DataW.TrodAll enc Tryd.prog W 0 (fun _ => true) true Tryd.f6.params.toList args.toList ds p := hA0
  rw [Tryd.params6] at hA hval hsz
  obtain ⟨v0, vs0, d0, ds0, p0, q0, hargs, rfl, rfl, h0, r0⟩ := trodAll_cons hA
  obtain ⟨v1, vs1, d1, ds1, p1, q1, rfl, rfl, rfl, h1, r1⟩ := trodAll_cons r0
  obtain ⟨v2, vs2, d2, ds2, p2, q2, rfl, rfl, rfl, h2, r2⟩ := trodAll_cons r1
  obtain ⟨rfl, rfl, rfl⟩ := trodAll_nil r2
  obtain rfl : args = #[v0, v1, v2] := by cases args; simp_all
  obtain ⟨rfl, rfl⟩ := trodVars_none hV
  obtain ⟨a0, len0, cap0, rfl⟩ := okWide_slice Tryd.underlying24 (hval 0 24 v0 rfl rfl)
  have k0 := h0
  have lt0 : ∀ x ∈ p0, x.block < W.heap.size := by obtain ⟨m, hm⟩ := k0; exact DataW.trod_lt m _ _ _ hm
  obtain ⟨l0, hl0, hc0, hC0, w0⟩ : ∃ l : List S43, len0 = l.length ∧ l.length ≤ cap0 ∧ Kd.C k43 W a0 l.length l ∧ ∀ s ∈ l, WF43 s := by
    obtain ⟨fuel, hf⟩ := h0
    obtain ⟨a', c', l', e1, e2, e3, e4⟩ := open_sl43 hf
    simp [Value.cells] at e1
    obtain ⟨rfl, rfl, rfl⟩ := e1
    exact ⟨l', rfl, e2, e3, e4⟩
  subst hl0
  obtain ⟨cs1, rfl, hsz1⟩ := okWide_struct Tryd.underlying43 (hval 1 43 v1 rfl rfl)
  have k1 := h1
  have lt1 : ∀ x ∈ p1, x.block < W.heap.size := by obtain ⟨m, hm⟩ := k1; exact DataW.trod_lt m _ _ _ hm
  obtain ⟨s1, hs1, w1⟩ : ∃ s : S43, k43.K W s cs1.toList ∧ WF43 s := by
    obtain ⟨fuel, hf⟩ := h1
    exact open_st43 (by rw [Array.length_toList, hsz1]; kernel_rfl) hf
  obtain ⟨A1_2, c1_2, hcs1, hl1_2, hC1_2⟩ := k43_open hs1
  obtain rfl : cs1 = #[.string s1.f0, .int .i64 s1.f1, .slice A1_2 s1.f2.length c1_2] := by rw [← Array.toArray_toList (xs := cs1), hcs1]
  obtain ⟨a2, rfl, rfl, rfl, y2⟩ := open_string Tryd.underlying9 (hval 2 9 v2 rfl rfl) h2
  have w2 : a2.size ≤ 140737488351232 := by
    have z := sized_string hsz (j := 2) (t := 9) rfl rfl
    rw [Array.length_toList] at z
    exact z
  clear hA0 hval0 hsz0 hsz
  obtain ⟨k, hk⟩ := Pure.DirFiles l0 s1 a2 w2 ⟨hC0.2.1, fun s hs => ⟨(w0 s hs).2.1, (w0 s hs).2.2.1.1⟩⟩ ⟨w1.2.1, w1.2.2.1.1⟩
  refine (rootcellarlaw7_DirFiles.calls k a0 cap0 l0 s1 A1_2 c1_2 a2 true W hC0 hc0 hs1 ht hk).mono fun e W' ⟨he, bel⟩ => ?_
  subst he
  exact ⟨_, rfl, _, _, _, [], _, [], hW', trodAll_mk1 (shut_bool Tryd.underlying4 _), (trodAll_cons_mk (Below.trod laidOut (by kernel_rfl) (of_decide_eq_true (by kernel_rfl)) k0 bel lt0) (trodAll_cons_mk (Below.trod laidOut (by kernel_rfl) (of_decide_eq_true (by kernel_rfl)) k1 bel lt1) (trodAll_cons_mk (shut_string Tryd.underlying9 y2) trodAll_mk0))), rfl, bel.frame _, fun h => by cases h⟩
theorem over : Rows.dirFilesRow.holds Tryd.pinned (OpenSpec.ofChange Rows.dirFilesSpec) :=
  OpenClaim.holds_of_wide 6 Tryd.f6 rfl rfl rfl rfl rfl rfl rfl ⟨rfl, rfl, rfl, rfl, rfl⟩ rfl rfl rfl rfl rfl (by kernel_rfl) Tryd.func6 (by kernel_rfl)
    (of_decide_eq_true (by kernel_rfl)) (by unfold Func.isWrapper; first | (rw [if_pos (by decide +kernel)]; kernel_rfl) | (rw [if_neg (by decide +kernel)]; exact ⟨rfl, rfl⟩))
    (fun os started H enc _ => lifted os started H enc)
theorem proved : Rows.DirFilesSaid := over
/-- The tied card. -/
theorem card : Rows.DirFilesCardSaid :=
  Claim7.holds_tied_plain_at .later [] [.data, .pinned] true (true, "d973ca343971e168ddd3da1f6ba26c8a38adf59080ed92615652e975884b494f") false
    proved (fun _ h => by cases h) (by kernel_rfl) (fun _ h => by cases h) dirFiles_row_tie rfl ⟨rfl, rfl⟩ (by kernel_rfl) rfl
    (fun f fn hf hfn => by
      obtain rfl : f = 6 := Option.some.inj ((show Tryd.prog.funcNamed "rootcellar/rootcellarlaw7.DirFiles" = some 6 by kernel_rfl).symm.trans hf) |>.symm
      obtain rfl : fn = Tryd.f6 := (Option.some.inj (Tryd.func6.symm.trans hfn)).symm
      exact ⟨by kernel_rfl, fun j t ht => by
        rw [Tryd.params6] at ht
        rcases j with _ | j
        · obtain rfl : t = 24 := by simpa using ht.symm
          kernel_rfl
        rcases j with _ | j
        · obtain rfl : t = 43 := by simpa using ht.symm
          kernel_rfl
        rcases j with _ | j
        · obtain rfl : t = 9 := by simpa using ht.symm
          kernel_rfl
        simp at ht⟩)
    (by kernel_rfl)
#print axioms card
end Go.Proofs.YtppbcankhkgpfaaDoor.dirFiles
namespace Go.Proofs.YtppbcankhkgpfaaDoor
/-- The card, under a short name, for the claim. -/
theorem dirFiles_holds : Rows.DirFilesCardSaid := dirFiles.card
end Go.Proofs.YtppbcankhkgpfaaDoor
