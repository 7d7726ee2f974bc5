-- laid by gprint.py (this session's own program) out of the translation: Lean checks it
import Derived.Test.YtppbcankhkgpfaaDoorPDirx0
import Derived.Test.YtppbcankhkgpfaaDoorPDirx28
--compressed
namespace Go.Proofs.YtppbcankhkgpfaaDoor.PDir
open Go.RowKit Go.Proofs.YtppbcankhkgpfaaDoorW.PrintWords Go.Proofs.YtppbcankhkgpfaaDoorW.PrintLast Go.Proofs.YtppbcankhkgpfaaDoorW.PrintMore
attribute [local go_sem] max2_int min2_int max_two min_two max_three min_three max_four min_four   -- for this text's walks alone
attribute [local go_sem high] hw_str_leq hw_str_gtr
set_option linter.unusedVariables false
set_option linter.unusedSimpArgs false
mutual
def rootcellarref7_Take.l0 : Nat → ByteArray → Int → List (S45) → Int → ByteArray → Bool → Option ((List (S45)) × Int)
 | 0, _, _, _, _, _, _ => none
 | k + 1, x0, x7, x8, x9, x265000, x265001 => if x9 < x7 then (rootcellarref7_Take.j1 k x0 x7 x8 x9 (!x265001) x265000 x265001) else (rootcellarref7_Take.j1 k x0 x7 x8 x9 false x265000 x265001)
def rootcellarref7_Take.j1 : Nat → ByteArray → Int → List (S45) → Int → Bool → ByteArray → Bool → Option ((List (S45)) × Int)
 | 0, _, _, _, _, _, _, _ => none
 | k + 1, x0, x7, x8, x9, x40, x265000, x265001 => if x40 = true then ((rootcellarref2_Reader_Number.f k x265000 x265001 1).bind fun bt268 => ((rootcellarref2_Reader_Text.f k bt268.2.1 bt268.2.2 (wrap64 (bt268.1))).bind fun bt271 => ((rootcellarref2_Reader_Number.f k bt271.2.1 bt271.2.2 4).bind fun bt275 => ((rootcellarref2_Reader_Number.f k bt275.2.1 bt275.2.2 1).bind fun bt278 => (rootcellarref7_Take.l1 k x0 x7 x8 x9 (wrap64 (bt278.1)) 0 bt278.2.1 bt278.2.2 bt271.1 (wrap64 (bt275.1)) ([] : List (S64))))))) else ((rootcellarref7_Put.f k x8).bind fun bt293 => (if x265001 = true then (rootcellarref7_Take.j4 k x8 true) else (if bt293.2 = 0 then (rootcellarref7_Take.j4 k x8 (bt293.1.toList != x0.toList)) else (rootcellarref7_Take.j4 k x8 true))))
def rootcellarref7_Take.l1 : Nat → ByteArray → Int → List (S45) → Int → Int → Int → ByteArray → Bool → ByteArray → Int → List (S64) → Option ((List (S45)) × Int)
 | 0, _, _, _, _, _, _, _, _, _, _, _ => none
 | k + 1, x0, x7, x8, x9, x12, x13, x265000, x265001, x275000, x275001, x275002 => if x13 < x12 then (rootcellarref7_Take.j3 k x0 x7 x8 x9 x12 x13 (!x265001) x265000 x265001 x275000 x275001 x275002) else (rootcellarref7_Take.j3 k x0 x7 x8 x9 x12 x13 false x265000 x265001 x275000 x275001 x275002)
def rootcellarref7_Take.j3 : Nat → ByteArray → Int → List (S45) → Int → Int → Int → Bool → ByteArray → Bool → ByteArray → Int → List (S64) → Option ((List (S45)) × Int)
 | 0, _, _, _, _, _, _, _, _, _, _, _, _ => none
 | k + 1, x0, x7, x8, x9, x12, x13, x66, x265000, x265001, x275000, x275001, x275002 => if x66 = true then ((rootcellarref2_Reader_Number.f k x265000 x265001 2).bind fun bt284 => ((rootcellarref2_Reader_Number.f k bt284.2.1 bt284.2.2 2).bind fun bt287 => (if x275002.length < 8796093022208 then (rootcellarref7_Take.l1 k x0 x7 x8 x9 x12 (wrap64 (x13 + 1)) bt287.2.1 bt287.2.2 x275000 x275001 (x275002 ++ [(⟨wrap64 (bt284.1), wrap64 (bt287.1)⟩ : S64)])) else (none)))) else (if x8.length < 2932031007402 then (rootcellarref7_Take.l0 k x0 x7 (x8 ++ [(⟨x275000, x275001, x275002⟩ : S45)]) (wrap64 (x9 + 1)) x265000 x265001) else (none))
def rootcellarref7_Take.j4 : Nat → List (S45) → Bool → Option ((List (S45)) × Int)
 | 0, _, _ => none
 | k + 1, x8, x103 => if x103 = true then (some (([] : List (S45)), 2)) else (some (x8, 0))
end
def rootcellarref7_Take.f (k : Nat) (a0 : ByteArray) : Option ((List (S45)) × Int) := (rootcellarref3_Take.f k a0).bind fun bt262 => (if bt262.2 = 0 then ((rootcellarref2_Reader_Number.f k bt262.1 false 1).bind fun bt265 => (rootcellarref7_Take.l0 k a0 (wrap64 (bt265.1)) ([] : List (S45)) 0 bt265.2.1 bt265.2.2)) else (some (([] : List (S45)), bt262.2)))
theorem rootcellarref7_Take.mono_l : ∀ k, (∀ y0 y1 y2 y3 y4 y5, LeO (rootcellarref7_Take.l0 k y0 y1 y2 y3 y4 y5) (rootcellarref7_Take.l0 (k + 1) y0 y1 y2 y3 y4 y5)) ∧ (∀ y0 y1 y2 y3 y4 y5 y6, LeO (rootcellarref7_Take.j1 k y0 y1 y2 y3 y4 y5 y6) (rootcellarref7_Take.j1 (k + 1) y0 y1 y2 y3 y4 y5 y6)) ∧ (∀ y0 y1 y2 y3 y4 y5 y6 y7 y8 y9 y10, LeO (rootcellarref7_Take.l1 k y0 y1 y2 y3 y4 y5 y6 y7 y8 y9 y10) (rootcellarref7_Take.l1 (k + 1) y0 y1 y2 y3 y4 y5 y6 y7 y8 y9 y10)) ∧ (∀ y0 y1 y2 y3 y4 y5 y6 y7 y8 y9 y10 y11, LeO (rootcellarref7_Take.j3 k y0 y1 y2 y3 y4 y5 y6 y7 y8 y9 y10 y11) (rootcellarref7_Take.j3 (k + 1) y0 y1 y2 y3 y4 y5 y6 y7 y8 y9 y10 y11)) ∧ (∀ y0 y1, LeO (rootcellarref7_Take.j4 k y0 y1) (rootcellarref7_Take.j4 (k + 1) y0 y1))
 | 0 => ⟨fun _ _ _ _ _ _ r h => by simp [rootcellarref7_Take.l0] at h, fun _ _ _ _ _ _ _ r h => by simp [rootcellarref7_Take.j1] at h, fun _ _ _ _ _ _ _ _ _ _ _ r h => by simp [rootcellarref7_Take.l1] at h, fun _ _ _ _ _ _ _ _ _ _ _ _ r h => by simp [rootcellarref7_Take.j3] at h, fun _ _ r h => by simp [rootcellarref7_Take.j4] at h⟩
 | k + 1 => by
  obtain ⟨ih0, ih1, ih2, ih3, ih4⟩ := rootcellarref7_Take.mono_l k
  refine ⟨?_, ?_, ?_, ?_, ?_⟩
  ·intro y0 y1 y2 y3 y4 y5
   unfold rootcellarref7_Take.l0
   repeat' first
   | (with_reducible exact ih0 _ _ _ _ _ _)
   | (with_reducible exact ih1 _ _ _ _ _ _ _)
   | (with_reducible exact ih2 _ _ _ _ _ _ _ _ _ _ _)
   | (with_reducible exact ih3 _ _ _ _ _ _ _ _ _ _ _ _)
   | (with_reducible exact ih4 _ _)
   | (with_reducible exact rootcellarref2_Reader_Number.mono _ _ _ _)
   | (with_reducible exact rootcellarref2_Reader_Text.mono _ _ _ _)
   | (with_reducible exact rootcellarref3_Take.mono _ _)
   | (with_reducible exact rootcellarref7_Put.mono _ _)
   | (with_reducible exact LeO.refl _)
   | (with_reducible exact LeO.none _)
   | (with_reducible refine LeO.ite ?_ ?_)
   | (with_reducible refine LeO.bind ?_ (fun _ => ?_))
   | exact ih0 _ _ _ _ _ _
   | exact ih1 _ _ _ _ _ _ _
   | exact ih2 _ _ _ _ _ _ _ _ _ _ _
   | exact ih3 _ _ _ _ _ _ _ _ _ _ _ _
   | exact ih4 _ _
   | exact rootcellarref2_Reader_Number.mono _ _ _ _
   | exact rootcellarref2_Reader_Text.mono _ _ _ _
   | exact rootcellarref3_Take.mono _ _
   | exact rootcellarref7_Put.mono _ _
   | exact LeO.none _
   | refine LeO.ite ?_ ?_
   | refine LeO.bind ?_ (fun _ => ?_)
  ·intro y0 y1 y2 y3 y4 y5 y6
   unfold rootcellarref7_Take.j1
   repeat' first
   | (with_reducible exact ih0 _ _ _ _ _ _)
   | (with_reducible exact ih1 _ _ _ _ _ _ _)
   | (with_reducible exact ih2 _ _ _ _ _ _ _ _ _ _ _)
   | (with_reducible exact ih3 _ _ _ _ _ _ _ _ _ _ _ _)
   | (with_reducible exact ih4 _ _)
   | (with_reducible exact rootcellarref2_Reader_Number.mono _ _ _ _)
   | (with_reducible exact rootcellarref2_Reader_Text.mono _ _ _ _)
   | (with_reducible exact rootcellarref3_Take.mono _ _)
   | (with_reducible exact rootcellarref7_Put.mono _ _)
   | (with_reducible exact LeO.refl _)
   | (with_reducible exact LeO.none _)
   | (with_reducible refine LeO.ite ?_ ?_)
   | (with_reducible refine LeO.bind ?_ (fun _ => ?_))
   | exact ih0 _ _ _ _ _ _
   | exact ih1 _ _ _ _ _ _ _
   | exact ih2 _ _ _ _ _ _ _ _ _ _ _
   | exact ih3 _ _ _ _ _ _ _ _ _ _ _ _
   | exact ih4 _ _
   | exact rootcellarref2_Reader_Number.mono _ _ _ _
   | exact rootcellarref2_Reader_Text.mono _ _ _ _
   | exact rootcellarref3_Take.mono _ _
   | exact rootcellarref7_Put.mono _ _
   | exact LeO.none _
   | refine LeO.ite ?_ ?_
   | refine LeO.bind ?_ (fun _ => ?_)
  ·intro y0 y1 y2 y3 y4 y5 y6 y7 y8 y9 y10
   unfold rootcellarref7_Take.l1
   repeat' first
   | (with_reducible exact ih0 _ _ _ _ _ _)
   | (with_reducible exact ih1 _ _ _ _ _ _ _)
   | (with_reducible exact ih2 _ _ _ _ _ _ _ _ _ _ _)
   | (with_reducible exact ih3 _ _ _ _ _ _ _ _ _ _ _ _)
   | (with_reducible exact ih4 _ _)
   | (with_reducible exact rootcellarref2_Reader_Number.mono _ _ _ _)
   | (with_reducible exact rootcellarref2_Reader_Text.mono _ _ _ _)
   | (with_reducible exact rootcellarref3_Take.mono _ _)
   | (with_reducible exact rootcellarref7_Put.mono _ _)
   | (with_reducible exact LeO.refl _)
   | (with_reducible exact LeO.none _)
   | (with_reducible refine LeO.ite ?_ ?_)
   | (with_reducible refine LeO.bind ?_ (fun _ => ?_))
   | exact ih0 _ _ _ _ _ _
   | exact ih1 _ _ _ _ _ _ _
   | exact ih2 _ _ _ _ _ _ _ _ _ _ _
   | exact ih3 _ _ _ _ _ _ _ _ _ _ _ _
   | exact ih4 _ _
   | exact rootcellarref2_Reader_Number.mono _ _ _ _
   | exact rootcellarref2_Reader_Text.mono _ _ _ _
   | exact rootcellarref3_Take.mono _ _
   | exact rootcellarref7_Put.mono _ _
   | exact LeO.none _
   | refine LeO.ite ?_ ?_
   | refine LeO.bind ?_ (fun _ => ?_)
  ·intro y0 y1 y2 y3 y4 y5 y6 y7 y8 y9 y10 y11
   unfold rootcellarref7_Take.j3
   repeat' first
   | (with_reducible exact ih0 _ _ _ _ _ _)
   | (with_reducible exact ih1 _ _ _ _ _ _ _)
   | (with_reducible exact ih2 _ _ _ _ _ _ _ _ _ _ _)
   | (with_reducible exact ih3 _ _ _ _ _ _ _ _ _ _ _ _)
   | (with_reducible exact ih4 _ _)
   | (with_reducible exact rootcellarref2_Reader_Number.mono _ _ _ _)
   | (with_reducible exact rootcellarref2_Reader_Text.mono _ _ _ _)
   | (with_reducible exact rootcellarref3_Take.mono _ _)
   | (with_reducible exact rootcellarref7_Put.mono _ _)
   | (with_reducible exact LeO.refl _)
   | (with_reducible exact LeO.none _)
   | (with_reducible refine LeO.ite ?_ ?_)
   | (with_reducible refine LeO.bind ?_ (fun _ => ?_))
   | exact ih0 _ _ _ _ _ _
   | exact ih1 _ _ _ _ _ _ _
   | exact ih2 _ _ _ _ _ _ _ _ _ _ _
   | exact ih3 _ _ _ _ _ _ _ _ _ _ _ _
   | exact ih4 _ _
   | exact rootcellarref2_Reader_Number.mono _ _ _ _
   | exact rootcellarref2_Reader_Text.mono _ _ _ _
   | exact rootcellarref3_Take.mono _ _
   | exact rootcellarref7_Put.mono _ _
   | exact LeO.none _
   | refine LeO.ite ?_ ?_
   | refine LeO.bind ?_ (fun _ => ?_)
  ·intro y0 y1
   unfold rootcellarref7_Take.j4
   repeat' first
   | (with_reducible exact ih0 _ _ _ _ _ _)
   | (with_reducible exact ih1 _ _ _ _ _ _ _)
   | (with_reducible exact ih2 _ _ _ _ _ _ _ _ _ _ _)
   | (with_reducible exact ih3 _ _ _ _ _ _ _ _ _ _ _ _)
   | (with_reducible exact ih4 _ _)
   | (with_reducible exact rootcellarref2_Reader_Number.mono _ _ _ _)
   | (with_reducible exact rootcellarref2_Reader_Text.mono _ _ _ _)
   | (with_reducible exact rootcellarref3_Take.mono _ _)
   | (with_reducible exact rootcellarref7_Put.mono _ _)
   | (with_reducible exact LeO.refl _)
   | (with_reducible exact LeO.none _)
   | (with_reducible refine LeO.ite ?_ ?_)
   | (with_reducible refine LeO.bind ?_ (fun _ => ?_))
   | exact ih0 _ _ _ _ _ _
   | exact ih1 _ _ _ _ _ _ _
   | exact ih2 _ _ _ _ _ _ _ _ _ _ _
   | exact ih3 _ _ _ _ _ _ _ _ _ _ _ _
   | exact ih4 _ _
   | exact rootcellarref2_Reader_Number.mono _ _ _ _
   | exact rootcellarref2_Reader_Text.mono _ _ _ _
   | exact rootcellarref3_Take.mono _ _
   | exact rootcellarref7_Put.mono _ _
   | exact LeO.none _
   | refine LeO.ite ?_ ?_
   | refine LeO.bind ?_ (fun _ => ?_)
theorem rootcellarref7_Take.mono : ∀ a0 k, LeO (rootcellarref7_Take.f k a0) (rootcellarref7_Take.f (k + 1) a0) := by
 intro a0 k
 obtain ⟨ih0, ih1, ih2, ih3, ih4⟩ := rootcellarref7_Take.mono_l k
 unfold rootcellarref7_Take.f
 repeat' first
   | (with_reducible exact ih0 _ _ _ _ _ _)
   | (with_reducible exact ih1 _ _ _ _ _ _ _)
   | (with_reducible exact ih2 _ _ _ _ _ _ _ _ _ _ _)
   | (with_reducible exact ih3 _ _ _ _ _ _ _ _ _ _ _ _)
   | (with_reducible exact ih4 _ _)
   | (with_reducible exact rootcellarref2_Reader_Number.mono _ _ _ _)
   | (with_reducible exact rootcellarref2_Reader_Text.mono _ _ _ _)
   | (with_reducible exact rootcellarref3_Take.mono _ _)
   | (with_reducible exact rootcellarref7_Put.mono _ _)
   | (with_reducible exact LeO.refl _)
   | (with_reducible exact LeO.none _)
   | (with_reducible refine LeO.ite ?_ ?_)
   | (with_reducible refine LeO.bind ?_ (fun _ => ?_))
   | exact ih0 _ _ _ _ _ _
   | exact ih1 _ _ _ _ _ _ _
   | exact ih2 _ _ _ _ _ _ _ _ _ _ _
   | exact ih3 _ _ _ _ _ _ _ _ _ _ _ _
   | exact ih4 _ _
   | exact rootcellarref2_Reader_Number.mono _ _ _ _
   | exact rootcellarref2_Reader_Text.mono _ _ _ _
   | exact rootcellarref3_Take.mono _ _
   | exact rootcellarref7_Put.mono _ _
   | exact LeO.none _
   | refine LeO.ite ?_ ?_
   | refine LeO.bind ?_ (fun _ => ?_)
def rootcellarref7_Take.T18 : Bool × List (List Nat × List Nat) := (true, [([], []), ([0], [0]), ([], []), ([], []), ([3], [3]), ([4], [4]), ([2, 5], [2, 5]), ([6], [6]), ([1, 7, 4], [1, 7]), ([0, 1, 2, 3, 4, 5, 6, 7, 8], []), ([9, 8, 8, 0, 1, 2, 3, 4, 5, 6, 7, 8], [8, 9])])
def rootcellarref7_Take.B18 : List Nat := [0, 1, 0, 0, 8, 24, 60, 124, 255, 511, 1023]
theorem rootcellarref7_Take.tab18 : rtab .any (opsOf Tryd.f13 18) = rootcellarref7_Take.T18 := by kernel_rfl
theorem rootcellarref7_Take.bits18 : waitsOk rootcellarref7_Take.T18.2 rootcellarref7_Take.B18 = true := by kernel_rfl
set_option maxHeartbeats 8000000 in
set_option maxRecDepth 100000 in
theorem rootcellarref7_Take.calls (k : Nat) (a0 : ByteArray) (r1 : List (S45)) (r2 : Int) (w : World) (h : rootcellarref7_Take.f k a0 = some (r1, r2)) :
  Calls Tryd.prog 13 #[.string a0] w fun e w' => ∃ v0_ : Value, e = .returned (.tuple #[v0_, .int .i64 r2]) ∧ Kd.S k45 45 w' w.heap.size (fun _ => True) v0_ r1 ∧ Below w.heap.size w w' := by
 have hu75 := Tryd.underlying75
 have hu45 := Tryd.underlying45
 have hu64 := Tryd.underlying64
 have HB := Aside0.mk (Below.refl w.heap.size w)
 have H : ((rootcellarref3_Take.f k a0).bind fun bt262 => (if bt262.2 = 0 then ((rootcellarref2_Reader_Number.f k bt262.1 false 1).bind fun bt265 => (rootcellarref7_Take.l0 k a0 (wrap64 (bt265.1)) ([] : List (S45)) 0 bt265.2.1 bt265.2.2)) else (some (([] : List (S45)), bt262.2)))) = some (r1, r2) := h
 clear h
 replace H := Option.bind_eq_some_iff.mp H
 obtain ⟨⟨t262, t263⟩, A20, H⟩ := H
 replace H : (if t263 = 0 then ((rootcellarref2_Reader_Number.f k t262 false 1).bind fun bt265 => (rootcellarref7_Take.l0 k a0 (wrap64 (bt265.1)) ([] : List (S45)) 0 bt265.2.1 bt265.2.2)) else (some (([] : List (S45)), t263))) = some (r1, r2) := H
 have A2 := Aside0.mk A20
 clear A20
 by_cases c3 : t263 = 0
 ·rw [if_pos c3] at H
  have c3b0 : (t263 == 0) = true := beq_iff_eq.mpr c3
  have c3b1 : (t263 != 0) = false := bne_eq_false_iff_eq.mpr c3
  clear c3
  replace H := Option.bind_eq_some_iff.mp H
  obtain ⟨⟨t265, t266, t267⟩, A40, H⟩ := H
  replace H : (rootcellarref7_Take.l0 k a0 (wrap64 (t265)) ([] : List (S45)) 0 t266 t267) = some (r1, r2) := H
  have A4 := Aside0.mk A40
  clear A40
  have H' := Aside0.mk H
  clear H
  go_enter Tryd.func13, Tryd.ntmps13
  go_wp2_with (first | ((with_reducible refine gate_callee (f := 39) rfl ?_); refine goesL_ (some 19) rfl rfl Tryd.func39 (by kernel_rfl) rfl #[.string a0] rfl argA ?_; (with_reducible refine (rootcellarref3_Take.calls k a0 t262 t263 _ A2.out).mono ?_); rintro e w5 ⟨rfl, hb⟩; refine ⟨_, rfl, ?_⟩; have n0_ := Aside0.mk (below_step belA hb); clear HB; have HB := n0_; clear n0_; (try clear hb); (try clear hb2); (try clear hk); (try clear hi)) | ((with_reducible refine gate_dst (N := 27) rfl ?_); refine box_event ?hg (N := 27) ?hd (cs := #[.string t262, .bool false]) (t := 75) ?hr ?_; (case hd => rfl); (case hg => rfl); (case hr => first | (go_simp; done) | (go_simp; rfl)); intro gb264 hg w6 hbox hb; have n0_ := Aside0.mk (below_step belA hb); have n1_ := Aside0.mk ((show IsS75 w w6 gb264 t262 false from ⟨hbox, (by rw [hg]; exact (below_size belA) : w.heap.size ≤ gb264)⟩)); have n2_ := Aside0.mk ((by rw [hg]; exact (below_size belA) : w.heap.size ≤ gb264)); have n3_ := Aside0.mk ((by rw [hg]; exact (below_size belA) : w.heap.size ≤ gb264)); clear HB; have HB := n0_; have HI264 := n1_; have GW264 := n2_; have GE264 := n3_; clear n0_ n1_ n2_ n3_; clear hb hbox hg) | ((with_reducible refine gate_callee (f := 40) rfl ?_); refine goesL_ (some 29) rfl rfl Tryd.func40 (by kernel_rfl) rfl #[.pointer (some ⟨gb264, 0, none⟩), .int .i64 1] rfl argA ?_; (with_reducible refine (rootcellarref2_Reader_Number.calls k gb264 t262 false 1 t265 t266 t267 w _ ?side1 ?side2 A4.out).mono ?_); (case side1 => repeat (first | (with_reducible first | exact HI264.out | apply IsS75.alloc | apply IsS75.drewN | apply IsS75.drew | apply IsS75.set_0 | apply IsS75.set_1) | exact HI264.out)); (case side2 => repeat (first | (with_reducible first | exact HB.out | apply below_alloc | apply pw_below_drewN | apply below_drew1 | refine below_set ?_ (IsS75.ge HI264.out)) | exact HB.out)); rintro e w7 ⟨rfl, hi, hb, hk⟩; refine ⟨_, rfl, ?_⟩; have n0_ := Aside0.mk (hb); have n1_ := Aside0.mk (hi); clear HB; clear HI264; have HB := n0_; have HI264 := n1_; clear n0_ n1_; (try clear hb); (try clear hb2); (try clear hk); (try clear hi)))
  go_loopg [8, 9] k (fun kq v8 v9 w' => ∃ (x8_1 : List (S45)) (x9_1 : Int) (x265000_1 : ByteArray) (x265001_1 : Bool), v9 = .int .i64 x9_1 ∧ Aside0 (rootcellarref7_Take.l0 kq a0 (wrap64 (t265)) x8_1 x9_1 x265000_1 x265001_1 = some (r1, r2)) ∧ Aside0 (kq ≤ k) ∧ Aside0 (Kd.S k45 45 w' w.heap.size (fun _ => True) v8 x8_1) ∧ Aside0 (IsS75 w w' gb264 x265000_1 x265001_1) ∧ Aside0 (Below w.heap.size w w'))
  case atStart => exact ⟨(([] : List (S45))), (0), (t266), (t267), (by first | rfl | (simp; done) | (simp [*]; done)), H', ⟨Nat.le_refl _⟩, ⟨by first | exact Kd.S_nil _ _ _ _ _ | exact Kd.N_nil _ _ _ _ _ | exact Kd.V_nil _ _ _ _ _ | exact Kd.Q_nil _ _ _ _ _ | exact Kd.R_nil _ _ _ _ _⟩, ⟨by repeat (first | (with_reducible first | exact HI264.out | apply IsS75.alloc | apply IsS75.drewN | apply IsS75.drew | apply IsS75.set_0 | apply IsS75.set_1) | exact HI264.out)⟩, ⟨by repeat (first | (with_reducible first | exact HB.out | apply below_alloc | apply pw_below_drewN | apply below_drew1 | refine below_set ?_ (IsS75.ge HI264.out)) | exact HB.out)⟩⟩
  case round =>
   clear H'
   try clear c1
   try clear p2
   try clear c3
   try clear c3b0
   try clear c3b1
   try clear c4
   try clear p6
   obtain ⟨x8_1, x9_1, x265000_1, x265001_1, rfl, HA, HK1, HO_8, HI264, HB⟩ := hrel
   cases gk with
   | zero => exact absurd HA.out (by simp [rootcellarref7_Take.l0])
   | succ k1 =>
    have H := HA.out
    clear HA
    simp only [rootcellarref7_Take.l0] at H
    have HC8 := Aside0.mk H
    clear H
    go_upto_region 8 with (fail)
    go_cut [40] (fun v40 wc => ∃ (kq : Nat) (x40_7 : Bool), v40 = .bool x40_7 ∧ Aside0 (rootcellarref7_Take.j1 kq a0 (wrap64 (t265)) x8_1 x9_1 x40_7 x265000_1 x265001_1 = some (r1, r2)) ∧ Aside0 (kq ≤ k1) ∧ Aside0 (Kd.S k45 45 wc w.heap.size (fun _ => True) u8 x8_1) ∧ Aside0 (IsS75 w wc gb264 x265000_1 x265001_1) ∧ Aside0 (Below w.heap.size w wc))
    case first =>
     have H := HC8.out
     clear HC8
     by_cases c9 : x9_1 < (wrap64 (t265))
     ·rw [if_pos c9] at H
      have c9b0 : decide (x9_1 < (wrap64 (t265))) = true := decide_eq_true c9
      clear c9
      (first | rw [c9b0] | (simp only [i64_w, i32_w]; rw [c9b0]) | skip)
      have H' := Aside0.mk H
      clear H
      obtain ⟨HGz10, hgz10⟩ := HI264.out
      have hcz10_0 := cellS75_0 HGz10
      have hcz10_1 := cellS75_1 HGz10
      have hfz10_0 := blk_frozen HGz10 0
      have hfz10_1 := blk_frozen HGz10 1
      clear HGz10 hgz10
      go_wp2
      go_meet
      case rel => exact ⟨_, (!x265001_1), (by first | rfl | (simp; done) | (simp [*]; done)), H', ⟨by have := HK1.out; first | omega | exact Nat.le_refl _⟩, ⟨by (with_reducible repeat (first | apply Kd.S_alloc | apply Kd.S_drewN | apply Kd.S_drew)); exact HO_8.out⟩, ⟨by repeat (first | (with_reducible first | exact HI264.out | apply IsS75.alloc | apply IsS75.drewN | apply IsS75.drew | apply IsS75.set_0 | apply IsS75.set_1) | exact HI264.out)⟩, ⟨by repeat (first | (with_reducible first | exact HB.out | apply below_alloc | apply pw_below_drewN | apply below_drew1 | refine below_set ?_ (IsS75.ge HI264.out)) | exact HB.out)⟩⟩
     ·rw [if_neg c9] at H
      have c9b0 : decide (x9_1 < (wrap64 (t265))) = false := decide_eq_false c9
      clear c9
      (first | rw [c9b0] | (simp only [i64_w, i32_w]; rw [c9b0]) | skip)
      have H' := Aside0.mk H
      clear H
      go_wp2
      go_meet
      case rel => exact ⟨_, (false), (by first | rfl | (simp; done) | (simp [*]; done)), H', ⟨by have := HK1.out; first | omega | exact Nat.le_refl _⟩, ⟨by (with_reducible repeat (first | apply Kd.S_alloc | apply Kd.S_drewN | apply Kd.S_drew)); exact HO_8.out⟩, ⟨by repeat (first | (with_reducible first | exact HI264.out | apply IsS75.alloc | apply IsS75.drewN | apply IsS75.drew | apply IsS75.set_0 | apply IsS75.set_1) | exact HI264.out)⟩, ⟨by repeat (first | (with_reducible first | exact HB.out | apply below_alloc | apply pw_below_drewN | apply below_drew1 | refine below_set ?_ (IsS75.ge HI264.out)) | exact HB.out)⟩⟩
    case rest =>
     clear HC8
     try clear c1
     try clear p2
     try clear c3
     try clear c3b0
     try clear c3b1
     try clear c4
     try clear p6
     try clear c9
     try clear c9b0
     try clear hcz10_0
     try clear hcz10_1
     try clear hfz10_0
     try clear hfz10_1
     try clear p2
     try clear p6
     obtain ⟨kq, x40_7, rfl, HA, HJ7, HO_8, HI264, HB⟩ := hcut
     cases kq with
     | zero => exact absurd HA.out (by simp [rootcellarref7_Take.j1])
     | succ kj7 =>
      have H := HA.out
      clear HA
      simp only [rootcellarref7_Take.j1] at H
      by_cases c11 : x40_7 = true
      ·subst c11
       have H1 : ((rootcellarref2_Reader_Number.f kj7 x265000_1 x265001_1 1).bind fun bt268 => ((rootcellarref2_Reader_Text.f kj7 bt268.2.1 bt268.2.2 (wrap64 (bt268.1))).bind fun bt271 => ((rootcellarref2_Reader_Number.f kj7 bt271.2.1 bt271.2.2 4).bind fun bt275 => ((rootcellarref2_Reader_Number.f kj7 bt275.2.1 bt275.2.2 1).bind fun bt278 => (rootcellarref7_Take.l1 kj7 a0 (wrap64 (t265)) x8_1 x9_1 (wrap64 (bt278.1)) 0 bt278.2.1 bt278.2.2 bt271.1 (wrap64 (bt275.1)) ([] : List (S64))))))) = some (r1, r2) := by rw [if_pos rfl] at H; exact H
       clear H
       have H := H1
       clear H1
       replace H := Option.bind_eq_some_iff.mp H
       obtain ⟨⟨t268, t269, t270⟩, A120, H⟩ := H
       replace H : ((rootcellarref2_Reader_Text.f kj7 t269 t270 (wrap64 (t268))).bind fun bt271 => ((rootcellarref2_Reader_Number.f kj7 bt271.2.1 bt271.2.2 4).bind fun bt275 => ((rootcellarref2_Reader_Number.f kj7 bt275.2.1 bt275.2.2 1).bind fun bt278 => (rootcellarref7_Take.l1 kj7 a0 (wrap64 (t265)) x8_1 x9_1 (wrap64 (bt278.1)) 0 bt278.2.1 bt278.2.2 bt271.1 (wrap64 (bt275.1)) ([] : List (S64)))))) = some (r1, r2) := H
       have A12 := Aside0.mk A120
       clear A120
       replace H := Option.bind_eq_some_iff.mp H
       obtain ⟨⟨t271, t272, t273⟩, A130, H⟩ := H
       replace H : ((rootcellarref2_Reader_Number.f kj7 t272 t273 4).bind fun bt275 => ((rootcellarref2_Reader_Number.f kj7 bt275.2.1 bt275.2.2 1).bind fun bt278 => (rootcellarref7_Take.l1 kj7 a0 (wrap64 (t265)) x8_1 x9_1 (wrap64 (bt278.1)) 0 bt278.2.1 bt278.2.2 t271 (wrap64 (bt275.1)) ([] : List (S64))))) = some (r1, r2) := H
       have A13 := Aside0.mk A130
       clear A130
       replace H := Option.bind_eq_some_iff.mp H
       obtain ⟨⟨t275, t276, t277⟩, A140, H⟩ := H
       replace H : ((rootcellarref2_Reader_Number.f kj7 t276 t277 1).bind fun bt278 => (rootcellarref7_Take.l1 kj7 a0 (wrap64 (t265)) x8_1 x9_1 (wrap64 (bt278.1)) 0 bt278.2.1 bt278.2.2 t271 (wrap64 (t275)) ([] : List (S64)))) = some (r1, r2) := H
       have A14 := Aside0.mk A140
       clear A140
       replace H := Option.bind_eq_some_iff.mp H
       obtain ⟨⟨t278, t279, t280⟩, A150, H⟩ := H
       replace H : (rootcellarref7_Take.l1 kj7 a0 (wrap64 (t265)) x8_1 x9_1 (wrap64 (t278)) 0 t279 t280 t271 (wrap64 (t275)) ([] : List (S64))) = some (r1, r2) := H
       have A15 := Aside0.mk A150
       clear A150
       have H' := Aside0.mk H
       clear H
       go_wp2_with (first | ((with_reducible refine gate_callee (f := 40) rfl ?_); refine goesL_ (some 45) rfl rfl Tryd.func40 (by kernel_rfl) rfl #[.pointer (some ⟨gb264, 0, none⟩), .int .i64 1] rfl argA ?_; (with_reducible refine (rootcellarref2_Reader_Number.calls kj7 gb264 x265000_1 x265001_1 1 t268 t269 t270 w _ ?side1 ?side2 A12.out).mono ?_); (case side1 => repeat (first | (with_reducible first | exact HI264.out | apply IsS75.alloc | apply IsS75.drewN | apply IsS75.drew | apply IsS75.set_0 | apply IsS75.set_1) | exact HI264.out)); (case side2 => repeat (first | (with_reducible first | exact HB.out | apply below_alloc | apply pw_below_drewN | apply below_drew1 | refine below_set ?_ (IsS75.ge HI264.out)) | exact HB.out)); rintro e w16 ⟨rfl, hi, hb, hk⟩; refine ⟨_, rfl, ?_⟩; have n0_ := Aside0.mk (Kd.S_mono (Kd.S_keep (IsS75.apartS (show IsS75 w _ gb264 x265000_1 x265001_1 from by repeat (first | (with_reducible first | exact HI264.out | apply IsS75.alloc | apply IsS75.drewN | apply IsS75.drew | apply IsS75.set_0 | apply IsS75.set_1) | exact HI264.out)) (kdS_ HO_8.out) (by decide)) hk (fun _ h => h.2)) (fun _ h => h.1)); have n1_ := Aside0.mk (hb); have n2_ := Aside0.mk (hi); clear HO_8; clear HB; clear HI264; have HO_8 := n0_; have HB := n1_; have HI264 := n2_; clear n0_ n1_ n2_; (try clear hb); (try clear hb2); (try clear hk); (try clear hi)) | ((with_reducible refine gate_callee (f := 41) rfl ?_); refine goesL_ (some 47) rfl rfl Tryd.func41 (by kernel_rfl) rfl #[.pointer (some ⟨gb264, 0, none⟩), .int .i64 (wrap64 (t268))] rfl argA ?_; (with_reducible refine (rootcellarref2_Reader_Text.calls kj7 gb264 t269 t270 (wrap64 (t268)) t271 t272 t273 w _ ?side1 ?side2 A13.out).mono ?_); (case side1 => repeat (first | (with_reducible first | exact HI264.out | apply IsS75.alloc | apply IsS75.drewN | apply IsS75.drew | apply IsS75.set_0 | apply IsS75.set_1) | exact HI264.out)); (case side2 => repeat (first | (with_reducible first | exact HB.out | apply below_alloc | apply pw_below_drewN | apply below_drew1 | refine below_set ?_ (IsS75.ge HI264.out)) | exact HB.out)); rintro e w17 ⟨rfl, hi, hb, hk⟩; refine ⟨_, rfl, ?_⟩; have n0_ := Aside0.mk (Kd.S_mono (Kd.S_keep (IsS75.apartS (show IsS75 w _ gb264 t269 t270 from by repeat (first | (with_reducible first | exact HI264.out | apply IsS75.alloc | apply IsS75.drewN | apply IsS75.drew | apply IsS75.set_0 | apply IsS75.set_1) | exact HI264.out)) (kdS_ HO_8.out) (by decide)) hk (fun _ h => h.2)) (fun _ h => h.1)); have n1_ := Aside0.mk (hb); have n2_ := Aside0.mk (hi); clear HO_8; clear HB; clear HI264; have HO_8 := n0_; have HB := n1_; have HI264 := n2_; clear n0_ n1_ n2_; (try clear hb); (try clear hb2); (try clear hk); (try clear hi)) | ((with_reducible refine gate_dst (N := 11) rfl ?_); refine box_event ?hg (N := 11) ?hd (cs := #[.string (⟨#[]⟩ : ByteArray), .int .i64 0, .slice none 0 0]) (t := 45) ?hr ?_; (case hd => rfl); (case hg => rfl); (case hr => first | (go_simp; done) | (go_simp; rfl)); intro gb274 hg w18 hbox hb; have n0_ := Aside0.mk (Kd.S_below (Kd.S_elderB (kdS_ HO_8.out) gb274 (Nat.le_of_eq hg.symm)) hb); have n1_ := Aside0.mk (IsS75.below (by repeat (first | (with_reducible first | exact HI264.out | apply IsS75.alloc | apply IsS75.drewN | apply IsS75.drew | apply IsS75.set_0 | apply IsS75.set_1) | exact HI264.out)) hb); have n2_ := Aside0.mk (below_step (by repeat (first | (with_reducible first | exact HB.out | apply below_alloc | apply pw_below_drewN | apply below_drew1 | refine below_set ?_ (IsS75.ge HI264.out)) | exact HB.out)) hb); have n3_ := Aside0.mk (hbox); have n4_ := Aside0.mk ((by rw [hg]; exact (below_size (by repeat (first | (with_reducible first | exact HB.out | apply below_alloc | apply pw_below_drewN | apply below_drew1 | refine below_set ?_ (IsS75.ge HI264.out)) | exact HB.out))) : w.heap.size ≤ gb274)); have n5_ := Aside0.mk ((by rw [hg]; exact (below_size (by repeat (first | (with_reducible first | exact HB.out | apply below_alloc | apply pw_below_drewN | apply below_drew1 | refine below_set ?_ (IsS75.ge HI264.out)) | exact HB.out))) : w.heap.size ≤ gb274)); have n6_ := Aside0.mk ((by rw [hg]; exact Nat.ne_of_lt (IsS75.lt (show IsS75 w _ gb264 t272 t273 from by repeat (first | (with_reducible first | exact HI264.out | apply IsS75.alloc | apply IsS75.drewN | apply IsS75.drew | apply IsS75.set_0 | apply IsS75.set_1) | exact HI264.out))) : gb264 ≠ gb274)); have n7_ := Aside0.mk ((by rw [hg]; exact Nat.ne_of_gt (IsS75.lt (show IsS75 w _ gb264 t272 t273 from by repeat (first | (with_reducible first | exact HI264.out | apply IsS75.alloc | apply IsS75.drewN | apply IsS75.drew | apply IsS75.set_0 | apply IsS75.set_1) | exact HI264.out))) : gb274 ≠ gb264)); clear HO_8; clear HI264; clear HB; have HO_8 := n0_; have HI264 := n1_; have HB := n2_; have BK274 := n3_; have GW274 := n4_; have GE274 := n5_; have NB264_274 := n6_; have NB274_264 := n7_; clear n0_ n1_ n2_ n3_ n4_ n5_ n6_ n7_; clear hb hbox hg; have hnb19 := NB274_264.out; have hnc19 := NB264_274.out; have hcz20_0 : w18.cell? ⟨gb274, 0, none⟩ = some (.string (⟨#[]⟩ : ByteArray)) := (blk_cell BK274.out 0).trans rfl; have hcz20_1 : w18.cell? ⟨gb274, 1, none⟩ = some (.int .i64 0) := (blk_cell BK274.out 1).trans rfl; have hcz20_2 : w18.cell? ⟨gb274, 2, none⟩ = some (.slice none 0 0) := (blk_cell BK274.out 2).trans rfl; have hfz20_0 := blk_frozen BK274.out 0; have hfz20_1 := blk_frozen BK274.out 1; have hfz20_2 := blk_frozen BK274.out 2) | ((with_reducible refine gate_callee (f := 40) rfl ?_); refine goesL_ (some 51) rfl rfl Tryd.func40 (by kernel_rfl) rfl #[.pointer (some ⟨gb264, 0, none⟩), .int .i64 4] rfl argA ?_; (with_reducible refine (rootcellarref2_Reader_Number.calls kj7 gb264 t272 t273 4 t275 t276 t277 w _ ?side1 ?side2 A14.out).mono ?_); (case side1 => repeat (first | (with_reducible first | exact HI264.out | apply IsS75.alloc | apply IsS75.drewN | apply IsS75.drew | apply IsS75.set_0 | apply IsS75.set_1 | refine IsS75.far ?_ NB264_274.out _) | exact HI264.out)); (case side2 => repeat (first | (with_reducible first | exact HB.out | apply below_alloc | apply pw_below_drewN | apply below_drew1 | refine below_set ?_ (IsS75.ge HI264.out) | refine below_set ?_ GE274.out) | exact HB.out)); rintro e w21 ⟨rfl, hi, hb, hk⟩; refine ⟨_, rfl, ?_⟩; have n0_ := Aside0.mk (Kd.S_mono (Kd.S_keep (IsS75.apartS (show IsS75 w _ gb264 t272 t273 from by repeat (first | (with_reducible first | exact HI264.out | apply IsS75.alloc | apply IsS75.drewN | apply IsS75.drew | apply IsS75.set_0 | apply IsS75.set_1 | refine IsS75.far ?_ NB264_274.out _) | exact HI264.out)) (by (with_reducible repeat (first | apply Kd.S_alloc | apply Kd.S_drewN | apply Kd.S_drew)); exact (Kd.S_mono (Kd.S_far (p := ⟨gb274, 2, none⟩) (Kd.S_far (p := ⟨gb274, 1, none⟩) (Kd.S_far (p := ⟨gb274, 0, none⟩) (Kd.S_mono HO_8.out (fun k_ hk => (⟨hk, hk.2⟩ : _ ∧ k_ ≠ gb274))) (fun _ hk => hk.2) (.string t271)) (fun _ hk => hk.2) (.int .i64 0)) (fun _ hk => hk.2) (.slice none 0 0)) (fun _ h_ => h_.1))) (by decide)) hk (fun _ h => h.2)) (fun _ h => h.1)); have n1_ := Aside0.mk (KeepBut.blk hk (g' := gb274) (o := .cells #[.string t271, .int .i64 0, .slice none 0 0] 45 (0, 0)) (by (with_reducible repeat (first | refine blk_drewN ?_ _ | refine blk_drew ?_ | refine blk_alloc ?_ _)); refine blk_put (cs := #[.string t271, .int .i64 0, .slice none 0 0]) ?_ 2 _ rfl; (with_reducible repeat (first | refine blk_drewN ?_ _ | refine blk_drew ?_ | refine blk_alloc ?_ _)); refine blk_put (cs := #[.string t271, .int .i64 0, .slice none 0 0]) ?_ 1 _ rfl; (with_reducible repeat (first | refine blk_drewN ?_ _ | refine blk_drew ?_ | refine blk_alloc ?_ _)); refine blk_put (cs := #[.string (⟨#[]⟩ : ByteArray), .int .i64 0, .slice none 0 0]) ?_ 0 _ rfl; (with_reducible repeat (first | refine blk_drewN ?_ _ | refine blk_drew ?_ | refine blk_alloc ?_ _)); exact BK274.out) NB274_264.out (by simp)); have n2_ := Aside0.mk (hb); have n3_ := Aside0.mk (hi); clear HO_8; clear BK274; clear HB; clear HI264; have HO_8 := n0_; have BK274 := n1_; have HB := n2_; have HI264 := n3_; clear n0_ n1_ n2_ n3_; (try clear hb); (try clear hb2); (try clear hk); (try clear hi); have hcz22_0 : w21.cell? ⟨gb274, 0, none⟩ = some (.string t271) := (blk_cell BK274.out 0).trans rfl; have hcz22_1 : w21.cell? ⟨gb274, 1, none⟩ = some (.int .i64 0) := (blk_cell BK274.out 1).trans rfl; have hcz22_2 : w21.cell? ⟨gb274, 2, none⟩ = some (.slice none 0 0) := (blk_cell BK274.out 2).trans rfl; have hfz22_0 := blk_frozen BK274.out 0; have hfz22_1 := blk_frozen BK274.out 1; have hfz22_2 := blk_frozen BK274.out 2) | ((with_reducible refine gate_callee (f := 40) rfl ?_); refine goesL_ (some 55) rfl rfl Tryd.func40 (by kernel_rfl) rfl #[.pointer (some ⟨gb264, 0, none⟩), .int .i64 1] rfl argA ?_; (with_reducible refine (rootcellarref2_Reader_Number.calls kj7 gb264 t276 t277 1 t278 t279 t280 w _ ?side1 ?side2 A15.out).mono ?_); (case side1 => repeat (first | (with_reducible first | exact HI264.out | apply IsS75.alloc | apply IsS75.drewN | apply IsS75.drew | apply IsS75.set_0 | apply IsS75.set_1 | refine IsS75.far ?_ NB264_274.out _) | exact HI264.out)); (case side2 => repeat (first | (with_reducible first | exact HB.out | apply below_alloc | apply pw_below_drewN | apply below_drew1 | refine below_set ?_ (IsS75.ge HI264.out) | refine below_set ?_ GE274.out) | exact HB.out)); rintro e w23 ⟨rfl, hi, hb, hk⟩; refine ⟨_, rfl, ?_⟩; have n0_ := Aside0.mk (Kd.S_mono (Kd.S_keep (IsS75.apartS (show IsS75 w _ gb264 t276 t277 from by repeat (first | (with_reducible first | exact HI264.out | apply IsS75.alloc | apply IsS75.drewN | apply IsS75.drew | apply IsS75.set_0 | apply IsS75.set_1 | refine IsS75.far ?_ NB264_274.out _) | exact HI264.out)) (by (with_reducible repeat (first | apply Kd.S_alloc | apply Kd.S_drewN | apply Kd.S_drew)); exact (Kd.S_mono (Kd.S_far (p := ⟨gb274, 1, none⟩) (Kd.S_mono HO_8.out (fun k_ hk => (⟨hk, hk.2⟩ : _ ∧ k_ ≠ gb274))) (fun _ hk => hk.2) (.int .i64 (wrap64 (t275)))) (fun _ h_ => h_.1))) (by decide)) hk (fun _ h => h.2)) (fun _ h => h.1)); have n1_ := Aside0.mk (KeepBut.blk hk (g' := gb274) (o := .cells #[.string t271, .int .i64 (wrap64 (t275)), .slice none 0 0] 45 (0, 0)) (by (with_reducible repeat (first | refine blk_drewN ?_ _ | refine blk_drew ?_ | refine blk_alloc ?_ _)); refine blk_put (cs := #[.string t271, .int .i64 0, .slice none 0 0]) ?_ 1 _ rfl; (with_reducible repeat (first | refine blk_drewN ?_ _ | refine blk_drew ?_ | refine blk_alloc ?_ _)); exact BK274.out) NB274_264.out (by simp)); have n2_ := Aside0.mk (hb); have n3_ := Aside0.mk (hi); clear HO_8; clear BK274; clear HB; clear HI264; have HO_8 := n0_; have BK274 := n1_; have HB := n2_; have HI264 := n3_; clear n0_ n1_ n2_ n3_; (try clear hb); (try clear hb2); (try clear hk); (try clear hi)))
       go_loopg [13] kj7 (fun kq v13 w' => ∃ (x13_3 : Int) (x265000_3 : ByteArray) (x265001_3 : Bool) (x275002_3 : List (S64)) (u275002 : Value), v13 = .int .i64 x13_3 ∧ Aside0 (rootcellarref7_Take.l1 kq a0 (wrap64 (t265)) x8_1 x9_1 (wrap64 (t278)) x13_3 x265000_3 x265001_3 t271 (wrap64 (t275)) x275002_3 = some (r1, r2)) ∧ Aside0 (kq ≤ kj7) ∧ Aside0 (Kd.S k45 45 w' w.heap.size (fun k_ => some k_ ≠ (u275002 : Value).ownBlock ∧ k_ ≠ gb274) u8 x8_1) ∧ Aside0 (Kd.R k64 64 w' w.heap.size (fun _ => True) u275002 x275002_3) ∧ Aside0 (w'.heap[gb274]? = some (.cells #[.string t271, .int .i64 (wrap64 (t275)), u275002] 45 (0, 0))) ∧ Aside0 (IsS75 w w' gb264 x265000_3 x265001_3) ∧ Aside0 (Below w.heap.size w w'))
       case atStart => exact ⟨(0), (t279), (t280), (([] : List (S64))), (.slice none 0 0), (by first | rfl | (simp; done) | (simp [*]; done)), H', ⟨Nat.le_refl _⟩, ⟨by (with_reducible repeat (first | apply Kd.S_alloc | apply Kd.S_drewN | apply Kd.S_drew)); exact Kd.S_mono HO_8.out (fun _ hk => ⟨(by simp [Value.ownBlock]), hk.2⟩)⟩, ⟨by first | exact Kd.R_nil _ _ _ _ _ | exact Kd.N_nil _ _ _ _ _ | exact Kd.V_nil _ _ _ _ _ | exact Kd.Q_nil _ _ _ _ _ | exact Kd.S_nil _ _ _ _ _⟩, ⟨by (with_reducible repeat (first | refine blk_drewN ?_ _ | refine blk_drew ?_ | refine blk_alloc ?_ _)); exact BK274.out⟩, ⟨by repeat (first | (with_reducible first | exact HI264.out | apply IsS75.alloc | apply IsS75.drewN | apply IsS75.drew | apply IsS75.set_0 | apply IsS75.set_1 | refine IsS75.far ?_ NB264_274.out _) | exact HI264.out)⟩, ⟨by repeat (first | (with_reducible first | exact HB.out | apply below_alloc | apply pw_below_drewN | apply below_drew1 | refine below_set ?_ (IsS75.ge HI264.out) | refine below_set ?_ GE274.out) | exact HB.out)⟩⟩
       case round =>
        clear H'
        try clear c1
        try clear p2
        try clear c3
        try clear c3b0
        try clear c3b1
        try clear c4
        try clear p6
        try clear c9
        try clear c9b0
        try clear c11
        try clear c13
        try clear c19
        try clear hcz10_0
        try clear hcz10_1
        try clear hcz20_0
        try clear hcz20_1
        try clear hcz20_2
        try clear hcz22_0
        try clear hcz22_1
        try clear hcz22_2
        try clear hfz10_0
        try clear hfz10_1
        try clear hfz20_0
        try clear hfz20_1
        try clear hfz20_2
        try clear hfz22_0
        try clear hfz22_1
        try clear hfz22_2
        try clear p2
        try clear p6
        obtain ⟨x13_3, x265000_3, x265001_3, x275002_3, u275002, rfl, HA, HK3, HO_8, HO_275002, BK274, HI264, HB⟩ := hrel
        cases gk with
        | zero => exact absurd HA.out (by simp [rootcellarref7_Take.l1])
        | succ k3 =>
         have H := HA.out
         clear HA
         simp only [rootcellarref7_Take.l1] at H
         have HC24 := Aside0.mk H
         clear H
         go_upto_region 15 with (fail)
         go_cut [66] (fun v66 wc => ∃ (kq : Nat) (x66_23 : Bool), v66 = .bool x66_23 ∧ Aside0 (rootcellarref7_Take.j3 kq a0 (wrap64 (t265)) x8_1 x9_1 (wrap64 (t278)) x13_3 x66_23 x265000_3 x265001_3 t271 (wrap64 (t275)) x275002_3 = some (r1, r2)) ∧ Aside0 (kq ≤ k3) ∧ Aside0 (Kd.S k45 45 wc w.heap.size (fun k_ => some k_ ≠ (u275002 : Value).ownBlock ∧ k_ ≠ gb274) u8 x8_1) ∧ Aside0 (Kd.R k64 64 wc w.heap.size (fun _ => True) u275002 x275002_3) ∧ Aside0 (wc.heap[gb274]? = some (.cells #[.string t271, .int .i64 (wrap64 (t275)), u275002] 45 (0, 0))) ∧ Aside0 (IsS75 w wc gb264 x265000_3 x265001_3) ∧ Aside0 (Below w.heap.size w wc))
         case first =>
          have H := HC24.out
          clear HC24
          by_cases c25 : x13_3 < (wrap64 (t278))
          ·rw [if_pos c25] at H
           have c25b0 : decide (x13_3 < (wrap64 (t278))) = true := decide_eq_true c25
           clear c25
           (first | rw [c25b0] | (simp only [i64_w, i32_w]; rw [c25b0]) | skip)
           have H' := Aside0.mk H
           clear H
           obtain ⟨HGz26, hgz26⟩ := HI264.out
           have hcz26_0 := cellS75_0 HGz26
           have hcz26_1 := cellS75_1 HGz26
           have hfz26_0 := blk_frozen HGz26 0
           have hfz26_1 := blk_frozen HGz26 1
           clear HGz26 hgz26
           go_wp2
           go_meet
           case rel => exact ⟨_, (!x265001_3), (by first | rfl | (simp; done) | (simp [*]; done)), H', ⟨by have := HK1.out; have := HJ7.out; have := HK3.out; first | omega | exact Nat.le_refl _⟩, ⟨by (with_reducible repeat (first | apply Kd.S_alloc | apply Kd.S_drewN | apply Kd.S_drew)); exact HO_8.out⟩, ⟨by (with_reducible repeat (first | apply Kd.R_alloc | apply Kd.R_drewN | apply Kd.R_drew)); exact HO_275002.out⟩, ⟨by (with_reducible repeat (first | refine blk_drewN ?_ _ | refine blk_drew ?_ | refine blk_alloc ?_ _)); exact BK274.out⟩, ⟨by repeat (first | (with_reducible first | exact HI264.out | apply IsS75.alloc | apply IsS75.drewN | apply IsS75.drew | apply IsS75.set_0 | apply IsS75.set_1 | refine IsS75.far ?_ NB264_274.out _) | exact HI264.out)⟩, ⟨by repeat (first | (with_reducible first | exact HB.out | apply below_alloc | apply pw_below_drewN | apply below_drew1 | refine below_set ?_ (IsS75.ge HI264.out) | refine below_set ?_ GE274.out) | exact HB.out)⟩⟩
          ·rw [if_neg c25] at H
           have c25b0 : decide (x13_3 < (wrap64 (t278))) = false := decide_eq_false c25
           clear c25
           (first | rw [c25b0] | (simp only [i64_w, i32_w]; rw [c25b0]) | skip)
           have H' := Aside0.mk H
           clear H
           go_wp2
           go_meet
           case rel => exact ⟨_, (false), (by first | rfl | (simp; done) | (simp [*]; done)), H', ⟨by have := HK1.out; have := HJ7.out; have := HK3.out; first | omega | exact Nat.le_refl _⟩, ⟨by (with_reducible repeat (first | apply Kd.S_alloc | apply Kd.S_drewN | apply Kd.S_drew)); exact HO_8.out⟩, ⟨by (with_reducible repeat (first | apply Kd.R_alloc | apply Kd.R_drewN | apply Kd.R_drew)); exact HO_275002.out⟩, ⟨by (with_reducible repeat (first | refine blk_drewN ?_ _ | refine blk_drew ?_ | refine blk_alloc ?_ _)); exact BK274.out⟩, ⟨by repeat (first | (with_reducible first | exact HI264.out | apply IsS75.alloc | apply IsS75.drewN | apply IsS75.drew | apply IsS75.set_0 | apply IsS75.set_1 | refine IsS75.far ?_ NB264_274.out _) | exact HI264.out)⟩, ⟨by repeat (first | (with_reducible first | exact HB.out | apply below_alloc | apply pw_below_drewN | apply below_drew1 | refine below_set ?_ (IsS75.ge HI264.out) | refine below_set ?_ GE274.out) | exact HB.out)⟩⟩
         case rest =>
          clear HC24
          try clear c1
          try clear c2
          try clear p2
          try clear c3
          try clear c3b0
          try clear c3b1
          try clear c4
          try clear p6
          try clear c9
          try clear c9b0
          try clear c11
          try clear c13
          try clear c19
          try clear c25
          try clear c25b0
          try clear hcz10_0
          try clear hcz10_1
          try clear hcz20_0
          try clear hcz20_1
          try clear hcz20_2
          try clear hcz22_0
          try clear hcz22_1
          try clear hcz22_2
          try clear hcz26_0
          try clear hcz26_1
          try clear hfz10_0
          try clear hfz10_1
          try clear hfz20_0
          try clear hfz20_1
          try clear hfz20_2
          try clear hfz22_0
          try clear hfz22_1
          try clear hfz22_2
          try clear hfz26_0
          try clear hfz26_1
          try clear p2
          try clear p6
          obtain ⟨kq, x66_23, rfl, HA, HJ23, HO_8, HO_275002, BK274, HI264, HB⟩ := hcut
          cases kq with
          | zero => exact absurd HA.out (by simp [rootcellarref7_Take.j3])
          | succ kj23 =>
           have H := HA.out
           clear HA
           simp only [rootcellarref7_Take.j3] at H
           by_cases c27 : x66_23 = true
           ·subst c27
            have H1 : ((rootcellarref2_Reader_Number.f kj23 x265000_3 x265001_3 2).bind fun bt284 => ((rootcellarref2_Reader_Number.f kj23 bt284.2.1 bt284.2.2 2).bind fun bt287 => (if x275002_3.length < 8796093022208 then (rootcellarref7_Take.l1 kj23 a0 (wrap64 (t265)) x8_1 x9_1 (wrap64 (t278)) (wrap64 (x13_3 + 1)) bt287.2.1 bt287.2.2 t271 (wrap64 (t275)) (x275002_3 ++ [(⟨wrap64 (bt284.1), wrap64 (bt287.1)⟩ : S64)])) else (none)))) = some (r1, r2) := by rw [if_pos rfl] at H; exact H
            clear H
            have H := H1
            clear H1
            replace H := Option.bind_eq_some_iff.mp H
            obtain ⟨⟨t284, t285, t286⟩, A280, H⟩ := H
            replace H : ((rootcellarref2_Reader_Number.f kj23 t285 t286 2).bind fun bt287 => (if x275002_3.length < 8796093022208 then (rootcellarref7_Take.l1 kj23 a0 (wrap64 (t265)) x8_1 x9_1 (wrap64 (t278)) (wrap64 (x13_3 + 1)) bt287.2.1 bt287.2.2 t271 (wrap64 (t275)) (x275002_3 ++ [(⟨wrap64 (t284), wrap64 (bt287.1)⟩ : S64)])) else (none))) = some (r1, r2) := H
            have A28 := Aside0.mk A280
            clear A280
            replace H := Option.bind_eq_some_iff.mp H
            obtain ⟨⟨t287, t288, t289⟩, A290, H⟩ := H
            replace H : (if x275002_3.length < 8796093022208 then (rootcellarref7_Take.l1 kj23 a0 (wrap64 (t265)) x8_1 x9_1 (wrap64 (t278)) (wrap64 (x13_3 + 1)) t288 t289 t271 (wrap64 (t275)) (x275002_3 ++ [(⟨wrap64 (t284), wrap64 (t287)⟩ : S64)])) else (none)) = some (r1, r2) := H
            have A29 := Aside0.mk A290
            clear A290
            by_cases c30 : x275002_3.length < 8796093022208
            ·rw [if_pos c30] at H
             have LMc30 := Aside0.mk c30
             clear c30
             obtain ⟨y290, hy290⟩ : ∃ y_ : List (S64), y_ = (x275002_3 ++ [(⟨wrap64 (t284), wrap64 (t287)⟩ : S64)]) := ⟨_, rfl⟩
             replace H : (rootcellarref7_Take.l1 kj23 a0 (wrap64 (t265)) x8_1 x9_1 (wrap64 (t278)) (wrap64 (x13_3 + 1)) t288 t289 t271 (wrap64 (t275)) y290) = some (r1, r2) := by first | (rw [hy290]; with_reducible exact H) | (have H2_ := (Option.bind_some _ _).symm.trans H; rw [hy290]; with_reducible exact H2_) | (have H2_ := (Option.bind_some _ _).symm.trans H; with_reducible exact H2_) | with_reducible exact H | (rw [hy290]; exact H) | exact H
             have Ny290 := Aside0.mk hy290
             clear hy290
             have H' := Aside0.mk H
             clear H
             try go_wp2_with (first | ((with_reducible refine gate_callee (f := 40) rfl ?_); refine goesL_ (some 70) rfl rfl Tryd.func40 (by kernel_rfl) rfl #[.pointer (some ⟨gb264, 0, none⟩), .int .i64 2] rfl argA ?_; (with_reducible refine (rootcellarref2_Reader_Number.calls kj23 gb264 x265000_3 x265001_3 2 t284 t285 t286 w _ ?side1 ?side2 A28.out).mono ?_); (case side1 => repeat (first | (with_reducible first | exact HI264.out | apply IsS75.alloc | apply IsS75.drewN | apply IsS75.drew | apply IsS75.set_0 | apply IsS75.set_1 | refine IsS75.far ?_ NB264_274.out _) | exact HI264.out)); (case side2 => repeat (first | (with_reducible first | exact HB.out | apply below_alloc | apply pw_below_drewN | apply below_drew1 | refine below_set ?_ (IsS75.ge HI264.out) | refine below_set ?_ GE274.out) | exact HB.out)); rintro e w31 ⟨rfl, hi, hb, hk⟩; refine ⟨_, rfl, ?_⟩; have n0_ := Aside0.mk (Kd.S_mono (Kd.S_keep (IsS75.apartS (show IsS75 w _ gb264 x265000_3 x265001_3 from by repeat (first | (with_reducible first | exact HI264.out | apply IsS75.alloc | apply IsS75.drewN | apply IsS75.drew | apply IsS75.set_0 | apply IsS75.set_1 | refine IsS75.far ?_ NB264_274.out _) | exact HI264.out)) (kdS_ HO_8.out) (by decide)) hk (fun _ h => h.2)) (fun _ h => h.1)); have n1_ := Aside0.mk (Kd.R_mono (Kd.R_keep (IsS75.apart (show IsS75 w _ gb264 x265000_3 x265001_3 from by repeat (first | (with_reducible first | exact HI264.out | apply IsS75.alloc | apply IsS75.drewN | apply IsS75.drew | apply IsS75.set_0 | apply IsS75.set_1 | refine IsS75.far ?_ NB264_274.out _) | exact HI264.out)) (kdR_ HO_275002.out) (by decide)) hk (fun _ h => h.2)) (fun _ h => h.1)); have n2_ := Aside0.mk (KeepBut.blk hk (g' := gb274) (o := .cells #[.string t271, .int .i64 (wrap64 (t275)), u275002] 45 (0, 0)) (blkN BK274.out) NB274_264.out (by simp)); have n3_ := Aside0.mk (hb); have n4_ := Aside0.mk (hi); clear HO_8; clear HO_275002; clear BK274; clear HB; clear HI264; have HO_8 := n0_; have HO_275002 := n1_; have BK274 := n2_; have HB := n3_; have HI264 := n4_; clear n0_ n1_ n2_ n3_ n4_; (try clear hb); (try clear hb2); (try clear hk); (try clear hi)))
             have n0_ := Aside0.mk (Kd.S_drew HO_8.out)
             have n1_ := Aside0.mk (Kd.R_drew HO_275002.out)
             have n2_ := Aside0.mk (blk_drew BK274.out)
             have n3_ := Aside0.mk (IsS75.drew HI264.out)
             have n4_ := Aside0.mk (below_drew1 HB.out)
             clear HO_8
             clear HO_275002
             clear BK274
             clear HI264
             clear HB
             have HO_8 := n0_
             have HO_275002 := n1_
             have BK274 := n2_
             have HI264 := n3_
             have HB := n4_
             clear n0_ n1_ n2_ n3_ n4_
             refine start_ (n := 11) (S := fun w' => w'.cell? ⟨gb274, 0, none⟩ = some (.string t271) ∧ w'.cell? ⟨gb274, 1, none⟩ = some (.int .i64 (wrap64 (t275))) ∧ w'.cell? ⟨gb274, 2, none⟩ = some (u275002)) (ds := [10]) #[Z,Z,Z,Z,Z,Z,Z,Z,Z,Z,Z] (by kernel_rfl) rfl rfl ⟨(blk_cell BK274.out 0).trans rfl, (blk_cell BK274.out 1).trans rfl, (blk_cell BK274.out 2).trans rfl⟩ (fun hHeld => ?_); refine with_tabW rootcellarref7_Take.tab18 rootcellarref7_Take.bits18 (fun HT_ HW_ => ?_)
             generalize w31.drew = w32 at HO_8 HO_275002 BK274 HI264 HB hHeld ⊢
             refine pure_ (i := 0) (N := some 72) (v := ?_) (a' := ?_) #[Y,Z,Z,Z,Z,Z,Z,Z,Z,Z,Z] rfl rfl (any_of HT_.out (by kernel_rfl)) (fun _ _ _ h => h) (Or.inl ⟨by rfl, ?_⟩) ?_ ?_
             rotate_left
             ·intro w'
              go_simp
              with_reducible rfl
             rotate_left
             ·simp only [Act.put, List.setIfInBounds_toArray, List.set_cons_zero, List.set_cons_succ, i64_w, i32_w]
              rfl
             refine pure_ (i := 2) (N := some 74) (v := ?_) (a' := ?_) #[Y,Z,Y,Z,Z,Z,Z,Z,Z,Z,Z] rfl rfl (any_of HT_.out (by kernel_rfl)) (fun _ _ _ h => h) (Or.inl ⟨by rfl, ?_⟩) ?_ ?_
             rotate_left
             ·intro w'
              go_simp
              with_reducible rfl
             rotate_left
             ·simp only [Act.put, List.setIfInBounds_toArray, List.set_cons_zero, List.set_cons_succ, i64_w, i32_w]
              rfl
             refine pure_ (i := 3) (N := some 75) (v := ?_) (a' := ?_) #[Y,Z,Y,Y,Z,Z,Z,Z,Z,Z,Z] rfl rfl (any_of HT_.out (by kernel_rfl)) (fun _ _ _ h => h) (Or.inl ⟨by rfl, ?_⟩) ?_ ?_
             rotate_left
             ·intro w'
              go_simp
              with_reducible rfl
             rotate_left
             ·simp only [Act.put, List.setIfInBounds_toArray, List.set_cons_zero, List.set_cons_succ, i64_w, i32_w]
              rfl
             refine take_ (i := 1) (N := some 73) (v := ?_) (a' := ?_) #[Y,Y,Y,Y,Z,Z,Z,Z,Z,Z,Z] rfl rfl (take_ofW HT_.out HW_.out (by kernel_rfl)) (fun _ _ _ h => h) (Or.inl ⟨by rfl, ?_⟩) hHeld ?_ ?_
             rotate_left
             ·rintro w' ⟨s0, s1, s2⟩
              go_simp
              with_reducible rfl
             rotate_left
             ·simp only [Act.put, List.setIfInBounds_toArray, List.set_cons_zero, List.set_cons_succ, i64_w, i32_w]
              rfl
             refine one_ (i := 4) (N := some 76) #[Y,Y,Y,Y,Y,Z,Z,Z,Z,Z,Z] rfl rfl (one_of HT_.out (by kernel_rfl)) (by decide) (fun K hK => ?_)
             refine goes_ Tryd.func40 (by kernel_rfl) rfl #[.pointer (some ⟨gb264, 0, none⟩), .int .i64 2] (by rfl) rfl rfl argA ?_
             with_reducible refine (rootcellarref2_Reader_Number.calls kj23 gb264 t285 t286 2 t287 t288 t289 w _ ?side1 ?side2 A29.out).mono ?_
             (case side1 => repeat (first | (with_reducible first | exact HI264.out | apply IsS75.alloc | apply IsS75.drewN | apply IsS75.drew | apply IsS75.set_0 | apply IsS75.set_1 | refine IsS75.far ?_ NB264_274.out _) | exact HI264.out))
             (case side2 => repeat (first | (with_reducible first | exact HB.out | apply below_alloc | apply pw_below_drewN | apply below_drew1 | refine below_set ?_ (IsS75.ge HI264.out) | refine below_set ?_ GE274.out) | exact HB.out))
             rintro e w33 ⟨rfl, hi, hb, hk⟩
             refine ⟨_, rfl, ?_⟩
             have n0_ := Aside0.mk (Kd.S_mono (Kd.S_keep (IsS75.apartS (show IsS75 w _ gb264 t285 t286 from by repeat (first | (with_reducible first | exact HI264.out | apply IsS75.alloc | apply IsS75.drewN | apply IsS75.drew | apply IsS75.set_0 | apply IsS75.set_1 | refine IsS75.far ?_ NB264_274.out _) | exact HI264.out)) (kdS_ HO_8.out) (by decide)) hk (fun _ h => h.2)) (fun _ h => h.1))
             have n1_ := Aside0.mk (Kd.R_mono (Kd.R_keep (IsS75.apart (show IsS75 w _ gb264 t285 t286 from by repeat (first | (with_reducible first | exact HI264.out | apply IsS75.alloc | apply IsS75.drewN | apply IsS75.drew | apply IsS75.set_0 | apply IsS75.set_1 | refine IsS75.far ?_ NB264_274.out _) | exact HI264.out)) (kdR_ HO_275002.out) (by decide)) hk (fun _ h => h.2)) (fun _ h => h.1))
             have n2_ := Aside0.mk (KeepBut.blk hk (g' := gb274) (o := .cells #[.string t271, .int .i64 (wrap64 (t275)), u275002] 45 (0, 0)) (blkN BK274.out) NB274_264.out (by simp))
             have n3_ := Aside0.mk (hb)
             have n4_ := Aside0.mk (hi)
             clear HO_8
             clear HO_275002
             clear BK274
             clear HB
             clear HI264
             have HO_8 := n0_
             have HO_275002 := n1_
             have BK274 := n2_
             have HB := n3_
             have HI264 := n4_
             clear n0_ n1_ n2_ n3_ n4_
             (try clear hb)
             (try clear hb2)
             (try clear hk)
             (try clear hi)
             refine hK.out _ _ ⟨(blk_cell BK274.out 0).trans rfl, (blk_cell BK274.out 1).trans rfl, (blk_cell BK274.out 2).trans rfl⟩ (fun hHeld => ?_)
             clear hK K
             refine norm_ (a' := ?_) ?_ ?_
             rotate_left
             ·show Act.put _ (some 76) _ = _
              simp only [Act.put, List.setIfInBounds_toArray, List.set_cons_zero, List.set_cons_succ, i64_w, i32_w]
              rfl
             refine pure_ (i := 5) (N := some 77) (v := ?_) (a' := ?_) #[Y,Y,Y,Y,Y,Y,Z,Z,Z,Z,Z] rfl rfl (any_of HT_.out (by kernel_rfl)) (fun _ _ _ h => h) (Or.inl ⟨by rfl, ?_⟩) ?_ ?_
             rotate_left
             ·intro w'
              go_simp
              with_reducible rfl
             rotate_left
             ·simp only [Act.put, List.setIfInBounds_toArray, List.set_cons_zero, List.set_cons_succ, i64_w, i32_w]
              rfl
             refine pure_ (i := 6) (N := some 78) (v := ?_) (a' := ?_) #[Y,Y,Y,Y,Y,Y,Y,Z,Z,Z,Z] rfl rfl (any_of HT_.out (by kernel_rfl)) (fun _ _ _ h => h) (Or.inl ⟨by rfl, ?_⟩) ?_ ?_
             rotate_left
             ·intro w'
              go_simp
              with_reducible rfl
             rotate_left
             ·simp only [Act.put, List.setIfInBounds_toArray, List.set_cons_zero, List.set_cons_succ, i64_w, i32_w]
              rfl
             refine one_ (i := 7) (N := some 79) #[Y,Y,Y,Y,Y,Y,Y,Y,Z,Z,Z] rfl rfl (one_of HT_.out (by kernel_rfl)) (by decide) (fun K hK => ?_)
             refine value_ (w1 := ?_) (v := ?_) (by rfl) rfl ?_ ?_
             rotate_left 2
             ·go_simp
              constructor
              ·rfl
              ·rfl
             refine hK.out _ _ ⟨(blk_cell (blk_alloc BK274.out _) 0).trans rfl, (blk_cell (blk_alloc BK274.out _) 1).trans rfl, (blk_cell (blk_alloc BK274.out _) 2).trans rfl⟩ (fun hHeld => ?_)
             clear hK K
             refine norm_ (a' := ?_) ?_ ?_
             rotate_left
             ·show Act.put _ (some 79) _ = _
              simp only [Act.put, List.setIfInBounds_toArray, List.set_cons_zero, List.set_cons_succ, i64_w, i32_w]
              rfl
             refine one_ (i := 8) (N := some 80) #[Y,Y,Y,Y,Y,Y,Y,Y,Y,Z,Z] rfl rfl (one_of HT_.out (by kernel_rfl)) (by decide) (fun K hK => ?_)
             refine Kd.R_append_step k64 (w0 := w) w.heap.size (by rfl) (.tmp 73) (.tmp 79) 41 64 (.agg #[(.int .i64 0), (.int .i64 0)]) 16 rfl Tryd.underlying41 info64 rfl (by decide) (by omega) u275002 x275002_3 (⟨wrap64 (t284), wrap64 (t287)⟩ : S64) [.int .i64 (wrap64 (t284)), .int .i64 (wrap64 (t287))] (fun _ => True) (fun _ => False) rfl rfl ?aP (fun _ hk => hk.elim) ?aF ?aO ?aB ?aS ?aL ?_
             (case aP => exact k64_mkM _ _ _ (⟨wrap64 (t284), wrap64 (t287)⟩ : S64))
             (case aB => exact (by repeat (first | (with_reducible first | exact HB.out | apply below_alloc | apply pw_below_drewN | apply below_drew1 | refine below_set ?_ (IsS75.ge HI264.out) | refine below_set ?_ GE274.out) | exact HB.out)))
             (case aF => exact (fun _ _ => trivial))
             (case aO => exact (kdR_ HO_275002.out))
             (case aS => exact (below_size (by repeat (first | (with_reducible first | exact HB.out | apply below_alloc | apply pw_below_drewN | apply below_drew1 | refine below_set ?_ (IsS75.ge HI264.out) | refine below_set ?_ GE274.out) | exact HB.out))))
             (case aL => have := LMc30.out; omega)
             intro v291 w34 ho hb hg hat
             rw [← Ny290.out] at ho
             have n0_ := Aside0.mk (Kd.S_after (ok := (fun k_ => k_ ≠ gb274)) (by (with_reducible repeat (first | apply Kd.S_alloc | apply Kd.S_drewN | apply Kd.S_drew)); exact Kd.S_mono HO_8.out (fun _ hk => ⟨hk.2, hk.1⟩)) hg hat)
             have n1_ := Aside0.mk (blk_grown (g := gb274) (o := .cells #[.string t271, .int .i64 (wrap64 (t275)), u275002] 45 (0, 0)) (blkN BK274.out) hg (Kd.R_ne HO_275002.out BK274.out (by decide)))
             have n2_ := Aside0.mk (IsS75.grown (show IsS75 w _ gb264 t288 t289 from by repeat (first | (with_reducible first | exact HI264.out | apply IsS75.alloc | apply IsS75.drewN | apply IsS75.drew | apply IsS75.set_0 | apply IsS75.set_1 | refine IsS75.far ?_ NB264_274.out _) | exact HI264.out)) hg (IsS75.own_ne HI264.out HO_275002.out (by decide)))
             have n3_ := Aside0.mk (hb)
             have n4_ := Aside0.mk (ho)
             clear HO_8
             clear BK274
             clear HI264
             clear HB
             clear HO_275002
             have HO_8 := n0_
             have BK274 := n1_
             have HI264 := n2_
             have HB := n3_
             have HO292 := n4_
             clear n0_ n1_ n2_ n3_ n4_
             clear ho hb hg hat
             obtain ⟨Ao35, co35, eo35⟩ := Kd.R_slice HO292.out
             (first | subst eo35 | (injection eo35 with f1_ f2_ f3_; have f4_ := f1_.symm; have f5_ := f3_.symm; clear f1_ f2_ f3_; subst f4_; subst f5_))
             refine hK.out _ _ ⟨(blk_cell BK274.out 0).trans rfl, (blk_cell BK274.out 1).trans rfl, (blk_cell BK274.out 2).trans rfl⟩ (fun hHeld => ?_)
             clear hK K
             refine norm_ (a' := ?_) ?_ ?_
             rotate_left
             ·show Act.put _ (some 80) _ = _
              simp only [Act.put, List.setIfInBounds_toArray, List.set_cons_zero, List.set_cons_succ, i64_w, i32_w]
              rfl
             refine pure_ (i := 9) (N := some 81) (v := ?_) (a' := ?_) #[Y,Y,Y,Y,Y,Y,Y,Y,Y,Y,Z] rfl rfl (any_of HT_.out (by kernel_rfl)) (fun _ _ _ h => h) (Or.inl ⟨by rfl, ?_⟩) ?_ ?_
             rotate_left
             ·intro w'
              go_simp
              with_reducible rfl
             rotate_left
             ·simp only [Act.put, List.setIfInBounds_toArray, List.set_cons_zero, List.set_cons_succ, i64_w, i32_w]
              rfl
             refine last_ (i := 10) (N := none) #[Y,Y,Y,Y,Y,Y,Y,Y,Y,Y,Y] rfl rfl (one_of HT_.out (by kernel_rfl)) (by decide) (fun K hK => ?_)
             have hs36 : w34.cell? ⟨gb274, 2, none⟩ = some (u275002) := (blk_cell BK274.out 2).trans rfl
             have hfs36 := blk_frozen BK274.out 2
             refine skip_ (w1 := ?_) (by rfl) rfl ?_ ?_
             rotate_left
             ·go_simp
              rfl
             refine hK.out _ _ ?_
             clear hK K
             refine done_ (done_of HT_.out (by kernel_rfl)) ?_
             try go_wp2
             go_roundg kj23
             case measure => have := HK1.out; have := HJ7.out; have := HK3.out; have := HJ23.out; omega
             case rel => exact ⟨(wrap64 (x13_3 + 1)), (t288), (t289), (y290), (.slice Ao35 y290.length co35), (by first | rfl | (simp; done) | (simp [*]; done)), H', ⟨by have := HK1.out; have := HJ7.out; have := HK3.out; have := HJ23.out; omega⟩, ⟨by (with_reducible repeat (first | apply Kd.S_alloc | apply Kd.S_drewN | apply Kd.S_drew)); exact Kd.S_mono (Kd.S_far (p := ⟨gb274, 2, none⟩) (Kd.S_mono HO_8.out (fun k_ hk => (⟨hk, hk.1⟩ : _ ∧ k_ ≠ gb274))) (fun _ hk => hk.2) (.slice Ao35 y290.length co35)) (fun _ hk => ⟨hk.1.2, hk.1.1⟩)⟩, ⟨by (with_reducible repeat (first | apply Kd.R_alloc | apply Kd.R_drewN | apply Kd.R_drew)); exact Kd.R_mono (Kd.R_far (p := ⟨gb274, 2, none⟩) (Kd.R_types HO292.out BK274.out (by decide)) (fun _ hk => hk.2) (.slice Ao35 y290.length co35)) (fun _ hk => trivial)⟩, ⟨by (with_reducible repeat (first | refine blk_drewN ?_ _ | refine blk_drew ?_ | refine blk_alloc ?_ _)); refine blk_put (cs := #[.string t271, .int .i64 (wrap64 (t275)), u275002]) ?_ 2 _ rfl; (with_reducible repeat (first | refine blk_drewN ?_ _ | refine blk_drew ?_ | refine blk_alloc ?_ _)); exact BK274.out⟩, ⟨by repeat (first | (with_reducible first | exact HI264.out | apply IsS75.alloc | apply IsS75.drewN | apply IsS75.drew | apply IsS75.set_0 | apply IsS75.set_1 | refine IsS75.far ?_ NB264_274.out _) | exact HI264.out)⟩, ⟨by repeat (first | (with_reducible first | exact HB.out | apply below_alloc | apply pw_below_drewN | apply below_drew1 | refine below_set ?_ (IsS75.ge HI264.out) | refine below_set ?_ GE274.out) | exact HB.out)⟩⟩
            ·rw [if_neg c30] at H
             exact absurd H (by simp)
           ·replace c27 := Bool.eq_false_iff.mpr c27
            subst c27
            have H1 : (if x8_1.length < 2932031007402 then (rootcellarref7_Take.l0 kj23 a0 (wrap64 (t265)) (x8_1 ++ [(⟨t271, (wrap64 (t275)), x275002_3⟩ : S45)]) (wrap64 (x9_1 + 1)) x265000_3 x265001_3) else (none)) = some (r1, r2) := by rw [if_neg (show ¬ (false = true) by decide)] at H; exact H
            clear H
            have H := H1
            clear H1
            by_cases c37 : x8_1.length < 2932031007402
            ·rw [if_pos c37] at H
             have LMc37 := Aside0.mk c37
             clear c37
             obtain ⟨y281, hy281⟩ : ∃ y_ : List (S45), y_ = (x8_1 ++ [(⟨t271, (wrap64 (t275)), x275002_3⟩ : S45)]) := ⟨_, rfl⟩
             replace H : (rootcellarref7_Take.l0 kj23 a0 (wrap64 (t265)) y281 (wrap64 (x9_1 + 1)) x265000_3 x265001_3) = some (r1, r2) := by first | (rw [hy281]; with_reducible exact H) | (have H2_ := (Option.bind_some _ _).symm.trans H; rw [hy281]; with_reducible exact H2_) | (have H2_ := (Option.bind_some _ _).symm.trans H; with_reducible exact H2_) | with_reducible exact H | (rw [hy281]; exact H) | exact H
             have Ny281 := Aside0.mk hy281
             clear hy281
             have H' := Aside0.mk H
             clear H
             have hnb38 := NB274_264.out
             have hnc38 := NB264_274.out
             have hcz39_0 : wc.cell? ⟨gb274, 0, none⟩ = some (.string t271) := (blk_cell BK274.out 0).trans rfl
             have hcz39_1 : wc.cell? ⟨gb274, 1, none⟩ = some (.int .i64 (wrap64 (t275))) := (blk_cell BK274.out 1).trans rfl
             have hcz39_2 : wc.cell? ⟨gb274, 2, none⟩ = some (u275002) := (blk_cell BK274.out 2).trans rfl
             have hfz39_0 := blk_frozen BK274.out 0
             have hfz39_1 := blk_frozen BK274.out 1
             have hfz39_2 := blk_frozen BK274.out 2
             obtain ⟨Ao41, co41, eo41⟩ := Kd.R_slice HO_275002.out
             subst eo41
             go_wp2_with (first | ((with_reducible refine gate_builtin (b := .append) (xs := #[.tmp 82, .tmp 84]) rfl ?_); at_builtin; refine Kd.S_append k45 (w0 := w) w.heap.size rfl (.tmp 82) (.tmp 84) 28 45 (.agg #[(.string ⟨#[]⟩), (.int .i64 0), (.slice none 0 0)]) 48 rfl Tryd.underlying28 info45 rfl (by decide) (by omega) u8 x8_1 (⟨t271, (wrap64 (t275)), x275002_3⟩ : S45) [.string t271, .int .i64 (wrap64 (t275)), .slice Ao41 x275002_3.length co41] (fun k_ => k_ ≠ gb274) (fun k_ => some k_ = (.slice Ao41 x275002_3.length co41 : Value).ownBlock) rfl rfl ?aP (fun k_ hk_ => ((Kd.R_mono (ok' := fun k_ => ((fun k_ => k_ ≠ gb274)) k_ ∧ some k_ ≠ (u8 : Value).ownBlock) (Kd.R_types (Kd.R_apart' (HO_275002.out) (Kd.S_typed HO_8.out) (by decide)) BK274.out (by decide)) (fun k_ hk => ⟨hk.2, hk.1.2⟩))).1 k_ hk_.symm) ?aF ?aO ?aB ?aS ?aL ?_; (case aP => exact k45_mkM _ _ _ (⟨t271, (wrap64 (t275)), x275002_3⟩ : S45) (Kd.R_mono (Kd.R_tight rfl (Kd.R_mono (ok' := fun k_ => ((fun k_ => k_ ≠ gb274)) k_ ∧ some k_ ≠ (u8 : Value).ownBlock) (Kd.R_types (Kd.R_apart' (HO_275002.out) (Kd.S_typed HO_8.out) (by decide)) BK274.out (by decide)) (fun k_ hk => ⟨hk.2, hk.1.2⟩))) (fun _ h_ => h_))); (case aB => exact (by repeat (first | (with_reducible first | exact HB.out | apply below_alloc | apply pw_below_drewN | apply below_drew1 | refine below_set ?_ (IsS75.ge HI264.out) | refine below_set ?_ GE274.out) | exact HB.out))); (case aF => exact (fun k_ hk => Kd.freshB (g := gb274) (o := .cells #[.string t271, .int .i64 (wrap64 (t275)), .slice Ao41 x275002_3.length co41] 45 (0, 0)) (blkN BK274.out) k_ hk)); (case aO => exact (by (with_reducible repeat (first | apply Kd.S_alloc | apply Kd.S_drewN | apply Kd.S_drew)); exact Kd.S_mono HO_8.out (fun k_ hk => ⟨hk.2, fun e_ => hk.1 e_⟩))); (case aS => exact (below_size (by repeat (first | (with_reducible first | exact HB.out | apply below_alloc | apply pw_below_drewN | apply below_drew1 | refine below_set ?_ (IsS75.ge HI264.out) | refine below_set ?_ GE274.out) | exact HB.out)))); (case aL => have := LMc37.out; omega); intro v282 w40 ho hb hg hat; rw [← Ny281.out] at ho; have n0_ := Aside0.mk (blk_grown (g := gb274) (o := .cells #[.string t271, .int .i64 (wrap64 (t275)), .slice Ao41 x275002_3.length co41] 45 (0, 0)) (blkN BK274.out) hg (Kd.S_away HO_8.out (fun _ hk => hk.2))); have n1_ := Aside0.mk (IsS75.grown (show IsS75 w _ gb264 x265000_3 x265001_3 from by repeat (first | (with_reducible first | exact HI264.out | apply IsS75.alloc | apply IsS75.drewN | apply IsS75.drew | apply IsS75.set_0 | apply IsS75.set_1 | refine IsS75.far ?_ NB264_274.out _) | exact HI264.out)) hg (IsS75.own_neS HI264.out HO_8.out (by decide))); have n2_ := Aside0.mk (hb); have n3_ := Aside0.mk (ho); clear BK274; clear HI264; clear HB; clear HO_8; clear HO_275002; have BK274 := n0_; have HI264 := n1_; have HB := n2_; have HO283 := n3_; clear n0_ n1_ n2_ n3_; clear ho hb hg hat))
             go_roundg kj23
             case measure => have := HK1.out; have := HJ7.out; have := HK3.out; have := HJ23.out; omega
             case rel => exact ⟨(y281), (wrap64 (x9_1 + 1)), (x265000_3), (x265001_3), (by first | rfl | (simp; done) | (simp [*]; done)), H', ⟨by have := HK1.out; have := HJ7.out; have := HK3.out; have := HJ23.out; omega⟩, ⟨by (with_reducible repeat (first | apply Kd.S_alloc | apply Kd.S_drewN | apply Kd.S_drew)); exact Kd.S_mono HO283.out (fun _ hk => trivial)⟩, ⟨by repeat (first | (with_reducible first | exact HI264.out | apply IsS75.alloc | apply IsS75.drewN | apply IsS75.drew | apply IsS75.set_0 | apply IsS75.set_1 | refine IsS75.far ?_ NB264_274.out _) | exact HI264.out)⟩, ⟨by repeat (first | (with_reducible first | exact HB.out | apply below_alloc | apply pw_below_drewN | apply below_drew1 | refine below_set ?_ (IsS75.ge HI264.out) | refine below_set ?_ GE274.out) | exact HB.out)⟩⟩
            ·rw [if_neg c37] at H
             exact absurd H (by simp)
      ·replace c11 := Bool.eq_false_iff.mpr c11
       subst c11
       have H1 : ((rootcellarref7_Put.f kj7 x8_1).bind fun bt293 => (if x265001_1 = true then (rootcellarref7_Take.j4 kj7 x8_1 true) else (if bt293.2 = 0 then (rootcellarref7_Take.j4 kj7 x8_1 (bt293.1.toList != a0.toList)) else (rootcellarref7_Take.j4 kj7 x8_1 true)))) = some (r1, r2) := by rw [if_neg (show ¬ (false = true) by decide)] at H; exact H
       clear H
       have H := H1
       clear H1
       replace H := Option.bind_eq_some_iff.mp H
       obtain ⟨⟨t293, t294⟩, A420, H⟩ := H
       replace H : (if x265001_1 = true then (rootcellarref7_Take.j4 kj7 x8_1 true) else (if t294 = 0 then (rootcellarref7_Take.j4 kj7 x8_1 (t293.toList != a0.toList)) else (rootcellarref7_Take.j4 kj7 x8_1 true))) = some (r1, r2) := H
       have A42 := Aside0.mk A420
       clear A420
       have HC43 := Aside0.mk H
       clear H
       obtain ⟨Ao44, co44, eo44⟩ := Kd.S_slice HO_8.out
       subst eo44
       go_upto_region 21 with (first | ((with_reducible refine gate_callee (f := 27) rfl ?_); refine goesL_ (some 88) rfl rfl Tryd.func27 (by kernel_rfl) rfl #[.slice Ao44 x8_1.length co44] rfl argA ?_; (with_reducible refine (rootcellarref7_Put.calls kj7 _ _ x8_1 t293 t294 _ ?side1 ?side2 A42.out).mono ?_); (case side1 => repeat (first | exact (Kd.S_reads' HO_8.out).2.2 | (with_reducible refine Kd.C_alloc ?_ _) | (with_reducible refine Kd.C_drewN ?_ _) | (with_reducible refine Kd.C_drew ?_))); (case side2 => exact (Kd.S_reads' HO_8.out).2.1); rintro e w45 ⟨rfl, hb⟩; refine ⟨_, rfl, ?_⟩; have n0_ := Aside0.mk (Kd.S_below (kdS_ HO_8.out) hb); have n1_ := Aside0.mk (IsS75.below (by repeat (first | (with_reducible first | exact HI264.out | apply IsS75.alloc | apply IsS75.drewN | apply IsS75.drew | apply IsS75.set_0 | apply IsS75.set_1) | exact HI264.out)) hb); have n2_ := Aside0.mk (below_step (by repeat (first | (with_reducible first | exact HB.out | apply below_alloc | apply pw_below_drewN | apply below_drew1 | refine below_set ?_ (IsS75.ge HI264.out)) | exact HB.out)) hb); clear HO_8; clear HI264; clear HB; have HO_8 := n0_; have HI264 := n1_; have HB := n2_; clear n0_ n1_ n2_; (try clear hb); (try clear hb2); (try clear hk); (try clear hi)))
       (try simp only [Act.put, List.setIfInBounds_toArray, List.set_cons_zero, List.set_cons_succ])
       go_cut [103] (fun v103 wc => ∃ (kq : Nat) (x103_42 : Bool), v103 = .bool x103_42 ∧ Aside0 (rootcellarref7_Take.j4 kq x8_1 x103_42 = some (r1, r2)) ∧ Aside0 (kq ≤ kj7) ∧ Aside0 (Kd.S k45 45 wc w.heap.size (fun _ => True) (.slice Ao44 x8_1.length co44) x8_1) ∧ Aside0 (Below w.heap.size w wc))
       case first =>
        have H := HC43.out
        clear HC43
        by_cases c46 : x265001_1 = true
        ·subst c46
         have H1 : (rootcellarref7_Take.j4 kj7 x8_1 true) = some (r1, r2) := by rw [if_pos rfl] at H; exact H
         clear H
         have H := H1
         clear H1
         have H' := Aside0.mk H
         clear H
         obtain ⟨HGz47, hgz47⟩ := HI264.out
         have hcz47_0 := cellS75_0 HGz47
         have hcz47_1 := cellS75_1 HGz47
         have hfz47_0 := blk_frozen HGz47 0
         have hfz47_1 := blk_frozen HGz47 1
         clear HGz47 hgz47
         go_wp2
         go_meet
         case rel => exact ⟨_, (true), (by first | rfl | (simp; done) | (simp [*]; done)), H', ⟨by have := HK1.out; have := HJ7.out; first | omega | exact Nat.le_refl _⟩, ⟨by (with_reducible repeat (first | apply Kd.S_alloc | apply Kd.S_drewN | apply Kd.S_drew)); exact HO_8.out⟩, ⟨by repeat (first | (with_reducible first | exact HB.out | apply below_alloc | apply pw_below_drewN | apply below_drew1 | refine below_set ?_ (IsS75.ge HI264.out)) | exact HB.out)⟩⟩
        ·replace c46 := Bool.eq_false_iff.mpr c46
         subst c46
         have H1 : (if t294 = 0 then (rootcellarref7_Take.j4 kj7 x8_1 (t293.toList != a0.toList)) else (rootcellarref7_Take.j4 kj7 x8_1 true)) = some (r1, r2) := by rw [if_neg (show ¬ (false = true) by decide)] at H; exact H
         clear H
         have H := H1
         clear H1
         by_cases c48 : t294 = 0
         ·rw [if_pos c48] at H
          have c48b0 : (t294 == 0) = true := beq_iff_eq.mpr c48
          have c48b1 : (t294 != 0) = false := bne_eq_false_iff_eq.mpr c48
          clear c48
          (first | rw [c48b0] | (simp only [i64_w, i32_w]; rw [c48b0]) | skip)
          have H' := Aside0.mk H
          clear H
          obtain ⟨HGz49, hgz49⟩ := HI264.out
          have hcz49_0 := cellS75_0 HGz49
          have hcz49_1 := cellS75_1 HGz49
          have hfz49_0 := blk_frozen HGz49 0
          have hfz49_1 := blk_frozen HGz49 1
          clear HGz49 hgz49
          go_wp2
          go_meet
          case rel => exact ⟨_, ((t293.toList != a0.toList)), (by first | rfl | (simp; done) | (simp [*]; done)), H', ⟨by have := HK1.out; have := HJ7.out; first | omega | exact Nat.le_refl _⟩, ⟨by (with_reducible repeat (first | apply Kd.S_alloc | apply Kd.S_drewN | apply Kd.S_drew)); exact HO_8.out⟩, ⟨by repeat (first | (with_reducible first | exact HB.out | apply below_alloc | apply pw_below_drewN | apply below_drew1 | refine below_set ?_ (IsS75.ge HI264.out)) | exact HB.out)⟩⟩
         ·rw [if_neg c48] at H
          have c48b0 : (t294 == 0) = false := beq_eq_false_iff_ne.mpr c48
          have c48b1 : (t294 != 0) = true := bne_iff_ne.mpr c48
          (first | rw [c48b0] | (simp only [i64_w, i32_w]; rw [c48b0]) | skip)
          have H' := Aside0.mk H
          clear H
          obtain ⟨HGz50, hgz50⟩ := HI264.out
          have hcz50_0 := cellS75_0 HGz50
          have hcz50_1 := cellS75_1 HGz50
          have hfz50_0 := blk_frozen HGz50 0
          have hfz50_1 := blk_frozen HGz50 1
          clear HGz50 hgz50
          go_wp2
          go_meet
          case rel => exact ⟨_, (true), (by first | rfl | (simp; done) | (simp [*]; done)), H', ⟨by have := HK1.out; have := HJ7.out; first | omega | exact Nat.le_refl _⟩, ⟨by (with_reducible repeat (first | apply Kd.S_alloc | apply Kd.S_drewN | apply Kd.S_drew)); exact HO_8.out⟩, ⟨by repeat (first | (with_reducible first | exact HB.out | apply below_alloc | apply pw_below_drewN | apply below_drew1 | refine below_set ?_ (IsS75.ge HI264.out)) | exact HB.out)⟩⟩
       case rest =>
        clear HC43
        try clear c1
        try clear c2
        try clear p2
        try clear c3
        try clear c3b0
        try clear c3b1
        try clear c4
        try clear p6
        try clear c9
        try clear c9b0
        try clear c11
        try clear c13
        try clear c19
        try clear c25
        try clear c25b0
        try clear c27
        try clear c30
        try clear c37
        try clear c38
        try clear c39
        try clear c40
        try clear c41
        try clear c46
        try clear c48
        try clear c48b0
        try clear c48b1
        try clear hcz10_0
        try clear hcz10_1
        try clear hcz20_0
        try clear hcz20_1
        try clear hcz20_2
        try clear hcz22_0
        try clear hcz22_1
        try clear hcz22_2
        try clear hcz26_0
        try clear hcz26_1
        try clear hcz39_0
        try clear hcz39_1
        try clear hcz39_2
        try clear hcz47_0
        try clear hcz47_1
        try clear hcz49_0
        try clear hcz49_1
        try clear hcz50_0
        try clear hcz50_1
        try clear hfz10_0
        try clear hfz10_1
        try clear hfz20_0
        try clear hfz20_1
        try clear hfz20_2
        try clear hfz22_0
        try clear hfz22_1
        try clear hfz22_2
        try clear hfz26_0
        try clear hfz26_1
        try clear hfz39_0
        try clear hfz39_1
        try clear hfz39_2
        try clear hfz47_0
        try clear hfz47_1
        try clear hfz49_0
        try clear hfz49_1
        try clear hfz50_0
        try clear hfz50_1
        try clear p2
        try clear p6
        obtain ⟨kq, x103_42, rfl, HA, HJ42, HO_8, HB⟩ := hcut
        cases kq with
        | zero => exact absurd HA.out (by simp [rootcellarref7_Take.j4])
        | succ kj42 =>
         have H := HA.out
         clear HA
         simp only [rootcellarref7_Take.j4] at H
         by_cases c51 : x103_42 = true
         ·subst c51
          have H1 : (some (([] : List (S45)), 2)) = some (r1, r2) := by rw [if_pos rfl] at H; exact H
          clear H
          have H := H1
          clear H1
          simp only [Option.some.injEq, Prod.mk.injEq] at H
          obtain ⟨rfl, rfl⟩ := H
          go_wp2
          go_ret2
          exact ⟨_, by first | rfl | (simp [errW_none, errW_some] <;> rfl) | (simp [*, errW_none, errW_some] <;> rfl), by first | exact Kd.S_nil _ _ _ _ _ | exact Kd.N_nil _ _ _ _ _ | exact Kd.V_nil _ _ _ _ _ | exact Kd.Q_nil _ _ _ _ _ | exact Kd.R_nil _ _ _ _ _, by repeat (first | (with_reducible first | exact HB.out | apply below_alloc | apply pw_below_drewN | apply below_drew1) | exact HB.out)⟩
         ·replace c51 := Bool.eq_false_iff.mpr c51
          subst c51
          have H1 : (some (x8_1, 0)) = some (r1, r2) := by rw [if_neg (show ¬ (false = true) by decide)] at H; exact H
          clear H
          have H := H1
          clear H1
          simp only [Option.some.injEq, Prod.mk.injEq] at H
          obtain ⟨rfl, rfl⟩ := H
          go_wp2
          go_ret2
          exact ⟨_, by first | rfl | (simp [errW_none, errW_some] <;> rfl) | (simp [*, errW_none, errW_some] <;> rfl), by (with_reducible repeat (first | apply Kd.S_alloc | apply Kd.S_drewN | apply Kd.S_drew)); exact HO_8.out, by repeat (first | (with_reducible first | exact HB.out | apply below_alloc | apply pw_below_drewN | apply below_drew1) | exact HB.out)⟩
 ·rw [if_neg c3] at H
  have c3b0 : (t263 == 0) = false := beq_eq_false_iff_ne.mpr c3
  have c3b1 : (t263 != 0) = true := bne_iff_ne.mpr c3
  simp only [Option.some.injEq, Prod.mk.injEq] at H
  obtain ⟨rfl, rfl⟩ := H
  go_enter Tryd.func13, Tryd.ntmps13
  go_wp2_with (first | ((with_reducible refine gate_callee (f := 39) rfl ?_); refine goesL_ (some 19) rfl rfl Tryd.func39 (by kernel_rfl) rfl #[.string a0] rfl argA ?_; (with_reducible refine (rootcellarref3_Take.calls k a0 t262 t263 _ A2.out).mono ?_); rintro e w52 ⟨rfl, hb⟩; refine ⟨_, rfl, ?_⟩; have n0_ := Aside0.mk (below_step belA hb); clear HB; have HB := n0_; clear n0_; (try clear hb); (try clear hb2); (try clear hk); (try clear hi)))
  go_ret2
  exact ⟨_, by first | rfl | (simp [errW_none, errW_some] <;> rfl) | (simp [*, errW_none, errW_some] <;> rfl), by first | exact Kd.S_nil _ _ _ _ _ | exact Kd.N_nil _ _ _ _ _ | exact Kd.V_nil _ _ _ _ _ | exact Kd.Q_nil _ _ _ _ _ | exact Kd.R_nil _ _ _ _ _, by repeat (first | (with_reducible first | exact HB.out | apply below_alloc | apply pw_below_drewN | apply below_drew1) | exact HB.out)⟩
end Go.Proofs.YtppbcankhkgpfaaDoor.PDir
