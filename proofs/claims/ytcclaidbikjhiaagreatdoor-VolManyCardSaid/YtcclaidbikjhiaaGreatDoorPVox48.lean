-- laid by gprint.py (this session's own program) out of the translation: Lean checks it
import Derived.Test.YtcclaidbikjhiaaGreatDoorPVox0
import Derived.Test.YtcclaidbikjhiaaGreatDoorPVox9
import Derived.Test.YtcclaidbikjhiaaGreatDoorPVox16
import Derived.Test.YtcclaidbikjhiaaGreatDoorPVox47
--compressed
namespace Go.Proofs.YtcclaidbikjhiaaGreatDoor.PVo
open Go.RowKit Go.Proofs.YtcclaidbikjhiaaGreatDoorW.PrintWords Go.Proofs.YtcclaidbikjhiaaGreatDoorW.PrintLast Go.Proofs.YtcclaidbikjhiaaGreatDoorW.PrintMore
attribute [local go_sem] max2_int min2_int max_two min_two max_three min_three max_four min_four   -- for this text's walks alone
attribute [local go_sem high] hw_str_leq hw_str_gtr
set_option linter.unusedVariables false
set_option linter.unusedSimpArgs false
-- NOT PRINTED: function 200 (strings_makeASCIISet)
-- NOT PRINTED: function 214 (strings_asciiSet_contains)
-- NOT PRINTED: function 201 (strings_trimLeftASCII)
-- NOT PRINTED: function 202 (strings_trimRightASCII)
-- NOT PRINTED: function 229 (utf8_decodeRuneInStringSlow)
-- NOT PRINTED: function 215 (utf8_DecodeRuneInString)
-- NOT PRINTED: function 243 (bytealg_IndexByteString)
-- NOT PRINTED: function 242 (stringslite_IndexByte)
-- NOT PRINTED: function 237 (strings_IndexByte)
-- NOT PRINTED: function 240 (bytealg_IndexString)
-- NOT PRINTED: function 230 (strings_IndexRune)
-- NOT PRINTED: function 216 (strings_ContainsRune)
-- NOT PRINTED: function 203 (strings_trimLeftUnicode)
-- NOT PRINTED: function 217 (utf8_DecodeLastRuneInString)
-- NOT PRINTED: function 204 (strings_trimRightUnicode)
-- NOT PRINTED: function 167 (strings_Trim)
-- NOT PRINTED: function 119 (head_Take)
-- NOT PRINTED: function 62 (head_Choose)
def dir_file.l0 : Nat → Int → Int → ByteArray → Bool → ByteArray → Int → List (S87) → Option (ByteArray × Int × (List (S87)) × ByteArray × Bool)
 | 0, _, _, _, _, _, _, _ => none
 | k + 1, x16, x17, x1000, x1001, x337000, x337001, x337002 => if x17 < x16 then ((le_Reader_Number.f k x1000 x1001 2).bind fun bt343 => ((le_Reader_Number.f k bt343.2.1 bt343.2.2 2).bind fun bt347 => (if x337002.length < 8796093022208 then (dir_file.l0 k x16 (IntKind.u64.wrap (x17 + 1)) bt347.2.1 bt347.2.2 x337000 x337001 (x337002 ++ [(⟨wrap64 (bt343.1), wrap64 (bt347.1)⟩ : S87)])) else (none)))) else (some (x337000, x337001, x337002, x1000, x1001))
def dir_file.f (k : Nat) (s0_0 : ByteArray) (s0_1 : Bool) : Option (ByteArray × Int × (List (S87)) × ByteArray × Bool) := (le_Reader_Number.f k s0_0 s0_1 1).bind fun bt330 => ((le_Reader_Text.f k bt330.2.1 bt330.2.2 (wrap64 (bt330.1))).bind fun bt333 => ((le_Reader_Number.f k bt333.2.1 bt333.2.2 4).bind fun bt337 => ((le_Reader_Number.f k bt337.2.1 bt337.2.2 1).bind fun bt340 => (dir_file.l0 k bt340.1 0 bt340.2.1 bt340.2.2 bt333.1 (wrap64 (bt337.1)) ([] : List (S87))))))
set_option maxHeartbeats 8000000 in
set_option maxRecDepth 100000 in
theorem dir_file.calls (k : Nat) (g : Nat) (s0_0 : ByteArray) (s0_1 : Bool) (r1 : ByteArray) (r2 : Int) (r3 : List (S87)) (r4 : ByteArray) (r5 : Bool) (w0 w : World) (hI : IsS179 w0 w g s0_0 s0_1) (hB : Below w0.heap.size w0 w) (h : dir_file.f k s0_0 s0_1 = some (r1, r2, r3, r4, r5)) :
  Calls Tryz.prog 122 #[.pointer (some ⟨g, 0, none⟩)] w fun e w' => ∃ v2_ : Value, e = .returned (.agg #[.string r1, .int .i64 r2, v2_]) ∧ Kd.R k87 87 w' w.heap.size (fun _ => True) v2_ r3 ∧ IsS179 w0 w' g r4 r5 ∧ Below w0.heap.size w0 w' ∧ KeepBut w w' g none := by
 have hu85 := Tryz.underlying85
 have hu87 := Tryz.underlying87
 have HI0 := zA hI
 have HK := zA (KeepBut.refl w g none)
 have HL := zA hB.size
 clear hI
 have HW0 := zA hB.size
 have HB := zA hB
 clear hB
 have H : ((le_Reader_Number.f k s0_0 s0_1 1).bind fun bt330 => ((le_Reader_Text.f k bt330.2.1 bt330.2.2 (wrap64 (bt330.1))).bind fun bt333 => ((le_Reader_Number.f k bt333.2.1 bt333.2.2 4).bind fun bt337 => ((le_Reader_Number.f k bt337.2.1 bt337.2.2 1).bind fun bt340 => (dir_file.l0 k bt340.1 0 bt340.2.1 bt340.2.2 bt333.1 (wrap64 (bt337.1)) ([] : List (S87))))))) = some (r1, r2, r3, r4, r5) := h
 clear h
 replace H := Option.bind_eq_some_iff.mp H
 obtain ⟨⟨t330, t331, t332⟩, A20, H⟩ := H
 replace H : ((le_Reader_Text.f k t331 t332 (wrap64 (t330))).bind fun bt333 => ((le_Reader_Number.f k bt333.2.1 bt333.2.2 4).bind fun bt337 => ((le_Reader_Number.f k bt337.2.1 bt337.2.2 1).bind fun bt340 => (dir_file.l0 k bt340.1 0 bt340.2.1 bt340.2.2 bt333.1 (wrap64 (bt337.1)) ([] : List (S87)))))) = some (r1, r2, r3, r4, r5) := H
 have A2 := zA A20
 clear A20
 replace H := Option.bind_eq_some_iff.mp H
 obtain ⟨⟨t333, t334, t335⟩, A30, H⟩ := H
 replace H : ((le_Reader_Number.f k t334 t335 4).bind fun bt337 => ((le_Reader_Number.f k bt337.2.1 bt337.2.2 1).bind fun bt340 => (dir_file.l0 k bt340.1 0 bt340.2.1 bt340.2.2 t333 (wrap64 (bt337.1)) ([] : List (S87))))) = some (r1, r2, r3, r4, r5) := H
 have A3 := zA A30
 clear A30
 replace H := Option.bind_eq_some_iff.mp H
 obtain ⟨⟨t337, t338, t339⟩, A40, H⟩ := H
 replace H : ((le_Reader_Number.f k t338 t339 1).bind fun bt340 => (dir_file.l0 k bt340.1 0 bt340.2.1 bt340.2.2 t333 (wrap64 (t337)) ([] : List (S87)))) = some (r1, r2, r3, r4, r5) := H
 have A4 := zA A40
 clear A40
 replace H := Option.bind_eq_some_iff.mp H
 obtain ⟨⟨t340, t341, t342⟩, A50, H⟩ := H
 replace H : (dir_file.l0 k t340 0 t341 t342 t333 (wrap64 (t337)) ([] : List (S87))) = some (r1, r2, r3, r4, r5) := H
 have A5 := zA A50
 clear A50
 have H' := zA H
 clear H
 go_enter Tryz.func122, Tryz.ntmps122
 go_wp2_with (first | ((with_reducible refine gate_dst (N := 2) rfl ?_); refine box_event ?hg (N := 2) ?hd (cs := #[.string (⟨#[]⟩ : ByteArray), .int .i64 0, .slice none 0 0]) (t := 85) ?hr ?_; (case hd => rfl); (case hg => rfl); (case hr => first | (go_simp; done) | (go_simp; rfl)); intro gb329 hg w6 hbox hb; have n0_ := zA (IsS179.below (rW5) hb); have n1_ := zA (KeepBut.trans (rW2) (KeepBut.of_below hb g none) (.inl rfl)); have n2_ := zA (zL (rW7) hb); have n3_ := zA (hbox); have n4_ := zA ((by rw [hg]; exact (keep_size (w := w) (g := g) (row := none) (rW2)) : w.heap.size ≤ gb329)); have n5_ := zA ((Nat.le_trans HW0.out (by rw [hg]; exact (keep_size (w := w) (g := g) (row := none) (rW2)) : w.heap.size ≤ gb329) : w0.heap.size ≤ gb329)); have n6_ := zA ((by rw [hg]; exact Nat.ne_of_lt (IsS179.lt (show IsS179 w0 _ g s0_0 s0_1 from rW5)) : g ≠ gb329)); have n7_ := zA ((by rw [hg]; exact Nat.ne_of_gt (IsS179.lt (show IsS179 w0 _ g s0_0 s0_1 from rW5)) : gb329 ≠ g)); clear HI0; clear HK; clear HB; have HI0 := n0_; have HK := n1_; have HB := n2_; have BK329 := n3_; have GW329 := n4_; have GE329 := n5_; have NB0_329 := n6_; have NB329_0 := n7_; clear n0_ n1_ n2_ n3_ n4_ n5_ n6_ n7_; clear hb hbox hg) | ((with_reducible refine gate_callee (f := 121) rfl ?_); refine goesL_ (some 7) rfl rfl Tryz.func121 (by kernel_rfl) rfl #[.pointer (some ⟨g, 0, none⟩), .int .i64 1] rfl argA ?_; (with_reducible refine (le_Reader_Number.calls k g s0_0 s0_1 1 t330 t331 t332 w0 _ ?side1 ?side2 A2.out).mono ?_); (case side1 => exact rW14); (case side2 => exact rW18); rintro e w7 ⟨rfl, hi, hb, hk⟩; refine ⟨_, rfl, ?_⟩; have n0_ := zA (KeepBut.blk hk (g' := gb329) (o := .cells #[.string (⟨#[]⟩ : ByteArray), .int .i64 0, .slice none 0 0] 85 (0, 0)) (blkN BK329.out) NB329_0.out (by simp)); have n1_ := zA (KeepBut.trans (rW15) hk (.inl rfl)); have n2_ := zA (hb); have n3_ := zA (hi); clear BK329; clear HK; clear HB; clear HI0; have BK329 := n0_; have HK := n1_; have HB := n2_; have HI0 := n3_; clear n0_ n1_ n2_ n3_; (try clear hb); (try clear hb2); (try clear hk); (try clear hi)) | ((with_reducible refine gate_callee (f := 166) rfl ?_); refine goesL_ (some 9) rfl rfl Tryz.func166 (by kernel_rfl) rfl #[.pointer (some ⟨g, 0, none⟩), .int .i64 (wrap64 (t330))] rfl argA ?_; (with_reducible refine (le_Reader_Text.calls k g t331 t332 (wrap64 (t330)) t333 t334 t335 w0 _ ?side1 ?side2 A3.out).mono ?_); (case side1 => exact rW14); (case side2 => exact rW18); rintro e w8 ⟨rfl, hi, hb, hk⟩; refine ⟨_, rfl, ?_⟩; have n0_ := zA (KeepBut.blk hk (g' := gb329) (o := .cells #[.string (⟨#[]⟩ : ByteArray), .int .i64 0, .slice none 0 0] 85 (0, 0)) (blkN BK329.out) NB329_0.out (by simp)); have n1_ := zA (KeepBut.trans (rW15) hk (.inl rfl)); have n2_ := zA (hb); have n3_ := zA (hi); clear BK329; clear HK; clear HB; clear HI0; have BK329 := n0_; have HK := n1_; have HB := n2_; have HI0 := n3_; clear n0_ n1_ n2_ n3_; (try clear hb); (try clear hb2); (try clear hk); (try clear hi)) | ((with_reducible refine gate_dst (N := 3) rfl ?_); refine box_event ?hg (N := 3) ?hd (cs := #[.string (⟨#[]⟩ : ByteArray), .int .i64 0, .slice none 0 0]) (t := 85) ?hr ?_; (case hd => rfl); (case hg => rfl); (case hr => first | (go_simp; done) | (go_simp; rfl)); intro gb336 hg w9 hbox hb; have n0_ := zA (IsS179.below (rW14) hb); have n1_ := zA (blk_below (g := gb329) (o := .cells #[.string (⟨#[]⟩ : ByteArray), .int .i64 0, .slice none 0 0] 85 (0, 0)) (blkN BK329.out) hb); have n2_ := zA (KeepBut.trans (rW15) (KeepBut.of_below hb g none) (.inl rfl)); have n3_ := zA (zL (rW18) hb); have n4_ := zA (hbox); have n5_ := zA ((by rw [hg]; exact (keep_size (w := w) (g := g) (row := none) (rW15)) : w.heap.size ≤ gb336)); have n6_ := zA ((Nat.le_trans HW0.out (by rw [hg]; exact (keep_size (w := w) (g := g) (row := none) (rW15)) : w.heap.size ≤ gb336) : w0.heap.size ≤ gb336)); have n7_ := zA ((by rw [hg]; exact Nat.ne_of_lt (blk_lt (g := gb329) (o := .cells #[.string (⟨#[]⟩ : ByteArray), .int .i64 0, .slice none 0 0] 85 (0, 0)) (blkN BK329.out)) : gb329 ≠ gb336)); have n8_ := zA ((by rw [hg]; exact Nat.ne_of_gt (blk_lt (g := gb329) (o := .cells #[.string (⟨#[]⟩ : ByteArray), .int .i64 0, .slice none 0 0] 85 (0, 0)) (blkN BK329.out)) : gb336 ≠ gb329)); have n9_ := zA ((by rw [hg]; exact Nat.ne_of_lt (IsS179.lt (show IsS179 w0 _ g t334 t335 from rW14)) : g ≠ gb336)); have n10_ := zA ((by rw [hg]; exact Nat.ne_of_gt (IsS179.lt (show IsS179 w0 _ g t334 t335 from rW14)) : gb336 ≠ g)); clear HI0; clear BK329; clear HK; clear HB; have HI0 := n0_; have BK329 := n1_; have HK := n2_; have HB := n3_; have BK336 := n4_; have GW336 := n5_; have GE336 := n6_; have NB329_336 := n7_; have NB336_329 := n8_; have NB0_336 := n9_; have NB336_0 := n10_; clear n0_ n1_ n2_ n3_ n4_ n5_ n6_ n7_ n8_ n9_ n10_; clear hb hbox hg; have hnb10 := NB336_329.out; have hnc10 := NB329_336.out; have hnb11 := NB336_0.out; have hnc11 := NB0_336.out; have hcz12_0 : w9.cell? ⟨gb336, 0, none⟩ = some (.string (⟨#[]⟩ : ByteArray)) := (zN BK336.out 0).trans rfl; have hcz12_1 : w9.cell? ⟨gb336, 1, none⟩ = some (.int .i64 0) := (zN BK336.out 1).trans rfl; have hcz12_2 : w9.cell? ⟨gb336, 2, none⟩ = some (.slice none 0 0) := (zN BK336.out 2).trans rfl; have hfz12_0 := zM BK336.out 0; have hfz12_1 := zM BK336.out 1; have hfz12_2 := zM BK336.out 2) | ((with_reducible refine gate_callee (f := 121) rfl ?_); refine goesL_ (some 12) rfl rfl Tryz.func121 (by kernel_rfl) rfl #[.pointer (some ⟨g, 0, none⟩), .int .i64 4] rfl argA ?_; (with_reducible refine (le_Reader_Number.calls k g t334 t335 4 t337 t338 t339 w0 _ ?side1 ?side2 A4.out).mono ?_); (case side1 => exact rW11); (case side2 => exact rW13); rintro e w13 ⟨rfl, hi, hb, hk⟩; refine ⟨_, rfl, ?_⟩; have n0_ := zA (KeepBut.blk hk (g' := gb329) (o := .cells #[.string (⟨#[]⟩ : ByteArray), .int .i64 0, .slice none 0 0] 85 (0, 0)) (by (with_reducible repeat (first | refine blk_drewN ?_ _ | refine blk_drew ?_ | refine blk_alloc ?_ _)); refine blk_far ?_ NB329_336.out _; (with_reducible repeat (first | refine blk_drewN ?_ _ | refine blk_drew ?_ | refine blk_alloc ?_ _)); refine blk_far ?_ NB329_336.out _; (with_reducible repeat (first | refine blk_drewN ?_ _ | refine blk_drew ?_ | refine blk_alloc ?_ _)); refine blk_far ?_ NB329_336.out _; (with_reducible repeat (first | refine blk_drewN ?_ _ | refine blk_drew ?_ | refine blk_alloc ?_ _)); exact BK329.out) NB329_0.out (by simp)); have n1_ := zA (KeepBut.blk hk (g' := gb336) (o := .cells #[.string t333, .int .i64 0, .slice none 0 0] 85 (0, 0)) (by (with_reducible repeat (first | refine blk_drewN ?_ _ | refine blk_drew ?_ | refine blk_alloc ?_ _)); refine blk_put (cs := #[.string t333, .int .i64 0, .slice none 0 0]) ?_ 2 _ rfl; (with_reducible repeat (first | refine blk_drewN ?_ _ | refine blk_drew ?_ | refine blk_alloc ?_ _)); refine blk_put (cs := #[.string t333, .int .i64 0, .slice none 0 0]) ?_ 1 _ rfl; (with_reducible repeat (first | refine blk_drewN ?_ _ | refine blk_drew ?_ | refine blk_alloc ?_ _)); refine blk_put (cs := #[.string (⟨#[]⟩ : ByteArray), .int .i64 0, .slice none 0 0]) ?_ 0 _ rfl; (with_reducible repeat (first | refine blk_drewN ?_ _ | refine blk_drew ?_ | refine blk_alloc ?_ _)); exact BK336.out) NB336_0.out (by simp)); have n2_ := zA (KeepBut.trans (rW12) hk (.inl rfl)); have n3_ := zA (hb); have n4_ := zA (hi); clear BK329; clear BK336; clear HK; clear HB; clear HI0; have BK329 := n0_; have BK336 := n1_; have HK := n2_; have HB := n3_; have HI0 := n4_; clear n0_ n1_ n2_ n3_ n4_; (try clear hb); (try clear hb2); (try clear hk); (try clear hi); have hcz14_0 : w13.cell? ⟨gb336, 0, none⟩ = some (.string t333) := (zN BK336.out 0).trans rfl; have hcz14_1 : w13.cell? ⟨gb336, 1, none⟩ = some (.int .i64 0) := (zN BK336.out 1).trans rfl; have hcz14_2 : w13.cell? ⟨gb336, 2, none⟩ = some (.slice none 0 0) := (zN BK336.out 2).trans rfl; have hfz14_0 := zM BK336.out 0; have hfz14_1 := zM BK336.out 1; have hfz14_2 := zM BK336.out 2) | ((with_reducible refine gate_callee (f := 121) rfl ?_); refine goesL_ (some 16) rfl rfl Tryz.func121 (by kernel_rfl) rfl #[.pointer (some ⟨g, 0, none⟩), .int .i64 1] rfl argA ?_; (with_reducible refine (le_Reader_Number.calls k g t338 t339 1 t340 t341 t342 w0 _ ?side1 ?side2 A5.out).mono ?_); (case side1 => exact rW11); (case side2 => exact rW13); rintro e w15 ⟨rfl, hi, hb, hk⟩; refine ⟨_, rfl, ?_⟩; have n0_ := zA (KeepBut.blk hk (g' := gb329) (o := .cells #[.string (⟨#[]⟩ : ByteArray), .int .i64 0, .slice none 0 0] 85 (0, 0)) (by (with_reducible repeat (first | refine blk_drewN ?_ _ | refine blk_drew ?_ | refine blk_alloc ?_ _)); refine blk_far ?_ NB329_336.out _; (with_reducible repeat (first | refine blk_drewN ?_ _ | refine blk_drew ?_ | refine blk_alloc ?_ _)); exact BK329.out) NB329_0.out (by simp)); have n1_ := zA (KeepBut.blk hk (g' := gb336) (o := .cells #[.string t333, .int .i64 (wrap64 (t337)), .slice none 0 0] 85 (0, 0)) (by (with_reducible repeat (first | refine blk_drewN ?_ _ | refine blk_drew ?_ | refine blk_alloc ?_ _)); refine blk_put (cs := #[.string t333, .int .i64 0, .slice none 0 0]) ?_ 1 _ rfl; (with_reducible repeat (first | refine blk_drewN ?_ _ | refine blk_drew ?_ | refine blk_alloc ?_ _)); exact BK336.out) NB336_0.out (by simp)); have n2_ := zA (KeepBut.trans (rW12) hk (.inl rfl)); have n3_ := zA (hb); have n4_ := zA (hi); clear BK329; clear BK336; clear HK; clear HB; clear HI0; have BK329 := n0_; have BK336 := n1_; have HK := n2_; have HB := n3_; have HI0 := n4_; clear n0_ n1_ n2_ n3_ n4_; (try clear hb); (try clear hb2); (try clear hk); (try clear hi)))
 go_loopg [17] k (fun kq v17 w' => ∃ (x17_1 : Int) (x1000_1 : ByteArray) (x1001_1 : Bool) (x337002_1 : List (S87)) (u337002 : Value), v17 = .int .u64 x17_1 ∧ Aside0 (dir_file.l0 kq t340 x17_1 x1000_1 x1001_1 t333 (wrap64 (t337)) x337002_1 = some (r1, r2, r3, r4, r5)) ∧ Aside0 (kq ≤ k) ∧ Aside0 (Kd.R k87 87 w' w.heap.size (fun _ => True) u337002 x337002_1) ∧ Aside0 (w'.heap[gb329]? = some (.cells #[.string (⟨#[]⟩ : ByteArray), .int .i64 0, (.slice none 0 0)] 85 (0, 0))) ∧ Aside0 (w'.heap[gb336]? = some (.cells #[.string t333, .int .i64 (wrap64 (t337)), u337002] 85 (0, 0))) ∧ Aside0 (IsS179 w0 w' g x1000_1 x1001_1) ∧ Aside0 (KeepBut w w' g none) ∧ Aside0 (Below w0.heap.size w0 w'))
 case atStart => exact ⟨(0), (t341), (t342), (([] : List (S87))), (.slice none 0 0), (rfB), H', ⟨Nat.le_refl _⟩, ⟨by first | exact Kd.R_nil _ _ _ _ _ | exact Kd.N_nil _ _ _ _ _ | exact Kd.V_nil _ _ _ _ _ | exact Kd.Q_nil _ _ _ _ _ | exact Kd.S_nil _ _ _ _ _⟩, ⟨by (with_reducible repeat (first | refine blk_drewN ?_ _ | refine blk_drew ?_ | refine blk_alloc ?_ _)); exact BK329.out⟩, ⟨by (with_reducible repeat (first | refine blk_drewN ?_ _ | refine blk_drew ?_ | refine blk_alloc ?_ _)); exact BK336.out⟩, ⟨rW11⟩, ⟨rW12⟩, ⟨rW13⟩⟩
 case round =>
  clear H'
  try clear c1
  try clear p2
  try clear p6
  try clear c10
  try clear c11
  try clear c12
  try clear hcz12_0
  try clear hcz12_1
  try clear hcz12_2
  try clear hcz14_0
  try clear hcz14_1
  try clear hcz14_2
  try clear hfz12_0
  try clear hfz12_1
  try clear hfz12_2
  try clear hfz14_0
  try clear hfz14_1
  try clear hfz14_2
  obtain ⟨x17_1, x1000_1, x1001_1, x337002_1, u337002, rfl, HA, HK1, HO_337002, BK329, BK336, HI0, HK, HB⟩ := hrel
  cases gk with
  | zero => exact absurd HA.out (by simp [dir_file.l0])
  | succ k1 =>
   have H := HA.out
   clear HA
   simp only [dir_file.l0] at H
   by_cases c16 : x17_1 < t340
   ·rw [if_pos c16] at H
    have c16b0 : decide (x17_1 < t340) = true := zH c16
    clear c16
    replace H := Option.bind_eq_some_iff.mp H
    obtain ⟨⟨t343, t344, t345⟩, A170, H⟩ := H
    replace H : ((le_Reader_Number.f k1 t344 t345 2).bind fun bt347 => (if x337002_1.length < 8796093022208 then (dir_file.l0 k1 t340 (IntKind.u64.wrap (x17_1 + 1)) bt347.2.1 bt347.2.2 t333 (wrap64 (t337)) (x337002_1 ++ [(⟨wrap64 (t343), wrap64 (bt347.1)⟩ : S87)])) else (none))) = some (r1, r2, r3, r4, r5) := H
    have A17 := zA A170
    clear A170
    replace H := Option.bind_eq_some_iff.mp H
    obtain ⟨⟨t347, t348, t349⟩, A180, H⟩ := H
    replace H : (if x337002_1.length < 8796093022208 then (dir_file.l0 k1 t340 (IntKind.u64.wrap (x17_1 + 1)) t348 t349 t333 (wrap64 (t337)) (x337002_1 ++ [(⟨wrap64 (t343), wrap64 (t347)⟩ : S87)])) else (none)) = some (r1, r2, r3, r4, r5) := H
    have A18 := zA A180
    clear A180
    by_cases c19 : x337002_1.length < 8796093022208
    ·rw [if_pos c19] at H
     have LMc19 := zA c19
     clear c19
     obtain ⟨y350, hy350⟩ : ∃ y_ : List (S87), y_ = (x337002_1 ++ [(⟨wrap64 (t343), wrap64 (t347)⟩ : S87)]) := ⟨_, rfl⟩
     replace H : (dir_file.l0 k1 t340 (IntKind.u64.wrap (x17_1 + 1)) t348 t349 t333 (wrap64 (t337)) y350) = some (r1, r2, r3, r4, r5) := by first | (rw [hy350]; with_reducible exact H) | (have H2_ := (Option.bind_some _ _).symm.trans H; rw [hy350]; with_reducible exact H2_) | (have H2_ := (Option.bind_some _ _).symm.trans H; with_reducible exact H2_) | with_reducible exact H | (rw [hy350]; exact H) | exact H
     have Ny350 := zA hy350
     clear hy350
     have H' := zA H
     clear H
     go_wp2_with (first | ((with_reducible refine gate_callee (f := 121) rfl ?_); refine goesL_ (some 20) rfl rfl Tryz.func121 (by kernel_rfl) rfl #[.pointer (some ⟨g, 0, none⟩), .int .i64 2] rfl argA ?_; (with_reducible refine (le_Reader_Number.calls k1 g x1000_1 x1001_1 2 t343 t344 t345 w0 _ ?side1 ?side2 A17.out).mono ?_); (case side1 => exact rW11); (case side2 => exact rW13); rintro e w20 ⟨rfl, hi, hb, hk⟩; refine ⟨_, rfl, ?_⟩; have n0_ := zA (Kd.R_mono (Kd.R_keep (IsS179.apart (show IsS179 w0 _ g x1000_1 x1001_1 from rW11) (kdR_ HO_337002.out) (by decide)) hk (fun _ h => h.2)) (fun _ h => h.1)); have n1_ := zA (KeepBut.blk hk (g' := gb329) (o := .cells #[.string (⟨#[]⟩ : ByteArray), .int .i64 0, .slice none 0 0] 85 (0, 0)) (blkN BK329.out) NB329_0.out (by simp)); have n2_ := zA (KeepBut.blk hk (g' := gb336) (o := .cells #[.string t333, .int .i64 (wrap64 (t337)), u337002] 85 (0, 0)) (blkN BK336.out) NB336_0.out (by simp)); have n3_ := zA (KeepBut.trans (rW12) hk (.inl rfl)); have n4_ := zA (hb); have n5_ := zA (hi); clear HO_337002; clear BK329; clear BK336; clear HK; clear HB; clear HI0; have HO_337002 := n0_; have BK329 := n1_; have BK336 := n2_; have HK := n3_; have HB := n4_; have HI0 := n5_; clear n0_ n1_ n2_ n3_ n4_ n5_; (try clear hb); (try clear hb2); (try clear hk); (try clear hi)) | ((with_reducible refine gate_dst (N := 4) rfl ?_); refine box_event ?hg (N := 4) ?hd (cs := #[.int .i64 0, .int .i64 0]) (t := 87) ?hr ?_; (case hd => rfl); (case hg => rfl); (case hr => first | (go_simp; done) | (go_simp; rfl)); intro gb346 hg w21 hbox hb; have n0_ := zA (Kd.R_below (Kd.R_elderB (kdR_ HO_337002.out) gb346 (Nat.le_of_eq hg.symm)) hb); have n1_ := zA (blk_below (g := gb329) (o := .cells #[.string (⟨#[]⟩ : ByteArray), .int .i64 0, .slice none 0 0] 85 (0, 0)) (blkN BK329.out) hb); have n2_ := zA (blk_below (g := gb336) (o := .cells #[.string t333, .int .i64 (wrap64 (t337)), u337002] 85 (0, 0)) (blkN BK336.out) hb); have n3_ := zA (IsS179.below (rW11) hb); have n4_ := zA (KeepBut.trans (rW12) (KeepBut.of_below hb g none) (.inl rfl)); have n5_ := zA (zL (rW13) hb); have n6_ := zA (hbox); have n7_ := zA ((by rw [hg]; exact (keep_size (w := w) (g := g) (row := none) (rW12)) : w.heap.size ≤ gb346)); have n8_ := zA ((Nat.le_trans HW0.out (by rw [hg]; exact (keep_size (w := w) (g := g) (row := none) (rW12)) : w.heap.size ≤ gb346) : w0.heap.size ≤ gb346)); have n9_ := zA ((by rw [hg]; exact Nat.ne_of_lt (blk_lt (g := gb329) (o := .cells #[.string (⟨#[]⟩ : ByteArray), .int .i64 0, .slice none 0 0] 85 (0, 0)) (blkN BK329.out)) : gb329 ≠ gb346)); have n10_ := zA ((by rw [hg]; exact Nat.ne_of_gt (blk_lt (g := gb329) (o := .cells #[.string (⟨#[]⟩ : ByteArray), .int .i64 0, .slice none 0 0] 85 (0, 0)) (blkN BK329.out)) : gb346 ≠ gb329)); have n11_ := zA ((by rw [hg]; exact Nat.ne_of_lt (blk_lt (g := gb336) (o := .cells #[.string t333, .int .i64 (wrap64 (t337)), u337002] 85 (0, 0)) (blkN BK336.out)) : gb336 ≠ gb346)); have n12_ := zA ((by rw [hg]; exact Nat.ne_of_gt (blk_lt (g := gb336) (o := .cells #[.string t333, .int .i64 (wrap64 (t337)), u337002] 85 (0, 0)) (blkN BK336.out)) : gb346 ≠ gb336)); have n13_ := zA ((by rw [hg]; exact Nat.ne_of_lt (IsS179.lt (show IsS179 w0 _ g t344 t345 from rW11)) : g ≠ gb346)); have n14_ := zA ((by rw [hg]; exact Nat.ne_of_gt (IsS179.lt (show IsS179 w0 _ g t344 t345 from rW11)) : gb346 ≠ g)); clear HO_337002; clear BK329; clear BK336; clear HI0; clear HK; clear HB; have HO_337002 := n0_; have BK329 := n1_; have BK336 := n2_; have HI0 := n3_; have HK := n4_; have HB := n5_; have BK346 := n6_; have GW346 := n7_; have GE346 := n8_; have NB329_346 := n9_; have NB346_329 := n10_; have NB336_346 := n11_; have NB346_336 := n12_; have NB0_346 := n13_; have NB346_0 := n14_; clear n0_ n1_ n2_ n3_ n4_ n5_ n6_ n7_ n8_ n9_ n10_ n11_ n12_ n13_ n14_; clear hb hbox hg; have hnb22 := NB346_329.out; have hnc22 := NB329_346.out; have hnb23 := NB346_336.out; have hnc23 := NB336_346.out; have hnb24 := NB346_0.out; have hnc24 := NB0_346.out; have hcz25_0 : w21.cell? ⟨gb346, 0, none⟩ = some (.int .i64 0) := (zN BK346.out 0).trans rfl; have hcz25_1 : w21.cell? ⟨gb346, 1, none⟩ = some (.int .i64 0) := (zN BK346.out 1).trans rfl; have hfz25_0 := zM BK346.out 0; have hfz25_1 := zM BK346.out 1) | ((with_reducible refine gate_callee (f := 121) rfl ?_); refine goesL_ (some 24) rfl rfl Tryz.func121 (by kernel_rfl) rfl #[.pointer (some ⟨g, 0, none⟩), .int .i64 2] rfl argA ?_; (with_reducible refine (le_Reader_Number.calls k1 g t344 t345 2 t347 t348 t349 w0 _ ?side1 ?side2 A18.out).mono ?_); (case side1 => exact rW16); (case side2 => exact rW19); rintro e w26 ⟨rfl, hi, hb, hk⟩; refine ⟨_, rfl, ?_⟩; have n0_ := zA (Kd.R_mono (Kd.R_keep (IsS179.apart (show IsS179 w0 _ g t344 t345 from rW16) (by (with_reducible repeat (first | apply Kd.R_alloc | apply Kd.R_drewN | apply Kd.R_drew)); exact (Kd.R_mono (Kd.R_far (p := ⟨gb346, 1, none⟩) (Kd.R_far (p := ⟨gb346, 0, none⟩) (Kd.R_mono HO_337002.out (fun k_ hk => (⟨hk, hk.2⟩ : _ ∧ k_ ≠ gb346))) (fun _ hk => hk.2) (.int .i64 (wrap64 (t343)))) (fun _ hk => hk.2) (.int .i64 0)) (fun _ h_ => h_.1))) (by decide)) hk (fun _ h => h.2)) (fun _ h => h.1)); have n1_ := zA (KeepBut.blk hk (g' := gb329) (o := .cells #[.string (⟨#[]⟩ : ByteArray), .int .i64 0, .slice none 0 0] 85 (0, 0)) (by (with_reducible repeat (first | refine blk_drewN ?_ _ | refine blk_drew ?_ | refine blk_alloc ?_ _)); refine blk_far ?_ NB329_346.out _; (with_reducible repeat (first | refine blk_drewN ?_ _ | refine blk_drew ?_ | refine blk_alloc ?_ _)); refine blk_far ?_ NB329_346.out _; (with_reducible repeat (first | refine blk_drewN ?_ _ | refine blk_drew ?_ | refine blk_alloc ?_ _)); exact BK329.out) NB329_0.out (by simp)); have n2_ := zA (KeepBut.blk hk (g' := gb336) (o := .cells #[.string t333, .int .i64 (wrap64 (t337)), u337002] 85 (0, 0)) (by (with_reducible repeat (first | refine blk_drewN ?_ _ | refine blk_drew ?_ | refine blk_alloc ?_ _)); refine blk_far ?_ NB336_346.out _; (with_reducible repeat (first | refine blk_drewN ?_ _ | refine blk_drew ?_ | refine blk_alloc ?_ _)); refine blk_far ?_ NB336_346.out _; (with_reducible repeat (first | refine blk_drewN ?_ _ | refine blk_drew ?_ | refine blk_alloc ?_ _)); exact BK336.out) NB336_0.out (by simp)); have n3_ := zA (KeepBut.blk hk (g' := gb346) (o := .cells #[.int .i64 (wrap64 (t343)), .int .i64 0] 87 (0, 0)) (by (with_reducible repeat (first | refine blk_drewN ?_ _ | refine blk_drew ?_ | refine blk_alloc ?_ _)); refine blk_put (cs := #[.int .i64 (wrap64 (t343)), .int .i64 0]) ?_ 1 _ rfl; (with_reducible repeat (first | refine blk_drewN ?_ _ | refine blk_drew ?_ | refine blk_alloc ?_ _)); refine blk_put (cs := #[.int .i64 0, .int .i64 0]) ?_ 0 _ rfl; (with_reducible repeat (first | refine blk_drewN ?_ _ | refine blk_drew ?_ | refine blk_alloc ?_ _)); exact BK346.out) NB346_0.out (by simp)); have n4_ := zA (KeepBut.trans (rW17) hk (.inl rfl)); have n5_ := zA (hb); have n6_ := zA (hi); clear HO_337002; clear BK329; clear BK336; clear BK346; clear HK; clear HB; clear HI0; have HO_337002 := n0_; have BK329 := n1_; have BK336 := n2_; have BK346 := n3_; have HK := n4_; have HB := n5_; have HI0 := n6_; clear n0_ n1_ n2_ n3_ n4_ n5_ n6_; (try clear hb); (try clear hb2); (try clear hk); (try clear hi); have hcz27_0 : w26.cell? ⟨gb346, 0, none⟩ = some (.int .i64 (wrap64 (t343))) := (zN BK346.out 0).trans rfl; have hcz27_1 : w26.cell? ⟨gb346, 1, none⟩ = some (.int .i64 0) := (zN BK346.out 1).trans rfl; have hfz27_0 := zM BK346.out 0; have hfz27_1 := zM BK346.out 1; have hnb28 := NB336_329.out; have hnc28 := NB329_336.out; have hnb29 := NB336_0.out; have hnc29 := NB0_336.out; have hcz30_0 : w26.cell? ⟨gb336, 0, none⟩ = some (.string t333) := (zN BK336.out 0).trans rfl; have hcz30_1 : w26.cell? ⟨gb336, 1, none⟩ = some (.int .i64 (wrap64 (t337))) := (zN BK336.out 1).trans rfl; have hcz30_2 : w26.cell? ⟨gb336, 2, none⟩ = some (u337002) := (zN BK336.out 2).trans rfl; have hfz30_0 := zM BK336.out 0; have hfz30_1 := zM BK336.out 1; have hfz30_2 := zM BK336.out 2) | ((with_reducible refine gate_builtin (b := .append) (xs := #[.tmp 28, .tmp 30]) rfl ?_); at_builtin; refine Kd.R_append k87 w.heap.size rfl (.tmp 28) (.tmp 30) 44 87 (.agg #[(.int .i64 0), (.int .i64 0)]) 16 rfl Tryz.underlying44 info87 rfl (by decide) (by omega) u337002 x337002_1 (⟨wrap64 (t343), wrap64 (t347)⟩ : S87) [.int .i64 (wrap64 (t343)), .int .i64 (wrap64 (t347))] (fun k_ => k_ ≠ gb346) (fun _ => False) rfl (by first | (go_simp; done) | (go_simp; rfl)) ?aP (fun _ hk => hk.elim) ?aF ?aO (Below.refl _ _) ?aS ?aL ?_; (case aP => exact k87_mkM _ _ _ (⟨wrap64 (t343), wrap64 (t347)⟩ : S87)); (case aF => exact (fun k_ hk => Kd.freshB (g := gb346) (o := .cells #[.int .i64 (wrap64 (t343)), .int .i64 (wrap64 (t347))] 87 (0, 0)) (by (with_reducible repeat (first | refine blk_drewN ?_ _ | refine blk_drew ?_ | refine blk_alloc ?_ _)); refine blk_put (cs := #[.int .i64 (wrap64 (t343)), .int .i64 0]) ?_ 1 _ rfl; (with_reducible repeat (first | refine blk_drewN ?_ _ | refine blk_drew ?_ | refine blk_alloc ?_ _)); exact BK346.out) k_ hk)); (case aO => exact (by (with_reducible repeat (first | apply Kd.R_alloc | apply Kd.R_drewN | apply Kd.R_drew)); exact Kd.R_mono (Kd.R_far (p := ⟨gb346, 1, none⟩) (Kd.R_mono HO_337002.out (fun k_ hk => (⟨hk, hk.2⟩ : _ ∧ k_ ≠ gb346))) (fun _ hk => hk.2) (.int .i64 (wrap64 (t347)))) (fun _ hk => hk.1.2))); (case aS => exact (keep_size (w := w) (g := g) (row := none) (rW17))); (case aL => have := LMc19.out; omega); intro v351 w31 ho hb hg hat; rw [← Ny350.out] at ho; have n0_ := zA (blk_grown (g := gb329) (o := .cells #[.string (⟨#[]⟩ : ByteArray), .int .i64 0, .slice none 0 0] 85 (0, 0)) (by (with_reducible repeat (first | refine blk_drewN ?_ _ | refine blk_drew ?_ | refine blk_alloc ?_ _)); refine blk_far ?_ NB329_346.out _; (with_reducible repeat (first | refine blk_drewN ?_ _ | refine blk_drew ?_ | refine blk_alloc ?_ _)); exact BK329.out) hg (Kd.R_ne HO_337002.out BK329.out (by decide))); have n1_ := zA (blk_grown (g := gb336) (o := .cells #[.string t333, .int .i64 (wrap64 (t337)), u337002] 85 (0, 0)) (by (with_reducible repeat (first | refine blk_drewN ?_ _ | refine blk_drew ?_ | refine blk_alloc ?_ _)); refine blk_far ?_ NB336_346.out _; (with_reducible repeat (first | refine blk_drewN ?_ _ | refine blk_drew ?_ | refine blk_alloc ?_ _)); exact BK336.out) hg (Kd.R_ne HO_337002.out BK336.out (by decide))); have n2_ := zA (IsS179.grown (show IsS179 w0 _ g t348 t349 from rW16) hg (IsS179.own_ne HI0.out HO_337002.out (by decide))); have n3_ := zA (blk_grown (g := gb346) (o := .cells #[.int .i64 (wrap64 (t343)), .int .i64 (wrap64 (t347))] 87 (0, 0)) (by (with_reducible repeat (first | refine blk_drewN ?_ _ | refine blk_drew ?_ | refine blk_alloc ?_ _)); refine blk_put (cs := #[.int .i64 (wrap64 (t343)), .int .i64 0]) ?_ 1 _ rfl; (with_reducible repeat (first | refine blk_drewN ?_ _ | refine blk_drew ?_ | refine blk_alloc ?_ _)); exact BK346.out) hg (Kd.R_away HO_337002.out (fun _ hk => hk.2))); have n4_ := zA (below_weaken (rW19) HL.out hb); have n5_ := zA (KeepBut.trans (rW17) (KeepBut.of_grown hg g) (Kd.R_base2 HO_337002.out)); have n6_ := zA (ho); clear BK329; clear BK336; clear HI0; clear BK346; clear HB; clear HK; clear HO_337002; have BK329 := n0_; have BK336 := n1_; have HI0 := n2_; have BK346 := n3_; have HB := n4_; have HK := n5_; have HO352 := n6_; clear n0_ n1_ n2_ n3_ n4_ n5_ n6_; clear ho hb hg hat; obtain ⟨Ao32, co32, eo32⟩ := Kd.R_slice HO352.out; subst eo32; have hcz33_0 : w31.cell? ⟨gb336, 0, none⟩ = some (.string t333) := (zN BK336.out 0).trans rfl; have hcz33_1 : w31.cell? ⟨gb336, 1, none⟩ = some (.int .i64 (wrap64 (t337))) := (zN BK336.out 1).trans rfl; have hcz33_2 : w31.cell? ⟨gb336, 2, none⟩ = some (u337002) := (zN BK336.out 2).trans rfl; have hfz33_0 := zM BK336.out 0; have hfz33_1 := zM BK336.out 1; have hfz33_2 := zM BK336.out 2))
     go_roundg k1
     case measure => have := HK1.out; omega
     case rel => exact ⟨(IntKind.u64.wrap (x17_1 + 1)), (t348), (t349), (y350), (.slice Ao32 y350.length co32), (rfB), H', ⟨by have := HK1.out; omega⟩, ⟨by (with_reducible repeat (first | apply Kd.R_alloc | apply Kd.R_drewN | apply Kd.R_drew)); exact Kd.R_mono (Kd.R_far (p := ⟨gb336, 2, none⟩) (Kd.R_types HO352.out BK336.out (by decide)) (fun _ hk => hk.2) (.slice Ao32 y350.length co32)) (fun _ hk => trivial)⟩, ⟨by (with_reducible repeat (first | refine blk_drewN ?_ _ | refine blk_drew ?_ | refine blk_alloc ?_ _)); refine blk_far ?_ NB329_336.out _; (with_reducible repeat (first | refine blk_drewN ?_ _ | refine blk_drew ?_ | refine blk_alloc ?_ _)); exact BK329.out⟩, ⟨by (with_reducible repeat (first | refine blk_drewN ?_ _ | refine blk_drew ?_ | refine blk_alloc ?_ _)); refine blk_put (cs := #[.string t333, .int .i64 (wrap64 (t337)), u337002]) ?_ 2 _ rfl; (with_reducible repeat (first | refine blk_drewN ?_ _ | refine blk_drew ?_ | refine blk_alloc ?_ _)); exact BK336.out⟩, ⟨rW16⟩, ⟨rW17⟩, ⟨rW19⟩⟩
    ·rw [if_neg c19] at H
     exact absurd H (by simp)
   ·rw [if_neg c16] at H
    have c16b0 : decide (x17_1 < t340) = false := zI c16
    clear c16
    simp only [Option.some.injEq, Prod.mk.injEq] at H
    obtain ⟨rfl, rfl, rfl, rfl, rfl⟩ := H
    have hnb34 := NB336_329.out
    have hnc34 := NB329_336.out
    have hnb35 := NB336_0.out
    have hnc35 := NB0_336.out
    have hcz36_0 : wr.cell? ⟨gb336, 0, none⟩ = some (.string t333) := (zN BK336.out 0).trans rfl
    have hcz36_1 : wr.cell? ⟨gb336, 1, none⟩ = some (.int .i64 (wrap64 (t337))) := (zN BK336.out 1).trans rfl
    have hcz36_2 : wr.cell? ⟨gb336, 2, none⟩ = some (u337002) := (zN BK336.out 2).trans rfl
    have hfz36_0 := zM BK336.out 0
    have hfz36_1 := zM BK336.out 1
    have hfz36_2 := zM BK336.out 2
    have hnb37 := NB329_0.out
    have hnc37 := NB0_329.out
    have hcz38_0 : wr.cell? ⟨gb329, 0, none⟩ = some (.string (⟨#[]⟩ : ByteArray)) := (zN BK329.out 0).trans rfl
    have hcz38_1 : wr.cell? ⟨gb329, 1, none⟩ = some (.int .i64 0) := (zN BK329.out 1).trans rfl
    have hcz38_2 : wr.cell? ⟨gb329, 2, none⟩ = some (.slice none 0 0) := (zN BK329.out 2).trans rfl
    have hfz38_0 := zM BK329.out 0
    have hfz38_1 := zM BK329.out 1
    have hfz38_2 := zM BK329.out 2
    obtain ⟨Ao39, co39, eo39⟩ := Kd.R_slice HO_337002.out
    subst eo39
    go_wp2
    refine bodyPost_ret (results_cell_row rfl _ _ gb329 85 #[.string t333, .int .i64 (wrap64 (t337)), .slice Ao39 x337002_1.length co39] (0, 0) _ rfl (by (with_reducible repeat (first | refine blk_drewN ?_ _ | refine blk_drew ?_ | refine blk_alloc ?_ _)); refine blk_put (cs := #[.string t333, .int .i64 (wrap64 (t337)), .slice none 0 0]) ?_ 2 _ rfl; (with_reducible repeat (first | refine blk_drewN ?_ _ | refine blk_drew ?_ | refine blk_alloc ?_ _)); refine blk_put (cs := #[.string t333, .int .i64 0, .slice none 0 0]) ?_ 1 _ rfl; (with_reducible repeat (first | refine blk_drewN ?_ _ | refine blk_drew ?_ | refine blk_alloc ?_ _)); refine blk_put (cs := #[.string (⟨#[]⟩ : ByteArray), .int .i64 0, .slice none 0 0]) ?_ 0 _ rfl; (with_reducible repeat (first | refine blk_drewN ?_ _ | refine blk_drew ?_ | refine blk_alloc ?_ _)); exact BK329.out) Tryz.underlying85 rfl (by kernel_rfl)) rfl ?_
    exact ⟨_, rfA, by (with_reducible repeat (first | apply Kd.R_alloc | apply Kd.R_drewN | apply Kd.R_drew)); exact Kd.R_mono (Kd.R_far (p := ⟨gb329, 2, none⟩) (Kd.R_far (p := ⟨gb329, 1, none⟩) (Kd.R_far (p := ⟨gb329, 0, none⟩) (Kd.R_types HO_337002.out BK329.out (by decide)) (fun _ hk => hk.2) (.string t333)) (fun _ hk => hk.2) (.int .i64 (wrap64 (t337)))) (fun _ hk => hk.2) (.slice Ao39 x337002_1.length co39)) (fun _ hk => trivial), rW11, rW13, rW12⟩
def le_Reader_Over.f (s0_0 : ByteArray) (s0_1 : Bool) : Option (Bool × ByteArray × Bool) := if s0_0.toList = ([] : List UInt8) then (some (!s0_1, s0_0, s0_1)) else (some (false, s0_0, s0_1))
set_option maxHeartbeats 8000000 in
set_option maxRecDepth 100000 in
theorem le_Reader_Over.calls (g : Nat) (s0_0 : ByteArray) (s0_1 : Bool) (r1 : Bool) (r2 : ByteArray) (r3 : Bool) (w0 w : World) (hI : IsS179 w0 w g s0_0 s0_1) (hB : Below w0.heap.size w0 w) (h : le_Reader_Over.f s0_0 s0_1 = some (r1, r2, r3)) :
  Calls Tryz.prog 123 #[.pointer (some ⟨g, 0, none⟩)] w fun e w' => e = .returned (.bool r1) ∧ IsS179 w0 w' g r2 r3 ∧ Below w0.heap.size w0 w' ∧ KeepBut w w' g none := by
 have HI0 := zA hI
 have HK := zA (KeepBut.refl w g none)
 have HL := zA hB.size
 clear hI
 have HW0 := zA hB.size
 have HB := zA hB
 clear hB
 have H : (if s0_0.toList = ([] : List UInt8) then (some (!s0_1, s0_0, s0_1)) else (some (false, s0_0, s0_1))) = some (r1, r2, r3) := h
 clear h
 by_cases c2 : s0_0.toList = ([] : List UInt8)
 ·rw [if_pos c2] at H
  have c2b0 : (s0_0.toList == ([] : List UInt8)) = true := beq_iff_eq.mpr c2
  have c2b1 : (s0_0.toList != ([] : List UInt8)) = false := bne_eq_false_iff_eq.mpr c2
  clear c2
  simp only [Option.some.injEq, Prod.mk.injEq] at H
  obtain ⟨rfl, rfl, rfl⟩ := H
  obtain ⟨HGz3, hgz3⟩ := HI0.out
  have hcz3_0 := cellS179_0 HGz3
  have hcz3_1 := cellS179_1 HGz3
  have hfz3_0 := zM HGz3 0
  have hfz3_1 := zM HGz3 1
  clear HGz3 hgz3
  go_enter Tryz.func123, Tryz.ntmps123
  go_wp2
  go_ret
  exact ⟨rfA, rW5, rW7, rW2⟩
 ·rw [if_neg c2] at H
  have c2b0 : (s0_0.toList == ([] : List UInt8)) = false := beq_eq_false_iff_ne.mpr c2
  have c2b1 : (s0_0.toList != ([] : List UInt8)) = true := bne_iff_ne.mpr c2
  simp only [Option.some.injEq, Prod.mk.injEq] at H
  obtain ⟨rfl, rfl, rfl⟩ := H
  obtain ⟨HGz4, hgz4⟩ := HI0.out
  have hcz4_0 := cellS179_0 HGz4
  have hcz4_1 := cellS179_1 HGz4
  have hfz4_0 := zM HGz4 0
  have hfz4_1 := zM HGz4 1
  clear HGz4 hgz4
  go_enter Tryz.func123, Tryz.ntmps123
  go_wp2
  go_ret
  exact ⟨rfA, rW5, rW7, rW2⟩
def dir_Take.l0 : Nat → List (S85) → Int → Int → ByteArray → Bool → Option ((List (S85)) × Int)
 | 0, _, _, _, _, _ => none
 | k + 1, x7, x20, x21, x356000, x356001 => if x21 < x20 then ((dir_file.f k x356000 x356001).bind fun bt359 => (if x7.length < 2932031007402 then (dir_Take.l0 k (x7 ++ [(⟨bt359.1, bt359.2.1, bt359.2.2.1⟩ : S85)]) x20 (IntKind.u64.wrap (x21 + 1)) bt359.2.2.2.1 bt359.2.2.2.2) else (none))) else ((le_Reader_Over.f x356000 x356001).bind fun bt369 => (if bt369.1 = true then ((dir_directory.f k x7).bind fun t372 => (if t372 = true then (some (x7, 0)) else (some (([] : List (S85)), 2)))) else (some (([] : List (S85)), 2))))
def dir_Take.f (k : Nat) (a0 : ByteArray) : Option ((List (S85)) × Int) := (seal_Take.f a0).bind fun bt353 => (if bt353.2 = 0 then ((le_Reader_Number.f k bt353.1 false 1).bind fun bt356 => (dir_Take.l0 k ([] : List (S85)) bt356.1 0 bt356.2.1 bt356.2.2)) else (some (([] : List (S85)), bt353.2)))
set_option maxHeartbeats 8000000 in
set_option maxRecDepth 100000 in
theorem dir_Take.calls (k : Nat) (a0 : ByteArray) (r1 : List (S85)) (r2 : Int) (w : World) (ht : TabsW w) (h : dir_Take.f k a0 = some (r1, r2)) :
  Calls Tryz.prog 64 #[.string a0] w fun e w' => ∃ v0_ : Value, e = .returned (.tuple #[v0_, .int .i64 r2]) ∧ Kd.S k85 85 w' w.heap.size (fun _ => True) v0_ r1 ∧ Below w.heap.size w w' := by
 have hu179 := Tryz.underlying179
 have HT0 := zA ht
 clear ht
 have HB := zA (Below.refl w.heap.size w)
 have H : ((seal_Take.f a0).bind fun bt353 => (if bt353.2 = 0 then ((le_Reader_Number.f k bt353.1 false 1).bind fun bt356 => (dir_Take.l0 k ([] : List (S85)) bt356.1 0 bt356.2.1 bt356.2.2)) else (some (([] : List (S85)), bt353.2)))) = some (r1, r2) := h
 clear h
 replace H := Option.bind_eq_some_iff.mp H
 obtain ⟨⟨t353, t354⟩, A20, H⟩ := H
 replace H : (if t354 = 0 then ((le_Reader_Number.f k t353 false 1).bind fun bt356 => (dir_Take.l0 k ([] : List (S85)) bt356.1 0 bt356.2.1 bt356.2.2)) else (some (([] : List (S85)), t354))) = some (r1, r2) := H
 have A2 := zA A20
 clear A20
 by_cases c3 : t354 = 0
 ·rw [if_pos c3] at H
  have c3b0 : (t354 == 0) = true := beq_iff_eq.mpr c3
  have c3b1 : (t354 != 0) = false := bne_eq_false_iff_eq.mpr c3
  clear c3
  replace H := Option.bind_eq_some_iff.mp H
  obtain ⟨⟨t356, t357, t358⟩, A40, H⟩ := H
  replace H : (dir_Take.l0 k ([] : List (S85)) t356 0 t357 t358) = some (r1, r2) := H
  have A4 := zA A40
  clear A40
  have H' := zA H
  clear H
  go_enter Tryz.func64, Tryz.ntmps64
  go_wp2_with (first | ((with_reducible refine gate_callee (f := 120) rfl ?_); refine goesL_ (some 10) rfl rfl Tryz.func120 (by kernel_rfl) rfl #[.string a0] rfl argA ?_; (with_reducible refine (seal_Take.calls a0 t353 t354 _ A2.out).mono ?_); rintro e w5 ⟨rfl, hb⟩; refine ⟨_, rfl, ?_⟩; have n0_ := zA (zL belA hb); clear HB; have HB := n0_; clear n0_; (try clear hb); (try clear hb2); (try clear hk); (try clear hi)) | ((with_reducible refine gate_dst (N := 18) rfl ?_); refine box_event ?hg (N := 18) ?hd (cs := #[.string t353, .bool false]) (t := 179) ?hr ?_; (case hd => rfl); (case hg => rfl); (case hr => first | (go_simp; done) | (go_simp; rfl)); intro gb355 hg w6 hbox hb; have n0_ := zA (zL belA hb); have n1_ := zA ((show IsS179 w w6 gb355 t353 false from ⟨hbox, (by rw [hg]; exact (below_size belA) : w.heap.size ≤ gb355)⟩)); have n2_ := zA ((by rw [hg]; exact (below_size belA) : w.heap.size ≤ gb355)); have n3_ := zA ((by rw [hg]; exact (below_size belA) : w.heap.size ≤ gb355)); clear HB; have HB := n0_; have HI355 := n1_; have GW355 := n2_; have GE355 := n3_; clear n0_ n1_ n2_ n3_; clear hb hbox hg) | ((with_reducible refine gate_callee (f := 121) rfl ?_); refine goesL_ (some 20) rfl rfl Tryz.func121 (by kernel_rfl) rfl #[.pointer (some ⟨gb355, 0, none⟩), .int .i64 1] rfl argA ?_; (with_reducible refine (le_Reader_Number.calls k gb355 t353 false 1 t356 t357 t358 w _ ?side1 ?side2 A4.out).mono ?_); (case side1 => exact rW6); (case side2 => exact rW3); rintro e w7 ⟨rfl, hi, hb, hk⟩; refine ⟨_, rfl, ?_⟩; have n0_ := zA (hb); have n1_ := zA (hi); clear HB; clear HI355; have HB := n0_; have HI355 := n1_; clear n0_ n1_; (try clear hb); (try clear hb2); (try clear hk); (try clear hi)))
  go_loopg [7, 21] k (fun kq v7 v21 w' => ∃ (x7_1 : List (S85)) (x21_1 : Int) (x356000_1 : ByteArray) (x356001_1 : Bool), v21 = .int .u64 x21_1 ∧ Aside0 (dir_Take.l0 kq x7_1 t356 x21_1 x356000_1 x356001_1 = some (r1, r2)) ∧ Aside0 (kq ≤ k) ∧ Aside0 (Kd.S k85 85 w' w.heap.size (fun _ => True) v7 x7_1) ∧ Aside0 (IsS179 w w' gb355 x356000_1 x356001_1) ∧ Aside0 (Below w.heap.size w w'))
  case atStart => exact ⟨(([] : List (S85))), (0), (t357), (t358), (rfB), H', ⟨Nat.le_refl _⟩, ⟨by first | exact Kd.S_nil _ _ _ _ _ | exact Kd.N_nil _ _ _ _ _ | exact Kd.V_nil _ _ _ _ _ | exact Kd.Q_nil _ _ _ _ _ | exact Kd.R_nil _ _ _ _ _⟩, ⟨rW6⟩, ⟨rW3⟩⟩
  case round =>
   clear H'
   try clear c1
   try clear p2
   try clear c3
   try clear c3b0
   try clear c3b1
   try clear c6
   obtain ⟨x7_1, x21_1, x356000_1, x356001_1, rfl, HA, HK1, HO_7, HI355, HB⟩ := hrel
   cases gk with
   | zero => exact absurd HA.out (by simp [dir_Take.l0])
   | succ k1 =>
    have H := HA.out
    clear HA
    simp only [dir_Take.l0] at H
    by_cases c8 : x21_1 < t356
    ·rw [if_pos c8] at H
     have c8b0 : decide (x21_1 < t356) = true := zH c8
     clear c8
     replace H := Option.bind_eq_some_iff.mp H
     obtain ⟨⟨t359, t360, t361, t364, t365⟩, A90, H⟩ := H
     replace H : (if x7_1.length < 2932031007402 then (dir_Take.l0 k1 (x7_1 ++ [(⟨t359, t360, t361⟩ : S85)]) t356 (IntKind.u64.wrap (x21_1 + 1)) t364 t365) else (none)) = some (r1, r2) := H
     have A9 := zA A90
     clear A90
     by_cases c10 : x7_1.length < 2932031007402
     ·rw [if_pos c10] at H
      have LMc10 := zA c10
      clear c10
      obtain ⟨y366, hy366⟩ : ∃ y_ : List (S85), y_ = (x7_1 ++ [(⟨t359, t360, t361⟩ : S85)]) := ⟨_, rfl⟩
      replace H : (dir_Take.l0 k1 y366 t356 (IntKind.u64.wrap (x21_1 + 1)) t364 t365) = some (r1, r2) := by first | (rw [hy366]; with_reducible exact H) | (have H2_ := (Option.bind_some _ _).symm.trans H; rw [hy366]; with_reducible exact H2_) | (have H2_ := (Option.bind_some _ _).symm.trans H; with_reducible exact H2_) | with_reducible exact H | (rw [hy366]; exact H) | exact H
      have Ny366 := zA hy366
      clear hy366
      have H' := zA H
      clear H
      go_wp2_with (first | ((with_reducible refine gate_callee (f := 122) rfl ?_); refine goesL_ (some 25) rfl rfl Tryz.func122 (by kernel_rfl) rfl #[.pointer (some ⟨gb355, 0, none⟩)] rfl argA ?_; (with_reducible refine (dir_file.calls k1 gb355 x356000_1 x356001_1 t359 t360 t361 t364 t365 w _ ?side1 ?side2 A9.out).mono ?_); (case side1 => exact rW6); (case side2 => exact rW3); rintro e w11 ⟨v362, rfl, ho0, hi, hb, hk⟩; refine ⟨_, rfl, ?_⟩; have n0_ := zA (Kd.S_mono (Kd.S_told (Kd.S_oldK (IsS179.apartS (show IsS179 w _ gb355 x356000_1 x356001_1 from rW6) (kdS_ HO_7.out) (by decide)) hk) (Kd.R_base ho0)) (fun _ h_ => h_.1)); have n1_ := zA (Kd.R_lower ho0 (below_size (rW3))); have n2_ := zA (hb); have n3_ := zA (hi); clear HO_7; clear HB; clear HI355; have HO_7 := n0_; have HO363 := n1_; have HB := n2_; have HI355 := n3_; clear n0_ n1_ n2_ n3_; (try clear hb); (try clear hb2); (try clear hk); (try clear hi); (try clear ho0); obtain ⟨Ao13, co13, eo13⟩ := Kd.R_slice HO363.out; subst eo13) | ((with_reducible refine gate_builtin (b := .append) (xs := #[.tmp 23, .tmp 26]) rfl ?_); at_builtin; refine Kd.S_append k85 (w0 := w) w.heap.size rfl (.tmp 23) (.tmp 26) 40 85 (.agg #[(.string ⟨#[]⟩), (.int .i64 0), (.slice none 0 0)]) 48 rfl Tryz.underlying40 info85 rfl (by decide) (by omega) u7 x7_1 (⟨t359, t360, t361⟩ : S85) [.string t359, .int .i64 t360, .slice Ao13 t361.length co13] (fun _ => True) (fun k_ => some k_ = (.slice Ao13 t361.length co13 : Value).ownBlock) rfl rfl ?aP (fun k_ hk_ => ((Kd.R_mono (ok' := fun k_ => ((fun _ => True)) k_ ∧ some k_ ≠ (u7 : Value).ownBlock) (Kd.R_apart' (HO363.out) (Kd.S_typed HO_7.out) (by decide)) (fun k_ hk => ⟨trivial, hk.2⟩))).1 k_ hk_.symm) ?aF ?aO ?aB ?aS ?aL ?_; (case aP => exact k85_mkM _ _ _ (⟨t359, t360, t361⟩ : S85) (Kd.R_mono (Kd.R_tight rfl (Kd.R_mono (ok' := fun k_ => ((fun _ => True)) k_ ∧ some k_ ≠ (u7 : Value).ownBlock) (Kd.R_apart' (HO363.out) (Kd.S_typed HO_7.out) (by decide)) (fun k_ hk => ⟨trivial, hk.2⟩))) (fun _ h_ => h_))); (case aB => exact (rW3)); (case aF => exact (fun _ _ => trivial)); (case aO => exact (by (with_reducible repeat (first | apply Kd.S_alloc | apply Kd.S_drewN | apply Kd.S_drew)); exact Kd.S_mono HO_7.out (fun k_ hk => ⟨trivial, fun e_ => hk.2 e_⟩))); (case aS => exact (below_size (rW3))); (case aL => have := LMc10.out; omega); intro v367 w12 ho hb hg hat; rw [← Ny366.out] at ho; have n0_ := zA (IsS179.grown (show IsS179 w _ gb355 t364 t365 from rW6) hg (IsS179.own_neS HI355.out HO_7.out (by decide))); have n1_ := zA (hb); have n2_ := zA (ho); clear HI355; clear HB; clear HO_7; clear HO363; have HI355 := n0_; have HB := n1_; have HO368 := n2_; clear n0_ n1_ n2_; clear ho hb hg hat))
      go_roundg k1
      case measure => have := HK1.out; omega
      case rel => exact ⟨(y366), (IntKind.u64.wrap (x21_1 + 1)), (t364), (t365), (rfB), H', ⟨by have := HK1.out; omega⟩, ⟨by (with_reducible repeat (first | apply Kd.S_alloc | apply Kd.S_drewN | apply Kd.S_drew)); exact HO368.out⟩, ⟨rW6⟩, ⟨rW3⟩⟩
     ·rw [if_neg c10] at H
      exact absurd H (by simp)
    ·rw [if_neg c8] at H
     have c8b0 : decide (x21_1 < t356) = false := zI c8
     clear c8
     replace H := Option.bind_eq_some_iff.mp H
     obtain ⟨⟨t369, t370, t371⟩, A140, H⟩ := H
     replace H : (if t369 = true then ((dir_directory.f k1 x7_1).bind fun t372 => (if t372 = true then (some (x7_1, 0)) else (some (([] : List (S85)), 2)))) else (some (([] : List (S85)), 2))) = some (r1, r2) := H
     have A14 := zA A140
     clear A140
     by_cases c15 : t369 = true
     ·subst c15
      have H1 : ((dir_directory.f k1 x7_1).bind fun t372 => (if t372 = true then (some (x7_1, 0)) else (some (([] : List (S85)), 2)))) = some (r1, r2) := by rw [if_pos rfl] at H; exact H
      clear H
      have H := H1
      clear H1
      replace H := Option.bind_eq_some_iff.mp H
      obtain ⟨t372, A160, H⟩ := H
      replace H : (if t372 = true then (some (x7_1, 0)) else (some (([] : List (S85)), 2))) = some (r1, r2) := H
      have A16 := zA A160
      clear A160
      by_cases c17 : t372 = true
      ·subst c17
       have H1 : (some (x7_1, 0)) = some (r1, r2) := by rw [if_pos rfl] at H; exact H
       clear H
       have H := H1
       clear H1
       simp only [Option.some.injEq, Prod.mk.injEq] at H
       obtain ⟨rfl, rfl⟩ := H
       go_wp2_with (first | ((with_reducible refine gate_callee (f := 123) rfl ?_); refine goesL_ (some 30) rfl rfl Tryz.func123 (by kernel_rfl) rfl #[.pointer (some ⟨gb355, 0, none⟩)] rfl argA ?_; (with_reducible refine (le_Reader_Over.calls gb355 x356000_1 x356001_1 true t370 t371 w _ ?side1 ?side2 A14.out).mono ?_); (case side1 => exact rW6); (case side2 => exact rW3); rintro e w18 ⟨rfl, hi, hb, hk⟩; refine ⟨_, rfl, ?_⟩; have n0_ := zA (Kd.S_mono (Kd.S_keep (IsS179.apartS (show IsS179 w _ gb355 x356000_1 x356001_1 from rW6) (kdS_ HO_7.out) (by decide)) hk (fun _ h => h.2)) (fun _ h => h.1)); have n1_ := zA (hb); have n2_ := zA (hi); clear HO_7; clear HB; clear HI355; have HO_7 := n0_; have HB := n1_; have HI355 := n2_; clear n0_ n1_ n2_; (try clear hb); (try clear hb2); (try clear hk); (try clear hi); obtain ⟨Ao19, co19, eo19⟩ := Kd.S_slice HO_7.out; subst eo19) | (go_at_call 79; (with_reducible refine (dir_directory.calls k1 _ _ x7_1 true _ ?side1 ?side2 ?side3 A16.out).mono ?_); (case side1 => repeat (first | exact (Kd.S_reads' HO_7.out).2.2 | (with_reducible refine Kd.C_alloc ?_ _) | (with_reducible refine Kd.C_drewN ?_ _) | (with_reducible refine Kd.C_drew ?_))); (case side2 => exact (Kd.S_reads' HO_7.out).2.1); (case side3 => exact TabsW.below HT0.out (rW3)); rintro e w20 ⟨rfl, hb⟩; have n0_ := zA (Kd.S_below (kdS_ HO_7.out) hb); have n1_ := zA (IsS179.below (rW6) hb); have n2_ := zA (zL (rW3) hb); clear HO_7; clear HI355; clear HB; have HO_7 := n0_; have HI355 := n1_; have HB := n2_; clear n0_ n1_ n2_; (try clear hb); (try clear hb2); (try clear hk); (try clear hi)))
       go_ret2
       exact ⟨_, rfA, by (with_reducible repeat (first | apply Kd.S_alloc | apply Kd.S_drewN | apply Kd.S_drew)); exact HO_7.out, rW3⟩
      ·replace c17 := Bool.eq_false_iff.mpr c17
       subst c17
       have H1 : (some (([] : List (S85)), 2)) = some (r1, r2) := by rw [if_neg (show ¬ (false = true) by decide)] at H; exact H
       clear H
       have H := H1
       clear H1
       simp only [Option.some.injEq, Prod.mk.injEq] at H
       obtain ⟨rfl, rfl⟩ := H
       go_wp2_with (first | ((with_reducible refine gate_callee (f := 123) rfl ?_); refine goesL_ (some 30) rfl rfl Tryz.func123 (by kernel_rfl) rfl #[.pointer (some ⟨gb355, 0, none⟩)] rfl argA ?_; (with_reducible refine (le_Reader_Over.calls gb355 x356000_1 x356001_1 true t370 t371 w _ ?side1 ?side2 A14.out).mono ?_); (case side1 => exact rW6); (case side2 => exact rW3); rintro e w21 ⟨rfl, hi, hb, hk⟩; refine ⟨_, rfl, ?_⟩; have n0_ := zA (Kd.S_mono (Kd.S_keep (IsS179.apartS (show IsS179 w _ gb355 x356000_1 x356001_1 from rW6) (kdS_ HO_7.out) (by decide)) hk (fun _ h => h.2)) (fun _ h => h.1)); have n1_ := zA (hb); have n2_ := zA (hi); clear HO_7; clear HB; clear HI355; have HO_7 := n0_; have HB := n1_; have HI355 := n2_; clear n0_ n1_ n2_; (try clear hb); (try clear hb2); (try clear hk); (try clear hi); obtain ⟨Ao22, co22, eo22⟩ := Kd.S_slice HO_7.out; subst eo22) | (go_at_call 79; (with_reducible refine (dir_directory.calls k1 _ _ x7_1 false _ ?side1 ?side2 ?side3 A16.out).mono ?_); (case side1 => repeat (first | exact (Kd.S_reads' HO_7.out).2.2 | (with_reducible refine Kd.C_alloc ?_ _) | (with_reducible refine Kd.C_drewN ?_ _) | (with_reducible refine Kd.C_drew ?_))); (case side2 => exact (Kd.S_reads' HO_7.out).2.1); (case side3 => exact TabsW.below HT0.out (rW3)); rintro e w23 ⟨rfl, hb⟩; have n0_ := zA (Kd.S_below (kdS_ HO_7.out) hb); have n1_ := zA (IsS179.below (rW6) hb); have n2_ := zA (zL (rW3) hb); clear HO_7; clear HI355; clear HB; have HO_7 := n0_; have HI355 := n1_; have HB := n2_; clear n0_ n1_ n2_; (try clear hb); (try clear hb2); (try clear hk); (try clear hi)))
       go_ret2
       exact ⟨_, rfA, by first | exact Kd.S_nil _ _ _ _ _ | exact Kd.N_nil _ _ _ _ _ | exact Kd.V_nil _ _ _ _ _ | exact Kd.Q_nil _ _ _ _ _ | exact Kd.R_nil _ _ _ _ _, rW3⟩
     ·replace c15 := Bool.eq_false_iff.mpr c15
      subst c15
      have H1 : (some (([] : List (S85)), 2)) = some (r1, r2) := by rw [if_neg (show ¬ (false = true) by decide)] at H; exact H
      clear H
      have H := H1
      clear H1
      simp only [Option.some.injEq, Prod.mk.injEq] at H
      obtain ⟨rfl, rfl⟩ := H
      go_wp2_with (first | ((with_reducible refine gate_callee (f := 123) rfl ?_); refine goesL_ (some 30) rfl rfl Tryz.func123 (by kernel_rfl) rfl #[.pointer (some ⟨gb355, 0, none⟩)] rfl argA ?_; (with_reducible refine (le_Reader_Over.calls gb355 x356000_1 x356001_1 false t370 t371 w _ ?side1 ?side2 A14.out).mono ?_); (case side1 => exact rW6); (case side2 => exact rW3); rintro e w24 ⟨rfl, hi, hb, hk⟩; refine ⟨_, rfl, ?_⟩; have n0_ := zA (Kd.S_mono (Kd.S_keep (IsS179.apartS (show IsS179 w _ gb355 x356000_1 x356001_1 from rW6) (kdS_ HO_7.out) (by decide)) hk (fun _ h => h.2)) (fun _ h => h.1)); have n1_ := zA (hb); have n2_ := zA (hi); clear HO_7; clear HB; clear HI355; have HO_7 := n0_; have HB := n1_; have HI355 := n2_; clear n0_ n1_ n2_; (try clear hb); (try clear hb2); (try clear hk); (try clear hi)))
      go_ret2
      exact ⟨_, rfA, by first | exact Kd.S_nil _ _ _ _ _ | exact Kd.N_nil _ _ _ _ _ | exact Kd.V_nil _ _ _ _ _ | exact Kd.Q_nil _ _ _ _ _ | exact Kd.R_nil _ _ _ _ _, rW3⟩
 ·rw [if_neg c3] at H
  have c3b0 : (t354 == 0) = false := beq_eq_false_iff_ne.mpr c3
  have c3b1 : (t354 != 0) = true := bne_iff_ne.mpr c3
  simp only [Option.some.injEq, Prod.mk.injEq] at H
  obtain ⟨rfl, rfl⟩ := H
  go_enter Tryz.func64, Tryz.ntmps64
  go_wp2_with (first | ((with_reducible refine gate_callee (f := 120) rfl ?_); refine goesL_ (some 10) rfl rfl Tryz.func120 (by kernel_rfl) rfl #[.string a0] rfl argA ?_; (with_reducible refine (seal_Take.calls a0 t353 t354 _ A2.out).mono ?_); rintro e w25 ⟨rfl, hb⟩; refine ⟨_, rfl, ?_⟩; have n0_ := zA (zL belA hb); clear HB; have HB := n0_; clear n0_; (try clear hb); (try clear hb2); (try clear hk); (try clear hi)))
  go_ret2
  exact ⟨_, rfA, by first | exact Kd.S_nil _ _ _ _ _ | exact Kd.N_nil _ _ _ _ _ | exact Kd.V_nil _ _ _ _ _ | exact Kd.Q_nil _ _ _ _ _ | exact Kd.R_nil _ _ _ _ _, rW0⟩
-- NOT PRINTED: function 23 (vol_Mount)
-- NOT PRINTED: function 27 (dev_Device_Power)
-- NOT PRINTED: function 10 (rootcellarlaw8_shown)
def rootcellarlaw8_pick.f (a0 : Int) (a1 : Int) : Option (Int) := if a0 < 0 then (if a1 = 0 then (none) else (some (Int.tmod (wrap64 (-(wrap64 (a0 + 1)))) a1))) else (if a1 = 0 then (none) else (some (Int.tmod a0 a1)))
set_option maxHeartbeats 8000000 in
set_option maxRecDepth 100000 in
theorem rootcellarlaw8_pick.calls (a0 : Int) (a1 : Int) (r : Int) (w : World) (h : rootcellarlaw8_pick.f a0 a1 = some r) :
  Calls Tryz.prog 17 #[.int .i64 a0, .int .i64 a1] w fun e w' => e = .returned (.int .i64 r) ∧ Drawn0 w w' := by
 have H : (if a0 < 0 then (if a1 = 0 then (none) else (some (Int.tmod (wrap64 (-(wrap64 (a0 + 1)))) a1))) else (if a1 = 0 then (none) else (some (Int.tmod a0 a1)))) = some r := h
 clear h
 by_cases c3 : a0 < 0
 ·rw [if_pos c3] at H
  have c3b0 : decide (a0 < 0) = true := zH c3
  clear c3
  by_cases c4 : a1 = 0
  ·rw [if_pos c4] at H
   exact absurd H (by simp)
  ·rw [if_neg c4] at H
   have c4b0 : (a1 == 0) = false := beq_eq_false_iff_ne.mpr c4
   have c4b1 : (a1 != 0) = true := bne_iff_ne.mpr c4
   obtain rfl := Option.some.inj H
   go_enter Tryz.func17, Tryz.ntmps17
   go_wp2
   go_ret
   exact ⟨rfB, by repeat (first | exact Drawn0.refl _ | apply Drawn0.step)⟩
 ·rw [if_neg c3] at H
  have c3b0 : decide (a0 < 0) = false := zI c3
  clear c3
  by_cases c5 : a1 = 0
  ·rw [if_pos c5] at H
   exact absurd H (by simp)
  ·rw [if_neg c5] at H
   have c5b0 : (a1 == 0) = false := beq_eq_false_iff_ne.mpr c5
   have c5b1 : (a1 != 0) = true := bne_iff_ne.mpr c5
   obtain rfl := Option.some.inj H
   go_enter Tryz.func17, Tryz.ntmps17
   go_wp2
   go_ret
   exact ⟨rfB, by repeat (first | exact Drawn0.refl _ | apply Drawn0.step)⟩
def rootcellarlaw8_numbered.f (a0 : Int) : Option (ByteArray) := if 0 ≤ (Int.tmod (wrap64 (Int.tdiv a0 100)) 10) then (if (Int.tmod (wrap64 (Int.tdiv a0 100)) 10) ≤ (wrap64 ((Int.tmod (wrap64 (Int.tdiv a0 100)) 10) + 1)) then (if (wrap64 ((Int.tmod (wrap64 (Int.tdiv a0 100)) 10) + 1)) ≤ 10 then (if 1 + ((⟨#[48, 49, 50, 51, 52, 53, 54, 55, 56, 57]⟩ : ByteArray).extract ((Int.tmod (wrap64 (Int.tdiv a0 100)) 10) : Int).toNat ((wrap64 ((Int.tmod (wrap64 (Int.tdiv a0 100)) 10) + 1)) : Int).toNat).size ≤ 9223372036854775807 then (if 0 ≤ (Int.tmod (wrap64 (Int.tdiv a0 10)) 10) then (if (Int.tmod (wrap64 (Int.tdiv a0 10)) 10) ≤ (wrap64 ((Int.tmod (wrap64 (Int.tdiv a0 10)) 10) + 1)) then (if (wrap64 ((Int.tmod (wrap64 (Int.tdiv a0 10)) 10) + 1)) ≤ 10 then (if ((⟨#[102]⟩ : ByteArray) ++ ((⟨#[48, 49, 50, 51, 52, 53, 54, 55, 56, 57]⟩ : ByteArray).extract ((Int.tmod (wrap64 (Int.tdiv a0 100)) 10) : Int).toNat ((wrap64 ((Int.tmod (wrap64 (Int.tdiv a0 100)) 10) + 1)) : Int).toNat)).size + ((⟨#[48, 49, 50, 51, 52, 53, 54, 55, 56, 57]⟩ : ByteArray).extract ((Int.tmod (wrap64 (Int.tdiv a0 10)) 10) : Int).toNat ((wrap64 ((Int.tmod (wrap64 (Int.tdiv a0 10)) 10) + 1)) : Int).toNat).size ≤ 9223372036854775807 then (if 0 ≤ (Int.tmod a0 10) then (if (Int.tmod a0 10) ≤ (wrap64 ((Int.tmod a0 10) + 1)) then (if (wrap64 ((Int.tmod a0 10) + 1)) ≤ 10 then (if (((⟨#[102]⟩ : ByteArray) ++ ((⟨#[48, 49, 50, 51, 52, 53, 54, 55, 56, 57]⟩ : ByteArray).extract ((Int.tmod (wrap64 (Int.tdiv a0 100)) 10) : Int).toNat ((wrap64 ((Int.tmod (wrap64 (Int.tdiv a0 100)) 10) + 1)) : Int).toNat)) ++ ((⟨#[48, 49, 50, 51, 52, 53, 54, 55, 56, 57]⟩ : ByteArray).extract ((Int.tmod (wrap64 (Int.tdiv a0 10)) 10) : Int).toNat ((wrap64 ((Int.tmod (wrap64 (Int.tdiv a0 10)) 10) + 1)) : Int).toNat)).size + ((⟨#[48, 49, 50, 51, 52, 53, 54, 55, 56, 57]⟩ : ByteArray).extract ((Int.tmod a0 10) : Int).toNat ((wrap64 ((Int.tmod a0 10) + 1)) : Int).toNat).size ≤ 9223372036854775807 then (some ((((⟨#[102]⟩ : ByteArray) ++ ((⟨#[48, 49, 50, 51, 52, 53, 54, 55, 56, 57]⟩ : ByteArray).extract ((Int.tmod (wrap64 (Int.tdiv a0 100)) 10) : Int).toNat ((wrap64 ((Int.tmod (wrap64 (Int.tdiv a0 100)) 10) + 1)) : Int).toNat)) ++ ((⟨#[48, 49, 50, 51, 52, 53, 54, 55, 56, 57]⟩ : ByteArray).extract ((Int.tmod (wrap64 (Int.tdiv a0 10)) 10) : Int).toNat ((wrap64 ((Int.tmod (wrap64 (Int.tdiv a0 10)) 10) + 1)) : Int).toNat)) ++ ((⟨#[48, 49, 50, 51, 52, 53, 54, 55, 56, 57]⟩ : ByteArray).extract ((Int.tmod a0 10) : Int).toNat ((wrap64 ((Int.tmod a0 10) + 1)) : Int).toNat))) else (none)) else (none)) else (none)) else (none)) else (none)) else (none)) else (none)) else (none)) else (none)) else (none)) else (none)) else (none)
set_option maxHeartbeats 8000000 in
set_option maxRecDepth 100000 in
theorem rootcellarlaw8_numbered.calls (a0 : Int) (r : ByteArray) (w : World) (h : rootcellarlaw8_numbered.f a0 = some r) :
  Calls Tryz.prog 18 #[.int .i64 a0] w fun e w' => e = .returned (.string r) ∧ Drawn0 w w' := by
 have H : (if 0 ≤ (Int.tmod (wrap64 (Int.tdiv a0 100)) 10) then (if (Int.tmod (wrap64 (Int.tdiv a0 100)) 10) ≤ (wrap64 ((Int.tmod (wrap64 (Int.tdiv a0 100)) 10) + 1)) then (if (wrap64 ((Int.tmod (wrap64 (Int.tdiv a0 100)) 10) + 1)) ≤ 10 then (if 1 + ((⟨#[48, 49, 50, 51, 52, 53, 54, 55, 56, 57]⟩ : ByteArray).extract ((Int.tmod (wrap64 (Int.tdiv a0 100)) 10) : Int).toNat ((wrap64 ((Int.tmod (wrap64 (Int.tdiv a0 100)) 10) + 1)) : Int).toNat).size ≤ 9223372036854775807 then (if 0 ≤ (Int.tmod (wrap64 (Int.tdiv a0 10)) 10) then (if (Int.tmod (wrap64 (Int.tdiv a0 10)) 10) ≤ (wrap64 ((Int.tmod (wrap64 (Int.tdiv a0 10)) 10) + 1)) then (if (wrap64 ((Int.tmod (wrap64 (Int.tdiv a0 10)) 10) + 1)) ≤ 10 then (if ((⟨#[102]⟩ : ByteArray) ++ ((⟨#[48, 49, 50, 51, 52, 53, 54, 55, 56, 57]⟩ : ByteArray).extract ((Int.tmod (wrap64 (Int.tdiv a0 100)) 10) : Int).toNat ((wrap64 ((Int.tmod (wrap64 (Int.tdiv a0 100)) 10) + 1)) : Int).toNat)).size + ((⟨#[48, 49, 50, 51, 52, 53, 54, 55, 56, 57]⟩ : ByteArray).extract ((Int.tmod (wrap64 (Int.tdiv a0 10)) 10) : Int).toNat ((wrap64 ((Int.tmod (wrap64 (Int.tdiv a0 10)) 10) + 1)) : Int).toNat).size ≤ 9223372036854775807 then (if 0 ≤ (Int.tmod a0 10) then (if (Int.tmod a0 10) ≤ (wrap64 ((Int.tmod a0 10) + 1)) then (if (wrap64 ((Int.tmod a0 10) + 1)) ≤ 10 then (if (((⟨#[102]⟩ : ByteArray) ++ ((⟨#[48, 49, 50, 51, 52, 53, 54, 55, 56, 57]⟩ : ByteArray).extract ((Int.tmod (wrap64 (Int.tdiv a0 100)) 10) : Int).toNat ((wrap64 ((Int.tmod (wrap64 (Int.tdiv a0 100)) 10) + 1)) : Int).toNat)) ++ ((⟨#[48, 49, 50, 51, 52, 53, 54, 55, 56, 57]⟩ : ByteArray).extract ((Int.tmod (wrap64 (Int.tdiv a0 10)) 10) : Int).toNat ((wrap64 ((Int.tmod (wrap64 (Int.tdiv a0 10)) 10) + 1)) : Int).toNat)).size + ((⟨#[48, 49, 50, 51, 52, 53, 54, 55, 56, 57]⟩ : ByteArray).extract ((Int.tmod a0 10) : Int).toNat ((wrap64 ((Int.tmod a0 10) + 1)) : Int).toNat).size ≤ 9223372036854775807 then (some ((((⟨#[102]⟩ : ByteArray) ++ ((⟨#[48, 49, 50, 51, 52, 53, 54, 55, 56, 57]⟩ : ByteArray).extract ((Int.tmod (wrap64 (Int.tdiv a0 100)) 10) : Int).toNat ((wrap64 ((Int.tmod (wrap64 (Int.tdiv a0 100)) 10) + 1)) : Int).toNat)) ++ ((⟨#[48, 49, 50, 51, 52, 53, 54, 55, 56, 57]⟩ : ByteArray).extract ((Int.tmod (wrap64 (Int.tdiv a0 10)) 10) : Int).toNat ((wrap64 ((Int.tmod (wrap64 (Int.tdiv a0 10)) 10) + 1)) : Int).toNat)) ++ ((⟨#[48, 49, 50, 51, 52, 53, 54, 55, 56, 57]⟩ : ByteArray).extract ((Int.tmod a0 10) : Int).toNat ((wrap64 ((Int.tmod a0 10) + 1)) : Int).toNat))) else (none)) else (none)) else (none)) else (none)) else (none)) else (none)) else (none)) else (none)) else (none)) else (none)) else (none)) else (none)) = some r := h
 clear h
 obtain ⟨ji2, hji2⟩ : ∃ j_ : Int, (Int.tmod (wrap64 (Int.tdiv a0 100)) 10) = j_ := ⟨_, rfl⟩
 replace H : (if 0 ≤ (ji2) then (if (ji2) ≤ (wrap64 ((ji2) + 1)) then (if (wrap64 ((ji2) + 1)) ≤ 10 then (if 1 + ((⟨#[48, 49, 50, 51, 52, 53, 54, 55, 56, 57]⟩ : ByteArray).extract ((ji2) : Int).toNat ((wrap64 ((ji2) + 1)) : Int).toNat).size ≤ 9223372036854775807 then (if 0 ≤ (Int.tmod (wrap64 (Int.tdiv a0 10)) 10) then (if (Int.tmod (wrap64 (Int.tdiv a0 10)) 10) ≤ (wrap64 ((Int.tmod (wrap64 (Int.tdiv a0 10)) 10) + 1)) then (if (wrap64 ((Int.tmod (wrap64 (Int.tdiv a0 10)) 10) + 1)) ≤ 10 then (if ((⟨#[102]⟩ : ByteArray) ++ ((⟨#[48, 49, 50, 51, 52, 53, 54, 55, 56, 57]⟩ : ByteArray).extract ((ji2) : Int).toNat ((wrap64 ((ji2) + 1)) : Int).toNat)).size + ((⟨#[48, 49, 50, 51, 52, 53, 54, 55, 56, 57]⟩ : ByteArray).extract ((Int.tmod (wrap64 (Int.tdiv a0 10)) 10) : Int).toNat ((wrap64 ((Int.tmod (wrap64 (Int.tdiv a0 10)) 10) + 1)) : Int).toNat).size ≤ 9223372036854775807 then (if 0 ≤ (Int.tmod a0 10) then (if (Int.tmod a0 10) ≤ (wrap64 ((Int.tmod a0 10) + 1)) then (if (wrap64 ((Int.tmod a0 10) + 1)) ≤ 10 then (if (((⟨#[102]⟩ : ByteArray) ++ ((⟨#[48, 49, 50, 51, 52, 53, 54, 55, 56, 57]⟩ : ByteArray).extract ((ji2) : Int).toNat ((wrap64 ((ji2) + 1)) : Int).toNat)) ++ ((⟨#[48, 49, 50, 51, 52, 53, 54, 55, 56, 57]⟩ : ByteArray).extract ((Int.tmod (wrap64 (Int.tdiv a0 10)) 10) : Int).toNat ((wrap64 ((Int.tmod (wrap64 (Int.tdiv a0 10)) 10) + 1)) : Int).toNat)).size + ((⟨#[48, 49, 50, 51, 52, 53, 54, 55, 56, 57]⟩ : ByteArray).extract ((Int.tmod a0 10) : Int).toNat ((wrap64 ((Int.tmod a0 10) + 1)) : Int).toNat).size ≤ 9223372036854775807 then (some ((((⟨#[102]⟩ : ByteArray) ++ ((⟨#[48, 49, 50, 51, 52, 53, 54, 55, 56, 57]⟩ : ByteArray).extract ((ji2) : Int).toNat ((wrap64 ((ji2) + 1)) : Int).toNat)) ++ ((⟨#[48, 49, 50, 51, 52, 53, 54, 55, 56, 57]⟩ : ByteArray).extract ((Int.tmod (wrap64 (Int.tdiv a0 10)) 10) : Int).toNat ((wrap64 ((Int.tmod (wrap64 (Int.tdiv a0 10)) 10) + 1)) : Int).toNat)) ++ ((⟨#[48, 49, 50, 51, 52, 53, 54, 55, 56, 57]⟩ : ByteArray).extract ((Int.tmod a0 10) : Int).toNat ((wrap64 ((Int.tmod a0 10) + 1)) : Int).toNat))) else (none)) else (none)) else (none)) else (none)) else (none)) else (none)) else (none)) else (none)) else (none)) else (none)) else (none)) else (none)) = some r := by first | (rw [hji2] at H; exact H) | (simp only [hji2] at H ⊢; exact H)
 by_cases c3 : 0 ≤ (ji2)
 ·rw [if_pos c3] at H
  have c3b0 := eq_true c3
  have c3b1 : decide (0 ≤ (ji2)) = true := zH c3
  clear c3
  by_cases c4 : (ji2) ≤ (wrap64 ((ji2) + 1))
  ·rw [if_pos c4] at H
   have c4b0 := eq_true c4
   have c4b1 : decide ((ji2) ≤ (wrap64 ((ji2) + 1))) = true := zH c4
   by_cases c5 : (wrap64 ((ji2) + 1)) ≤ 10
   ·rw [if_pos c5] at H
    have c5b0 := eq_true c5
    have c5b1 : decide ((wrap64 ((ji2) + 1)) ≤ 10) = true := zH c5
    by_cases c6 : 1 + ((⟨#[48, 49, 50, 51, 52, 53, 54, 55, 56, 57]⟩ : ByteArray).extract ((ji2) : Int).toNat ((wrap64 ((ji2) + 1)) : Int).toNat).size ≤ 9223372036854775807
    ·rw [if_pos c6] at H
     have c6b0 := eq_true c6
     have c6b1 : decide (1 + ((⟨#[48, 49, 50, 51, 52, 53, 54, 55, 56, 57]⟩ : ByteArray).extract ((ji2) : Int).toNat ((wrap64 ((ji2) + 1)) : Int).toNat).size ≤ 9223372036854775807) = true := zH c6
     try have c6b2 : (9223372036854775807 < 1 + ((⟨#[48, 49, 50, 51, 52, 53, 54, 55, 56, 57]⟩ : ByteArray).extract ((ji2) : Int).toNat ((wrap64 ((ji2) + 1)) : Int).toNat).size) = False := eq_false (Nat.not_lt.2 c6)
     obtain ⟨ji7, hji7⟩ : ∃ j_ : Int, (Int.tmod (wrap64 (Int.tdiv a0 10)) 10) = j_ := ⟨_, rfl⟩
     replace H : (if 0 ≤ (ji7) then (if (ji7) ≤ (wrap64 ((ji7) + 1)) then (if (wrap64 ((ji7) + 1)) ≤ 10 then (if ((⟨#[102]⟩ : ByteArray) ++ ((⟨#[48, 49, 50, 51, 52, 53, 54, 55, 56, 57]⟩ : ByteArray).extract ((ji2) : Int).toNat ((wrap64 ((ji2) + 1)) : Int).toNat)).size + ((⟨#[48, 49, 50, 51, 52, 53, 54, 55, 56, 57]⟩ : ByteArray).extract ((ji7) : Int).toNat ((wrap64 ((ji7) + 1)) : Int).toNat).size ≤ 9223372036854775807 then (if 0 ≤ (Int.tmod a0 10) then (if (Int.tmod a0 10) ≤ (wrap64 ((Int.tmod a0 10) + 1)) then (if (wrap64 ((Int.tmod a0 10) + 1)) ≤ 10 then (if (((⟨#[102]⟩ : ByteArray) ++ ((⟨#[48, 49, 50, 51, 52, 53, 54, 55, 56, 57]⟩ : ByteArray).extract ((ji2) : Int).toNat ((wrap64 ((ji2) + 1)) : Int).toNat)) ++ ((⟨#[48, 49, 50, 51, 52, 53, 54, 55, 56, 57]⟩ : ByteArray).extract ((ji7) : Int).toNat ((wrap64 ((ji7) + 1)) : Int).toNat)).size + ((⟨#[48, 49, 50, 51, 52, 53, 54, 55, 56, 57]⟩ : ByteArray).extract ((Int.tmod a0 10) : Int).toNat ((wrap64 ((Int.tmod a0 10) + 1)) : Int).toNat).size ≤ 9223372036854775807 then (some ((((⟨#[102]⟩ : ByteArray) ++ ((⟨#[48, 49, 50, 51, 52, 53, 54, 55, 56, 57]⟩ : ByteArray).extract ((ji2) : Int).toNat ((wrap64 ((ji2) + 1)) : Int).toNat)) ++ ((⟨#[48, 49, 50, 51, 52, 53, 54, 55, 56, 57]⟩ : ByteArray).extract ((ji7) : Int).toNat ((wrap64 ((ji7) + 1)) : Int).toNat)) ++ ((⟨#[48, 49, 50, 51, 52, 53, 54, 55, 56, 57]⟩ : ByteArray).extract ((Int.tmod a0 10) : Int).toNat ((wrap64 ((Int.tmod a0 10) + 1)) : Int).toNat))) else (none)) else (none)) else (none)) else (none)) else (none)) else (none)) else (none)) else (none)) = some r := by first | (rw [hji7] at H; exact H) | (simp only [hji7] at H ⊢; exact H)
     by_cases c8 : 0 ≤ (ji7)
     ·rw [if_pos c8] at H
      have c8b0 := eq_true c8
      have c8b1 : decide (0 ≤ (ji7)) = true := zH c8
      clear c8
      by_cases c9 : (ji7) ≤ (wrap64 ((ji7) + 1))
      ·rw [if_pos c9] at H
       have c9b0 := eq_true c9
       have c9b1 : decide ((ji7) ≤ (wrap64 ((ji7) + 1))) = true := zH c9
       by_cases c10 : (wrap64 ((ji7) + 1)) ≤ 10
       ·rw [if_pos c10] at H
        have c10b0 := eq_true c10
        have c10b1 : decide ((wrap64 ((ji7) + 1)) ≤ 10) = true := zH c10
        by_cases c11 : ((⟨#[102]⟩ : ByteArray) ++ ((⟨#[48, 49, 50, 51, 52, 53, 54, 55, 56, 57]⟩ : ByteArray).extract ((ji2) : Int).toNat ((wrap64 ((ji2) + 1)) : Int).toNat)).size + ((⟨#[48, 49, 50, 51, 52, 53, 54, 55, 56, 57]⟩ : ByteArray).extract ((ji7) : Int).toNat ((wrap64 ((ji7) + 1)) : Int).toNat).size ≤ 9223372036854775807
        ·rw [if_pos c11] at H
         have c11b0 := eq_true c11
         have c11b1 : decide (((⟨#[102]⟩ : ByteArray) ++ ((⟨#[48, 49, 50, 51, 52, 53, 54, 55, 56, 57]⟩ : ByteArray).extract ((ji2) : Int).toNat ((wrap64 ((ji2) + 1)) : Int).toNat)).size + ((⟨#[48, 49, 50, 51, 52, 53, 54, 55, 56, 57]⟩ : ByteArray).extract ((ji7) : Int).toNat ((wrap64 ((ji7) + 1)) : Int).toNat).size ≤ 9223372036854775807) = true := zH c11
         try have c11b2 : (9223372036854775807 < ((⟨#[102]⟩ : ByteArray) ++ ((⟨#[48, 49, 50, 51, 52, 53, 54, 55, 56, 57]⟩ : ByteArray).extract ((ji2) : Int).toNat ((wrap64 ((ji2) + 1)) : Int).toNat)).size + ((⟨#[48, 49, 50, 51, 52, 53, 54, 55, 56, 57]⟩ : ByteArray).extract ((ji7) : Int).toNat ((wrap64 ((ji7) + 1)) : Int).toNat).size) = False := eq_false (Nat.not_lt.2 c11)
         try (have c11b3 := c11b2; simp only [ByteArray.size_append] at c11b3)
         obtain ⟨ji12, hji12⟩ : ∃ j_ : Int, (Int.tmod a0 10) = j_ := ⟨_, rfl⟩
         replace H : (if 0 ≤ (ji12) then (if (ji12) ≤ (wrap64 ((ji12) + 1)) then (if (wrap64 ((ji12) + 1)) ≤ 10 then (if (((⟨#[102]⟩ : ByteArray) ++ ((⟨#[48, 49, 50, 51, 52, 53, 54, 55, 56, 57]⟩ : ByteArray).extract ((ji2) : Int).toNat ((wrap64 ((ji2) + 1)) : Int).toNat)) ++ ((⟨#[48, 49, 50, 51, 52, 53, 54, 55, 56, 57]⟩ : ByteArray).extract ((ji7) : Int).toNat ((wrap64 ((ji7) + 1)) : Int).toNat)).size + ((⟨#[48, 49, 50, 51, 52, 53, 54, 55, 56, 57]⟩ : ByteArray).extract ((ji12) : Int).toNat ((wrap64 ((ji12) + 1)) : Int).toNat).size ≤ 9223372036854775807 then (some ((((⟨#[102]⟩ : ByteArray) ++ ((⟨#[48, 49, 50, 51, 52, 53, 54, 55, 56, 57]⟩ : ByteArray).extract ((ji2) : Int).toNat ((wrap64 ((ji2) + 1)) : Int).toNat)) ++ ((⟨#[48, 49, 50, 51, 52, 53, 54, 55, 56, 57]⟩ : ByteArray).extract ((ji7) : Int).toNat ((wrap64 ((ji7) + 1)) : Int).toNat)) ++ ((⟨#[48, 49, 50, 51, 52, 53, 54, 55, 56, 57]⟩ : ByteArray).extract ((ji12) : Int).toNat ((wrap64 ((ji12) + 1)) : Int).toNat))) else (none)) else (none)) else (none)) else (none)) = some r := by first | (rw [hji12] at H; exact H) | (simp only [hji12] at H ⊢; exact H)
         by_cases c13 : 0 ≤ (ji12)
         ·rw [if_pos c13] at H
          have c13b0 := eq_true c13
          have c13b1 : decide (0 ≤ (ji12)) = true := zH c13
          clear c13
          by_cases c14 : (ji12) ≤ (wrap64 ((ji12) + 1))
          ·rw [if_pos c14] at H
           have c14b0 := eq_true c14
           have c14b1 : decide ((ji12) ≤ (wrap64 ((ji12) + 1))) = true := zH c14
           by_cases c15 : (wrap64 ((ji12) + 1)) ≤ 10
           ·rw [if_pos c15] at H
            have c15b0 := eq_true c15
            have c15b1 : decide ((wrap64 ((ji12) + 1)) ≤ 10) = true := zH c15
            by_cases c16 : (((⟨#[102]⟩ : ByteArray) ++ ((⟨#[48, 49, 50, 51, 52, 53, 54, 55, 56, 57]⟩ : ByteArray).extract ((ji2) : Int).toNat ((wrap64 ((ji2) + 1)) : Int).toNat)) ++ ((⟨#[48, 49, 50, 51, 52, 53, 54, 55, 56, 57]⟩ : ByteArray).extract ((ji7) : Int).toNat ((wrap64 ((ji7) + 1)) : Int).toNat)).size + ((⟨#[48, 49, 50, 51, 52, 53, 54, 55, 56, 57]⟩ : ByteArray).extract ((ji12) : Int).toNat ((wrap64 ((ji12) + 1)) : Int).toNat).size ≤ 9223372036854775807
            ·rw [if_pos c16] at H
             have c16b0 := eq_true c16
             have c16b1 : decide ((((⟨#[102]⟩ : ByteArray) ++ ((⟨#[48, 49, 50, 51, 52, 53, 54, 55, 56, 57]⟩ : ByteArray).extract ((ji2) : Int).toNat ((wrap64 ((ji2) + 1)) : Int).toNat)) ++ ((⟨#[48, 49, 50, 51, 52, 53, 54, 55, 56, 57]⟩ : ByteArray).extract ((ji7) : Int).toNat ((wrap64 ((ji7) + 1)) : Int).toNat)).size + ((⟨#[48, 49, 50, 51, 52, 53, 54, 55, 56, 57]⟩ : ByteArray).extract ((ji12) : Int).toNat ((wrap64 ((ji12) + 1)) : Int).toNat).size ≤ 9223372036854775807) = true := zH c16
             try have c16b2 : (9223372036854775807 < (((⟨#[102]⟩ : ByteArray) ++ ((⟨#[48, 49, 50, 51, 52, 53, 54, 55, 56, 57]⟩ : ByteArray).extract ((ji2) : Int).toNat ((wrap64 ((ji2) + 1)) : Int).toNat)) ++ ((⟨#[48, 49, 50, 51, 52, 53, 54, 55, 56, 57]⟩ : ByteArray).extract ((ji7) : Int).toNat ((wrap64 ((ji7) + 1)) : Int).toNat)).size + ((⟨#[48, 49, 50, 51, 52, 53, 54, 55, 56, 57]⟩ : ByteArray).extract ((ji12) : Int).toNat ((wrap64 ((ji12) + 1)) : Int).toNat).size) = False := eq_false (Nat.not_lt.2 c16)
             try (have c16b3 := c16b2; simp only [ByteArray.size_append] at c16b3)
             obtain rfl := Option.some.inj H
             go_enter Tryz.func18, Tryz.ntmps18
             go_wp2
             repeat (go_quiet (fail); try go_wp2)
             go_ret
             exact ⟨by first | rfl | (simp; done) | (simp only [← hji2, ← hji7, ← hji12] <;> (first | rfl | simp)) | (simp [*]; done), by repeat (first | exact Drawn0.refl _ | apply Drawn0.step)⟩
            ·rw [if_neg c16] at H
             exact absurd H (by simp)
           ·rw [if_neg c15] at H
            exact absurd H (by simp)
          ·rw [if_neg c14] at H
           exact absurd H (by simp)
         ·rw [if_neg c13] at H
          exact absurd H (by simp)
        ·rw [if_neg c11] at H
         exact absurd H (by simp)
       ·rw [if_neg c10] at H
        exact absurd H (by simp)
      ·rw [if_neg c9] at H
       exact absurd H (by simp)
     ·rw [if_neg c8] at H
      exact absurd H (by simp)
    ·rw [if_neg c6] at H
     exact absurd H (by simp)
   ·rw [if_neg c5] at H
    exact absurd H (by simp)
  ·rw [if_neg c4] at H
   exact absurd H (by simp)
 ·rw [if_neg c3] at H
  exact absurd H (by simp)
end Go.Proofs.YtcclaidbikjhiaaGreatDoor.PVo
