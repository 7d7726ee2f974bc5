import Derived.Test.YtcclaidbikjhiaaGreatDoorPureVi
import Derived.Test.YtcclaidbikjhiaaGreatDoorPureDr
import Derived.Test.YtcclaidbikjhiaaGreatDoorLayD
import Derived.Test.YtcclaidbikjhiaaGreatDoorPVox9
import Derived.Laws.Bits64b
import Derived.StillTailTactics
import Derived.Test.YtcclaidbikjhiaaGreatDoorPVox16
import Derived.Test.YtcclaidbikjhiaaGreatDoorPVox33
import Derived.Deep.RegionHeld3
--compressed
namespace Go.Proofs.YtcclaidbikjhiaaGreatDoor.PVo
open Go.RowKit Go.Proofs.YtcclaidbikjhiaaGreatDoorW.PrintWords Go.Proofs.YtcclaidbikjhiaaGreatDoorW.PrintLast Go.Proofs.YtcclaidbikjhiaaGreatDoorW.PrintMore
attribute [local go_sem] max2_int min2_int max_two min_two max_three min_three max_four min_four
attribute [local go_sem high] hw_str_leq hw_str_gtr
set_option linter.unusedVariables false
set_option linter.unusedSimpArgs false
def aheadN (a b : ByteArray) : Bool := Op.bytesLess a.toList b.toList
def cmpN (a b : ByteArray) : Int := if aheadN a b = true then -1 else if aheadN b a = true then 1 else 0
set_option maxHeartbeats 2000000 in
set_option maxRecDepth 100000 in
theorem compareN.calls (a b : ByteArray) (w : World) : Calls Tryz.prog 192 #[.string a, .string b] w fun e w' => e = .returned (.int .i64 (cmpN a b)) ∧ Below w.heap.size w w' := by
 unfold cmpN
 cases h1 : aheadN a b with
 | true =>
  unfold aheadN at h1
  rw [if_pos rfl]
  go_enter Tryz.func192, Tryz.ntmps192
  go_wp2
  go_ret
  exact ⟨rfl, Below.refl _ _⟩
 | false =>
  rw [if_neg Bool.false_ne_true]
  cases h2 : aheadN b a with
  | true =>
   unfold aheadN at h1 h2
   rw [if_pos rfl]
   go_enter Tryz.func192, Tryz.ntmps192
   go_wp2
   go_ret
   exact ⟨rfl, Below.refl _ _⟩
  | false =>
   unfold aheadN at h1 h2
   rw [if_neg Bool.false_ne_true]
   go_enter Tryz.func192, Tryz.ntmps192
   go_wp2
   go_ret
   exact ⟨rfl, Below.refl _ _⟩
set_option maxHeartbeats 2000000 in
set_option maxRecDepth 100000 in
theorem against.calls (f0 : ByteArray) (f1 : Int) (sv : Value) (name : ByteArray) (w : World) : Calls Tryz.prog 150 #[.agg #[.string f0, .int .i64 f1, sv], .string name] w fun e w' => e = .returned (.int .i64 (cmpN f0 name)) ∧ Below w.heap.size w w' := by
 have hu := Tryz.underlying85
 have hb0 : ∀ o, Below w.heap.size w (w.alloc o) := fun o => zJ (Below.refl _ _) o
 have HC := zA (fun W => compareN.calls f0 name W)
 go_enter Tryz.func150, Tryz.ntmps150
 go_wp2_with (go_at_call 192; go_loud (refine (HC.out _).mono ?_; rintro e w1 ⟨rfl, hb1⟩))
 go_ret
 exact ⟨rfl, (hb0 _).trans (hb1.mono (by simp))⟩
def cntN (name : ByteArray) (l : List S85) : Nat := l.countP fun x => aheadN x.f0 name
def isN (name : ByteArray) (l : List S85) : Bool := decide (cntN name l < l.length) && (cmpN (rd_T85 l (cntN name l)).f0 name == 0)
theorem count_bound {α : Type} (p : α → Bool) : ∀ (l : List α) (i : Nat), i ≤ l.length → (∀ t (h : t < l.length), t < i → p l[t] = true) → (∀ t (h : t < l.length), i ≤ t → p l[t] = false) → l.countP p = i
 | [], i, hi, _, _ => by simp at hi; simp [hi]
 | a :: r, 0, _, _, h2 => by
  rw [List.countP_eq_zero]
  intro x hx
  obtain ⟨t, ht, rfl⟩ := List.getElem_of_mem hx
  simp [h2 t ht (Nat.zero_le _)]
 | a :: r, i + 1, hi, h1, h2 => by
  have ha : p a = true := h1 0 (by simp) (by omega)
  rw [List.countP_cons_of_pos ha, count_bound p r i (by simpa using hi) (fun t ht hti => h1 (t + 1) (by simpa using ht) (by omega)) (fun t ht hti => h2 (t + 1) (by simpa using ht) (by omega))]
theorem cmp_neg (a b : ByteArray) : decide (cmpN a b < 0) = aheadN a b := by
 unfold cmpN
 cases h1 : aheadN a b with
 | true => rfl
 | false =>
  rw [if_neg Bool.false_ne_true]
  split <;> rfl
theorem rd_get (l : List S85) (i : Nat) (h : i < l.length) : rd_T85 l (i : Int) = l[i] := by simp [rd_T85, List.getD_eq_getElem?_getD, h]
set_option maxHeartbeats 4000000 in
set_option maxRecDepth 100000 in
theorem bsearch.calls (A : Option Addr) (c : Nat) (l : List S85) (name : ByteArray) (w : World) (hr : Kd.C k85 w A l.length l) (hl : l.length ≤ 1000000) (hm : ∀ a b (ha : a < l.length) (hb : b < l.length), a ≤ b → aheadN l[b].f0 name = true → aheadN l[a].f0 name = true) :
  Calls Tryz.prog 149 #[.slice A l.length c, .string name, .func (.func 150) #[] #[]] w fun e w' => e = .returned (.tuple #[.int .i64 (cntN name l), .bool (isN name l)]) ∧ Below w.heap.size w w' := by
 have HR := zA hr
 have HM := zA hm
 have HC := zA (fun (y : S85) sv W => against.calls y.f0 y.f1 sv name W)
 have CN := zA (show l.countP (fun x => aheadN x.f0 name) = cntN name l from rfl)
 have FIN := zA (show isN name l = (decide (cntN name l < l.length) && (cmpN (rd_T85 l (cntN name l)).f0 name == 0)) from rfl)
 generalize cntN name l = cnt at CN FIN ⊢
 generalize isN name l = fin at FIN ⊢
 clear hr hm
 have hu := Tryz.underlying85
 go_enter Tryz.func149, Tryz.ntmps149
 go_wp2
 go_loopg [9, 10] l.length (fun kx s9 s10 wr => ∃ lo hi : Nat, s9 = .int .i64 lo ∧ s10 = .int .i64 hi ∧ lo ≤ hi ∧ hi ≤ l.length ∧ hi - lo ≤ kx ∧ Aside0 (Below w.heap.size w wr) ∧
  Aside0 ((∀ t (h : t < l.length), t < lo → aheadN l[t].f0 name = true) ∧ (∀ t (h : t < l.length), hi ≤ t → aheadN l[t].f0 name = false)))
 case atStart => exact ⟨0, l.length, rfl, rfl, Nat.zero_le _, Nat.le_refl _, by omega, ⟨Below.refl _ _⟩, ⟨fun t _ ht => absurd ht (Nat.not_lt_zero _), fun t h1 h2 => by omega⟩⟩
 case round =>
  obtain ⟨lo, hi, rfl, rfl, hlh, hin, hg, HB, I⟩ := hrel
  by_cases hlt : lo < hi
  ·have hltz : decide ((lo : Int) < (hi : Int)) = true := zH (by omega)
   obtain ⟨m, hm0⟩ : ∃ m, m = (lo + hi) / 2 := ⟨_, rfl⟩
   have hmi : ((lo : Int) + (hi : Int)) / 2 = (m : Int) := by omega
   have hm1 : lo ≤ m := by omega
   have hm2 : m < hi := by omega
   have hml : m < l.length := by omega
   have hi0 : (0 : Int) ≤ (m : Int) := by omega
   have hi1 : (m : Int) < (l.length : Int) := by omega
   obtain ⟨ad, A2, c2, rfl, hx0, hx1, hx2, hl2, hC⟩ := at_T85 HR.out (m : Int) hi0 hi1
   rw [rd_get l m hml] at hx0 hx1 hx2 hl2 hC
   replace hx0 := (HB.out.cell (zB w _ hx0)).trans hx0
   replace hx1 := (HB.out.cell (zB w _ hx1)).trans hx1
   replace hx2 := (HB.out.cell (zB w _ hx2)).trans hx2
   simp only [Int.toNat_natCast] at hx0 hx1 hx2
   have HI := zA (show (∀ a (ha : a < l.length), a ≤ m → aheadN l[m].f0 name = true → aheadN l[a].f0 name = true) ∧ (∀ b (hb : b < l.length), m ≤ b → aheadN l[m].f0 name = false → aheadN l[b].f0 name = false) from
    ⟨fun a ha ham h => HM.out a m ha hml ham h, fun b hb hmb h => by
     cases hq : aheadN l[b].f0 name with
     | false => rfl
     | true => rw [HM.out m b hml hb hmb hq] at h; cases h⟩)
   generalize l[m] = y at hx0 hx1 hx2 HI
   have HCY := zA (HC.out y)
   have HNUM := zA hm0
   clear hC hl2 hm0
   cases hq : aheadN y.f0 name with
   | true =>
    have hneg : decide (cmpN y.f0 name < 0) = true := by rw [cmp_neg]; exact hq
    go_wp2_with (go_at_call 150; go_loud (refine (HCY.out _ _).mono ?_; rintro e w' ⟨rfl, hb'⟩))
    go_roundg (hi - (m + 1))
    case measure => omega
    case rel => exact ⟨m + 1, hi, by go_num, rfl, by omega, hin, Nat.le_refl _, ⟨HB.out.trans (hb'.mono HB.out.size)⟩, ⟨fun t h1 h2 => HI.out.1 t h1 (by omega) hq, I.out.2⟩⟩
   | false =>
    have hneg : decide (cmpN y.f0 name < 0) = false := by rw [cmp_neg]; exact hq
    go_wp2_with (go_at_call 150; go_loud (refine (HCY.out _ _).mono ?_; rintro e w' ⟨rfl, hb'⟩))
    go_roundg (m - lo)
    case measure => omega
    case rel => exact ⟨lo, m, rfl, by go_num, by omega, by omega, Nat.le_refl _, ⟨HB.out.trans (hb'.mono HB.out.size)⟩, ⟨I.out.1, fun t h1 h2 => HI.out.2 t h1 (by omega) hq⟩⟩
  ·obtain rfl : hi = lo := by omega
   have hltz : decide ((hi : Int) < (hi : Int)) = false := zI (by omega)
   have ecnt : cnt = hi := by
    rw [← CN.out]
    exact count_bound _ l hi hin (fun t h1 h2 => I.out.1 t h1 h2) (fun t h1 h2 => I.out.2 t h1 h2)
   subst ecnt
   by_cases hn : cnt < l.length
   ·have hnz : decide ((cnt : Int) < (l.length : Int)) = true := zH (by omega)
    have hi0 : (0 : Int) ≤ (cnt : Int) := by omega
    have hi1 : (cnt : Int) < (l.length : Int) := by omega
    obtain ⟨ad, A2, c2, rfl, hx0, hx1, hx2, hl2, hC⟩ := at_T85 HR.out (cnt : Int) hi0 hi1
    have hfin : fin = (cmpN (rd_T85 l (cnt : Int)).f0 name == 0) := by rw [FIN.out, zH hn, Bool.true_and]
    generalize rd_T85 l (cnt : Int) = y at hx0 hx1 hx2 hfin
    replace hx0 := (HB.out.cell (zB w _ hx0)).trans hx0
    replace hx1 := (HB.out.cell (zB w _ hx1)).trans hx1
    replace hx2 := (HB.out.cell (zB w _ hx2)).trans hx2
    simp only [Int.toNat_natCast] at hx0 hx1 hx2
    have HCY := zA (HC.out y)
    have HFIN := zA hfin
    clear hC hl2 hfin
    go_wp2_with (go_at_call 150; go_loud (refine (HCY.out _ _).mono ?_; rintro e w' ⟨rfl, hb'⟩))
    go_ret2
    exact ⟨by rw [HFIN.out]; rfl, HB.out.trans (hb'.mono HB.out.size)⟩
   ·have hnz : decide ((cnt : Int) < (l.length : Int)) = false := zI (by omega)
    have hfin : fin = false := by rw [FIN.out, zI hn, Bool.false_and]
    subst hfin
    go_wp2
    go_ret2
    exact ⟨rfl, HB.out⟩
set_option maxHeartbeats 2000000 in
set_option maxRecDepth 100000 in
theorem place.calls (A : Option Addr) (c : Nat) (l : List S85) (name : ByteArray) (w : World) (hr : Kd.C k85 w A l.length l) (hl : l.length ≤ 1000000) (hm : ∀ a b (ha : a < l.length) (hb : b < l.length), a ≤ b → aheadN l[b].f0 name = true → aheadN l[a].f0 name = true) :
  Calls Tryz.prog 103 #[.slice A l.length c, .string name] w fun e w' => e = .returned (.tuple #[.int .i64 (cntN name l), .bool (isN name l)]) ∧ Below w.heap.size w w' := by
 have HB := zA (bsearch.calls A c l name w hr hl hm)
 clear hr hm
 go_enter Tryz.func103, Tryz.ntmps103
 go_wp2_with (go_at_call 149; go_loud (refine HB.out.mono ?_; rintro e w' ⟨rfl, hb'⟩))
 go_ret2
 exact ⟨rfl, hb'⟩
def findV (name : ByteArray) (l : List S85) : S85 × Bool := match l.findIdx? (fun x => x.f0.toList == name.toList) with | some i => (rd_T85 l (i : Int), true) | none => (z85, false)
set_option maxHeartbeats 2000000 in
set_option maxRecDepth 100000 in
theorem findF.calls (A : Option Addr) (c : Nat) (l : List S85) (name : ByteArray) (ZW w : World) (hZ : Sub ZW w) (hrZ : Kd.C k85 ZW A l.length l) :
  Calls Tryz.prog 53 #[.slice A l.length c, .string name] w fun e w' => (∃ A2 c2, e = .returned (.tuple #[.agg #[.string (findV name l).1.f0, .int .i64 (findV name l).1.f1, .slice A2 (findV name l).1.f2.length c2], .bool (findV name l).2]) ∧ (findV name l).1.f2.length ≤ c2 ∧ Kd.C k87 ZW A2 (findV name l).1.f2.length (findV name l).1.f2) ∧ Below w.heap.size w w' := by
 have hr := mono_file.C hZ hrZ
 have HRZ := zA hrZ
 have hu := Tryz.underlying85
 have HR := zA hr
 have HP := zA (fun W (hW : Below w.heap.size w W) gb (hg : W.cell? ⟨gb, 0, none⟩ = some (.string name)) => indexF.calls A c l gb _ W (Kd.C_below hr hW) (find1.calls name gb W hg))
 have hidx : idxFi (fun x => x.f0.toList == name.toList) l = (match l.findIdx? (fun x => x.f0.toList == name.toList) with | some i => (i : Int) | none => -1) := rfl
 clear hr hrZ
 have HG := zA (show ∀ w1 : World, Below ((w.alloc (.cells #[.string name] 9)).alloc (.cells #[.string ⟨#[]⟩, .int .i64 0, .slice none 0 0] 85)).heap.size ((w.alloc (.cells #[.string name] 9)).alloc (.cells #[.string ⟨#[]⟩, .int .i64 0, .slice none 0 0] 85)) w1 → w1.heap[w.heap.size + 1]? = some (.cells #[.string ⟨#[]⟩, .int .i64 0, .slice none 0 0] 85 (0, 0)) ∧ Below w.heap.size w w1 from fun w1 hb => by
  have h1 := blk_below (blk_new (w.alloc (.cells #[.string name] 9)) (.cells #[.string ⟨#[]⟩, .int .i64 0, .slice none 0 0] 85)) hb
  have h2 : (w.alloc (.cells #[.string name] 9)).heap.size = w.heap.size + 1 := by simp
  rw [h2] at h1
  exact ⟨h1, (zJ (zJ (Below.refl _ w) _) _).trans (hb.mono (by simp; omega))⟩)
 have HP2 := zA (HP.out ((w.alloc (.cells #[.string name] 9)).alloc (.cells #[.string ⟨#[]⟩, .int .i64 0, .slice none 0 0] 85)) (zJ (zJ (Below.refl _ w) _) _) w.heap.size (Lib.cell?_alloc_some _ (by simp)))
 clear HP
 cases hf : l.findIdx? (fun x => x.f0.toList == name.toList) with
 | none =>
  have hv : findV name l = (z85, false) := by unfold findV; rw [hf]
  rw [hf] at hidx
  rw [hv]
  simp only at hidx
  rw [hidx] at HP2
  clear hidx hf hv hZ
  go_enter Tryz.func53, Tryz.ntmps53
  go_wp2_with (go_at_call 111; go_loud (refine HP2.out.mono ?_; rintro e w1 ⟨rfl, hb1⟩; obtain ⟨hbk0, hbw0⟩ := HG.out w1 hb1; have BK := zA hbk0; have HB := zA hbw0; clear hbk0 hbw0 hb1; have hc0 := zN BK.out 0; have hc1 := zN BK.out 1; have hc2 := zN BK.out 2; have hf0 := zM BK.out 0; have hf1 := zM BK.out 1; have hf2 := zM BK.out 2))
  refine bodyPost_ret (results_ct rfl _ _ (w.heap.size + 1) 85 #[.string ⟨#[]⟩, .int .i64 0, .slice none 0 0] (0, 0) _ rfl (blk_put (cs := #[.string ⟨#[]⟩, .int .i64 0, .slice none 0 0]) (blk_put (cs := #[.string ⟨#[]⟩, .int .i64 0, .slice none 0 0]) (blk_put BK.out 0 _ rfl) 1 _ rfl) 2 _ rfl) Tryz.underlying85 rfl (by kernel_rfl)) rfl ?_
  exact ⟨⟨none, 0, rfl, Nat.le_refl _, Kd.C_nil _ _⟩, below_set (below_set (below_set HB.out (by omega)) (by omega)) (by omega)⟩
 | some i =>
  have hlt : i < l.length := by
   rw [List.findIdx?_eq_some_iff_getElem] at hf
   exact hf.1
  have hv : findV name l = (rd_T85 l (i : Int), true) := by unfold findV; rw [hf]
  rw [hf] at hidx
  rw [hv]
  simp only at hidx
  rw [hidx] at HP2
  have hi0 : (0 : Int) ≤ (i : Int) := by omega
  have hi1 : (i : Int) < (l.length : Int) := by omega
  obtain ⟨ad, A2, c2, rfl, hx0, hx1, hx2, hl2, hC⟩ := at_T85 HRZ.out (i : Int) hi0 hi1
  replace hx0 := hZ _ _ hx0
  replace hx1 := hZ _ _ hx1
  replace hx2 := hZ _ _ hx2
  clear hZ
  have HX := zA (show ∀ w1 : World, Below w.heap.size w w1 → w1.cell? (ad.add (i * 3)) = some (.string (rd_T85 l (i : Int)).f0) ∧ w1.cell? ⟨(ad.add (i * 3)).block, (ad.add (i * 3)).off + 1, none⟩ = some (.int .i64 (rd_T85 l (i : Int)).f1) ∧ w1.cell? ⟨(ad.add (i * 3)).block, (ad.add (i * 3)).off + 2, none⟩ = some (.slice A2 (rd_T85 l (i : Int)).f2.length c2) from fun w1 hb =>
   ⟨(hb.cell (zB w _ hx0)).trans hx0, (hb.cell (zB w _ hx1)).trans hx1, (hb.cell (zB w _ hx2)).trans hx2⟩)
  have HC := zA hC
  clear hidx hf hv hx0 hx1 hx2 hC
  generalize rd_T85 l (i : Int) = y at HX HC hl2 ⊢
  go_enter Tryz.func53, Tryz.ntmps53
  go_wp2_with (go_at_call 111; go_loud (refine HP2.out.mono ?_; rintro e w1 ⟨rfl, hb1⟩; obtain ⟨hbk0, hbw0⟩ := HG.out w1 hb1; have BK := zA hbk0; have HB := zA hbw0; clear hbk0 hbw0 hb1; obtain ⟨hy0, hy1, hy2⟩ := HX.out w1 HB.out; have hc0 := zN BK.out 0; have hc1 := zN BK.out 1; have hc2 := zN BK.out 2; have hf0 := zM BK.out 0; have hf1 := zM BK.out 1; have hf2 := zM BK.out 2))
  refine bodyPost_ret (results_ct rfl _ _ (w.heap.size + 1) 85 #[.string y.f0, .int .i64 y.f1, .slice A2 y.f2.length c2] (0, 0) _ rfl (blk_put (cs := #[.string y.f0, .int .i64 y.f1, .slice none 0 0]) (blk_put (cs := #[.string y.f0, .int .i64 0, .slice none 0 0]) (blk_put BK.out 0 _ rfl) 1 _ rfl) 2 _ rfl) Tryz.underlying85 rfl (by kernel_rfl)) rfl ?_
  exact ⟨⟨A2, c2, rfl, hl2, HC.out⟩, below_set (below_set (below_set HB.out (by omega)) (by omega)) (by omega)⟩
def withV (f : S85) (l : List S85) : List S85 := if isN f.f0 l = true then l.set (cntN f.f0 l) f else l.take (cntN f.f0 l) ++ f :: l.drop (cntN f.f0 l)
def fileC3 (f : S85) (A : Option Addr) (c : Nat) : List Value := [.string f.f0, .int .i64 f.f1, .slice A f.f2.length c]
theorem OwnP.set_ {ZW w0 w : World} {g cap : Nat} {L : List Value} {ps : List Pr} (hg : w0.heap.size ≤ g) (hh : w.heap[g]? = some (.cells L.toArray 85 (0, 0))) (hcn : ps.length ≤ cap) (hcm : cap ≤ maxLen) (hLl : L.length = cap * 3) (hLt : L.take (ps.length * 3) = ps.flatMap (·.2)) (hK : ∀ p ∈ ps, (k85).K ZW p.1 p.2) (i : Nat) (hi : i < ps.length) (x : S85) (cs : List Value) (hx : (k85).K ZW x cs) : OwnP ZW w0 (w.setCells g (i * 3) cs) (.slice (some ⟨g, 0, none⟩) ps.length cap) (ps.set i (x, cs)) := by
 have hc3 : cs.length = 3 := (k85).K_len hx
 have hps3 : ∀ p ∈ ps, p.2.length = 3 := fun p hp => (k85).K_len (hK p hp)
 have hh2 := blk_setCells g cs (i * 3) w L hh (by omega)
 refine OwnP.mk' hg hh2 (by rw [List.length_set]) hcn hcm (by simp only [zO, List.length_take, List.length_drop]; omega) ?_ fun p hp => ?_
 ·exact flat_set ps hps3 i hi (x, cs) hc3 L ps.length rfl hLt (by omega)
 ·rcases List.mem_or_eq_of_mem_set hp with hp | rfl
  ·exact hK p hp
  ·exact hx
set_option maxHeartbeats 4000000 in
set_option maxRecDepth 100000 in
theorem withF.calls (A : Option Addr) (c : Nat) (l : List S85) (f : S85) (A2 : Option Addr) (c2 : Nat) (ZW w : World) (hZ : Sub ZW w) (hrZ : Kd.C k85 ZW A l.length l) (hl : l.length ≤ 1000000) (hm : ∀ a b (ha : a < l.length) (hb : b < l.length), a ≤ b → aheadN l[b].f0 f.f0 = true → aheadN l[a].f0 f.f0 = true)
  (hK : (k85).K ZW f (fileC3 f A2 c2)) :
  Calls Tryz.prog 49 #[.slice A l.length c, .agg #[.string f.f0, .int .i64 f.f1, .slice A2 f.f2.length c2]] w fun e w' => ∃ v ps, e = .returned v ∧ ps.map (·.1) = withV f l ∧ OwnP ZW w w' v ps ∧ Below w.heap.size w w' := by
 have hr := mono_file.C hZ hrZ
 have hu := Tryz.underlying85
 have HP := zA (fun W (hW : Below w.heap.size w W) => place.calls A c l f.f0 W (Kd.C_below hr hW) hl hm)
 have HCL := zA (fun W (hW : Below w.heap.size w W) => cloneF.calls A c l ZW w W (hZ.trans (sub_below hW)) hrZ hW hl)
 have HK := zA hK
 have hW0 : Below w.heap.size w (w.alloc (.cells #[.string f.f0, .int .i64 f.f1, .slice A2 f.f2.length c2] 85)) := zJ (Below.refl _ w) _
 have hFB : (w.alloc (.cells #[.string f.f0, .int .i64 f.f1, .slice A2 f.f2.length c2] 85)).heap[w.heap.size]? = some (.cells #[.string f.f0, .int .i64 f.f1, .slice A2 f.f2.length c2] 85 (0, 0)) := blk_new w _
 have HW0 := zA hW0
 have HFB := zA hFB
 have CNL := zA (show cntN f.f0 l ≤ l.length from List.countP_le_length)
 have HV := zA (show withV f l = if isN f.f0 l = true then l.set (cntN f.f0 l) f else l.take (cntN f.f0 l) ++ f :: l.drop (cntN f.f0 l) from rfl)
 have HI := zA (show isN f.f0 l = true → cntN f.f0 l < l.length from fun h => by unfold isN at h; simp only [Bool.and_eq_true, decide_eq_true_eq] at h; exact h.1)
 clear hr hm hK hW0 hFB hrZ hZ
 generalize withV f l = res at HV ⊢
 generalize cntN f.f0 l = cnt at HP HV CNL HI
 generalize isN f.f0 l = is at HP HV HI
 cases is with
 | true =>
  have hlt := HI.out rfl
  have HV2 := zA (HV.out.trans (if_pos rfl))
  clear HI HV
  have HCW := zA (show ∀ w1, Below w.heap.size w w1 → w1.heap[w.heap.size]? = some (.cells #[.string f.f0, .int .i64 f.f1, .slice A2 f.f2.length c2] 85 (0, 0)) → Calls Tryz.prog 55 #[.slice A l.length c] w1 fun e w' => ∃ g cap L, e = .returned (.slice (some ⟨g, 0, none⟩) l.length cap) ∧ w'.heap[w.heap.size]? = some (.cells #[.string f.f0, .int .i64 f.f1, .slice A2 f.f2.length c2] 85 (0, 0)) ∧ w'.heap[g]? = some (.cells (L : List Value).toArray 85 (0, 0)) ∧ L.length = cap * 3 ∧ l.length ≤ cap ∧ cap ≤ maxLen ∧ (∃ ps, ps.map (·.1) = l.set cnt f ∧ OwnP ZW w (w'.setCells g (cnt * 3) (fileC3 f A2 c2)) (.slice (some ⟨g, 0, none⟩) l.length cap) ps) ∧ w.heap.size ≤ g ∧ Below w.heap.size w w' from fun w1 hb1 hf1 => by
   refine (HCL.out w1 hb1).mono ?_
   rintro e w' ⟨v, ps, rfl, he, ho, hb2⟩
   have hpl : ps.length = l.length := by rw [← he, List.length_map]
   rcases ho.block with ⟨rfl, rfl⟩ | ⟨g, cap, L, rfl, hg, hh, hcn, hcm, hLl, hLt⟩
   ·simp at hpl; omega
   ·refine ⟨g, cap, L, by rw [hpl], blk_below hf1 hb2, hh, hLl, by omega, hcm, ⟨ps.set cnt (f, fileC3 f A2 c2), by rw [List.map_set, he], ?_⟩, hg, hb1.trans (hb2.mono (below_size hb1))⟩
    have := OwnP.set_ hg hh hcn hcm hLl hLt ho.2 cnt (by omega) f (fileC3 f A2 c2) HK.out
    rwa [hpl] at this)
  go_enter Tryz.func49, Tryz.ntmps49
  go_wp2_with (first
   | (go_at_call 103; go_loud (refine (HP.out _ HW0.out).mono ?_; rintro e w1 ⟨rfl, hb1⟩; have HB1 := zA (HW0.out.trans (hb1.mono (below_size HW0.out))); have HF1 := zA (blk_below HFB.out hb1); clear hb1))
   | (go_at_call 55; go_loud (refine (HCW.out _ HB1.out HF1.out).mono ?_; rintro e w2 ⟨g, cap, L, rfl, hf2, hh2, hLl, hcn, hcm, hown, hg, hb2⟩; have hc0 := zN hf2 0; have hc1 := zN hf2 1; have hc2 := zN hf2 2; obtain ⟨u0, k0⟩ : ∃ u, w2.cell? ⟨g, cnt * 3, none⟩ = some u := ⟨_, (cell_of_list hh2 _).trans (List.getElem?_eq_getElem (by omega))⟩; obtain ⟨u1, k1⟩ : ∃ u, w2.cell? ⟨g, cnt * 3 + 1, none⟩ = some u := ⟨_, (cell_of_list hh2 _).trans (List.getElem?_eq_getElem (by omega))⟩; obtain ⟨u2, k2⟩ : ∃ u, w2.cell? ⟨g, cnt * 3 + 2, none⟩ = some u := ⟨_, (cell_of_list hh2 _).trans (List.getElem?_eq_getElem (by omega))⟩; have z0 := frozen_of_list hh2 (cnt * 3); have z1 := frozen_of_list hh2 (cnt * 3 + 1); have z2 := frozen_of_list hh2 (cnt * 3 + 2); have HOWN := zA hown; have HG := zA (show w.heap.size ≤ g ∧ Below w.heap.size w w2 from ⟨hg, hb2⟩); have hltz : (cnt : Int) < (l.length : Int) := (by omega); have hnn : (0 : Int) ≤ (cnt : Int) := (by omega); clear hf2 hh2 hLl hcn hcm hown hg hb2)))
  go_ret
  obtain ⟨ps, e1, h1⟩ := HOWN.out
  exact ⟨_, ps, rfl, by rw [e1, HV2.out], h1, below_set (below_set (below_set HG.out.2 HG.out.1) HG.out.1) HG.out.1⟩
 | false =>
  have HV2 := zA (HV.out.trans (if_neg Bool.false_ne_true))
  clear HI HV
  have HCW := zA (show ∀ w1, Below w.heap.size w w1 → w1.heap[w.heap.size]? = some (.cells #[.string f.f0, .int .i64 f.f1, .slice A2 f.f2.length c2] 85 (0, 0)) → Calls Tryz.prog 55 #[.slice A l.length c] w1 fun e w' => ∃ v ps, e = .returned v ∧ w'.heap[w.heap.size]? = some (.cells #[.string f.f0, .int .i64 f.f1, .slice A2 f.f2.length c2] 85 (0, 0)) ∧ ps.map (·.1) = l ∧ OwnP ZW w w' v ps ∧ Below w.heap.size w w' from fun w1 hb1 hf1 => by
   refine (HCL.out w1 hb1).mono ?_
   rintro e w' ⟨v, ps, rfl, he, ho, hb2⟩
   exact ⟨v, ps, rfl, blk_below hf1 hb2, he, ho, hb1.trans (hb2.mono (below_size hb1))⟩)
  have HINS := zA (show ∀ w2 v ps, ps.map (·.1) = l → OwnP ZW w w2 v ps → Below w.heap.size w w2 → Calls Tryz.prog 104 #[v, .int .i64 cnt, .slice (some ⟨w2.heap.size, 0, none⟩) 1 1] (w2.alloc (.cells #[.string f.f0, .int .i64 f.f1, .slice A2 f.f2.length c2] 85)) fun e w' => ∃ v' ps', e = .returned v' ∧ ps'.map (·.1) = l.take cnt ++ f :: l.drop cnt ∧ OwnP ZW w w' v' ps' ∧ Below w.heap.size w w' from fun w2 v ps he ho hb2 => by
   have hpl : ps.length = l.length := by rw [← he, List.length_map]
   have hblk := blk_new w2 (.cells #[.string f.f0, .int .i64 f.f1, .slice A2 f.f2.length c2] 85)
   refine (insertF.calls ZW w _ v ps cnt f (fileC3 f A2 c2) w2.heap.size ⟨own_alloc ho.1 _, ho.2⟩ (zJ hb2 _) (by rw [hpl]; exact CNL.out) (by omega) HK.out hblk ?_).mono ?_
   ·intro h
    have := own_lt ho.1 _ h
    omega
   ·rintro e w' ⟨v', rfl, ho', hb'⟩
    exact ⟨v', _, rfl, by rw [List.map_append, List.map_cons, List.map_take, List.map_drop, he], ho', hb'⟩)
  go_enter Tryz.func49, Tryz.ntmps49
  go_wp2_with (first
   | (go_at_call 103; go_loud (refine (HP.out _ HW0.out).mono ?_; rintro e w1 ⟨rfl, hb1⟩; have HB1 := zA (HW0.out.trans (hb1.mono (below_size HW0.out))); have HF1 := zA (blk_below HFB.out hb1); clear hb1))
   | (go_at_call 55; go_loud (refine (HCW.out _ HB1.out HF1.out).mono ?_; rintro e w2 ⟨v, ps, rfl, hf2, he, ho, hb2⟩; have hc0 := zN hf2 0; have hc1 := zN hf2 1; have hc2 := zN hf2 2; have HO := zA ho; have HE := zA he; have HB2 := zA hb2; clear hf2 ho he hb2))
   | (go_at_call 104; go_loud (refine (HINS.out w2 v ps HE.out HO.out HB2.out).mono ?_; rintro e w3 ⟨v', ps', rfl, he3, ho3, hb3⟩; have HFIN := zA (show ps'.map (·.1) = l.take cnt ++ f :: l.drop cnt ∧ OwnP ZW w w3 v' ps' ∧ Below w.heap.size w w3 from ⟨he3, ho3, hb3⟩); clear he3 ho3 hb3)))
  go_ret
  obtain ⟨e1, h1, h2⟩ := HFIN.out
  exact ⟨_, ps', rfl, by rw [e1, HV2.out], h1, h2⟩
theorem run_clear_k {P : Program} (w : World) (t e ty : TypeId) (z : Value) (ht : P.underlying t = some (.slice e)) (hv : ∀ w, (zeroValue e).run P w = .ok z w) (b o n c : Nat) (hn : 0 < n) (zs : List Value) (hzs : zs = (Builtin.zeroCells z.cells n).toList) (h1 : ∀ v ∈ zs, v.oneCell' = true)
  (hc : ∀ j, j < zs.length → (w.cell? ⟨b, o + j, none⟩).isSome = true) (hf : ∀ j, j < zs.length → w.frozen? ⟨b, o + j, none⟩ = false) :
  (Builtin.clear_ #[t] ty #[.slice (some ⟨b, o, none⟩) n c]).run P w = .ok (.tuple #[]) (w.setCells b o zs) := by
 have hst := run_storeCells_cells (P := P) b o zs 0 w (by simpa using hc) (by simpa using hf) h1
 simp only [Nat.add_zero] at hst
 obtain ⟨m, rfl⟩ : ∃ m, n = m + 1 := ⟨n - 1, by omega⟩
 simp [Builtin.clear_, run_underlying ht, hv, ← hzs, hst]
end Go.Proofs.YtcclaidbikjhiaaGreatDoor.PVo
namespace Go.Proofs.YtcclaidbikjhiaaGreatDoor.Th
open Go.RowKit Go.Proofs.YtcclaidbikjhiaaGreatDoor.PVo Go.Proofs.YtcclaidbikjhiaaGreatDoorW.PrintWords
set_option linter.unusedVariables false
set_option linter.unusedSimpArgs false
def zeros (n : Nat) : List UInt8 := List.replicate n 0
theorem zeros_len (n : Nat) : (zeros n).length = n := List.length_replicate ..
def secs (l : List Sp) : List Int := l.flatMap fun s => (List.range s.f1.toNat).map fun i => s.f0 + ((i : Nat) : Int)
def zipL : List Int → List UInt8 → List (Int × ByteArray)
 | [], _ => []
 | a :: t, s => (a, B (s.take 64)) :: zipL t (s.drop 64)
def writes : List (Int × ByteArray) → DV → Int × DV
 | [], D => (0, D)
 | p :: t, D => if (D.write p.1 p.2).1 = 0 then writes t (D.write p.1 p.2).2 else D.write p.1 p.2
def reads : List Int → DV → List UInt8 × Int
 | [], _ => ([], 0)
 | a :: t, D => if (D.read a).2 = 0 then (if (reads t D).2 = 0 then ((D.read a).1.data.toList ++ (reads t D).1, 0) else ([], (reads t D).2)) else ([], (D.read a).2)
def padded (l : List Sp) (s : List UInt8) : List UInt8 := s ++ zeros ((sumF l * 64).toNat - s.length)
def wrF (l : List Sp) (s : List UInt8) (D : DV) : Int × DV := writes (zipL (secs l) (padded l s)) D
def rdF (l : List Sp) (n : Nat) (D : DV) : List UInt8 × Int := if (reads (secs l) D).2 = 0 then ((reads (secs l) D).1.take n, 0) else ([], (reads (secs l) D).2)
def wroteL (ps : List (Int × ByteArray)) (D : DV) : DV := ps.foldl (fun D p => D.wrote p.1 p.2) D
structure Fine (D : DV) : Prop where
 up : D.down = false
 free : D.left = -1
theorem spend_fine {D : DV} (h : Fine D) : D.spend = (0, D) := by
 unfold DV.spend
 rw [h.free, if_neg (by decide), if_neg (by decide)]
theorem wrong_fine {D : DV} (h : Fine D) {a : Int} (h0 : 0 ≤ a) (h1 : a < D.now.length) : D.wrong a = 0 := by
 unfold DV.wrong
 rw [h.up, if_neg (by decide), if_neg (by omega)]
theorem write_fine {D : DV} (h : Fine D) {a : Int} (h0 : 0 ≤ a) (h1 : a < D.now.length) {s : ByteArray} (hs : s.size = 64) : D.write a s = (0, D.wrote a s) := by
 unfold DV.write
 rw [wrong_fine h h0 h1, spend_fine h, if_neg (by decide), if_neg (by omega), if_neg (fun h => h rfl)]
theorem Fine.wrote {D : DV} (h : Fine D) (a : Int) (s : ByteArray) : Fine (D.wrote a s) := ⟨h.up, h.free⟩
theorem wrote_len (D : DV) (a : Int) (s : ByteArray) : (D.wrote a s).now.length = D.now.length := List.length_set
theorem Fine.wroteL : ∀ (ps : List (Int × ByteArray)) {D : DV}, Fine D → Fine (Th.wroteL ps D)
 | [], _, h => h
 | p :: t, _, h => Fine.wroteL t (h.wrote p.1 p.2)
theorem writes_fine : ∀ (ps : List (Int × ByteArray)) (D : DV), Fine D → (∀ p ∈ ps, 0 ≤ p.1 ∧ p.1 < D.now.length ∧ p.2.size = 64) → writes ps D = (0, wroteL ps D)
 | [], _, _, _ => rfl
 | p :: t, D, h, hp => by
  obtain ⟨h0, h1, h2⟩ := hp p (List.mem_cons_self ..)
  unfold writes
  rw [write_fine h h0 h1 h2, if_pos rfl]
  exact writes_fine t _ (h.wrote _ _) fun q hq => by rw [wrote_len]; exact hp q (List.mem_cons_of_mem _ hq)
theorem zipL_mem : ∀ (l : List Int) (s : List UInt8) (p : Int × ByteArray), 64 * l.length ≤ s.length → p ∈ zipL l s → p.1 ∈ l ∧ p.2.size = 64
 | [], _, _, _, h => nomatch h
 | a :: t, s, p, hl, h => by
  rw [List.length_cons] at hl
  unfold zipL at h
  rcases List.mem_cons.1 h with rfl | h
  ·exact ⟨List.mem_cons_self .., by rw [B_size, List.length_take]; omega⟩
  ·have := zipL_mem t (s.drop 64) p (by rw [List.length_drop]; omega) h
   exact ⟨List.mem_cons_of_mem _ this.1, this.2⟩
theorem zipL_keys : ∀ (l : List Int) (s : List UInt8), (zipL l s).map (·.1) = l
 | [], _ => rfl
 | a :: t, s => by unfold zipL; rw [List.map_cons, zipL_keys t]
theorem zipL_len (l : List Int) (s : List UInt8) : (zipL l s).length = l.length := by rw [← List.length_map (f := (·.1)), zipL_keys]
theorem mem_secs {l : List Sp} {a : Int} : a ∈ secs l ↔ ∃ s ∈ l, s.f0 ≤ a ∧ a < s.f0 + s.f1 := by
 unfold secs
 rw [List.mem_flatMap]
 constructor
 ·rintro ⟨s, hs, h⟩
  obtain ⟨i, hi, rfl⟩ := List.mem_map.1 h
  rw [List.mem_range] at hi
  exact ⟨s, hs, by omega, by omega⟩
 ·rintro ⟨s, hs, h0, h1⟩
  exact ⟨s, hs, List.mem_map.2 ⟨(a - s.f0).toNat, by rw [List.mem_range]; omega, by omega⟩⟩
theorem secs_len {size : Int} : ∀ {l : List Sp}, OkL size l → ((secs l).length : Int) = sumF l
 | [], _ => rfl
 | s :: t, h => by
  have ih := secs_len h.tail
  have h1 := h.head.1
  unfold secs at ih ⊢
  rw [List.flatMap_cons, zO, List.length_map, List.length_range]
  show _ = s.f1 + sumF t
  omega
theorem secs_in {size : Int} {l : List Sp} (h : OkL size l) {a : Int} (ha : a ∈ secs l) : 0 ≤ a ∧ a < size := by
 obtain ⟨s, hs, h0, h1⟩ := mem_secs.1 ha
 obtain ⟨_, _, _⟩ := h s hs
 omega
theorem padded_len {l : List Sp} {s : List UInt8} {size : Int} (h : OkL size l) (hs : (s.length : Int) ≤ sumF l * 64) : (padded l s).length = 64 * (secs l).length := by
 have := secs_len h
 unfold padded
 rw [zO, zeros_len]
 omega
end Go.Proofs.YtcclaidbikjhiaaGreatDoor.Th
namespace Go.Proofs.YtcclaidbikjhiaaGreatDoor.PVo
open Go.RowKit Go.Proofs.YtcclaidbikjhiaaGreatDoorW.PrintWords Go.Proofs.YtcclaidbikjhiaaGreatDoorW.PrintLast Go.Proofs.YtcclaidbikjhiaaGreatDoorW.PrintMore
attribute [local go_sem] max2_int min2_int max_two min_two max_three min_three max_four min_four
set_option linter.unusedVariables false
set_option linter.unusedSimpArgs false
theorem mask32 (a : Nat) (ha : a < 4294967296) : Go.bits .and .u64 (a : Int) 4294967295 = (a : Int) := by
 have h := bits_and_u64_nat a 4294967295 (by omega) (by omega)
 have e : a &&& 4294967295 = a % 4294967296 := Nat.and_two_pow_sub_one_eq_mod a 32
 rw [e, Nat.mod_eq_of_lt ha] at h
 exact h
theorem mul_one (n : Nat) (h : n < 4294967296) : bits_Mul.f (1 : Int) (n : Int) = some (0, (n : Int)) := by
 have h1 : Go.bits .and .u64 (1 : Int) 4294967295 = 1 := mask32 1 (by decide)
 have h0 : Go.bits .and .u64 (0 : Int) 4294967295 = 0 := mask32 0 (by decide)
 have hn := mask32 n h
 have d1 : (1 : Int) / 4294967296 = 0 := by decide
 have dn : (n : Int) / 4294967296 = 0 := by omega
 have wn : IntKind.u64.wrap (n : Int) = (n : Int) := by rw [IntKind.wrap_u64]; omega
 have w0 : IntKind.u64.wrap (0 : Int) = 0 := by decide
 unfold bits_Mul.f bits_Mul64.f
 simp only [h1, hn, d1, dn, Int.zero_mul, Int.mul_zero, Int.one_mul, w0, wn, Int.zero_add, Int.add_zero, h0, Option.bind_some, show (0 : Int) / 4294967296 = 0 from by decide]
set_option maxHeartbeats 2000000 in
set_option maxRecDepth 100000 in
theorem cloneS.calls (g c : Nat) (l : List ByteArray) (b0 : Nat) (w : World) (hr : w.ownsRow b0 9 1 (.slice (some ⟨g, 0, none⟩) l.length c) l.length (l.map .string)) (hl : l.length ≤ 1000000) :
  Calls Tryz.prog 93 #[.slice (some ⟨g, 0, none⟩) l.length c] w fun e w' => ∃ v', e = .returned v' ∧ w'.ownsRow w.heap.size 9 1 v' l.length (l.map .string) ∧ Below w.heap.size w w' := by
 have q22 : ∀ (w : World) (a : Option Addr) (n c n' c' : Nat), (binOp .eql 60 (.slice a n c) (.slice none n' c')).run Tryz.prog w = .ok (.bool a.isNone) w := fun w a n c n' c' => Lib.run_eql_slice_nil w _ _ a n c n' c' Tryz.underlying60
 obtain ⟨i0, hi, hz0, hz1, hz2⟩ := info_parts infoStr
 have HC := zA (show ∀ j u, (l.map Value.string)[j]? = some u → w.cell? ((⟨g, 0, none⟩ : Addr).add j) = some u from fun j u hj => hr.cells (g := g) rfl j u hj)
 clear hr
 go_enter Tryz.func93, Tryz.ntmps93
 go_wp2_with (at_builtin; refine wpList_append_own _ rfl (.tmp 5) (.tmp 6) 60 rfl w.heap.size 9 i0 _ 1 _ Tryz.underlying60 hi hz0 hz1 hz2 rfl (by decide) _ 0 [] rfl (World.ownsRow_made w #[] 0 (Nat.le_refl _) (Nat.zero_le _) (by simp)) ⟨g, 0, none⟩ l.length c (l.map .string) rfl ?qc1 ?qc2 ?qc3 ?qc4 ?qc5 ?qc6 ?_)
 case qc1 => simp
 case qc2 => exact fun j u hj => Lib.cell?_alloc_some _ (HC.out j u hj)
 case qc3 => (intro u hu; rw [List.mem_map] at hu; obtain ⟨x, _, rfl⟩ := hu; rfl)
 case qc4 => unfold maxLen; omega
 case qc5 => omega
 case qc6 => simp
 intro v' w1 hown hgrow hnil
 go_wp2
 go_ret
 exact ⟨v', rfl, by simpa using hown, ((Below.refl _ w).alloc (Nat.le_refl _) _).grown hgrow (by simp) (by intro k hk; simp [Value.ownBlock] at hk; omega)⟩
def filled (x : Value) (k n : Nat) : List Value := List.replicate k x ++ List.replicate (n - k) (.string ⟨#[]⟩)
theorem filled_len (x : Value) (k n : Nat) (h : k ≤ n) : (filled x k n).length = n := by simp [filled]; omega
theorem filled_more (x : Value) (k m n : Nat) (h : k + m ≤ n) : (filled x k n).take k ++ List.replicate m x ++ (filled x k n).drop (k + m) = filled x (k + m) n := by
 unfold filled
 rw [List.take_left' (by simp), List.drop_append, List.drop_eq_nil_of_le (by simp), List.nil_append, List.length_replicate, List.drop_replicate, ← List.replicate_append_replicate]
 congr 2
 omega
theorem filled_all (x : Value) (n : Nat) : filled x n n = List.replicate n x := by simp [filled]
theorem cell_list {W : World} {g : Nat} {L : List Value} {t : TypeId} (h : W.heap[g]? = some (.cells L.toArray t (0, 0))) (j : Nat) : W.cell? ⟨g, j, none⟩ = L[j]? := by
 unfold World.cell?
 rw [h]
 simp
theorem frozen_list {W : World} {g : Nat} {L : List Value} {t : TypeId} (h : W.heap[g]? = some (.cells L.toArray t (0, 0))) (j : Nat) : W.frozen? ⟨g, j, none⟩ = false := by
 unfold World.frozen?
 rw [h]
 simp
theorem made_filled (x : Value) (n : Nat) : madeCells #[Value.string ⟨#[]⟩] n = (filled x 0 n).toArray := by
 have : (madeCells #[Value.string ⟨#[]⟩] n).toList = filled x 0 n := by
  apply List.ext_getElem
  ·simp [filled, madeCells]
  ·intro i h1 h2
   simp [filled, madeCells, Nat.mod_one]
 rw [← this]
theorem copy_filled {P : Program} {tS tE : TypeId} (hu : P.underlying tS = some (.slice tE)) (hs : (P.info? tE).map (·.size) = some 1) {x : ByteArray} {n k m g : Nat} {W : World} {ty : TypeId} (h : W.heap[g]? = some (.cells (filled (.string x) k n).toArray tE (0, 0))) (ad : Addr) (sLen sCap dLen dCap : Nat) (hm : Nat.min sLen dLen = m) (hk : k + m ≤ n)
  (hsrc : ∀ j, j < m → W.cell? (ad.add j) = some (.string x)) :
  (Builtin.copy_ #[tS, tS] ty #[.slice (some ⟨g, k, none⟩) dLen dCap, .slice (some ad) sLen sCap]).run P W = .ok (goInt m) (W.setCells g k (List.replicate m (.string x))) ∧ (W.setCells g k (List.replicate m (.string x))).heap[g]? = some (.cells (filled (.string x) (k + m) n).toArray tE (0, 0)) := by
 have hl : (filled (.string x) k n).length = n := filled_len _ _ _ (by omega)
 constructor
 ·rw [← hm]
  exact run_copy_k W tS tS ty tE 1 g k dLen dCap ad sLen sCap (List.replicate (Nat.min sLen dLen) (.string x)) hu hs (by simp) (fun j v hj => by
   obtain ⟨hj1, hj2⟩ := List.getElem?_eq_some_iff.1 hj
   rw [List.getElem_replicate] at hj2
   rw [← hj2]
   exact hsrc j (by rw [List.length_replicate, hm] at hj1; exact hj1)) (fun j hj => by
   rw [List.length_replicate, hm] at hj
   rw [cell_list h, List.getElem?_eq_getElem (by omega)]; rfl) (fun j hj => frozen_list h _) (fun v hv => by rw [(List.mem_replicate.1 hv).2]; rfl)
 ·have := blk_setCells g (List.replicate m (.string x)) k W (filled (.string x) k n) h (by rw [List.length_replicate]; omega)
  rw [this, List.length_replicate, filled_more _ _ _ _ hk]
set_option maxHeartbeats 4000000 in
set_option maxRecDepth 100000 in
theorem repeatS.calls (x : ByteArray) (gx n : Nat) (w : World) (hx : w.cell? ⟨gx, 0, none⟩ = some (.string x)) (h1 : 1 ≤ n) (h2 : n ≤ 8192) :
  Calls Tryz.prog 91 #[.slice (some ⟨gx, 0, none⟩) 1 1, .int .i64 n] w fun e w' => e = .returned (.slice (some ⟨w.heap.size, 0, none⟩) n n) ∧ w'.heap[w.heap.size]? = some (.cells (List.replicate n (.string x)).toArray 9 (0, 0)) ∧ Below w.heap.size w w' := by
 have hn0 : ¬ ((n : Int) < 0) := by omega
 have hn0b : decide ((n : Int) < 0) = false := zI hn0
 have HM := zA (fun W => bits_Mul.calls 1 (n : Int) 0 (n : Int) W (mul_one n (by omega)))
 have hmk := print_make_of (P := Tryz.prog) 60 9 (.string ⟨#[]⟩) 16 Tryz.underlying60 infoStr rfl (by decide) n (by omega)
 have hwn : IntKind.u64.wrap (n : Int) = (n : Int) := by rw [IntKind.wrap_u64]; omega
 have hw64 : wrap64 (n : Int) = (n : Int) := IntWalk.wrap64_in _ (by constructor <;> omega)
 have hbig : decide ((n : Int) > 9223372036854775807) = false := zI (by omega)
 have hsz : (Tryz.prog.info? 9).map (·.size) = some 1 := by kernel_rfl
 have HX1 := zA (show ∀ (m : Nat) (j : Nat), j < 1 → ((w.drewN m).alloc (.cells (madeCells #[Value.string ⟨#[]⟩] n) 9)).cell? ((⟨gx, 0, none⟩ : Addr).add j) = some (.string x) from fun m j hj => by
  obtain rfl : j = 0 := by omega
  rw [add_plain]
  exact Lib.cell?_alloc_some _ hx)
 have HMK := zA hmk
 have HSZ := zA hsz
 clear hx hmk hsz
 go_enter Tryz.func91, Tryz.ntmps91
 go_wp2_with (fail)
 go_at_call 141
 ·refine (HM.out _).mono ?_
  rintro e w1 ⟨rfl, ⟨⟨m, rfl⟩⟩⟩
  obtain ⟨Wm, hWm⟩ : ∃ Wm, Wm = (w.drewN m).alloc (.cells (madeCells #[Value.string ⟨#[]⟩] n) 9) := ⟨_, rfl⟩
  have hmk1 := HMK.out (w.drewN m)
  rw [← hWm, show (w.drewN m).heap.size = w.heap.size from rfl] at hmk1
  have HBm := zA (show Below w.heap.size w Wm from by rw [hWm]; exact (zF (Below.refl _ w) m).alloc (Nat.le_refl _) _)
  have HKm := zA (show Wm.heap[w.heap.size]? = some (.cells (filled (.string x) 0 n).toArray 9 (0, 0)) from by rw [hWm, show w.heap.size = (w.drewN m).heap.size from rfl, heap_alloc_new, made_filled])
  obtain ⟨Wc, hWc⟩ : ∃ Wc, Wc = Wm.setCells w.heap.size 0 (List.replicate 1 (.string x)) := ⟨_, rfl⟩
  have hcp := copy_filled (ty := 3) Tryz.underlying60 HSZ.out (x := x) (n := n) (k := 0) (m := 1) (W := Wm) (g := w.heap.size) HKm.out ⟨gx, 0, none⟩ 1 1 n n (Nat.min_eq_left h1) (by omega) (by rw [hWm]; exact HX1.out _)
  rw [← hWc] at hcp
  have HKc := zA (hcp.2)
  have hcp1 := hcp.1
  clear hcp hWm
  have HBc := zA (show Below w.heap.size w Wc from by rw [hWc]; exact below_setsW (Nat.le_refl _) _ _ HBm.out)
  clear hWc HKm HBm
  go_wp2
  go_loopg [8] n (fun gg s8 wr => ∃ k : Nat, s8 = .int .i64 k ∧ 1 ≤ k ∧ k ≤ n ∧ n - k ≤ gg ∧ Aside0 (wr.heap[w.heap.size]? = some (.cells (filled (.string x) k n).toArray 9 (0, 0))) ∧ Aside0 (Below w.heap.size w wr))
  case atStart => exact ⟨1, rfl, Nat.le_refl _, h1, by omega, HKc, HBc⟩
  case round =>
   clear HKc HBc
   obtain ⟨k, rfl, hk1, hk2, hg, HKr, HBr⟩ := hrel
   by_cases hlt : k < n
   ·have hltz : decide ((k : Int) < (n : Int)) = true := zH (by omega)
    have hi0 : (0 : Int) ≤ (k : Int) := by omega
    have hi1 : (k : Int) ≤ (n : Int) := by omega
    obtain ⟨m, hm⟩ : ∃ m, Nat.min k (n - k) = m := ⟨_, rfl⟩
    have hmk : m ≤ k := hm ▸ Nat.min_le_left _ _
    have hmn : m ≤ n - k := hm ▸ Nat.min_le_right _ _
    have hm1 : 1 ≤ m := by rw [← hm]; exact Nat.le_min.2 ⟨hk1, by omega⟩
    have hcp := copy_filled (ty := 3) Tryz.underlying60 HSZ.out (x := x) (n := n) (k := k) (m := m) (W := wr.drew) (g := w.heap.size) HKr.out ⟨w.heap.size, 0, none⟩ k n (n - k) (n - k) hm (by omega) (fun j hj => by
     rw [add_plain, cell_list (show wr.drew.heap[w.heap.size]? = _ from HKr.out), filled, List.getElem?_append_left (by simp; omega), List.getElem?_replicate, if_pos (by omega)])
    have hc1 := hcp.1
    have HK2 := zA hcp.2
    have HN := zA (show n - k ≤ _ ∧ 1 ≤ m ∧ m ≤ n - k from ⟨hg, hm1, hmn⟩)
    clear hcp hm hmk hg
    go_wp2
    go_region
    all_goals go_wp2
    go_roundg (n - (k + m))
    case measure => have := HN.out; omega
    case rel => exact ⟨k + m, by go_num, by omega, by have := HN.out; omega, by omega, HK2, ⟨below_setsW (Nat.le_refl _) _ _ (zK HBr.out)⟩⟩
   ·obtain rfl : n = k := by omega
    have hltz : decide ((n : Int) < (n : Int)) = false := zI (by omega)
    go_wp2
    go_ret
    exact ⟨rfl, by rw [HKr.out, filled_all], HBr.out⟩
def blank : ByteArray := Th.B (Th.zeros 64)
def newDV (n : Nat) : DV := ⟨List.replicate n blank, List.replicate n blank, [], -1, false⟩
theorem newDV_ok {n : Nat} (h1 : 1 ≤ n) (h2 : n ≤ 8192) : (newDV n).Ok := ⟨by simp [newDV]; omega, by simp [newDV]; omega, by simp [newDV], by show (-1 : Int) ≤ -1; decide, by show (-1 : Int) < 4611686018427387904; decide, fun p h => nomatch h⟩
theorem extraRep : Go.Proofs.Builder.Extra Tryz.prog Tryz.layRep_ren where
 sizeBuilder := by kernel_rfl
 liesBuilder := by kernel_rfl
 t5 := Tryz.underlying5
 a5 := Tryz.isAgg5
 z5 := Tryz.sizeOf5
 v5 := Tryz.zeroValue5
 infoByte := by kernel_rfl
 cellsByte := by kernel_rfl
 sizeByte := by kernel_rfl
 neB5 := by decide
theorem rep_zeros : ∀ n : Nat, Lib.repeatL [0] n = Th.zeros n := fun n => by
 induction n with
 | zero => rfl
 | succ n ih =>
  have : Lib.repeatL [0] (n + 1) = [0] ++ Lib.repeatL [0] n := by simp [Lib.repeatL, List.replicate_succ]
  rw [this, ih]
  rfl
theorem strRep.calls (n : Nat) (hn : n ≤ 140737488355328) (w : World) : Calls Tryz.prog 92 #[.string ⟨#[0]⟩, .int .i64 n] w fun e w' => e = .returned (.string (Th.B (Th.zeros n))) ∧ Below w.heap.size w w' := by
 refine (Any.strings_Repeat Tryz.layRep extraRep ⟨#[0]⟩ n w (by omega) (by show 1 * n ≤ _; omega)).mono ?_
 rintro e w' ⟨rfl, hb⟩
 exact ⟨by rw [show (⟨#[0]⟩ : ByteArray).data.toList = [0] from rfl, rep_zeros]; rfl, hb⟩
theorem own_rep {W : World} {g n b0 : Nat} {e : TypeId} {x : ByteArray} (h : W.heap[g]? = some (.cells (List.replicate n (Value.string x)).toArray e (0, 0))) (hb : b0 ≤ g) (hn : n ≤ 1000000) : W.ownsRow b0 e 1 (.slice (some ⟨g, 0, none⟩) n n) n ((List.replicate n x).map .string) :=
 ⟨by simp, .inr ⟨g, n, _, rfl, hb, h, Nat.le_refl _, by unfold maxLen; omega, by simp, by simp⟩⟩
set_option maxHeartbeats 4000000 in
set_option maxRecDepth 100000 in
theorem dnew.calls (n : Nat) (h1 : 1 ≤ n) (h2 : n ≤ 8192) (w0 w : World) (hB : Below w0.heap.size w0 w) :
  Calls Tryz.prog 39 #[.int .i64 n] w fun e w' => ∃ (g : Nat) (S : Nat → Prop), e = .returned (.tuple #[.pointer (some ⟨g, 0, none⟩), .int .i64 0]) ∧ DevAt w0 w' S g (newDV n) ∧ (∀ k, S k → w.heap.size ≤ k) ∧ Below w.heap.size w w' := by
 have hn0b : decide ((n : Int) < 1) = false := zI (by omega)
 have hn1b : decide ((n : Int) > 8192) = false := zI (by omega)
 have HR := zA (show ∀ W, Calls Tryz.prog 92 #[.string ⟨#[0]⟩, .int .i64 64] W fun e w' => e = .returned (.string blank) ∧ Below W.heap.size W w' from strRep.calls 64 (by decide))
 have HRS := zA (fun gx W hx => repeatS.calls blank gx n W hx h1 h2)
 have HCL := zA (show ∀ g b0 W, W.ownsRow b0 9 1 (.slice (some ⟨g, 0, none⟩) n n) n ((List.replicate n blank).map .string) → Calls Tryz.prog 93 #[.slice (some ⟨g, 0, none⟩) n n] W fun e w' => ∃ v', e = .returned v' ∧ w'.ownsRow W.heap.size 9 1 v' n ((List.replicate n blank).map .string) ∧ Below W.heap.size W w' from fun g b0 W hr => by
  have := cloneS.calls g n (List.replicate n blank) b0 W (by rw [List.length_replicate]; exact hr) (by rw [List.length_replicate]; omega)
  rwa [List.length_replicate] at this)
 have HB := zA hB
 have HS := zA (below_size hB)
 have H12 := zA (And.intro h1 h2)
 clear hB h1 h2
 go_enter Tryz.func39, Tryz.ntmps39
 go_wp2_with (first
  | (go_at_call 92; go_loud (refine (HR.out _).mono ?_; rintro e w1 ⟨rfl, hb1⟩; have HB1 := zA hb1; clear hb1))
  | (go_at_call 91; go_loud (refine (HRS.out _ _ ((zN (blk_new w1 _) 0).trans rfl)).mono ?_; rintro e w2 ⟨rfl, hk2, hb2⟩; obtain ⟨g2, hg2⟩ : ∃ g2, g2 = (w1.alloc (.cells #[Value.string blank] 9)).heap.size := ⟨_, rfl⟩; have HB2 := zA (show Below w.heap.size w w2 from below_then (zJ HB1.out _) (by have := HB1.out.size; simp; omega) hb2); rw [← hg2] at hk2 ⊢; have HG2 := zA (show w.heap.size ≤ g2 ∧ g2 < w2.heap.size from ⟨by have := HB1.out.size; rw [hg2]; simp; omega, blk_lt hk2⟩); have HK2 := zA hk2; clear hg2 hk2 hb2))
  | (go_at_call 93; go_loud (refine (HCL.out g2 w0.heap.size w2 (own_rep HK2.out (by have := HS.out; have := HG2.out; omega) (by have := H12.out; omega))).mono ?_; rintro e w3 ⟨v3, rfl, ho3, hb3⟩; obtain ⟨g3, c3, rfl⟩ := Go.Proofs.YtcclaidbikjhiaaGreatDoor.PVo.own_slice ho3 (by have := H12.out; omega); have HO3 := zA ho3; have HB3 := zA hb3; clear ho3 hb3)))
 go_ret2
 have hB3 : Below w.heap.size w w3 := HB2.out.trans (HB3.out.mono HB2.out.size)
 have hk3 := HB3.out.block g2 HG2.out.2
 have hnew := heap_alloc_new w3 (.cells #[.slice (some ⟨g2, 0, none⟩) n n, (.slice (some ⟨g3, 0, none⟩) n c3), .slice none 0 0, .int .i64 (-1), .bool false] 118)
 have hal : ∀ k, k < w3.heap.size → (w3.alloc (.cells #[.slice (some ⟨g2, 0, none⟩) n n, (.slice (some ⟨g3, 0, none⟩) n c3), .slice none 0 0, .int .i64 (-1), .bool false] 118)).heap[k]? = w3.heap[k]? := fun k hk => Below.heap_alloc _ _ _ hk
 have h23 := HB3.out.size
 have hws := HB2.out.size
 have hS0 := HS.out
 have hsn := HG2.out
 have hb3 : ∀ k, k = g3 → w2.heap.size ≤ k ∧ k < w3.heap.size := fun k hk => ⟨own_base HO3.out k (by rw [hk]; rfl), own_lt HO3.out k (by rw [hk]; rfl)⟩
 refine ⟨w3.heap.size, fun k => k = w3.heap.size ∨ k = g2 ∨ k = g3, rfl, ⟨_, _, _, newDV_ok H12.out.1 H12.out.2, hnew, .inl rfl, fun k hk => ?_, ?_, ?_, ⟨rfl, .inl ⟨rfl, rfl⟩⟩, fun k hk => .inr (.inl (by simpa [Value.ownBlock] using hk.symm)), fun k hk => .inr (.inr (by simpa [Value.ownBlock] using hk.symm)), fun k hk => by simp [Value.ownBlock] at hk, fun he => ?_⟩, fun k hk => ?_, hB3.alloc (by omega) _⟩
 ·simp only [World.alloc, Array.size_push]
  rcases hk with rfl | rfl | hk
  ·omega
  ·omega
  ·have := hb3 k hk; omega
 ·have := own_rep (x := blank) (b0 := w0.heap.size) ((hal g2 (by omega)).trans (hk3.trans HK2.out)) (by omega) (by have := H12.out; omega)
  simpa [newDV] using this
 ·have h4 := own_weaken (pw_own_below HO3.out (zJ (Below.refl _ w3) (.cells #[.slice (some ⟨g2, 0, none⟩) n n, (.slice (some ⟨g3, 0, none⟩) n c3), .slice none 0 0, .int .i64 (-1), .bool false] 118))) (show w0.heap.size ≤ w2.heap.size by omega)
  simpa [newDV] using h4
 ·have := hb3 g2 (by simpa [Value.ownBlock] using he)
  omega
 ·rcases hk with rfl | rfl | hk
  ·omega
  ·omega
  ·have := hb3 k hk; omega
open Go.RowKit Go.Proofs.YtcclaidbikjhiaaGreatDoorW.PrintWords Go.Proofs.YtcclaidbikjhiaaGreatDoorW.PrintLast Go.Proofs.YtcclaidbikjhiaaGreatDoorW.PrintMore Go.Proofs.YtcclaidbikjhiaaGreatDoor.Th
def secF (a : Int) (i n : Nat) : List Int := (List.range' i n).map fun i => a + ((i : Nat) : Int)
theorem secF_succ (a : Int) (i n : Nat) : secF a i (n + 1) = (a + (i : Int)) :: secF a (i + 1) n := by
 unfold secF
 rw [List.range'_succ, List.map_cons]
theorem secs_cons (s : Sp) (t : List Sp) : secs (s :: t) = secF s.f0 0 s.f1.toNat ++ secs t := by
 unfold secs secF
 rw [List.flatMap_cons, List.range_eq_range']
structure WrI (w0 w wr : World) (S : Nat → Prop) (g : Nat) (R : Int × DV) (rest : List Int) (t : List UInt8) (M : Nat) (X : Nat → Prop) : Prop where
 ex : ∃ (S' : Nat → Prop) (D' : DV), DevAt w0 wr S' g D' ∧ (∀ k, S k → S' k) ∧ (∀ k, S' k → S k ∨ w.heap.size ≤ k) ∧ writes (zipL rest t) D' = R ∧ D'.pend.length + rest.length ≤ M ∧ ∀ k, X k → ¬ S' k
 len : t.length = 64 * rest.length
 bel : Below w0.heap.size w0 wr
 kept : Kept w wr S
 xs : ∀ k, X k → k < wr.heap.size
theorem DevAt.sb {w0 W : World} {S : Nat → Prop} {g : Nat} {D : DV} (h : DevAt w0 W S g D) : ∀ k, S k → w0.heap.size ≤ k ∧ k < W.heap.size := by
 obtain ⟨vn, vl, vp, h⟩ := h
 exact h.sb
theorem kept_of {w a b : World} {S S' : Nat → Prop} (h : Kept w a S) (k : Kept a b S') (hs : ∀ k, S' k → S k ∨ w.heap.size ≤ k) : Kept w b S :=
 h.then_ k hs
theorem WrI.step {w0 w wr w' : World} {S S' X : Nat → Prop} {g M : Nat} {R : Int × DV} {a : Int} {rest : List Int} {t : List UInt8} {D' : DV} (hS : ∀ k, S k → S' k) (hS' : ∀ k, S' k → S k ∨ w.heap.size ≤ k) (hR : writes (zipL (a :: rest) t) D' = R) (hp : D'.pend.length + (a :: rest).length ≤ M) (hl : t.length = 64 * (a :: rest).length) (hk : Kept w wr S) (hX : ∀ k, X k → ¬ S' k) (hxs : ∀ k, X k → k < wr.heap.size) (h : DevGrew w0 wr w' S' g (D'.write a (B (t.take 64))).2) (h0 : (D'.write a (B (t.take 64))).1 = 0) : WrI w0 w w' S g R rest (t.drop 64) M X := by
 obtain ⟨S2, hd, h1, h2, hb, hk2⟩ := h
 have hsz := hk.1
 refine ⟨⟨S2, _, hd, fun k q => h1 k (hS k q), fun k q => ?_, ?_, ?_, fun k q q2 => ?_⟩, ?_, hb, kept_of hk hk2 hS', fun k q => Nat.lt_of_lt_of_le (hxs k q) hk2.1⟩
 ·rcases h2 k q with q | q
  ·exact hS' k q
  ·exact .inr (Nat.le_trans hsz q)
 ·unfold zipL writes at hR
  rw [if_pos h0] at hR
  exact hR
 ·have : (D'.write a (B (t.take 64))).2.pend.length ≤ D'.pend.length + 1 := by
   unfold DV.write
   repeat' split
   all_goals first
    | (simp only [spend_pend, DV.wrote, zO, List.length_cons, List.length_nil]; omega)
    | omega
  rw [List.length_cons] at hp
  omega
 ·rcases h2 k q2 with q2 | q2
  ·exact hX k q q2
  ·have := hxs k q; omega
 ·rw [List.length_cons] at hl
  rw [List.length_drop]
  omega
theorem WrI.past {w0 w wr w' : World} {S X : Nat → Prop} {g M : Nat} {R : Int × DV} {rest : List Int} {t : List UInt8} (h : WrI w0 w wr S g R rest t M X) (hb : Below wr.heap.size wr w') : WrI w0 w w' S g R rest t M X := by
 obtain ⟨S', D', hd, h1, h2, h3, h4, h5⟩ := h.ex
 exact ⟨⟨S', D', hd.kept (zP hb fun _ => False) fun _ _ h => h, h1, h2, h3, h4, h5⟩, h.len, below_then h.bel (below_size h.bel) hb, kept_of h.kept (zP hb fun _ => False) fun _ h => h.elim, fun k q => Nat.lt_of_lt_of_le (h.xs k q) hb.size⟩
theorem WrI.mark {w0 w wr w' : World} {S X : Nat → Prop} {g M : Nat} {R : Int × DV} {rest : List Int} {t : List UInt8} (h : WrI w0 w wr S g R rest t M X) (hb : Below wr.heap.size wr w') (hs : wr.heap.size < w'.heap.size) : WrI w0 w w' S g R rest t M (· = wr.heap.size) := by
 have h' := h.past hb
 obtain ⟨S', D', hd, h1, h2, h3, h4, h5⟩ := h.ex
 exact ⟨⟨S', D', hd.kept (zP hb fun _ => False) fun _ _ h => h, h1, h2, h3, h4, fun k q q2 => by have := (hd.sb k q2).2; omega⟩, h.len, h'.bel, h'.kept, fun k q => by omega⟩
theorem WrI.any {w0 w wr : World} {S X : Nat → Prop} {g M : Nat} {R : Int × DV} {rest : List Int} {t : List UInt8} (h : WrI w0 w wr S g R rest t M X) : WrI w0 w wr S g R rest t M fun _ => False := by
 obtain ⟨S', D', hd, h1, h2, h3, h4, h5⟩ := h.ex
 exact ⟨⟨S', D', hd, h1, h2, h3, h4, fun _ h => h.elim⟩, h.len, h.bel, h.kept, fun _ h => h.elim⟩
theorem DevGrew.past {w0 w W w' : World} {S : Nat → Prop} {g : Nat} {D : DV} (h : DevGrew w0 W w' S g D) (hb : Below w.heap.size w W) : DevGrew w0 w w' S g D := by
 obtain ⟨S2, e1, e2, e3, e4⟩ := h
 exact ⟨S2, e1, e2, fun k hk => (e3 k hk).imp_right (Nat.le_trans hb.size), e4.1, (zP hb S).then_ e4.2 fun _ h => .inl h⟩
theorem DevGrew.to {w0 w w' : World} {S : Nat → Prop} {g : Nat} {D : DV} (h : DevGrew w0 w w' S g D) : DevTo w0 w w' S := by
 obtain ⟨S2, e1, e2, e3, e4⟩ := h
 exact e4
set_option maxHeartbeats 4000000 in
set_option maxRecDepth 100000 in
theorem vwrite.calls (g : Nat) (S : Nat → Prop) (D : DV) (l : List Sp) (s : List UInt8) (A : Option Addr) (c : Nat) (Z w0 w : World) (hC : DevAt w0 w S g D) (hB : Below w0.heap.size w0 w) (hZ : ∀ W', Kept w W' S → Sub Z W') (hr : Kd.C k87 Z A l.length l) (hc : l.length ≤ c) (hok : OkL 8192 l) (hl : l.length ≤ 8192) (hs : (s.length : Int) ≤ Th.sumF l * 64) (hp : (D.pend.length : Int) + Th.sumF l < 1000000) :
  Calls Tryz.prog 95 #[.pointer (some ⟨g, 0, none⟩), .slice A l.length c, .string (B s)] w fun e w' => e = .returned (.int .i64 (wrF l s D).1) ∧ DevGrew w0 w w' S g (wrF l s D).2 := by
 have hu := Tryz.underlying87
 obtain ⟨kt, htot⟩ := (total_ev l (by omega)).get
 rw [totF_sum (by decide) (by decide) hok (by omega)] at htot
 have hsec := secs_len hok
 have hsb := sumF_bound hok (by decide)
 obtain ⟨n, hn⟩ := Int.eq_ofNat_of_zero_le hsb.1
 rw [hn] at htot
 have hns : (secs l).length = n := by omega
 obtain ⟨m, hm⟩ : ∃ m, m = n * 64 - s.length := ⟨_, rfl⟩
 have hmi : (n : Int) * 64 - (s.length : Int) = (m : Int) := by omega
 have HT := zA (fun W (q : Sub Z W) => span_Total.calls kt A c l (n : Int) W (mono_span.C q hr) hc htot)
 have HR := zA (fun W => strRep.calls m (by omega) W)
 have HZ := zA hZ
 have hw1 : wrap64 ((n : Int) * 64) = (n : Int) * 64 := wrap64_id (by omega) (by omega)
 have hw2 : wrap64 ((n : Int) * 64 - (s.length : Int)) = (m : Int) := by rw [hmi]; exact wrap64_id (by omega) (by omega)
 have hsz : (B s).size = s.length := B_size s
 have hz0 := hZ w (Kept.refl w S)
 have hpad : padded l s = s ++ zeros m := by unfold padded; rw [hn, hm]; congr 2
 have hsum : (9223372036854775807 < (B s).size + (B (zeros m)).size) = False := eq_false (by rw [B_size, B_size, zeros_len]; omega)
 have hsum2 : (9223372036854775807 < s.length + (B (zeros m)).size) = False := eq_false (by rw [B_size, zeros_len]; omega)
 have hsum3 : (9223372036854775807 < s.length + (zeros m).length) = False := eq_false (by rw [zeros_len]; omega)
 have HPD := zA (show B s ++ B (zeros m) = B (padded l s) by rw [hpad, B_append])
 have HI := zA (show WrI w0 w w S g (wrF l s D) (secs l) (padded l s) (D.pend.length + n) (fun _ => False) from ⟨⟨S, D, hC, fun _ h => h, fun _ h => .inl h, rfl, by omega, fun _ h => h.elim⟩, padded_len hok hs, hB, Kept.refl w S, fun _ h => h.elim⟩)
 have HM := zA (show D.pend.length + n < 1000000 by omega)
 have HCR := zA hr
 have HOK := zA hok
 generalize wrF l s D = R at HI ⊢
 have HN := zA (And.intro hc hl)
 clear hC hB hZ hr hok htot hm hmi hn hns hsec hsb hpad hs hp hl hc
 go_enter Tryz.func95, Tryz.ntmps95
 go_wp2_with (first
  | (go_at_call 76; go_loud (refine (HT.out _ hz0).mono ?_; rintro e w1 ⟨rfl, hb1⟩; have HB1 := zA hb1; clear hb1))
  | (go_at_call 92; go_loud (refine (HR.out _).mono ?_; rintro e w2 ⟨rfl, hb2⟩; have HB2 := zA hb2; clear hb2)))
 rw [HPD.out]
 go_loopg [2, 22] l.length (fun gg s2 s22 wr => ∃ (t : List UInt8) (j : Nat), s2 = .string (B t) ∧ s22 = .int .i64 j ∧ j ≤ l.length ∧ l.length - j ≤ gg ∧ Aside0 (WrI w0 w wr S g R (secs (l.drop j)) t (D.pend.length + n) fun _ => False))
 case atStart => exact ⟨_, 0, rfl, rfl, Nat.zero_le _, by omega, ⟨HI.out.past (HB1.out.trans (HB2.out.mono HB1.out.size))⟩⟩
 case round =>
  clear HB1 HB2 HI
  obtain ⟨t, j, rfl, rfl, hj, hg, HI⟩ := hrel
  by_cases hlt : j < l.length
  ·have hltz : decide ((j : Int) < (l.length : Int)) = true := zH (by omega)
   have hi0 : (0 : Int) ≤ (j : Int) := by omega
   have hi1 : (j : Int) < (l.length : Int) := by omega
   have hs1 := HZ.out wr HI.out.kept
   obtain ⟨ad, rfl, hx0, hx1⟩ := at_T87 (mono_span.C hs1 HCR.out) (j : Int) hi0 hi1
   rw [rd_T87_get l j hlt] at hx0 hx1
   have hdr : l.drop j = l[j] :: l.drop (j + 1) := List.drop_eq_getElem_cons hlt
   have hoj := HOK.out l[j] (List.getElem_mem hlt)
   have HG := zA hg
   generalize l[j] = p at hx0 hx1 hdr hoj
   obtain ⟨q, hq⟩ := Int.eq_ofNat_of_zero_le (Int.le_of_lt hoj.1)
   obtain ⟨p0, p1⟩ := p
   simp only at hq hx0 hx1 hoj
   subst hq
   have HI2 := zA (show WrI w0 w wr S g R (secF p0 0 q ++ secs (l.drop (j + 1))) t (D.pend.length + n) (fun _ => False) from by
    have := HI.out
    rw [hdr, secs_cons] at this
    exact this)
   have HOJ := zA (show 0 ≤ p0 ∧ p0 + (q : Int) ≤ 8192 from ⟨hoj.2.1, hoj.2.2⟩)
   simp only [Int.toNat_natCast] at hx0 hx1
   clear hdr HI hg hoj hs1 hsum hsum2 hsum3 hsz hw1 hw2
   go_wp2
   have HI3 := zA (HI2.out.mark (zJ (Below.refl _ wr) (.cells #[.int .i64 p0, .int .i64 q] 87)) (by simp))
   have HK := zA (blk_new wr (.cells #[.int .i64 p0, .int .i64 q] 87))
   generalize wr.alloc (.cells #[.int .i64 p0, .int .i64 q] 87) = wa at HI3 HK ⊢
   clear HI2 hx0 hx1
   generalize wr.heap.size = gb at HI3 HK ⊢
   go_loopg [2, 28] q (fun gg s2 s28 wr => ∃ (t : List UInt8) (i : Nat), s2 = .string (B t) ∧ s28 = .int .i64 i ∧ i ≤ q ∧ q - i ≤ gg ∧ Aside0 (WrI w0 w wr S g R (secF p0 i (q - i) ++ secs (l.drop (j + 1))) t (D.pend.length + n) (· = gb)) ∧ Aside0 (wr.heap[gb]? = some (.cells #[.int .i64 p0, .int .i64 q] 87 (0, 0))))
   case atStart => exact ⟨t, 0, rfl, rfl, Nat.zero_le _, by omega, HI3, HK⟩
   case round =>
    clear HI3 HK
    obtain ⟨t, i, rfl, rfl, hi, hgi, HI, HK⟩ := hrel
    have hc0 := (zN HK.out 0).trans rfl
    have hc1 := (zN HK.out 1).trans rfl
    by_cases hiq : i < q
    ·have hiqz : decide ((i : Int) < (q : Int)) = true := zH (by omega)
     obtain ⟨r, hr⟩ : ∃ r, q - i = r + 1 := ⟨q - i - 1, by omega⟩
     obtain ⟨S', D', hd, h1, h2, h3, h4, h5⟩ := HI.out.ex
     have hlen := HI.out.len
     rw [hr, secF_succ, List.cons_append] at h3 h4 hlen
     have hwa : wrap64 (p0 + (i : Int)) = p0 + (i : Int) := wrap64_id (by have := HOJ.out; omega) (by have := HOJ.out; omega)
     have h64 : 64 ≤ t.length := by rw [List.length_cons] at hlen; omega
     have h64z : (64 : Int) ≤ (t.length : Int) := by omega
     have h64s : 64 ≤ (B t).size := by rw [B_size]; exact h64
     obtain ⟨hR', hfin⟩ : ∃ r : Int × DV, r = D'.write (p0 + (i : Int)) (B (t.take 64)) := ⟨_, rfl⟩
     have HWR := zA (show ∀ W, Below wr.heap.size wr W → Calls Tryz.prog 30 #[.pointer (some ⟨g, 0, none⟩), .int .i64 (p0 + (i : Int)), .string (B (t.take 64))] W fun e w' => e = .returned (.int .i64 hR'.1) ∧ DevGrew w0 wr w' S' g hR'.2 ∧ w'.heap[gb]? = some (.cells #[.int .i64 p0, .int .i64 q] 87 (0, 0)) from fun W hW => by
      rw [hfin]
      refine (dwrite.calls g S' D' (p0 + (i : Int)) (B (t.take 64)) w0 W (hd.kept (zP hW fun _ => False) fun _ _ h => h) (below_then HI.out.bel (below_size HI.out.bel) hW) (by have := HM.out; omega)).mono ?_
      rintro e w' ⟨rfl, hgr⟩
      have hgb : gb < wr.heap.size := HI.out.xs gb rfl
      exact ⟨rfl, hgr.past hW, ((hgr.to.2.2 gb (Nat.lt_of_lt_of_le hgb hW.size) (h5 gb rfl)).trans (hW.block gb hgb)).trans HK.out⟩)
     have HST := zA (show ∀ w', hR'.1 = 0 → DevGrew w0 wr w' S' g hR'.2 → WrI w0 w w' S g R (secF p0 (i + 1) (q - (i + 1)) ++ secs (l.drop (j + 1))) (t.drop 64) (D.pend.length + n) (· = gb) from fun w' h0 hg => by
      rw [show q - (i + 1) = r by omega]
      rw [hfin] at h0 hg
      exact WrI.step h1 h2 h3 h4 hlen HI.out.kept h5 HI.out.xs hg h0)
     have HEND := zA (show ∀ w', hR'.1 ≠ 0 → DevGrew w0 wr w' S' g hR'.2 → R = hR' ∧ DevGrew w0 w w' S g R.2 from fun w' h0 hg => by
      have hRR : R = hR' := by
       rw [hfin] at h0 ⊢
       unfold zipL writes at h3
       rw [if_neg h0] at h3
       exact h3.symm
      refine ⟨hRR, ?_⟩
      rw [hRR]
      obtain ⟨S2, e1, e2, e3, e4⟩ := hg
      have hsz := HI.out.kept.1
      exact ⟨S2, e1, fun k hk => e2 k (h1 k hk), fun k hk => by
       rcases e3 k hk with q | q
       ·exact h2 k q
       ·exact .inr (Nat.le_trans hsz q), e4.1, kept_of HI.out.kept e4.2 h2⟩)
     have HGI := zA (And.intro hgi hiq)
     clear hd h1 h2 h3 h4 h5 hlen hr HI HK hfin hgi
     obtain ⟨e0, D2⟩ := hR'
     by_cases h0 : e0 = 0
     ·have b0 : (e0 != 0) = false := bne_eq_false_iff_eq.mpr h0
      go_wp2
      obtain ⟨st, hst⟩ : ∃ st, B t = st := ⟨_, rfl⟩
      rw [hst] at h64s ⊢
      have h64y : (64 : Int) ≤ (st.size : Int) := by omega
      have hwb : IntKind.i64.wrap (p0 + (i : Int)) = p0 + (i : Int) := by rw [i64_w]; exact hwa
      have HST2 := zA hst
      clear hst
      go_still_tail 7, (by kernel_rfl)
      change wpList _ _ _ _ _ wr.drew
      generalize hwd : wr.drew = wd
      have HWD := zA (show Below wr.heap.size wr wd from by rw [← hwd]; exact zK (Below.refl _ _))
      clear hwd
      go_wp2_with (go_at_call 30; go_loud (rw [← HST2.out, B_upto]; refine (HWR.out _ HWD.out).mono ?_; rintro e w5 ⟨rfl, hg5, hk5⟩; have HG5 := zA hg5; have HK5 := zA hk5; clear hg5 hk5))
      go_roundg (q - (i + 1))
      case measure => have := HGI.out; omega
      case rel => exact ⟨t.drop 64, i + 1, by rw [B_from], by rw [idx i (by have := HOJ.out; have := HGI.out; omega)], by omega, Nat.le_refl _, ⟨HST.out _ h0 HG5.out⟩, HK5⟩
     ·have b0 : (e0 != 0) = true := bne_iff_ne.mpr h0
      go_wp2
      obtain ⟨st, hst⟩ : ∃ st, B t = st := ⟨_, rfl⟩
      rw [hst] at h64s ⊢
      have h64y : (64 : Int) ≤ (st.size : Int) := by omega
      have hwb : IntKind.i64.wrap (p0 + (i : Int)) = p0 + (i : Int) := by rw [i64_w]; exact hwa
      have HST2 := zA hst
      clear hst
      go_still_tail 7, (by kernel_rfl)
      change wpList _ _ _ _ _ wr.drew
      generalize hwd : wr.drew = wd
      have HWD := zA (show Below wr.heap.size wr wd from by rw [← hwd]; exact zK (Below.refl _ _))
      clear hwd
      go_wp2_with (go_at_call 30; go_loud (rw [← HST2.out, B_upto]; refine (HWR.out _ HWD.out).mono ?_; rintro e w5 ⟨rfl, hg5, hk5⟩; have HG5 := zA hg5; have HK5 := zA hk5; clear hg5 hk5))
      go_ret
      obtain ⟨e1, e2⟩ := HEND.out _ h0 HG5.out
      exact ⟨by rw [e1]; rfl, e2⟩
    ·obtain rfl : i = q := by omega
     have hiqz : decide ((i : Int) < (i : Int)) = false := zI (by omega)
     have HI2 := zA (show WrI w0 w wr S g R (secs (l.drop (j + 1))) t (D.pend.length + n) (fun _ => False) from by
      have := HI.out.any
      rw [Nat.sub_self] at this
      exact this)
     clear HI HK
     go_wp2
     go_roundg (l.length - (j + 1))
     case measure => have := HG.out; omega
     case rel => exact ⟨t, j + 1, rfl, by rw [idx j (by have := HN.out; omega)], by omega, Nat.le_refl _, HI2⟩
  ·obtain rfl : j = l.length := by omega
   have hltz : decide ((l.length : Int) < (l.length : Int)) = false := zI (by omega)
   go_wp2
   go_ret
   obtain ⟨S', D', hd, h1, h2, h3, h4, h5⟩ := HI.out.ex
   rw [List.drop_length] at h3
   obtain rfl : R = (0, D') := h3.symm
   exact ⟨rfl, S', hd, h1, h2, HI.out.bel, HI.out.kept⟩
theorem reads_err : ∀ (l : List Int) (D : DV), (reads l D).2 ≠ 0 → (reads l D).1 = []
 | [], _, h => absurd rfl h
 | a :: t, D, h => by
  unfold reads at h ⊢
  split
  ·rename_i h0
   rw [if_pos h0] at h
   split
   ·rename_i h1
    rw [if_pos h1] at h
    exact absurd rfl h
   ·rfl
  ·rfl
structure RdI (w wr : World) (b : Nat) (D : DV) (F : List UInt8 × Int) (rest : List Int) (acc : List UInt8) (M : Nat) : Prop where
 ans : F = if (reads rest D).2 = 0 then (acc ++ (reads rest D).1, 0) else ([], (reads rest D).2)
 len : acc.length + 64 * rest.length = M
 bld : Lib.IsBuilderF 143 5 w.heap.size b (Lib.byteCells acc) wr
 bel : Below w.heap.size w wr
theorem RdI.past {w wr w' : World} {b M : Nat} {D : DV} {F : List UInt8 × Int} {rest : List Int} {acc : List UInt8} (h : RdI w wr b D F rest acc M) (hb : Below wr.heap.size wr w') : RdI w w' b D F rest acc M :=
 ⟨h.ans, h.len, bf_below h.bld hb, below_then h.bel h.bel.size hb⟩
theorem read_len {D : DV} (h64 : ∀ s ∈ D.now, s.size = 64) {a : Int} (h : (D.read a).2 = 0) : (D.read a).1.size = 64 := by
 unfold DV.read at h ⊢
 split
 ·rename_i h0
  obtain ⟨h1, h2, h3⟩ := wrong_zero h0
  show (D.now.getD a.toNat _).size = 64
  rw [List.getD_eq_getElem?_getD, List.getElem?_eq_getElem (by omega)]
  exact h64 _ (List.getElem_mem _)
 ·rename_i h0
  rw [if_neg h0] at h
  exact absurd h h0
set_option maxHeartbeats 4000000 in
set_option maxRecDepth 100000 in
theorem vread.calls (g : Nat) (S : Nat → Prop) (D : DV) (l : List Sp) (n : Nat) (A : Option Addr) (c : Nat) (w0 w : World) (hC : DevAt w0 w S g D) (hr : Kd.C k87 w A l.length l) (hok : OkL 8192 l) (hl : l.length ≤ 8192) (h64 : ∀ s ∈ D.now, s.size = 64) (hn : (n : Int) ≤ Th.sumF l * 64) (hs : Th.sumF l ≤ 1000000) :
  Calls Tryz.prog 54 #[.pointer (some ⟨g, 0, none⟩), .slice A l.length c, .int .i64 n] w fun e w' => e = .returned (.tuple #[.string (B (rdF l n D).1), .int .i64 (rdF l n D).2]) ∧ Below w.heap.size w w' := by
 have hu := Tryz.underlying87
 obtain ⟨vn, vl, vp, hC⟩ := hC
 have hsec := secs_len hok
 obtain ⟨M, hM⟩ : ∃ M, M = 64 * (secs l).length := ⟨_, rfl⟩
 have HD := zA (fun (W : World) (hW : Below w.heap.size w W) (a : Int) => dread.calls g S D a w0 W vn vl vp (hC.kept (zP hW fun _ => False) fun _ _ h => h))
 have HRC := zA (fun (W : World) (hW : Below w.heap.size w W) => Kd.C_below hr hW)
 have HOK := zA hok
 have HN := zA (show l.length ≤ 8192 ∧ n ≤ M ∧ M ≤ 64000000 from ⟨hl, by omega, by omega⟩)
 have H64 := zA (fun a => read_len (D := D) h64 (a := a))
 have HI := zA (show RdI w (w.alloc (.cells #[.pointer none, .slice none 0 0] 143)) w.heap.size D (reads (secs l) D) (secs l) [] M from ⟨by
  split
  ·rename_i h
   rw [List.nil_append, ← h]
  ·rename_i h
   rw [← reads_err _ _ h], by rw [hM]; simp, Lib.IsBuilderF.of (Lib.fresh_isBuilder 143 5 w), zJ (Below.refl _ w) _⟩)
 have HF := zA (show rdF l n D = if (reads (secs l) D).2 = 0 then ((reads (secs l) D).1.take n, 0) else ([], (reads (secs l) D).2) from rfl)
 generalize rdF l n D = F at HF ⊢
 generalize reads (secs l) D = F0 at HF HI
 clear hC hr hok h64 hsec hM hn hs hl
 go_enter Tryz.func54, Tryz.ntmps54
 go_wp2
 go_loopg [16] l.length (fun gg s16 wr => ∃ (acc : List UInt8) (j : Nat), s16 = .int .i64 j ∧ j ≤ l.length ∧ l.length - j ≤ gg ∧ Aside0 (RdI w wr w.heap.size D F0 (secs (l.drop j)) acc M))
 case atStart => exact ⟨[], 0, rfl, Nat.zero_le _, by omega, HI⟩
 case round =>
  clear HI
  obtain ⟨acc, j, rfl, hj, hg, HI⟩ := hrel
  by_cases hlt : j < l.length
  ·have hltz : decide ((j : Int) < (l.length : Int)) = true := zH (by omega)
   have hi0 : (0 : Int) ≤ (j : Int) := by omega
   have hi1 : (j : Int) < (l.length : Int) := by omega
   obtain ⟨ad, rfl, hx0, hx1⟩ := at_T87 (HRC.out wr HI.out.bel) (j : Int) hi0 hi1
   rw [rd_T87_get l j hlt] at hx0 hx1
   have hdr : l.drop j = l[j] :: l.drop (j + 1) := List.drop_eq_getElem_cons hlt
   have hoj := HOK.out l[j] (List.getElem_mem hlt)
   have HG := zA hg
   generalize l[j] = p at hx0 hx1 hdr hoj
   obtain ⟨q, hq⟩ := Int.eq_ofNat_of_zero_le (Int.le_of_lt hoj.1)
   obtain ⟨p0, p1⟩ := p
   simp only at hq hx0 hx1 hoj
   subst hq
   have HI2 := zA (show RdI w wr w.heap.size D F0 (secF p0 0 q ++ secs (l.drop (j + 1))) acc M from by
    have := HI.out
    rw [hdr, secs_cons] at this
    exact this)
   have HOJ := zA (show 0 ≤ p0 ∧ p0 + (q : Int) ≤ 8192 from ⟨hoj.2.1, hoj.2.2⟩)
   simp only [Int.toNat_natCast] at hx0 hx1
   clear hdr HI hg hoj
   go_wp2
   have HI3 := zA (HI2.out.past (zJ (Below.refl _ wr) (.cells #[.int .i64 p0, .int .i64 q] 87)))
   have HK := zA (blk_new wr (.cells #[.int .i64 p0, .int .i64 q] 87))
   have HGB := zA (show w.heap.size < wr.heap.size from bf_lt HI2.out.bld)
   generalize wr.alloc (.cells #[.int .i64 p0, .int .i64 q] 87) = wa at HI3 HK ⊢
   clear HI2 hx0 hx1
   generalize wr.heap.size = gb at HGB HK ⊢
   go_loopg [22] q (fun gg s22 wr => ∃ (acc : List UInt8) (i : Nat), s22 = .int .i64 i ∧ i ≤ q ∧ q - i ≤ gg ∧ Aside0 (RdI w wr w.heap.size D F0 (secF p0 i (q - i) ++ secs (l.drop (j + 1))) acc M) ∧ Aside0 (wr.heap[gb]? = some (.cells #[.int .i64 p0, .int .i64 q] 87 (0, 0))))
   case atStart => exact ⟨acc, 0, rfl, Nat.zero_le _, by omega, HI3, HK⟩
   case round =>
    clear HI3 HK
    obtain ⟨acc, i, rfl, hi, hgi, HI, HK⟩ := hrel
    have hc0 := (zN HK.out 0).trans rfl
    have hc1 := (zN HK.out 1).trans rfl
    by_cases hiq : i < q
    ·have hiqz : decide ((i : Int) < (q : Int)) = true := zH (by omega)
     obtain ⟨r, hr⟩ : ∃ r, q - i = r + 1 := ⟨q - i - 1, by omega⟩
     have hans := HI.out.ans
     have hlen := HI.out.len
     rw [hr, secF_succ, List.cons_append] at hans hlen
     have hwa : wrap64 (p0 + (i : Int)) = p0 + (i : Int) := wrap64_id (by have := HOJ.out; omega) (by have := HOJ.out; omega)
     have HDR := zA (HD.out wr HI.out.bel (p0 + (i : Int)))
     obtain ⟨rd, hrd⟩ : ∃ rd, rd = D.read (p0 + (i : Int)) := ⟨_, rfl⟩
     have HLN := zA (H64.out (p0 + (i : Int)))
     unfold reads at hans
     rw [← hrd] at HDR hans HLN
     rw [List.length_cons] at hlen
     have HLE := zA (show acc.length + 64 ≤ M by omega)
     have HST := zA (show rd.2 = 0 → ∀ w', Lib.IsBuilderF 143 5 w.heap.size w.heap.size (Lib.byteCells (acc ++ rd.1.data.toList)) w' → Below w.heap.size w w' → RdI w w' w.heap.size D F0 (secF p0 (i + 1) (q - (i + 1)) ++ secs (l.drop (j + 1))) (acc ++ rd.1.data.toList) M from fun h0 w' hb hbel => by
      rw [show q - (i + 1) = r by omega]
      refine ⟨?_, ?_, hb, hbel⟩
      ·rw [hans]
       by_cases h1 : (reads (secF p0 (i + 1) r ++ secs (l.drop (j + 1))) D).2 = 0
       ·simp [h0, h1, List.append_assoc]
       ·simp [h0, h1]
      ·have h9 : rd.1.data.size = 64 := HLN.out h0
       rw [zO, show rd.1.data.toList.length = 64 from by rw [Array.length_toList]; exact h9]
       omega)
     have HEND := zA (show rd.2 ≠ 0 → F = ([], rd.2) from fun h0 => by
      rw [HF.out, hans]
      simp [h0])
     have HGI := zA (And.intro hgi hiq)
     clear hans hlen hr hrd hgi
     obtain ⟨rs, e0⟩ := rd
     by_cases h0 : e0 = 0
     ·have b0 : (e0 != 0) = false := bne_eq_false_iff_eq.mpr h0
      go_wp2_with (first
       | (go_at_call 90; go_loud (refine HDR.out.mono ?_; rintro e w5 ⟨rfl, hd5⟩; have HI5 := zA (HI.out.past hd5.below); have HK5 := zA (blk_below HK.out hd5.below); clear hd5))
       | (go_at_call 81; go_loud (refine (builder_WS.calls w.heap.size w.heap.size acc rs w5 HI5.out.bld (by have := HLE.out; have h9 : rs.size = 64 := HLN.out h0; have := HN.out; omega) HI5.out.bel.size).mono ?_; rintro e w6 ⟨rfl, h6, b6, k6⟩; have HI6 := zA (HST.out h0 w6 h6 (HI5.out.bel.trans b6)); have HK6 := zA (k6 gb _ HK5.out (by intro h; have := HGB.out; injection h; omega) (fun c fz h => by injection h with _ h; exact absurd h (by decide))); clear h6 b6 k6)))
      go_roundg (q - (i + 1))
      case measure => have := HGI.out; omega
      case rel => exact ⟨acc ++ rs.data.toList, i + 1, by rw [idx i (by have := HOJ.out; have := HGI.out; omega)], by omega, Nat.le_refl _, HI6, HK6⟩
     ·have b0 : (e0 != 0) = true := bne_iff_ne.mpr h0
      go_wp2_with (first
       | (go_at_call 90; go_loud (refine HDR.out.mono ?_; rintro e w5 ⟨rfl, hd5⟩; have HI5 := zA (HI.out.past hd5.below); clear hd5)))
      go_ret2
      rw [HEND.out h0]
      exact ⟨rfl, HI5.out.bel⟩
    ·obtain rfl : i = q := by omega
     have hiqz : decide ((i : Int) < (i : Int)) = false := zI (by omega)
     have HI2 := zA (show RdI w wr w.heap.size D F0 (secs (l.drop (j + 1))) acc M from by
      have := HI.out
      rw [Nat.sub_self] at this
      exact this)
     clear HI HK
     go_wp2
     go_roundg (l.length - (j + 1))
     case measure => have := HG.out; omega
     case rel => exact ⟨acc, j + 1, by rw [idx j (by have := HN.out; omega)], by omega, Nat.le_refl _, HI2⟩
  ·obtain rfl : j = l.length := by omega
   have hltz : decide ((l.length : Int) < (l.length : Int)) = false := zI (by omega)
   have hlen := HI.out.len
   have hans := HI.out.ans
   rw [List.drop_length] at hans hlen
   have hF : F = (acc.take n, 0) := by
    have h0 : F0 = (acc, 0) := by
     rw [hans]
     show (if (0 : Int) = 0 then (acc ++ [], (0 : Int)) else ([], 0)) = _
     rw [if_pos rfl, List.append_nil]
    rw [HF.out, h0]
    exact if_pos rfl
   have hacc : n ≤ acc.length := by have := HN.out; have h0 : (secs ([] : List Sp)).length = 0 := rfl; omega
   have hnz : (n : Int) ≤ (acc.length : Int) := by omega
   have hn0 : (0 : Int) ≤ (n : Int) := by omega
   have HS := zA (builder_S.calls w.heap.size w.heap.size acc wr HI.out.bld HI.out.bel.size)
   have hny : (n : Int) ≤ ((B acc).size : Int) := by rw [B_size]; exact hnz
   have HBW := zA HI.out.bel
   clear hlen hans HI
   go_wp2_with (go_at_call 84; go_loud (refine HS.out.mono ?_; rintro e w7 ⟨rfl, hb7⟩; (try change Value.string (⟨acc.toArray⟩ : ByteArray) = _); have HB7 := zA hb7; clear hb7))
   go_ret2
   rw [hF]
   refine ⟨?_, HBW.out.trans HB7.out⟩
   rw [← B_upto]
   rfl
structure HV where
 gen : Int
 sect : Int
 size : Int
 spans : List Sp
def lowS (s : Sp) : Bool := decide (s.f0 < 2)
def roomB (size : Int) (l : List Sp) : Bool := decide (size ≤ Th.sumF l * 64) && decide (Th.sumF l * 64 - size < 64)
def headR (h : HV) : Bool := !(decide (h.sect < 2)) && (!(decide (h.size < 0)) && (!(decide ((h.spans.length : Int) > 8)) && (rightF h.sect (-1) h.spans && (!(h.spans.any lowS) && roomB h.size h.spans))))
set_option maxHeartbeats 2000000 in
set_option maxRecDepth 100000 in
theorem low.calls (x : Sp) (w : World) : Calls Tryz.prog 155 #[.agg #[.int .i64 x.f0, .int .i64 x.f1]] w fun e w' => e = .returned (.bool (lowS x)) ∧ Below w.heap.size w w' := by
 have hu := Tryz.underlying87
 unfold lowS
 go_enter Tryz.func155, Tryz.ntmps155
 go_wp2
 go_ret
 exact ⟨rfl, Below.alloc (Below.refl _ _) (Nat.le_refl _) _⟩
theorem egLow : ∀ args w, (callFunc 155 args).run Tryz.prog w = .ok (.enter 155 args) w := enters_of Tryz.func155 (by kernel_rfl) rfl
set_option maxHeartbeats 4000000 in
set_option maxRecDepth 100000 in
theorem hright.calls (h : HV) (A : Option Addr) (c : Nat) (w : World) (hr : Kd.C k87 w A h.spans.length h.spans) (hc : h.spans.length ≤ c) (hl : h.spans.length ≤ 100000) (hs : -4611686018427387904 ≤ h.size ∧ h.size ≤ 4611686018427387904) :
  Calls Tryz.prog 109 #[.agg #[.int .u64 h.gen, .int .i64 h.sect, .int .i64 h.size, .slice A h.spans.length c]] w fun e w' => e = .returned (.bool (headR h)) ∧ Below w.heap.size w w' := by
 obtain ⟨gen, sect, size, l⟩ := h
 simp only at hr hc hl hs ⊢
 have hu := Tryz.underlying87
 have hu2 := Tryz.underlying46
 obtain ⟨kr, hrt⟩ := (right_ev l sect hl).get
 have HRT := zA (fun W (hW : Below w.heap.size w W) => span_Right.calls kr A c l sect _ W (Kd.C_below hr hW) hc hrt)
 have HAN := zA (fun W (hW : Below w.heap.size w W) => hasSpan.calls lowS 155 #[] egLow A c l W (Kd.C_below hr hW) (fun W' x cs hb hk => by
  obtain rfl := k87_open hk
  exact low.calls x W'))
 obtain ⟨kt, htt⟩ := (total_ev l (by omega)).get
 have HTT := zA (fun W (hW : Below w.heap.size w W) => span_Total.calls kt A c l _ W (Kd.C_below hr hW) hc htt)
 have HSZ := zA hs
 have HB0 := zA (zJ (Below.refl _ w) (.cells #[.int .u64 gen, .int .i64 sect, .int .i64 size, .slice A l.length c] 46))
 have HK0 := zA (blk_new w (.cells #[.int .u64 gen, .int .i64 sect, .int .i64 size, .slice A l.length c] 46))
 have HHL := zA hl
 clear hr hc hs hrt htt hl
 by_cases c1 : sect < 2
 ·have b1 : decide (sect < 2) = true := zH c1
  have hR : headR ⟨gen, sect, size, l⟩ = false := by unfold headR; simp [b1]
  rw [hR]
  go_enter Tryz.func109, Tryz.ntmps109
  go_wp2
  go_ret
  exact ⟨rfl, HB0.out⟩
 ·have b1 : decide (sect < 2) = false := zI c1
  by_cases c2 : size < 0
  ·have b2 : decide (size < 0) = true := zH c2
   have hR : headR ⟨gen, sect, size, l⟩ = false := by unfold headR; simp [b1, b2]
   rw [hR]
   go_enter Tryz.func109, Tryz.ntmps109
   go_wp2
   go_ret
   exact ⟨rfl, HB0.out⟩
  ·have b2 : decide (size < 0) = false := zI c2
   by_cases c3 : (l.length : Int) > 8
   ·have b3 : decide ((l.length : Int) > 8) = true := zH c3
    have hR : headR ⟨gen, sect, size, l⟩ = false := by unfold headR; simp only [b1, b2, b3]; rfl
    rw [hR]
    go_enter Tryz.func109, Tryz.ntmps109
    go_wp2
    go_ret
    exact ⟨rfl, HB0.out⟩
   ·have b3 : decide ((l.length : Int) > 8) = false := zI c3
    have hR : headR ⟨gen, sect, size, l⟩ = (rightF sect (-1) l && (!(l.any lowS) && roomB size l)) := by unfold headR; simp only [b1, b2, b3]; rfl
    rw [hR]
    have HRF := zA (show rightF sect (-1) l = true → totF l = Th.sumF l ∧ 0 ≤ Th.sumF l ∧ Th.sumF l ≤ 819200000 from fun hq => by
     have hsz : Sized sect := by
      by_cases hz : Sized sect
      ·exact hz
      ·rw [rightF_sized hz] at hq; cases hq
     have hok := ((rightF_iff hsz l (-1)).1 hq).1
     have hsb := sumF_bound hok (by have := hsz.1; omega)
     have hle : sect * (l.length : Int) ≤ 8192 * 100000 := Int.mul_le_mul hsz.2 (by have := HHL.out; omega) (by omega) (by decide)
     exact ⟨totF_sum (by have := hsz.1; omega) hsz.2 hok (by have := HHL.out; omega), hsb.1, by omega⟩)
    cases c4 : rightF sect (-1) l with
    | false =>
     rw [c4] at HRT
     have hfin : (false && (!(l.any lowS) && roomB size l)) = false := rfl
     rw [hfin]
     go_enter Tryz.func109, Tryz.ntmps109
     go_wp2_with (first | (go_at_call 156; go_loud (refine (HRT.out _ HB0.out).mono ?_; rintro e w1 ⟨rfl, hb1⟩; have HB1 := zA (below_then HB0.out HB0.out.size hb1); have HK1 := zA (blk_below HK0.out hb1); clear hb1; have d0 := zN HK1.out 0; have d1 := zN HK1.out 1; have d2 := zN HK1.out 2; have d3 := zN HK1.out 3)))
     go_ret
     exact ⟨rfl, HB1.out⟩
    | true =>
     rw [c4] at HRT
     obtain ⟨htf, hs0, hs1⟩ := HRF.out c4
     cases c5 : l.any lowS with
     | true =>
      rw [c5] at HAN
      have hfin : (true && (!true && roomB size l)) = false := rfl
      rw [hfin]
      clear htf hs0 hs1
      go_enter Tryz.func109, Tryz.ntmps109
      go_wp2_with (first | (go_at_call 156; go_loud (refine (HRT.out _ HB0.out).mono ?_; rintro e w1 ⟨rfl, hb1⟩; have HB1 := zA (below_then HB0.out HB0.out.size hb1); have HK1 := zA (blk_below HK0.out hb1); clear hb1; have d0 := zN HK1.out 0; have d1 := zN HK1.out 1; have d2 := zN HK1.out 2; have d3 := zN HK1.out 3)) | (go_at_call 157; go_loud (refine (HAN.out _ HB1.out).mono ?_; rintro e w2 ⟨rfl, hb2⟩; have HB2 := zA (below_then HB1.out HB1.out.size hb2); have HK2 := zA (blk_below HK1.out hb2); clear hb2; have e0 := zN HK2.out 0; have e1 := zN HK2.out 1; have e2 := zN HK2.out 2; have e3 := zN HK2.out 3)))
      go_ret
      exact ⟨rfl, HB2.out⟩
     | false =>
      rw [c5] at HAN
      rw [htf] at HTT
      unfold roomB
      have hfin : ∀ x : Bool, (true && (!false && x)) = x := fun x => by cases x <;> rfl
      rw [hfin]
      have hw1 : wrap64 (Th.sumF l * 64) = Th.sumF l * 64 := wrap64_id (by omega) (by omega)
      have hw2 : wrap64 (Th.sumF l * 64 - size) = Th.sumF l * 64 - size := wrap64_id (by have := HSZ.out; omega) (by have := HSZ.out; omega)
      clear htf hs0 hs1 HRF
      generalize Th.sumF l = T at HTT hw1 hw2 ⊢
      by_cases c6 : size ≤ T * 64
      ·have b6 : decide (size ≤ T * 64) = true := zH c6
       rw [b6, Bool.true_and]
       go_enter Tryz.func109, Tryz.ntmps109
       go_wp2_with (first | (go_at_call 156; go_loud (refine (HRT.out _ HB0.out).mono ?_; rintro e w1 ⟨rfl, hb1⟩; have HB1 := zA (below_then HB0.out HB0.out.size hb1); have HK1 := zA (blk_below HK0.out hb1); clear hb1; have d0 := zN HK1.out 0; have d1 := zN HK1.out 1; have d2 := zN HK1.out 2; have d3 := zN HK1.out 3)) | (go_at_call 157; go_loud (refine (HAN.out _ HB1.out).mono ?_; rintro e w2 ⟨rfl, hb2⟩; have HB2 := zA (below_then HB1.out HB1.out.size hb2); have HK2 := zA (blk_below HK1.out hb2); clear hb2; have e0 := zN HK2.out 0; have e1 := zN HK2.out 1; have e2 := zN HK2.out 2; have e3 := zN HK2.out 3)) | (go_at_call 76; go_loud (refine (HTT.out _ HB2.out).mono ?_; rintro e w3 ⟨rfl, hb3⟩; have HB3 := zA (below_then HB2.out HB2.out.size hb3); have HK3 := zA (blk_below HK2.out hb3); clear hb3; have f0 := zN HK3.out 0; have f1 := zN HK3.out 1; have f2 := zN HK3.out 2; have f3 := zN HK3.out 3)))
       go_ret
       exact ⟨rfl, HB3.out⟩
      ·have b6 : decide (size ≤ T * 64) = false := zI c6
       rw [b6, Bool.false_and]
       go_enter Tryz.func109, Tryz.ntmps109
       go_wp2_with (first | (go_at_call 156; go_loud (refine (HRT.out _ HB0.out).mono ?_; rintro e w1 ⟨rfl, hb1⟩; have HB1 := zA (below_then HB0.out HB0.out.size hb1); have HK1 := zA (blk_below HK0.out hb1); clear hb1; have d0 := zN HK1.out 0; have d1 := zN HK1.out 1; have d2 := zN HK1.out 2; have d3 := zN HK1.out 3)) | (go_at_call 157; go_loud (refine (HAN.out _ HB1.out).mono ?_; rintro e w2 ⟨rfl, hb2⟩; have HB2 := zA (below_then HB1.out HB1.out.size hb2); have HK2 := zA (blk_below HK1.out hb2); clear hb2; have e0 := zN HK2.out 0; have e1 := zN HK2.out 1; have e2 := zN HK2.out 2; have e3 := zN HK2.out 3)) | (go_at_call 76; go_loud (refine (HTT.out _ HB2.out).mono ?_; rintro e w3 ⟨rfl, hb3⟩; have HB3 := zA (below_then HB2.out HB2.out.size hb3); have HK3 := zA (blk_below HK2.out hb3); clear hb3; have f0 := zN HK3.out 0; have f1 := zN HK3.out 1; have f2 := zN HK3.out 2; have f3 := zN HK3.out 3)))
       go_ret
       exact ⟨rfl, HB3.out⟩
def headA (h : HV) : List UInt8 := [114, 116, 99, 108] ++ (numL h.gen 8 ++ (numL h.sect 2 ++ (numL h.size 4 ++ numL (h.spans.length : Int) 1)))
def headL (h : HV) : List UInt8 := headA h ++ h.spans.flatMap spanL
def headP (h : HV) : List UInt8 × Int := if headR h = true then (sealV (headL h ++ zeros (60 - (headL h).length)), 0) else ([], 1)
theorem headA_len (h : HV) : (headA h).length = 19 := by
 unfold headA
 simp only [zO, numL_len]
 rfl
theorem headL_len (h : HV) : (headL h).length = 19 + 4 * h.spans.length := by
 unfold headL
 rw [zO, headA_len, span_len]
theorem headR_len {h : HV} (hr : headR h = true) : h.spans.length ≤ 8 := by
 unfold headR at hr
 simp only [Bool.and_eq_true, Bool.not_eq_true', decide_eq_false_iff_not] at hr
 have := hr.2.2.1
 omega
theorem headP_len {h : HV} (hr : headR h = true) : (headP h).1.length = 64 := by
 have := headR_len hr
 have h2 := headL_len h
 unfold headP
 rw [if_pos hr, sealV_len, zO, zeros_len]
 omega
theorem lePut.calls (x : Int) (m : Nat) (hm : m ≤ 8) (w : World) : Calls Tryz.prog 82 #[.int .u64 (IntKind.u64.wrap x), .int .i64 m] w fun e w' => e = .returned (.string (B (numL x m))) ∧ Below w.heap.size w w' := le_Put.calls _ _ _ w (put_f x m hm)
theorem bF_shape {T e : TypeId} {B b : Nat} {bs : List Value} {w : World} (h : Lib.IsBuilderF T e B b bs w) : ∃ p A c, w.heap[b]? = some (.cells #[.pointer p, .slice A bs.length c] T (0, 0)) := by
 have one : ∀ p, Lib.BuilderAtF T e B b (.pointer p) bs w → ∃ p A c, w.heap[b]? = some (.cells #[.pointer p, .slice A bs.length c] T (0, 0)) := fun p h => by
  obtain ⟨hB, v, hv, ⟨_, hown⟩, hne⟩ := h
  rcases hown with ⟨rfl, h0⟩ | ⟨g, cap, cur, fz, rfl, _⟩
  ·exact ⟨p, none, 0, by rw [h0]; exact hv⟩
  ·exact ⟨p, _, cap, hv⟩
 exact h.elim (one _) (one _)
set_option maxHeartbeats 2000000 in
set_option maxRecDepth 100000 in
theorem builder_Len.calls (B b : Nat) (l : List UInt8) (w : World) (h : Lib.IsBuilderF 143 5 B b (Lib.byteCells l) w) :
  Calls Tryz.prog 110 #[.pointer (some ⟨b, 0, none⟩)] w fun e w' => e = .returned (.int .i64 l.length) ∧ w' = w := by
 obtain ⟨p, A, c, hk⟩ := bF_shape h
 rw [Lib.byteCells_length] at hk
 have h1 := zN hk 1
 clear h hk
 go_enter Tryz.func110, Tryz.ntmps110
 go_wp2
 go_ret
 exact ⟨rfl, rfl⟩
set_option maxHeartbeats 4000000 in
set_option maxRecDepth 100000 in
theorem hput.calls (h : HV) (A : Option Addr) (c : Nat) (w : World) (hr : Kd.C k87 w A h.spans.length h.spans) (hc : h.spans.length ≤ c) (hl : h.spans.length ≤ 100000) (hs : -4611686018427387904 ≤ h.size ∧ h.size ≤ 4611686018427387904) (hg : IntKind.u64.wrap h.gen = h.gen) :
  Calls Tryz.prog 51 #[.agg #[.int .u64 h.gen, .int .i64 h.sect, .int .i64 h.size, .slice A h.spans.length c]] w fun e w' => e = .returned (.tuple #[.string (B (headP h).1), .int .i64 (headP h).2]) ∧ Below w.heap.size w w' := by
 have hu := Tryz.underlying87
 have hu2 := Tryz.underlying46
 have HRI := zA (fun W (hW : Below w.heap.size w W) => hright.calls h A c W (Kd.C_below hr hW) hc hl hs)
 have HRC := zA (fun (W : World) (hW : Below w.heap.size w W) => Kd.C_below hr hW)
 have HB0 := zA (zJ (Below.refl _ w) (.cells #[.int .u64 h.gen, .int .i64 h.sect, .int .i64 h.size, .slice A h.spans.length c] 46))
 have HK0 := zA (blk_new w (.cells #[.int .u64 h.gen, .int .i64 h.sect, .int .i64 h.size, .slice A h.spans.length c] 46))
 clear hr hc hs
 cases hR : headR h with
 | false =>
  rw [hR] at HRI
  have hP : headP h = ([], 1) := by unfold headP; rw [if_neg (by rw [hR]; decide)]
  rw [hP]
  have h0 := zN HK0.out 0
  have h1 := zN HK0.out 1
  have h2 := zN HK0.out 2
  have h3 := zN HK0.out 3
  go_enter Tryz.func51, Tryz.ntmps51
  go_wp2_with (first | (go_at_call 109; go_loud (refine (HRI.out _ HB0.out).mono ?_; rintro e w1 ⟨rfl, hb1⟩; have HB1 := zA (below_then HB0.out HB0.out.size hb1); clear hb1)))
  go_ret2
  exact ⟨rfl, HB1.out⟩
 | true =>
  rw [hR] at HRI
  have hP : headP h = (sealV (headL h ++ zeros (60 - (headL h).length)), 0) := by unfold headP; rw [if_pos hR]
  have h8 := headR_len hR
  have HL := zA h8
  have HLL := zA (headL_len h)
  have HAL := zA (headA_len h)
  have HHL := zA (show headL h = headA h ++ h.spans.flatMap spanL from rfl)
  rw [hP]
  obtain ⟨s8, hs8⟩ : ∃ s, s = B (numL h.gen 8) := ⟨_, rfl⟩
  obtain ⟨s2, hs2⟩ : ∃ s, s = B (numL h.sect 2) := ⟨_, rfl⟩
  obtain ⟨s4, hs4⟩ : ∃ s, s = B (numL h.size 4) := ⟨_, rfl⟩
  obtain ⟨s1, hs1⟩ : ∃ s, s = B (numL (h.spans.length : Int) 1) := ⟨_, rfl⟩
  have z8 : s8.size = 8 := by rw [hs8, B_size, numL_len]
  have z2 : s2.size = 2 := by rw [hs2, B_size, numL_len]
  have z4 : s4.size = 4 := by rw [hs4, B_size, numL_len]
  have z1 : s1.size = 1 := by rw [hs1, B_size, numL_len]
  have HSUM := zA (show (⟨#[114, 116, 99, 108]⟩ : ByteArray) ++ s8 ++ s2 ++ s4 ++ s1 = B (headA h) from by
   rw [hs8, hs2, hs4, hs1, show (⟨#[114, 116, 99, 108]⟩ : ByteArray) = B [114, 116, 99, 108] from rfl, B_append, B_append, B_append, B_append]
   unfold headA
   simp only [List.append_assoc])
  have HP8 := zA (fun W => by have := lePut.calls h.gen 8 (by decide) W; rw [hg, ← hs8] at this; exact this)
  have HP2 := zA (fun W => by have := lePut.calls h.sect 2 (by decide) W; rw [← hs2] at this; exact this)
  have HP4 := zA (fun W => by have := lePut.calls h.size 4 (by decide) W; rw [← hs4] at this; exact this)
  have HP1 := zA (fun W => by have := lePut.calls (h.spans.length : Int) 1 (by decide) W; rw [← hs1] at this; exact this)
  have HSE := zA (fun W => seal_Put.calls _ _ W (seal_f (headL h ++ zeros (60 - (headL h).length)) (by rw [zO, zeros_len, headL_len]; omega)))
  have HZE := zA (fun W => strRep.calls (60 - (headL h).length) (by omega) W)
  obtain ⟨gen, sect, size, l⟩ := h
  simp only at *
  have h0 := zN HK0.out 0
  have h1 := zN HK0.out 1
  have h2 := zN HK0.out 2
  have h3 := zN HK0.out 3
  clear hs8 hs2 hs4 hs1 hP hR h8 hl hg
  go_enter Tryz.func51, Tryz.ntmps51
  go_wp2_with (first | (go_at_call 109; go_loud (refine (HRI.out _ HB0.out).mono ?_; rintro e w1 ⟨rfl, hb1⟩; have HB1 := zA (below_then HB0.out HB0.out.size hb1); have HK1 := zA (blk_below HK0.out hb1); clear hb1)))
  have HBF := zA (Lib.IsBuilderF.of (Lib.fresh_isBuilder 143 5 w1))
  have HBb := zA (zL HB1.out (zJ (Below.refl _ w1) (.cells #[.pointer none, .slice none 0 0] 143)))
  have HKb := zA (blk_below HK1.out (zJ (Below.refl _ w1) (.cells #[.pointer none, .slice none 0 0] 143)))
  have HGB := zA (show w.heap.size < w1.heap.size from blk_lt HK1.out)
  have HGC := zA (show w1.heap.size ≤ (w1.alloc (.cells #[.pointer none, .slice none 0 0] 143)).heap.size from by simp)
  generalize w1.alloc (.cells #[.pointer none, .slice none 0 0] 143) = wb at HBF HBb HKb HGC ⊢
  generalize w1.heap.size = gb at HBF HGB HGC ⊢
  clear HK1 HB1 h0 h1 h2 h3 HK0 HB0
  have HKEEP := zA (show ∀ W : World, W.heap[w.heap.size]? = some (.cells #[.int .u64 gen, .int .i64 sect, .int .i64 size, .slice A l.length c] 46 (0, 0)) → W.cell? ⟨w.heap.size, 0, none⟩ = some (.int .u64 gen) ∧ W.cell? ⟨w.heap.size, 1, none⟩ = some (.int .i64 sect) ∧ W.cell? ⟨w.heap.size, 2, none⟩ = some (.int .i64 size) ∧ W.cell? ⟨w.heap.size, 3, none⟩ = some (.slice A l.length c) from fun W hk => ⟨zN hk 0, zN hk 1, zN hk 2, zN hk 3⟩)
  have HBd := zA (zK (Below.refl wb.heap.size wb))
  have h0 := zN HKb.out 0
  have h1 := zN HKb.out 1
  have h2 := zN HKb.out 2
  have h3 := zN HKb.out 3
  go_region_held3 (fun w' => w'.cell? ⟨w.heap.size, 0, none⟩ = some (.int .u64 gen) ∧ w'.cell? ⟨w.heap.size, 1, none⟩ = some (.int .i64 sect) ∧ w'.cell? ⟨w.heap.size, 2, none⟩ = some (.int .i64 size) ∧ w'.cell? ⟨w.heap.size, 3, none⟩ = some (.slice A l.length c)) (exact HKEEP.out _ (by with_reducible first | exact HKf.out | exact blk_below HKb.out HBd.out)) (first
   | (go_at_call 82; (with_reducible show Calls _ _ #[_, .int .i64 8] _ _); go_loud (refine (HP8.out _).mono ?_; rintro ex wk ⟨rfl, q⟩; have HBd := zA (zL HBd.out q); clear q))
   | (go_at_call 82; (with_reducible show Calls _ _ #[_, .int .i64 2] _ _); go_loud (refine (HP2.out _).mono ?_; rintro ex wk ⟨rfl, q⟩; have HBd := zA (zL HBd.out q); clear q))
   | (go_at_call 82; (with_reducible show Calls _ _ #[_, .int .i64 4] _ _); go_loud (refine (HP4.out _).mono ?_; rintro ex wk ⟨rfl, q⟩; have HBd := zA (zL HBd.out q); clear q))
   | (go_at_call 82; (with_reducible show Calls _ _ #[_, .int .i64 1] _ _); go_loud (refine (HP1.out _).mono ?_; rintro ex wk ⟨rfl, q⟩; have HBd := zA (zL HBd.out q); clear q))
   | (go_at_call 81; go_loud ((try rw [HSUM.out]); refine (builder_WS.calls gb gb [] _ _ (bf_below HBF.out HBd.out) (by rw [B_size]; have := HAL.out; simp; omega) (Nat.le_trans HGC.out HBd.out.size)).mono ?_; rintro ex wf ⟨rfl, h6, b6, k6⟩; have HF := zA h6; have HKf := zA (k6 _ _ (blk_below HKb.out HBd.out) (by intro h; have := HGB.out; injection h; omega) (fun c fz h => by injection h with _ h; exact absurd h (by decide))); have HBf := zA ((HBb.out.trans (HBd.out.mono HBb.out.size)).trans (b6.mono (Nat.le_of_lt HGB.out))); clear h6 b6 k6)))
  (try simp only [Exit.then])
  have HF0 := zA (show Lib.IsBuilderF 143 5 gb gb (Lib.byteCells (headA ⟨gen, sect, size, l⟩ ++ (l.take 0).flatMap spanL)) wf from by
   have := HF.out
   rw [B_data] at this
   simpa using this)
  clear HF h0 h1 h2 h3
  have h3 := zN HKf.out 3
  go_wp2
  go_loopg [34] l.length (fun gg s34 wr => ∃ i : Nat, s34 = .int .i64 i ∧ i ≤ l.length ∧ l.length - i ≤ gg ∧ Aside0 (Lib.IsBuilderF 143 5 gb gb (Lib.byteCells (headA ⟨gen, sect, size, l⟩ ++ (l.take i).flatMap spanL)) wr) ∧ Aside0 (Below w.heap.size w wr) ∧ Aside0 (gb < wr.heap.size))
  case atStart => exact ⟨0, rfl, Nat.zero_le _, by omega, HF0, HBf, ⟨bf_lt HF0.out⟩⟩
  case round =>
   clear HF0 HBf HKf h3 z8 z2 z4 z1 HP8 HP4 HP1 HSUM HBF HBb HKb HGC HKEEP HBd HRI
   obtain ⟨i, rfl, hi, hg, HF, HBr, HGR⟩ := hrel
   by_cases hlt : i < l.length
   ·have hltz : decide ((i : Int) < (l.length : Int)) = true := zH (by omega)
    have hi0 : (0 : Int) ≤ (i : Int) := by omega
    have hi1 : (i : Int) < (l.length : Int) := by omega
    obtain ⟨ad, rfl, hx0, hx1⟩ := at_T87 (HRC.out wr HBr.out) (i : Int) hi0 hi1
    rw [rd_T87_get l i hlt] at hx0 hx1
    have htk : (l.take (i + 1)).flatMap spanL = (l.take i).flatMap spanL ++ spanL l[i] := by
     rw [List.take_succ_eq_append_getElem hlt, List.flatMap_append]
     simp
    have htl : ((l.take i).flatMap spanL).length = 4 * i := by rw [span_len, List.length_take, Nat.min_eq_left hi]
    have HTL := zA (show (headA ⟨gen, sect, size, l⟩ ++ (l.take i).flatMap spanL).length ≤ 60 by rw [zO, htl, headA_len]; have := HL.out; omega)
    have HTK := zA htk
    have HG := zA hg
    generalize l[i] = p at hx0 hx1 HTK
    obtain ⟨p0, p1⟩ := p
    simp only [Int.toNat_natCast] at hx0 hx1
    clear htk htl hg
    obtain ⟨sa, hsa⟩ : ∃ s, s = B (numL p0 2) := ⟨_, rfl⟩
    obtain ⟨sb, hsb⟩ : ∃ s, s = B (numL p1 2) := ⟨_, rfl⟩
    have za : sa.size = 2 := by rw [hsa, B_size, numL_len]
    have zb : sb.size = 2 := by rw [hsb, B_size, numL_len]
    have HS2 := zA (show sa ++ sb = B (spanL ⟨p0, p1⟩) from by rw [hsa, hsb, B_append]; rfl)
    have HS4 := zA (show (B (spanL ⟨p0, p1⟩)).size = 4 from by rw [B_size, spanL_eq, zO, numL_len, numL_len])
    have HPa := zA (fun W => by have := lePut.calls p0 2 (by decide) W; rw [← hsa] at this; exact this)
    have HPb := zA (fun W => by have := lePut.calls p1 2 (by decide) W; rw [← hsb] at this; exact this)
    clear hsa hsb
    go_wp2
    have HKs := zA (blk_new wr (.cells #[.int .i64 p0, .int .i64 p1] 87))
    have HFs := zA (bf_below HF.out (zJ (Below.refl _ wr) (.cells #[.int .i64 p0, .int .i64 p1] 87)))
    have HBs := zA (zL HBr.out (zJ (Below.refl _ wr) (.cells #[.int .i64 p0, .int .i64 p1] 87)))
    have HGs := zA (show gb < (wr.alloc (.cells #[.int .i64 p0, .int .i64 p1] 87)).heap.size by have := HGR.out; simp; omega)
    generalize wr.alloc (.cells #[.int .i64 p0, .int .i64 p1] 87) = ws at HKs HFs HBs HGs ⊢
    have HNG := zA (show gb ≠ wr.heap.size by have := HGR.out; omega)
    generalize wr.heap.size = gs at HKs HNG ⊢
    have HKEEP := zA (show ∀ W : World, W.heap[gs]? = some (.cells #[.int .i64 p0, .int .i64 p1] 87 (0, 0)) → W.cell? ⟨gs, 0, none⟩ = some (.int .i64 p0) ∧ W.cell? ⟨gs, 1, none⟩ = some (.int .i64 p1) from fun W hk => ⟨zN hk 0, zN hk 1⟩)
    have HBd := zA (zK (Below.refl ws.heap.size ws))
    have d0 := zN HKs.out 0
    have d1 := zN HKs.out 1
    clear hx0 hx1 HF HBr
    go_region_held3 (fun w' => w'.cell? ⟨gs, 0, none⟩ = some (.int .i64 p0) ∧ w'.cell? ⟨gs, 1, none⟩ = some (.int .i64 p1)) (exact HKEEP.out _ (by with_reducible first | exact HKf.out | exact blk_below HKs.out HBd.out)) (first
     | (go_at_call 82; (with_reducible show Calls _ _ #[.int .u64 (IntKind.u64.wrap p0), _] _ _); go_loud (refine (HPa.out _).mono ?_; rintro ex wk ⟨rfl, q⟩; have HBd := zA (zL HBd.out q); clear q))
     | (go_at_call 82; (with_reducible show Calls _ _ #[.int .u64 (IntKind.u64.wrap p1), _] _ _); go_loud (refine (HPb.out _).mono ?_; rintro ex wk ⟨rfl, q⟩; have HBd := zA (zL HBd.out q); clear q))
     | (go_at_call 81; go_loud ((try rw [HS2.out]); refine (builder_WS.calls gb gb (headA ⟨gen, sect, size, l⟩ ++ (l.take i).flatMap spanL) _ _ (bf_below HFs.out HBd.out) (by rw [HS4.out]; have := HTL.out; omega) (Nat.le_trans (Nat.le_of_lt HGs.out) HBd.out.size)).mono ?_; rintro ex wf ⟨rfl, h6, b6, k6⟩; have HF := zA h6; have HKf := zA (k6 _ _ (blk_below HKs.out HBd.out) (by intro h; have := HNG.out; injection h; omega) (fun c fz h => by injection h with _ h; exact absurd h (by decide))); have HBf := zA ((HBs.out.trans (HBd.out.mono HBs.out.size)).trans (b6.mono (Nat.le_of_lt HGB.out))); clear h6 b6 k6)))
    (try simp only [Exit.inBlock, Exit.then])
    go_wp2
    go_roundg (l.length - (i + 1))
    case measure => have := HG.out; omega
    case rel =>
     refine ⟨i + 1, by rw [idx i (by have := HL.out; omega)], by omega, Nat.le_refl _, ⟨?_⟩, HBf, ⟨bf_lt HF.out⟩⟩
     have := HF.out
     rw [B_data] at this
     rw [HTK.out, ← List.append_assoc]
     exact this
   ·obtain rfl : i = l.length := by omega
    have hltz : decide ((l.length : Int) < (l.length : Int)) = false := zI (by omega)
    have HF2 := zA (show Lib.IsBuilderF 143 5 gb gb (Lib.byteCells (headL ⟨gen, sect, size, l⟩)) wr from by
     have := HF.out
     rw [List.take_length] at this
     rw [HHL.out]
     exact this)
    have HLE := zA (show (headL ⟨gen, sect, size, l⟩).length ≤ 60 by have := HLL.out; have := HL.out; omega)
    have HLN := zA (fun W => builder_Len.calls gb gb (headL ⟨gen, sect, size, l⟩) W)
    clear HF HLL HAL HHL
    obtain ⟨T, hT⟩ : ∃ T, headL ⟨gen, sect, size, l⟩ = T := ⟨_, rfl⟩
    rw [hT] at HF2 HLE HLN HZE HSE
    have HT := zA hT
    clear hT
    have hw := zA (show wrap64 (60 - (T.length : Int)) = ((60 - T.length : Nat) : Int) from by rw [wrap64_id (by have := HLE.out; omega) (by have := HLE.out; omega)]; have := HLE.out; omega)
    have hw2 := hw.out
    go_wp2_with (first
     | (go_at_call 110; go_loud (refine (HLN.out _ HF2.out).mono ?_; rintro ex w5 ⟨rfl, rfl⟩))
     | (go_at_call 92; go_loud (refine (HZE.out _).mono ?_; rintro ex w6 ⟨rfl, hb6⟩; have HB6 := zA hb6; clear hb6))
     | (go_at_call 81; go_loud (refine (builder_WS.calls gb gb T _ w6 (bf_below HF2.out HB6.out) (by rw [B_size, zeros_len]; have := HLE.out; omega) (Nat.le_trans (Nat.le_of_lt HGR.out) HB6.out.size)).mono ?_; rintro ex w7 ⟨rfl, h7, b7, k7⟩; rw [B_data] at h7; have HF7 := zA h7; have HB7 := zA (zL HBr.out HB6.out |>.trans (b7.mono (Nat.le_of_lt HGB.out))); clear h7 b7 k7))
     | (go_at_call 84; go_loud (refine (builder_S.calls gb gb _ w7 HF7.out (Nat.le_of_lt (bf_lt HF7.out))).mono ?_; rintro ex w8 ⟨rfl, b8⟩; have HB8 := zA (HB7.out.trans (b8.mono (Nat.le_of_lt HGB.out))); clear b8))
     | (go_at_call 83; go_loud (refine (HSE.out _).mono ?_; rintro ex w9 ⟨rfl, b9⟩; have HB9 := zA (zL HB8.out b9); clear b9)))
    go_ret2
    exact ⟨by rw [HT.out]; rfl, HB9.out⟩
end Go.Proofs.YtcclaidbikjhiaaGreatDoor.PVo
