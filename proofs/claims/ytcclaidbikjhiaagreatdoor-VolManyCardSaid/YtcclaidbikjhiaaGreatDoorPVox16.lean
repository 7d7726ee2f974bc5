import Derived.Test.YtcclaidbikjhiaaGreatDoorPVox0
import Derived.Test.YtcclaidbikjhiaaGreatDoorPVox9
import Derived.Laws.Rows
import Derived.Outline
import Derived.Lib.ConvBytes
import Derived.Deep.WholeRow
import Derived.Laws.BitsAllLaws
import Derived.Shelf.Strings.BuilderK
import Derived.Test.YtcclaidbikjhiaaGreatDoorLayD
import Derived.Lib.OthersKept
--compressed
namespace Go.Proofs.YtcclaidbikjhiaaGreatDoor.PVo
open Go.RowKit Go.Proofs.YtcclaidbikjhiaaGreatDoorW.PrintWords Go.Proofs.YtcclaidbikjhiaaGreatDoorW.PrintLast Go.Proofs.YtcclaidbikjhiaaGreatDoorW.PrintMore
attribute [local go_sem] max2_int min2_int max_two min_two max_three min_three max_four min_four   -- for this text's walks alone
attribute [local go_sem high] hw_str_leq hw_str_gtr
set_option linter.unusedVariables false
set_option linter.unusedSimpArgs false
mutual
def dir_directory.l0 : Nat → List (S85) → List (S85) → Int → Int → Option (Bool)
 | 0, _, _, _, _ => none
 | k + 1, x0, x5, x6, x7 => if x7 < x6 then (if 0 ≤ x7 then (if x7 < (x5.length : Int) then ((dir_File_well.f k ((rd_T85 x5 x7).f0) ((rd_T85 x5 x7).f1) ((rd_T85 x5 x7).f2)).bind fun t133 => (if t133 = true then (if x7 > 0 then (if 0 ≤ (wrap64 (x7 - 1)) then (if (wrap64 (x7 - 1)) < (x0.length : Int) then (dir_directory.j1 k x0 x5 x6 x7 (!(Op.bytesLess (((rd_T85 x0 (wrap64 (x7 - 1))).f0).toList) (((rd_T85 x5 x7).f0).toList)))) else (none)) else (none)) else (dir_directory.j1 k x0 x5 x6 x7 false)) else (dir_directory.j1 k x0 x5 x6 x7 true))) else (none)) else (none)) else (some (decide ((x0.length : Int) ≤ 120)))
def dir_directory.j1 : Nat → List (S85) → List (S85) → Int → Int → Bool → Option (Bool)
 | 0, _, _, _, _, _ => none
 | k + 1, x0, x5, x6, x7, x29 => if x29 = true then (some false) else (dir_directory.l0 k x0 x5 x6 (wrap64 (x7 + 1)))
end
def dir_directory.f (k : Nat) (l0 : List (S85)) : Option (Bool) := dir_directory.l0 k l0 l0 (l0.length : Int) 0
def dir_directory.T4 : Bool × List (List Nat × List Nat) := (true, [([], []), ([0], [0]), ([1], [1]), ([2, 1], [2]), ([3], [3]), ([4, 3], [3, 4]), ([5, 3, 3], [3, 5]), ([6], [6]), ([7, 6], [6, 7]), ([6], [6]), ([6], [6]), ([10, 6], [6, 10]), ([9, 11, 6], [6, 9, 11]), ([12, 6], [6, 12]), ([13, 6], [6, 13]), ([8, 14, 6], [6, 8, 14]), ([6, 15, 3], [3, 6, 15]), ([3, 16], [3, 16])])
def dir_directory.B4 : List Nat := [0, 1, 3, 7, 15, 31, 63, 127, 255, 127, 127, 1151, 3711, 7807, 15999, 32767, 65535, 131071]
theorem dir_directory.tab4 : rtab .any (opsOf Tryz.f79 4) = dir_directory.T4 := by kernel_rfl
theorem dir_directory.bits4 : waitsOk dir_directory.T4.2 dir_directory.B4 = true := by kernel_rfl
set_option maxHeartbeats 8000000 in
set_option maxRecDepth 100000 in
theorem dir_directory.calls (k : Nat) (A0 : Option Addr) (c0 : Nat) (l0 : List (S85)) (r : Bool) (w : World) (hr0 : Kd.C k85 w A0 l0.length l0) (hc0 : l0.length ≤ c0) (ht : TabsW w) (h : dir_directory.f k l0 = some r) :
  Calls Tryz.prog 79 #[.slice A0 l0.length c0] w fun e w' => e = .returned (.bool r) ∧ Below w.heap.size w w' := by
 have hu85 := Tryz.underlying85
 have HR0 := zA hr0
 have HC0 := zA hc0
 clear hr0 hc0
 have HT0 := zA ht
 clear ht
 have HB := zA (Below.refl w.heap.size w)
 have H : (dir_directory.l0 k l0 l0 (l0.length : Int) 0) = some r := h
 clear h
 have H' := zA H
 clear H
 go_enter Tryz.func79, Tryz.ntmps79
 go_wp2
 go_loopg [7] k (fun kq v7 w' => ∃ (x7_1 : Int), v7 = .int .i64 x7_1 ∧ Aside0 (dir_directory.l0 kq l0 l0 (l0.length : Int) x7_1 = some r) ∧ Aside0 (kq ≤ k) ∧ Aside0 (Below w.heap.size w w'))
 case atStart => exact ⟨(0), (rfB), H', ⟨Nat.le_refl _⟩, ⟨rW0⟩⟩
 case round =>
  clear H'
  obtain ⟨x7_1, rfl, HA, HK1, HB⟩ := hrel
  cases gk with
  | zero => exact absurd HA.out (by simp [dir_directory.l0])
  | succ k1 =>
   have H := HA.out
   clear HA
   simp only [dir_directory.l0] at H
   by_cases c2 : x7_1 < (l0.length : Int)
   ·rw [if_pos c2] at H
    have c2b0 : decide (x7_1 < (l0.length : Int)) = true := zH c2
    clear c2
    by_cases c3 : 0 ≤ x7_1
    ·rw [if_pos c3] at H
     have c3b0 : decide (0 ≤ x7_1) = true := zH c3
     clear c3
     by_cases c4 : x7_1 < (l0.length : Int)
     ·rw [if_pos c4] at H
      have c4b0 : decide (x7_1 < (l0.length : Int)) = true := zH c4
      clear c4
      have HC5 := zA H
      clear H
      have p131 : 0 ≤ (x7_1 : Int) := zG asA
      have q131 : x7_1 < (l0.length : Int) := zG asA
      obtain ⟨ad131, A131_2, c131_2, e131, hx131_0, hx131_1, hx131_2, hl131_2, hi131_2⟩ := at_T85 HR0.out x7_1 p131 q131
      cases e131
      replace hx131_0 := (HB.out.cell (zB w _ hx131_0)).trans hx131_0
      replace hx131_1 := (HB.out.cell (zB w _ hx131_1)).trans hx131_1
      replace hx131_2 := (HB.out.cell (zB w _ hx131_2)).trans hx131_2
      have HR131_2 := zA hi131_2
      have HC131_2 := zA hl131_2
      clear hi131_2 hl131_2
      replace p131 := eq_true p131
      replace q131 := eq_true q131
      go_upto_region 4 with (first | ((with_reducible refine gate_dst (N := 4) rfl ?_); refine box_event ?hg (N := 4) ?hd (cs := #[.string (⟨#[]⟩ : ByteArray), .int .i64 0, .slice none 0 0]) (t := 85) ?hr ?_; (case hd => rfl); (case hg => rfl); (case hr => first | (go_simp; done) | (go_simp; rfl)); intro gb132 hg w6 hbox hb; have n0_ := zA (zL belA hb); have n1_ := zA (hbox); have n2_ := zA ((by rw [hg]; exact (below_size belA) : w.heap.size ≤ gb132)); have n3_ := zA ((by rw [hg]; exact (below_size belA) : w.heap.size ≤ gb132)); clear HB; have HB := n0_; have BK132 := n1_; have GW132 := n2_; have GE132 := n3_; clear n0_ n1_ n2_ n3_; clear hb hbox hg; have hcz7_0 : w6.cell? ⟨gb132, 0, none⟩ = some (.string (⟨#[]⟩ : ByteArray)) := (zN BK132.out 0).trans rfl; have hcz7_1 : w6.cell? ⟨gb132, 1, none⟩ = some (.int .i64 0) := (zN BK132.out 1).trans rfl; have hcz7_2 : w6.cell? ⟨gb132, 2, none⟩ = some (.slice none 0 0) := (zN BK132.out 2).trans rfl; have hfz7_0 := zM BK132.out 0; have hfz7_1 := zM BK132.out 1; have hfz7_2 := zM BK132.out 2))
      (try simp only [Act.put, zC, zD, zE])
      go_cut [29] (fun v29 wc => ∃ (kq : Nat) (x29_4 : Bool), v29 = .bool x29_4 ∧ Aside0 (dir_directory.j1 kq l0 l0 (l0.length : Int) x7_1 x29_4 = some r) ∧ Aside0 (kq ≤ k1) ∧ Aside0 (wc.heap[gb132]? = some (.cells #[.string ((rd_T85 l0 x7_1).f0), .int .i64 ((rd_T85 l0 x7_1).f1), (.slice A131_2 ((rd_T85 l0 x7_1).f2).length c131_2)] 85 (0, 0))) ∧ Aside0 (Below w.heap.size w wc))
      case first =>
       have H := HC5.out
       clear HC5
       replace H := Option.bind_eq_some_iff.mp H
       obtain ⟨t133, A80, H⟩ := H
       replace H : (if t133 = true then (if x7_1 > 0 then (if 0 ≤ (wrap64 (x7_1 - 1)) then (if (wrap64 (x7_1 - 1)) < (l0.length : Int) then (dir_directory.j1 k1 l0 l0 (l0.length : Int) x7_1 (!(Op.bytesLess (((rd_T85 l0 (wrap64 (x7_1 - 1))).f0).toList) (((rd_T85 l0 x7_1).f0).toList)))) else (none)) else (none)) else (dir_directory.j1 k1 l0 l0 (l0.length : Int) x7_1 false)) else (dir_directory.j1 k1 l0 l0 (l0.length : Int) x7_1 true)) = some r := H
       have A8 := zA A80
       clear A80
       by_cases c9 : t133 = true
       ·subst c9
        have H1 : (if x7_1 > 0 then (if 0 ≤ (wrap64 (x7_1 - 1)) then (if (wrap64 (x7_1 - 1)) < (l0.length : Int) then (dir_directory.j1 k1 l0 l0 (l0.length : Int) x7_1 (!(Op.bytesLess (((rd_T85 l0 (wrap64 (x7_1 - 1))).f0).toList) (((rd_T85 l0 x7_1).f0).toList)))) else (none)) else (none)) else (dir_directory.j1 k1 l0 l0 (l0.length : Int) x7_1 false)) = some r := by rw [if_pos rfl] at H; exact H
        clear H
        have H := H1
        clear H1
        by_cases c10 : x7_1 > 0
        ·rw [if_pos c10] at H
         have c10b0 : decide (0 < x7_1) = true := zH c10
         clear c10
         (first | rw [c10b0] | (simp only [i64_w, i32_w]; rw [c10b0]) | skip)
         obtain ⟨ji11, hji11⟩ : ∃ j_ : Int, (wrap64 (x7_1 - 1)) = j_ := ⟨_, rfl⟩
         replace H : (if 0 ≤ (ji11) then (if (ji11) < (l0.length : Int) then (dir_directory.j1 k1 l0 l0 (l0.length : Int) x7_1 (!(Op.bytesLess (((rd_T85 l0 (ji11)).f0).toList) (((rd_T85 l0 x7_1).f0).toList)))) else (none)) else (none)) = some r := by first | (rw [hji11] at H; exact H) | (simp only [hji11] at H ⊢; exact H)
         (try rw [hji11] at A8)
         have hji11w : (IntKind.i64.wrap (x7_1 - 1)) = ji11 := (i64_w _).trans hji11
         by_cases c12 : 0 ≤ (ji11)
         ·rw [if_pos c12] at H
          have c12b0 : decide (0 ≤ (ji11)) = true := zH c12
          clear c12
          by_cases c13 : (ji11) < (l0.length : Int)
          ·rw [if_pos c13] at H
           have c13b0 : decide ((ji11) < (l0.length : Int)) = true := zH c13
           clear c13
           have H' := zA H
           clear H
           try go_wp2
           have n0_ : Aside0 ((((w6.setCell ⟨gb132, 0, none⟩ (.string ((rd_T85 l0 x7_1).f0))).setCell ⟨gb132, 1, none⟩ (.int .i64 ((rd_T85 l0 x7_1).f1))).setCell ⟨gb132, 2, none⟩ (.slice A131_2 ((rd_T85 l0 x7_1).f2).length c131_2)).heap[gb132]? = some (.cells #[.string ((rd_T85 l0 x7_1).f0), .int .i64 ((rd_T85 l0 x7_1).f1), .slice A131_2 ((rd_T85 l0 x7_1).f2).length c131_2] 85 (0, 0))) := ⟨by (with_reducible repeat (first | refine blk_drewN ?_ _ | refine blk_drew ?_ | refine blk_alloc ?_ _)); refine blk_put (cs := #[.string ((rd_T85 l0 x7_1).f0), .int .i64 ((rd_T85 l0 x7_1).f1), .slice none 0 0]) ?_ 2 _ rfl; (with_reducible repeat (first | refine blk_drewN ?_ _ | refine blk_drew ?_ | refine blk_alloc ?_ _)); refine blk_put (cs := #[.string ((rd_T85 l0 x7_1).f0), .int .i64 0, .slice none 0 0]) ?_ 1 _ rfl; (with_reducible repeat (first | refine blk_drewN ?_ _ | refine blk_drew ?_ | refine blk_alloc ?_ _)); refine blk_put (cs := #[.string (⟨#[]⟩ : ByteArray), .int .i64 0, .slice none 0 0]) ?_ 0 _ rfl; (with_reducible repeat (first | refine blk_drewN ?_ _ | refine blk_drew ?_ | refine blk_alloc ?_ _)); exact BK132.out⟩
           have n1_ : Aside0 (Below w.heap.size w (((w6.setCell ⟨gb132, 0, none⟩ (.string ((rd_T85 l0 x7_1).f0))).setCell ⟨gb132, 1, none⟩ (.int .i64 ((rd_T85 l0 x7_1).f1))).setCell ⟨gb132, 2, none⟩ (.slice A131_2 ((rd_T85 l0 x7_1).f2).length c131_2))) := ⟨rW1⟩
           (try clear BK132)
           (try clear HB)
           generalize (((w6.setCell ⟨gb132, 0, none⟩ (.string ((rd_T85 l0 x7_1).f0))).setCell ⟨gb132, 1, none⟩ (.int .i64 ((rd_T85 l0 x7_1).f1))).setCell ⟨gb132, 2, none⟩ (.slice A131_2 ((rd_T85 l0 x7_1).f2).length c131_2)) = w14 at n0_ n1_ ⊢
           have BK132 := n0_
           have HB := n1_
           clear n0_ n1_
           have n0_ := zA (blk_drew BK132.out)
           have n1_ := zA (zK HB.out)
           clear BK132
           clear HB
           have BK132 := n0_
           have HB := n1_
           clear n0_ n1_
           have p134 : 0 ≤ ((ji11) : Int) := zG asA
           have q134 : (ji11) < (l0.length : Int) := zG asA
           obtain ⟨ad134, A134_2, c134_2, e134, hx134_0, hx134_1, hx134_2, hl134_2, hi134_2⟩ := at_T85 HR0.out (ji11) p134 q134
           have hw134_2 := hx134_2
           have hw134_1 := hx134_1
           have hw134_0 := hx134_0
           obtain rfl : ad131 = ad134 := (by injection e134)
           replace hx134_0 := (HB.out.cell (zB w _ hx134_0)).trans hx134_0
           replace hx134_1 := (HB.out.cell (zB w _ hx134_1)).trans hx134_1
           replace hx134_2 := (HB.out.cell (zB w _ hx134_2)).trans hx134_2
           have HR134_2 := zA hi134_2
           have HC134_2 := zA hl134_2
           clear hi134_2 hl134_2
           replace p134 := eq_true p134
           replace q134 := eq_true q134
           refine start_ (n := 18) (S := fun w' => w'.cell? ⟨gb132, 0, none⟩ = some (.string ((rd_T85 l0 x7_1).f0)) ∧ w'.cell? ⟨gb132, 1, none⟩ = some (.int .i64 ((rd_T85 l0 x7_1).f1)) ∧ w'.cell? ⟨gb132, 2, none⟩ = some (.slice A131_2 ((rd_T85 l0 x7_1).f2).length c131_2) ∧ w'.cell? (ad131.add (((ji11)).toNat * 3)) = some (.string ((rd_T85 l0 (ji11)).f0)) ∧ w'.cell? ⟨(ad131.add (((ji11)).toNat * 3)).block, (ad131.add (((ji11)).toNat * 3)).off + 1, none⟩ = some (.int .i64 ((rd_T85 l0 (ji11)).f1)) ∧ w'.cell? ⟨(ad131.add (((ji11)).toNat * 3)).block, (ad131.add (((ji11)).toNat * 3)).off + 2, none⟩ = some (.slice A134_2 ((rd_T85 l0 (ji11)).f2).length c134_2)) (ds := []) #[Z,Z,Z,Z,Z,Z,Z,Z,Z,Z,Z,Z,Z,Z,Z,Z,Z,Z] (by kernel_rfl) rfl rfl ⟨(zN BK132.out 0).trans rfl, (zN BK132.out 1).trans rfl, (zN BK132.out 2).trans rfl, ((HB.out.cell (zB w _ hw134_0)).trans hw134_0), ((HB.out.cell (zB w _ hw134_1)).trans hw134_1), ((HB.out.cell (zB w _ hw134_2)).trans hw134_2)⟩ (fun hHeld => ?_); refine with_tabW dir_directory.tab4 dir_directory.bits4 (fun HT_ HW_ => ?_)
           generalize w14.drew = w15 at BK132 HB HR134_2 hx134_0 hx134_1 hx134_2 hHeld ⊢
           refine take_ (i := 0) (N := some 12) (v := ?_) (a' := ?_) #[Y,Z,Z,Z,Z,Z,Z,Z,Z,Z,Z,Z,Z,Z,Z,Z,Z,Z] rfl rfl (take_ofW HT_.out HW_.out (by kernel_rfl)) (fun _ _ _ h => h) (Or.inl ⟨by rfl, ?_⟩) hHeld ?_ ?_
           rotate_left
           ·rintro w' ⟨s0, s1, s2, s3, s4, s5⟩
            go_simp
            with_reducible rfl
           rotate_left
           ·simp only [Act.put, zC, zD, zE, i64_w, i32_w]
            rfl
           refine one_ (i := 1) (N := some 13) #[Y,Y,Z,Z,Z,Z,Z,Z,Z,Z,Z,Z,Z,Z,Z,Z,Z,Z] rfl rfl (one_of HT_.out (by kernel_rfl)) (by decide) (fun K hK => ?_)
           refine goes_ Tryz.func134 (by kernel_rfl) rfl #[.agg #[.string ((rd_T85 l0 x7_1).f0), .int .i64 ((rd_T85 l0 x7_1).f1), .slice A131_2 ((rd_T85 l0 x7_1).f2).length c131_2]] (by rfl) rfl rfl argA ?_
           with_reducible refine (dir_File_well.calls k1 ((rd_T85 l0 x7_1).f0) ((rd_T85 l0 x7_1).f1) _ _ ((rd_T85 l0 x7_1).f2) true _ ?side1 ?side2 ?side3 A8.out).mono ?_
           (case side1 => repeat (first | exact (Kd.C_below HR131_2.out HB.out) | (with_reducible refine Kd.C_alloc ?_ _) | (with_reducible refine Kd.C_drewN ?_ _) | (with_reducible refine Kd.C_drew ?_)))
           (case side2 => exact HC131_2.out)
           (case side3 => exact TabsW.below HT0.out (rW1))
           rintro e w16 ⟨rfl, hb⟩
           refine ⟨_, rfl, ?_⟩
           have n0_ := zA (blk_below (g := gb132) (o := .cells #[.string ((rd_T85 l0 x7_1).f0), .int .i64 ((rd_T85 l0 x7_1).f1), .slice A131_2 ((rd_T85 l0 x7_1).f2).length c131_2] 85 (0, 0)) (blkN BK132.out) hb)
           have n1_ := zA (zL (rW1) hb)
           clear BK132
           clear HB
           have BK132 := n0_
           have HB := n1_
           clear n0_ n1_
           (try clear hb)
           (try clear hb2)
           (try clear hk)
           (try clear hi)
           refine hK.out _ _ ⟨(zN BK132.out 0).trans rfl, (zN BK132.out 1).trans rfl, (zN BK132.out 2).trans rfl, ((HB.out.cell (zB w _ hw134_0)).trans hw134_0), ((HB.out.cell (zB w _ hw134_1)).trans hw134_1), ((HB.out.cell (zB w _ hw134_2)).trans hw134_2)⟩ (fun hHeld => ?_)
           clear hK K
           refine norm_ (a' := ?_) ?_ ?_
           rotate_left
           ·show Act.put _ (some 13) _ = _
            simp only [Act.put, zC, zD, zE, i64_w, i32_w]
            rfl
           refine pure_ (i := 2) (N := some 14) (v := ?_) (a' := ?_) #[Y,Y,Y,Z,Z,Z,Z,Z,Z,Z,Z,Z,Z,Z,Z,Z,Z,Z] rfl rfl (any_of HT_.out (by kernel_rfl)) (fun _ _ _ h => h) (Or.inl ⟨by rfl, ?_⟩) ?_ ?_
           rotate_left
           ·intro w'
            go_simp
            with_reducible rfl
           rotate_left
           ·simp only [Act.put, zC, zD, zE, i64_w, i32_w]
            rfl
           refine pure_ (i := 3) (N := some 15) (v := ?_) (a' := ?_) #[Y,Y,Y,Y,Z,Z,Z,Z,Z,Z,Z,Z,Z,Z,Z,Z,Z,Z] rfl rfl (any_of HT_.out (by kernel_rfl)) (fun _ _ _ h => h) (Or.inl ⟨by rfl, ?_⟩) ?_ ?_
           rotate_left
           ·intro w'
            go_simp
            with_reducible rfl
           rotate_left
           ·simp only [Act.put, zC, zD, zE, i64_w, i32_w]
            rfl
           refine pure_ (i := 4) (N := some 16) (v := ?_) (a' := ?_) #[Y,Y,Y,Y,Y,Z,Z,Z,Z,Z,Z,Z,Z,Z,Z,Z,Z,Z] rfl rfl (any_of HT_.out (by kernel_rfl)) (fun _ _ _ h => h) (Or.inl ⟨by rfl, ?_⟩) ?_ ?_
           rotate_left
           ·intro w'
            go_simp
            with_reducible rfl
           rotate_left
           ·simp only [Act.put, zC, zD, zE, i64_w, i32_w]
            rfl
           refine pure_ (i := 5) (N := some 17) (v := ?_) (a' := ?_) #[Y,Y,Y,Y,Y,Y,Z,Z,Z,Z,Z,Z,Z,Z,Z,Z,Z,Z] rfl rfl (any_of HT_.out (by kernel_rfl)) (fun _ _ _ h => h) (Or.inl ⟨by rfl, ?_⟩) ?_ ?_
           rotate_left
           ·intro w'
            go_simp
            with_reducible rfl
           rotate_left
           ·simp only [Act.put, zC, zD, zE, i64_w, i32_w]
            rfl
           refine pure_ (i := 6) (N := some 18) (v := ?_) (a' := ?_) #[Y,Y,Y,Y,Y,Y,Y,Z,Z,Z,Z,Z,Z,Z,Z,Z,Z,Z] rfl rfl (any_of HT_.out (by kernel_rfl)) (fun _ _ _ h => h) (Or.inl ⟨by rfl, ?_⟩) ?_ ?_
           rotate_left
           ·intro w'
            go_simp
            with_reducible rfl
           rotate_left
           ·simp only [Act.put, zC, zD, zE, i64_w, i32_w]
            rfl
           refine pure_ (i := 7) (N := some 19) (v := ?_) (a' := ?_) #[Y,Y,Y,Y,Y,Y,Y,Y,Z,Z,Z,Z,Z,Z,Z,Z,Z,Z] rfl rfl (any_of HT_.out (by kernel_rfl)) (fun _ _ _ h => h) (Or.inl ⟨by rfl, ?_⟩) ?_ ?_
           rotate_left
           ·intro w'
            go_simp
            with_reducible rfl
           rotate_left
           ·simp only [Act.put, zC, zD, zE, i64_w, i32_w]
            rfl
           refine pure_ (i := 9) (N := some 21) (v := ?_) (a' := ?_) #[Y,Y,Y,Y,Y,Y,Y,Y,Z,Y,Z,Z,Z,Z,Z,Z,Z,Z] rfl rfl (any_of HT_.out (by kernel_rfl)) (fun _ _ _ h => h) (Or.inl ⟨by rfl, ?_⟩) ?_ ?_
           rotate_left
           ·intro w'
            go_simp
            with_reducible rfl
           rotate_left
           ·simp only [Act.put, zC, zD, zE, i64_w, i32_w]
            rfl
           refine pure_ (i := 10) (N := some 22) (v := ?_) (a' := ?_) #[Y,Y,Y,Y,Y,Y,Y,Y,Z,Y,Y,Z,Z,Z,Z,Z,Z,Z] rfl rfl (any_of HT_.out (by kernel_rfl)) (fun _ _ _ h => h) (Or.inl ⟨by rfl, ?_⟩) ?_ ?_
           rotate_left
           ·intro w'
            go_simp
            with_reducible rfl
           rotate_left
           ·simp only [Act.put, zC, zD, zE, i64_w, i32_w]
            rfl
           refine pure_ (i := 11) (N := some 23) (v := ?_) (a' := ?_) #[Y,Y,Y,Y,Y,Y,Y,Y,Z,Y,Y,Y,Z,Z,Z,Z,Z,Z] rfl rfl (any_of HT_.out (by kernel_rfl)) (fun _ _ _ h => h) (Or.inl ⟨by rfl, ?_⟩) ?_ ?_
           rotate_left
           ·intro w'
            go_simp
            with_reducible rfl
           rotate_left
           ·simp only [Act.put, zC, zD, zE, i64_w, i32_w]
            rfl
           refine pure_ (i := 12) (N := some 24) (v := ?_) (a' := ?_) #[Y,Y,Y,Y,Y,Y,Y,Y,Z,Y,Y,Y,Y,Z,Z,Z,Z,Z] rfl rfl (any_of HT_.out (by kernel_rfl)) (fun _ _ _ h => h) (Or.inl ⟨by rfl, ?_⟩) ?_ ?_
           rotate_left
           ·intro w'
            go_simp
            with_reducible rfl
           rotate_left
           ·simp only [Act.put, zC, zD, zE, i64_w, i32_w]
            rfl
           refine pure_ (i := 13) (N := some 25) (v := ?_) (a' := ?_) #[Y,Y,Y,Y,Y,Y,Y,Y,Z,Y,Y,Y,Y,Y,Z,Z,Z,Z] rfl rfl (any_of HT_.out (by kernel_rfl)) (fun _ _ _ h => h) (Or.inl ⟨by rfl, ?_⟩) ?_ ?_
           rotate_left
           ·intro w'
            go_simp
            with_reducible rfl
           rotate_left
           ·simp only [Act.put, zC, zD, zE, i64_w, i32_w]
            rfl
           refine take_ (i := 8) (N := some 20) (v := ?_) (a' := ?_) #[Y,Y,Y,Y,Y,Y,Y,Y,Y,Y,Y,Y,Y,Y,Z,Z,Z,Z] rfl rfl (take_ofW HT_.out HW_.out (by kernel_rfl)) (fun _ _ _ h => h) (Or.inl ⟨by rfl, ?_⟩) hHeld ?_ ?_
           rotate_left
           ·rintro w' ⟨s0, s1, s2, s3, s4, s5⟩
            go_simp
            with_reducible rfl
           rotate_left
           ·simp only [Act.put, zC, zD, zE, i64_w, i32_w]
            rfl
           refine take_ (i := 14) (N := some 26) (v := ?_) (a' := ?_) #[Y,Y,Y,Y,Y,Y,Y,Y,Y,Y,Y,Y,Y,Y,Y,Z,Z,Z] rfl rfl (take_ofW HT_.out HW_.out (by kernel_rfl)) (fun _ _ _ h => h) (Or.inl ⟨by rfl, ?_⟩) hHeld ?_ ?_
           rotate_left
           ·rintro w' ⟨s0, s1, s2, s3, s4, s5⟩
            go_simp
            with_reducible rfl
           rotate_left
           ·simp only [Act.put, zC, zD, zE, i64_w, i32_w]
            rfl
           refine pure_ (i := 15) (N := some 27) (v := ?_) (a' := ?_) #[Y,Y,Y,Y,Y,Y,Y,Y,Y,Y,Y,Y,Y,Y,Y,Y,Z,Z] rfl rfl (any_of HT_.out (by kernel_rfl)) (fun _ _ _ h => h) (Or.inl ⟨by rfl, ?_⟩) ?_ ?_
           rotate_left
           ·intro w'
            go_simp
            with_reducible rfl
           rotate_left
           ·simp only [Act.put, zC, zD, zE, i64_w, i32_w]
            rfl
           refine pure_ (i := 16) (N := some 28) (v := ?_) (a' := ?_) #[Y,Y,Y,Y,Y,Y,Y,Y,Y,Y,Y,Y,Y,Y,Y,Y,Y,Z] rfl rfl (any_of HT_.out (by kernel_rfl)) (fun _ _ _ h => h) (Or.inl ⟨by rfl, ?_⟩) ?_ ?_
           rotate_left
           ·intro w'
            go_simp
            with_reducible rfl
           rotate_left
           ·simp only [Act.put, zC, zD, zE, i64_w, i32_w]
            rfl
           refine pure_ (i := 17) (N := some 29) (v := ?_) (a' := ?_) #[Y,Y,Y,Y,Y,Y,Y,Y,Y,Y,Y,Y,Y,Y,Y,Y,Y,Y] rfl rfl (any_of HT_.out (by kernel_rfl)) (fun _ _ _ h => h) (Or.inl ⟨by rfl, ?_⟩) ?_ ?_
           rotate_left
           ·intro w'
            go_simp
            with_reducible rfl
           rotate_left
           ·simp only [Act.put, zC, zD, zE, i64_w, i32_w]
            rfl
           refine done_ (done_of HT_.out (by kernel_rfl)) ?_
           try go_wp2
           go_meet
           case rel => exact ⟨_, (!(Op.bytesLess (((rd_T85 l0 (ji11)).f0).toList) (((rd_T85 l0 x7_1).f0).toList))), (by first | rfl | (simp; done) | (simp only [← hji11] <;> (first | rfl | simp)) | (simp [*]; done)), H', ⟨by have := HK1.out; first | omega | exact Nat.le_refl _⟩, ⟨by (with_reducible repeat (first | refine blk_drewN ?_ _ | refine blk_drew ?_ | refine blk_alloc ?_ _)); exact BK132.out⟩, ⟨rW1⟩⟩
          ·rw [if_neg c13] at H
           exact absurd H (by simp)
         ·rw [if_neg c12] at H
          exact absurd H (by simp)
        ·rw [if_neg c10] at H
         have c10b0 : decide (0 < x7_1) = false := zI c10
         clear c10
         (first | rw [c10b0] | (simp only [i64_w, i32_w]; rw [c10b0]) | skip)
         have H' := zA H
         clear H
         try go_wp2
         have n0_ : Aside0 ((((w6.setCell ⟨gb132, 0, none⟩ (.string ((rd_T85 l0 x7_1).f0))).setCell ⟨gb132, 1, none⟩ (.int .i64 ((rd_T85 l0 x7_1).f1))).setCell ⟨gb132, 2, none⟩ (.slice A131_2 ((rd_T85 l0 x7_1).f2).length c131_2)).heap[gb132]? = some (.cells #[.string ((rd_T85 l0 x7_1).f0), .int .i64 ((rd_T85 l0 x7_1).f1), .slice A131_2 ((rd_T85 l0 x7_1).f2).length c131_2] 85 (0, 0))) := ⟨by (with_reducible repeat (first | refine blk_drewN ?_ _ | refine blk_drew ?_ | refine blk_alloc ?_ _)); refine blk_put (cs := #[.string ((rd_T85 l0 x7_1).f0), .int .i64 ((rd_T85 l0 x7_1).f1), .slice none 0 0]) ?_ 2 _ rfl; (with_reducible repeat (first | refine blk_drewN ?_ _ | refine blk_drew ?_ | refine blk_alloc ?_ _)); refine blk_put (cs := #[.string ((rd_T85 l0 x7_1).f0), .int .i64 0, .slice none 0 0]) ?_ 1 _ rfl; (with_reducible repeat (first | refine blk_drewN ?_ _ | refine blk_drew ?_ | refine blk_alloc ?_ _)); refine blk_put (cs := #[.string (⟨#[]⟩ : ByteArray), .int .i64 0, .slice none 0 0]) ?_ 0 _ rfl; (with_reducible repeat (first | refine blk_drewN ?_ _ | refine blk_drew ?_ | refine blk_alloc ?_ _)); exact BK132.out⟩
         have n1_ : Aside0 (Below w.heap.size w (((w6.setCell ⟨gb132, 0, none⟩ (.string ((rd_T85 l0 x7_1).f0))).setCell ⟨gb132, 1, none⟩ (.int .i64 ((rd_T85 l0 x7_1).f1))).setCell ⟨gb132, 2, none⟩ (.slice A131_2 ((rd_T85 l0 x7_1).f2).length c131_2))) := ⟨rW1⟩
         (try clear BK132)
         (try clear HB)
         generalize (((w6.setCell ⟨gb132, 0, none⟩ (.string ((rd_T85 l0 x7_1).f0))).setCell ⟨gb132, 1, none⟩ (.int .i64 ((rd_T85 l0 x7_1).f1))).setCell ⟨gb132, 2, none⟩ (.slice A131_2 ((rd_T85 l0 x7_1).f2).length c131_2)) = w17 at n0_ n1_ ⊢
         have BK132 := n0_
         have HB := n1_
         clear n0_ n1_
         have n0_ := zA (blk_drew BK132.out)
         have n1_ := zA (zK HB.out)
         clear BK132
         clear HB
         have BK132 := n0_
         have HB := n1_
         clear n0_ n1_
         refine start_ (n := 18) (S := fun w' => w'.cell? ⟨gb132, 0, none⟩ = some (.string ((rd_T85 l0 x7_1).f0)) ∧ w'.cell? ⟨gb132, 1, none⟩ = some (.int .i64 ((rd_T85 l0 x7_1).f1)) ∧ w'.cell? ⟨gb132, 2, none⟩ = some (.slice A131_2 ((rd_T85 l0 x7_1).f2).length c131_2)) (ds := []) #[Z,Z,Z,Z,Z,Z,Z,Z,Z,Z,Z,Z,Z,Z,Z,Z,Z,Z] (by kernel_rfl) rfl rfl ⟨(zN BK132.out 0).trans rfl, (zN BK132.out 1).trans rfl, (zN BK132.out 2).trans rfl⟩ (fun hHeld => ?_); refine with_tabW dir_directory.tab4 dir_directory.bits4 (fun HT_ HW_ => ?_)
         generalize w17.drew = w18 at BK132 HB hHeld ⊢
         refine take_ (i := 0) (N := some 12) (v := ?_) (a' := ?_) #[Y,Z,Z,Z,Z,Z,Z,Z,Z,Z,Z,Z,Z,Z,Z,Z,Z,Z] rfl rfl (take_ofW HT_.out HW_.out (by kernel_rfl)) (fun _ _ _ h => h) (Or.inl ⟨by rfl, ?_⟩) hHeld ?_ ?_
         rotate_left
         ·rintro w' ⟨s0, s1, s2⟩
          go_simp
          with_reducible rfl
         rotate_left
         ·simp only [Act.put, zC, zD, zE, i64_w, i32_w]
          rfl
         refine one_ (i := 1) (N := some 13) #[Y,Y,Z,Z,Z,Z,Z,Z,Z,Z,Z,Z,Z,Z,Z,Z,Z,Z] rfl rfl (one_of HT_.out (by kernel_rfl)) (by decide) (fun K hK => ?_)
         refine goes_ Tryz.func134 (by kernel_rfl) rfl #[.agg #[.string ((rd_T85 l0 x7_1).f0), .int .i64 ((rd_T85 l0 x7_1).f1), .slice A131_2 ((rd_T85 l0 x7_1).f2).length c131_2]] (by rfl) rfl rfl argA ?_
         with_reducible refine (dir_File_well.calls k1 ((rd_T85 l0 x7_1).f0) ((rd_T85 l0 x7_1).f1) _ _ ((rd_T85 l0 x7_1).f2) true _ ?side1 ?side2 ?side3 A8.out).mono ?_
         (case side1 => repeat (first | exact (Kd.C_below HR131_2.out HB.out) | (with_reducible refine Kd.C_alloc ?_ _) | (with_reducible refine Kd.C_drewN ?_ _) | (with_reducible refine Kd.C_drew ?_)))
         (case side2 => exact HC131_2.out)
         (case side3 => exact TabsW.below HT0.out (rW1))
         rintro e w19 ⟨rfl, hb⟩
         refine ⟨_, rfl, ?_⟩
         have n0_ := zA (blk_below (g := gb132) (o := .cells #[.string ((rd_T85 l0 x7_1).f0), .int .i64 ((rd_T85 l0 x7_1).f1), .slice A131_2 ((rd_T85 l0 x7_1).f2).length c131_2] 85 (0, 0)) (blkN BK132.out) hb)
         have n1_ := zA (zL (rW1) hb)
         clear BK132
         clear HB
         have BK132 := n0_
         have HB := n1_
         clear n0_ n1_
         (try clear hb)
         (try clear hb2)
         (try clear hk)
         (try clear hi)
         refine hK.out _ _ ⟨(zN BK132.out 0).trans rfl, (zN BK132.out 1).trans rfl, (zN BK132.out 2).trans rfl⟩ (fun hHeld => ?_)
         clear hK K
         refine norm_ (a' := ?_) ?_ ?_
         rotate_left
         ·show Act.put _ (some 13) _ = _
          simp only [Act.put, zC, zD, zE, i64_w, i32_w]
          rfl
         refine pure_ (i := 2) (N := some 14) (v := ?_) (a' := ?_) #[Y,Y,Y,Z,Z,Z,Z,Z,Z,Z,Z,Z,Z,Z,Z,Z,Z,Z] rfl rfl (any_of HT_.out (by kernel_rfl)) (fun _ _ _ h => h) (Or.inl ⟨by rfl, ?_⟩) ?_ ?_
         rotate_left
         ·intro w'
          go_simp
          with_reducible rfl
         rotate_left
         ·simp only [Act.put, zC, zD, zE, i64_w, i32_w]
          rfl
         refine pure_ (i := 3) (N := some 15) (v := ?_) (a' := ?_) #[Y,Y,Y,Y,Z,Z,Z,Z,Z,Z,Z,Z,Z,Z,Z,Z,Z,Z] rfl rfl (any_of HT_.out (by kernel_rfl)) (fun _ _ _ h => h) (Or.inl ⟨by rfl, ?_⟩) ?_ ?_
         rotate_left
         ·intro w'
          go_simp
          with_reducible rfl
         rotate_left
         ·simp only [Act.put, zC, zD, zE, i64_w, i32_w]
          rfl
         refine pure_ (i := 4) (N := some 16) (v := ?_) (a' := ?_) #[Y,Y,Y,Y,Y,Z,Z,Z,Z,Z,Z,Z,Z,Z,Z,Z,Z,Z] rfl rfl (any_of HT_.out (by kernel_rfl)) (fun _ _ _ h => h) (Or.inl ⟨by rfl, ?_⟩) ?_ ?_
         rotate_left
         ·intro w'
          go_simp
          with_reducible rfl
         rotate_left
         ·simp only [Act.put, zC, zD, zE, i64_w, i32_w]
          rfl
         refine pure_ (i := 5) (N := some 17) (v := ?_) (a' := ?_) #[Y,Y,Y,Y,Y,Y,Z,Z,Z,Z,Z,Z,Z,Z,Z,Z,Z,Z] rfl rfl (any_of HT_.out (by kernel_rfl)) (fun _ _ _ h => h) (Or.inl ⟨by rfl, ?_⟩) ?_ ?_
         rotate_left
         ·intro w'
          go_simp
          with_reducible rfl
         rotate_left
         ·simp only [Act.put, zC, zD, zE, i64_w, i32_w]
          rfl
         refine pure_ (i := 6) (N := some 18) (v := ?_) (a' := ?_) #[Y,Y,Y,Y,Y,Y,Y,Z,Z,Z,Z,Z,Z,Z,Z,Z,Z,Z] rfl rfl (any_of HT_.out (by kernel_rfl)) (fun _ _ _ h => h) (Or.inl ⟨by rfl, ?_⟩) ?_ ?_
         rotate_left
         ·intro w'
          go_simp
          with_reducible rfl
         rotate_left
         ·simp only [Act.put, zC, zD, zE, i64_w, i32_w]
          rfl
         refine pure_ (i := 7) (N := some 19) (v := undef) (a' := ?_) #[Y,Y,Y,Y,Y,Y,Y,Y,Z,Z,Z,Z,Z,Z,Z,Z,Z,Z] rfl rfl (any_of HT_.out (by kernel_rfl)) (fun _ _ _ h => h) (Or.inr ⟨by rfl, rfl⟩) ?_ ?_
         rotate_left
         ·simp only [Act.put, zC, zD, zE, i64_w, i32_w]
          rfl
         refine pure_ (i := 8) (N := some 20) (v := undef) (a' := ?_) #[Y,Y,Y,Y,Y,Y,Y,Y,Y,Z,Z,Z,Z,Z,Z,Z,Z,Z] rfl rfl (any_of HT_.out (by kernel_rfl)) (fun _ _ _ h => h) (Or.inr ⟨by rfl, rfl⟩) ?_ ?_
         rotate_left
         ·simp only [Act.put, zC, zD, zE, i64_w, i32_w]
          rfl
         refine pure_ (i := 9) (N := some 21) (v := undef) (a' := ?_) #[Y,Y,Y,Y,Y,Y,Y,Y,Y,Y,Z,Z,Z,Z,Z,Z,Z,Z] rfl rfl (any_of HT_.out (by kernel_rfl)) (fun _ _ _ h => h) (Or.inr ⟨by rfl, rfl⟩) ?_ ?_
         rotate_left
         ·simp only [Act.put, zC, zD, zE, i64_w, i32_w]
          rfl
         refine pure_ (i := 10) (N := some 22) (v := undef) (a' := ?_) #[Y,Y,Y,Y,Y,Y,Y,Y,Y,Y,Y,Z,Z,Z,Z,Z,Z,Z] rfl rfl (any_of HT_.out (by kernel_rfl)) (fun _ _ _ h => h) (Or.inr ⟨by rfl, rfl⟩) ?_ ?_
         rotate_left
         ·simp only [Act.put, zC, zD, zE, i64_w, i32_w]
          rfl
         refine pure_ (i := 11) (N := some 23) (v := undef) (a' := ?_) #[Y,Y,Y,Y,Y,Y,Y,Y,Y,Y,Y,Y,Z,Z,Z,Z,Z,Z] rfl rfl (any_of HT_.out (by kernel_rfl)) (fun _ _ _ h => h) (Or.inr ⟨by rfl, rfl⟩) ?_ ?_
         rotate_left
         ·simp only [Act.put, zC, zD, zE, i64_w, i32_w]
          rfl
         refine pure_ (i := 12) (N := some 24) (v := undef) (a' := ?_) #[Y,Y,Y,Y,Y,Y,Y,Y,Y,Y,Y,Y,Y,Z,Z,Z,Z,Z] rfl rfl (any_of HT_.out (by kernel_rfl)) (fun _ _ _ h => h) (Or.inr ⟨by rfl, rfl⟩) ?_ ?_
         rotate_left
         ·simp only [Act.put, zC, zD, zE, i64_w, i32_w]
          rfl
         refine pure_ (i := 13) (N := some 25) (v := undef) (a' := ?_) #[Y,Y,Y,Y,Y,Y,Y,Y,Y,Y,Y,Y,Y,Y,Z,Z,Z,Z] rfl rfl (any_of HT_.out (by kernel_rfl)) (fun _ _ _ h => h) (Or.inr ⟨by rfl, rfl⟩) ?_ ?_
         rotate_left
         ·simp only [Act.put, zC, zD, zE, i64_w, i32_w]
          rfl
         refine pure_ (i := 14) (N := some 26) (v := undef) (a' := ?_) #[Y,Y,Y,Y,Y,Y,Y,Y,Y,Y,Y,Y,Y,Y,Y,Z,Z,Z] rfl rfl (any_of HT_.out (by kernel_rfl)) (fun _ _ _ h => h) (Or.inr ⟨by rfl, rfl⟩) ?_ ?_
         rotate_left
         ·simp only [Act.put, zC, zD, zE, i64_w, i32_w]
          rfl
         refine pure_ (i := 15) (N := some 27) (v := undef) (a' := ?_) #[Y,Y,Y,Y,Y,Y,Y,Y,Y,Y,Y,Y,Y,Y,Y,Y,Z,Z] rfl rfl (any_of HT_.out (by kernel_rfl)) (fun _ _ _ h => h) (Or.inr ⟨by rfl, rfl⟩) ?_ ?_
         rotate_left
         ·simp only [Act.put, zC, zD, zE, i64_w, i32_w]
          rfl
         refine pure_ (i := 16) (N := some 28) (v := ?_) (a' := ?_) #[Y,Y,Y,Y,Y,Y,Y,Y,Y,Y,Y,Y,Y,Y,Y,Y,Y,Z] rfl rfl (any_of HT_.out (by kernel_rfl)) (fun _ _ _ h => h) (Or.inl ⟨by rfl, ?_⟩) ?_ ?_
         rotate_left
         ·intro w'
          go_simp
          with_reducible rfl
         rotate_left
         ·simp only [Act.put, zC, zD, zE, i64_w, i32_w]
          rfl
         refine pure_ (i := 17) (N := some 29) (v := ?_) (a' := ?_) #[Y,Y,Y,Y,Y,Y,Y,Y,Y,Y,Y,Y,Y,Y,Y,Y,Y,Y] rfl rfl (any_of HT_.out (by kernel_rfl)) (fun _ _ _ h => h) (Or.inl ⟨by rfl, ?_⟩) ?_ ?_
         rotate_left
         ·intro w'
          go_simp
          with_reducible rfl
         rotate_left
         ·simp only [Act.put, zC, zD, zE, i64_w, i32_w]
          rfl
         refine done_ (done_of HT_.out (by kernel_rfl)) ?_
         try go_wp2
         go_meet
         case rel => exact ⟨_, (false), (rfB), H', ⟨by have := HK1.out; first | omega | exact Nat.le_refl _⟩, ⟨by (with_reducible repeat (first | refine blk_drewN ?_ _ | refine blk_drew ?_ | refine blk_alloc ?_ _)); exact BK132.out⟩, ⟨rW1⟩⟩
       ·replace c9 := Bool.eq_false_iff.mpr c9
        subst c9
        have H1 : (dir_directory.j1 k1 l0 l0 (l0.length : Int) x7_1 true) = some r := by rw [if_neg (show ¬ (false = true) by decide)] at H; exact H
        clear H
        have H := H1
        clear H1
        have H' := zA H
        clear H
        try go_wp2
        have n0_ : Aside0 ((((w6.setCell ⟨gb132, 0, none⟩ (.string ((rd_T85 l0 x7_1).f0))).setCell ⟨gb132, 1, none⟩ (.int .i64 ((rd_T85 l0 x7_1).f1))).setCell ⟨gb132, 2, none⟩ (.slice A131_2 ((rd_T85 l0 x7_1).f2).length c131_2)).heap[gb132]? = some (.cells #[.string ((rd_T85 l0 x7_1).f0), .int .i64 ((rd_T85 l0 x7_1).f1), .slice A131_2 ((rd_T85 l0 x7_1).f2).length c131_2] 85 (0, 0))) := ⟨by (with_reducible repeat (first | refine blk_drewN ?_ _ | refine blk_drew ?_ | refine blk_alloc ?_ _)); refine blk_put (cs := #[.string ((rd_T85 l0 x7_1).f0), .int .i64 ((rd_T85 l0 x7_1).f1), .slice none 0 0]) ?_ 2 _ rfl; (with_reducible repeat (first | refine blk_drewN ?_ _ | refine blk_drew ?_ | refine blk_alloc ?_ _)); refine blk_put (cs := #[.string ((rd_T85 l0 x7_1).f0), .int .i64 0, .slice none 0 0]) ?_ 1 _ rfl; (with_reducible repeat (first | refine blk_drewN ?_ _ | refine blk_drew ?_ | refine blk_alloc ?_ _)); refine blk_put (cs := #[.string (⟨#[]⟩ : ByteArray), .int .i64 0, .slice none 0 0]) ?_ 0 _ rfl; (with_reducible repeat (first | refine blk_drewN ?_ _ | refine blk_drew ?_ | refine blk_alloc ?_ _)); exact BK132.out⟩
        have n1_ : Aside0 (Below w.heap.size w (((w6.setCell ⟨gb132, 0, none⟩ (.string ((rd_T85 l0 x7_1).f0))).setCell ⟨gb132, 1, none⟩ (.int .i64 ((rd_T85 l0 x7_1).f1))).setCell ⟨gb132, 2, none⟩ (.slice A131_2 ((rd_T85 l0 x7_1).f2).length c131_2))) := ⟨rW1⟩
        (try clear BK132)
        (try clear HB)
        generalize (((w6.setCell ⟨gb132, 0, none⟩ (.string ((rd_T85 l0 x7_1).f0))).setCell ⟨gb132, 1, none⟩ (.int .i64 ((rd_T85 l0 x7_1).f1))).setCell ⟨gb132, 2, none⟩ (.slice A131_2 ((rd_T85 l0 x7_1).f2).length c131_2)) = w20 at n0_ n1_ ⊢
        have BK132 := n0_
        have HB := n1_
        clear n0_ n1_
        have n0_ := zA (blk_drew BK132.out)
        have n1_ := zA (zK HB.out)
        clear BK132
        clear HB
        have BK132 := n0_
        have HB := n1_
        clear n0_ n1_
        refine start_ (n := 18) (S := fun w' => w'.cell? ⟨gb132, 0, none⟩ = some (.string ((rd_T85 l0 x7_1).f0)) ∧ w'.cell? ⟨gb132, 1, none⟩ = some (.int .i64 ((rd_T85 l0 x7_1).f1)) ∧ w'.cell? ⟨gb132, 2, none⟩ = some (.slice A131_2 ((rd_T85 l0 x7_1).f2).length c131_2)) (ds := []) #[Z,Z,Z,Z,Z,Z,Z,Z,Z,Z,Z,Z,Z,Z,Z,Z,Z,Z] (by kernel_rfl) rfl rfl ⟨(zN BK132.out 0).trans rfl, (zN BK132.out 1).trans rfl, (zN BK132.out 2).trans rfl⟩ (fun hHeld => ?_); refine with_tabW dir_directory.tab4 dir_directory.bits4 (fun HT_ HW_ => ?_)
        generalize w20.drew = w21 at BK132 HB hHeld ⊢
        refine take_ (i := 0) (N := some 12) (v := ?_) (a' := ?_) #[Y,Z,Z,Z,Z,Z,Z,Z,Z,Z,Z,Z,Z,Z,Z,Z,Z,Z] rfl rfl (take_ofW HT_.out HW_.out (by kernel_rfl)) (fun _ _ _ h => h) (Or.inl ⟨by rfl, ?_⟩) hHeld ?_ ?_
        rotate_left
        ·rintro w' ⟨s0, s1, s2⟩
         go_simp
         with_reducible rfl
        rotate_left
        ·simp only [Act.put, zC, zD, zE, i64_w, i32_w]
         rfl
        refine one_ (i := 1) (N := some 13) #[Y,Y,Z,Z,Z,Z,Z,Z,Z,Z,Z,Z,Z,Z,Z,Z,Z,Z] rfl rfl (one_of HT_.out (by kernel_rfl)) (by decide) (fun K hK => ?_)
        refine goes_ Tryz.func134 (by kernel_rfl) rfl #[.agg #[.string ((rd_T85 l0 x7_1).f0), .int .i64 ((rd_T85 l0 x7_1).f1), .slice A131_2 ((rd_T85 l0 x7_1).f2).length c131_2]] (by rfl) rfl rfl argA ?_
        with_reducible refine (dir_File_well.calls k1 ((rd_T85 l0 x7_1).f0) ((rd_T85 l0 x7_1).f1) _ _ ((rd_T85 l0 x7_1).f2) false _ ?side1 ?side2 ?side3 A8.out).mono ?_
        (case side1 => repeat (first | exact (Kd.C_below HR131_2.out HB.out) | (with_reducible refine Kd.C_alloc ?_ _) | (with_reducible refine Kd.C_drewN ?_ _) | (with_reducible refine Kd.C_drew ?_)))
        (case side2 => exact HC131_2.out)
        (case side3 => exact TabsW.below HT0.out (rW1))
        rintro e w22 ⟨rfl, hb⟩
        refine ⟨_, rfl, ?_⟩
        have n0_ := zA (blk_below (g := gb132) (o := .cells #[.string ((rd_T85 l0 x7_1).f0), .int .i64 ((rd_T85 l0 x7_1).f1), .slice A131_2 ((rd_T85 l0 x7_1).f2).length c131_2] 85 (0, 0)) (blkN BK132.out) hb)
        have n1_ := zA (zL (rW1) hb)
        clear BK132
        clear HB
        have BK132 := n0_
        have HB := n1_
        clear n0_ n1_
        (try clear hb)
        (try clear hb2)
        (try clear hk)
        (try clear hi)
        refine hK.out _ _ ⟨(zN BK132.out 0).trans rfl, (zN BK132.out 1).trans rfl, (zN BK132.out 2).trans rfl⟩ (fun hHeld => ?_)
        clear hK K
        refine norm_ (a' := ?_) ?_ ?_
        rotate_left
        ·show Act.put _ (some 13) _ = _
         simp only [Act.put, zC, zD, zE, i64_w, i32_w]
         rfl
        refine pure_ (i := 2) (N := some 14) (v := ?_) (a' := ?_) #[Y,Y,Y,Z,Z,Z,Z,Z,Z,Z,Z,Z,Z,Z,Z,Z,Z,Z] rfl rfl (any_of HT_.out (by kernel_rfl)) (fun _ _ _ h => h) (Or.inl ⟨by rfl, ?_⟩) ?_ ?_
        rotate_left
        ·intro w'
         go_simp
         with_reducible rfl
        rotate_left
        ·simp only [Act.put, zC, zD, zE, i64_w, i32_w]
         rfl
        refine pure_ (i := 3) (N := some 15) (v := ?_) (a' := ?_) #[Y,Y,Y,Y,Z,Z,Z,Z,Z,Z,Z,Z,Z,Z,Z,Z,Z,Z] rfl rfl (any_of HT_.out (by kernel_rfl)) (fun _ _ _ h => h) (Or.inl ⟨by rfl, ?_⟩) ?_ ?_
        rotate_left
        ·intro w'
         go_simp
         with_reducible rfl
        rotate_left
        ·simp only [Act.put, zC, zD, zE, i64_w, i32_w]
         rfl
        refine pure_ (i := 4) (N := some 16) (v := undef) (a' := ?_) #[Y,Y,Y,Y,Y,Z,Z,Z,Z,Z,Z,Z,Z,Z,Z,Z,Z,Z] rfl rfl (any_of HT_.out (by kernel_rfl)) (fun _ _ _ h => h) (Or.inr ⟨by rfl, rfl⟩) ?_ ?_
        rotate_left
        ·simp only [Act.put, zC, zD, zE, i64_w, i32_w]
         rfl
        refine pure_ (i := 5) (N := some 17) (v := undef) (a' := ?_) #[Y,Y,Y,Y,Y,Y,Z,Z,Z,Z,Z,Z,Z,Z,Z,Z,Z,Z] rfl rfl (any_of HT_.out (by kernel_rfl)) (fun _ _ _ h => h) (Or.inr ⟨by rfl, rfl⟩) ?_ ?_
        rotate_left
        ·simp only [Act.put, zC, zD, zE, i64_w, i32_w]
         rfl
        refine pure_ (i := 6) (N := some 18) (v := undef) (a' := ?_) #[Y,Y,Y,Y,Y,Y,Y,Z,Z,Z,Z,Z,Z,Z,Z,Z,Z,Z] rfl rfl (any_of HT_.out (by kernel_rfl)) (fun _ _ _ h => h) (Or.inr ⟨by rfl, rfl⟩) ?_ ?_
        rotate_left
        ·simp only [Act.put, zC, zD, zE, i64_w, i32_w]
         rfl
        refine pure_ (i := 7) (N := some 19) (v := undef) (a' := ?_) #[Y,Y,Y,Y,Y,Y,Y,Y,Z,Z,Z,Z,Z,Z,Z,Z,Z,Z] rfl rfl (any_of HT_.out (by kernel_rfl)) (fun _ _ _ h => h) (Or.inr ⟨by rfl, rfl⟩) ?_ ?_
        rotate_left
        ·simp only [Act.put, zC, zD, zE, i64_w, i32_w]
         rfl
        refine pure_ (i := 8) (N := some 20) (v := undef) (a' := ?_) #[Y,Y,Y,Y,Y,Y,Y,Y,Y,Z,Z,Z,Z,Z,Z,Z,Z,Z] rfl rfl (any_of HT_.out (by kernel_rfl)) (fun _ _ _ h => h) (Or.inr ⟨by rfl, rfl⟩) ?_ ?_
        rotate_left
        ·simp only [Act.put, zC, zD, zE, i64_w, i32_w]
         rfl
        refine pure_ (i := 9) (N := some 21) (v := undef) (a' := ?_) #[Y,Y,Y,Y,Y,Y,Y,Y,Y,Y,Z,Z,Z,Z,Z,Z,Z,Z] rfl rfl (any_of HT_.out (by kernel_rfl)) (fun _ _ _ h => h) (Or.inr ⟨by rfl, rfl⟩) ?_ ?_
        rotate_left
        ·simp only [Act.put, zC, zD, zE, i64_w, i32_w]
         rfl
        refine pure_ (i := 10) (N := some 22) (v := undef) (a' := ?_) #[Y,Y,Y,Y,Y,Y,Y,Y,Y,Y,Y,Z,Z,Z,Z,Z,Z,Z] rfl rfl (any_of HT_.out (by kernel_rfl)) (fun _ _ _ h => h) (Or.inr ⟨by rfl, rfl⟩) ?_ ?_
        rotate_left
        ·simp only [Act.put, zC, zD, zE, i64_w, i32_w]
         rfl
        refine pure_ (i := 11) (N := some 23) (v := undef) (a' := ?_) #[Y,Y,Y,Y,Y,Y,Y,Y,Y,Y,Y,Y,Z,Z,Z,Z,Z,Z] rfl rfl (any_of HT_.out (by kernel_rfl)) (fun _ _ _ h => h) (Or.inr ⟨by rfl, rfl⟩) ?_ ?_
        rotate_left
        ·simp only [Act.put, zC, zD, zE, i64_w, i32_w]
         rfl
        refine pure_ (i := 12) (N := some 24) (v := undef) (a' := ?_) #[Y,Y,Y,Y,Y,Y,Y,Y,Y,Y,Y,Y,Y,Z,Z,Z,Z,Z] rfl rfl (any_of HT_.out (by kernel_rfl)) (fun _ _ _ h => h) (Or.inr ⟨by rfl, rfl⟩) ?_ ?_
        rotate_left
        ·simp only [Act.put, zC, zD, zE, i64_w, i32_w]
         rfl
        refine pure_ (i := 13) (N := some 25) (v := undef) (a' := ?_) #[Y,Y,Y,Y,Y,Y,Y,Y,Y,Y,Y,Y,Y,Y,Z,Z,Z,Z] rfl rfl (any_of HT_.out (by kernel_rfl)) (fun _ _ _ h => h) (Or.inr ⟨by rfl, rfl⟩) ?_ ?_
        rotate_left
        ·simp only [Act.put, zC, zD, zE, i64_w, i32_w]
         rfl
        refine pure_ (i := 14) (N := some 26) (v := undef) (a' := ?_) #[Y,Y,Y,Y,Y,Y,Y,Y,Y,Y,Y,Y,Y,Y,Y,Z,Z,Z] rfl rfl (any_of HT_.out (by kernel_rfl)) (fun _ _ _ h => h) (Or.inr ⟨by rfl, rfl⟩) ?_ ?_
        rotate_left
        ·simp only [Act.put, zC, zD, zE, i64_w, i32_w]
         rfl
        refine pure_ (i := 15) (N := some 27) (v := undef) (a' := ?_) #[Y,Y,Y,Y,Y,Y,Y,Y,Y,Y,Y,Y,Y,Y,Y,Y,Z,Z] rfl rfl (any_of HT_.out (by kernel_rfl)) (fun _ _ _ h => h) (Or.inr ⟨by rfl, rfl⟩) ?_ ?_
        rotate_left
        ·simp only [Act.put, zC, zD, zE, i64_w, i32_w]
         rfl
        refine pure_ (i := 16) (N := some 28) (v := undef) (a' := ?_) #[Y,Y,Y,Y,Y,Y,Y,Y,Y,Y,Y,Y,Y,Y,Y,Y,Y,Z] rfl rfl (any_of HT_.out (by kernel_rfl)) (fun _ _ _ h => h) (Or.inr ⟨by rfl, rfl⟩) ?_ ?_
        rotate_left
        ·simp only [Act.put, zC, zD, zE, i64_w, i32_w]
         rfl
        refine pure_ (i := 17) (N := some 29) (v := ?_) (a' := ?_) #[Y,Y,Y,Y,Y,Y,Y,Y,Y,Y,Y,Y,Y,Y,Y,Y,Y,Y] rfl rfl (any_of HT_.out (by kernel_rfl)) (fun _ _ _ h => h) (Or.inl ⟨by rfl, ?_⟩) ?_ ?_
        rotate_left
        ·intro w'
         go_simp
         with_reducible rfl
        rotate_left
        ·simp only [Act.put, zC, zD, zE, i64_w, i32_w]
         rfl
        refine done_ (done_of HT_.out (by kernel_rfl)) ?_
        try go_wp2
        go_meet
        case rel => exact ⟨_, (true), (rfB), H', ⟨by have := HK1.out; first | omega | exact Nat.le_refl _⟩, ⟨by (with_reducible repeat (first | refine blk_drewN ?_ _ | refine blk_drew ?_ | refine blk_alloc ?_ _)); exact BK132.out⟩, ⟨rW1⟩⟩
      case rest =>
       clear HC5
       try clear c1
       try clear p1
       try clear q1
       try clear hx1
       try clear c2
       try clear c2b0
       try clear p2
       try clear c3
       try clear c3b0
       try clear c4
       try clear c4b0
       try clear p6
       try clear c7
       try clear c9
       try clear c10
       try clear c10b0
       try clear c12
       try clear c12b0
       try clear c13
       try clear c13b0
       try clear p13
       try clear q13
       try clear hx13
       try clear hcz7_0
       try clear hcz7_1
       try clear hcz7_2
       try clear hfz7_0
       try clear hfz7_1
       try clear hfz7_2
       try clear hx131_0
       try clear hx131_1
       try clear hx131_2
       try clear hx134_0
       try clear hx134_1
       try clear hx134_2
       try clear p131
       try clear p134
       try clear q131
       try clear q134
       obtain ⟨kq, x29_4, rfl, HA, HJ4, BK132, HB⟩ := hcut
       cases kq with
       | zero => exact absurd HA.out (by simp [dir_directory.j1])
       | succ kj4 =>
        have H := HA.out
        clear HA
        simp only [dir_directory.j1] at H
        by_cases c23 : x29_4 = true
        ·subst c23
         have H1 : (some false) = some r := by rw [if_pos rfl] at H; exact H
         clear H
         have H := H1
         clear H1
         obtain rfl := Option.some.inj H
         go_wp2
         go_ret
         exact ⟨rfA, rW1⟩
        ·replace c23 := Bool.eq_false_iff.mpr c23
         subst c23
         have H1 : (dir_directory.l0 kj4 l0 l0 (l0.length : Int) (wrap64 (x7_1 + 1))) = some r := by rw [if_neg (show ¬ (false = true) by decide)] at H; exact H
         clear H
         have H := H1
         clear H1
         have H' := zA H
         clear H
         go_wp2
         go_roundg kj4
         case measure => have := HK1.out; have := HJ4.out; omega
         case rel => exact ⟨(wrap64 (x7_1 + 1)), (rfB), H', ⟨by have := HK1.out; have := HJ4.out; omega⟩, ⟨rW1⟩⟩
     ·rw [if_neg c4] at H
      exact absurd H (by simp)
    ·rw [if_neg c3] at H
     exact absurd H (by simp)
   ·rw [if_neg c2] at H
    have c2b0 : decide (x7_1 < (l0.length : Int)) = false := zI c2
    clear c2
    obtain rfl := Option.some.inj H
    go_wp2
    go_ret
    exact ⟨rfA, rW0⟩
def crcS (n : Int) : Int := bits .xor .u32 (n / 2) (bits .and .u32 3988292384 ((-(bits .and .u32 n 1)) % 4294967296))
def crcI : Nat → Int → Int
 | 0, n => n
 | j + 1, n => crcS (crcI j n)
def crcT (i : Nat) : Int := crcI 4 (i : Int)
def crcCs (k : Nat) : Array Value := ((List.range 16).map fun j => Value.int .u32 (if j < k then crcT j else 0)).toArray
theorem crcCs_get (k j : Nat) (h : j < 16) : (crcCs k)[j]? = some (.int .u32 (if j < k then crcT j else 0)) := by
 unfold crcCs
 simp [h]
theorem crcCs_set (k : Nat) (h : k < 16) : (crcCs k).setIfInBounds k (.int .u32 (crcT k)) = crcCs (k + 1) := by
 apply Array.toList_inj.1
 rw [Array.toList_setIfInBounds]
 unfold crcCs
 apply List.ext_getElem?
 intro i
 rw [List.getElem?_set]
 by_cases h16 : i < 16
 ·by_cases he : k = i
  ·subst he
   simp [h]
  ·rw [if_neg he]
   simp only [List.getElem?_map, List.getElem?_range h16, Option.map_some]
   congr 2
   by_cases hl : i < k
   ·rw [if_pos hl, if_pos (by omega)]
   ·rw [if_neg hl, if_neg (by omega)]
 ·rw [if_neg (by omega)]
  simp [h16]
theorem crcCs_size (k : Nat) : (crcCs k).size = 16 := by unfold crcCs; simp
theorem made_end (w W : World) (tmps : Array Value) (g15 : W.heap[w.heap.size]? = some (.cells (crcCs 16) 227 (0, 0))) (hb : Below w.heap.size w W) (ht : tmps.getD 0 undef = .pointer (some ⟨w.heap.size, 0, none⟩)) :
  bodyPost Tryz.prog Tryz.f174 (fun e w' => e = .returned (.agg (crcCs 16)) ∧ Below w.heap.size w w') Exit.ret { tmps := tmps, defers := [] } W :=
 bodyPost_ret (v := .agg (crcCs 16)) (results_cell_row (by kernel_rfl) tmps W w.heap.size 227 (crcCs 16) (0, 0) _ ht g15 Tryz.underlying227 rfl (by rw [crcCs_size]; kernel_rfl)) rfl ⟨rfl, hb⟩
set_option maxHeartbeats 2000000 in
set_option maxRecDepth 100000 in
theorem seal_made.calls (w : World) : Calls Tryz.prog 174 #[] w fun e w' => e = .returned (.agg (crcCs 16)) ∧ Below w.heap.size w w' := by
 have h0 : (w.alloc (.cells #[.int .u32 0, .int .u32 0, .int .u32 0, .int .u32 0, .int .u32 0, .int .u32 0, .int .u32 0, .int .u32 0, .int .u32 0, .int .u32 0, .int .u32 0, .int .u32 0, .int .u32 0, .int .u32 0, .int .u32 0, .int .u32 0] 227)).heap[w.heap.size]? = some (.cells (crcCs 0) 227 (0, 0)) := blk_new w _
 have h1 : ((w.alloc (.cells #[.int .u32 0, .int .u32 0, .int .u32 0, .int .u32 0, .int .u32 0, .int .u32 0, .int .u32 0, .int .u32 0, .int .u32 0, .int .u32 0, .int .u32 0, .int .u32 0, .int .u32 0, .int .u32 0, .int .u32 0, .int .u32 0] 227)).alloc (.cells #[.int .u32 0, .int .u32 0, .int .u32 0, .int .u32 0, .int .u32 0, .int .u32 0, .int .u32 0, .int .u32 0, .int .u32 0, .int .u32 0, .int .u32 0, .int .u32 0, .int .u32 0, .int .u32 0, .int .u32 0, .int .u32 0] 227)).heap[w.heap.size + 1]? = some (.cells (crcCs 0) 227 (0, 0)) := by
  have := blk_new (w.alloc (.cells #[.int .u32 0, .int .u32 0, .int .u32 0, .int .u32 0, .int .u32 0, .int .u32 0, .int .u32 0, .int .u32 0, .int .u32 0, .int .u32 0, .int .u32 0, .int .u32 0, .int .u32 0, .int .u32 0, .int .u32 0, .int .u32 0] 227)) (.cells (crcCs 0) 227 (0, 0))
  rwa [World.size_alloc] at this
 have HA0 := zA (blk_alloc h0 (.cells #[.int .u32 0, .int .u32 0, .int .u32 0, .int .u32 0, .int .u32 0, .int .u32 0, .int .u32 0, .int .u32 0, .int .u32 0, .int .u32 0, .int .u32 0, .int .u32 0, .int .u32 0, .int .u32 0, .int .u32 0, .int .u32 0] 227))
 have HA1 := zA h1
 have HB0 := zA (((Below.refl w.heap.size w).alloc (Nat.le_refl _) (.cells #[.int .u32 0, .int .u32 0, .int .u32 0, .int .u32 0, .int .u32 0, .int .u32 0, .int .u32 0, .int .u32 0, .int .u32 0, .int .u32 0, .int .u32 0, .int .u32 0, .int .u32 0, .int .u32 0, .int .u32 0, .int .u32 0] 227)).alloc (by simp) (.cells #[.int .u32 0, .int .u32 0, .int .u32 0, .int .u32 0, .int .u32 0, .int .u32 0, .int .u32 0, .int .u32 0, .int .u32 0, .int .u32 0, .int .u32 0, .int .u32 0, .int .u32 0, .int .u32 0, .int .u32 0, .int .u32 0] 227))
 clear h0 h1
 go_enter Tryz.func174, Tryz.ntmps174
 go_wp2
 go_loopg [4] 16 (fun gg s4 wr => ∃ k : Nat, k ≤ 16 ∧ 16 - k ≤ gg ∧ s4 = .int .i64 k ∧ Aside0 (wr.heap[w.heap.size]? = some (.cells (crcCs 0) 227 (0, 0))) ∧ Aside0 (wr.heap[w.heap.size + 1]? = some (.cells (crcCs k) 227 (0, 0))) ∧ Aside0 (Below w.heap.size w wr))
 case atStart => exact ⟨0, by omega, by omega, rfl, HA0, HA1, HB0⟩
 case round =>
  clear HA0 HA1 HB0
  obtain ⟨k, hk, hg, rfl, HA, HC, HB⟩ := hrel
  by_cases hlt : k < 16
  ·have hltz : decide ((k : Int) < 16) = true := zH (by omega)
   have hkz : (0 : Int) ≤ (k : Int) := by omega
   have hkz2 : (k : Int) < 16 := by omega
   have hc := zN HC.out k
   have hf := zM HC.out k
   rw [crcCs_get k k hlt, if_neg (Nat.lt_irrefl k)] at hc
   go_wp2
   go_loopg [3, 9] 4 (fun gg s3 s9 wi => ∃ j : Nat, j ≤ 4 ∧ 4 - j ≤ gg ∧ s9 = .int .i64 j ∧ s3 = .int .u32 (crcI j (k : Int)) ∧ wi = wr)
   case atStart => exact ⟨0, by omega, by omega, rfl, rfl, rfl⟩
   case round =>
    obtain ⟨j, hj, hgj, rfl, rfl, rfl⟩ := hrel
    by_cases hlj : j < 4
    ·have hltj : decide ((j : Int) < 4) = true := zH (by omega)
     have hcs : crcI (j + 1) (k : Int) = crcS (crcI j (k : Int)) := rfl
     generalize crcI j (k : Int) = n at hcs
     go_wp2
     go_roundg (4 - (j + 1))
     case measure => omega
     case rel => exact ⟨j + 1, by omega, by omega, by go_num, by rw [hcs]; rfl, rfl⟩
    ·have hltj : decide ((j : Int) < 4) = false := zI (by omega)
     have hj4 : j = 4 := by omega
     subst hj4
     have hset := crcCs_set k hlt
     have hT : crcI 4 (k : Int) = crcT k := rfl
     rw [hT]
     generalize crcT k = n at hset
     have HSET := zA hset
     clear hset hT
     go_wp2
     go_roundg (16 - (k + 1))
     case measure => omega
     case rel => exact ⟨k + 1, by omega, by omega, by go_num, ⟨blk_far HA.out (by simp) _⟩, ⟨blk_put HC.out k _ HSET.out⟩, ⟨HB.out.setCell (by simp) _⟩⟩
  ·have hltz : decide ((k : Int) < 16) = false := zI (by omega)
   have hkk : k = 16 := by omega
   subst hkk
   have c0 : wr.cell? ⟨w.heap.size + 1, 0, none⟩ = some (.int .u32 (crcT 0)) := (zN HC.out 0).trans (crcCs_get 16 0 (by decide))
   have d0 : wr.cell? ⟨w.heap.size, 0, none⟩ = some (.int .u32 0) := (zN HA.out 0).trans (crcCs_get 0 0 (by decide))
   have f0 := zM HA.out 0
   have c1 : wr.cell? ⟨w.heap.size + 1, 1, none⟩ = some (.int .u32 (crcT 1)) := (zN HC.out 1).trans (crcCs_get 16 1 (by decide))
   have d1 : wr.cell? ⟨w.heap.size, 1, none⟩ = some (.int .u32 0) := (zN HA.out 1).trans (crcCs_get 0 1 (by decide))
   have f1 := zM HA.out 1
   have c2 : wr.cell? ⟨w.heap.size + 1, 2, none⟩ = some (.int .u32 (crcT 2)) := (zN HC.out 2).trans (crcCs_get 16 2 (by decide))
   have d2 : wr.cell? ⟨w.heap.size, 2, none⟩ = some (.int .u32 0) := (zN HA.out 2).trans (crcCs_get 0 2 (by decide))
   have f2 := zM HA.out 2
   have c3 : wr.cell? ⟨w.heap.size + 1, 3, none⟩ = some (.int .u32 (crcT 3)) := (zN HC.out 3).trans (crcCs_get 16 3 (by decide))
   have d3 : wr.cell? ⟨w.heap.size, 3, none⟩ = some (.int .u32 0) := (zN HA.out 3).trans (crcCs_get 0 3 (by decide))
   have f3 := zM HA.out 3
   have c4 : wr.cell? ⟨w.heap.size + 1, 4, none⟩ = some (.int .u32 (crcT 4)) := (zN HC.out 4).trans (crcCs_get 16 4 (by decide))
   have d4 : wr.cell? ⟨w.heap.size, 4, none⟩ = some (.int .u32 0) := (zN HA.out 4).trans (crcCs_get 0 4 (by decide))
   have f4 := zM HA.out 4
   have c5 : wr.cell? ⟨w.heap.size + 1, 5, none⟩ = some (.int .u32 (crcT 5)) := (zN HC.out 5).trans (crcCs_get 16 5 (by decide))
   have d5 : wr.cell? ⟨w.heap.size, 5, none⟩ = some (.int .u32 0) := (zN HA.out 5).trans (crcCs_get 0 5 (by decide))
   have f5 := zM HA.out 5
   have c6 : wr.cell? ⟨w.heap.size + 1, 6, none⟩ = some (.int .u32 (crcT 6)) := (zN HC.out 6).trans (crcCs_get 16 6 (by decide))
   have d6 : wr.cell? ⟨w.heap.size, 6, none⟩ = some (.int .u32 0) := (zN HA.out 6).trans (crcCs_get 0 6 (by decide))
   have f6 := zM HA.out 6
   have c7 : wr.cell? ⟨w.heap.size + 1, 7, none⟩ = some (.int .u32 (crcT 7)) := (zN HC.out 7).trans (crcCs_get 16 7 (by decide))
   have d7 : wr.cell? ⟨w.heap.size, 7, none⟩ = some (.int .u32 0) := (zN HA.out 7).trans (crcCs_get 0 7 (by decide))
   have f7 := zM HA.out 7
   have c8 : wr.cell? ⟨w.heap.size + 1, 8, none⟩ = some (.int .u32 (crcT 8)) := (zN HC.out 8).trans (crcCs_get 16 8 (by decide))
   have d8 : wr.cell? ⟨w.heap.size, 8, none⟩ = some (.int .u32 0) := (zN HA.out 8).trans (crcCs_get 0 8 (by decide))
   have f8 := zM HA.out 8
   have c9 : wr.cell? ⟨w.heap.size + 1, 9, none⟩ = some (.int .u32 (crcT 9)) := (zN HC.out 9).trans (crcCs_get 16 9 (by decide))
   have d9 : wr.cell? ⟨w.heap.size, 9, none⟩ = some (.int .u32 0) := (zN HA.out 9).trans (crcCs_get 0 9 (by decide))
   have f9 := zM HA.out 9
   have c10 : wr.cell? ⟨w.heap.size + 1, 10, none⟩ = some (.int .u32 (crcT 10)) := (zN HC.out 10).trans (crcCs_get 16 10 (by decide))
   have d10 : wr.cell? ⟨w.heap.size, 10, none⟩ = some (.int .u32 0) := (zN HA.out 10).trans (crcCs_get 0 10 (by decide))
   have f10 := zM HA.out 10
   have c11 : wr.cell? ⟨w.heap.size + 1, 11, none⟩ = some (.int .u32 (crcT 11)) := (zN HC.out 11).trans (crcCs_get 16 11 (by decide))
   have d11 : wr.cell? ⟨w.heap.size, 11, none⟩ = some (.int .u32 0) := (zN HA.out 11).trans (crcCs_get 0 11 (by decide))
   have f11 := zM HA.out 11
   have c12 : wr.cell? ⟨w.heap.size + 1, 12, none⟩ = some (.int .u32 (crcT 12)) := (zN HC.out 12).trans (crcCs_get 16 12 (by decide))
   have d12 : wr.cell? ⟨w.heap.size, 12, none⟩ = some (.int .u32 0) := (zN HA.out 12).trans (crcCs_get 0 12 (by decide))
   have f12 := zM HA.out 12
   have c13 : wr.cell? ⟨w.heap.size + 1, 13, none⟩ = some (.int .u32 (crcT 13)) := (zN HC.out 13).trans (crcCs_get 16 13 (by decide))
   have d13 : wr.cell? ⟨w.heap.size, 13, none⟩ = some (.int .u32 0) := (zN HA.out 13).trans (crcCs_get 0 13 (by decide))
   have f13 := zM HA.out 13
   have c14 : wr.cell? ⟨w.heap.size + 1, 14, none⟩ = some (.int .u32 (crcT 14)) := (zN HC.out 14).trans (crcCs_get 16 14 (by decide))
   have d14 : wr.cell? ⟨w.heap.size, 14, none⟩ = some (.int .u32 0) := (zN HA.out 14).trans (crcCs_get 0 14 (by decide))
   have f14 := zM HA.out 14
   have c15 : wr.cell? ⟨w.heap.size + 1, 15, none⟩ = some (.int .u32 (crcT 15)) := (zN HC.out 15).trans (crcCs_get 16 15 (by decide))
   have d15 : wr.cell? ⟨w.heap.size, 15, none⟩ = some (.int .u32 0) := (zN HA.out 15).trans (crcCs_get 0 15 (by decide))
   have f15 := zM HA.out 15
   go_wp2
   clear c0 d0 f0 c1 d1 f1 c2 d2 f2 c3 d3 f3 c4 d4 f4 c5 d5 f5 c6 d6 f6 c7 d7 f7 c8 d8 f8 c9 d9 f9 c10 d10 f10 c11 d11 f11 c12 d12 f12 c13 d13 f13 c14 d14 f14 c15 d15 f15
   have g0 := blk_set HA.out 0 (.int .u32 (crcT 0))
   have g1 := blk_set g0 1 (.int .u32 (crcT 1))
   have g2 := blk_set g1 2 (.int .u32 (crcT 2))
   have g3 := blk_set g2 3 (.int .u32 (crcT 3))
   have g4 := blk_set g3 4 (.int .u32 (crcT 4))
   have g5 := blk_set g4 5 (.int .u32 (crcT 5))
   have g6 := blk_set g5 6 (.int .u32 (crcT 6))
   have g7 := blk_set g6 7 (.int .u32 (crcT 7))
   have g8 := blk_set g7 8 (.int .u32 (crcT 8))
   have g9 := blk_set g8 9 (.int .u32 (crcT 9))
   have g10 := blk_set g9 10 (.int .u32 (crcT 10))
   have g11 := blk_set g10 11 (.int .u32 (crcT 11))
   have g12 := blk_set g11 12 (.int .u32 (crcT 12))
   have g13 := blk_set g12 13 (.int .u32 (crcT 13))
   have g14 := blk_set g13 14 (.int .u32 (crcT 14))
   have g15 := blk_set g14 15 (.int .u32 (crcT 15))
   rw [crcCs_set 0 (by decide), crcCs_set 1 (by decide), crcCs_set 2 (by decide), crcCs_set 3 (by decide), crcCs_set 4 (by decide), crcCs_set 5 (by decide), crcCs_set 6 (by decide), crcCs_set 7 (by decide), crcCs_set 8 (by decide), crcCs_set 9 (by decide), crcCs_set 10 (by decide), crcCs_set 11 (by decide), crcCs_set 12 (by decide), crcCs_set 13 (by decide), crcCs_set 14 (by decide), crcCs_set 15 (by decide)] at g15
   have hb : Below w.heap.size w _ := (((((((((((((((HB.out.setCell (p := ⟨w.heap.size, 0, none⟩) (Nat.le_refl _) (.int .u32 (crcT 0))).setCell (p := ⟨w.heap.size, 1, none⟩) (Nat.le_refl _) (.int .u32 (crcT 1))).setCell (p := ⟨w.heap.size, 2, none⟩) (Nat.le_refl _) (.int .u32 (crcT 2))).setCell (p := ⟨w.heap.size, 3, none⟩) (Nat.le_refl _) (.int .u32 (crcT 3))).setCell (p := ⟨w.heap.size, 4, none⟩) (Nat.le_refl _) (.int .u32 (crcT 4))).setCell (p := ⟨w.heap.size, 5, none⟩) (Nat.le_refl _) (.int .u32 (crcT 5))).setCell (p := ⟨w.heap.size, 6, none⟩) (Nat.le_refl _) (.int .u32 (crcT 6))).setCell (p := ⟨w.heap.size, 7, none⟩) (Nat.le_refl _) (.int .u32 (crcT 7))).setCell (p := ⟨w.heap.size, 8, none⟩) (Nat.le_refl _) (.int .u32 (crcT 8))).setCell (p := ⟨w.heap.size, 9, none⟩) (Nat.le_refl _) (.int .u32 (crcT 9))).setCell (p := ⟨w.heap.size, 10, none⟩) (Nat.le_refl _) (.int .u32 (crcT 10))).setCell (p := ⟨w.heap.size, 11, none⟩) (Nat.le_refl _) (.int .u32 (crcT 11))).setCell (p := ⟨w.heap.size, 12, none⟩) (Nat.le_refl _) (.int .u32 (crcT 12))).setCell (p := ⟨w.heap.size, 13, none⟩) (Nat.le_refl _) (.int .u32 (crcT 13))).setCell (p := ⟨w.heap.size, 14, none⟩) (Nat.le_refl _) (.int .u32 (crcT 14))).setCell (p := ⟨w.heap.size, 15, none⟩) (Nat.le_refl _) (.int .u32 (crcT 15))
   generalize World.setCell _ _ _ = W16 at g15 hb ⊢
   generalize (Value.agg #[Value.int IntKind.u32 (crcT 0), _, _, _, _, _, _, _, _, _, _, _, _, _, _, _]) = V16
   exact made_end w W16 _ g15 hb rfl
theorem crc_and15 (m : Int) : 0 ≤ bits .and .u32 m 15 ∧ bits .and .u32 m 15 < 16 := by
 have h : (BitVec.ofInt 32 m &&& BitVec.ofInt 32 15).toNat ≤ 15 := by
  rw [BitVec.toNat_and]
  exact Nat.and_le_right
 show 0 ≤ IntKind.u32.wrap ((BitVec.ofInt 32 m &&& BitVec.ofInt 32 15).toNat : Int) ∧ IntKind.u32.wrap ((BitVec.ofInt 32 m &&& BitVec.ofInt 32 15).toNat : Int) < 16
 rw [IntKind.wrap_u32']
 omega
def crcH (n : Int) : Int := bits .xor .u32 (n / 16) (crcT (bits .and .u32 n 15).toNat)
def crcN (n : Int) (c : UInt8) : Int := crcH (crcH (bits .xor .u32 n (c.toNat : Int)))
def sumF (l : List UInt8) : Int := l.foldl crcN 4294967295
def seal_Sum.f (a0 : ByteArray) : Option Int := if a0.size ≤ 9223372036854775807 then some (bits .xor .u32 IntKind.u32.max (sumF a0.data.toList)) else none
set_option maxHeartbeats 2000000 in
set_option maxRecDepth 100000 in
theorem seal_Sum.calls (a0 : ByteArray) (r : Int) (w : World) (h : seal_Sum.f a0 = some r) :
  Calls Tryz.prog 136 #[.string a0] w fun e w' => e = .returned (.int .u32 r) ∧ Below w.heap.size w w' := by
 unfold seal_Sum.f at h
 by_cases hs : a0.size ≤ 9223372036854775807
 ·rw [if_pos hs] at h
  obtain rfl := Option.some.inj h
  clear h
  have hcv : ∀ (s : ByteArray) (W : World), (convert 9 141 (.string s)).run Tryz.prog W = .ok (.slice (some ⟨W.heap.size, 0, none⟩) s.size (grownCap W s.size 0 5)) (Lib.bytesWorld W 5 s) := fun s W => Lib.run_convert_string_bytes W 9 141 5 s Tryz.underlying9 Tryz.underlying141 Tryz.underlying5
  have hsc : ∀ (W : World), (storeCells ⟨W.heap.size, 0, none⟩ (crcCs 16).toList 0).run Tryz.prog (W.alloc (.cells #[.int .u32 0, .int .u32 0, .int .u32 0, .int .u32 0, .int .u32 0, .int .u32 0, .int .u32 0, .int .u32 0, .int .u32 0, .int .u32 0, .int .u32 0, .int .u32 0, .int .u32 0, .int .u32 0, .int .u32 0, .int .u32 0] 227)) = .ok () (W.alloc (.cells (crcCs 16) 227)) := fun W => run_storeCells_new (P := Tryz.prog) W 227 _ (crcCs 16) (by rw [crcCs_size]; kernel_rfl) (by rw [crcCs_size]; rfl) (by unfold crcCs; simp [Value.oneCell'])
  have a118 := Tryz.isAgg227
  have z118 := Tryz.sizeOf227
  have hCs : (crcCs 16).size = 16 := crcCs_size 16
  have hCg : ∀ j : Nat, j < 16 → (crcCs 16)[j]? = some (.int .u32 (crcT j)) := fun j hj => by rw [crcCs_get 16 j hj, if_pos hj]
  have HCG := zA hCg
  clear hCg
  generalize hC : crcCs 16 = C at hsc hCs HCG
  have HC := zA hC
  clear hC
  go_enter Tryz.func136, Tryz.ntmps136
  go_wp2_with (go_at_call 174; refine (seal_made.calls _).mono ?_; rw [HC.out]; rintro e w1 ⟨rfl, hb1⟩)
  have hb2 : Below w.heap.size w (Lib.bytesWorld (w1.alloc (.cells C 227)) 5 a0) := bytes_below (hb1.alloc hb1.size _) (by have := hb1.size; simp; omega) 5 a0
  have hcell : ∀ j, j < a0.size → (Lib.bytesWorld (w1.alloc (.cells C 227)) 5 a0).cell? ⟨w1.heap.size + 1, j, none⟩ = some (.int .u8 (a0.data.toList.getD j 0).toNat) := fun j hj => by
   have := Lib.bytesWorld_cell (w1.alloc (.cells C 227)) 5 a0 j hj
   rwa [World.size_alloc] at this
  have htab : ∀ j : Nat, j < 16 → (Lib.bytesWorld (w1.alloc (.cells C 227)) 5 a0).cell? ⟨w1.heap.size, j, none⟩ = some (.int .u32 (crcT j)) := fun j hj => by
   rw [Lib.bytesWorld_old _ _ _ _ (by simp), cell_of_row _ _ _ _ _ _ (blk_new w1 (.cells C 227))]
   exact HCG.out j hj
  have hlen : a0.size = a0.data.toList.length := by rw [Array.length_toList]; rfl
  generalize Lib.bytesWorld (w1.alloc (.cells C 227)) 5 a0 = W1 at hb2 hcell htab ⊢
  have HCELL := zA hcell
  have HTAB := zA htab
  have HLEN := zA hlen
  clear hcell htab hlen hsc hcv hCs HCG HC hb1
  go_loopg [4, 11] a0.size (fun gg s4 s11 wr => ∃ k : Nat, k ≤ a0.size ∧ a0.size - k ≤ gg ∧ s4 = .int .u32 (sumF (a0.data.toList.take k)) ∧ s11 = .int .i64 k ∧ wr = W1)
  case atStart => exact ⟨0, Nat.zero_le _, by omega, rfl, rfl, rfl⟩
  case round =>
   obtain ⟨k, hk, hg, rfl, rfl, rfl⟩ := hrel
   by_cases hlt : k < a0.size
   ·have hltz : decide ((k : Int) < (a0.size : Int)) = true := zH (by omega)
    have hkz : (0 : Int) ≤ (k : Int) := by omega
    have hkl : (k : Int) < (a0.size : Int) := by omega
    have hc := HCELL.out k hlt
    have hlt' : k < a0.data.toList.length := by rw [← HLEN.out]; exact hlt
    rw [List.getD_eq_getElem?_getD, List.getElem?_eq_getElem hlt', Option.getD_some] at hc
    have hnext : sumF (a0.data.toList.take (k + 1)) = crcN (sumF (a0.data.toList.take k)) (a0.data.toList[k]) := by
     rw [List.take_succ_eq_append_getElem hlt']
     unfold sumF
     rw [List.foldl_append]
     rfl
    unfold crcN at hnext
    have hw32 : IntKind.u32.wrap (((a0.data.toList[k]).toNat : Nat) : Int) = (((a0.data.toList[k]).toNat : Nat) : Int) := by rw [IntKind.wrap_u32']; have := (a0.data.toList[k]).toNat_lt; omega
    generalize a0.data.toList[k] = cb at hc hnext hw32
    generalize sumF (a0.data.toList.take k) = n at hnext ⊢
    obtain ⟨m, hm⟩ : ∃ m, bits .xor .u32 n (cb.toNat : Int) = m := ⟨_, rfl⟩
    obtain ⟨x, hx⟩ : ∃ x, bits .and .u32 m 15 = x := ⟨_, rfl⟩
    have hx15 := crc_and15 m
    rw [hx] at hx15
    obtain ⟨hx0, hx16⟩ := hx15
    have hcx := HTAB.out x.toNat (by omega)
    obtain ⟨p, hp⟩ : ∃ p, bits .xor .u32 (m / 16) (crcT x.toNat) = p := ⟨_, rfl⟩
    obtain ⟨y, hy⟩ : ∃ y, bits .and .u32 p 15 = y := ⟨_, rfl⟩
    have hy15 := crc_and15 p
    rw [hy] at hy15
    obtain ⟨hy0, hy16⟩ := hy15
    have hcy := HTAB.out y.toNat (by omega)
    have hfin : sumF (a0.data.toList.take (k + 1)) = bits .xor .u32 (p / 16) (crcT y.toNat) := by
     rw [hnext, hm]
     unfold crcH
     rw [hx, hp, hy]
    have HFIN := zA hfin
    clear hfin hnext
    go_wp2
    go_roundg (a0.size - (k + 1))
    case measure => omega
    case rel => exact ⟨k + 1, by omega, by omega, by rw [HFIN.out], by go_num, rfl⟩
   ·have hltz : decide ((k : Int) < (a0.size : Int)) = false := zI (by omega)
    have hkk : a0.data.toList.take k = a0.data.toList := List.take_of_length_le (by rw [← HLEN.out]; omega)
    rw [hkk]
    go_wp2
    go_ret
    exact ⟨rfl, hb2⟩
 ·rw [if_neg hs] at h
  cases h
def seal_Put.f (a0 : ByteArray) : Option (ByteArray) := (seal_Sum.f a0).bind fun t135 => ((le_Put.f (IntKind.u64.wrap (t135)) 4).bind fun t136 => (if a0.size + t136.size ≤ 9223372036854775807 then (some (a0 ++ t136)) else (none)))
set_option maxHeartbeats 8000000 in
set_option maxRecDepth 100000 in
theorem seal_Put.calls (a0 : ByteArray) (r : ByteArray) (w : World) (h : seal_Put.f a0 = some r) :
  Calls Tryz.prog 83 #[.string a0] w fun e w' => e = .returned (.string r) ∧ Below w.heap.size w w' := by
 have HB := zA (Below.refl w.heap.size w)
 have H : ((seal_Sum.f a0).bind fun t135 => ((le_Put.f (IntKind.u64.wrap (t135)) 4).bind fun t136 => (if a0.size + t136.size ≤ 9223372036854775807 then (some (a0 ++ t136)) else (none)))) = some r := h
 clear h
 replace H := Option.bind_eq_some_iff.mp H
 obtain ⟨t135, A20, H⟩ := H
 replace H : ((le_Put.f (IntKind.u64.wrap (t135)) 4).bind fun t136 => (if a0.size + t136.size ≤ 9223372036854775807 then (some (a0 ++ t136)) else (none))) = some r := H
 have A2 := zA A20
 clear A20
 replace H := Option.bind_eq_some_iff.mp H
 obtain ⟨t136, A30, H⟩ := H
 replace H : (if a0.size + t136.size ≤ 9223372036854775807 then (some (a0 ++ t136)) else (none)) = some r := H
 have A3 := zA A30
 clear A30
 by_cases c4 : a0.size + t136.size ≤ 9223372036854775807
 ·rw [if_pos c4] at H
  have c4b0 := eq_true c4
  have c4b1 : decide (a0.size + t136.size ≤ 9223372036854775807) = true := zH c4
  try have c4b2 : (9223372036854775807 < a0.size + t136.size) = False := eq_false (Nat.not_lt.2 c4)
  obtain rfl := Option.some.inj H
  go_enter Tryz.func83, Tryz.ntmps83
  go_wp2_with (first | ((with_reducible refine gate_callee (f := 136) rfl ?_); refine goesL_ (some 5) rfl rfl Tryz.func136 (by kernel_rfl) rfl #[.string a0] rfl argA ?_; (with_reducible refine (seal_Sum.calls a0 t135 _ A2.out).mono ?_); rintro e w5 ⟨rfl, hb⟩; refine ⟨_, rfl, ?_⟩; have n0_ := zA (zL belA hb); clear HB; have HB := n0_; clear n0_; (try clear hb); (try clear hb2); (try clear hk); (try clear hi)) | ((with_reducible refine gate_callee (f := 82) rfl ?_); refine goesL_ (some 7) rfl rfl Tryz.func82 (by kernel_rfl) rfl #[.int .u64 (IntKind.u64.wrap (t135)), .int .i64 4] rfl argA ?_; (with_reducible refine (le_Put.calls (IntKind.u64.wrap (t135)) 4 t136 _ A3.out).mono ?_); rintro e w6 ⟨rfl, hb⟩; refine ⟨_, rfl, ?_⟩; have n0_ := zA (zL belA hb); clear HB; have HB := n0_; clear n0_; (try clear hb); (try clear hb2); (try clear hk); (try clear hi)))
  go_ret
  exact ⟨rfA, rW0⟩
 ·rw [if_neg c4] at H
  exact absurd H (by simp)
open Go.Shelf in
def layWS_ren : Go.Shelf.Ren := ⟨fun | 166 => 81 | 240 => 135 | 276 => 173 | n => n, fun | 70 => 140 | 9 => 9 | 0 => 0 | 72 => 143 | 37 => 141 | 3 => 3 | 4 => 4 | 5 => 5 | 20 => 20 | 75 => 145 | 80 => 151 | 164 => 225 | n => n, fun n => n⟩
theorem layWS : Go.Proofs.Lays.n166 Tryz.prog layWS_ren := {
 mixed := by kernel_rfl
 f166 := Tryz.func81.trans (congrArg some (by kernel_rfl))
 f240 := Tryz.func135.trans (congrArg some (by kernel_rfl))
 f276 := Tryz.func173.trans (congrArg some (by kernel_rfl))
 t0 := Tryz.underlying0
 a0 := Tryz.isAgg0
 z0 := Tryz.sizeOf0
 v0 := Tryz.zeroValue0
 t3 := Tryz.underlying3
 a3 := Tryz.isAgg3
 z3 := Tryz.sizeOf3
 v3 := Tryz.zeroValue3
 t4 := Tryz.underlying4
 a4 := Tryz.isAgg4
 z4 := Tryz.sizeOf4
 v4 := Tryz.zeroValue4
 t9 := Tryz.underlying9
 a9 := Tryz.isAgg9
 z9 := Tryz.sizeOf9
 v9 := Tryz.zeroValue9
 t20 := Tryz.underlying20
 a20 := Tryz.isAgg20
 z20 := Tryz.sizeOf20
 v20 := Tryz.zeroValue20
 t37 := Tryz.underlying141
 a37 := Tryz.isAgg141
 z37 := Tryz.sizeOf141
 v37 := Tryz.zeroValue141
 t70 := Tryz.underlying140
 a70 := Tryz.isAgg140
 z70 := Tryz.sizeOf140
 v70 := Tryz.zeroValue140
 t72 := Tryz.underlying143
 a72 := Tryz.isAgg143
 z72 := Tryz.sizeOf143
 v72 := Tryz.zeroValue143
 t75 := Tryz.underlying145
 a75 := Tryz.isAgg145
 z75 := Tryz.sizeOf145
 v75 := Tryz.zeroValue145
 t164 := Tryz.underlying225
 a164 := Tryz.isAgg225
 z164 := Tryz.sizeOf225
 v164 := Tryz.zeroValue225 }
theorem extraWS : Go.Proofs.Builder.Extra Tryz.prog layWS_ren where
 sizeBuilder := by kernel_rfl
 liesBuilder := by kernel_rfl
 t5 := Tryz.underlying5
 a5 := Tryz.isAgg5
 z5 := Tryz.sizeOf5
 v5 := Tryz.zeroValue5
 infoByte := by kernel_rfl
 cellsByte := by kernel_rfl
 sizeByte := by kernel_rfl
 neB5 := by decide
theorem extraStr : Go.Proofs.Builder.Extra Tryz.prog Tryz.layStr_ren where
 sizeBuilder := by kernel_rfl
 liesBuilder := by kernel_rfl
 t5 := Tryz.underlying5
 a5 := Tryz.isAgg5
 z5 := Tryz.sizeOf5
 v5 := Tryz.zeroValue5
 infoByte := by kernel_rfl
 cellsByte := by kernel_rfl
 sizeByte := by kernel_rfl
 neB5 := by decide
theorem bf_below {T e : TypeId} {B b : Nat} {bs : List Value} {W W' : World} (h : Lib.IsBuilderF T e B b bs W) (hb : Below W.heap.size W W') : Lib.IsBuilderF T e B b bs W' := by
 have one : ∀ p, Lib.BuilderAtF T e B b p bs W → Lib.BuilderAtF T e B b p bs W' := fun p h => by
  have hlt := h.lt
  obtain ⟨hB, v, hv, hown, hne⟩ := h
  exact ⟨hB, v, (hb.block b hlt).trans hv, hown.kept (grown_of_below hb none) (Classical.em _), hne⟩
 exact h.elim (fun x => .inl (one _ x)) (fun x => .inr (one _ x))
theorem others_below {e : TypeId} {b : Option Nat} {W W' : World} (hb : Below W.heap.size W W') : Lib.OthersKept e b W W' := fun k o ho _ _ => (hb.block k (blk_lt ho)).trans ho
def numL (n : Int) (m : Nat) : List UInt8 := Go.Lib.leBytes m (IntKind.u64.wrap n).toNat
theorem numL_length (n : Int) (m : Nat) : (numL n m).length = m := Go.Lib.leBytes_length _ _
theorem numL_put (n : Int) (m : Nat) (hm : m ≤ 8) : le_Put.f (IntKind.u64.wrap n) (m : Int) = some ⟨(numL n m).toArray⟩ := by
 unfold le_Put.f numL
 rw [if_pos (by rw [IntKind.wrap_u64]; omega), show (max (0 : Int) (min (m : Int) 8)).toNat = m by omega]
theorem strCells_ofList (l : List UInt8) : Lib.strCells ⟨l.toArray⟩ = Lib.byteCells l := by
 simp [Lib.strCells, Lib.byteCells]
set_option maxHeartbeats 1000000 in
set_option maxRecDepth 100000 in
theorem dir_Put_1.calls (n : Int) (mz : Int) (m : Nat) (hmz : mz = (m : Int)) (hm : m ≤ 8) (B b : Nat) (acc : List UInt8) (W : World) (h : Lib.IsBuilderF 143 5 B b (Lib.byteCells acc) W) (hlen : acc.length + m ≤ 140737488355328) (hBw : B ≤ W.heap.size) :
  Calls Tryz.prog 80 #[.int .i64 n, .int .i64 mz, .pointer (some ⟨b, 0, none⟩)] W fun e w' => e = .returned (.tuple #[]) ∧ Lib.IsBuilderF 143 5 B b (Lib.byteCells (acc ++ numL n m)) w' ∧ Below B W w' ∧ Lib.OthersKept 5 (some b) W w' := by
 subst hmz
 have hp := numL_put n m hm
 have hws : ∀ W1, Below W.heap.size W W1 → Calls Tryz.prog 81 #[.pointer (some ⟨b, 0, none⟩), .string ⟨(numL n m).toArray⟩] W1 _ := fun W1 hb =>
  Any.Builder_WriteString_k layWS extraWS B b (Lib.byteCells acc) ⟨(numL n m).toArray⟩ W1 (bf_below h hb) (by rw [Lib.byteCells_length]; show acc.length + (numL n m).toArray.size ≤ _; rw [List.size_toArray, numL_length]; exact hlen) (Nat.le_trans hBw hb.size)
 go_enter Tryz.func80, Tryz.ntmps80
 go_wp2_with (first | (go_at_call 82; refine (le_Put.calls _ _ _ _ hp).mono ?_; rintro e w1 ⟨rfl, hb1⟩) | (go_at_call 81; refine (hws _ hb1).mono ?_; rintro e w2 ⟨rfl, h2, b2, k2⟩))
 go_end0
 refine ⟨rfl, ?_, (hb1.mono hBw).trans b2, (others_below hb1).trans k2⟩
 rw [Lib.byteCells_append, ← strCells_ofList]
 exact .inr h2
theorem builder_WS.calls (B b : Nat) (acc : List UInt8) (s : ByteArray) (W : World) (h : Lib.IsBuilderF 143 5 B b (Lib.byteCells acc) W) (hlen : acc.length + s.size ≤ 140737488355328) (hBw : B ≤ W.heap.size) :
  Calls Tryz.prog 81 #[.pointer (some ⟨b, 0, none⟩), .string s] W fun e w' => e = .returned (.tuple #[.int .i64 s.size, .nilIface]) ∧ Lib.IsBuilderF 143 5 B b (Lib.byteCells (acc ++ s.data.toList)) w' ∧ Below B W w' ∧ Lib.OthersKept 5 (some b) W w' := by
 refine (Any.Builder_WriteString_k layWS extraWS B b (Lib.byteCells acc) s W h (by rw [Lib.byteCells_length]; exact hlen) hBw).mono ?_
 rintro e w' ⟨rfl, h2, b2, k2⟩
 refine ⟨rfl, ?_, b2, k2⟩
 rw [Lib.byteCells_append]
 exact .inr h2
theorem builder_S.calls (B b : Nat) (l : List UInt8) (W : World) (h : Lib.IsBuilderF 143 5 B b (Lib.byteCells l) W) (hBw : B ≤ W.heap.size) :
  Calls Tryz.prog 84 #[.pointer (some ⟨b, 0, none⟩)] W fun e w' => e = .returned (.string ⟨l.toArray⟩) ∧ Below B W w' := by
 refine (Any.Builder_String_any_k Tryz.layStr extraStr B b l W h hBw).mono ?_
 rintro e w' ⟨rfl, h2, b2, k2⟩
 exact ⟨rfl, b2⟩
theorem bf_lt {T e : TypeId} {B b : Nat} {bs : List Value} {W : World} (h : Lib.IsBuilderF T e B b bs W) : b < W.heap.size := h.elim (fun x => x.lt) (fun x => x.lt)
def spanL (s : S87) : List UInt8 := numL s.f0 2 ++ numL s.f1 2
def fileL (f : S85) : List UInt8 := numL (f.f0.size : Int) 1 ++ (f.f0.data.toList ++ (numL f.f1 4 ++ (numL (f.f2.length : Int) 1 ++ f.f2.flatMap spanL)))
def dirL (l : List S85) : List UInt8 := numL (l.length : Int) 1 ++ l.flatMap fileL
def dir_Put.f (k : Nat) (l0 : List S85) : Option (ByteArray × Int) := (dir_directory.f k l0).bind fun d => if d = true then (if (dirL l0).length ≤ 140737488355328 then (seal_Put.f ⟨(dirL l0).toArray⟩).bind fun t => some (t, 0) else none) else some ((⟨#[]⟩ : ByteArray), 1)
theorem lenA {M : Nat} (acc : List UInt8) {x : S85} (n : Int) (h : acc.length + (fileL x).length ≤ M) (hf : (fileL x).length = 1 + (x.f0.size + (4 + (1 + (x.f2.flatMap spanL).length)))) : (acc ++ numL n 1).length + x.f0.size ≤ M := by
 rw [zO, numL_length]
 omega
theorem lenB {M : Nat} (acc : List UInt8) {x : S85} (n : Int) (h : acc.length + (fileL x).length ≤ M) (hf : (fileL x).length = 1 + (x.f0.size + (4 + (1 + (x.f2.flatMap spanL).length)))) : (acc ++ numL n 1 ++ x.f0.data.toList).length + 4 ≤ M := by
 have : x.f0.data.size = x.f0.size := rfl
 simp only [zO, numL_length, Array.length_toList]
 omega
theorem lenC {M : Nat} (acc : List UInt8) {x : S85} (n : Int) {m : Int} (h : acc.length + (fileL x).length ≤ M) (hf : (fileL x).length = 1 + (x.f0.size + (4 + (1 + (x.f2.flatMap spanL).length)))) : (acc ++ numL n 1 ++ x.f0.data.toList ++ numL m 4).length + 1 ≤ M := by
 have : x.f0.data.size = x.f0.size := rfl
 simp only [zO, numL_length, Array.length_toList]
 omega
set_option maxHeartbeats 4000000 in
set_option maxRecDepth 100000 in
theorem dir_Put.calls (k : Nat) (A0 : Option Addr) (c0 : Nat) (l0 : List S85) (r1 : ByteArray) (r2 : Int) (w : World) (hr0 : Kd.C k85 w A0 l0.length l0) (hc0 : l0.length ≤ c0) (ht : TabsW w) (h : dir_Put.f k l0 = some (r1, r2)) :
  Calls Tryz.prog 36 #[.slice A0 l0.length c0] w fun e w' => e = .returned (.tuple #[.string r1, .int .i64 r2]) ∧ Below w.heap.size w w' := by
 unfold dir_Put.f at h
 obtain ⟨d, hd, h⟩ := Option.bind_eq_some_iff.1 h
 have hbig : l0.length ≤ 9223372036854775807 := hr0.2.1
 have HD := zA (dir_directory.calls k A0 c0 l0 d w hr0 hc0 ht hd)
 have HR0 := zA hr0
 clear hr0 hc0 ht hd
 cases d with
 | false =>
  rw [if_neg Bool.false_ne_true] at h
  obtain ⟨rfl, rfl⟩ := Prod.mk.inj (Option.some.inj h)
  clear h
  go_enter Tryz.func36, Tryz.ntmps36
  go_wp2_with (go_at_call 79; refine HD.out.mono ?_; rintro e w1 ⟨rfl, hb1⟩)
  go_ret2
  exact ⟨rfl, hb1⟩
 | true =>
  rw [if_pos rfl] at h
  by_cases hl : (dirL l0).length ≤ 140737488355328
  ·rw [if_pos hl] at h
   obtain ⟨t, hseal, h⟩ := Option.bind_eq_some_iff.1 h
   obtain ⟨rfl, rfl⟩ := Prod.mk.inj (Option.some.inj h)
   have HL := zA hl
   clear h hl
   go_enter Tryz.func36, Tryz.ntmps36
   go_wp2_with (first | (go_at_call 79; refine HD.out.mono ?_; rintro e w1 ⟨rfl, hb1⟩; have HB1 := zA hb1; clear hb1) | (go_at_call 80; (refine (dir_Put_1.calls (l0.length : Int) 1 1 rfl (by decide) w1.heap.size w1.heap.size [] _ (Lib.IsBuilderF.of (Lib.fresh_isBuilder 143 5 w1)) (by simp) (by simp)).mono ?_; rintro e w2 ⟨rfl, h2, b2, k2⟩)))
   have HBF0 := zA h2
   have HBW0 := zA (Below.trans ((Below.refl w1.heap.size w1).alloc (Nat.le_refl _) _) b2)
   clear h2 b2 k2
   go_loopg [20] l0.length (fun gg s20 wr => ∃ i : Nat, i ≤ l0.length ∧ l0.length - i ≤ gg ∧ s20 = .int .i64 i ∧ Aside0 (Lib.IsBuilderF 143 5 w1.heap.size w1.heap.size (Lib.byteCells (numL (l0.length : Int) 1 ++ (l0.take i).flatMap fileL)) wr) ∧ Aside0 (Below w1.heap.size w1 wr))
   case atStart => exact ⟨0, Nat.zero_le _, by omega, rfl, ⟨by simpa using HBF0.out⟩, HBW0⟩
   case round =>
    clear HBF0 HBW0
    obtain ⟨i, hi, hg, rfl, HBF, HBW⟩ := hrel
    by_cases hlt : i < l0.length
    ·have hltz : (i : Int) < (l0.length : Int) := by omega
     obtain ⟨ad, A2, c2, e0, hx0, hx1, hx2, hl2, hi2⟩ := at_T85 HR0.out (i : Int) (by omega) hltz
     cases e0
     have hbw := (HB1.out.trans (Below.mono HBW.out (below_size HB1.out)))
     have hrd : rd_T85 l0 (i : Int) = l0[i] := by simp [rd_T85, List.getD_eq_getElem?_getD, hlt]
     rw [hrd] at hx0 hx1 hx2 hl2 hi2
     simp only [Int.toNat_natCast] at hx0 hx1 hx2
     replace hx0 := (hbw.cell (zB w _ hx0)).trans hx0
     replace hx1 := (hbw.cell (zB w _ hx1)).trans hx1
     replace hx2 := (hbw.cell (zB w _ hx2)).trans hx2
     have HC2 := zA hi2
     have HB := zA hbw
     clear hi2 hbw hrd
     have hacc : (l0.take (i + 1)).flatMap fileL = (l0.take i).flatMap fileL ++ fileL l0[i] := by
      rw [List.take_succ_eq_append_getElem hlt, List.flatMap_append]
      show _ ++ (fileL l0[i] ++ []) = _
      rw [List.append_nil]
     have HACC := zA hacc
     clear hacc
     have hle : (numL (l0.length : Int) 1 ++ (l0.take i).flatMap fileL).length + (fileL l0[i]).length ≤ 140737488355328 := by
      have h1 := HL.out
      unfold dirL at h1
      have h2 : l0.flatMap fileL = (l0.take (i + 1)).flatMap fileL ++ (l0.drop (i + 1)).flatMap fileL := by rw [← List.flatMap_append, List.take_append_drop]
      rw [h2, HACC.out] at h1
      simp only [zO] at h1 ⊢
      omega
     have HLE := zA hle
     clear hle
     obtain ⟨acc, hac⟩ : ∃ a, a = numL (l0.length : Int) 1 ++ (l0.take i).flatMap fileL := ⟨_, rfl⟩
     rw [← hac] at HBF HLE
     have HAC := zA hac
     clear hac
     generalize l0[i] = x at hx0 hx1 hx2 hl2 HC2 HACC HLE
     have hblt := bf_lt HBF.out
     have hfl : (fileL x).length = 1 + (x.f0.size + (4 + (1 + (x.f2.flatMap spanL).length))) := by
      unfold fileL
      simp only [zO, numL_length, Array.length_toList]
      rfl
     have HFL := zA hfl
     clear hfl
     go_wp2_with (first | (go_at_call 80; ((with_reducible refine (dir_Put_1.calls (x.f0.size : Int) 1 1 rfl (by decide) w1.heap.size w1.heap.size acc _ (bf_below HBF.out ((Below.refl _ wr).alloc (Nat.le_refl _) _)) (by have := HLE.out; have := HFL.out; omega) (by simp; omega)).mono ?_); rintro e w3 ⟨rfl, h3, b3, k3⟩; have hF3 := k3 wr.heap.size _ (blk_new wr _) (fun e_ => absurd (Option.some.inj e_) (by omega)) (fun c fz e_ => by injection e_ with _ e2_ _; exact absurd e2_ (by decide)); have hc30 := zN hF3 0; have hc31 := zN hF3 1; have hc32 := zN hF3 2)) | (go_at_call 81; ((with_reducible refine (builder_WS.calls w1.heap.size w1.heap.size _ x.f0 w3 h3 (lenA acc _ HLE.out HFL.out) (Nat.le_of_lt (bf_lt h3))).mono ?_); rintro e w4 ⟨rfl, h4, b4, k4⟩; have hF4 := k4 wr.heap.size _ hF3 (fun e_ => absurd (Option.some.inj e_) (by omega)) (fun c fz e_ => by injection e_ with _ e2_ _; exact absurd e2_ (by decide)); have hc40 := zN hF4 0; have hc41 := zN hF4 1; have hc42 := zN hF4 2)) | (go_at_call 80; ((with_reducible refine (dir_Put_1.calls x.f1 4 4 rfl (by decide) w1.heap.size w1.heap.size _ w4 h4 (lenB acc _ HLE.out HFL.out) (Nat.le_of_lt (bf_lt h4))).mono ?_); rintro e w5 ⟨rfl, h5, b5, k5⟩; have hF5 := k5 wr.heap.size _ hF4 (fun e_ => absurd (Option.some.inj e_) (by omega)) (fun c fz e_ => by injection e_ with _ e2_ _; exact absurd e2_ (by decide)); have hc50 := zN hF5 0; have hc51 := zN hF5 1; have hc52 := zN hF5 2)) | (go_at_call 80; ((with_reducible refine (dir_Put_1.calls (x.f2.length : Int) 1 1 rfl (by decide) w1.heap.size w1.heap.size _ w5 h5 (lenC acc _ HLE.out HFL.out) (Nat.le_of_lt (bf_lt h5))).mono ?_); rintro e w6 ⟨rfl, h6, b6, k6⟩; have hF6 := k6 wr.heap.size _ hF5 (fun e_ => absurd (Option.some.inj e_) (by omega)) (fun c fz e_ => by injection e_ with _ e2_ _; exact absurd e2_ (by decide)); have hc60 := zN hF6 0; have hc61 := zN hF6 1; have hc62 := zN hF6 2)))
     have hB6 : Below w1.heap.size w1 w6 := (((((HBW.out).alloc (Nat.le_of_lt hblt) _).trans b3).trans b4).trans b5).trans b6
     have HB6 := zA hB6
     have HBF6 := zA h6
     clear h3 b3 k3 h4 b4 k4 h5 b5 k5 h6 b6 k6 hF3 hF4 hF5 hF6 hc30 hc31 hc32 hc40 hc41 hc42 hc50 hc51 hc52 hc60 hc61 hc62 hB6
     have hacc6 : acc ++ numL (x.f0.size : Int) 1 ++ x.f0.data.toList ++ numL x.f1 4 ++ numL (x.f2.length : Int) 1 ++ x.f2.flatMap spanL = acc ++ fileL x := by
      unfold fileL
      simp only [List.append_assoc]
     generalize acc ++ numL (x.f0.size : Int) 1 ++ x.f0.data.toList ++ numL x.f1 4 ++ numL (x.f2.length : Int) 1 = acc6 at HBF6 hacc6
     have hlen6 : acc6.length + (x.f2.flatMap spanL).length ≤ 140737488355328 := by
      have h1 := HLE.out
      rw [← zO, ← hacc6, zO] at h1
      exact h1
     have HACC6 := zA hacc6
     have HLEN6 := zA hlen6
     clear hacc6 hlen6
     have hbig2 : x.f2.length ≤ 9223372036854775807 := HC2.out.2.1
     go_loopg [44] x.f2.length (fun gg s44 wi => ∃ j : Nat, j ≤ x.f2.length ∧ x.f2.length - j ≤ gg ∧ s44 = .int .i64 j ∧ Aside0 (Lib.IsBuilderF 143 5 w1.heap.size w1.heap.size (Lib.byteCells (acc6 ++ (x.f2.take j).flatMap spanL)) wi) ∧ Aside0 (Below w1.heap.size w1 wi))
     case atStart => exact ⟨0, Nat.zero_le _, by omega, rfl, ⟨by simpa using HBF6.out⟩, HB6⟩
     case round =>
      clear HBF6 HB6
      obtain ⟨j, hj, hgj, rfl, HBI, HBJ⟩ := hrel
      by_cases hltj : j < x.f2.length
      ·have hltjz : (j : Int) < (x.f2.length : Int) := by omega
       obtain ⟨ad2, e2, hy0, hy1⟩ := at_T87 HC2.out (j : Int) (by omega) hltjz
       cases e2
       have hrd : rd_T87 x.f2 (j : Int) = x.f2[j] := by simp [rd_T87, List.getD_eq_getElem?_getD, hltj]
       rw [hrd] at hy0 hy1
       simp only [Int.toNat_natCast] at hy0 hy1
       have hbwj := (HB1.out.trans (Below.mono HBJ.out (below_size HB1.out)))
       replace hy0 := (hbwj.cell (zB w _ hy0)).trans hy0
       replace hy1 := (hbwj.cell (zB w _ hy1)).trans hy1
       clear hrd hbwj
       have haccj : (x.f2.take (j + 1)).flatMap spanL = (x.f2.take j).flatMap spanL ++ spanL x.f2[j] := by
        rw [List.take_succ_eq_append_getElem hltj, List.flatMap_append]
        show _ ++ (spanL x.f2[j] ++ []) = _
        rw [List.append_nil]
       have hlej : (acc6 ++ (x.f2.take j).flatMap spanL).length + 4 ≤ 140737488355328 := by
        have h1 := HLEN6.out
        have h2 : x.f2.flatMap spanL = (x.f2.take (j + 1)).flatMap spanL ++ (x.f2.drop (j + 1)).flatMap spanL := by rw [← List.flatMap_append, List.take_append_drop]
        rw [h2, haccj] at h1
        have h3 : (spanL x.f2[j]).length = 4 := by unfold spanL; rw [zO, numL_length, numL_length]
        simp only [zO] at h1 ⊢
        omega
       have HACCJ := zA haccj
       have HLEJ := zA hlej
       clear haccj hlej
       obtain ⟨accj, haj⟩ : ∃ a, a = acc6 ++ (x.f2.take j).flatMap spanL := ⟨_, rfl⟩
       rw [← haj] at HBI HLEJ
       have HAJ := zA haj
       clear haj
       generalize x.f2[j] = y at hy0 hy1 HACCJ
       have hbltj := bf_lt HBI.out
       go_wp2_with (first | (go_at_call 80; ((with_reducible refine (dir_Put_1.calls y.f0 2 2 rfl (by decide) w1.heap.size w1.heap.size accj _ (bf_below HBI.out ((Below.refl _ wr).alloc (Nat.le_refl _) _)) (by have := HLEJ.out; omega) (by simp; omega)).mono ?_); rintro e v3 ⟨rfl, i3, d3, q3⟩; have hG3 := q3 wr.heap.size _ (blk_new wr _) (fun e_ => absurd (Option.some.inj e_) (by omega)) (fun c fz e_ => by injection e_ with _ e2_ _; exact absurd e2_ (by decide)); have hg30 := zN hG3 0; have hg31 := zN hG3 1)) | (go_at_call 80; ((with_reducible refine (dir_Put_1.calls y.f1 2 2 rfl (by decide) w1.heap.size w1.heap.size _ v3 i3 (by have := HLEJ.out; rw [zO, numL_length]; omega) (Nat.le_of_lt (bf_lt i3))).mono ?_); rintro e v4 ⟨rfl, i4, d4, q4⟩)))
       go_roundg (x.f2.length - (j + 1))
       case measure => omega
       case rel => exact ⟨j + 1, by omega, by omega, by go_num, ⟨by rw [HACCJ.out, ← List.append_assoc, ← HAJ.out]; unfold spanL; rw [← List.append_assoc]; exact i4⟩, ⟨((HBJ.out.alloc (Nat.le_of_lt hbltj) _).trans d3).trans d4⟩⟩
      ·have hltjz : ¬ (j : Int) < (x.f2.length : Int) := by omega
       have hjj : x.f2.take j = x.f2 := List.take_of_length_le (by omega)
       rw [hjj] at HBI
       clear hjj
       go_wp2
       go_roundg (l0.length - (i + 1))
       case measure => omega
       case rel => exact ⟨i + 1, by omega, by omega, by go_num, ⟨by rw [HACC.out, ← List.append_assoc, ← HAC.out, ← HACC6.out]; exact HBI.out⟩, HBJ⟩
    ·have hltz : ¬ (i : Int) < (l0.length : Int) := by omega
     have hii : l0.take i = l0 := List.take_of_length_le (by omega)
     rw [hii] at HBF
     clear hii
     unfold dirL at hseal
     go_wp2_with (first | (go_at_call 84; ((with_reducible refine (builder_S.calls w1.heap.size w1.heap.size _ wr HBF.out (below_size HBW.out)).mono ?_); rintro e w3 ⟨rfl, b3⟩)) | (go_at_call 83; ((with_reducible refine (seal_Put.calls _ _ _ hseal).mono ?_); rintro e w4 ⟨rfl, hb4⟩)))
     go_ret2
     exact ⟨rfl, HB1.out.trans (Below.mono ((HBW.out.trans b3).trans (Below.mono hb4 (below_size (HBW.out.trans b3)))) (below_size HB1.out))⟩
  ·rw [if_neg hl] at h
   cases h
end Go.Proofs.YtcclaidbikjhiaaGreatDoor.PVo
