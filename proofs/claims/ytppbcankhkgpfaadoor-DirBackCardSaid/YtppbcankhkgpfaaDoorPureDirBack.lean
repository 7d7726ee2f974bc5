import Derived.Test.YtppbcankhkgpfaaDoorPDirx34
import Derived.Test.YtppbcankhkgpfaaDoorPureRd
--compressed
namespace Go.Proofs.YtppbcankhkgpfaaDoor.Pure
open Go.RowKit Go.Proofs.YtppbcankhkgpfaaDoor.PDir Go.Proofs.YtppbcankhkgpfaaDoor.Th Go.Proofs.YtppbcankhkgpfaaDoorW.PrintWords Go.Proofs.YtppbcankhkgpfaaDoorW.PrintLast Go.Proofs.YtppbcankhkgpfaaDoorW.PrintMore
theorem back_one (s : List UInt8) (h : s.length ≤ 100000) : Evt (fun k => rootcellarlaw7_DirBack.j1 k (B s)) true := by
 refine Evt.step (fun k => by rw [rootcellarlaw7_DirBack.j1]) ?_
 refine Evt.bind (take_ev' s h) ?_
 by_cases c : (takeV s).2 = 0
 ·refine Evt.pos c ?_
  have hp := put_ev _ (take_bd s h)
  rw [put_take c] at hp
  refine Evt.bind hp ?_
  exact Evt.pos rfl (Evt.val' (by simp))
 ·refine Evt.neg c (Evt.val' ?_)
  rw [take_err c]
  rfl
theorem DirBack (l0 : List Fi) (a1 : ByteArray) (_ : a1.size ≤ 140737488351232) : ∃ k, rootcellarlaw7_DirBack.f k l0 a1 = some true := by
 refine Evt.get (g := fun k => rootcellarlaw7_DirBack.f k l0 a1) ?_
 unfold rootcellarlaw7_DirBack.f
 refine Evt.bind shown_ev ?_
 refine Evt.bind (small_ev l0) ?_
 refine Evt.pos rfl ?_
 have jt : Evt (fun k => rootcellarlaw7_DirBack.j0 k l0 a1 true true) true := by
  refine Evt.step (fun k => by rw [rootcellarlaw7_DirBack.j0]) ?_
  exact Evt.pos rfl (Evt.val _)
 by_cases hs : smallB l0 = true
 ·refine Evt.pos hs ?_
  by_cases h : (a1.size : Int) > 2000
  ·rw [decide_eq_true h]; exact jt
  ·rw [decide_eq_false h]
   obtain ⟨hb, hl⟩ := small_bd hs
   have ha : a1.data.toList.length ≤ 2000 := by rw [← Lib.size_eq]; omega
   have hback := back_one a1.data.toList (by omega)
   rw [B_of] at hback
   refine Evt.step (fun k => by rw [rootcellarlaw7_DirBack.j0]) ?_
   refine Evt.neg Bool.false_ne_true ?_
   refine Evt.bind (put_ev l0 hb) ?_
   by_cases hd : dirB l0 = true
   ·have hp : putV l0 = (sealV (dirL l0), 0) := by unfold putV; rw [if_pos hd]
    rw [hp]
    refine Evt.pos rfl ?_
    have ht := take_ev' (sealV (dirL l0)) (by rw [sealV_len]; have := small_len hs; omega)
    rw [take_put hd] at ht
    refine Evt.bind ht ?_
    refine Evt.pos rfl ?_
    refine Evt.bind (as_ev l0 hb.1) ?_
    refine Evt.bind (same_ev l0 hb) ?_
    exact Evt.pos rfl hback
   ·have hp : putV l0 = ([], 1) := by unfold putV; rw [if_neg hd]
    rw [hp]
    exact Evt.neg (by decide) hback
 ·exact Evt.neg hs jt
end Go.Proofs.YtppbcankhkgpfaaDoor.Pure
