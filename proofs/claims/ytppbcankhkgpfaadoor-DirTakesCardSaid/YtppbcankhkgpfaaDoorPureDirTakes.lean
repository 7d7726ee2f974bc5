import Derived.Test.YtppbcankhkgpfaaDoorPDirx33
import Derived.Test.YtppbcankhkgpfaaDoorPureRd
--compressed
namespace Go.Proofs.YtppbcankhkgpfaaDoor.Pure
open Go.RowKit Go.Proofs.YtppbcankhkgpfaaDoor.PDir Go.Proofs.YtppbcankhkgpfaaDoor.Th Go.Proofs.YtppbcankhkgpfaaDoorW.PrintWords Go.Proofs.YtppbcankhkgpfaaDoorW.PrintLast Go.Proofs.YtppbcankhkgpfaaDoorW.PrintMore
theorem takes_one (s : List UInt8) (h : s.length ≤ 100000) : Evt (fun k => rootcellarlaw7_DirTakes.j1 k (B s)) true := by
 refine Evt.step (fun k => by rw [rootcellarlaw7_DirTakes.j1]) ?_
 refine Evt.bind (take_ev' s h) ?_
 refine Evt.bind (reftake7_ev s h) ?_
 refine Evt.bind (same_ev _ (take_bd s h)) ?_
 refine Evt.pos rfl ?_
 exact Evt.val' (by simp)
theorem DirTakes (a0 : ByteArray) (a1 : Bool) (_ : a0.size ≤ 140737488351232) : ∃ k, rootcellarlaw7_DirTakes.f k a0 a1 = some true := by
 refine Evt.get (g := fun k => rootcellarlaw7_DirTakes.f k a0 a1) ?_
 unfold rootcellarlaw7_DirTakes.f
 refine Evt.bind shown_ev ?_
 refine Evt.pos rfl ?_
 refine Evt.step (fun k => by rw [rootcellarlaw7_DirTakes.j0]) ?_
 by_cases h : (a0.size : Int) > 2000
 ·exact Evt.pos (decide_eq_true h) (Evt.val _)
 ·refine Evt.neg (by rw [decide_eq_false h]; exact Bool.false_ne_true) ?_
  have hl : a0.data.toList.length ≤ 2000 := by rw [← Lib.size_eq]; omega
  rw [← B_of a0]
  cases a1 with
  | true =>
   refine Evt.pos rfl ?_
   refine Evt.bind (refseal_ev _ (by omega)) ?_
   exact takes_one _ (by rw [sealV_len]; omega)
  | false => exact Evt.neg Bool.false_ne_true (takes_one _ (by omega))
end Go.Proofs.YtppbcankhkgpfaaDoor.Pure
