-- this session's own words beside the kit's
import Derived.Test.YtcclaidbikjhiaaGreatDoorWWords
import Derived.WalkKit
--compressed
namespace Go.Proofs
open Go.RowKit
set_option linter.unusedSimpArgs false
namespace YtcclaidbikjhiaaGreatDoorW.PrintWords
theorem hw_less_asymm : ∀ (a b : List UInt8), (Op.bytesLess a b || a == b) = !(Op.bytesLess b a)
 | [], [] => rfl
 | [], _ :: _ => rfl
 | _ :: _, [] => rfl
 | x :: a, y :: b => by
  have ih := hw_less_asymm a b
  have e1 : Op.bytesLess (x :: a) (y :: b) = (decide (x < y) || (x == y && Op.bytesLess a b)) := rfl
  have e2 : Op.bytesLess (y :: b) (x :: a) = (decide (y < x) || (y == x && Op.bytesLess b a)) := rfl
  rw [e1, e2]
  have t : x < y ∨ x = y ∨ y < x := by
   rcases Nat.lt_trichotomy x.toNat y.toNat with h | h | h
   ·exact .inl h
   ·exact .inr (.inl (UInt8.toNat_inj.1 h))
   ·exact .inr (.inr h)
  rcases t with h | h | h
  ·have h1 : ¬ y < x := fun k => absurd (UInt8.lt_trans h k) (UInt8.lt_irrefl _)
   have h2 : ¬ y = x := fun k => by subst k; exact UInt8.lt_irrefl _ h
   have h3 : ¬ x = y := fun k => h2 k.symm
   simp [h, h1, h2, h3]
  ·subst h
   have h1 : ¬ x < x := UInt8.lt_irrefl _
   simp [h1, ← ih]
  ·have h1 : ¬ x < y := fun k => absurd (UInt8.lt_trans h k) (UInt8.lt_irrefl _)
   have h2 : ¬ x = y := fun k => by subst k; exact UInt8.lt_irrefl _ h
   simp [h, h1, h2]
theorem hw_str_leq (P : Program) (t : TypeId) (a b : ByteArray) (W : World) : (binOp .leq t (.string a) (.string b)).run P W = .ok (.bool (!(Op.bytesLess b.toList a.toList))) W := by
 rw [← hw_less_asymm]
 simp [binOp, Op.stringOp, go_sem]
theorem hw_str_gtr (P : Program) (t : TypeId) (a b : ByteArray) (W : World) : (binOp .gtr t (.string a) (.string b)).run P W = .ok (.bool (Op.bytesLess b.toList a.toList)) W := by
 rw [show Op.bytesLess b.toList a.toList = !(Op.bytesLess a.toList b.toList || a.toList == b.toList) by rw [hw_less_asymm, Bool.not_not]]
 simp [binOp, Op.stringOp, go_sem]
end YtcclaidbikjhiaaGreatDoorW.PrintWords
end Go.Proofs
