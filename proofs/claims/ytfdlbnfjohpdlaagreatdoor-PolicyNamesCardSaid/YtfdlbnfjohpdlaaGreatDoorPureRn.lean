import Derived.RowKit
import Derived.Test.YtfdlbnfjohpdlaaGreatDoorPPox7
import Derived.Test.YtfdlbnfjohpdlaaGreatDoorPPox16
import Derived.Test.YtfdlbnfjohpdlaaGreatDoorPPox17
import Derived.Test.YtfdlbnfjohpdlaaGreatDoorPPox18
import Derived.Lib.DecodeN
import Derived.Lib.ValidU
import Derived.Test.YtfdlbnfjohpdlaaGreatDoorPPox0
import Derived.Outline
import Derived.Deep.RegionHeld3
import Derived.Sort.Grow
import Derived.Lib.SliceRun
import Derived.Test.YtfdlbnfjohpdlaaGreatDoorPPox19
import Derived.Test.YtfdlbnfjohpdlaaGreatDoorLayP
import Derived.Shelf.SlSortCmp.WholeK
import Derived.Shelf.SlSortCmp.NoneTotal
import Derived.Test.YtfdlbnfjohpdlaaGreatDoorPPox22
import Derived.Test.YtfdlbnfjohpdlaaGreatDoorPPox23
--compressed
namespace Go.Proofs.YtfdlbnfjohpdlaaGreatDoor.Th
set_option linter.unusedVariables false
def Evt {α : Type} (g : Nat → Option α) (v : α) : Prop := ∃ K, ∀ k, K ≤ k → g k = some v
theorem Evt.of {α : Type} {g : Nat → Option α} {v : α} (h : ∀ k, g k = some v) : Evt g v := ⟨0, fun k _ => h k⟩
theorem Evt.bind {α β : Type} {g : Nat → Option α} {h : Nat → α → Option β} {a : α} {b : β} (hg : Evt g a) (hh : Evt (fun k => h k a) b) : Evt (fun k => (g k).bind (h k)) b := by
  obtain ⟨K, hK⟩ := hg
  obtain ⟨L, hL⟩ := hh
  exact ⟨max K L, fun k hk => by show (g k).bind (h k) = some b; rw [hK k (by omega)]; exact hL k (by omega)⟩
theorem Evt.step {α : Type} {g g' : Nat → Option α} {v : α} (h : ∀ k, g' (k + 1) = g k) (hg : Evt g v) : Evt g' v := by
  obtain ⟨K, hK⟩ := hg
  refine ⟨K + 1, fun k hk => ?_⟩
  obtain ⟨j, rfl⟩ : ∃ j, k = j + 1 := ⟨k - 1, by omega⟩
  rw [h]
  exact hK j (by omega)
theorem Evt.congr {α : Type} {g g' : Nat → Option α} {v : α} (h : ∀ k, g' k = g k) (hg : Evt g v) : Evt g' v := by
  obtain ⟨K, hK⟩ := hg
  exact ⟨K, fun k hk => (h k).trans (hK k hk)⟩
theorem Evt.pos {α : Type} {c : Prop} [Decidable c] {g g' : Nat → Option α} {v : α} (hc : c) (h : Evt g v) : Evt (fun k => if c then g k else g' k) v := Evt.congr (fun k => if_pos hc) h
theorem Evt.neg {α : Type} {c : Prop} [Decidable c] {g g' : Nat → Option α} {v : α} (hc : ¬ c) (h : Evt g' v) : Evt (fun k => if c then g k else g' k) v := Evt.congr (fun k => if_neg hc) h
theorem Evt.val {α : Type} (v : α) : Evt (fun _ => some v) v := Evt.of fun _ => rfl
theorem Evt.val' {α : Type} {v v' : α} (h : v' = v) : Evt (fun _ => some v') v := Evt.of fun _ => by rw [h]
theorem Evt.get {α : Type} {g : Nat → Option α} {v : α} (h : Evt g v) : ∃ k, g k = some v := by
  obtain ⟨K, hK⟩ := h
  exact ⟨K, hK K (Nat.le_refl _)⟩
theorem wrap64_id {n : Int} (h1 : -9223372036854775808 ≤ n) (h2 : n < 9223372036854775808) : Go.RowKit.wrap64 n = n := by unfold Go.RowKit.wrap64; omega
end Go.Proofs.YtfdlbnfjohpdlaaGreatDoor.Th
namespace Go.Proofs.YtfdlbnfjohpdlaaGreatDoor.Th
open Go.RowKit Go.Proofs.YtfdlbnfjohpdlaaGreatDoor.PPo Go.Proofs.YtfdlbnfjohpdlaaGreatDoorW.PrintWords Go.Proofs.YtfdlbnfjohpdlaaGreatDoorW.PrintLast Go.Proofs.YtfdlbnfjohpdlaaGreatDoorW.PrintMore
set_option linter.unusedVariables false
set_option linter.unusedSimpArgs false
def B (l : List UInt8) : ByteArray := ⟨l.toArray⟩
theorem B_size (l : List UInt8) : (B l).size = l.length := by simp [B, ByteArray.size]
theorem B_data (l : List UInt8) : (B l).data.toList = l := by simp [B]
theorem B_toList (l : List UInt8) : (B l).toList = l := by rw [Lib.toList_data]; exact B_data l
theorem B_of (s : ByteArray) : B s.data.toList = s := Lib.mk_data s
theorem B_append (a b : List UInt8) : B a ++ B b = B (a ++ b) := by
  apply ByteArray.ext
  simp [B]
theorem B_extract (l : List UInt8) (a b : Nat) : (B l).extract a b = B ((l.drop a).take (b - a)) := ByteArray.extract_mk l a b
theorem B_upto (l : List UInt8) (n : Nat) : (B l).extract 0 n = B (l.take n) := by rw [B_extract]; simp
theorem B_from (l : List UInt8) (n : Nat) : (B l).extract n (B l).size = B (l.drop n) := by
  rw [B_extract, B_size, List.take_of_length_le (by simp)]
theorem B_nil : (⟨#[]⟩ : ByteArray) = B [] := rfl
theorem bt_B (l : List UInt8) (i : Nat) (h : i < l.length) : bt (B l) (i : Int) = (l[i].toNat : Int) := by
  unfold bt
  rw [Int.toNat_natCast, dif_pos (by rw [B_size]; exact h)]
  rfl
def g8 (l : List UInt8) (i : Nat) : Nat := (l.getD i 0).toNat
theorem g8_lt (l : List UInt8) (i : Nat) : g8 l i < 256 := (l.getD i 0).toNat_lt
def dec (l : List UInt8) : Nat × Nat := Lib.decodeN l.length (g8 l 0) (g8 l 1) (g8 l 2) (g8 l 3)
theorem get_g (s : ByteArray) (p i : Nat) : (s.get! (p + i)).toNat = g8 (s.data.toList.drop p) i := by
  unfold g8
  obtain ⟨⟨l⟩⟩ := s
  have : (ByteArray.mk ⟨l⟩).get! (p + i) = l.getD (p + i) 0 := by
    show (Array.mk l)[p + i]! = _
    simp [List.getD_eq_getElem?_getD, Array.getElem!_eq_getD]
    rfl
  rw [this]
  simp [List.getD_eq_getElem?_getD]
theorem decode_dec (s : ByteArray) (p : Nat) : Utf8.decode s p = dec (s.data.toList.drop p) := by
  rw [Lib.decode_at]
  have e0 := get_g s p 0
  rw [Nat.add_zero] at e0
  rw [e0, get_g, get_g, get_g]
  unfold dec
  rw [List.length_drop]
  rfl
theorem decodeL_dec (l : List UInt8) : Lib.decodeL l = dec l := by
  unfold Lib.decodeL
  rw [decode_dec]
  simp
theorem g8_get (l : List UInt8) (i : Nat) (h : i < l.length) : g8 l i = l[i].toNat := by
  unfold g8
  rw [List.getD_eq_getElem?_getD, List.getElem?_eq_getElem h]
  rfl
theorem bt_g (l : List UInt8) (i : Nat) : bt (B l) (i : Int) = (g8 l i : Int) := by
  by_cases h : i < l.length
  · rw [bt_B l i h, g8_get l i h]
  · unfold bt g8
    rw [Int.toNat_natCast, dif_neg (by rw [B_size]; exact h), List.getD_eq_getElem?_getD, List.getElem?_eq_none (by omega)]
    rfl
theorem decN_cases (n b0 b1 b2 b3 : Nat) (h0 : b0 < 256) (h1 : b1 < 256) (h2 : b2 < 256) (h3 : b3 < 256) :
    (b0 < 128 ∧ Lib.decodeN n b0 b1 b2 b3 = (b0, 1)) ∨ (128 ≤ b0 ∧ Lib.decodeN n b0 b1 b2 b3 = (65533, 1)) ∨
    (128 ≤ b0 ∧ 128 ≤ b1 ∧ 1 < n ∧ 128 ≤ (Lib.decodeN n b0 b1 b2 b3).1 ∧ ((Lib.decodeN n b0 b1 b2 b3).2 = 2 ∨ 128 ≤ b2 ∧ 2 < n ∧ ((Lib.decodeN n b0 b1 b2 b3).2 = 3 ∨ 128 ≤ b3 ∧ 3 < n ∧ (Lib.decodeN n b0 b1 b2 b3).2 = 4))) := by
  unfold Lib.decodeN
  repeat' split
  all_goals first | (refine .inl ⟨by omega, rfl⟩) | (refine .inr (.inl ⟨by omega, rfl⟩)) | (refine .inr (.inr ⟨by omega, by omega, by omega, by simp only []; omega, .inl rfl⟩)) | (refine .inr (.inr ⟨by omega, by omega, by omega, by simp only []; omega, .inr ⟨by omega, by omega, .inl rfl⟩⟩)) | (refine .inr (.inr ⟨by omega, by omega, by omega, by simp only []; omega, .inr ⟨by omega, by omega, .inr ⟨by omega, by omega, rfl⟩⟩⟩))
theorem dec_cases (l : List UInt8) : (g8 l 0 < 128 ∧ dec l = (g8 l 0, 1)) ∨ (128 ≤ g8 l 0 ∧ dec l = (65533, 1)) ∨ (128 ≤ (dec l).1 ∧ 2 ≤ (dec l).2 ∧ (dec l).2 ≤ l.length ∧ ∀ i, i < (dec l).2 → 128 ≤ g8 l i) := by
  rcases decN_cases l.length (g8 l 0) (g8 l 1) (g8 l 2) (g8 l 3) (g8_lt l 0) (g8_lt l 1) (g8_lt l 2) (g8_lt l 3) with h | h | ⟨h0, h1, hn, hr, h⟩
  · exact .inl h
  · exact .inr (.inl h)
  · refine .inr (.inr ?_)
    show 128 ≤ (dec l).1 ∧ _
    change 128 ≤ (dec l).1 at hr
    change (dec l).2 = 2 ∨ _ at h
    refine ⟨hr, ?_⟩
    rcases h with h | ⟨h2, hn2, h⟩
    · refine ⟨by omega, by omega, fun i hi => ?_⟩
      rw [h] at hi
      rcases (show i = 0 ∨ i = 1 by omega) with rfl | rfl <;> assumption
    · change (dec l).2 = 3 ∨ _ at h
      rcases h with h | ⟨h3, hn3, h⟩
      · refine ⟨by omega, by omega, fun i hi => ?_⟩
        rw [h] at hi
        rcases (show i = 0 ∨ i = 1 ∨ i = 2 by omega) with rfl | rfl | rfl <;> assumption
      · change (dec l).2 = 4 at h
        refine ⟨by omega, by omega, fun i hi => ?_⟩
        rw [h] at hi
        rcases (show i = 0 ∨ i = 1 ∨ i = 2 ∨ i = 3 by omega) with rfl | rfl | rfl | rfl <;> assumption
theorem dec_width (l : List UInt8) (h : 0 < l.length) : 1 ≤ (dec l).2 ∧ (dec l).2 ≤ l.length := by
  rcases dec_cases l with ⟨_, e⟩ | ⟨_, e⟩ | ⟨_, h1, h2, _⟩
  · rw [e]; exact ⟨Nat.le_refl _, h⟩
  · rw [e]; exact ⟨Nat.le_refl _, h⟩
  · omega
def more (n i b : Nat) : Prop := i < n ∧ 128 ≤ b ∧ b ≤ 191
instance (n i b : Nat) : Decidable (more n i b) := inferInstanceAs (Decidable (_ ∧ _ ∧ _))
def r4 (n b0 b1 b2 b3 : Nat) : Int × Int :=
  if 240 ≤ b0 ∧ b0 ≤ 244 ∧ more n 1 b1 ∧ more n 2 b2 ∧ more n 3 b3 then
    (if 65536 ≤ ((b0 : Int) - 240) * 262144 + ((b1 : Int) - 128) * 4096 + ((b2 : Int) - 128) * 64 + b3 - 128 ∧ ((b0 : Int) - 240) * 262144 + ((b1 : Int) - 128) * 4096 + ((b2 : Int) - 128) * 64 + b3 - 128 ≤ 1114111 then (((b0 : Int) - 240) * 262144 + ((b1 : Int) - 128) * 4096 + ((b2 : Int) - 128) * 64 + b3 - 128, 4) else (-1, 1)) else (-1, 1)
def r3 (n b0 b1 b2 b3 : Nat) : Int × Int :=
  if 224 ≤ b0 ∧ b0 ≤ 239 ∧ more n 1 b1 ∧ more n 2 b2 then
    (if 2048 ≤ ((b0 : Int) - 224) * 4096 + ((b1 : Int) - 128) * 64 + b2 - 128 ∧ ¬ (55296 ≤ ((b0 : Int) - 224) * 4096 + ((b1 : Int) - 128) * 64 + b2 - 128 ∧ ((b0 : Int) - 224) * 4096 + ((b1 : Int) - 128) * 64 + b2 - 128 ≤ 57343) then (((b0 : Int) - 224) * 4096 + ((b1 : Int) - 128) * 64 + b2 - 128, 3) else r4 n b0 b1 b2 b3) else r4 n b0 b1 b2 b3
def r2 (n b0 b1 b2 b3 : Nat) : Int × Int := if 194 ≤ b0 ∧ b0 ≤ 223 ∧ more n 1 b1 then (((b0 : Int) - 192) * 64 + b1 - 128, 2) else r3 n b0 b1 b2 b3
def r1 (n b0 b1 b2 b3 : Nat) : Int × Int := if b0 < 128 then ((b0 : Int), 1) else r2 n b0 b1 b2 b3
theorem len_pos {l : List UInt8} (h : l ≠ []) : 0 < l.length := List.length_pos_iff.2 h
def cntL : Nat → List UInt8 → Nat
  | 0, _ => 0
  | n + 1, l => if l = [] then 0 else 1 + cntL n (l.drop (dec l).2)
theorem cntR_L (s : ByteArray) : ∀ (f p : Nat), cntR s f p = cntL f (s.data.toList.drop p)
  | 0, _ => rfl
  | f + 1, p => by
    unfold cntR cntL
    have hsz : s.size = s.data.toList.length := Lib.size_eq s
    by_cases h : p < s.size
    · rw [if_pos h, if_neg (by intro k; have := congrArg List.length k; rw [List.length_drop] at this; simp only [List.length_nil] at this; omega), decode_dec, cntR_L s f _, List.drop_drop]
    · rw [if_neg h, if_pos (List.drop_eq_nil_iff.2 (by omega))]
def badL : Nat → List UInt8 → Bool
  | 0, _ => false
  | n + 1, l => if l = [] then false else if (dec l).1 < 32 then true else if (dec l).1 = 127 then true else badL n (l.drop (dec l).2)
theorem badR_L (s : ByteArray) : ∀ (f p : Nat), badR s f p = badL f (s.data.toList.drop p)
  | 0, _ => rfl
  | f + 1, p => by
    unfold badR badL
    have hsz : s.size = s.data.toList.length := Lib.size_eq s
    by_cases h : p < s.size
    · have hne : ¬ s.data.toList.drop p = [] := by
        intro k
        have := congrArg List.length k
        rw [List.length_drop] at this
        simp only [List.length_nil] at this
        omega
      rw [if_pos h, decode_dec, badR_L s f _]
      rw [if_neg hne, List.drop_drop]
      generalize (dec (s.data.toList.drop p)).1 = r
      by_cases h1 : r < 32
      · rw [if_pos h1]
        rw [if_pos (show (r : Int) < 32 by omega)]
      · rw [if_neg h1]
        rw [if_neg (show ¬ (r : Int) < 32 by omega)]
        by_cases h2 : r = 127
        · rw [if_pos h2]
          rw [if_pos (show (r : Int) = 127 by omega)]
        · rw [if_neg h2]
          rw [if_neg (show ¬ (r : Int) = 127 by omega)]
    · rw [if_neg h, if_pos (List.drop_eq_nil_iff.2 (by omega))]
def okb (c : UInt8) : Bool := decide (32 ≤ c.toNat) && decide (c.toNat ≠ 127)
theorem bad_bytes : ∀ (n : Nat) (l : List UInt8), l.length ≤ n → Lib.validGoD n l = true → badL n l = !(l.all okb)
  | 0, l, h, _ => by
    obtain rfl := List.eq_nil_of_length_eq_zero (by omega : l.length = 0)
    rfl
  | n + 1, l, h, hv => by
    unfold badL
    unfold Lib.validGoD at hv
    rw [decodeL_dec] at hv
    by_cases hl : l = []
    · rw [if_pos hl, hl]; rfl
    · rw [if_neg hl] at hv ⊢
      have hw := dec_width l (len_pos hl)
      by_cases hb : (dec l).1 = 65533 ∧ (dec l).2 = 1
      · rw [if_pos hb] at hv; cases hv
      · rw [if_neg hb] at hv
        have ih := bad_bytes n (l.drop (dec l).2) (by rw [List.length_drop]; omega) hv
        rw [ih]
        have hsplit : l.all okb = ((l.take (dec l).2).all okb && (l.drop (dec l).2).all okb) := by rw [← List.all_append, List.take_append_drop]
        rw [hsplit]
        rcases dec_cases l with ⟨h1, e⟩ | ⟨_, e⟩ | ⟨h1, h2, h3, h4⟩
        · have ht : l.take (dec l).2 = [l[0]'(len_pos hl)] := by
            rw [e]
            cases l with
            | nil => exact absurd rfl hl
            | cons a t => rfl
          have hg := g8_get l 0 (len_pos hl)
          rw [ht, e]
          simp only [List.all_cons, List.all_nil, Bool.and_true, okb]
          rw [← hg]
          by_cases k1 : g8 l 0 < 32
          · rw [if_pos k1]; simp; omega
          · rw [if_neg k1]
            by_cases k2 : g8 l 0 = 127
            · rw [if_pos k2]; simp [k2]
            · rw [if_neg k2]; simp [k2]; omega
        · exact absurd ⟨by rw [e], by rw [e]⟩ hb
        · rw [if_neg (by omega), if_neg (by omega)]
          have : (l.take (dec l).2).all okb = true := by
            rw [List.all_eq_true]
            intro c hc
            obtain ⟨i, hi, rfl⟩ := List.mem_iff_getElem.1 hc
            rw [List.length_take] at hi
            rw [List.getElem_take]
            have := h4 i (by omega)
            rw [g8_get l i (by omega)] at this
            unfold okb
            simp
            omega
          rw [this, Bool.true_and]
def labB (l : List UInt8) : Bool := Lib.validD l && (decide (0 < l.length) && (decide (cntL l.length l ≤ 24) && (decide (g8 l 0 ≠ 32) && (decide (g8 l (l.length - 1) ≠ 32) && l.all okb))))
theorem label_f (l : List UInt8) (h : l.length ≤ 9223372036854775807) : label_Right.f (B l) = some (labB l) := by
  unfold label_Right.f labB
  rw [if_pos (by rw [B_size]; omega), badR_L, cntR_L, B_data, B_size, List.drop_zero]
  have t0 : bt (B l) 0 = (g8 l 0 : Int) := bt_g l 0
  rw [t0]
  by_cases hv : Lib.validD l = true
  · rw [bad_bytes l.length l (Nat.le_refl _) hv, hv]
    by_cases hl : 0 < l.length
    · have t1 : bt (B l) ((l.length : Int) - 1) = (g8 l (l.length - 1) : Int) := by
        rw [show (l.length : Int) - 1 = ((l.length - 1 : Nat) : Int) by omega]
        exact bt_g l _
      rw [t1]
      congr 1
      rw [Bool.eq_iff_iff]
      simp only [Bool.and_eq_true, decide_eq_true_eq, Bool.not_not]
      constructor
      · rintro ⟨a, b, c, d, e, f⟩
        exact ⟨b, c, d, by omega, by omega, a⟩
      · rintro ⟨b, c, d, e, f, a⟩
        exact ⟨a, b, c, d, by omega, by omega⟩
    · simp [hl]
  · simp only [Bool.not_eq_true] at hv
    rw [hv]
    simp
end Go.Proofs.YtfdlbnfjohpdlaaGreatDoor.Th
namespace Go.Proofs.YtfdlbnfjohpdlaaGreatDoor.PPo
open Go.RowKit Go.Sort Go.Proofs.YtfdlbnfjohpdlaaGreatDoorW.PrintWords Go.Proofs.YtfdlbnfjohpdlaaGreatDoorW.PrintLast Go.Proofs.YtfdlbnfjohpdlaaGreatDoorW.PrintMore
attribute [local go_sem] max2_int min2_int max_two min_two max_three min_three max_four min_four
set_option linter.unusedVariables false
set_option linter.unusedSimpArgs false
def cmpI (x y : Int) : Int := if x < y then -1 else if y < x then 1 else 0
set_option maxHeartbeats 2000000 in
set_option maxRecDepth 100000 in
theorem compareI.calls (a b : Int) (w : World) : Calls Tryz.prog 37 #[.int .i64 a, .int .i64 b] w fun e w' => e = .returned (.int .i64 (cmpI a b)) ∧ w' = w := by
  unfold cmpI
  cases h1 : decide (a < b) with
  | true =>
    rw [if_pos (of_decide_eq_true h1)]
    go_enter Tryz.func37, Tryz.ntmps37
    go_wp2
    go_ret
    exact ⟨rfl, rfl⟩
  | false =>
    rw [if_neg (of_decide_eq_false h1)]
    cases h2 : decide (b < a) with
    | true =>
      rw [if_pos (of_decide_eq_true h2)]
      go_enter Tryz.func37, Tryz.ntmps37
      go_wp2
      go_ret
      exact ⟨rfl, rfl⟩
    | false =>
      rw [if_neg (of_decide_eq_false h2)]
      go_enter Tryz.func37, Tryz.ntmps37
      go_wp2
      go_ret
      exact ⟨rfl, rfl⟩
set_option maxHeartbeats 2000000 in
set_option maxRecDepth 100000 in
theorem compareU.calls (a b : Int) (w : World) : Calls Tryz.prog 36 #[.int .u64 a, .int .u64 b] w fun e w' => e = .returned (.int .i64 (cmpI a b)) ∧ w' = w := by
  unfold cmpI
  cases h1 : decide (a < b) with
  | true =>
    rw [if_pos (of_decide_eq_true h1)]
    go_enter Tryz.func36, Tryz.ntmps36
    go_wp2
    go_ret
    exact ⟨rfl, rfl⟩
  | false =>
    rw [if_neg (of_decide_eq_false h1)]
    cases h2 : decide (b < a) with
    | true =>
      rw [if_pos (of_decide_eq_true h2)]
      go_enter Tryz.func36, Tryz.ntmps36
      go_wp2
      go_ret
      exact ⟨rfl, rfl⟩
    | false =>
      rw [if_neg (of_decide_eq_false h2)]
      go_enter Tryz.func36, Tryz.ntmps36
      go_wp2
      go_ret
      exact ⟨rfl, rfl⟩
def orI (x y : Int) : Int := if x = 0 then y else x
set_option maxHeartbeats 2000000 in
set_option maxRecDepth 100000 in
theorem or.calls (x y : Int) (b : Nat) (w : World) (h0 : w.cell? ⟨b, 0, none⟩ = some (.int .i64 x)) (h1 : w.cell? ⟨b, 1, none⟩ = some (.int .i64 y)) : Calls Tryz.prog 35 #[.slice (some ⟨b, 0, none⟩) 2 2] w fun e w' => e = .returned (.int .i64 (orI x y)) ∧ w' = w := by
  obtain ⟨R, hR⟩ : ∃ R, R = orI x y := ⟨_, rfl⟩
  rw [← hR]
  have HR := Aside0.mk hR
  clear hR
  have hu := Tryz.underlying34
  go_enter Tryz.func35, Tryz.ntmps35
  go_wp2
  go_loopg [8] 2 (fun gg s8 wr => ∃ n : Nat, s8 = .int .i64 n ∧ n ≤ 2 ∧ 2 - n ≤ gg ∧ wr = w ∧ Aside0 ((0 < n → x = 0) ∧ (1 < n → y = 0)))
  case atStart => exact ⟨0, rfl, by omega, by omega, rfl, ⟨fun h => by omega, fun h => by omega⟩⟩
  case round =>
    obtain ⟨n, rfl, hn, hg, rfl, HI⟩ := hrel
    have hn3 : n = 0 ∨ n = 1 ∨ n = 2 := by omega
    clear hn
    rcases hn3 with rfl | rfl | rfl
    · cases hx : (x != 0) with
      | true =>
        go_wp2
        go_ret
        exact ⟨by rw [HR.out, orI, if_neg (bne_iff_ne.1 hx)]; rfl, rfl⟩
      | false =>
        go_wp2
        go_roundg (2 - 1)
        case measure => omega
        case rel => exact ⟨1, by first | rfl | go_num, by omega, by omega, rfl, ⟨fun _ => by simpa using hx, fun h => by omega⟩⟩
    · cases hy : (y != 0) with
      | true =>
        go_wp2
        go_ret
        exact ⟨by rw [HR.out, orI, if_pos (HI.out.1 (by omega))]; rfl, rfl⟩
      | false =>
        go_wp2
        go_roundg (2 - 2)
        case measure => omega
        case rel => exact ⟨2, by first | rfl | go_num, by omega, by omega, rfl, ⟨fun _ => HI.out.1 (by omega), fun _ => by simpa using hy⟩⟩
    · go_wp2
      go_ret
      exact ⟨by rw [HR.out, orI, if_pos (HI.out.1 (by omega)), HI.out.2 (by omega)]; rfl, rfl⟩
theorem blk_nw (w : World) (o : Obj) (n : Nat) (h : n = w.heap.size) : (w.alloc o).heap[n]? = some o := by subst h; exact blk_new w o
def cfL (x y : S31) : Int := orI (cmpI y.f3 x.f3) (cmpI y.f0 x.f0)
def linkC (x : S31) : List Value := [.int .i64 x.f0, .int .i64 x.f1, .string x.f2, .int .u64 x.f3, .bool x.f4, .bool x.f5]
set_option maxHeartbeats 4000000 in
set_option maxRecDepth 100000 in
theorem keepCmp.calls (x y : S31) (w : World) : Calls Tryz.prog 34 #[.agg #[.int .i64 x.f0, .int .i64 x.f1, .string x.f2, .int .u64 x.f3, .bool x.f4, .bool x.f5], .agg #[.int .i64 y.f0, .int .i64 y.f1, .string y.f2, .int .u64 y.f3, .bool y.f4, .bool y.f5]] w fun e w' => e = .returned (.int .i64 (cfL x y)) ∧ ∃ q os', w' = grow (w.drewN q) os' := by
  have hu := Tryz.underlying31
  have hu2 := Tryz.underlying34
  unfold cfL
  have K1 := Aside0.mk (fun W => compareU.calls y.f3 x.f3 W)
  have K2 := Aside0.mk (fun W => compareI.calls y.f0 x.f0 W)
  generalize cmpI y.f3 x.f3 = c1 at K1 ⊢
  generalize cmpI y.f0 x.f0 = c2 at K2 ⊢
  have K3 := Aside0.mk (fun (W : World) (b : Nat) (h : W.heap[b]? = some (.cells #[.int .i64 c1, .int .i64 c2] 3 (0, 0))) => or.calls c1 c2 b W (blk_cell h 0) (blk_cell h 1))
  generalize orI c1 c2 = R at K3 ⊢
  go_enter Tryz.func34, Tryz.ntmps34
  go_upto_region 1 with fail
  have mixed : Tryz.prog.follows .mixedOrders = true := by kernel_rfl
  obtain ⟨wR, hwR⟩ : ∃ wR, wR = (w.alloc (.cells #[.int .i64 x.f0, .int .i64 x.f1, .string x.f2, .int .u64 x.f3, .bool x.f4, .bool x.f5] 31)).alloc (.cells #[.int .i64 y.f0, .int .i64 y.f1, .string y.f2, .int .u64 y.f3, .bool y.f4, .bool y.f5] 31) := ⟨_, rfl⟩
  rw [← hwR]
  have hBR : Below w.heap.size w wR := by rw [hwR]; exact below_alloc (below_alloc (Below.refl _ _) _) _
  have hy : wR.heap[w.heap.size + 1]? = some (.cells #[.int .i64 y.f0, .int .i64 y.f1, .string y.f2, .int .u64 y.f3, .bool y.f4, .bool y.f5] 31 (0, 0)) := by rw [hwR]; exact blk_nw _ _ _ (by simp)
  have hx : wR.heap[w.heap.size]? = some (.cells #[.int .i64 x.f0, .int .i64 x.f1, .string x.f2, .int .u64 x.f3, .bool x.f4, .bool x.f5] 31 (0, 0)) := by rw [hwR]; exact blk_alloc (blk_new w _) _
  generalize w.heap.size + 1 = b3 at hy ⊢
  obtain ⟨b2, hb2⟩ : ∃ b2, b2 = w.heap.size := ⟨_, rfl⟩
  rw [← hb2] at hx ⊢
  have HWR := Aside0.mk hwR
  have HKEEP := Aside0.mk (show ∀ w', Below wR.heap.size wR w' → (Below wR.heap.size wR w' ∧ w'.cell? ⟨b3, 3, none⟩ = some (.int .u64 y.f3) ∧ w'.cell? ⟨b2, 3, none⟩ = some (.int .u64 x.f3) ∧ w'.cell? ⟨b3, 0, none⟩ = some (.int .i64 y.f0) ∧ w'.cell? ⟨b2, 0, none⟩ = some (.int .i64 x.f0)) from fun w' hb =>
    have a1 := blk_below hy hb
    have a2 := blk_below hx hb
    ⟨hb, blk_cell a1 3, blk_cell a2 3, blk_cell a1 0, blk_cell a2 0⟩)
  have hsz : ∀ (W : World) (o : Obj), W.heap.size + 1 = (W.alloc o).heap.size := fun W o => by simp
  clear hwR hBR hy hx hb2
  go_region_held3 (fun w' => Below wR.heap.size wR w' ∧ w'.cell? ⟨b3, 3, none⟩ = some (.int .u64 y.f3) ∧ w'.cell? ⟨b2, 3, none⟩ = some (.int .u64 x.f3) ∧ w'.cell? ⟨b3, 0, none⟩ = some (.int .i64 y.f0) ∧ w'.cell? ⟨b2, 0, none⟩ = some (.int .i64 x.f0)) (exact HKEEP.out _ (by repeat (with_reducible first | exact Below.refl _ _ | exact And.left (by assumption) | apply below_alloc | apply below_drew1))) (first
    | (go_at_call 36; go_loud (with_reducible refine (K1.out _).mono ?_; rintro e w5 ⟨rfl, rfl⟩))
    | (go_at_call 37; go_loud (with_reducible refine (K2.out _).mono ?_; rintro e w6 ⟨rfl, rfl⟩))
    | (go_at_call 35; go_loud (refine (K3.out _ _ ?hb).mono ?_; (case hb => repeat (with_reducible first | refine blk_drew ?_ | exact blk_nw _ _ _ (hsz _ _) | exact blk_nw _ _ _ rfl | refine blk_alloc ?_ _)); rintro e w7 ⟨rfl, rfl⟩)))
  all_goals
    go_wp2
    go_ret
    refine ⟨rfl, 1, ?_⟩
    rw [HWR.out]
    simp only [alloc_eq_grow]
    have hd : ∀ (W : World) (a : Array Obj), (grow W a).drew = grow W.drew a := fun _ _ => rfl
    simp only [hd, grow_grow]
    exact ⟨_, rfl⟩
end Go.Proofs.YtfdlbnfjohpdlaaGreatDoor.PPo
namespace Go.Proofs.YtfdlbnfjohpdlaaGreatDoor.PPo
open Go.RowKit Go.Proofs.YtfdlbnfjohpdlaaGreatDoorW.PrintWords Go.Proofs.YtfdlbnfjohpdlaaGreatDoorW.PrintLast Go.Proofs.YtfdlbnfjohpdlaaGreatDoorW.PrintMore
attribute [local go_sem] max2_int min2_int max_two min_two max_three min_three max_four min_four
set_option linter.unusedVariables false
set_option linter.unusedSimpArgs false
def idxL (id : Int) (l : List S31) : Int := match l.findIdx? (fun x => x.f0 == id) with | some i => (i : Int) | none => -1
theorem idxL_hit (id : Int) (l : List S31) (i : Nat) (h : i < l.length) (hi : (l[i].f0 == id) = true) (ha : ∀ j (hj : j < l.length), j < i → (l[j].f0 == id) = false) : idxL id l = (i : Int) := by
  have : l.findIdx? (fun x => x.f0 == id) = some i := by
    rw [List.findIdx?_eq_some_iff_getElem]
    exact ⟨h, hi, fun j hj => by simp only [ha j (by omega) hj]; decide⟩
  unfold idxL
  rw [this]
theorem idxL_miss (id : Int) (l : List S31) (ha : ∀ j (hj : j < l.length), (l[j].f0 == id) = false) : idxL id l = -1 := by
  have : l.findIdx? (fun x => x.f0 == id) = none := by
    rw [List.findIdx?_eq_none_iff]
    intro x hx
    obtain ⟨j, hj, rfl⟩ := List.getElem_of_mem hx
    exact ha j hj
  unfold idxL
  rw [this]
set_option maxHeartbeats 2000000 in
set_option maxRecDepth 100000 in
theorem find1L.calls (id : Int) (gb : Nat) (x : S31) (W : World) (hc : W.cell? ⟨gb, 0, none⟩ = some (.int .i64 id)) : Calls Tryz.prog 71 #[.agg #[.int .i64 x.f0, .int .i64 x.f1, .string x.f2, .int .u64 x.f3, .bool x.f4, .bool x.f5], .pointer (some ⟨gb, 0, none⟩)] W fun e w' => e = .returned (.bool (x.f0 == id)) ∧ Below W.heap.size W w' := by
  have hlt2 : gb < W.heap.size := World.block_lt_of_cell? W _ hc
  have hu := Tryz.underlying31
  go_enter Tryz.func71, Tryz.ntmps71
  go_wp2
  go_ret
  exact ⟨rfl, Below.alloc (Below.refl _ _) (Nat.le_refl _) _⟩
set_option maxHeartbeats 2000000 in
set_option maxRecDepth 100000 in
theorem indexL.calls (A : Option Addr) (c : Nat) (l : List S31) (gb : Nat) (id : Int) (w : World) (hr : Kd.C k31 w A l.length l) (hn : w.cell? ⟨gb, 0, none⟩ = some (.int .i64 id)) :
    Calls Tryz.prog 70 #[.slice A l.length c, .func (.func 71) #[] #[.pointer (some ⟨gb, 0, none⟩)]] w fun e w' => e = .returned (.int .i64 (idxL id l)) ∧ Below w.heap.size w w' := by
  have HR := Aside0.mk hr
  have hlt : gb < w.heap.size := World.block_lt_of_cell? w _ hn
  have HP := Aside0.mk (fun (W : World) (x : S31) (hW : Below w.heap.size w W) => find1L.calls id gb x W ((hW.cell hlt).trans hn))
  have hbig : l.length ≤ 9223372036854775807 := hr.2.1
  clear hr hn hlt
  have hu := Tryz.underlying31
  go_enter Tryz.func70, Tryz.ntmps70
  go_wp2
  go_loopg [5, 8] l.length (fun gg _ s8 wr => ∃ i : Nat, i ≤ l.length ∧ l.length - i ≤ gg ∧ s8 = .int .i64 i ∧ Aside0 (Below w.heap.size w wr) ∧ Aside0 (∀ j (hj : j < l.length), j < i → (l[j].f0 == id) = false))
  case atStart => exact ⟨0, Nat.zero_le _, by omega, rfl, ⟨Below.refl _ _⟩, ⟨fun j _ hj => absurd hj (Nat.not_lt_zero _)⟩⟩
  case round =>
    obtain ⟨i, hi, hg, rfl, HB, HA⟩ := hrel
    by_cases hlt : i < l.length
    · have hltz : decide ((i : Int) < (l.length : Int)) = true := decide_eq_true (by omega)
      have hi0 : (0 : Int) ≤ (i : Int) := by omega
      have hi1 : (i : Int) < (l.length : Int) := by omega
      obtain ⟨ad, rfl, hx0, hx1, hx2, hx3, hx4, hx5⟩ := at_T31 HR.out (i : Int) hi0 hi1
      have hrd : rd_T31 l (i : Int) = l[i] := by simp [rd_T31, List.getD_eq_getElem?_getD, hlt]
      rw [hrd] at hx0 hx1 hx2 hx3 hx4 hx5
      replace hx0 := (HB.out.cell (World.block_lt_of_cell? w _ hx0)).trans hx0
      replace hx1 := (HB.out.cell (World.block_lt_of_cell? w _ hx1)).trans hx1
      replace hx2 := (HB.out.cell (World.block_lt_of_cell? w _ hx2)).trans hx2
      replace hx3 := (HB.out.cell (World.block_lt_of_cell? w _ hx3)).trans hx3
      replace hx4 := (HB.out.cell (World.block_lt_of_cell? w _ hx4)).trans hx4
      replace hx5 := (HB.out.cell (World.block_lt_of_cell? w _ hx5)).trans hx5
      simp only [Int.toNat_natCast] at hx0 hx1 hx2 hx3 hx4 hx5
      have hcall := HP.out wr l[i] HB.out
      generalize hy : l[i] = y at hx0 hx1 hx2 hx3 hx4 hx5 hcall
      have HY := Aside0.mk hy
      have HCALL := Aside0.mk hcall
      clear hy hrd hcall
      cases hq : (y.f0 == id) with
      | true =>
        rw [hq] at HCALL
        go_wp2_with (go_at_call 71; refine HCALL.out.mono ?_; rintro e w' ⟨rfl, hb'⟩)
        go_ret
        refine ⟨?_, HB.out.trans (hb'.mono HB.out.size)⟩
        rw [idxL_hit id l i hlt (by rw [HY.out]; exact hq) HA.out]
        rfl
      | false =>
        rw [hq] at HCALL
        go_wp2_with (go_at_call 71; refine HCALL.out.mono ?_; rintro e w' ⟨rfl, hb'⟩)
        go_roundg (l.length - (i + 1))
        case measure => omega
        case rel =>
          refine ⟨i + 1, by omega, by omega, by go_num, ⟨HB.out.trans (hb'.mono HB.out.size)⟩, ⟨fun j hj hji => ?_⟩⟩
          by_cases e : j = i
          · subst e
            rw [HY.out]; exact hq
          · exact HA.out j hj (by omega)
    · have hltz : decide ((i : Int) < (l.length : Int)) = false := decide_eq_false (by omega)
      go_wp2
      go_ret
      refine ⟨?_, HB.out⟩
      rw [idxL_miss id l fun j hj => HA.out j hj (by omega)]
      rfl
def findL (id : Int) (l : List S31) : S31 × Bool := match l.findIdx? (fun x => x.f0 == id) with | some i => (rd_T31 l (i : Int), true) | none => (z31, false)
set_option maxHeartbeats 2000000 in
set_option maxRecDepth 100000 in
theorem findL.calls (A : Option Addr) (c : Nat) (l : List S31) (live next now id : Int) (w : World) (hr : Kd.C k31 w A l.length l) :
    Calls Tryz.prog 45 #[.agg #[.slice A l.length c, .int .i64 live, .int .i64 next, .int .u64 now], .int .i64 id] w fun e w' => e = .returned (.tuple #[.agg #[.int .i64 (findL id l).1.f0, .int .i64 (findL id l).1.f1, .string (findL id l).1.f2, .int .u64 (findL id l).1.f3, .bool (findL id l).1.f4, .bool (findL id l).1.f5], .bool (findL id l).2]) ∧ Below w.heap.size w w' := by
  have hu := Tryz.underlying31
  have hu3 := Tryz.underlying28
  have HR := Aside0.mk hr
  have hidx : idxL id l = (match l.findIdx? (fun x => x.f0 == id) with | some i => (i : Int) | none => -1) := rfl
  have hbw : Below w.heap.size w (((w.alloc (.cells #[.slice A l.length c, .int .i64 live, .int .i64 next, .int .u64 now] 28)).alloc (.cells #[.int .i64 id] 3)).alloc (.cells #[.int .i64 0, .int .i64 0, .string ⟨#[]⟩, .int .u64 0, .bool false, .bool false] 31)) := below_alloc (below_alloc (below_alloc (Below.refl _ w) _) _) _
  have HP2 := Aside0.mk (indexL.calls A c l (w.heap.size + 1) id (((w.alloc (.cells #[.slice A l.length c, .int .i64 live, .int .i64 next, .int .u64 now] 28)).alloc (.cells #[.int .i64 id] 3)).alloc (.cells #[.int .i64 0, .int .i64 0, .string ⟨#[]⟩, .int .u64 0, .bool false, .bool false] 31)) (Kd.C_below hr hbw) (Lib.cell?_alloc_some _ (blk_cell (blk_nw (w.alloc (.cells #[.slice A l.length c, .int .i64 live, .int .i64 next, .int .u64 now] 28)) (.cells #[.int .i64 id] 3) (w.heap.size + 1) (by simp)) 0)))
  clear hr
  have HG := Aside0.mk (show ∀ w1 : World, Below (((w.alloc (.cells #[.slice A l.length c, .int .i64 live, .int .i64 next, .int .u64 now] 28)).alloc (.cells #[.int .i64 id] 3)).alloc (.cells #[.int .i64 0, .int .i64 0, .string ⟨#[]⟩, .int .u64 0, .bool false, .bool false] 31)).heap.size (((w.alloc (.cells #[.slice A l.length c, .int .i64 live, .int .i64 next, .int .u64 now] 28)).alloc (.cells #[.int .i64 id] 3)).alloc (.cells #[.int .i64 0, .int .i64 0, .string ⟨#[]⟩, .int .u64 0, .bool false, .bool false] 31)) w1 → w1.heap[w.heap.size + 2]? = some (.cells #[.int .i64 0, .int .i64 0, .string ⟨#[]⟩, .int .u64 0, .bool false, .bool false] 31 (0, 0)) ∧ w1.heap[w.heap.size]? = some (.cells #[.slice A l.length c, .int .i64 live, .int .i64 next, .int .u64 now] 28 (0, 0)) ∧ Below w.heap.size w w1 from fun w1 hb =>
    ⟨blk_below (blk_nw _ _ _ (by simp)) hb, blk_below (blk_alloc (blk_alloc (blk_new w _) _) _) hb, hbw.trans (hb.mono (by simp; omega))⟩)
  clear hbw
  cases hf : l.findIdx? (fun x => x.f0 == id) with
  | none =>
    have hv : findL id l = (z31, false) := by unfold findL; rw [hf]
    rw [hf] at hidx
    rw [hv]
    simp only at hidx
    rw [hidx] at HP2
    clear hidx hf hv
    go_enter Tryz.func45, Tryz.ntmps45
    go_wp2_with (go_at_call 70; go_loud (refine HP2.out.mono ?_; rintro e w1 ⟨rfl, hb1⟩; obtain ⟨hbk0, hbt0, hbw0⟩ := HG.out w1 hb1; have BK := Aside0.mk hbk0; have BT := Aside0.mk hbt0; have HB := Aside0.mk hbw0; clear hbk0 hbt0 hbw0 hb1; have hc0 := blk_cell BK.out 0; have hc1 := blk_cell BK.out 1; have hc2 := blk_cell BK.out 2; have hc3 := blk_cell BK.out 3; have hc4 := blk_cell BK.out 4; have hc5 := blk_cell BK.out 5; have hf0 := blk_frozen BK.out 0; have hf1 := blk_frozen BK.out 1; have hf2 := blk_frozen BK.out 2; have hf3 := blk_frozen BK.out 3; have hf4 := blk_frozen BK.out 4; have hf5 := blk_frozen BK.out 5; have hb0 := blk_cell BT.out 0))
    refine bodyPost_ret (results_ct rfl _ _ (w.heap.size + 2) 31 #[.int .i64 0, .int .i64 0, .string ⟨#[]⟩, .int .u64 0, .bool false, .bool false] (0, 0) _ rfl (blk_put (cs := #[.int .i64 0, .int .i64 0, .string ⟨#[]⟩, .int .u64 0, .bool false, .bool false]) (blk_put (cs := #[.int .i64 0, .int .i64 0, .string ⟨#[]⟩, .int .u64 0, .bool false, .bool false]) (blk_put (cs := #[.int .i64 0, .int .i64 0, .string ⟨#[]⟩, .int .u64 0, .bool false, .bool false]) (blk_put (cs := #[.int .i64 0, .int .i64 0, .string ⟨#[]⟩, .int .u64 0, .bool false, .bool false]) (blk_put (cs := #[.int .i64 0, .int .i64 0, .string ⟨#[]⟩, .int .u64 0, .bool false, .bool false]) (blk_put (cs := #[.int .i64 0, .int .i64 0, .string ⟨#[]⟩, .int .u64 0, .bool false, .bool false]) BK.out 0 _ rfl) 1 _ rfl) 2 _ rfl) 3 _ rfl) 4 _ rfl) 5 _ rfl) Tryz.underlying31 rfl (by kernel_rfl)) rfl ?_
    exact ⟨rfl, (below_set (below_set (below_set (below_set (below_set (below_set HB.out (by omega)) (by omega)) (by omega)) (by omega)) (by omega)) (by omega))⟩
  | some i =>
    have hlt : i < l.length := by
      rw [List.findIdx?_eq_some_iff_getElem] at hf
      exact hf.1
    have hv : findL id l = (rd_T31 l (i : Int), true) := by unfold findL; rw [hf]
    rw [hf] at hidx
    rw [hv]
    simp only at hidx
    rw [hidx] at HP2
    have hi0 : (0 : Int) ≤ (i : Int) := by omega
    have hi1 : (i : Int) < (l.length : Int) := by omega
    obtain ⟨ad, rfl, hx0, hx1, hx2, hx3, hx4, hx5⟩ := at_T31 HR.out (i : Int) hi0 hi1
    have HX := Aside0.mk (show ∀ w1 : World, Below w.heap.size w w1 → w1.cell? (ad.add (i * 6)) = some (.int .i64 (rd_T31 l (i : Int)).f0) ∧ w1.cell? ⟨(ad.add (i * 6)).block, (ad.add (i * 6)).off + 1, none⟩ = some (.int .i64 (rd_T31 l (i : Int)).f1) ∧ w1.cell? ⟨(ad.add (i * 6)).block, (ad.add (i * 6)).off + 2, none⟩ = some (.string (rd_T31 l (i : Int)).f2) ∧ w1.cell? ⟨(ad.add (i * 6)).block, (ad.add (i * 6)).off + 3, none⟩ = some (.int .u64 (rd_T31 l (i : Int)).f3) ∧ w1.cell? ⟨(ad.add (i * 6)).block, (ad.add (i * 6)).off + 4, none⟩ = some (.bool (rd_T31 l (i : Int)).f4) ∧ w1.cell? ⟨(ad.add (i * 6)).block, (ad.add (i * 6)).off + 5, none⟩ = some (.bool (rd_T31 l (i : Int)).f5) from fun w1 hb =>
      ⟨(hb.cell (World.block_lt_of_cell? w _ hx0)).trans hx0, (hb.cell (World.block_lt_of_cell? w _ hx1)).trans hx1, (hb.cell (World.block_lt_of_cell? w _ hx2)).trans hx2, (hb.cell (World.block_lt_of_cell? w _ hx3)).trans hx3, (hb.cell (World.block_lt_of_cell? w _ hx4)).trans hx4, (hb.cell (World.block_lt_of_cell? w _ hx5)).trans hx5⟩)
    clear hidx hf hv hx0 hx1 hx2 hx3 hx4 hx5
    generalize rd_T31 l (i : Int) = y at HX ⊢
    go_enter Tryz.func45, Tryz.ntmps45
    go_wp2_with (go_at_call 70; go_loud (refine HP2.out.mono ?_; rintro e w1 ⟨rfl, hb1⟩; obtain ⟨hbk0, hbt0, hbw0⟩ := HG.out w1 hb1; have BK := Aside0.mk hbk0; have BT := Aside0.mk hbt0; have HB := Aside0.mk hbw0; clear hbk0 hbt0 hbw0 hb1; obtain ⟨hy0, hy1, hy2, hy3, hy4, hy5⟩ := HX.out w1 HB.out; have hc0 := blk_cell BK.out 0; have hc1 := blk_cell BK.out 1; have hc2 := blk_cell BK.out 2; have hc3 := blk_cell BK.out 3; have hc4 := blk_cell BK.out 4; have hc5 := blk_cell BK.out 5; have hf0 := blk_frozen BK.out 0; have hf1 := blk_frozen BK.out 1; have hf2 := blk_frozen BK.out 2; have hf3 := blk_frozen BK.out 3; have hf4 := blk_frozen BK.out 4; have hf5 := blk_frozen BK.out 5; have hb0 := blk_cell BT.out 0))
    refine bodyPost_ret (results_ct rfl _ _ (w.heap.size + 2) 31 #[.int .i64 y.f0, .int .i64 y.f1, .string y.f2, .int .u64 y.f3, .bool y.f4, .bool y.f5] (0, 0) _ rfl (blk_put (cs := #[.int .i64 y.f0, .int .i64 y.f1, .string y.f2, .int .u64 y.f3, .bool y.f4, .bool false]) (blk_put (cs := #[.int .i64 y.f0, .int .i64 y.f1, .string y.f2, .int .u64 y.f3, .bool false, .bool false]) (blk_put (cs := #[.int .i64 y.f0, .int .i64 y.f1, .string y.f2, .int .u64 0, .bool false, .bool false]) (blk_put (cs := #[.int .i64 y.f0, .int .i64 y.f1, .string ⟨#[]⟩, .int .u64 0, .bool false, .bool false]) (blk_put (cs := #[.int .i64 y.f0, .int .i64 0, .string ⟨#[]⟩, .int .u64 0, .bool false, .bool false]) (blk_put (cs := #[.int .i64 0, .int .i64 0, .string ⟨#[]⟩, .int .u64 0, .bool false, .bool false]) BK.out 0 _ rfl) 1 _ rfl) 2 _ rfl) 3 _ rfl) 4 _ rfl) 5 _ rfl) Tryz.underlying31 rfl (by kernel_rfl)) rfl ?_
    exact ⟨rfl, (below_set (below_set (below_set (below_set (below_set (below_set HB.out (by omega)) (by omega)) (by omega)) (by omega)) (by omega)) (by omega))⟩
end Go.Proofs.YtfdlbnfjohpdlaaGreatDoor.PPo
namespace Go.Proofs.YtfdlbnfjohpdlaaGreatDoor.Th
open Go.RowKit Go.Proofs.YtfdlbnfjohpdlaaGreatDoor.PPo Go.Proofs.YtfdlbnfjohpdlaaGreatDoorW.PrintWords Go.Proofs.YtfdlbnfjohpdlaaGreatDoorW.PrintLast Go.Proofs.YtfdlbnfjohpdlaaGreatDoorW.PrintMore
set_option linter.unusedVariables false
set_option linter.unusedSimpArgs false
def s0 (y : Nat) : Nat := 365 * y + y / 4 - y / 100
def ff (e : Nat) : Nat := e - e / 1460 + e / 36524 - e / 146096
theorem ff_step (e : Nat) (h : e + 1 < 146097) : ff e ≤ ff (e + 1) := by
  unfold ff
  by_cases h1 : e + 1 = 146096
  · obtain rfl : e = 146095 := by omega
    decide
  · have h2 : (e + 1) / 146096 = 0 := by omega
    have h3 : e / 146096 = 0 := by omega
    rw [h2, h3]
    omega
theorem ff_mono {a : Nat} : ∀ {b : Nat}, a ≤ b → b < 146097 → ff a ≤ ff b
  | 0, h, _ => by rw [Nat.le_zero.1 h]; exact Nat.le_refl _
  | b + 1, h, hb => by
    rcases Nat.lt_or_ge a (b + 1) with h1 | h1
    · exact Nat.le_trans (ff_mono (Nat.le_of_lt_succ h1) (by omega)) (ff_step b hb)
    · rw [Nat.le_antisymm h h1]; exact Nat.le_refl _
set_option maxRecDepth 100000 in
theorem ff_at : ∀ y < 400, ff (s0 y) / 365 = y ∧ ff (s0 (y + 1) - 1) / 365 = y ∧ s0 (y + 1) ≤ 146097 := by decide
theorem ff_year (e : Nat) (h : e < 146097) : ff e / 365 < 400 ∧ s0 (ff e / 365) ≤ e ∧ (e < s0 (ff e / 365 + 1) ∨ ff e / 365 = 399) := by
  have h0 : ff e ≤ ff 146096 := ff_mono (by omega) (by omega)
  have h1 : ff 146096 = 145999 := by decide
  have hy : ff e / 365 < 400 := by omega
  obtain ⟨y, hyd⟩ : ∃ y, y = ff e / 365 := ⟨_, rfl⟩
  rw [← hyd] at hy ⊢
  refine ⟨hy, ?_, ?_⟩
  · rcases Nat.lt_or_ge e (s0 y) with h2 | h2
    · obtain ⟨m, rfl⟩ : ∃ m, y = m + 1 := ⟨y - 1, by
        have : y ≠ 0 := by
          rintro rfl
          exact absurd h2 (by show ¬ e < s0 0; unfold s0; omega)
        omega⟩
      have h3 := ff_at m (by omega)
      have h4 : ff e ≤ ff (s0 (m + 1) - 1) := ff_mono (by omega) (by omega)
      have h5 : ff e / 365 ≤ ff (s0 (m + 1) - 1) / 365 := Nat.div_le_div_right h4
      omega
    · exact h2
  · rcases Nat.lt_or_ge e (s0 (y + 1)) with h2 | h2
    · exact .inl h2
    · right
      rcases Nat.lt_or_ge y 399 with h3 | h3
      · have h4 := ff_at (y + 1) (by omega)
        have h5 : ff (s0 (y + 1)) / 365 ≤ ff e / 365 := Nat.div_le_div_right (ff_mono h2 h)
        omega
      · omega
def sY (y : Int) : Int := 365 * y + y / 4 - y / 100 + y / 400
def ez (d : Int) : Int := (d + 719468) % 146097
def yz (d : Int) : Int := (ez d - ez d / 1460 + ez d / 36524 - ez d / 146096) / 365
def yA (d : Int) : Int := yz d + (d + 719468) / 146097 * 400
def doy (d : Int) : Int := ez d - (365 * yz d + yz d / 4 - yz d / 100)
def mpz (d : Int) : Int := (5 * doy d + 2) / 153
theorem yA_ok (d : Int) (h0 : 0 ≤ d) : 0 ≤ yz d ∧ yz d < 400 ∧ sY (yA d) ≤ d + 719468 ∧ d + 719468 < sY (yA d + 1) ∧ doy d = d + 719468 - sY (yA d) := by
  obtain ⟨e, he⟩ : ∃ e : Nat, (e : Int) = ez d := ⟨(ez d).toNat, by unfold ez; omega⟩
  have hlt : e < 146097 := by unfold ez at he; omega
  have hyz : yz d = ((ff e / 365 : Nat) : Int) := by
    unfold yz ff
    rw [← he]
    omega
  obtain ⟨h1, h2, h3⟩ := ff_year e hlt
  generalize ff e / 365 = y at hyz h1 h2 h3
  have hz : d + 719468 = 146097 * ((d + 719468) / 146097) + e := by unfold ez at he; omega
  obtain ⟨n, hn⟩ : ∃ n, n = (d + 719468) / 146097 := ⟨_, rfl⟩
  rw [← hn] at hz
  have ha : ∀ y n : Int, 0 ≤ y → y < 400 → sY (y + n * 400) = 365 * y + y / 4 - y / 100 + 146097 * n := fun y n h1 h2 => by unfold sY; omega
  have hb : sY (400 + n * 400) = 146097 * n + 146097 := by unfold sY; omega
  have hyA : yA d = (y : Int) + n * 400 := by unfold yA; rw [hyz, hn]
  have hs : sY (yA d) = (s0 y : Int) + 146097 * n := by rw [hyA, ha _ _ (by omega) (by omega)]; unfold s0; omega
  have hdoy : doy d = e - (s0 y : Int) := by unfold doy; rw [← he, hyz]; unfold s0; omega
  refine ⟨by omega, by omega, by omega, ?_, by omega⟩
  rw [hyA]
  rcases h3 with h3 | h3
  · rcases Nat.lt_or_ge (y + 1) 400 with h4 | h4
    · rw [show (y : Int) + n * 400 + 1 = ((y + 1 : Nat) : Int) + n * 400 by omega, ha _ _ (by omega) (by omega)]
      unfold s0 at h3
      omega
    · rw [show (y : Int) + n * 400 + 1 = 400 + n * 400 by omega, hb]
      omega
  · rw [show (y : Int) + n * 400 + 1 = 400 + n * 400 by omega, hb]
    omega
def lp (y : Int) : Int := if y % 4 = 0 ∧ y % 100 ≠ 0 ∨ y % 400 = 0 then 1 else 0
theorem sY_step (y : Int) : sY (y + 1) = sY y + 365 + lp (y + 1) := by
  unfold sY lp
  split <;> omega
def jY (y : Int) : Int := sY (y - 1) + 306
theorem jY_step (y : Int) : jY (y + 1) = jY y + 365 + lp y := by
  have := sY_step (y - 1)
  unfold jY
  rw [show y - 1 + 1 = y by omega] at this
  rw [show y + 1 - 1 = y by omega]
  omega
theorem lp_01 (y : Int) : lp y = 0 ∨ lp y = 1 := by unfold lp; split <;> simp
def lg (y m : Int) : Int := if m = 4 ∨ m = 6 ∨ m = 9 ∨ m = 11 then 30 else if m = 2 then 28 + lp y else 31
theorem lg_bd (y m : Int) : 0 ≤ lg y m ∧ lg y m ≤ 31 := by
  have := lp_01 y
  unfold lg
  repeat' split
  all_goals omega
theorem jY_mono (y : Int) : ∀ n : Nat, jY y ≤ jY (y + n)
  | 0 => by simp
  | n + 1 => by
    have h1 := jY_mono y n
    have h2 := jY_step (y + n)
    have h3 := lp_01 (y + n)
    rw [show y + ((n + 1 : Nat) : Int) = y + n + 1 by omega]
    omega
def cm (y m : Int) : Int := if m ≤ 2 then 31 * (m - 1) else (153 * (m - 3) + 2) / 5 + 59 + lp y
theorem cm_step (y m : Int) (h1 : 1 ≤ m) (h2 : m ≤ 12) : cm y (m + 1) = cm y m + lg y m := by
  have hm : m = 1 ∨ m = 2 ∨ m = 3 ∨ m = 4 ∨ m = 5 ∨ m = 6 ∨ m = 7 ∨ m = 8 ∨ m = 9 ∨ m = 10 ∨ m = 11 ∨ m = 12 := by omega
  rcases hm with rfl | rfl | rfl | rfl | rfl | rfl | rfl | rfl | rfl | rfl | rfl | rfl <;> simp [cm, lg] <;> omega
def yr (d : Int) : Int := if mpz d < 10 then yA d else yA d + 1
def mo (d : Int) : Int := if mpz d < 10 then mpz d + 3 else mpz d - 9
theorem yr_ok (d : Int) (h0 : 0 ≤ d) : jY (yr d) ≤ d + 719468 ∧ d + 719468 < jY (yr d + 1) ∧ 1 ≤ mo d ∧ mo d ≤ 12 ∧ cm (yr d) (mo d) ≤ d + 719468 - jY (yr d) ∧ d + 719468 - jY (yr d) < cm (yr d) (mo d + 1) ∧ 0 ≤ doy d ∧ doy d ≤ 365 ∧ 0 ≤ mpz d ∧ mpz d ≤ 11 := by
  obtain ⟨a1, a2, a3, a4, a5⟩ := yA_ok d h0
  have hst := sY_step (yA d)
  have hst0 := sY_step (yA d - 1)
  rw [show yA d - 1 + 1 = yA d by omega] at hst0
  have hl := lp_01 (yA d)
  have hl1 := lp_01 (yA d + 1)
  obtain ⟨z, hz⟩ : ∃ z, z = d + 719468 := ⟨_, rfl⟩
  rw [← hz] at a3 a4 a5 ⊢
  obtain ⟨q, hq⟩ : ∃ q, q = doy d := ⟨_, rfl⟩
  have hmp : mpz d = (5 * q + 2) / 153 := by unfold mpz; rw [← hq]
  rw [← hq] at a5 ⊢
  obtain ⟨p, hp⟩ : ∃ p, p = mpz d := ⟨_, rfl⟩
  rw [← hp] at hmp ⊢
  unfold yr mo
  rw [← hp]
  generalize yA d = y at a3 a4 a5 hst hst0 hl hl1 ⊢
  clear hz hq hp a1 a2 h0
  by_cases h10 : p < 10
  · rw [if_pos h10, if_pos h10]
    have hj : jY y = sY (y - 1) + 306 := rfl
    have hj1 : jY (y + 1) = sY y + 306 := by unfold jY; rw [show y + 1 - 1 = y by omega]
    have hc : cm y (p + 3) = (153 * p + 2) / 5 + 59 + lp y := by
      unfold cm
      rw [if_neg (by omega), show p + 3 - 3 = p by omega]
    have hc1 : cm y (p + 3 + 1) = (153 * (p + 1) + 2) / 5 + 59 + lp y := by
      unfold cm
      rw [if_neg (by omega), show p + 3 + 1 - 3 = p + 1 by omega]
    rw [hc, hc1, hj, hj1]
    omega
  · rw [if_neg h10, if_neg h10]
    have hj : jY (y + 1) = sY y + 306 := by unfold jY; rw [show y + 1 - 1 = y by omega]
    have hj1 : jY (y + 1 + 1) = sY (y + 1) + 306 := by unfold jY; rw [show y + 1 + 1 - 1 = y + 1 by omega]
    have hp2 : p = 10 ∨ p = 11 := by omega
    rw [hj, hj1]
    rcases hp2 with rfl | rfl
    · rw [show cm (y + 1) (10 - 9) = 0 from rfl, show cm (y + 1) (10 - 9 + 1) = 31 from rfl]
      omega
    · rw [show cm (y + 1) (11 - 9) = 31 from rfl, show cm (y + 1) (11 - 9 + 1) = 59 + lp (y + 1) by simp [cm]]
      omega
theorem yr_bd (d : Int) (h0 : 0 ≤ d) (h1 : d ≤ 281474976710656) : 0 ≤ yr d ∧ yr d ≤ 10000000000000 := by
  obtain ⟨a1, a2, _, _, _⟩ := yA_ok d h0
  unfold yr yA
  split <;> omega
theorem tdw {a b c : Int} (h : a / b = c) (h0 : 0 ≤ a) (h1 : 0 ≤ c) (h2 : c ≤ 1000000000000000000) : wrap64 (Int.tdiv a b) = c := by rw [Int.tdiv_eq_ediv_of_nonneg h0, h, wrap64_id (by omega) (by omega)]
theorem civil_ev (d : Int) (h0 : 0 ≤ d) (h1 : d ≤ 281474976710656) : Evt (fun k => date_Civil.f k d) (yr d, mo d, doy d - (153 * mpz d + 2) / 5 + 1) := by
  obtain ⟨a1, a2, _, _, _⟩ := yA_ok d h0
  obtain ⟨_, _, _, _, _, _, b7, b8, b9, b10⟩ := yr_ok d h0
  have hyr : yr d = if mpz d < 10 then yA d else yA d + 1 := rfl
  have hmo : mo d = if mpz d < 10 then mpz d + 3 else mpz d - 9 := rfl
  have hyA : yA d = yz d + (d + 719468) / 146097 * 400 := rfl
  have hp : mpz d = (5 * doy d + 2) / 153 := rfl
  have hq : doy d = ez d - (365 * yz d + yz d / 4 - yz d / 100) := rfl
  have hy : yz d = (ez d - ez d / 1460 + ez d / 36524 - ez d / 146096) / 365 := rfl
  have he : ez d = (d + 719468) % 146097 := rfl
  rw [hyr, hmo, hyA]
  clear hyr hmo hyA
  generalize mpz d = p at *
  generalize doy d = q at *
  generalize yz d = y at *
  generalize ez d = e at *
  obtain ⟨z, hz⟩ : ∃ z, z = d + 719468 := ⟨_, rfl⟩
  obtain ⟨n, hn⟩ : ∃ n, n = z / 146097 := ⟨_, rfl⟩
  rw [← hz] at he ⊢
  rw [← hn]
  have w1 : wrap64 (d + 719468) = z := by rw [wrap64_id (by omega) (by omega), hz]
  have w2 : Int.tmod z 146097 = e := by rw [Int.tmod_eq_emod_of_nonneg (by omega), he]
  have w3 : wrap64 (Int.tdiv z 146097) = n := tdw hn.symm (by omega) (by omega) (by omega)
  have w4 : wrap64 (Int.tdiv e 1460) = e / 1460 := tdw rfl (by omega) (by omega) (by omega)
  have w5 : wrap64 (Int.tdiv e 36524) = e / 36524 := tdw rfl (by omega) (by omega) (by omega)
  have w6 : wrap64 (Int.tdiv e 146096) = e / 146096 := tdw rfl (by omega) (by omega) (by omega)
  have w7 : wrap64 (e - e / 1460) = e - e / 1460 := wrap64_id (by omega) (by omega)
  have w8 : wrap64 (e - e / 1460 + e / 36524) = e - e / 1460 + e / 36524 := wrap64_id (by omega) (by omega)
  have w9 : wrap64 (e - e / 1460 + e / 36524 - e / 146096) = e - e / 1460 + e / 36524 - e / 146096 := wrap64_id (by omega) (by omega)
  have w10 : wrap64 (Int.tdiv (e - e / 1460 + e / 36524 - e / 146096) 365) = y := tdw hy.symm (by omega) (by omega) (by omega)
  have w11 : wrap64 (365 * y) = 365 * y := wrap64_id (by omega) (by omega)
  have w12 : wrap64 (Int.tdiv y 4) = y / 4 := tdw rfl (by omega) (by omega) (by omega)
  have w13 : wrap64 (Int.tdiv y 100) = y / 100 := tdw rfl (by omega) (by omega) (by omega)
  have w14 : wrap64 (365 * y + y / 4) = 365 * y + y / 4 := wrap64_id (by omega) (by omega)
  have w15 : wrap64 (365 * y + y / 4 - y / 100) = 365 * y + y / 4 - y / 100 := wrap64_id (by omega) (by omega)
  have w16 : wrap64 (e - (365 * y + y / 4 - y / 100)) = q := by rw [← hq, wrap64_id (by omega) (by omega)]
  have w17 : wrap64 (5 * q) = 5 * q := wrap64_id (by omega) (by omega)
  have w18 : wrap64 (5 * q + 2) = 5 * q + 2 := wrap64_id (by omega) (by omega)
  have w19 : wrap64 (Int.tdiv (5 * q + 2) 153) = p := tdw hp.symm (by omega) (by omega) (by omega)
  have w20 : wrap64 (p + 3) = p + 3 := wrap64_id (by omega) (by omega)
  have w21 : wrap64 (p + 3 - 12) = p - 9 := by rw [wrap64_id (by omega) (by omega)]; omega
  have w22 : wrap64 (n * 400) = n * 400 := wrap64_id (by omega) (by omega)
  have w23 : wrap64 (y + n * 400) = y + n * 400 := wrap64_id (by omega) (by omega)
  have w24 : wrap64 (y + n * 400 + 1) = y + n * 400 + 1 := wrap64_id (by omega) (by omega)
  have w25 : wrap64 (153 * p) = 153 * p := wrap64_id (by omega) (by omega)
  have w26 : wrap64 (153 * p + 2) = 153 * p + 2 := wrap64_id (by omega) (by omega)
  have w27 : wrap64 (Int.tdiv (153 * p + 2) 5) = (153 * p + 2) / 5 := tdw rfl (by omega) (by omega) (by omega)
  have w28 : wrap64 (q - (153 * p + 2) / 5) = q - (153 * p + 2) / 5 := wrap64_id (by omega) (by omega)
  have w29 : wrap64 (q - (153 * p + 2) / 5 + 1) = q - (153 * p + 2) / 5 + 1 := wrap64_id (by omega) (by omega)
  clear hz hn he hy hq hp
  unfold date_Civil.f
  refine Evt.neg (by omega) ?_
  refine Evt.step (fun k => by rw [date_Civil.j0]) ?_
  refine Evt.neg (by simp; omega) ?_
  simp only [w1, w2, w3, w4, w5, w6, w7, w8, w9, w10, w11, w12, w13, w14, w15, w16, w17, w18, w19, w20, w21, w22, w23, w24, w25, w26, w27, w28, w29]
  by_cases h10 : p < 10
  · rw [if_pos h10, if_pos h10]
    exact Evt.neg (by omega) (Evt.val _)
  · rw [if_neg h10, if_neg h10]
    exact Evt.pos (by omega) (Evt.val _)
def bk (tier sec : Int) : Int := if tier = 0 then sec / 86400 else if tier = 1 then (sec / 86400 + 3) / 7 else if tier = 2 then 12 * yr (sec / 86400) + mo (sec / 86400) - 1 else if tier = 3 then yr (sec / 86400) else 0
theorem day_eq (sec : Int) (h0 : 0 ≤ sec) (h1 : sec < 18446744073709551616) : wrap64 (IntKind.u64.wrap (Int.tdiv sec 86400)) = sec / 86400 := by
  rw [Int.tdiv_eq_ediv_of_nonneg h0]
  have : IntKind.u64.wrap (sec / 86400) = sec / 86400 := by rw [IntKind.wrap_u64]; omega
  rw [this, wrap64_id (by omega) (by omega)]
theorem bucket_ev (tier sec : Int) (h0 : 0 ≤ sec) (h1 : sec < 18446744073709551616) : Evt (fun k => date_Bucket.f k tier sec) (bk tier sec) := by
  obtain ⟨c1, c2⟩ := yr_bd (sec / 86400) (by omega) (by omega)
  obtain ⟨_, _, c3, c4, _⟩ := yr_ok (sec / 86400) (by omega)
  unfold date_Bucket.f bk
  rw [day_eq sec h0 h1]
  refine Evt.bind (civil_ev (sec / 86400) (by omega) (by omega)) ?_
  refine Evt.of fun _ => ?_
  dsimp only
  generalize yr (sec / 86400) = Y at *
  generalize mo (sec / 86400) = M at *
  have w1 : wrap64 (sec / 86400 + 3) = sec / 86400 + 3 := wrap64_id (by omega) (by omega)
  have w2 : wrap64 (Int.tdiv (sec / 86400 + 3) 7) = (sec / 86400 + 3) / 7 := tdw rfl (by omega) (by omega) (by omega)
  have w3 : wrap64 (12 * Y) = 12 * Y := wrap64_id (by omega) (by omega)
  have w4 : wrap64 (12 * Y + M) = 12 * Y + M := wrap64_id (by omega) (by omega)
  have w5 : wrap64 (12 * Y + M - 1) = 12 * Y + M - 1 := wrap64_id (by omega) (by omega)
  simp only [w1, w2, w3, w4, w5]
  repeat' split
  all_goals rfl
end Go.Proofs.YtfdlbnfjohpdlaaGreatDoor.Th
namespace Go.Proofs.YtfdlbnfjohpdlaaGreatDoor.Th
open Go.RowKit Go.Proofs.YtfdlbnfjohpdlaaGreatDoor.PPo Go.Proofs.YtfdlbnfjohpdlaaGreatDoorW.PrintWords
set_option linter.unusedVariables false
theorem jY_le {a b : Int} (h : a ≤ b) : jY a ≤ jY b := by
  have := jY_mono a (b - a).toNat
  rwa [show a + (((b - a).toNat : Nat) : Int) = b by omega] at this
theorem yr_mono {a b : Int} (h0 : 0 ≤ a) (h : a ≤ b) : yr a ≤ yr b := by
  obtain ⟨x1, x2, _⟩ := yr_ok a h0
  obtain ⟨y1, y2, _⟩ := yr_ok b (by omega)
  rcases Int.lt_or_le (yr b) (yr a) with h1 | h1
  · have := jY_le (show yr b + 1 ≤ yr a by omega)
    omega
  · exact h1
theorem cm_le {y m n : Int} (h : m ≤ n) (h1 : 1 ≤ m) (h2 : n ≤ 13) : cm y m ≤ cm y n := by
  have key : ∀ k : Nat, m + k ≤ 13 → cm y m ≤ cm y (m + k) := by
    intro k
    induction k with
    | zero => intro _; simp
    | succ k ih =>
      intro hk
      have h3 := ih (by omega)
      have h4 := cm_step y (m + k) (by omega) (by omega)
      have h5 := lg_bd y (m + k)
      rw [show m + ((k + 1 : Nat) : Int) = m + k + 1 by omega]
      omega
  have := key (n - m).toNat (by omega)
  rwa [show m + (((n - m).toNat : Nat) : Int) = n by omega] at this
theorem ym_mono {a b : Int} (h0 : 0 ≤ a) (h : a ≤ b) : 12 * yr a + mo a ≤ 12 * yr b + mo b := by
  have hy := yr_mono h0 h
  obtain ⟨x1, x2, x3, x4, x5, x6, _⟩ := yr_ok a h0
  obtain ⟨y1, y2, y3, y4, y5, y6, _⟩ := yr_ok b (by omega)
  rcases Int.lt_or_le (yr a) (yr b) with h1 | h1
  · omega
  · have he : yr b = yr a := by omega
    rw [he] at y1 y2 y5 y6 ⊢
    rcases Int.lt_or_le (mo b) (mo a) with h2 | h2
    · have := cm_le (y := yr a) (show mo b + 1 ≤ mo a by omega) (by omega) (by omega)
      omega
    · omega
theorem bk_mono (t : Int) {a b : Int} (h0 : 0 ≤ a) (h : a ≤ b) : bk t a ≤ bk t b := by
  have hd : a / 86400 ≤ b / 86400 := by omega
  have h1 := yr_mono (show 0 ≤ a / 86400 by omega) hd
  have h2 := ym_mono (show 0 ≤ a / 86400 by omega) hd
  unfold bk
  repeat' split
  all_goals omega
end Go.Proofs.YtfdlbnfjohpdlaaGreatDoor.Th
namespace Go.Proofs.YtfdlbnfjohpdlaaGreatDoor.Th
open Go.RowKit Go.Proofs.YtfdlbnfjohpdlaaGreatDoor.PPo Go.Proofs.YtfdlbnfjohpdlaaGreatDoorW.PrintWords
set_option linter.unusedVariables false
set_option linter.unusedSimpArgs false
abbrev Lk := S31
def Tm (x : Lk) : Prop := 0 ≤ x.f3 ∧ x.f3 < 18446744073709551616
def latGo (tier many : Int) : Option Int → List Int → List Lk → List Int
  | _, ids, [] => ids
  | b, ids, x :: r => if b = some (bk tier x.f3) then latGo tier many b ids r else latGo tier many (some (bk tier x.f3)) (if (ids.length : Int) < many then ids ++ [x.f0] else ids) r
def latV (tier many : Int) (l : List Lk) : List Int := latGo tier many none [] l
theorem rdL_mid (d : List Lk) (s : Lk) (r : List Lk) : rd_T31 (d ++ s :: r) (d.length : Int) = s := by simp [rd_T31]
theorem idxP (n : Nat) (h : n ≤ 100000) : wrap64 ((n : Int) + 1) = ((n + 1 : Nat) : Int) := by rw [wrap64_id (by omega) (by omega)]; rfl
theorem latest_ev (tier many : Int) (l : List Lk) (hl : l.length ≤ 1000) (ht : ∀ x ∈ l, Tm x) : Evt (fun k => policy_latest.f k l tier many) (latV tier many l) := by
  have key : ∀ (r d : List Lk) (ids : List Int) (last : Int), l = d ++ r → ids.length ≤ d.length →
      Evt (fun k => policy_latest.l0 k tier many ids last l (l.length : Int) (d.length : Int)) (latGo tier many (if d.length = 0 then none else some last) ids r) := by
    intro r
    induction r with
    | nil =>
      intro d ids last hd hi
      rw [List.append_nil] at hd
      subst hd
      refine Evt.step (fun k => by rw [policy_latest.l0]) ?_
      exact Evt.neg (by omega) (Evt.val _)
    | cons x r ih =>
      intro d ids last hd hi
      have hlen : l.length = d.length + (r.length + 1) := by rw [hd]; simp
      have hr1 : rd_T31 l (d.length : Int) = x := by
        have := rdL_mid d x r
        rwa [← hd] at this
      obtain ⟨t0, t1⟩ := ht x (by rw [hd]; simp)
      refine Evt.step (fun k => by rw [policy_latest.l0]) ?_
      refine Evt.pos (by omega) ?_
      refine Evt.pos (by omega) ?_
      refine Evt.pos (by omega) ?_
      rw [hr1]
      refine Evt.bind (bucket_ev tier x.f3 t0 t1) ?_
      have hn : ∀ ids' last', ids'.length ≤ d.length + 1 → Evt (fun k => policy_latest.l0 k tier many ids' last' l (l.length : Int) (wrap64 ((d.length : Int) + 1))) (latGo tier many (some last') ids' r) := fun ids' last' h => by
        have := ih (d ++ [x]) ids' last' (by rw [hd]; simp) (by simpa using h)
        rw [List.length_append] at this
        rw [idxP _ (by omega)]
        have he : d.length + [x].length ≠ 0 := by simp
        rw [if_neg he] at this
        exact this
      have hj : ∀ sk : Bool, sk = decide (d.length ≠ 0 ∧ bk tier x.f3 = last) → Evt (fun k => policy_latest.j1 k tier many ids last (bk tier x.f3) l (l.length : Int) (d.length : Int) sk x.f0 x.f1 x.f2 x.f3 x.f4 x.f5) (latGo tier many (if d.length = 0 then none else some last) ids (x :: r)) := fun sk hsk => by
        refine Evt.step (fun k => by rw [policy_latest.j1]) ?_
        by_cases hc : d.length ≠ 0 ∧ bk tier x.f3 = last
        · refine Evt.pos (by rw [hsk]; exact decide_eq_true hc) ?_
          rw [if_neg hc.1]
          show Evt _ (if some last = some (bk tier x.f3) then _ else _)
          rw [if_pos (by rw [hc.2])]
          exact hn ids last (by omega)
        · refine Evt.neg (by rw [hsk, decide_eq_false hc]; decide) ?_
          show Evt _ (if (if d.length = 0 then none else some last) = some (bk tier x.f3) then _ else _)
          rw [if_neg (by
            intro h
            by_cases h0 : d.length = 0
            · rw [if_pos h0] at h; cases h
            · rw [if_neg h0] at h
              exact hc ⟨h0, (Option.some.inj h).symm⟩)]
          by_cases hm : (ids.length : Int) < many
          · rw [if_pos hm]
            refine Evt.pos hm ?_
            refine Evt.pos (by omega) ?_
            exact hn _ _ (by simp; omega)
          · rw [if_neg hm]
            refine Evt.neg hm ?_
            exact hn _ _ (by omega)
      by_cases h0 : d.length = 0
      · refine Evt.neg (by omega) ?_
        exact hj false (by simp [h0])
      · refine Evt.pos (by omega) ?_
        exact hj (bk tier x.f3 == last) (by
          by_cases hb : bk tier x.f3 = last
          · simp [hb, h0]
          · simp [hb])
  unfold policy_latest.f latV
  exact key l [] [] 0 rfl (Nat.le_refl _)
end Go.Proofs.YtfdlbnfjohpdlaaGreatDoor.Th
namespace Go.Proofs.YtfdlbnfjohpdlaaGreatDoor.Th
open Go.RowKit Go.Lib Go.Proofs.YtfdlbnfjohpdlaaGreatDoor.PPo Go.Proofs.YtfdlbnfjohpdlaaGreatDoorW.PrintWords
set_option linter.unusedVariables false
abbrev lk (l : List Lk) (i : Nat) : Lk := rd_T31 l (i : Int)
theorem lk_get {l : List Lk} {i : Nat} (h : i < l.length) : lk l i = l[i] := by simp [lk, rd_T31, List.getD_eq_getElem?_getD, h]
def hasId (id : Int) (l : List Lk) : Bool := l.any fun x => x.f0 == id
theorem findL_snd (id : Int) (l : List Lk) : (findL id l).2 = hasId id l := by
  unfold findL hasId
  cases h : l.findIdx? (fun x => x.f0 == id) with
  | none =>
    rw [List.findIdx?_eq_none_iff] at h
    rw [Bool.eq_iff_iff, List.any_eq_true]
    constructor
    · intro h1; cases h1
    · rintro ⟨x, hx, h1⟩
      have := h x hx
      rw [h1] at this
      cases this
  | some i =>
    rw [List.findIdx?_eq_some_iff_getElem] at h
    obtain ⟨h1, h2, _⟩ := h
    rw [Bool.eq_iff_iff, List.any_eq_true]
    exact ⟨fun _ => ⟨l[i], List.getElem_mem h1, h2⟩, fun _ => rfl⟩
def wellB (x : Lk) : Bool := if x.f4 = true then (decide (x.f2.toList = ([] : List UInt8)) && (decide (x.f3 = 0) && !x.f5)) else labB x.f2.data.toList
def firstB (x : Lk) : Bool := decide (x.f0 = 1) && (decide (x.f1 = 0) && !x.f4)
def okAt (l : List Lk) (i : Nat) : Bool := wellB (lk l i) && (if i = 0 then firstB (lk l 0) else hasId (lk l i).f1 (l.take i) && decide ((lk l (i - 1)).f0 < (lk l i).f0))
def rightT (l : List Lk) (live next : Int) : Bool := decide (0 < l.length) && (decide (l.length ≤ 60) && ((List.range l.length).all (okAt l) && (hasId live l && (decide ((lk l (l.length - 1)).f0 < next) && decide (next ≤ 2147483647)))))
theorem rightT_iff {l : List Lk} {live next : Int} : rightT l live next = true ↔ 0 < l.length ∧ l.length ≤ 60 ∧ (∀ i, i < l.length → okAt l i = true) ∧ hasId live l = true ∧ (lk l (l.length - 1)).f0 < next ∧ next ≤ 2147483647 := by
  simp only [rightT, Bool.and_eq_true, decide_eq_true_eq, List.all_eq_true, List.mem_range]
theorem ids_up {l : List Lk} (h : ∀ i, i < l.length → okAt l i = true) : l.Pairwise fun a b => a.f0 < b.f0 := by
  rw [List.pairwise_iff_getElem]
  intro i j hi hj hij
  induction j with
  | zero => omega
  | succ j ih =>
    have h1 := h (j + 1) hj
    simp only [okAt, Nat.add_one_ne_zero, if_false, Bool.and_eq_true, decide_eq_true_eq, Nat.add_sub_cancel] at h1
    have h2 := h1.2.2
    rw [lk_get hj, lk_get (by omega)] at h2
    by_cases e : i = j
    · subst e; exact h2
    · have := ih (by omega) (by omega)
      omega
end Go.Proofs.YtfdlbnfjohpdlaaGreatDoor.Th
namespace Go.Proofs.YtfdlbnfjohpdlaaGreatDoor.PPo
open Go.RowKit Go.Proofs.YtfdlbnfjohpdlaaGreatDoorW.PrintWords Go.Proofs.YtfdlbnfjohpdlaaGreatDoorW.PrintLast Go.Proofs.YtfdlbnfjohpdlaaGreatDoorW.PrintMore
set_option linter.unusedVariables false
set_option linter.unusedSimpArgs false
section
open Go.Sort
variable {α : Type} [Inhabited α] {enc : α → List Value} {k : Nat}
theorem hw_flat_list (xs : List α) (hk : ∀ x, (enc x).length = k) (inner : List Value) (hr : Reps (fun x cs => cs = enc x) k xs inner) : (flatK enc k xs.toArray).toList = inner := by
  have hl := hr.1
  apply List.ext_getElem
  · simp [hl]
  · intro t h1 h2
    have ht : t < xs.length * k := by omega
    have hk0 : 0 < k := by rcases Nat.eq_zero_or_pos k with h | h; · subst h; simp at ht
                           · exact h
    have hq : t / k < xs.length := Nat.div_lt_of_lt_mul (by rw [Nat.mul_comm]; exact ht)
    have hp := hr.2 (t / k) xs[t / k] (List.getElem?_eq_getElem hq)
    have e1 : (flatK enc k xs.toArray).toList[t] = (flatK enc k xs.toArray)[t]! := by
      rw [getElem!_pos (flatK enc k xs.toArray) t (by simpa using ht)]; simp
    rw [e1, get_flatK _ _ _ _ (by simpa using ht)]
    have e2 : (xs.toArray)[t / k]! = xs[t / k] := by rw [getElem!_pos xs.toArray (t / k) (by simpa using hq)]; simp
    rw [e2, ← hp]
    have hm : t % k < k := Nat.mod_lt _ hk0
    have e3 : t / k * k + t % k = t := Nat.div_add_mod' t k
    have hlen : t % k < ((inner.drop (t / k * k)).take k).length := by
      rw [hp, hk]; exact hm
    rw [getElem!_pos ((inner.drop (t / k * k)).take k) (t % k) hlen]
    simp [e3]
theorem hw_holds {w : World} {base e g cap : Nat} {xs : List α} {inner : List Value} (hk : ∀ x, (enc x).length = k) (ho : w.ownsRow base e k (.slice (some ⟨g, 0, none⟩) xs.length cap) xs.length inner) (hr : Reps (fun x cs => cs = enc x) k xs inner) : HoldsK enc k w g 0 xs.toArray := by
  have hf := hw_flat_list xs hk inner hr
  rcases ho.2 with ⟨h, _⟩ | ⟨g', cap', cur, he, hb, hh, h1, h2, h3, h4⟩
  · simp at h
  · simp only [Value.slice.injEq, Option.some.injEq, Addr.mk.injEq] at he
    obtain ⟨⟨rfl, _⟩, _, rfl⟩ := he
    intro j hj
    have hj' : j < xs.length * k := by simpa using hj
    have hle : xs.length * k ≤ cap * k := Nat.mul_le_mul_right _ h1
    have hc : j < cur.size := by omega
    have e1 : (flatK enc k xs.toArray)[j]! = cur[j] := by
      rw [getElem!_pos (flatK enc k xs.toArray) j hj]
      have : (flatK enc k xs.toArray).toList[j]'(by simpa using hj') = (cur.toList.take (xs.length * k))[j]'(by simp; omega) := by
        congr 1; rw [hf, h4]
      simpa using this
    refine ⟨?_, ?_⟩
    · simp only [World.cell?, hh]
      simp [e1, hc]
    · simp [World.frozen?, hh]
theorem hw_sorted {w : World} {base e g cap m : Nat} {xs : List α} {inner : List Value} {d' : Array α} {os : Array Obj} (hk : ∀ x, (enc x).length = k)
    (ho : w.ownsRow base e k (.slice (some ⟨g, 0, none⟩) xs.length cap) xs.length inner) (hs : d'.size = xs.length) :
    (sortWorldK enc k w g 0 m d' os).ownsRow base e k (.slice (some ⟨g, 0, none⟩) xs.length cap) xs.length (flatK enc k d').toList ∧ w.grownBy (sortWorldK enc k w g 0 m d' os) (some g) := by
  have hgl := own_lt ho g (by simp [Value.ownBlock])
  rcases ho.2 with ⟨h, _⟩ | ⟨g', cap', cur, he, hb, hh, h1, h2, h3, h4⟩
  · simp at h
  · simp only [Value.slice.injEq, Option.some.injEq, Addr.mk.injEq] at he
    obtain ⟨⟨rfl, _⟩, _, rfl⟩ := he
    have hle : xs.length * k ≤ cap * k := Nat.mul_le_mul_right _ h1
    have hblk : (sortWorldK enc k w g 0 m d' os).heap[g]? = some (.cells (putCells id 0 (flatK enc k d') cur) e (0, 0)) := by
      unfold sortWorldK putRowK putRow
      rw [heap_grow_old _ _ (by simpa [mapBlock] using hgl)]
      simp [mapBlock, Array.getElem?_modify, hh, onCells]
    refine ⟨⟨by simp [hs], .inr ⟨g, cap, _, rfl, hb, hblk, h1, h2, by simp [putCells, h3], ?_⟩⟩, ?_⟩
    · apply List.ext_getElem
      · simp only [List.length_take, Array.length_toList, size_flatK, hs]
        rw [show (putCells id 0 (flatK enc k d') cur).size = cap * k by simp [putCells, h3], Nat.min_eq_left hle]
      · intro t ht1 ht2
        have ht : t < d'.size * k := by simpa using ht2
        simp [putCells, Array.getElem_mapIdx, ht, getElem!_pos (flatK enc k d') t (by simpa using ht)]
    · refine ⟨rfl, rfl, rfl, ?_, ?_⟩
      · simp [sortWorldK, putRowK]
      · intro i hi hne
        have hig : g ≠ i := fun h => hne (by rw [h])
        unfold sortWorldK putRowK putRow
        rw [heap_grow_old _ _ (by simpa [mapBlock] using hi)]
        simp [mapBlock, Array.getElem?_modify, hig]
theorem hw_reps (d' : Array α) (hk : ∀ x, (enc x).length = k) : Reps (fun x cs => cs = enc x) k d'.toList (flatK enc k d').toList := by
  refine ⟨by simp, fun j p hj => ?_⟩
  obtain ⟨hjl, hp⟩ := List.getElem?_eq_some_iff.1 hj
  have hjl' : j < d'.size := by simpa using hjl
  subst hp
  have hle : j * k + k ≤ d'.size * k := by rw [← Nat.succ_mul]; exact Nat.mul_le_mul_right _ hjl'
  apply List.ext_getElem
  · simp [hk]; omega
  · intro t h1 h2
    have ht : t < k := by simpa [hk] using h2
    have hlt : j * k + t < d'.size * k := by omega
    have hq : (j * k + t) / k = j := (blk_iff k j _ (by omega)).1 ⟨by omega, by omega⟩
    have hm : (j * k + t) % k = t := by rw [Nat.mod_eq_sub_div_mul, hq]; omega
    have e1 : (flatK enc k d')[j * k + t]'(by simpa using hlt) = (flatK enc k d')[j * k + t]! := by rw [getElem!_pos (flatK enc k d') (j * k + t) (by simpa using hlt)]
    simp only [List.getElem_take, List.getElem_drop, Array.getElem_toList]
    rw [e1, get_flatK _ _ _ _ hlt, hq, hm, getElem!_pos d' j hjl', getElem!_pos (enc d'[j]) t (by rw [hk]; exact ht)]
end
section
open Go.Sort
def nwr (x y : S31) : Prop := y.f3 < x.f3 ∨ (y.f3 = x.f3 ∧ y.f0 < x.f0)
instance (x y : S31) : Decidable (nwr x y) := by unfold nwr; infer_instance
theorem orI_neg (a b c d : Int) : orI (cmpI a b) (cmpI c d) < 0 ↔ a < b ∨ (a = b ∧ c < d) := by
  unfold orI cmpI
  by_cases h1 : a < b
  · rw [if_pos h1, if_neg (by decide)]
    exact ⟨fun _ => .inl h1, fun _ => by decide⟩
  · rw [if_neg h1]
    by_cases h2 : b < a
    · rw [if_pos h2, if_neg (by decide)]
      exact ⟨fun h => absurd h (by decide), fun h => by omega⟩
    · rw [if_neg h2, if_pos rfl]
      by_cases h3 : c < d
      · rw [if_pos h3]
        exact ⟨fun _ => .inr ⟨by omega, h3⟩, fun _ => by decide⟩
      · rw [if_neg h3]
        by_cases h4 : d < c
        · rw [if_pos h4]
          exact ⟨fun h => absurd h (by decide), fun h => by omega⟩
        · rw [if_neg h4]
          exact ⟨fun h => absurd h (by decide), fun h => by omega⟩
theorem ltL (x y : S31) : ltOf cfL x y = decide (nwr x y) := by
  unfold ltOf cfL nwr
  exact decide_eq_decide.2 (orI_neg _ _ _ _)
theorem swoL : SWO (ltOf cfL) where
  irrefl x := by rw [ltL, decide_eq_false_iff_not]; unfold nwr; omega
  trans x y z h1 h2 := by rw [ltL, decide_eq_true_iff] at *; unfold nwr at *; omega
  ntrans x y z h1 h2 := by rw [ltL, decide_eq_false_iff_not] at *; unfold nwr at *; omega
theorem sortedL [Inhabited S31] (d : Array S31) (h : SortedIn (ltOf cfL) 0 d.size d) : d.toList.Pairwise (fun a b => ¬ nwr b a) := by
  rw [List.pairwise_iff_getElem]
  intro i j hi hj hij
  have h1 := h i j (Nat.zero_le _) hij (by simpa using hj)
  rw [ltL] at h1
  have hi' : i < d.size := by simpa using hi
  have hj' : j < d.size := by simpa using hj
  rw [getElem!_pos d i hi', getElem!_pos d j hj'] at h1
  simpa using h1
set_option maxHeartbeats 2000000 in
set_option maxRecDepth 100000 in
theorem sortLink.calls (v : Value) (l0 : List S31) (w : World) (base : Nat) (hR : Kd.R k31 31 w base (fun _ => True) v l0) (hl : l0.length < 4611686018427387904) :
    Calls Tryz.prog 33 #[v, .func (.func 34) #[] #[]] w fun e w' => e = .returned (.tuple #[]) ∧ ∃ l1 : List S31, l1.Perm l0 ∧ l1.Pairwise (fun a b => ¬ nwr b a) ∧ Kd.R k31 31 w' base (fun _ => True) v l1 ∧ w.grownBy w' v.ownBlock := by
  haveI : Inhabited S31 := ⟨z31⟩
  have eg : ∀ args w, (callFunc 34 args).run Tryz.prog w = .ok (.enter 34 args) w := enters_of Tryz.func34 (by kernel_rfl) rfl
  by_cases h0 : l0 = []
  · subst h0
    obtain ⟨A, c, rfl⟩ := Kd.R_slice hR
    refine (AnyF.slices_SortFunc_none Tryz.laySortF A c (.func (.func 34) #[] #[]) w).mono ?_
    rintro e w' ⟨rfl, rfl⟩
    exact ⟨rfl, [], List.Perm.refl _, List.Pairwise.nil, hR, World.grownBy.refl _ _⟩
  · obtain ⟨g, c, rfl, hgb, hgl, hgc⟩ := Kd.R_form hR (List.length_pos_iff.2 h0)
    obtain ⟨_, inner, ho, hr⟩ := hR
    have hr' : Reps (fun x cs => cs = linkC x) 6 l0 inner := ⟨hr.1, fun j p hj => k31_openM (hr.2 j p hj)⟩
    have hH : HoldsK linkC 6 w g 0 l0.toArray := hw_holds (fun _ => rfl) ho hr'
    have hcon := AnyQ.slices_SortFunc Tryz.laySortF 6 Tryz.isAgg31 Tryz.sizeOf31 linkC (fun _ => rfl) (fun x v hv => by simp [linkC] at hv; rcases hv with hv | hv | hv | hv | hv | hv <;> (rw [hv]; rfl)) cfL swoL 34 #[] g 0 c l0.toArray w eg
      (fun _ _ _ _ x y => keepCmp.calls x y _) hH hgl (by simpa using hl)
    refine Calls.mono hcon ?_
    rintro e w' ⟨rfl, d', n, os, hp, hs, rfl⟩
    obtain ⟨hp1, _, hp3⟩ := hp
    have hs1 : d'.size = l0.length := by simpa using hp1
    obtain ⟨h1, h2⟩ := hw_sorted (enc := linkC) (k := 6) (m := n) (os := os) (fun _ => rfl) ho hs1
    refine ⟨rfl, d'.toList, ?_, sortedL d' (by rw [hp1]; exact hs), ⟨fun _ _ => trivial, _, by rw [show d'.toList.length = l0.length by simpa using hs1]; exact h1, ?_⟩, h2⟩
    · have e1 : (d'.extract 0 (l0.toArray).size).toList = d'.toList := by
        rw [show (l0.toArray).size = d'.size by simp [hs1], Array.extract_size]
      have e2 : ((l0.toArray).extract 0 (l0.toArray).size).toList = l0 := by simp
      rw [e1, e2] at hp3
      exact hp3
    · have h3 := hw_reps (enc := linkC) (k := 6) d' (fun _ => rfl)
      exact ⟨h3.1, fun j p hj => by have h4 := h3.2 j p hj; exact h4 ▸ k31_mkM _ _ _ p⟩
end
end Go.Proofs.YtfdlbnfjohpdlaaGreatDoor.PPo
namespace Go.Proofs.YtfdlbnfjohpdlaaGreatDoor.Th
open Go.RowKit Go.Proofs.YtfdlbnfjohpdlaaGreatDoor.PPo Go.Proofs.YtfdlbnfjohpdlaaGreatDoorW.PrintWords
set_option linter.unusedVariables false
def heads (tier : Int) : Option Int → List Lk → List Lk
  | _, [] => []
  | b, x :: r => if b = some (bk tier x.f3) then heads tier b r else x :: heads tier (some (bk tier x.f3)) r
theorem latGo_eq (tier many : Int) : ∀ (l : List Lk) (b : Option Int) (ids : List Int), latGo tier many b ids l = ids ++ ((heads tier b l).map (·.f0)).take (many.toNat - ids.length)
  | [], _, ids => by simp [latGo, heads]
  | x :: r, b, ids => by
    unfold latGo heads
    by_cases hb : b = some (bk tier x.f3)
    · rw [if_pos hb, if_pos hb]
      exact latGo_eq tier many r b ids
    · rw [if_neg hb, if_neg hb, latGo_eq tier many r]
      by_cases hm : (ids.length : Int) < many
      · rw [if_pos hm, List.map_cons, List.append_assoc, List.length_append, List.length_singleton, show many.toNat - ids.length = (many.toNat - (ids.length + 1)) + 1 by omega, List.take_succ_cons]
        rfl
      · rw [if_neg hm, show many.toNat - ids.length = 0 by omega]
        simp
theorem lat_eq (tier many : Int) (l : List Lk) : latV tier many l = ((heads tier none l).map (·.f0)).take many.toNat := by
  unfold latV
  rw [latGo_eq]
  simp
def Fall (l : List Lk) : Prop := l.Pairwise fun a b => ¬ nwr b a
theorem heads_spec (tier : Int) : ∀ (l : List Lk) (b : Option Int), Fall l → (∀ x ∈ l, 0 ≤ x.f3) → (∀ c, b = some c → ∀ x ∈ l, bk tier x.f3 ≤ c) →
    (heads tier b l).Pairwise (fun x y => bk tier y.f3 < bk tier x.f3) ∧ (∀ x ∈ heads tier b l, x ∈ l ∧ (∀ c, b = some c → bk tier x.f3 < c) ∧ ∀ y ∈ l, bk tier y.f3 = bk tier x.f3 → ¬ nwr y x) ∧
    (∀ x ∈ l, b = some (bk tier x.f3) ∨ ∃ h ∈ heads tier b l, bk tier h.f3 = bk tier x.f3)
  | [], _, _, _, _ => ⟨List.Pairwise.nil, (fun x hx => by simp [heads] at hx), (fun x hx => by simp at hx)⟩
  | x :: r, b, hf, ht, hb => by
    obtain ⟨f1, f2⟩ := List.pairwise_cons.1 hf
    have hle : ∀ y ∈ r, bk tier y.f3 ≤ bk tier x.f3 := fun y hy => bk_mono tier (ht y (List.mem_cons_of_mem _ hy)) (by have := f1 y hy; unfold nwr at this; omega)
    have htr : ∀ y ∈ r, 0 ≤ y.f3 := fun y hy => ht y (List.mem_cons_of_mem _ hy)
    unfold heads
    by_cases hc : b = some (bk tier x.f3)
    · rw [if_pos hc]
      obtain ⟨h1, h2, h3⟩ := heads_spec tier r b f2 htr (fun c h y hy => hb c h y (List.mem_cons_of_mem _ hy))
      refine ⟨h1, fun z hz => ?_, fun y hy => ?_⟩
      · obtain ⟨g1, g2, g3⟩ := h2 z hz
        refine ⟨List.mem_cons_of_mem _ g1, g2, fun y hy he => ?_⟩
        rcases List.mem_cons.1 hy with rfl | hy
        · have := g2 _ hc
          omega
        · exact g3 y hy he
      · rcases List.mem_cons.1 hy with rfl | hy
        · exact .inl hc
        · exact h3 y hy
    · rw [if_neg hc]
      obtain ⟨h1, h2, h3⟩ := heads_spec tier r (some (bk tier x.f3)) f2 htr (fun c h y hy => by rw [← Option.some.inj h]; exact hle y hy)
      refine ⟨List.pairwise_cons.2 ⟨fun z hz => (h2 z hz).2.1 _ rfl, h1⟩, fun z hz => ?_, fun y hy => ?_⟩
      · have hbx : ∀ c, b = some c → bk tier x.f3 < c := fun c h => by
          have h4 := hb c h x (List.mem_cons_self ..)
          rcases Int.lt_or_eq_of_le h4 with h5 | h5
          · exact h5
          · exact absurd (by rw [h, h5]) hc
        rcases List.mem_cons.1 hz with rfl | hz
        · refine ⟨List.mem_cons_self .., hbx, fun y hy he => ?_⟩
          rcases List.mem_cons.1 hy with rfl | hy
          · unfold nwr; omega
          · exact f1 y hy
        · obtain ⟨g1, g2, g3⟩ := h2 z hz
          refine ⟨List.mem_cons_of_mem _ g1, fun c h => by have := g2 _ rfl; have := hbx c h; omega, fun y hy he => ?_⟩
          rcases List.mem_cons.1 hy with rfl | hy
          · have := g2 _ rfl
            omega
          · exact g3 y hy he
      · right
        rcases List.mem_cons.1 hy with rfl | hy
        · exact ⟨y, List.mem_cons_self .., rfl⟩
        · rcases h3 y hy with h4 | ⟨h, h4, h5⟩
          · exact ⟨x, List.mem_cons_self .., Option.some.inj h4⟩
          · exact ⟨h, List.mem_cons_of_mem _ h4, h5⟩
def newestP (tier : Int) (l : List Lk) (x : Lk) : Bool := l.all fun y => !(decide (bk tier y.f3 = bk tier x.f3) && decide (nwr y x))
theorem newestP_iff {tier : Int} {l : List Lk} {x : Lk} : newestP tier l x = true ↔ ∀ y ∈ l, bk tier y.f3 = bk tier x.f3 → ¬ nwr y x := by
  simp [newestP, List.all_eq_true]
  constructor
  · intro h y hy he
    rcases h y hy with g | g
    · exact absurd he g
    · exact g
  · intro h y hy
    by_cases he : bk tier y.f3 = bk tier x.f3
    · exact .inr (h y hy he)
    · exact .inl he
def laterN (tier : Int) (l : List Lk) (x : Lk) : Nat := l.countP fun y => newestP tier l y && decide (bk tier x.f3 < bk tier y.f3)
theorem count_at {tier : Int} : ∀ {H : List Lk}, H.Pairwise (fun x y => bk tier y.f3 < bk tier x.f3) → ∀ (i : Nat) (hi : i < H.length), H.countP (fun y => decide (bk tier H[i].f3 < bk tier y.f3)) = i
  | a :: r, h, 0, _ => by
    obtain ⟨h1, _⟩ := List.pairwise_cons.1 h
    rw [List.countP_eq_zero]
    intro y hy
    rcases List.mem_cons.1 hy with rfl | hy
    · simp
    · have := h1 y hy
      simp; omega
  | a :: r, h, i + 1, hi => by
    obtain ⟨h1, h2⟩ := List.pairwise_cons.1 h
    have hi' : i < r.length := by simpa using hi
    have := h1 r[i] (List.getElem_mem hi')
    rw [List.countP_cons_of_pos (by simpa using this)]
    have h3 := count_at h2 i hi'
    simpa using h3
theorem heads_mem {tier : Int} {l : List Lk} (hf : Fall l) (ht : ∀ x ∈ l, 0 ≤ x.f3) (hd : ∀ x ∈ l, ∀ y ∈ l, x.f0 = y.f0 → x = y) (x : Lk) : x ∈ heads tier none l ↔ x ∈ l ∧ newestP tier l x = true := by
  obtain ⟨h1, h2, h3⟩ := heads_spec tier l none hf ht (fun c h => by cases h)
  constructor
  · intro h
    exact ⟨(h2 x h).1, newestP_iff.2 (h2 x h).2.2⟩
  · rintro ⟨hx, hn⟩
    rcases h3 x hx with h | ⟨h, g1, g2⟩
    · cases h
    · obtain ⟨g3, _, g4⟩ := h2 h g1
      have n1 := g4 x hx g2.symm
      have n2 := newestP_iff.1 hn h g3 g2
      have : h.f0 = x.f0 := by unfold nwr at n1 n2; omega
      rw [← hd h g3 x hx this]
      exact g1
theorem lat_mem {tier many : Int} {l : List Lk} (hf : Fall l) (ht : ∀ x ∈ l, 0 ≤ x.f3) (hd : ∀ x ∈ l, ∀ y ∈ l, x.f0 = y.f0 → x = y) (hn : l.Nodup) (x : Lk) (hx : x ∈ l) :
    x.f0 ∈ latV tier many l ↔ newestP tier l x = true ∧ (laterN tier l x : Int) < many := by
  obtain ⟨h1, h2, h3⟩ := heads_spec tier l none hf ht (fun c h => by cases h)
  have hm := heads_mem (tier := tier) hf ht hd
  obtain ⟨H, hH⟩ : ∃ H, H = heads tier none l := ⟨_, rfl⟩
  rw [lat_eq, ← hH]
  rw [← hH] at h1 h2 hm
  have hnd : H.Nodup := h1.imp fun {a b} h => by rintro rfl; omega
  have hp : H.Perm (l.filter (newestP tier l)) := (List.perm_ext_iff_of_nodup hnd (hn.filter _)).2 fun z => by rw [hm, List.mem_filter]
  have hc : laterN tier l x = H.countP fun y => decide (bk tier x.f3 < bk tier y.f3) := by
    unfold laterN
    rw [hp.countP_eq, List.countP_filter]
    congr 1
    funext y
    rw [Bool.and_comm]
  constructor
  · intro h
    obtain ⟨i, hi, he⟩ := List.getElem_of_mem h
    have hi2 : i < H.length ∧ i < many.toNat := by simp at hi; omega
    have he2 : H[i].f0 = x.f0 := by simpa using he
    have hz := (hm H[i]).1 (List.getElem_mem hi2.1)
    have hxi : H[i] = x := hd _ hz.1 x hx he2
    have hci := count_at h1 i hi2.1
    rw [hxi] at hci hz
    exact ⟨hz.2, by rw [hc, hci]; omega⟩
  · rintro ⟨g1, g2⟩
    obtain ⟨i, hi, rfl⟩ := List.getElem_of_mem ((hm x).2 ⟨hx, g1⟩)
    have hci := count_at h1 i hi
    rw [hc, hci] at g2
    rw [List.mem_take_iff_getElem]
    exact ⟨i, by simp; omega, by simp⟩
end Go.Proofs.YtfdlbnfjohpdlaaGreatDoor.Th
namespace Go.Proofs.YtfdlbnfjohpdlaaGreatDoor.PPo
open Go.RowKit Go.Sort Go.Proofs.YtfdlbnfjohpdlaaGreatDoorW.PrintWords Go.Proofs.YtfdlbnfjohpdlaaGreatDoorW.PrintLast Go.Proofs.YtfdlbnfjohpdlaaGreatDoorW.PrintMore
set_option linter.unusedVariables false
set_option linter.unusedSimpArgs false
theorem own_put {w : World} {base e g cap m n : Nat} {inner : List Value} {d' : Array Int} {os : Array Obj}
    (ho : w.ownsRow base e 1 (.slice (some ⟨g, 0, none⟩) n cap) n inner) (hs : d'.size = n) :
    (grow (putRow (Value.int .i64) (Sort.ahead w m) g 0 d') os).ownsRow base e 1 (.slice (some ⟨g, 0, none⟩) n cap) n (d'.toList.map (Value.int .i64)) ∧ w.grownBy (grow (putRow (Value.int .i64) (Sort.ahead w m) g 0 d') os) (some g) := by
  have hgl := own_lt ho g (by simp [Value.ownBlock])
  rcases ho.2 with ⟨h, _⟩ | ⟨g', cap', cur, he, hb, hh, h1, h2, h3, h4⟩
  · simp at h
  · simp only [Value.slice.injEq, Option.some.injEq, Addr.mk.injEq] at he
    obtain ⟨⟨rfl, _⟩, _, rfl⟩ := he
    have hblk : (grow (putRow (Value.int .i64) (Sort.ahead w m) g 0 d') os).heap[g]? = some (.cells (putCells (Value.int .i64) 0 d' cur) e (0, 0)) := by
      unfold putRow
      rw [heap_grow_old _ _ (by simpa [mapBlock, Sort.ahead] using hgl)]
      simp [mapBlock, Sort.ahead, Array.getElem?_modify, hh, onCells]
    refine ⟨⟨by simp [hs], .inr ⟨g, cap, _, rfl, hb, hblk, h1, h2, by simp [putCells, h3], ?_⟩⟩, ?_⟩
    · apply List.ext_getElem
      · simp [putCells, h3, hs]; omega
      · intro t ht1 ht2
        have ht : t < d'.size := by simpa using ht2
        simp [putCells, Array.getElem_mapIdx, ht, getElem!_pos d' t ht]
    · refine ⟨rfl, rfl, rfl, ?_, ?_⟩
      · simp [putRow, Sort.ahead, mapBlock]
      · intro i hi hne
        have hig : g ≠ i := fun h => hne (by rw [h])
        unfold putRow
        rw [heap_grow_old _ _ (by simpa [mapBlock, Sort.ahead] using hi)]
        simp [mapBlock, Sort.ahead, Array.getElem?_modify, hig]
theorem ints_inner {l : List Int} {inner : List Value} {w : World} {base : Nat} {ok : Nat → Prop} (hr : Reps ((Kd.int .i64).M w base ok) 1 l inner) : inner = l.map (Value.int .i64) := by
  have hl : inner.length = l.length * 1 := hr.1
  apply List.ext_getElem
  · simp; omega
  · intro j h1 h2
    have hj : j < l.length := by simpa using h2
    have h3 := hr.2 j l[j] (List.getElem?_eq_getElem hj)
    have h4 : (inner.drop (j * 1)).take 1 = [.int .i64 l[j]] := h3
    have h5 : ((inner.drop (j * 1)).take 1)[0]? = some (.int .i64 l[j]) := by rw [h4]; rfl
    rw [List.getElem?_take, if_pos (by decide), List.getElem?_drop, Nat.mul_one, Nat.add_zero, List.getElem?_eq_getElem h1] at h5
    rw [List.getElem_map]
    exact Option.some.inj h5
theorem ints_reps (w : World) (base : Nat) (ok : Nat → Prop) (l : List Int) : Reps ((Kd.int .i64).M w base ok) 1 l (l.map (Value.int .i64)) := by
  refine ⟨by simp, fun j p hj => ?_⟩
  obtain ⟨hj1, rfl⟩ := List.getElem?_eq_some_iff.1 hj
  show ((l.map (Value.int .i64)).drop (j * 1)).take 1 = [.int .i64 l[j]]
  rw [Nat.mul_one, List.drop_eq_getElem_cons (by simpa using hj1)]
  simp
theorem ints_holds {w : World} {base g cap : Nat} {l : List Int} (ho : w.ownsRow base 3 1 (.slice (some ⟨g, 0, none⟩) l.length cap) l.length (l.map (Value.int .i64))) : Holds (Value.int .i64) w g 0 l.toArray := by
  rcases ho.2 with ⟨h, _⟩ | ⟨g', cap', cur, he, hb, hh, h1, h2, h3, h4⟩
  · simp at h
  · simp only [Value.slice.injEq, Option.some.injEq, Addr.mk.injEq] at he
    obtain ⟨⟨rfl, _⟩, _, rfl⟩ := he
    intro j hj
    have hj' : j < l.length := by simpa using hj
    have hc : j < cur.size := by omega
    have e1 : cur[j] = .int .i64 l[j] := by
      have h5 : (cur.toList.take (l.length * 1))[j]? = (l.map (Value.int .i64))[j]? := by rw [h4]
      rw [List.getElem?_take, if_pos (by omega)] at h5
      simpa [hc, hj'] using h5
    refine ⟨?_, ?_⟩
    · simp only [World.cell?, hh]
      simp [e1, hc, hj']
    · simp [World.frozen?, hh]
set_option maxHeartbeats 2000000 in
theorem sortI.calls (v : Value) (l0 : List Int) (w : World) (base : Nat) (hR : Kd.R (Kd.int .i64) 3 w base (fun _ => True) v l0) (h0 : 0 < l0.length) (hl : l0.length < 4611686018427387904) :
    Calls Tryz.prog 40 #[v] w fun e w' => e = .returned (.tuple #[]) ∧ Kd.R (Kd.int .i64) 3 w' base (fun _ => True) v (l0.mergeSort fun x y => decide (x ≤ y)) ∧ w.grownBy w' v.ownBlock := by
  obtain ⟨g, c, rfl, hgb, hgl, hgc⟩ := Kd.R_form hR h0
  obtain ⟨_, inner, ho, hr⟩ := hR
  obtain rfl := ints_inner hr
  refine Calls.mono (Any.slices_Sort_int Tryz.laySortI g 0 c l0 w (ints_holds ho) hgl hl) ?_
  rintro e w' ⟨rfl, n, os, rfl⟩
  have hs : (l0.mergeSort fun x y => decide (x ≤ y)).toArray.size = l0.length := by simp
  obtain ⟨h1, h2⟩ := own_put (m := n) (os := os) ho hs
  refine ⟨rfl, ⟨fun _ _ => trivial, _, by rw [show (l0.mergeSort fun x y => decide (x ≤ y)).length = l0.length by simp]; exact h1, ?_⟩, h2⟩
  exact ints_reps _ _ _ _
theorem own_cut {w : World} {base e g cap n m : Nat} {inner : List Value} (ho : w.ownsRow base e 1 (.slice (some ⟨g, 0, none⟩) n cap) n inner) (hm : m ≤ n) : w.ownsRow base e 1 (.slice (some ⟨g, 0, none⟩) m cap) m (inner.take m) := by
  rcases ho.2 with ⟨h, _⟩ | ⟨g', cap', cur, he, hb, hh, h1, h2, h3, h4⟩
  · simp at h
  · simp only [Value.slice.injEq, Option.some.injEq, Addr.mk.injEq] at he
    obtain ⟨⟨rfl, _⟩, _, rfl⟩ := he
    have hl := ho.1
    refine ⟨by rw [List.length_take]; omega, .inr ⟨g, cap, cur, rfl, hb, hh, by omega, h2, h3, ?_⟩⟩
    rw [← h4, List.take_take, Nat.min_eq_left (by omega)]
    simp
set_option maxHeartbeats 2000000 in
theorem compactI.calls (v : Value) (l0 : List Int) (w : World) (base : Nat) (hR : Kd.R (Kd.int .i64) 3 w base (fun _ => True) v l0) (h0 : 0 < l0.length) (hl : l0.length < 4611686018427387904) (hcl : (Lib.compact l0).length ≤ l0.length) :
    Calls Tryz.prog 41 #[v] w fun e w' => ∃ v', e = .returned v' ∧ Kd.R (Kd.int .i64) 3 w' base (fun _ => True) v' (Lib.compact l0) ∧ v'.ownBlock = v.ownBlock ∧ w.grownBy w' v.ownBlock := by
  obtain ⟨g, c, rfl, hgb, hgl, hgc⟩ := Kd.R_form hR h0
  obtain ⟨_, inner, ho, hr⟩ := hR
  obtain rfl := ints_inner hr
  have hlc : l0.length ≤ c := own_le ho
  refine Calls.mono (Any.slices_Compact_int Tryz.layCompact g 0 c l0 w (ints_holds ho) (by omega) hlc) ?_
  rintro e w' ⟨rfl, q, rfl⟩
  have hs : (Lib.compact l0 ++ List.replicate (l0.length - (Lib.compact l0).length) 0).toArray.size = l0.length := by simp; omega
  obtain ⟨h1, h2⟩ := own_put (m := q) (os := #[]) ho hs
  have hg : ∀ W : World, grow W #[] = W := fun W => by simp [grow]
  rw [hg] at h1 h2
  have h3 := own_cut h1 hcl
  refine ⟨_, rfl, ⟨fun _ _ => trivial, _, h3, ?_⟩, rfl, h2⟩
  have h4 : (((Lib.compact l0 ++ List.replicate (l0.length - (Lib.compact l0).length) 0).toArray.toList).map (Value.int .i64)).take (Lib.compact l0).length = (Lib.compact l0).map (Value.int .i64) := by simp
  rw [h4]
  exact ints_reps _ _ _ _
end Go.Proofs.YtfdlbnfjohpdlaaGreatDoor.PPo
namespace Go.Proofs.YtfdlbnfjohpdlaaGreatDoor.Th
open Go.RowKit Go.Lib Go.Proofs.YtfdlbnfjohpdlaaGreatDoor.PPo Go.Proofs.YtfdlbnfjohpdlaaGreatDoorW.PrintWords
set_option linter.unusedVariables false
theorem compact_up (d : Array Int) (hs : ∀ i j, i ≤ j → j < d.size → d[i]! ≤ d[j]!) : ∀ m, m ≤ d.size →
    (compactUpTo d m).Pairwise (· < ·) ∧ (∀ x, x ∈ compactUpTo d m ↔ ∃ i, i < m ∧ d[i]! = x)
  | 0, _ => ⟨by simp [compactUpTo], fun x => by simp [compactUpTo]⟩
  | m + 1, hm => by
    obtain ⟨h1, h2⟩ := compact_up d hs m (by omega)
    rw [compactUpTo_succ]
    by_cases hk : keeps d m = true
    · rw [if_pos hk]
      have hlt : ∀ i, i < m → d[i]! < d[m]! := fun i hi => by
        have hne : d[m]! ≠ d[m - 1]! := fun h => by
          rw [keeps_neg (by omega) h] at hk
          cases hk
        have h3 := hs i (m - 1) (by omega) (by omega)
        have h4 := hs (m - 1) m (by omega) (by omega)
        omega
      refine ⟨List.pairwise_append.2 ⟨h1, List.pairwise_singleton _ _, fun x hx y hy => ?_⟩, fun x => ?_⟩
      · obtain ⟨i, hi, rfl⟩ := (h2 x).1 hx
        rw [List.mem_singleton.1 hy]
        exact hlt i hi
      · rw [List.mem_append, h2, List.mem_singleton]
        constructor
        · rintro (⟨i, hi, h⟩ | h)
          · exact ⟨i, by omega, h⟩
          · exact ⟨m, by omega, h.symm⟩
        · rintro ⟨i, hi, h⟩
          by_cases e : i = m
          · subst e; exact .inr h.symm
          · exact .inl ⟨i, by omega, h⟩
    · rw [if_neg hk, List.append_nil]
      have he : 0 < m ∧ d[m]! = d[m - 1]! := by
        rcases Nat.eq_zero_or_pos m with h0 | h0
        · subst h0
          exact absurd (keeps_lt_one d 0 (by decide)) hk
        · refine ⟨h0, ?_⟩
          by_cases h3 : d[m]! = d[m - 1]!
          · exact h3
          · exact absurd (keeps_pos h3) hk
      refine ⟨h1, fun x => ?_⟩
      rw [h2]
      constructor
      · rintro ⟨i, hi, h⟩
        exact ⟨i, by omega, h⟩
      · rintro ⟨i, hi, h⟩
        by_cases e : i = m
        · subst e; exact ⟨i - 1, by omega, by rw [← he.2]; exact h⟩
        · exact ⟨i, by omega, h⟩
theorem compact_sorted (l : List Int) (hs : l.Pairwise (· ≤ ·)) : (compact l).Pairwise (· < ·) ∧ ∀ x, x ∈ compact l ↔ x ∈ l := by
  have h := compact_up l.toArray (fun i j hij hj => by
    have hj' : j < l.length := by simpa using hj
    rw [getElem!_pos l.toArray i (by simpa using Nat.lt_of_le_of_lt hij hj'), getElem!_pos l.toArray j hj]
    rcases Nat.lt_or_eq_of_le hij with h1 | rfl
    · have := (List.pairwise_iff_getElem.1 hs) i j (by omega) hj' h1
      simpa using this
    · exact Int.le_refl _) l.length (by simp)
  refine ⟨h.1, fun x => (h.2 x).trans ?_⟩
  constructor
  · rintro ⟨i, hi, rfl⟩
    rw [getElem!_pos l.toArray i (by simpa using hi)]
    simp
  · intro hx
    obtain ⟨i, hi, rfl⟩ := List.getElem_of_mem hx
    exact ⟨i, hi, by rw [getElem!_pos l.toArray i (by simpa using hi)]; simp⟩
theorem up_ext : ∀ {a b : List Int}, a.Pairwise (· < ·) → b.Pairwise (· < ·) → (∀ x, x ∈ a ↔ x ∈ b) → a = b
  | [], [], _, _, _ => rfl
  | [], y :: t, _, _, h => absurd ((h y).2 (List.mem_cons_self ..)) (by simp)
  | x :: s, [], _, _, h => absurd ((h x).1 (List.mem_cons_self ..)) (by simp)
  | x :: s, y :: t, ha, hb, h => by
    obtain ⟨a1, a2⟩ := List.pairwise_cons.1 ha
    obtain ⟨b1, b2⟩ := List.pairwise_cons.1 hb
    have hxy : x = y := by
      rcases List.mem_cons.1 ((h x).1 (List.mem_cons_self ..)) with h1 | h1
      · exact h1
      · rcases List.mem_cons.1 ((h y).2 (List.mem_cons_self ..)) with h2 | h2
        · exact h2.symm
        · have := b1 x h1
          have := a1 y h2
          omega
    subst hxy
    rw [up_ext a2 b2 fun z => ?_]
    constructor
    · intro hz
      rcases List.mem_cons.1 ((h z).1 (List.mem_cons_of_mem _ hz)) with h1 | h1
      · have := a1 z hz; omega
      · exact h1
    · intro hz
      rcases List.mem_cons.1 ((h z).2 (List.mem_cons_of_mem _ hz)) with h1 | h1
      · have := b1 z hz; omega
      · exact h1
theorem sort_compact (l : List Int) {r : List Int} (hr : r.Pairwise (· < ·)) (h : ∀ x, x ∈ r ↔ x ∈ l) : compact (l.mergeSort fun x y => decide (x ≤ y)) = r := by
  have hs : (l.mergeSort fun x y => decide (x ≤ y)).Pairwise (· ≤ ·) := by
    have := List.pairwise_mergeSort (le := fun x y : Int => decide (x ≤ y)) (fun a b c h1 h2 => by simp at *; omega) (fun a b => by simp; omega) l
    exact this.imp fun h => by simpa using h
  obtain ⟨h1, h2⟩ := compact_sorted _ hs
  refine up_ext h1 hr fun x => ?_
  rw [h2, h, List.mem_mergeSort]
end Go.Proofs.YtfdlbnfjohpdlaaGreatDoor.Th
namespace Go.Proofs.YtfdlbnfjohpdlaaGreatDoor.Th
open Go.RowKit Go.Lib Go.Proofs.YtfdlbnfjohpdlaaGreatDoor.PPo Go.Proofs.YtfdlbnfjohpdlaaGreatDoorW.PrintWords
set_option linter.unusedVariables false
theorem newestP_perm {tier : Int} {a b : List Lk} (h : a.Perm b) (x : Lk) : newestP tier a x = newestP tier b x := by
  rw [Bool.eq_iff_iff, newestP_iff, newestP_iff]
  exact ⟨fun g y hy => g y (h.mem_iff.2 hy), fun g y hy => g y (h.mem_iff.1 hy)⟩
theorem laterN_perm {tier : Int} {a b : List Lk} (h : a.Perm b) (x : Lk) : laterN tier a x = laterN tier b x := by
  unfold laterN
  rw [h.countP_eq]
  congr 1
  funext y
  rw [newestP_perm h]
def tierB (tier many : Int) (l : List Lk) (x : Lk) : Bool := newestP tier l x && decide ((laterN tier l x : Int) < many)
def keptB (d w m y live : Int) (l : List Lk) (x : Lk) : Bool := x.f5 || x.f0 == live || tierB 0 d l x || tierB 1 w l x || tierB 2 m l x || tierB 3 y l x
def pinsV (live : Int) (l : List Lk) : List Int := (l.filter fun x => x.f5 || x.f0 == live).map (·.f0)
theorem lat_sub {tier many : Int} {l : List Lk} {i : Int} (h : i ∈ latV tier many l) : ∃ x ∈ l, x.f0 = i := by
  rw [lat_eq] at h
  have h2 := List.mem_of_mem_take h
  obtain ⟨x, hx, rfl⟩ := List.mem_map.1 h2
  refine ⟨x, ?_, rfl⟩
  have : ∀ (l : List Lk) (b : Option Int), ∀ x ∈ heads tier b l, x ∈ l := by
    intro l
    induction l with
    | nil => intro b x hx; simp [heads] at hx
    | cons a r ih =>
      intro b x hx
      unfold heads at hx
      split at hx
      · exact List.mem_cons_of_mem _ (ih _ _ hx)
      · rcases List.mem_cons.1 hx with rfl | hx
        · exact List.mem_cons_self ..
        · exact List.mem_cons_of_mem _ (ih _ _ hx)
  exact this l none x hx
theorem keep_eq {cand srt : List Lk} (hp : srt.Perm cand) (hf : Fall srt) (ht : ∀ x ∈ cand, 0 ≤ x.f3) (hup : cand.Pairwise fun a b => a.f0 < b.f0) (h1 : ∀ x ∈ cand, 1 < x.f0) (live d w m y : Int) :
    compact ((1 :: pinsV live cand ++ latV 0 d srt ++ latV 1 w srt ++ latV 2 m srt ++ latV 3 y srt).mergeSort fun x y => decide (x ≤ y)) = 1 :: (cand.filter (keptB d w m y live cand)).map (·.f0) := by
  have hd : ∀ a ∈ cand, ∀ b ∈ cand, a.f0 = b.f0 → a = b := fun a ha b hb he => by
    obtain ⟨i, hi, rfl⟩ := List.getElem_of_mem ha
    obtain ⟨j, hj, rfl⟩ := List.getElem_of_mem hb
    rcases Nat.lt_trichotomy i j with h | h | h
    · have := List.pairwise_iff_getElem.1 hup i j hi hj h
      omega
    · subst h; rfl
    · have := List.pairwise_iff_getElem.1 hup j i hj hi h
      omega
  have hnd : cand.Nodup := hup.imp fun {a b} h => by rintro rfl; omega
  have hsd : srt.Nodup := hp.nodup_iff.2 hnd
  have hlat : ∀ tier many, ∀ x ∈ cand, (x.f0 ∈ latV tier many srt ↔ tierB tier many cand x = true) := fun tier many x hx => by
    rw [lat_mem hf (fun z hz => ht z (hp.mem_iff.1 hz)) (fun a ha b hb => hd a (hp.mem_iff.1 ha) b (hp.mem_iff.1 hb)) hsd x (hp.mem_iff.2 hx), newestP_perm hp, laterN_perm hp]
    simp [tierB]
  refine sort_compact _ (List.pairwise_cons.2 ⟨fun i hi => ?_, ?_⟩) fun i => ?_
  · obtain ⟨x, hx, rfl⟩ := List.mem_map.1 hi
    exact h1 x (List.mem_filter.1 hx).1
  · rw [List.pairwise_map]
    exact hup.filter _
  · have hone : ∀ x ∈ cand, (x.f0 ∈ (1 :: pinsV live cand ++ latV 0 d srt ++ latV 1 w srt ++ latV 2 m srt ++ latV 3 y srt) ↔ keptB d w m y live cand x = true) := fun x hx => by
      have hne : x.f0 ≠ 1 := by have := h1 x hx; omega
      have hpn : x.f0 ∈ pinsV live cand ↔ (x.f5 || x.f0 == live) = true := by
        unfold pinsV
        rw [List.mem_map]
        constructor
        · rintro ⟨z, hz, he⟩
          obtain ⟨g1, g2⟩ := List.mem_filter.1 hz
          rw [← hd z g1 x hx he]
          exact g2
        · intro h
          exact ⟨x, List.mem_filter.2 ⟨hx, h⟩, rfl⟩
      simp only [List.mem_append, List.mem_cons, hne, false_or, hpn, hlat _ _ x hx, keptB, Bool.or_eq_true]
    constructor
    · intro hi
      rcases List.mem_cons.1 hi with rfl | hi
      · simp
      · obtain ⟨x, hx, rfl⟩ := List.mem_map.1 hi
        obtain ⟨g1, g2⟩ := List.mem_filter.1 hx
        exact (hone x g1).2 g2
    · intro hi
      by_cases he : i = 1
      · rw [he]; exact List.mem_cons_self ..
      · have hex : ∃ x ∈ cand, x.f0 = i := by
          simp only [List.mem_append, List.mem_cons, he, false_or] at hi
          rcases hi with (((hi | hi) | hi) | hi) | hi
          · unfold pinsV at hi
            obtain ⟨x, hx, rfl⟩ := List.mem_map.1 hi
            exact ⟨x, (List.mem_filter.1 hx).1, rfl⟩
          all_goals
            obtain ⟨x, hx, rfl⟩ := lat_sub hi
            exact ⟨x, hp.mem_iff.1 hx, rfl⟩
        obtain ⟨x, hx, rfl⟩ := hex
        exact List.mem_cons_of_mem _ (List.mem_map.2 ⟨x, List.mem_filter.2 ⟨hx, (hone x hx).1 hi⟩, rfl⟩)
theorem drops_eq {root : Lk} {rest cand : List Lk} (hc : cand = rest.filter fun x => !x.f4) (hr : root.f0 = 1) (hup : cand.Pairwise fun a b => a.f0 < b.f0) (h1 : ∀ x ∈ cand, 1 < x.f0) (kb : Lk → Bool) :
    (((root :: rest).filter fun x => !x.f4 && !((1 :: (cand.filter kb).map (·.f0)).contains x.f0)).map (·.f0)) = (cand.filter fun x => !kb x).map (·.f0) := by
  have hd : ∀ a ∈ cand, ∀ b ∈ cand, a.f0 = b.f0 → a = b := fun a ha b hb he => by
    obtain ⟨i, hi, rfl⟩ := List.getElem_of_mem ha
    obtain ⟨j, hj, rfl⟩ := List.getElem_of_mem hb
    rcases Nat.lt_trichotomy i j with h | h | h
    · have := List.pairwise_iff_getElem.1 hup i j hi hj h
      omega
    · subst h; rfl
    · have := List.pairwise_iff_getElem.1 hup j i hj hi h
      omega
  rw [List.filter_cons_of_neg (by rw [hr]; simp)]
  congr 1
  have hR : (cand.filter fun x => !kb x) = rest.filter fun x => !x.f4 && !kb x := by
    rw [hc, List.filter_filter]
    refine List.filter_congr fun x _ => ?_
    rw [Bool.and_comm]
  rw [hR]
  refine List.filter_congr fun x hx => ?_
  cases hg : x.f4 with
  | true => simp
  | false =>
    have hm : x ∈ cand := by rw [hc]; exact List.mem_filter.2 ⟨hx, by rw [hg]; rfl⟩
    have hne : x.f0 ≠ 1 := by have := h1 x hm; omega
    have : (1 :: (cand.filter kb).map (·.f0)).contains x.f0 = kb x := by
      rw [Bool.eq_iff_iff, List.contains_iff_mem]
      constructor
      · intro h
        rcases List.mem_cons.1 h with h | h
        · exact absurd h hne
        · obtain ⟨z, hz, he⟩ := List.mem_map.1 h
          obtain ⟨g1, g2⟩ := List.mem_filter.1 hz
          rw [← hd z g1 x hm he]
          exact g2
      · intro h
        exact List.mem_cons_of_mem _ (List.mem_map.2 ⟨x, List.mem_filter.2 ⟨hm, h⟩, rfl⟩)
    rw [this]
end Go.Proofs.YtfdlbnfjohpdlaaGreatDoor.Th
namespace Go.Proofs.YtfdlbnfjohpdlaaGreatDoor.PPo
open Go.RowKit Go.Proofs.YtfdlbnfjohpdlaaGreatDoorW.PrintWords Go.Proofs.YtfdlbnfjohpdlaaGreatDoorW.PrintLast Go.Proofs.YtfdlbnfjohpdlaaGreatDoorW.PrintMore
attribute [local go_sem] max2_int min2_int max_two min_two max_three min_three max_four min_four
set_option linter.unusedVariables false
set_option linter.unusedSimpArgs false
set_option maxHeartbeats 2000000 in
set_option maxRecDepth 100000 in
theorem counts.calls (a b c d : Int) (w : World) : Calls Tryz.prog 38 #[.agg #[.int .i64 a, .int .i64 b, .int .i64 c, .int .i64 d]] w fun e w' => e = .returned (.agg #[.int .i64 a, .int .i64 b, .int .i64 c, .int .i64 d]) ∧ Below w.heap.size w w' := by
  have hu := Tryz.underlying23
  go_enter Tryz.func38, Tryz.ntmps38
  go_wp2
  try simp only [Exit.inBlock, Exit.then]
  refine bodyPost_ret (v := .agg #[.int .i64 a, .int .i64 b, .int .i64 c, .int .i64 d]) ?_ rfl ?_
  · have hr : Tryz.f38.results = #[.cell 2 74] := rfl
    have hu2 := Tryz.underlying74
    simp [results, hr, go_sem]
  · exact ⟨rfl, below_alloc (below_alloc (Below.refl _ _) _) _⟩
def okN (n : Int) : Bool := !decide (n < 0) && !decide ((1000 : Int) < n)
def rightP (a b c d : Int) : Bool := okN a && okN b && okN c && okN d
set_option maxHeartbeats 2000000 in
set_option maxRecDepth 100000 in
theorem rightP.calls (a b c d : Int) (w : World) : Calls Tryz.prog 19 #[.agg #[.int .i64 a, .int .i64 b, .int .i64 c, .int .i64 d]] w fun e w' => e = .returned (.bool (rightP a b c d)) ∧ Below w.heap.size w w' := by
  have hu := Tryz.underlying23
  have i0 : ∀ w : World, (Instr.index 74 (.agg #[.int .i64 a, .int .i64 b, .int .i64 c, .int .i64 d]) (.int .i64 0)).run Tryz.prog w = .ok (.int .i64 a) w := fun _ => by kernel_rfl
  have i1 : ∀ w : World, (Instr.index 74 (.agg #[.int .i64 a, .int .i64 b, .int .i64 c, .int .i64 d]) (.int .i64 1)).run Tryz.prog w = .ok (.int .i64 b) w := fun _ => by kernel_rfl
  have i2 : ∀ w : World, (Instr.index 74 (.agg #[.int .i64 a, .int .i64 b, .int .i64 c, .int .i64 d]) (.int .i64 2)).run Tryz.prog w = .ok (.int .i64 c) w := fun _ => by kernel_rfl
  have i3 : ∀ w : World, (Instr.index 74 (.agg #[.int .i64 a, .int .i64 b, .int .i64 c, .int .i64 d]) (.int .i64 3)).run Tryz.prog w = .ok (.int .i64 d) w := fun _ => by kernel_rfl
  have HC := Aside0.mk (fun W => counts.calls a b c d W)
  have HB0 := Aside0.mk (below_alloc (Below.refl w.heap.size w) (.cells #[.int .i64 a, .int .i64 b, .int .i64 c, .int .i64 d] 23))
  obtain ⟨R, hR⟩ : ∃ R, R = rightP a b c d := ⟨_, rfl⟩
  rw [← hR]
  have HR := Aside0.mk hR
  clear hR
  go_enter Tryz.func19, Tryz.ntmps19
  go_wp2_with (go_at_call 38; go_loud (refine (HC.out _).mono ?_; rintro e w1 ⟨rfl, hb1⟩; have HB1 := Aside0.mk (HB0.out.trans (hb1.mono (below_size HB0.out))); clear hb1))
  go_loopg [7] 4 (fun gg s7 wr => ∃ n : Nat, s7 = .int .i64 n ∧ n ≤ 4 ∧ 4 - n ≤ gg ∧ Aside0 (Below w.heap.size w wr) ∧ Aside0 ((0 < n → okN a = true) ∧ (1 < n → okN b = true) ∧ (2 < n → okN c = true) ∧ (3 < n → okN d = true)))
  case atStart => exact ⟨0, rfl, by omega, by omega, HB1, ⟨fun h => by omega, fun h => by omega, fun h => by omega, fun h => by omega⟩⟩
  case round =>
    obtain ⟨n, rfl, hn, hg, HB, HI⟩ := hrel
    have hn5 : n = 0 ∨ n = 1 ∨ n = 2 ∨ n = 3 ∨ n = 4 := by omega
    clear hn
    rcases hn5 with rfl | rfl | rfl | rfl | rfl
    · cases h1 : decide (a < 0) with
      | true =>
        go_wp2
        go_ret
        exact ⟨by rw [HR.out]; simp [rightP, okN, h1], HB.out⟩
      | false =>
        cases h2 : decide ((1000 : Int) < a) with
        | true =>
          go_wp2
          go_ret
          exact ⟨by rw [HR.out]; simp [rightP, okN, h2], HB.out⟩
        | false =>
          go_wp2
          go_roundg (4 - 1)
          case measure => omega
          case rel => exact ⟨1, by first | rfl | go_num, by omega, by omega, HB, ⟨fun _ => by simp only [okN, h1, h2]; rfl, fun h => by omega, fun h => by omega, fun h => by omega⟩⟩
    · cases h1 : decide (b < 0) with
      | true =>
        go_wp2
        go_ret
        exact ⟨by rw [HR.out]; simp [rightP, okN, h1], HB.out⟩
      | false =>
        cases h2 : decide ((1000 : Int) < b) with
        | true =>
          go_wp2
          go_ret
          exact ⟨by rw [HR.out]; simp [rightP, okN, h2], HB.out⟩
        | false =>
          go_wp2
          go_roundg (4 - 2)
          case measure => omega
          case rel => exact ⟨2, by first | rfl | go_num, by omega, by omega, HB, ⟨fun _ => HI.out.1 (by omega), fun _ => by simp only [okN, h1, h2]; rfl, fun h => by omega, fun h => by omega⟩⟩
    · cases h1 : decide (c < 0) with
      | true =>
        go_wp2
        go_ret
        exact ⟨by rw [HR.out]; simp [rightP, okN, h1], HB.out⟩
      | false =>
        cases h2 : decide ((1000 : Int) < c) with
        | true =>
          go_wp2
          go_ret
          exact ⟨by rw [HR.out]; simp [rightP, okN, h2], HB.out⟩
        | false =>
          go_wp2
          go_roundg (4 - 3)
          case measure => omega
          case rel => exact ⟨3, by first | rfl | go_num, by omega, by omega, HB, ⟨fun _ => HI.out.1 (by omega), fun _ => HI.out.2.1 (by omega), fun _ => by simp only [okN, h1, h2]; rfl, fun h => by omega⟩⟩
    · cases h1 : decide (d < 0) with
      | true =>
        go_wp2
        go_ret
        exact ⟨by rw [HR.out]; simp [rightP, okN, h1], HB.out⟩
      | false =>
        cases h2 : decide ((1000 : Int) < d) with
        | true =>
          go_wp2
          go_ret
          exact ⟨by rw [HR.out]; simp [rightP, okN, h2], HB.out⟩
        | false =>
          go_wp2
          go_roundg (4 - 4)
          case measure => omega
          case rel => exact ⟨4, by first | rfl | go_num, by omega, by omega, HB, ⟨fun _ => HI.out.1 (by omega), fun _ => HI.out.2.1 (by omega), fun _ => HI.out.2.2.1 (by omega), fun _ => by simp only [okN, h1, h2]; rfl⟩⟩
    · go_wp2
      go_ret
      exact ⟨by rw [HR.out]; simp only [rightP, HI.out.1 (by omega), HI.out.2.1 (by omega), HI.out.2.2.1 (by omega), HI.out.2.2.2 (by omega)]; rfl, HB.out⟩
end Go.Proofs.YtfdlbnfjohpdlaaGreatDoor.PPo
namespace Go.Proofs.YtfdlbnfjohpdlaaGreatDoor.Th
open Go.RowKit Go.Lib Go.Proofs.YtfdlbnfjohpdlaaGreatDoor.PPo Go.Proofs.YtfdlbnfjohpdlaaGreatDoorW.PrintWords
set_option linter.unusedVariables false
def candV (l : List Lk) : List Lk := (l.drop 1).filter fun x => !x.f4
theorem right_cand {l : List Lk} {live next : Int} (h : rightT l live next = true) : ∃ root rest, l = root :: rest ∧ root.f0 = 1 ∧ candV l = rest.filter (fun x => !x.f4) ∧ (candV l).Pairwise (fun a b => a.f0 < b.f0) ∧ ∀ x ∈ candV l, 1 < x.f0 := by
  obtain ⟨h0, _, h2, _⟩ := rightT_iff.1 h
  match l, h0, h2 with
  | root :: rest, _, h2 =>
    have hu := ids_up h2
    obtain ⟨u1, u2⟩ := List.pairwise_cons.1 hu
    have hr : root.f0 = 1 := by
      have h3 := h2 0 (by simp)
      simp only [okAt, if_true, firstB, Bool.and_eq_true, decide_eq_true_eq] at h3
      have h4 := h3.2.1
      rw [lk_get (by simp)] at h4
      exact h4
    refine ⟨root, rest, rfl, hr, rfl, ?_, fun x hx => ?_⟩
    · exact u2.filter _
    · have := u1 x (List.mem_filter.1 hx).1
      omega
def keepV (a b c d : Int) (l : List Lk) (live next : Int) : List Int := if rightP a b c d = true ∧ rightT l live next = true then 1 :: ((candV l).filter (keptB a b c d live (candV l))).map (·.f0) else []
def dropsV (a b c d : Int) (l : List Lk) (live next : Int) : List Int := if rightP a b c d = true ∧ rightT l live next = true then ((candV l).filter fun x => !keptB a b c d live (candV l) x).map (·.f0) else []
theorem cand_mem {l : List Lk} {x : Lk} (h : x ∈ candV l) : x ∈ l := List.mem_of_mem_drop (List.mem_filter.1 h).1
def ofP (d w m y i : Int) : Int := if i = 0 then d else if i = 1 then w else if i = 2 then m else y
def tiersV (d w m y : Int) (srt : List Lk) (n : Nat) : List Int := (List.range n).flatMap fun (i : Nat) => latV (i : Int) (ofP d w m y (i : Int)) srt
theorem tiers_succ (d w m y : Int) (srt : List Lk) (n : Nat) : tiersV d w m y srt (n + 1) = tiersV d w m y srt n ++ latV (n : Int) (ofP d w m y (n : Int)) srt := by
  unfold tiersV
  rw [List.range_succ, List.flatMap_append]
  simp
theorem tiers_four (d w m y live : Int) (cand srt : List Lk) : (1 :: pinsV live cand) ++ tiersV d w m y srt 4 = 1 :: pinsV live cand ++ latV 0 d srt ++ latV 1 w srt ++ latV 2 m srt ++ latV 3 y srt := by
  have : tiersV d w m y srt 4 = latV 0 d srt ++ (latV 1 w srt ++ (latV 2 m srt ++ latV 3 y srt)) := by
    simp [tiersV, List.range, List.range.loop, ofP]
  rw [this]
  simp
theorem heads_len (tier : Int) : ∀ (l : List Lk) (b : Option Int), (heads tier b l).length ≤ l.length
  | [], _ => by simp [heads]
  | x :: r, b => by
    unfold heads
    split
    · have := heads_len tier r b
      simp; omega
    · have := heads_len tier r (some (bk tier x.f3))
      simp; omega
theorem lat_len (tier many : Int) (l : List Lk) : (latV tier many l).length ≤ l.length := by
  rw [lat_eq, List.length_take, List.length_map]
  have := heads_len tier l none
  omega
theorem tiers_len (d w m y : Int) (srt : List Lk) : ∀ n, (tiersV d w m y srt n).length ≤ n * srt.length
  | 0 => by simp [tiersV]
  | n + 1 => by
    rw [tiers_succ, List.length_append, Nat.succ_mul]
    have := tiers_len d w m y srt n
    have := lat_len (n : Int) (ofP d w m y (n : Int)) srt
    omega
theorem pins_len (live : Int) (l : List Lk) : (pinsV live l).length ≤ l.length := by
  unfold pinsV
  rw [List.length_map]
  exact List.length_filter_le _ _
theorem pins_snoc (live : Int) (l : List Lk) (x : Lk) : pinsV live (l ++ [x]) = pinsV live l ++ if (x.f5 || x.f0 == live) = true then [x.f0] else [] := by
  unfold pinsV
  rw [List.filter_append, List.map_append]
  congr 1
  by_cases h : (x.f5 || x.f0 == live) = true
  · simp only [h, if_true, List.filter_cons_of_pos, List.filter_nil, List.map_cons, List.map_nil]
  · simp [h]
theorem keep_of (d w m y : Int) {l srt : List Lk} {live next : Int} (hp : rightP d w m y = true) (ht : rightT l live next = true) (hs : srt.Perm (candV l)) (hf : Fall srt) (htm : ∀ x ∈ l, Tm x) :
    compact (((1 :: pinsV live (candV l)) ++ tiersV d w m y srt 4).mergeSort fun x y => decide (x ≤ y)) = keepV d w m y l live next := by
  obtain ⟨root, rest, _, _, _, hup, h1⟩ := right_cand ht
  unfold keepV
  rw [if_pos ⟨hp, ht⟩, tiers_four]
  exact keep_eq hs hf (fun x hx => (htm x (cand_mem hx)).1) hup h1 live d w m y
end Go.Proofs.YtfdlbnfjohpdlaaGreatDoor.Th
namespace Go.Proofs.YtfdlbnfjohpdlaaGreatDoor.Th
open Go.RowKit Go.Lib Go.Proofs.YtfdlbnfjohpdlaaGreatDoor.PPo Go.Proofs.YtfdlbnfjohpdlaaGreatDoorW.PrintWords
set_option linter.unusedVariables false
set_option linter.unusedSimpArgs false
theorem same_ev (a b : List Int) (ha : a.length ≤ 1000) : Evt (fun k => rootcellarlaw16_sameInts.f k a b) (decide (a = b)) := by
  unfold rootcellarlaw16_sameInts.f
  by_cases h : a.length = b.length
  · refine Evt.pos (by omega) ?_
    have key : ∀ n : Nat, n ≤ a.length → Evt (fun k => rootcellarlaw16_sameInts.l0 k a b ((a.length - n : Nat) : Int)) (decide (a.drop (a.length - n) = b.drop (a.length - n))) := by
      intro n
      induction n with
      | zero =>
        intro _
        refine Evt.step (fun k => by rw [rootcellarlaw16_sameInts.l0]) ?_
        refine Evt.neg (by omega) (Evt.val' ?_)
        rw [List.drop_of_length_le (by omega), List.drop_of_length_le (by omega)]
        rfl
      | succ n ih =>
        intro hn
        have ih := ih (by omega)
        have hi : a.length - (n + 1) < a.length := by omega
        refine Evt.step (fun k => by rw [rootcellarlaw16_sameInts.l0]) ?_
        refine Evt.pos (by omega) ?_
        refine Evt.pos (by omega) ?_
        refine Evt.pos (by omega) ?_
        have ea : rd a ((a.length - (n + 1) : Nat) : Int) = a[a.length - (n + 1)] := by simp [rd, List.getD_eq_getElem?_getD, hi]
        have eb : rd b ((a.length - (n + 1) : Nat) : Int) = b[a.length - (n + 1)]'(by omega) := by
          have : a.length - (n + 1) < b.length := by omega
          simp [rd, List.getD_eq_getElem?_getD, this]
        have e1 : a.length - (n + 1) + 1 = a.length - n := by omega
        rw [ea, eb, List.drop_eq_getElem_cons hi, List.drop_eq_getElem_cons (show a.length - (n + 1) < b.length by omega), e1]
        by_cases hq : a[a.length - (n + 1)] = b[a.length - (n + 1)]'(by omega)
        · refine Evt.pos hq ?_
          rw [idxP _ (by omega), e1]
          rw [hq]
          have e2 : decide (b[a.length - (n + 1)]'(by omega) :: a.drop (a.length - n) = b[a.length - (n + 1)]'(by omega) :: b.drop (a.length - n)) = decide (a.drop (a.length - n) = b.drop (a.length - n)) := decide_eq_decide.2 (by simp)
          rw [e2]
          exact ih
        · refine Evt.neg hq (Evt.val' ?_)
          refine (decide_eq_false fun hh => hq ?_).symm
          exact (List.cons.inj hh).1
    have h0 := key a.length (Nat.le_refl _)
    rw [Nat.sub_self] at h0
    exact h0
  · refine Evt.neg (by omega) (Evt.val' ?_)
    exact (decide_eq_false fun e => h (by rw [e])).symm
end Go.Proofs.YtfdlbnfjohpdlaaGreatDoor.Th
namespace Go.Proofs.YtfdlbnfjohpdlaaGreatDoor.Th
open Go.RowKit Go.Lib Go.Proofs.YtfdlbnfjohpdlaaGreatDoor.PPo Go.Proofs.YtfdlbnfjohpdlaaGreatDoorW.PrintWords
set_option linter.unusedVariables false
end Go.Proofs.YtfdlbnfjohpdlaaGreatDoor.Th
