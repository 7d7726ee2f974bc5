import Derived.Test.YtppbcankhkgpfaaDoorPDirx20
import Derived.Test.YtppbcankhkgpfaaDoorPDirx32
import Derived.Test.YtppbcankhkgpfaaDoorPDirx19
import Derived.Test.YtppbcankhkgpfaaDoorPDirx14
import Derived.Test.YtppbcankhkgpfaaDoorPureBu
import Derived.Lib.ConvBytes
import Derived.Lib.SlBytesRow
import Derived.Outline
import Derived.RegionTactic
import Derived.ChangeAlike
namespace Go.Proofs.YtppbcankhkgpfaaDoor.PDir
open Go.RowKit Go.Proofs.YtppbcankhkgpfaaDoorW.PrintWords Go.Proofs.YtppbcankhkgpfaaDoorW.PrintLast Go.Proofs.YtppbcankhkgpfaaDoorW.PrintMore
attribute [local go_sem] max2_int min2_int max_two min_two max_three min_three max_four min_four
set_option linter.unusedVariables false
set_option linter.unusedSimpArgs false
/-- A block holds these bytes. -/
def BLK (W : World) (b : Nat) (l : List UInt8) : Prop := ∃ cs t sz, W.heap[b]? = some (.cells cs t (sz, sz + 1)) ∧ l.length ≤ sz ∧ ∀ j, j < l.length → cs[j]? = some (.int .u8 (l.getD j 0).toNat)
theorem BLK.cell {W : World} {b : Nat} {l : List UInt8} (h : BLK W b l) (j : Nat) (hj : j < l.length) : W.cell? ⟨b, j, none⟩ = some (.int .u8 (l.getD j 0).toNat) := by
  obtain ⟨cs, t, sz, h1, h2, h3⟩ := h
  exact (cell_of_row W b j cs t (sz, sz + 1) h1).trans (h3 j hj)
theorem BLK.frozen {W : World} {b : Nat} {l : List UInt8} (h : BLK W b l) (j : Nat) (hj : j < l.length) : W.frozen? ⟨b, j, none⟩ = false := by
  obtain ⟨cs, t, sz, h1, h2, h3⟩ := h
  simp [World.frozen?, h1]
  omega
theorem BLK.below {W W' : World} {b : Nat} {l : List UInt8} (h : BLK W b l) (hb : Below W.heap.size W W') : BLK W' b l := by
  obtain ⟨cs, t, sz, h1, h2, h3⟩ := h
  exact ⟨cs, t, sz, blk_below h1 hb, h2, h3⟩
theorem BLK.set {W : World} {b : Nat} {l : List UInt8} (h : BLK W b l) (i : Nat) (x : Nat) (hx : x < 256) : BLK (W.setCell ⟨b, i, none⟩ (.int .u8 (x : Int))) b (l.set i (UInt8.ofNat x)) := by
  obtain ⟨cs, t, sz, h1, h2, h3⟩ := h
  refine ⟨cs.setIfInBounds i (.int .u8 (x : Int)), t, sz, by simp [World.setCell, Array.getElem?_modify, h1], by rw [List.length_set]; exact h2, fun j hj => ?_⟩
  rw [List.length_set] at hj
  have hjc := h3 j hj
  rw [Array.getElem?_setIfInBounds, List.getD_eq_getElem?_getD, List.getElem?_set]
  by_cases e : i = j
  · subst e
    have hlt := (Array.getElem?_eq_some_iff.1 hjc).1
    rw [if_pos rfl, if_pos hlt, if_pos rfl, if_pos hj]
    have : (UInt8.ofNat x).toNat = x := by rw [UInt8.toNat_ofNat']; exact Nat.mod_eq_of_lt hx
    simp [this]
  · rw [if_neg e, if_neg e, ← List.getD_eq_getElem?_getD]
    exact hjc
theorem BLK.new (W : World) (e : TypeId) (s : ByteArray) : BLK (Lib.bytesWorld W e s) W.heap.size s.data.toList := by
  refine ⟨_, _, _, Lib.bytesWorld_at_new W e s, ?_, fun j hj => ?_⟩
  · unfold Lib.bytesCells
    simp
  · have h1 := Lib.bytesWorld_cell W e s j (by rw [Lib.size_eq]; exact hj)
    rw [← h1]
    exact (cell_of_row _ _ _ _ _ _ (Lib.bytesWorld_at_new W e s)).symm
theorem BLK.lt {W : World} {b : Nat} {l : List UInt8} (h : BLK W b l) : b < W.heap.size := by
  obtain ⟨cs, t, sz, h1, h2, h3⟩ := h
  exact blk_lt h1
theorem BLK.bytes {W : World} {b : Nat} {l : List UInt8} (h : BLK W b l) : Lib.Bytes W b 0 ⟨l.toArray⟩ := fun i hi => by
  have hi' : i < l.length := by simpa [ByteArray.size] using hi
  rw [Nat.zero_add, h.cell i hi', List.getD_eq_getElem?_getD, List.getElem?_eq_getElem hi']
  rfl
theorem wrapId {n : Int} (h1 : -9223372036854775808 ≤ n) (h2 : n < 9223372036854775808) : wrap64 n = n := by unfold wrap64; omega
theorem bit_is (wh n : Nat) (h : wh < 4294967296) : bits .and .u32 ((wh : Int) / 2 ^ n) 1 = ((wh / 2 ^ n % 2 : Nat) : Int) := by
  have e : ((wh : Int) / 2 ^ n) = ((wh / 2 ^ n : Nat) : Int) := by
    rw [show (2 : Int) ^ n = ((2 ^ n : Nat) : Int) by rw [Int.natCast_pow]; rfl]
    rfl
  rw [e]
  have := Th.and32 (wh / 2 ^ n) 1 (Nat.lt_of_le_of_lt (Nat.div_le_self _ _) h) (by decide)
  rw [Nat.and_one_is_mod] at this
  exact this
theorem turn_bits (c : UInt8) (mo : Nat) (h : mo < 8) : bits .xor .u8 (c.toNat : Int) (2 ^ mo % 256) = ((c.toNat ^^^ 2 ^ mo : Nat) : Int) := by
  have hp : 2 ^ mo < 2 ^ 8 := Nat.pow_lt_pow_right (by decide) h
  have e : ((2 : Int) ^ mo % 256) = ((2 ^ mo : Nat) : Int) := by
    rw [show (2 : Int) ^ mo = ((2 ^ mo : Nat) : Int) by rw [Int.natCast_pow]; rfl]
    exact Int.emod_eq_of_lt (Int.natCast_nonneg _) (Int.ofNat_lt.2 hp)
  rw [e]
  exact Th.bits_natX .u8 8 (Nat.le_refl _) wraps_u8 _ _ c.toNat_lt hp
theorem wrapNat (x : Nat) (h : x ≤ 100000000) : wrap64 (x : Int) = (x : Int) := wrapId (by omega) (by omega)
theorem turn_facts (at_ n sz : Nat) (h2 : (at_ : Int) ≤ 8 * (sz : Int) - 32) (hn : n < 32) (hsz : sz ≤ 1000000) : ∃ q i mo : Nat, q = at_ + n ∧ i = (at_ + n) / 8 ∧ mo = (at_ + n) % 8 ∧ i < sz ∧ mo < 8 ∧ at_ + n ≤ 100000000 ∧ i ≤ 100000000 := ⟨_, _, _, rfl, rfl, rfl, by omega, by omega, by omega, by omega⟩
set_option maxHeartbeats 4000000 in
set_option maxRecDepth 100000 in
theorem DirTurned_full (k : Nat) (A0 : Option Addr) (c0 : Nat) (l0 : List S43) (a1 a2 a3 : Int) (sb : ByteArray) (u : Int) (w : World) (hr0 : Kd.C k43 w A0 l0.length l0) (hc0 : l0.length ≤ c0) (ht : TabsW w)
    (e1 : rootcellarlaw7_shown.f k = some true) (e2 : rootcellarlaw7_small.f k l0 = some true) (e3 : dir_Put.f k l0 = some (sb, 0)) (hsz : sb.size ≤ 1000000) (hsz4 : 4 ≤ sb.size)
    (h1 : 0 ≤ a1) (h2 : a1 ≤ 8 * (sb.size : Int) - 32) (h3 : 0 < a2) (h4 : a2 < 4294967296)
    (e4 : dir_Take.f k ⟨(turnL a1.toNat a2.toNat 32 sb.data.toList).toArray⟩ = some ([], 9)) (j : Nat) (hj : (j : Int) = mx 0 (mn a3 (wrap64 ((sb.size : Int) - 1)))) (hjl : j ≤ sb.size) (e5 : dir_Take.f k (sb.extract 0 j) = some ([], u)) (hu : u ≠ 0) :
    Calls Tryd.prog 5 #[.slice A0 l0.length c0, .int .i64 a1, .int .u32 a2, .int .i64 a3] w fun e w' => e = .returned (.bool true) ∧ Below w.heap.size w w' := by
  have H1 := Aside0.mk (fun W hT => rootcellarlaw7_shown.calls k true W hT e1)
  have H2 := Aside0.mk (fun W (hb : Below w.heap.size w W) => rootcellarlaw7_small.calls k A0 c0 l0 true W (Kd.C_below hr0 hb) hc0 e2)
  have H3 := Aside0.mk (fun W (hb : Below w.heap.size w W) => dir_Put.calls k A0 c0 l0 sb 0 W (Kd.C_below hr0 hb) hc0 (ht.below hb) e3)
  have H4 := Aside0.mk (fun W (hb : Below w.heap.size w W) => dir_Take.calls k _ _ _ W (ht.below hb) e4)
  have H5 := Aside0.mk (fun W (hb : Below w.heap.size w W) => dir_Take.calls k _ _ _ W (ht.below hb) e5)
  have HT := Aside0.mk ht
  have b1 : decide (a1 < 0) = false := decide_eq_false (by omega)
  have b2 : (a2 == 0) = false := by rw [beq_eq_false_iff_ne]; omega
  have hw1 : wrap64 (8 * (sb.size : Int)) = 8 * (sb.size : Int) := wrapId (by omega) (by omega)
  have hw2 : wrap64 (8 * (sb.size : Int) - 32) = 8 * (sb.size : Int) - 32 := wrapId (by omega) (by omega)
  have b3 : decide (8 * (sb.size : Int) - 32 < a1) = false := decide_eq_false (by omega)
  have hcv : ∀ (W : World), (convert 9 39 (.string sb)).run Tryd.prog W = .ok (.slice (some ⟨W.heap.size, 0, none⟩) sb.size (grownCap W sb.size 0 5)) (Lib.bytesWorld W 5 sb) := fun W => Lib.run_convert_string_bytes W 9 39 5 sb Tryd.underlying9 Tryd.underlying39 Tryd.underlying5
  clear hr0 hc0 ht e1 e2 e3 e4 e5
  go_enter Tryd.func5, Tryd.ntmps5
  go_wp2_with (first | (go_at_call 10; go_loud (refine (H1.out _ HT.out).mono ?_; rintro e w1 ⟨rfl, x1⟩; have B1 := Aside0.mk x1; clear x1)) | (go_at_call 15; go_loud (refine (H2.out _ B1.out).mono ?_; rintro e w2 ⟨rfl, y2⟩; have x2 := B1.out.trans (y2.below.mono (below_size B1.out)))) | (go_at_call 16; go_loud (refine (H3.out _ x2).mono ?_; rintro e w3 ⟨rfl, x3⟩; have B3 := Aside0.mk (x2.trans (x3.mono (below_size x2))); clear x2 x3 y2)))
  have HBLK0 := Aside0.mk (BLK.new w3 5 sb)
  have HBE0 := Aside0.mk (bytes_below B3.out (below_size B3.out) 5 sb)
  obtain ⟨at_, rfl⟩ : ∃ m : Nat, a1 = (m : Int) := ⟨a1.toNat, by omega⟩
  obtain ⟨wh, rfl⟩ : ∃ m : Nat, a2 = (m : Int) := ⟨a2.toNat, by omega⟩
  have hsl : sb.data.toList.length = sb.size := (Lib.size_eq sb).symm
  simp only [Int.toNat_natCast] at H4
  generalize sb.data.toList = sl at HBLK0 H4 hsl
  generalize Lib.bytesWorld w3 5 sb = W1 at HBLK0 HBE0 ⊢
  clear hcv b1 b2 b3 hw1 hw2
  go_loopg [14] 32 (fun gg s14 wr => ∃ n : Nat, n ≤ 32 ∧ 32 - n ≤ gg ∧ s14 = .int .i64 n ∧ Aside0 (BLK wr w3.heap.size (turnL at_ wh n sl)) ∧ Aside0 (Below w.heap.size w wr))
  case atStart => exact ⟨0, Nat.zero_le _, by omega, rfl, HBLK0, HBE0⟩
  case round =>
    clear HBLK0 HBE0
    obtain ⟨n, hn, hg, rfl, HBLK, HBE⟩ := hrel
    by_cases hlt : n < 32
    · have hltz : decide ((n : Int) < 32) = true := decide_eq_true (by omega)
      have hkz : (0 : Int) ≤ (n : Int) := by omega
      have hk8 : (n : Int) ≤ 32 := by omega
      obtain ⟨q, i, mo, hq, hi, hmo, hd8, hm8, hle, hile⟩ := turn_facts at_ n sb.size h2 hlt hsz
      have hwA : wrap64 ((at_ : Int) + (n : Int)) = (q : Int) := by rw [← Int.natCast_add, hq]; exact wrapNat _ hle
      have hwi : wrap64 (i : Int) = (i : Int) := wrapNat i hile
      have hwm : wrap64 (mo : Int) = (mo : Int) := wrapNat mo (Nat.le_trans (Nat.le_of_lt hm8) (by decide))
      have hwA2 : IntKind.i64.wrap ((at_ : Int) + (n : Int)) = (q : Int) := by rw [i64_w]; exact hwA
      have hwi2 : IntKind.i64.wrap (i : Int) = (i : Int) := by rw [i64_w]; exact hwi
      have hwm2 : IntKind.i64.wrap (mo : Int) = (mo : Int) := by rw [i64_w]; exact hwm
      have hi0 : (0 : Int) ≤ (i : Int) := Int.natCast_nonneg i
      have hi1 : (i : Int) < (sb.size : Int) := Int.ofNat_lt.2 hd8
      have ho0 : (0 : Int) ≤ (mo : Int) := Int.natCast_nonneg mo
      have ho1 : (mo : Int) ≤ 8 := Int.ofNat_le.2 (Nat.le_of_lt hm8)
      have t8 : Int.tdiv (q : Int) 8 = (i : Int) := by rw [hi, hq]; rfl
      have m8 : Int.tmod (q : Int) 8 = (mo : Int) := by rw [hmo, hq]; rfl
      obtain ⟨m, hm⟩ : ∃ m, m = turnL at_ wh n sl := ⟨_, rfl⟩
      rw [← hm] at HBLK
      have hmlen : m.length = sb.size := by rw [hm, turnL_len, hsl]
      obtain ⟨cb, hcb⟩ : ∃ cb, cb = m.getD i 0 := ⟨_, rfl⟩
      have hturn := turnL_succ at_ wh n sl
      rw [← hm, ← hi, ← hmo, ← hcb] at hturn
      have hc := HBLK.out.cell i (by rw [hmlen]; exact hd8)
      rw [← hcb] at hc
      have hf := HBLK.out.frozen i (by rw [hmlen]; exact hd8)
      have HSET := Aside0.mk (fun x hx => HBLK.out.set i x hx)
      have HTURN := Aside0.mk hturn
      have HI := Aside0.mk hi
      have HNUM := Aside0.mk (show n ≤ 32 ∧ n < 32 ∧ 32 - n ≤ gk ∧ i < sb.size ∧ mo < 8 from ⟨hn, hlt, hg, hd8, hm8⟩)
      have hbi := bit_is wh n (Int.ofNat_lt.1 h4)
      have HX := Aside0.mk (turn_bits cb mo hm8)
      clear hq hi hmo hm hmlen hcb hturn hn hlt hg h1 h2 h3 h4 hsz hsz4 hj hjl hu hsl hm8 hd8 hle hile
      by_cases hb : wh / 2 ^ n % 2 = 1
      · have HBIT := Aside0.mk hb
        have hbit : (bits .and .u32 ((wh : Int) / 2 ^ n) 1 == 1) = true := by rw [hbi, hb]; rfl
        clear hb hbi
        go_wp2
        go_region
        all_goals go_wp2
        all_goals go_roundg (32 - (n + 1))
        case measure => have := HNUM.out; omega
        case rel => exact ⟨n + 1, by have := HNUM.out; omega, by have := HNUM.out; omega, by go_num, ⟨by rw [HTURN.out, if_pos HBIT.out, HX.out]; exact HSET.out _ (Th.bit_lt cb.toNat_lt HNUM.out.2.2.2.2)⟩, ⟨(HBE.out.setCell (below_size B3.out) _).drew⟩⟩
      · have HBIT := Aside0.mk hb
        have hbit : (bits .and .u32 ((wh : Int) / 2 ^ n) 1 == 1) = false := by rw [hbi]; exact beq_eq_false_iff_ne.2 (fun k => hb (Int.ofNat_inj.1 k))
        clear hb hbi
        go_wp2
        go_roundg (32 - (n + 1))
        case measure => have := HNUM.out; omega
        case rel => exact ⟨n + 1, by have := HNUM.out; omega, by have := HNUM.out; omega, by go_num, ⟨by rw [HTURN.out, if_neg HBIT.out]; exact HBLK.out⟩, HBE⟩
    · have hltz : decide ((n : Int) < 32) = false := decide_eq_false (by omega)
      obtain rfl : n = 32 := by omega
      have hcv : ∀ c, (convert 39 9 (.slice (some ⟨w3.heap.size, 0, none⟩) sb.size c)).run Tryd.prog wr = .ok (.string ⟨(turnL at_ wh 32 sl).toArray⟩) wr := fun c => by
        have hcv := Lib.run_convert_whole (P := Tryd.prog) wr 39 5 9 Tryd.underlying39 Tryd.underlying5 Tryd.underlying9 w3.heap.size 0 _ HBLK.out.bytes c
        rw [show (⟨(turnL at_ wh 32 sl).toArray⟩ : ByteArray).size = sb.size by rw [← hsl, ← turnL_len at_ wh sl 32]; simp [ByteArray.size]] at hcv
        exact hcv
      generalize turnL at_ wh 32 sl = m at HBLK H4 hcv
      have huz : (u != 0) = true := by simp [hu]
      have huz2 : (u == 0) = false := by simp [hu]
      obtain ⟨z, hz⟩ : ∃ z : Nat, sb.size = z + 1 := ⟨sb.size - 1, by omega⟩
      have hwz : wrap64 ((sb.size : Int) - 1) = (z : Int) := by rw [wrapId (by omega) (by omega)]; omega
      rw [hwz] at hj
      unfold mx mn at hj
      have hz0 : (0 : Int) < (z : Int) := by omega
      have hz1 : (0 : Int) ≤ (z : Int) := by omega
      have hzs : (z : Int) ≤ (sb.size : Int) := by omega
      by_cases k1 : (z : Int) < a3
      · rw [if_pos k1, if_pos hz0] at hj
        obtain rfl : j = z := by omega
        clear hj hjl
        clear h1 h2 h3 h4 hsz hsz4 hn hg hlt hsl hu hz
        go_wp2_with (first | (go_at_call 12; ((with_reducible refine (H4.out _ HBE.out).mono ?_); rintro e w4 ⟨v4, rfl, o4, x4⟩; obtain ⟨A4, C4, rfl⟩ := Kd.S_slice o4; have B4 := Aside0.mk (HBE.out.trans (x4.mono (below_size HBE.out))); clear x4 o4)) | (go_at_call 12; go_loud (refine (H5.out _ B4.out).mono ?_; rintro e w5 ⟨v5, rfl, o5, x5⟩; obtain ⟨A5, C5, rfl⟩ := Kd.S_slice o5; have B5 := Aside0.mk (B4.out.trans (x5.mono (below_size B4.out))); clear x5 o5)))
        go_ret
        exact ⟨rfl, B5.out⟩
      · rw [if_neg k1] at hj
        by_cases k2 : 0 < a3
        · rw [if_pos k2] at hj
          subst hj
          have hj0 : (0 : Int) ≤ (j : Int) := by omega
          have hjs : (j : Int) ≤ (sb.size : Int) := by omega
          clear hjl
          clear h1 h2 h3 h4 hsz hsz4 hn hg hlt hsl hu hz
          go_wp2_with (first | (go_at_call 12; ((with_reducible refine (H4.out _ HBE.out).mono ?_); rintro e w4 ⟨v4, rfl, o4, x4⟩; obtain ⟨A4, C4, rfl⟩ := Kd.S_slice o4; have B4 := Aside0.mk (HBE.out.trans (x4.mono (below_size HBE.out))); clear x4 o4)) | (go_at_call 12; go_loud (refine (H5.out _ B4.out).mono ?_; rintro e w5 ⟨v5, rfl, o5, x5⟩; obtain ⟨A5, C5, rfl⟩ := Kd.S_slice o5; have B5 := Aside0.mk (B4.out.trans (x5.mono (below_size B4.out))); clear x5 o5)))
          go_ret
          exact ⟨rfl, B5.out⟩
        · rw [if_neg k2] at hj
          obtain rfl : j = 0 := by omega
          have he : sb.extract 0 0 = ByteArray.empty := by apply ByteArray.ext; simp
          rw [he] at H5
          clear hj hjl he
          clear h1 h2 h3 h4 hsz hsz4 hn hg hlt hsl hu hz
          go_wp2_with (first | (go_at_call 12; ((with_reducible refine (H4.out _ HBE.out).mono ?_); rintro e w4 ⟨v4, rfl, o4, x4⟩; obtain ⟨A4, C4, rfl⟩ := Kd.S_slice o4; have B4 := Aside0.mk (HBE.out.trans (x4.mono (below_size HBE.out))); clear x4 o4)) | (go_at_call 12; go_loud (refine (H5.out _ B4.out).mono ?_; rintro e w5 ⟨v5, rfl, o5, x5⟩; obtain ⟨A5, C5, rfl⟩ := Kd.S_slice o5; have B5 := Aside0.mk (B4.out.trans (x5.mono (below_size B4.out))); clear x5 o5)))
          go_ret
          exact ⟨rfl, B5.out⟩
set_option maxHeartbeats 4000000 in
set_option maxRecDepth 100000 in
theorem DirTurned_small (k : Nat) (A0 : Option Addr) (c0 : Nat) (l0 : List S43) (a1 a2 a3 : Int) (w : World) (hr0 : Kd.C k43 w A0 l0.length l0) (hc0 : l0.length ≤ c0) (ht : TabsW w)
    (e1 : rootcellarlaw7_shown.f k = some true) (e2 : rootcellarlaw7_small.f k l0 = some false) :
    Calls Tryd.prog 5 #[.slice A0 l0.length c0, .int .i64 a1, .int .u32 a2, .int .i64 a3] w fun e w' => e = .returned (.bool true) ∧ Below w.heap.size w w' := by
  have H1 := Aside0.mk (fun W hT => rootcellarlaw7_shown.calls k true W hT e1)
  have H2 := Aside0.mk (fun W (hb : Below w.heap.size w W) => rootcellarlaw7_small.calls k A0 c0 l0 false W (Kd.C_below hr0 hb) hc0 e2)
  have HT := Aside0.mk ht
  clear hr0 hc0 ht e1 e2
  go_enter Tryd.func5, Tryd.ntmps5
  go_wp2_with (first | (go_at_call 10; (refine (H1.out _ HT.out).mono ?_; rintro e w1 ⟨rfl, x1⟩; have B1 := Aside0.mk x1; clear x1)) | (go_at_call 15; (refine (H2.out _ B1.out).mono ?_; rintro e w2 ⟨rfl, y2⟩; have x2 := B1.out.trans (y2.below.mono (below_size B1.out)))))
  go_ret
  exact ⟨rfl, x2⟩
set_option maxHeartbeats 4000000 in
set_option maxRecDepth 100000 in
theorem DirTurned_put (k : Nat) (A0 : Option Addr) (c0 : Nat) (l0 : List S43) (a1 a2 a3 : Int) (w : World) (hr0 : Kd.C k43 w A0 l0.length l0) (hc0 : l0.length ≤ c0) (ht : TabsW w)
    (e1 : rootcellarlaw7_shown.f k = some true) (e2 : rootcellarlaw7_small.f k l0 = some true) (sb : ByteArray) (er : Int) (e3 : dir_Put.f k l0 = some (sb, er)) (he : er ≠ 0) :
    Calls Tryd.prog 5 #[.slice A0 l0.length c0, .int .i64 a1, .int .u32 a2, .int .i64 a3] w fun e w' => e = .returned (.bool true) ∧ Below w.heap.size w w' := by
  have H1 := Aside0.mk (fun W hT => rootcellarlaw7_shown.calls k true W hT e1)
  have H2 := Aside0.mk (fun W (hb : Below w.heap.size w W) => rootcellarlaw7_small.calls k A0 c0 l0 true W (Kd.C_below hr0 hb) hc0 e2)
  have H3 := Aside0.mk (fun W (hb : Below w.heap.size w W) => dir_Put.calls k A0 c0 l0 sb er W (Kd.C_below hr0 hb) hc0 (ht.below hb) e3)
  have HT := Aside0.mk ht
  have b0 : (er != 0) = true := by simp [he]
  have b0' : (er == 0) = false := by simp [he]
  clear hr0 hc0 ht e1 e2 e3 he
  go_enter Tryd.func5, Tryd.ntmps5
  go_wp2_with (first | (go_at_call 10; (refine (H1.out _ HT.out).mono ?_; rintro e w1 ⟨rfl, x1⟩; have B1 := Aside0.mk x1; clear x1)) | (go_at_call 15; (refine (H2.out _ B1.out).mono ?_; rintro e w2 ⟨rfl, y2⟩; have x2 := B1.out.trans (y2.below.mono (below_size B1.out)))) | (go_at_call 16; (refine (H3.out _ x2).mono ?_; rintro e w3 ⟨rfl, x3⟩; have B3 := Aside0.mk (x2.trans (x3.mono (below_size x2))); clear x2 x3 y2)))
  go_ret
  exact ⟨rfl, B3.out⟩
set_option maxHeartbeats 4000000 in
set_option maxRecDepth 100000 in
theorem DirTurned_none (k : Nat) (A0 : Option Addr) (c0 : Nat) (l0 : List S43) (a1 a2 a3 : Int) (w : World) (hr0 : Kd.C k43 w A0 l0.length l0) (hc0 : l0.length ≤ c0) (ht : TabsW w)
    (e1 : rootcellarlaw7_shown.f k = some true) (e2 : rootcellarlaw7_small.f k l0 = some true) (sb : ByteArray) (e3 : dir_Put.f k l0 = some (sb, 0)) (hsz : sb.size ≤ 1000000) (hc : a2 = 0 ∨ a1 < 0 ∨ 8 * (sb.size : Int) - 32 < a1) :
    Calls Tryd.prog 5 #[.slice A0 l0.length c0, .int .i64 a1, .int .u32 a2, .int .i64 a3] w fun e w' => e = .returned (.bool true) ∧ Below w.heap.size w w' := by
  have H1 := Aside0.mk (fun W hT => rootcellarlaw7_shown.calls k true W hT e1)
  have H2 := Aside0.mk (fun W (hb : Below w.heap.size w W) => rootcellarlaw7_small.calls k A0 c0 l0 true W (Kd.C_below hr0 hb) hc0 e2)
  have H3 := Aside0.mk (fun W (hb : Below w.heap.size w W) => dir_Put.calls k A0 c0 l0 sb 0 W (Kd.C_below hr0 hb) hc0 (ht.below hb) e3)
  have HT := Aside0.mk ht
  have hw1 : wrap64 (8 * (sb.size : Int)) = 8 * (sb.size : Int) := wrapId (by omega) (by omega)
  have hw2 : wrap64 (8 * (sb.size : Int) - 32) = 8 * (sb.size : Int) - 32 := wrapId (by omega) (by omega)
  clear hr0 hc0 ht e1 e2 e3
  by_cases c2 : a2 = 0
  · have b2 : (a2 == 0) = true := by simp [c2]
    clear hc c2 hsz
    go_enter Tryd.func5, Tryd.ntmps5
    go_wp2_with (first | (go_at_call 10; (refine (H1.out _ HT.out).mono ?_; rintro e w1 ⟨rfl, x1⟩; have B1 := Aside0.mk x1; clear x1)) | (go_at_call 15; (refine (H2.out _ B1.out).mono ?_; rintro e w2 ⟨rfl, y2⟩; have x2 := B1.out.trans (y2.below.mono (below_size B1.out)))) | (go_at_call 16; (refine (H3.out _ x2).mono ?_; rintro e w3 ⟨rfl, x3⟩; have B3 := Aside0.mk (x2.trans (x3.mono (below_size x2))); clear x2 x3 y2)))
    go_ret
    exact ⟨rfl, B3.out⟩
  · have b2 : (a2 == 0) = false := by simp [c2]
    by_cases c1 : a1 < 0
    · have b1 : decide (a1 < 0) = true := decide_eq_true c1
      clear hc c1 c2 hsz
      go_enter Tryd.func5, Tryd.ntmps5
      go_wp2_with (first | (go_at_call 10; (refine (H1.out _ HT.out).mono ?_; rintro e w1 ⟨rfl, x1⟩; have B1 := Aside0.mk x1; clear x1)) | (go_at_call 15; (refine (H2.out _ B1.out).mono ?_; rintro e w2 ⟨rfl, y2⟩; have x2 := B1.out.trans (y2.below.mono (below_size B1.out)))) | (go_at_call 16; (refine (H3.out _ x2).mono ?_; rintro e w3 ⟨rfl, x3⟩; have B3 := Aside0.mk (x2.trans (x3.mono (below_size x2))); clear x2 x3 y2)))
      go_ret
      exact ⟨rfl, B3.out⟩
    · have b1 : decide (a1 < 0) = false := decide_eq_false c1
      have b3 : decide (8 * (sb.size : Int) - 32 < a1) = true := decide_eq_true (by omega)
      clear hc c1 c2 hsz
      go_enter Tryd.func5, Tryd.ntmps5
      go_wp2_with (first | (go_at_call 10; (refine (H1.out _ HT.out).mono ?_; rintro e w1 ⟨rfl, x1⟩; have B1 := Aside0.mk x1; clear x1)) | (go_at_call 15; (refine (H2.out _ B1.out).mono ?_; rintro e w2 ⟨rfl, y2⟩; have x2 := B1.out.trans (y2.below.mono (below_size B1.out)))) | (go_at_call 16; (refine (H3.out _ x2).mono ?_; rintro e w3 ⟨rfl, x3⟩; have B3 := Aside0.mk (x2.trans (x3.mono (below_size x2))); clear x2 x3 y2)))
      go_ret
      exact ⟨rfl, B3.out⟩
/-- What the law's walk asks of the parts, at k rounds. -/
def TurnOk (k : Nat) (l0 : List S43) (a1 a2 a3 : Int) (r : Bool) : Prop := r = true ∧ rootcellarlaw7_shown.f k = some true ∧ (rootcellarlaw7_small.f k l0 = some false ∨ rootcellarlaw7_small.f k l0 = some true ∧ ∃ sb er, dir_Put.f k l0 = some (sb, er) ∧ (er ≠ 0 ∨ er = 0 ∧ sb.size ≤ 1000000 ∧ ((a2 = 0 ∨ a1 < 0 ∨ 8 * (sb.size : Int) - 32 < a1) ∨ 4 ≤ sb.size ∧ 0 ≤ a1 ∧ a1 ≤ 8 * (sb.size : Int) - 32 ∧ 0 < a2 ∧ a2 < 4294967296 ∧
  dir_Take.f k ⟨(turnL a1.toNat a2.toNat 32 sb.data.toList).toArray⟩ = some ([], 9) ∧ ∃ j : Nat, ∃ u : Int, (j : Int) = mx 0 (mn a3 (wrap64 ((sb.size : Int) - 1))) ∧ j ≤ sb.size ∧ dir_Take.f k (sb.extract 0 j) = some ([], u) ∧ u ≠ 0)))
theorem rootcellarlaw7_DirTurned.calls (k : Nat) (A0 : Option Addr) (c0 : Nat) (l0 : List S43) (a1 a2 a3 : Int) (r : Bool) (w : World) (hr0 : Kd.C k43 w A0 l0.length l0) (hc0 : l0.length ≤ c0) (ht : TabsW w) (h : TurnOk k l0 a1 a2 a3 r) :
    Calls Tryd.prog 5 #[.slice A0 l0.length c0, .int .i64 a1, .int .u32 a2, .int .i64 a3] w fun e w' => e = .returned (.bool r) ∧ Below w.heap.size w w' := by
  obtain ⟨rfl, e1, h⟩ := h
  rcases h with e2 | ⟨e2, sb, er, e3, h⟩
  · exact DirTurned_small k A0 c0 l0 a1 a2 a3 w hr0 hc0 ht e1 e2
  · rcases h with he | ⟨rfl, hsz, h⟩
    · exact DirTurned_put k A0 c0 l0 a1 a2 a3 w hr0 hc0 ht e1 e2 sb er e3 he
    · rcases h with hc | ⟨h4, h1, h2, h3, h5, e4, j, u, hj, hjl, e5, hu⟩
      · exact DirTurned_none k A0 c0 l0 a1 a2 a3 w hr0 hc0 ht e1 e2 sb e3 hsz hc
      · exact DirTurned_full k A0 c0 l0 a1 a2 a3 sb u w hr0 hc0 ht e1 e2 e3 hsz h4 h1 h2 h3 h5 e4 j hj hjl e5 hu
end Go.Proofs.YtppbcankhkgpfaaDoor.PDir
