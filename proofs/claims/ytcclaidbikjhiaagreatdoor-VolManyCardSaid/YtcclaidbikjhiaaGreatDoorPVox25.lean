import Derived.Test.YtcclaidbikjhiaaGreatDoorPVox0
import Derived.Test.YtcclaidbikjhiaaGreatDoorPVox18
import Derived.Test.YtcclaidbikjhiaaGreatDoorPVox20
import Derived.Test.YtcclaidbikjhiaaGreatDoorPVox21
--compressed
namespace Go.Proofs.YtcclaidbikjhiaaGreatDoor.PVo
open Go.RowKit Go.Proofs.YtcclaidbikjhiaaGreatDoorW.PrintWords Go.Proofs.YtcclaidbikjhiaaGreatDoorW.PrintLast Go.Proofs.YtcclaidbikjhiaaGreatDoorW.PrintMore
attribute [local go_sem] max2_int min2_int max_two min_two max_three min_three max_four min_four   -- for this text's walks alone
attribute [local go_sem high] hw_str_leq hw_str_gtr
set_option linter.unusedVariables false
set_option linter.unusedSimpArgs false
def rootcellarref2_Put.l0 : Nat → Int → Int → List Int → Int → Option (ByteArray)
 | 0, _, _, _, _ => none
 | k + 1, x0, x1, x5, x6 => if x6 < x1 then (if x6 < 8 then (if x5.length < 140737488355328 then (rootcellarref2_Put.l0 k (IntKind.u64.wrap (Int.tdiv x0 256)) x1 (x5 ++ [(Int.tmod x0 256) % 256]) (wrap64 (x6 + 1))) else (none)) else (some (strOfNums x5))) else (some (strOfNums x5))
def rootcellarref2_Put.f (k : Nat) (a0 : Int) (a1 : Int) : Option (ByteArray) := rootcellarref2_Put.l0 k a0 a1 ([] : List Int) 0
set_option maxHeartbeats 8000000 in
set_option maxRecDepth 100000 in
theorem rootcellarref2_Put.calls (k : Nat) (a0 : Int) (a1 : Int) (r : ByteArray) (w : World) (h : rootcellarref2_Put.f k a0 a1 = some r) :
  Calls Tryz.prog 144 #[.int .u64 a0, .int .i64 a1] w fun e w' => e = .returned (.string r) ∧ Below w.heap.size w w' := by
 have HB := zA (Below.refl w.heap.size w)
 have H : (rootcellarref2_Put.l0 k a0 a1 ([] : List Int) 0) = some r := h
 clear h
 have H' := zA H
 clear H
 go_enter Tryz.func144, Tryz.ntmps144
 go_wp2
 go_loopg [0, 5, 6] k (fun kq v0 v5 v6 w' => ∃ (x0_1 : Int) (x5_1 : List Int) (x6_1 : Int), v0 = .int .u64 x0_1 ∧ v6 = .int .i64 x6_1 ∧ Aside0 (rootcellarref2_Put.l0 kq x0_1 a1 x5_1 x6_1 = some r) ∧ Aside0 (kq ≤ k) ∧ Aside0 (Kd.R (Kd.int .u8) 5 w' w.heap.size (fun _ => True) v5 x5_1) ∧ Aside0 (Below w.heap.size w w'))
 case atStart => exact ⟨(a0), (([] : List Int)), (0), (rfB), (rfB), H', ⟨Nat.le_refl _⟩, ⟨by first | exact Kd.R_nil _ _ _ _ _ | exact Kd.N_nil _ _ _ _ _ | exact Kd.V_nil _ _ _ _ _ | exact Kd.Q_nil _ _ _ _ _ | exact Kd.S_nil _ _ _ _ _⟩, ⟨rW0⟩⟩
 case round =>
  clear H'
  try clear c1
  try clear p2
  obtain ⟨x0_1, x5_1, x6_1, rfl, rfl, HA, HK1, HO_5, HB⟩ := hrel
  cases gk with
  | zero => exact absurd HA.out (by simp [rootcellarref2_Put.l0])
  | succ k1 =>
   have H := HA.out
   clear HA
   simp only [rootcellarref2_Put.l0] at H
   by_cases c3 : x6_1 < a1
   ·rw [if_pos c3] at H
    have c3b0 : decide (x6_1 < a1) = true := zH c3
    clear c3
    by_cases c4 : x6_1 < 8
    ·rw [if_pos c4] at H
     have c4b0 : decide (x6_1 < 8) = true := zH c4
     clear c4
     by_cases c5 : x5_1.length < 140737488355328
     ·rw [if_pos c5] at H
      have LMc5 := zA c5
      clear c5
      obtain ⟨y210, hy210⟩ : ∃ y_ : List Int, y_ = (x5_1 ++ [(Int.tmod x0_1 256) % 256]) := ⟨_, rfl⟩
      replace H : (rootcellarref2_Put.l0 k1 (IntKind.u64.wrap (Int.tdiv x0_1 256)) a1 y210 (wrap64 (x6_1 + 1))) = some r := by first | (rw [hy210]; with_reducible exact H) | (have H2_ := (Option.bind_some _ _).symm.trans H; rw [hy210]; with_reducible exact H2_) | (have H2_ := (Option.bind_some _ _).symm.trans H; with_reducible exact H2_) | with_reducible exact H | (rw [hy210]; exact H) | exact H
      have Ny210 := zA hy210
      clear hy210
      have H' := zA H
      clear H
      go_wp2_with (first | ((with_reducible refine gate_builtin (b := .append) (xs := #[.tmp 16, .tmp 20]) rfl ?_); at_builtin; refine Kd.R_append (Kd.int .u8) (w0 := w) w.heap.size rfl (.tmp 16) (.tmp 20) 141 5 (.int .u8 0) 1 rfl Tryz.underlying141 info5 rfl (by decide) (by omega) u5 x5_1 ((Int.tmod x0_1 256) % 256) [.int .u8 ((Int.tmod x0_1 256) % 256)] (fun _ => True) (fun _ => False) rfl rfl ?aP (fun _ hk => hk.elim) ?aF ?aO ?aB ?aS ?aL ?_; (case aP => exact rfl); (case aB => exact belA); (case aF => exact (fun _ _ => trivial)); (case aO => exact (kdR_ HO_5.out)); (case aS => exact (below_size belA)); (case aL => have := LMc5.out; omega); intro v211 w6 ho hb hg hat; rw [← Ny210.out] at ho; have n0_ := zA (hb); have n1_ := zA (ho); clear HB; clear HO_5; have HB := n0_; have HO212 := n1_; clear n0_ n1_; clear ho hb hg hat))
      go_roundg k1
      case measure => have := HK1.out; omega
      case rel => exact ⟨(IntKind.u64.wrap (Int.tdiv x0_1 256)), (y210), (wrap64 (x6_1 + 1)), (rfB), (rfB), H', ⟨by have := HK1.out; omega⟩, ⟨by (with_reducible repeat (first | apply Kd.R_alloc | apply Kd.R_drewN | apply Kd.R_drew)); exact HO212.out⟩, ⟨rW0⟩⟩
     ·rw [if_neg c5] at H
      exact absurd H (by simp)
    ·rw [if_neg c4] at H
     have c4b0 : decide (x6_1 < 8) = false := zI c4
     clear c4
     obtain rfl := Option.some.inj H
     have hcv7 := own_string (P := Tryz.prog) Tryz.underlying141 Tryz.underlying5 Tryz.underlying9 (Kd.own_of_R HO_5.out)
     go_wp2
     go_ret
     exact ⟨rfA, rW0⟩
   ·rw [if_neg c3] at H
    have c3b0 : decide (x6_1 < a1) = false := zI c3
    clear c3
    obtain rfl := Option.some.inj H
    have hcv8 := own_string (P := Tryz.prog) Tryz.underlying141 Tryz.underlying5 Tryz.underlying9 (Kd.own_of_R HO_5.out)
    go_wp2
    go_ret
    exact ⟨rfA, rW0⟩
mutual
def rootcellarref3_Sum.l0 : Nat → ByteArray → Int → Int → Option (Int)
 | 0, _, _, _ => none
 | k + 1, x0, x3, x4 => if x4 < (x0.size : Int) then (if 0 ≤ x4 then (rootcellarref3_Sum.l1 k x0 x3 x4 ((bt x0 x4) % 4294967296) 0) else (none)) else (some (Go.bits .xor .u32 x3 4294967295))
def rootcellarref3_Sum.l1 : Nat → ByteArray → Int → Int → Int → Int → Option (Int)
 | 0, _, _, _, _, _ => none
 | k + 1, x0, x3, x4, x5, x6 => if x6 < 8 then (if (Go.bits .and .u32 (Go.bits .xor .u32 x3 x5) 1) = 1 then (rootcellarref3_Sum.l1 k x0 (Go.bits .xor .u32 ((Int.tdiv x3 2) % 4294967296) 3988292384) x4 ((Int.tdiv x5 2) % 4294967296) (wrap64 (x6 + 1))) else (rootcellarref3_Sum.l1 k x0 ((Int.tdiv x3 2) % 4294967296) x4 ((Int.tdiv x5 2) % 4294967296) (wrap64 (x6 + 1)))) else (rootcellarref3_Sum.l0 k x0 x3 (wrap64 (x4 + 1)))
end
def rootcellarref3_Sum.f (k : Nat) (a0 : ByteArray) : Option (Int) := rootcellarref3_Sum.l0 k a0 4294967295 0
set_option maxHeartbeats 8000000 in
set_option maxRecDepth 100000 in
theorem rootcellarref3_Sum.calls (k : Nat) (a0 : ByteArray) (r : Int) (w : World) (h : rootcellarref3_Sum.f k a0 = some r) :
  Calls Tryz.prog 186 #[.string a0] w fun e w' => e = .returned (.int .u32 r) ∧ Drawn0 w w' := by
 have H : (rootcellarref3_Sum.l0 k a0 4294967295 0) = some r := h
 clear h
 have H' := zA H
 clear H
 go_enter Tryz.func186, Tryz.ntmps186
 go_wp2
 go_loopg [3, 4] k (fun kq v3 v4 w' => ∃ (x3_1 : Int) (x4_1 : Int), v3 = .int .u32 x3_1 ∧ v4 = .int .i64 x4_1 ∧ Aside0 (rootcellarref3_Sum.l0 kq a0 x3_1 x4_1 = some r) ∧ Aside0 (kq ≤ k) ∧ Drawn0 w w')
 case atStart => exact ⟨(4294967295), (0), (rfB), (rfB), H', ⟨Nat.le_refl _⟩, by repeat (first | exact Drawn0.refl _ | apply Drawn0.step)⟩
 case round =>
  clear H'
  try clear c1
  obtain ⟨x3_1, x4_1, rfl, rfl, HA, HK1, ⟨m1, rfl⟩⟩ := hrel
  cases gk with
  | zero => exact absurd HA.out (by simp [rootcellarref3_Sum.l0])
  | succ k1 =>
   have H := HA.out
   clear HA
   simp only [rootcellarref3_Sum.l0] at H
   by_cases c2 : x4_1 < (a0.size : Int)
   ·rw [if_pos c2] at H
    have c2b0 : decide (x4_1 < (a0.size : Int)) = true := zH c2
    clear c2
    by_cases c3 : 0 ≤ x4_1
    ·rw [if_pos c3] at H
     have c3b0 : decide (0 ≤ x4_1) = true := zH c3
     clear c3
     have H' := zA H
     clear H
     have p4 : 0 ≤ (x4_1 : Int) := zG asA
     have q4 : x4_1 < (a0.size : Int) := zG asA
     have hx4 := bt_at a0 x4_1
     replace p4 := eq_true p4
     replace q4 := eq_true q4
     go_wp2
     go_loopg [3, 5, 6] k1 (fun kq v3 v5 v6 w' => ∃ (x3_2 : Int) (x5_2 : Int) (x6_2 : Int), v3 = .int .u32 x3_2 ∧ v5 = .int .u32 x5_2 ∧ v6 = .int .i64 x6_2 ∧ Aside0 (rootcellarref3_Sum.l1 kq a0 x3_2 x4_1 x5_2 x6_2 = some r) ∧ Aside0 (kq ≤ k1) ∧ Drawn0 w w')
     case atStart => exact ⟨(x3_1), ((bt a0 x4_1) % 4294967296), (0), (rfB), (rfB), (rfB), H', ⟨Nat.le_refl _⟩, by repeat (first | exact Drawn0.refl _ | apply Drawn0.step)⟩
     case round =>
      clear H'
      try clear c1
      try clear c2
      try clear c2b0
      try clear p2
      try clear c3
      try clear c3b0
      try clear p4
      try clear q4
      try clear hx4
      try clear p4
      try clear q4
      obtain ⟨x3_2, x5_2, x6_2, rfl, rfl, rfl, HA, HK2, ⟨m2, rfl⟩⟩ := hrel
      cases gk with
      | zero => exact absurd HA.out (by simp [rootcellarref3_Sum.l1])
      | succ k2 =>
       have H := HA.out
       clear HA
       simp only [rootcellarref3_Sum.l1] at H
       by_cases c5 : x6_2 < 8
       ·rw [if_pos c5] at H
        have c5b0 : decide (x6_2 < 8) = true := zH c5
        clear c5
        by_cases c6 : (Go.bits .and .u32 (Go.bits .xor .u32 x3_2 x5_2) 1) = 1
        ·rw [if_pos c6] at H
         have c6b0 : ((Go.bits .and .u32 (Go.bits .xor .u32 x3_2 x5_2) 1) == 1) = true := beq_iff_eq.mpr c6
         have c6b1 : ((Go.bits .and .u32 (Go.bits .xor .u32 x3_2 x5_2) 1) != 1) = false := bne_eq_false_iff_eq.mpr c6
         clear c6
         have H' := zA H
         clear H
         go_wp2
         go_roundg k2
         case measure => have := HK1.out; have := HK2.out; omega
         case rel => exact ⟨(Go.bits .xor .u32 ((Int.tdiv x3_2 2) % 4294967296) 3988292384), ((Int.tdiv x5_2 2) % 4294967296), (wrap64 (x6_2 + 1)), (rfB), (rfB), (rfB), H', ⟨by have := HK1.out; have := HK2.out; omega⟩, by repeat (first | exact Drawn0.refl _ | apply Drawn0.step)⟩
        ·rw [if_neg c6] at H
         have c6b0 : ((Go.bits .and .u32 (Go.bits .xor .u32 x3_2 x5_2) 1) == 1) = false := beq_eq_false_iff_ne.mpr c6
         have c6b1 : ((Go.bits .and .u32 (Go.bits .xor .u32 x3_2 x5_2) 1) != 1) = true := bne_iff_ne.mpr c6
         have H' := zA H
         clear H
         go_wp2
         go_roundg k2
         case measure => have := HK1.out; have := HK2.out; omega
         case rel => exact ⟨((Int.tdiv x3_2 2) % 4294967296), ((Int.tdiv x5_2 2) % 4294967296), (wrap64 (x6_2 + 1)), (rfB), (rfB), (rfB), H', ⟨by have := HK1.out; have := HK2.out; omega⟩, by repeat (first | exact Drawn0.refl _ | apply Drawn0.step)⟩
       ·rw [if_neg c5] at H
        have c5b0 : decide (x6_2 < 8) = false := zI c5
        clear c5
        have H' := zA H
        clear H
        go_wp2
        go_roundg k2
        case measure => have := HK1.out; have := HK2.out; omega
        case rel => exact ⟨(x3_2), (wrap64 (x4_1 + 1)), (rfB), (rfB), H', ⟨by have := HK1.out; have := HK2.out; omega⟩, by repeat (first | exact Drawn0.refl _ | apply Drawn0.step)⟩
    ·rw [if_neg c3] at H
     exact absurd H (by simp)
   ·rw [if_neg c2] at H
    have c2b0 : decide (x4_1 < (a0.size : Int)) = false := zI c2
    clear c2
    obtain rfl := Option.some.inj H
    go_wp2
    go_ret
    exact ⟨rfB, by repeat (first | exact Drawn0.refl _ | apply Drawn0.step)⟩
def rootcellarref3_Put.f (k : Nat) (a0 : ByteArray) : Option (ByteArray) := (rootcellarref3_Sum.f k a0).bind fun t213 => ((rootcellarref2_Put.f k (IntKind.u64.wrap (t213)) 4).bind fun t214 => (if a0.size + t214.size ≤ 9223372036854775807 then (some (a0 ++ t214)) else (none)))
set_option maxHeartbeats 8000000 in
set_option maxRecDepth 100000 in
theorem rootcellarref3_Put.calls (k : Nat) (a0 : ByteArray) (r : ByteArray) (w : World) (h : rootcellarref3_Put.f k a0 = some r) :
  Calls Tryz.prog 145 #[.string a0] w fun e w' => e = .returned (.string r) ∧ Below w.heap.size w w' := by
 have HB := zA (Below.refl w.heap.size w)
 have H : ((rootcellarref3_Sum.f k a0).bind fun t213 => ((rootcellarref2_Put.f k (IntKind.u64.wrap (t213)) 4).bind fun t214 => (if a0.size + t214.size ≤ 9223372036854775807 then (some (a0 ++ t214)) else (none)))) = some r := h
 clear h
 replace H := Option.bind_eq_some_iff.mp H
 obtain ⟨t213, A20, H⟩ := H
 replace H : ((rootcellarref2_Put.f k (IntKind.u64.wrap (t213)) 4).bind fun t214 => (if a0.size + t214.size ≤ 9223372036854775807 then (some (a0 ++ t214)) else (none))) = some r := H
 have A2 := zA A20
 clear A20
 replace H := Option.bind_eq_some_iff.mp H
 obtain ⟨t214, A30, H⟩ := H
 replace H : (if a0.size + t214.size ≤ 9223372036854775807 then (some (a0 ++ t214)) else (none)) = some r := H
 have A3 := zA A30
 clear A30
 by_cases c4 : a0.size + t214.size ≤ 9223372036854775807
 ·rw [if_pos c4] at H
  have c4b0 := eq_true c4
  have c4b1 : decide (a0.size + t214.size ≤ 9223372036854775807) = true := zH c4
  try have c4b2 : (9223372036854775807 < a0.size + t214.size) = False := eq_false (Nat.not_lt.2 c4)
  obtain rfl := Option.some.inj H
  go_enter Tryz.func145, Tryz.ntmps145
  go_wp2_with (first | ((with_reducible refine gate_callee (f := 186) rfl ?_); refine goesL_ (some 5) rfl rfl Tryz.func186 (by kernel_rfl) rfl #[.string a0] rfl argA ?_; (with_reducible refine (rootcellarref3_Sum.calls k a0 t213 _ A2.out).mono ?_); rintro e w' ⟨rfl, ⟨nd, rfl⟩⟩; refine ⟨_, rfl, ?_⟩) | ((with_reducible refine gate_callee (f := 144) rfl ?_); refine goesL_ (some 7) rfl rfl Tryz.func144 (by kernel_rfl) rfl #[.int .u64 (IntKind.u64.wrap (t213)), .int .i64 4] rfl argA ?_; (with_reducible refine (rootcellarref2_Put.calls k (IntKind.u64.wrap (t213)) 4 t214 _ A3.out).mono ?_); rintro e w5 ⟨rfl, hb⟩; refine ⟨_, rfl, ?_⟩; have n0_ := zA (zL belA hb); clear HB; have HB := n0_; clear n0_; (try clear hb); (try clear hb2); (try clear hk); (try clear hi)))
  go_ret
  exact ⟨rfA, rW0⟩
 ·rw [if_neg c4] at H
  exact absurd H (by simp)
def rootcellarref5_Has.l0 : Nat → List (S87) → Int → Int → Option (Bool)
 | 0, _, _, _ => none
 | k + 1, x0, x1, x5 => if x5 < (x0.length : Int) then (if 0 ≤ x5 then (if x1 ≥ ((rd_T87 x0 x5).f0) then (if (wrap64 (x1 - ((rd_T87 x0 x5).f0))) < ((rd_T87 x0 x5).f1) then (some true) else (rootcellarref5_Has.l0 k x0 x1 (wrap64 (x5 + 1)))) else (rootcellarref5_Has.l0 k x0 x1 (wrap64 (x5 + 1)))) else (none)) else (some false)
def rootcellarref5_Has.f (k : Nat) (l0 : List (S87)) (a1 : Int) : Option (Bool) := rootcellarref5_Has.l0 k l0 a1 0
set_option maxHeartbeats 8000000 in
set_option maxRecDepth 100000 in
theorem rootcellarref5_Has.calls (k : Nat) (A0 : Option Addr) (c0 : Nat) (l0 : List (S87)) (a1 : Int) (r : Bool) (w : World) (hr0 : Kd.C k87 w A0 l0.length l0) (hc0 : l0.length ≤ c0) (h : rootcellarref5_Has.f k l0 a1 = some r) :
  Calls Tryz.prog 188 #[.slice A0 l0.length c0, .int .i64 a1] w fun e w' => e = .returned (.bool r) ∧ Drawn0 w w' := by
 have HR0 := zA hr0
 have HC0 := zA hc0
 clear hr0 hc0
 have H : (rootcellarref5_Has.l0 k l0 a1 0) = some r := h
 clear h
 have H' := zA H
 clear H
 go_enter Tryz.func188, Tryz.ntmps188
 go_wp2
 repeat (go_quiet (fail); try go_wp2)
 go_loopg [5] k (fun kq v5 w' => ∃ (x5_1 : Int), v5 = .int .i64 x5_1 ∧ Aside0 (rootcellarref5_Has.l0 kq l0 a1 x5_1 = some r) ∧ Aside0 (kq ≤ k) ∧ Drawn0 w w')
 case atStart => exact ⟨(0), (rfB), H', ⟨Nat.le_refl _⟩, by repeat (first | exact Drawn0.refl _ | apply Drawn0.step)⟩
 case round =>
  clear H'
  try clear c1
  try clear p2
  obtain ⟨x5_1, rfl, HA, HK1, ⟨m1, rfl⟩⟩ := hrel
  cases gk with
  | zero => exact absurd HA.out (by simp [rootcellarref5_Has.l0])
  | succ k1 =>
   have H := HA.out
   clear HA
   simp only [rootcellarref5_Has.l0] at H
   by_cases c3 : x5_1 < (l0.length : Int)
   ·rw [if_pos c3] at H
    have c3b0 : decide (x5_1 < (l0.length : Int)) = true := zH c3
    clear c3
    by_cases c4 : 0 ≤ x5_1
    ·rw [if_pos c4] at H
     have c4b0 : decide (0 ≤ x5_1) = true := zH c4
     clear c4
     by_cases c5 : a1 ≥ ((rd_T87 l0 x5_1).f0)
     ·rw [if_pos c5] at H
      have c5b0 : decide (((rd_T87 l0 x5_1).f0) ≤ a1) = true := zH c5
      clear c5
      by_cases c6 : (wrap64 (a1 - ((rd_T87 l0 x5_1).f0))) < ((rd_T87 l0 x5_1).f1)
      ·rw [if_pos c6] at H
       have c6b0 : decide ((wrap64 (a1 - ((rd_T87 l0 x5_1).f0))) < ((rd_T87 l0 x5_1).f1)) = true := zH c6
       clear c6
       obtain rfl := Option.some.inj H
       have p227 : 0 ≤ (x5_1 : Int) := zG asA
       have q227 : x5_1 < (l0.length : Int) := zG asA
       obtain ⟨ad227, e227, hx227_0, hx227_1⟩ := at_T87 HR0.out x5_1 p227 q227
       cases e227
       replace p227 := eq_true p227
       replace q227 := eq_true q227
       have p228 : 0 ≤ (x5_1 : Int) := zG asA
       have q228 : x5_1 < (l0.length : Int) := zG asA
       obtain ⟨ad228, e228, hx228_0, hx228_1⟩ := at_T87 HR0.out x5_1 p228 q228
       obtain rfl : ad227 = ad228 := (by injection e228)
       replace p228 := eq_true p228
       replace q228 := eq_true q228
       have p229 : 0 ≤ (x5_1 : Int) := zG asA
       have q229 : x5_1 < (l0.length : Int) := zG asA
       obtain ⟨ad229, e229, hx229_0, hx229_1⟩ := at_T87 HR0.out x5_1 p229 q229
       obtain rfl : ad227 = ad229 := (by injection e229)
       replace p229 := eq_true p229
       replace q229 := eq_true q229
       go_wp2
       repeat (go_quiet (fail); try go_wp2)
       go_ret
       exact ⟨rfB, by repeat (first | exact Drawn0.refl _ | apply Drawn0.step)⟩
      ·rw [if_neg c6] at H
       have c6b0 : decide ((wrap64 (a1 - ((rd_T87 l0 x5_1).f0))) < ((rd_T87 l0 x5_1).f1)) = false := zI c6
       clear c6
       have H' := zA H
       clear H
       have p227 : 0 ≤ (x5_1 : Int) := zG asA
       have q227 : x5_1 < (l0.length : Int) := zG asA
       obtain ⟨ad227, e227, hx227_0, hx227_1⟩ := at_T87 HR0.out x5_1 p227 q227
       cases e227
       replace p227 := eq_true p227
       replace q227 := eq_true q227
       have p228 : 0 ≤ (x5_1 : Int) := zG asA
       have q228 : x5_1 < (l0.length : Int) := zG asA
       obtain ⟨ad228, e228, hx228_0, hx228_1⟩ := at_T87 HR0.out x5_1 p228 q228
       obtain rfl : ad227 = ad228 := (by injection e228)
       replace p228 := eq_true p228
       replace q228 := eq_true q228
       have p229 : 0 ≤ (x5_1 : Int) := zG asA
       have q229 : x5_1 < (l0.length : Int) := zG asA
       obtain ⟨ad229, e229, hx229_0, hx229_1⟩ := at_T87 HR0.out x5_1 p229 q229
       obtain rfl : ad227 = ad229 := (by injection e229)
       replace p229 := eq_true p229
       replace q229 := eq_true q229
       go_wp2
       repeat (go_quiet (fail); try go_wp2)
       go_roundg k1
       case measure => have := HK1.out; omega
       case rel => exact ⟨(wrap64 (x5_1 + 1)), (rfB), H', ⟨by have := HK1.out; omega⟩, by repeat (first | exact Drawn0.refl _ | apply Drawn0.step)⟩
     ·rw [if_neg c5] at H
      have c5b0 : decide (((rd_T87 l0 x5_1).f0) ≤ a1) = false := zI c5
      clear c5
      have H' := zA H
      clear H
      have p227 : 0 ≤ (x5_1 : Int) := zG asA
      have q227 : x5_1 < (l0.length : Int) := zG asA
      obtain ⟨ad227, e227, hx227_0, hx227_1⟩ := at_T87 HR0.out x5_1 p227 q227
      cases e227
      replace p227 := eq_true p227
      replace q227 := eq_true q227
      go_wp2
      repeat (go_quiet (fail); try go_wp2)
      go_roundg k1
      case measure => have := HK1.out; omega
      case rel => exact ⟨(wrap64 (x5_1 + 1)), (rfB), H', ⟨by have := HK1.out; omega⟩, by repeat (first | exact Drawn0.refl _ | apply Drawn0.step)⟩
    ·rw [if_neg c4] at H
     exact absurd H (by simp)
   ·rw [if_neg c3] at H
    have c3b0 : decide (x5_1 < (l0.length : Int)) = false := zI c3
    clear c3
    obtain rfl := Option.some.inj H
    go_wp2
    repeat (go_quiet (fail); try go_wp2)
    go_ret
    exact ⟨rfB, by repeat (first | exact Drawn0.refl _ | apply Drawn0.step)⟩
end Go.Proofs.YtcclaidbikjhiaaGreatDoor.PVo
