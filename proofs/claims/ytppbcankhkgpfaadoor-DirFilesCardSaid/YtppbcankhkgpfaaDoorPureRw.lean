/-
  rootcellarref7.With.
-/
import Derived.Test.YtppbcankhkgpfaaDoorPDqx34
import Derived.Test.YtppbcankhkgpfaaDoorPureFd
import Derived.Deep.RegionHeld3
--compressed
namespace Go.Proofs.YtppbcankhkgpfaaDoor.PDq
open Go.RowKit Go.Proofs.YtppbcankhkgpfaaDoorW.PrintWords Go.Proofs.YtppbcankhkgpfaaDoorW.PrintLast Go.Proofs.YtppbcankhkgpfaaDoorW.PrintMore
attribute [local go_sem] max2_int min2_int max_two min_two max_three min_three max_four min_four
attribute [local go_sem high] hw_str_leq hw_str_gtr
set_option linter.unusedVariables false
set_option linter.unusedSimpArgs false
abbrev PrR := S45 × List Value
/-- A row of the reference's files of one's own, each beside its cells. -/
def OwnQ (w0 w : World) (v : Value) (ps : List PrR) : Prop := w.ownsRow w0.heap.size 45 3 v ps.length (ps.flatMap (·.2)) ∧ ∀ p ∈ ps, (k45).K w0 p.1 p.2
theorem OwnQ.reads {w0 w : World} {v : Value} {ps : List PrR} (h : OwnQ w0 w v ps) (hb : Below w0.heap.size w0 w) : ∃ A c, v = .slice A (ps.map (·.1)).length c ∧ (ps.map (·.1)).length ≤ c ∧ Kd.C k45 w A (ps.map (·.1)).length (ps.map (·.1)) := by
 have hr : Reps ((k45).K w) 3 (ps.map (·.1)) (ps.flatMap (·.2)) := reps_pairs ps fun p hp => ⟨(k45).K_below hb (h.2 p hp), (k45).K_len (h.2 p hp)⟩
 obtain ⟨A, c, rfl, hrow⟩ := own_reads_row h.1 hr (List.length_map ..)
 have hl := own_le h.1
 exact ⟨A, c, by rw [List.length_map], by rw [List.length_map]; exact hl, by rw [List.length_map]; exact hrow⟩
theorem OwnQ.nil (w0 w : World) : OwnQ w0 w (.slice none 0 0) [] := ⟨⟨rfl, .inl ⟨rfl, rfl⟩⟩, fun _ h => nomatch h⟩
/-- One more, by append. -/
theorem OwnQ.append {ops : Array Oper} {rest : List Oper} {o : Oper} {a : Act} {Q : Exit → Act → World → Prop} {w0 W : World} {v : Value} {ps : List PrR} {x : S45} {cs : List Value} (hgd : o.guard = none) (s y : Operand)
  (ho : o.op = .call { callee := .builtin .append, args := #[s, y], argTypes := #[28, 28] }) (hs : a.eval s = v) (hy : a.eval y = .slice (some ⟨W.heap.size, 0, none⟩) 1 1)
  (hO : OwnQ w0 W v ps) (hb : Below w0.heap.size w0 W) (hl : ps.length ≤ 1000000) (hK : (k45).K w0 x cs)
  (h : ∀ v' w', OwnQ w0 w' v' (ps ++ [(x, cs)]) → Below w0.heap.size w0 w' → wpList Tryd.prog ops Q rest (a.put o.dst v') w') : wpList Tryd.prog ops Q (o :: rest) a (W.alloc (.cells cs.toArray 45)) := by
 obtain ⟨i0, hi, hz0, hz1, hz2⟩ := info_parts info45
 have hb2 := below_alloc hb (.cells cs.toArray 45)
 refine wpList_append_own _ hgd s y 28 ho w0.heap.size 45 i0 _ 3 _ Tryd.underlying28 hi hz0 hz1 hz2 rfl (by decide) v ps.length _ hs (own_alloc hO.1 _) ⟨W.heap.size, 0, none⟩ 1 1 cs hy ((k45).K_len hK) (fun j u hj => by rw [Addr.add_lit, Nat.zero_add, cell_of_list (blk_new W _)]; exact hj) ((k45).K_one hK) (by unfold maxLen; omega) (by omega) (below_size hb2) ?_
 intro v' w' hown hgrow _
 refine h v' w' ⟨by simpa using hown, fun p hp => ?_⟩ (hb2.grown hgrow (below_size hb2) fun k hk => ?_)
 ·rcases List.mem_append.1 hp with hp | hp
  ·exact hO.2 p hp
  ·obtain rfl := List.mem_singleton.1 hp
   exact hK
 ·rcases hO.1.2 with ⟨rfl, _⟩ | ⟨g, cap, cur, rfl, hg, _⟩
  ·simp [Value.ownBlock] at hk
  ·simp [Value.ownBlock] at hk
   omega
/-- A file put in ahead of the first one whose name is behind its own. -/
def insR (a : S45) : List S45 → List S45
 | [] => [a]
 | x :: t => if Op.bytesLess a.f0.toList x.f0.toList = true then a :: x :: t else x :: insR a t
theorem withoutR.calls (k : Nat) (A0 : Option Addr) (c0 : Nat) (l0 : List S45) (a1 : ByteArray) (r : List S45) (w : World) (hr0 : Kd.C k45 w A0 l0.length l0) (hc0 : l0.length ≤ c0) (h : rootcellarref7_Without.f k l0 a1 = some r) :
  Calls Tryd.prog 24 #[.slice A0 l0.length c0, .string a1] w fun e w' => ∃ A c, e = .returned (.slice A r.length c) ∧ r.length ≤ c ∧ Kd.C k45 w' A r.length r ∧ Below w.heap.size w w' := by
 refine (rootcellarref7_Without.calls k (fun k => k < w.heap.size) A0 c0 l0 a1 r w ⟨A0, c0, rfl, hc0, Kd.C_F k45_heap hr0⟩ h).mono ?_
 rintro e w' ⟨v, rfl, hN, hb⟩
 obtain ⟨A, c, rfl, h1, h2⟩ := Kd.N_reads hN
 exact ⟨A, c, rfl, h1, h2, hb⟩
theorem OwnQ.below {w0 w w' : World} {v : Value} {ps : List PrR} (h : OwnQ w0 w v ps) (hb : Below w.heap.size w w') : OwnQ w0 w' v ps := ⟨pw_own_below h.1 hb, h.2⟩
theorem rdR_get (l : List S45) (i : Nat) (h : i < l.length) : rd_T45 l (i : Int) = l[i] := by simp [rd_T45, List.getD_eq_getElem?_getD, h]
/-- What the loop has still to put out. -/
def restR (f : S45) (d : Bool) (l : List S45) : List S45 := if d = true then l else insR f l
set_option maxHeartbeats 4000000 in
set_option maxRecDepth 100000 in
theorem withR.calls (k : Nat) (A0 : Option Addr) (c0 : Nat) (l0 : List S45) (f : S45) (A2 : Option Addr) (c2 : Nat) (r : List S45) (w : World) (hr0 : Kd.C k45 w A0 l0.length l0) (hc0 : l0.length ≤ c0) (hf : Kd.C k64 w A2 f.f2.length f.f2) (hc2 : f.f2.length ≤ c2) (h : rootcellarref7_Without.f k l0 f.f0 = some r) (hl : r.length ≤ 100000) :
  Calls Tryd.prog 22 #[.slice A0 l0.length c0, .agg #[.string f.f0, .int .i64 f.f1, .slice A2 f.f2.length c2]] w fun e w' => ∃ A c, e = .returned (.slice A (insR f r).length c) ∧ (insR f r).length ≤ c ∧ Kd.C k45 w' A (insR f r).length (insR f r) ∧ Below w.heap.size w w' := by
 have hu := Tryd.underlying45
 have hbx := below_alloc (Below.refl w.heap.size w) (.cells #[.string f.f0, .int .i64 f.f1, .slice A2 f.f2.length c2] 45)
 have HCW := Aside0.mk ((withoutR.calls k A0 c0 l0 f.f0 r _ (Kd.C_below hr0 hbx) hc0 h).mono fun e w' (q : ∃ A c, e = .returned (.slice A r.length c) ∧ r.length ≤ c ∧ Kd.C k45 w' A r.length r ∧ Below _ _ w') =>
  (show ∃ A c, e = .returned (.slice A r.length c) ∧ r.length ≤ c ∧ Kd.C k45 w' A r.length r ∧ Kd.C k64 w' A2 f.f2.length f.f2 ∧ w'.heap[w.heap.size]? = some (.cells #[.string f.f0, .int .i64 f.f1, .slice A2 f.f2.length c2] 45 (0, 0)) ∧ w.heap.size < w'.heap.size ∧ Below w.heap.size w w' from
   let ⟨A, c, q1, q2, q3, q4⟩ := q
   ⟨A, c, q1, q2, q3, Kd.C_below (Kd.C_below hf hbx) q4, blk_below (blk_new w _) q4, Nat.lt_of_lt_of_le (by simp) q4.size, hbx.trans (q4.mono hbx.size)⟩))
 have HN := Aside0.mk (And.intro hl hc2)
 clear hr0 hf h hbx hc0 hc2
 go_enter Tryd.func22, Tryd.ntmps22
 go_wp2_with (go_at_call 24; go_loud (refine HCW.out.mono ?_; rintro e w1 ⟨A1, c1, rfl, g1, g2, g3, g4, g5, g6⟩; have G := Aside0.mk (And.intro g1 (And.intro g2 (And.intro g3 (And.intro g4 (And.intro g5 g6))))); clear g1 g2 g3 g4 g5 g6))
 clear HCW
 go_loopg [6, 7, 8] r.length (fun gg s6 s7 s8 wr => ∃ (n : Nat) (d : Bool) (ps : List PrR), s7 = .bool d ∧ s8 = .int .i64 n ∧ n ≤ r.length ∧ r.length - n ≤ gg ∧ Aside0 (OwnQ w1 wr s6 ps ∧ Below w1.heap.size w1 wr ∧ ps.length ≤ n + d.toNat ∧ ps.map (·.1) ++ restR f d (r.drop n) = insR f r))
 case atStart => exact ⟨0, false, [], rfl, rfl, Nat.zero_le _, by omega, ⟨OwnQ.nil _ _, Below.refl _ _, by simp, rfl⟩⟩
 case round =>
  obtain ⟨n, d, ps, rfl, rfl, hn, hg, HI⟩ := hrel
  by_cases hlt : n < r.length
  ·have hltz : decide ((n : Int) < (r.length : Int)) = true := decide_eq_true (by omega)
   have hn0 : (0 : Int) ≤ (n : Int) := by omega
   have hn1 : (n : Int) < (r.length : Int) := by omega
   obtain ⟨ad, A3, c3, rfl, hx0, hx1, hx2, hl2, hC⟩ := at_T45 G.out.2.1 (n : Int) hn0 hn1
   rw [rdR_get r n hlt] at hx0 hx1 hx2 hl2 hC
   have HD := Aside0.mk (List.drop_eq_getElem_cons hlt)
   generalize r[n] = x at hx0 hx1 hx2 hl2 hC HD
   have HKx := Aside0.mk (k45_mk w1 x hl2 hC)
   have HKf := Aside0.mk (k45_mk w1 f HN.out.2 G.out.2.2.1)
   have HB := Aside0.mk HI.out.2.1
   simp only [Int.toNat_natCast] at hx0 hx1 hx2
   have HX := Aside0.mk (show ∀ w', Below w1.heap.size w1 w' → w'.cell? (ad.add (n * 3)) = some (.string x.f0) ∧ w'.cell? ⟨(ad.add (n * 3)).block, (ad.add (n * 3)).off + 1, none⟩ = some (.int .i64 x.f1) ∧ w'.cell? ⟨(ad.add (n * 3)).block, (ad.add (n * 3)).off + 2, none⟩ = some (.slice A3 x.f2.length c3) ∧ w'.cell? ⟨w.heap.size, 0, none⟩ = some (.string f.f0) ∧ w'.cell? ⟨w.heap.size, 1, none⟩ = some (.int .i64 f.f1) ∧ w'.cell? ⟨w.heap.size, 2, none⟩ = some (.slice A2 f.f2.length c2) from fun w' hb =>
    have hfb := blk_below G.out.2.2.2.1 hb
    ⟨(hb.cell (World.block_lt_of_cell? w1 _ hx0)).trans hx0, (hb.cell (World.block_lt_of_cell? w1 _ hx1)).trans hx1, (hb.cell (World.block_lt_of_cell? w1 _ hx2)).trans hx2, blk_cell hfb 0, blk_cell hfb 1, blk_cell hfb 2⟩)
   clear hx0 hx1 hx2
   have mixed : Tryd.prog.follows .mixedOrders = true := by kernel_rfl
   have hB5 : Below w1.heap.size w1 wr.drew := below_drew1 HB.out
   have hO5 : OwnQ w1 wr.drew u6 ps := HI.out.1.below (below_drew1 (Below.refl _ _))
   have HL := Aside0.mk (show ps.length ≤ 100001 by have := HI.out.2.2.1; have := HN.out.1; have : d.toNat ≤ 1 := Bool.toNat_le d; omega)
   clear hl2 hC
   go_upto_region 7 with fail
   cases d with
   | true =>
    refine start_ (n := 12) (S := fun w' => w'.cell? (ad.add (n * 3)) = some (.string x.f0) ∧ w'.cell? ⟨w.heap.size, 0, none⟩ = some (.string f.f0)) (ds := []) #[false, false, false, false, false, false, false, false, false, false, false, false] (by kernel_rfl) rfl rfl ⟨(HX.out _ HB.out).1, (HX.out _ HB.out).2.2.2.1⟩ (fun hHeld => ?_)
    generalize wr.drew = w5 at hHeld hB5 hO5 ⊢
    have HB5 := Aside0.mk hB5
    have HO5 := Aside0.mk hO5
    clear hB5 hO5
    refine pure_ (i := 0) (N := some 19) (v := ?_) (a' := ?_) #[true, false, false, false, false, false, false, false, false, false, false, false] rfl rfl (by kernel_rfl) (fun _ _ _ h => h) (Or.inl ⟨by rfl, ?_⟩) ?_ ?_
    rotate_left
    ·intro w'
     go_simp
     try with_reducible rfl
    rotate_left
    ·simp only [Act.put, List.setIfInBounds_toArray, List.set_cons_zero, List.set_cons_succ, i64_w, i32_w]
     rfl
    refine pure_ (i := 1) (N := some 20) (v := ?_) (a' := ?_) #[true, true, false, false, false, false, false, false, false, false, false, false] rfl rfl (by kernel_rfl) (fun _ _ _ h => h) (Or.inl ⟨by rfl, ?_⟩) ?_ ?_
    rotate_left
    ·intro w'
     go_simp
     try with_reducible rfl
    rotate_left
    ·simp only [Act.put, List.setIfInBounds_toArray, List.set_cons_zero, List.set_cons_succ, i64_w, i32_w]
     rfl
    refine pure_ (i := 2) (N := some 21) (v := ?_) (a' := ?_) #[true, true, true, false, false, false, false, false, false, false, false, false] rfl rfl (by kernel_rfl) (fun _ _ _ h => h) (Or.inl ⟨by rfl, ?_⟩) ?_ ?_
    rotate_left
    ·intro w'
     go_simp
     try with_reducible rfl
    rotate_left
    ·simp only [Act.put, List.setIfInBounds_toArray, List.set_cons_zero, List.set_cons_succ, i64_w, i32_w]
     rfl
    refine pure_ (i := 3) (N := some 22) (v := undef) (a' := ?_) #[true, true, true, true, false, false, false, false, false, false, false, false] rfl rfl (by kernel_rfl) (fun _ _ _ h => h) (Or.inr ⟨by rfl, rfl⟩) ?_ ?_
    rotate_left
    ·simp only [Act.put, List.setIfInBounds_toArray, List.set_cons_zero, List.set_cons_succ, i64_w, i32_w]
     rfl
    refine pure_ (i := 4) (N := some 23) (v := undef) (a' := ?_) #[true, true, true, true, true, false, false, false, false, false, false, false] rfl rfl (by kernel_rfl) (fun _ _ _ h => h) (Or.inr ⟨by rfl, rfl⟩) ?_ ?_
    rotate_left
    ·simp only [Act.put, List.setIfInBounds_toArray, List.set_cons_zero, List.set_cons_succ, i64_w, i32_w]
     rfl
    refine pure_ (i := 5) (N := some 24) (v := undef) (a' := ?_) #[true, true, true, true, true, true, false, false, false, false, false, false] rfl rfl (by kernel_rfl) (fun _ _ _ h => h) (Or.inr ⟨by rfl, rfl⟩) ?_ ?_
    rotate_left
    ·simp only [Act.put, List.setIfInBounds_toArray, List.set_cons_zero, List.set_cons_succ, i64_w, i32_w]
     rfl
    refine pure_ (i := 6) (N := some 25) (v := undef) (a' := ?_) #[true, true, true, true, true, true, true, false, false, false, false, false] rfl rfl (by kernel_rfl) (fun _ _ _ h => h) (Or.inr ⟨by rfl, rfl⟩) ?_ ?_
    rotate_left
    ·simp only [Act.put, List.setIfInBounds_toArray, List.set_cons_zero, List.set_cons_succ, i64_w, i32_w]
     rfl
    refine pure_ (i := 7) (N := some 26) (v := undef) (a' := ?_) #[true, true, true, true, true, true, true, true, false, false, false, false] rfl rfl (by kernel_rfl) (fun _ _ _ h => h) (Or.inr ⟨by rfl, rfl⟩) ?_ ?_
    rotate_left
    ·simp only [Act.put, List.setIfInBounds_toArray, List.set_cons_zero, List.set_cons_succ, i64_w, i32_w]
     rfl
    refine pure_ (i := 8) (N := some 27) (v := undef) (a' := ?_) #[true, true, true, true, true, true, true, true, true, false, false, false] rfl rfl (by kernel_rfl) (fun _ _ _ h => h) (Or.inr ⟨by rfl, rfl⟩) ?_ ?_
    rotate_left
    ·simp only [Act.put, List.setIfInBounds_toArray, List.set_cons_zero, List.set_cons_succ, i64_w, i32_w]
     rfl
    refine pure_ (i := 9) (N := some 28) (v := undef) (a' := ?_) #[true, true, true, true, true, true, true, true, true, true, false, false] rfl rfl (by kernel_rfl) (fun _ _ _ h => h) (Or.inr ⟨by rfl, rfl⟩) ?_ ?_
    rotate_left
    ·simp only [Act.put, List.setIfInBounds_toArray, List.set_cons_zero, List.set_cons_succ, i64_w, i32_w]
     rfl
    refine pure_ (i := 10) (N := some 29) (v := undef) (a' := ?_) #[true, true, true, true, true, true, true, true, true, true, true, false] rfl rfl (by kernel_rfl) (fun _ _ _ h => h) (Or.inr ⟨by rfl, rfl⟩) ?_ ?_
    rotate_left
    ·simp only [Act.put, List.setIfInBounds_toArray, List.set_cons_zero, List.set_cons_succ, i64_w, i32_w]
     rfl
    refine pure_ (i := 11) (N := some 30) (v := ?_) (a' := ?_) #[true, true, true, true, true, true, true, true, true, true, true, true] rfl rfl (by kernel_rfl) (fun _ _ _ h => h) (Or.inl ⟨by rfl, ?_⟩) ?_ ?_
    rotate_left
    ·intro w'
     go_simp
     try with_reducible rfl
    rotate_left
    ·simp only [Act.put, List.setIfInBounds_toArray, List.set_cons_zero, List.set_cons_succ, i64_w, i32_w]
     rfl
    refine done_ (by kernel_rfl) ?_
    clear hHeld
    obtain ⟨hx0, hx1, hx2, hf0, hf1, hf2⟩ := HX.out w5 HB5.out
    go_wp2_with ((with_reducible refine gate_builtin (b := .append) (xs := #[.tmp 35, .tmp 40]) rfl ?_); at_builtin; refine OwnQ.append rfl (.tmp 35) (.tmp 40) rfl rfl rfl HO5.out HB5.out (by have := HL.out; omega) HKx.out ?_; intro v1 w2 ho1 hb1; have H1 := Aside0.mk (And.intro ho1 hb1); clear ho1 hb1)
    go_roundg (r.length - (n + 1))
    case measure => omega
    case rel =>
     refine ⟨n + 1, true, _, rfl, by go_num, by omega, Nat.le_refl _, ⟨H1.out.1, H1.out.2, by have := HI.out.2.2.1; simp only [List.length_append, List.length_singleton, Bool.toNat_true] at this ⊢; omega, ?_⟩⟩
     have e := HI.out.2.2.2
     rw [HD.out] at e
     rw [← e]
     simp [restR]
   | false =>
    cases hq : Op.bytesLess f.f0.toList x.f0.toList with
    | true =>
     refine start_ (n := 12) (S := fun w' => w'.cell? (ad.add (n * 3)) = some (.string x.f0) ∧ w'.cell? ⟨w.heap.size, 0, none⟩ = some (.string f.f0)) (ds := []) #[false, false, false, false, false, false, false, false, false, false, false, false] (by kernel_rfl) rfl rfl ⟨(HX.out _ HB.out).1, (HX.out _ HB.out).2.2.2.1⟩ (fun hHeld => ?_)
     generalize wr.drew = w5 at hHeld hB5 hO5 ⊢
     have HB5 := Aside0.mk hB5
     have HO5 := Aside0.mk hO5
     clear hB5 hO5
     refine pure_ (i := 0) (N := some 19) (v := ?_) (a' := ?_) #[true, false, false, false, false, false, false, false, false, false, false, false] rfl rfl (by kernel_rfl) (fun _ _ _ h => h) (Or.inl ⟨by rfl, ?_⟩) ?_ ?_
     rotate_left
     ·intro w'
      go_simp
      try with_reducible rfl
     rotate_left
     ·simp only [Act.put, List.setIfInBounds_toArray, List.set_cons_zero, List.set_cons_succ, i64_w, i32_w]
      rfl
     refine pure_ (i := 1) (N := some 20) (v := ?_) (a' := ?_) #[true, true, false, false, false, false, false, false, false, false, false, false] rfl rfl (by kernel_rfl) (fun _ _ _ h => h) (Or.inl ⟨by rfl, ?_⟩) ?_ ?_
     rotate_left
     ·intro w'
      go_simp
      try with_reducible rfl
     rotate_left
     ·simp only [Act.put, List.setIfInBounds_toArray, List.set_cons_zero, List.set_cons_succ, i64_w, i32_w]
      rfl
     refine pure_ (i := 2) (N := some 21) (v := ?_) (a' := ?_) #[true, true, true, false, false, false, false, false, false, false, false, false] rfl rfl (by kernel_rfl) (fun _ _ _ h => h) (Or.inl ⟨by rfl, ?_⟩) ?_ ?_
     rotate_left
     ·intro w'
      go_simp
      try with_reducible rfl
     rotate_left
     ·simp only [Act.put, List.setIfInBounds_toArray, List.set_cons_zero, List.set_cons_succ, i64_w, i32_w]
      rfl
     refine pure_ (i := 3) (N := some 22) (v := ?_) (a' := ?_) #[true, true, true, true, false, false, false, false, false, false, false, false] rfl rfl (by kernel_rfl) (fun _ _ _ h => h) (Or.inl ⟨by rfl, ?_⟩) ?_ ?_
     rotate_left
     ·intro w'
      go_simp
      try with_reducible rfl
     rotate_left
     ·simp only [Act.put, List.setIfInBounds_toArray, List.set_cons_zero, List.set_cons_succ, i64_w, i32_w]
      rfl
     refine take_ (i := 4) (N := some 23) (v := ?_) (a' := ?_) #[true, true, true, true, true, false, false, false, false, false, false, false] rfl rfl (by kernel_rfl) (fun _ _ _ h => h) (Or.inl ⟨by rfl, ?_⟩) hHeld ?_ ?_
     rotate_left
     ·rintro w' ⟨s0_, s1_⟩
      go_simp
      try with_reducible rfl
     rotate_left
     ·simp only [Act.put, List.setIfInBounds_toArray, List.set_cons_zero, List.set_cons_succ, i64_w, i32_w]
      rfl
     refine pure_ (i := 5) (N := some 24) (v := ?_) (a' := ?_) #[true, true, true, true, true, true, false, false, false, false, false, false] rfl rfl (by kernel_rfl) (fun _ _ _ h => h) (Or.inl ⟨by rfl, ?_⟩) ?_ ?_
     rotate_left
     ·intro w'
      go_simp
      try with_reducible rfl
     rotate_left
     ·simp only [Act.put, List.setIfInBounds_toArray, List.set_cons_zero, List.set_cons_succ, i64_w, i32_w]
      rfl
     refine pure_ (i := 6) (N := some 25) (v := ?_) (a' := ?_) #[true, true, true, true, true, true, true, false, false, false, false, false] rfl rfl (by kernel_rfl) (fun _ _ _ h => h) (Or.inl ⟨by rfl, ?_⟩) ?_ ?_
     rotate_left
     ·intro w'
      go_simp
      try with_reducible rfl
     rotate_left
     ·simp only [Act.put, List.setIfInBounds_toArray, List.set_cons_zero, List.set_cons_succ, i64_w, i32_w]
      rfl
     refine pure_ (i := 7) (N := some 26) (v := ?_) (a' := ?_) #[true, true, true, true, true, true, true, true, false, false, false, false] rfl rfl (by kernel_rfl) (fun _ _ _ h => h) (Or.inl ⟨by rfl, ?_⟩) ?_ ?_
     rotate_left
     ·intro w'
      go_simp
      try with_reducible rfl
     rotate_left
     ·simp only [Act.put, List.setIfInBounds_toArray, List.set_cons_zero, List.set_cons_succ, i64_w, i32_w]
      rfl
     refine pure_ (i := 8) (N := some 27) (v := ?_) (a' := ?_) #[true, true, true, true, true, true, true, true, true, false, false, false] rfl rfl (by kernel_rfl) (fun _ _ _ h => h) (Or.inl ⟨by rfl, ?_⟩) ?_ ?_
     rotate_left
     ·intro w'
      go_simp
      try with_reducible rfl
     rotate_left
     ·simp only [Act.put, List.setIfInBounds_toArray, List.set_cons_zero, List.set_cons_succ, i64_w, i32_w]
      rfl
     refine take_ (i := 9) (N := some 28) (v := ?_) (a' := ?_) #[true, true, true, true, true, true, true, true, true, true, false, false] rfl rfl (by kernel_rfl) (fun _ _ _ h => h) (Or.inl ⟨by rfl, ?_⟩) hHeld ?_ ?_
     rotate_left
     ·rintro w' ⟨s0_, s1_⟩
      go_simp
      try with_reducible rfl
     rotate_left
     ·simp only [Act.put, List.setIfInBounds_toArray, List.set_cons_zero, List.set_cons_succ, i64_w, i32_w]
      rfl
     refine pure_ (i := 10) (N := some 29) (v := ?_) (a' := ?_) #[true, true, true, true, true, true, true, true, true, true, true, false] rfl rfl (by kernel_rfl) (fun _ _ _ h => h) (Or.inl ⟨by rfl, ?_⟩) ?_ ?_
     rotate_left
     ·intro w'
      go_simp
      try with_reducible rfl
     rotate_left
     ·simp only [Act.put, List.setIfInBounds_toArray, List.set_cons_zero, List.set_cons_succ, i64_w, i32_w]
      rfl
     refine pure_ (i := 11) (N := some 30) (v := ?_) (a' := ?_) #[true, true, true, true, true, true, true, true, true, true, true, true] rfl rfl (by kernel_rfl) (fun _ _ _ h => h) (Or.inl ⟨by rfl, ?_⟩) ?_ ?_
     rotate_left
     ·intro w'
      go_simp
      try with_reducible rfl
     rotate_left
     ·simp only [Act.put, List.setIfInBounds_toArray, List.set_cons_zero, List.set_cons_succ, i64_w, i32_w]
      rfl
     refine done_ (by kernel_rfl) ?_
     clear hHeld
     obtain ⟨hx0, hx1, hx2, hf0, hf1, hf2⟩ := HX.out w5 HB5.out
     go_wp2_with (first
      | ((with_reducible refine gate_builtin (b := .append) (xs := #[.tmp 31, .tmp 33]) rfl ?_); at_builtin; refine OwnQ.append rfl (.tmp 31) (.tmp 33) rfl rfl rfl HO5.out HB5.out (by have := HL.out; omega) HKf.out ?_; intro v1 w2 ho1 hb1; obtain ⟨hy0, hy1, hy2, _, _, _⟩ := HX.out w2 hb1; have H1 := Aside0.mk (And.intro ho1 hb1); clear ho1 hb1)
      | ((with_reducible refine gate_builtin (b := .append) (xs := #[.tmp 35, .tmp 40]) rfl ?_); at_builtin; refine OwnQ.append rfl (.tmp 35) (.tmp 40) rfl rfl rfl H1.out.1 H1.out.2 (by have := HL.out; simp only [List.length_append, List.length_singleton]; omega) HKx.out ?_; intro v3 w3 ho3 hb3; have H3 := Aside0.mk (And.intro ho3 hb3); clear ho3 hb3))
     go_roundg (r.length - (n + 1))
     case measure => omega
     case rel =>
      refine ⟨n + 1, true, _, rfl, by go_num, by omega, Nat.le_refl _, ⟨H3.out.1, H3.out.2, by have := HI.out.2.2.1; simp only [List.length_append, List.length_singleton, Bool.toNat_true, Bool.toNat_false] at this ⊢; omega, ?_⟩⟩
      have e := HI.out.2.2.2
      rw [HD.out] at e
      rw [← e]
      simp [restR, insR, hq]
    | false =>
     refine start_ (n := 12) (S := fun w' => w'.cell? (ad.add (n * 3)) = some (.string x.f0) ∧ w'.cell? ⟨w.heap.size, 0, none⟩ = some (.string f.f0)) (ds := []) #[false, false, false, false, false, false, false, false, false, false, false, false] (by kernel_rfl) rfl rfl ⟨(HX.out _ HB.out).1, (HX.out _ HB.out).2.2.2.1⟩ (fun hHeld => ?_)
     generalize wr.drew = w5 at hHeld hB5 hO5 ⊢
     have HB5 := Aside0.mk hB5
     have HO5 := Aside0.mk hO5
     clear hB5 hO5
     refine pure_ (i := 0) (N := some 19) (v := ?_) (a' := ?_) #[true, false, false, false, false, false, false, false, false, false, false, false] rfl rfl (by kernel_rfl) (fun _ _ _ h => h) (Or.inl ⟨by rfl, ?_⟩) ?_ ?_
     rotate_left
     ·intro w'
      go_simp
      try with_reducible rfl
     rotate_left
     ·simp only [Act.put, List.setIfInBounds_toArray, List.set_cons_zero, List.set_cons_succ, i64_w, i32_w]
      rfl
     refine pure_ (i := 1) (N := some 20) (v := ?_) (a' := ?_) #[true, true, false, false, false, false, false, false, false, false, false, false] rfl rfl (by kernel_rfl) (fun _ _ _ h => h) (Or.inl ⟨by rfl, ?_⟩) ?_ ?_
     rotate_left
     ·intro w'
      go_simp
      try with_reducible rfl
     rotate_left
     ·simp only [Act.put, List.setIfInBounds_toArray, List.set_cons_zero, List.set_cons_succ, i64_w, i32_w]
      rfl
     refine pure_ (i := 2) (N := some 21) (v := ?_) (a' := ?_) #[true, true, true, false, false, false, false, false, false, false, false, false] rfl rfl (by kernel_rfl) (fun _ _ _ h => h) (Or.inl ⟨by rfl, ?_⟩) ?_ ?_
     rotate_left
     ·intro w'
      go_simp
      try with_reducible rfl
     rotate_left
     ·simp only [Act.put, List.setIfInBounds_toArray, List.set_cons_zero, List.set_cons_succ, i64_w, i32_w]
      rfl
     refine pure_ (i := 3) (N := some 22) (v := ?_) (a' := ?_) #[true, true, true, true, false, false, false, false, false, false, false, false] rfl rfl (by kernel_rfl) (fun _ _ _ h => h) (Or.inl ⟨by rfl, ?_⟩) ?_ ?_
     rotate_left
     ·intro w'
      go_simp
      try with_reducible rfl
     rotate_left
     ·simp only [Act.put, List.setIfInBounds_toArray, List.set_cons_zero, List.set_cons_succ, i64_w, i32_w]
      rfl
     refine take_ (i := 4) (N := some 23) (v := ?_) (a' := ?_) #[true, true, true, true, true, false, false, false, false, false, false, false] rfl rfl (by kernel_rfl) (fun _ _ _ h => h) (Or.inl ⟨by rfl, ?_⟩) hHeld ?_ ?_
     rotate_left
     ·rintro w' ⟨s0_, s1_⟩
      go_simp
      try with_reducible rfl
     rotate_left
     ·simp only [Act.put, List.setIfInBounds_toArray, List.set_cons_zero, List.set_cons_succ, i64_w, i32_w]
      rfl
     refine pure_ (i := 5) (N := some 24) (v := ?_) (a' := ?_) #[true, true, true, true, true, true, false, false, false, false, false, false] rfl rfl (by kernel_rfl) (fun _ _ _ h => h) (Or.inl ⟨by rfl, ?_⟩) ?_ ?_
     rotate_left
     ·intro w'
      go_simp
      try with_reducible rfl
     rotate_left
     ·simp only [Act.put, List.setIfInBounds_toArray, List.set_cons_zero, List.set_cons_succ, i64_w, i32_w]
      rfl
     refine pure_ (i := 6) (N := some 25) (v := ?_) (a' := ?_) #[true, true, true, true, true, true, true, false, false, false, false, false] rfl rfl (by kernel_rfl) (fun _ _ _ h => h) (Or.inl ⟨by rfl, ?_⟩) ?_ ?_
     rotate_left
     ·intro w'
      go_simp
      try with_reducible rfl
     rotate_left
     ·simp only [Act.put, List.setIfInBounds_toArray, List.set_cons_zero, List.set_cons_succ, i64_w, i32_w]
      rfl
     refine pure_ (i := 7) (N := some 26) (v := ?_) (a' := ?_) #[true, true, true, true, true, true, true, true, false, false, false, false] rfl rfl (by kernel_rfl) (fun _ _ _ h => h) (Or.inl ⟨by rfl, ?_⟩) ?_ ?_
     rotate_left
     ·intro w'
      go_simp
      try with_reducible rfl
     rotate_left
     ·simp only [Act.put, List.setIfInBounds_toArray, List.set_cons_zero, List.set_cons_succ, i64_w, i32_w]
      rfl
     refine pure_ (i := 8) (N := some 27) (v := ?_) (a' := ?_) #[true, true, true, true, true, true, true, true, true, false, false, false] rfl rfl (by kernel_rfl) (fun _ _ _ h => h) (Or.inl ⟨by rfl, ?_⟩) ?_ ?_
     rotate_left
     ·intro w'
      go_simp
      try with_reducible rfl
     rotate_left
     ·simp only [Act.put, List.setIfInBounds_toArray, List.set_cons_zero, List.set_cons_succ, i64_w, i32_w]
      rfl
     refine take_ (i := 9) (N := some 28) (v := ?_) (a' := ?_) #[true, true, true, true, true, true, true, true, true, true, false, false] rfl rfl (by kernel_rfl) (fun _ _ _ h => h) (Or.inl ⟨by rfl, ?_⟩) hHeld ?_ ?_
     rotate_left
     ·rintro w' ⟨s0_, s1_⟩
      go_simp
      try with_reducible rfl
     rotate_left
     ·simp only [Act.put, List.setIfInBounds_toArray, List.set_cons_zero, List.set_cons_succ, i64_w, i32_w]
      rfl
     refine pure_ (i := 10) (N := some 29) (v := ?_) (a' := ?_) #[true, true, true, true, true, true, true, true, true, true, true, false] rfl rfl (by kernel_rfl) (fun _ _ _ h => h) (Or.inl ⟨by rfl, ?_⟩) ?_ ?_
     rotate_left
     ·intro w'
      go_simp
      try with_reducible rfl
     rotate_left
     ·simp only [Act.put, List.setIfInBounds_toArray, List.set_cons_zero, List.set_cons_succ, i64_w, i32_w]
      rfl
     refine pure_ (i := 11) (N := some 30) (v := ?_) (a' := ?_) #[true, true, true, true, true, true, true, true, true, true, true, true] rfl rfl (by kernel_rfl) (fun _ _ _ h => h) (Or.inl ⟨by rfl, ?_⟩) ?_ ?_
     rotate_left
     ·intro w'
      go_simp
      try with_reducible rfl
     rotate_left
     ·simp only [Act.put, List.setIfInBounds_toArray, List.set_cons_zero, List.set_cons_succ, i64_w, i32_w]
      rfl
     refine done_ (by kernel_rfl) ?_
     clear hHeld
     obtain ⟨hx0, hx1, hx2, hf0, hf1, hf2⟩ := HX.out w5 HB5.out
     go_wp2_with ((with_reducible refine gate_builtin (b := .append) (xs := #[.tmp 35, .tmp 40]) rfl ?_); at_builtin; refine OwnQ.append rfl (.tmp 35) (.tmp 40) rfl rfl rfl HO5.out HB5.out (by have := HL.out; omega) HKx.out ?_; intro v1 w2 ho1 hb1; have H1 := Aside0.mk (And.intro ho1 hb1); clear ho1 hb1)
     go_roundg (r.length - (n + 1))
     case measure => omega
     case rel =>
      refine ⟨n + 1, false, _, rfl, by go_num, by omega, Nat.le_refl _, ⟨H1.out.1, H1.out.2, by have := HI.out.2.2.1; simp only [List.length_append, List.length_singleton, Bool.toNat_true, Bool.toNat_false] at this ⊢; omega, ?_⟩⟩
      have e := HI.out.2.2.2
      rw [HD.out] at e
      rw [← e]
      simp [restR, insR, hq]
  ·obtain rfl : n = r.length := by omega
   have hltz : decide ((r.length : Int) < (r.length : Int)) = false := decide_eq_false (by omega)
   have HO := Aside0.mk HI.out.1
   have HB := Aside0.mk HI.out.2.1
   have HL := Aside0.mk (show ps.length ≤ 100001 by have := HI.out.2.2.1; have := HN.out.1; have : d.toNat ≤ 1 := Bool.toNat_le d; omega)
   have HE := Aside0.mk HI.out.2.2.2
   have hfb := blk_below G.out.2.2.2.1 HB.out
   have hf0 := blk_cell hfb 0
   have hf1 := blk_cell hfb 1
   have hf2 := blk_cell hfb 2
   have HKf := Aside0.mk (k45_mk w1 f HN.out.2 G.out.2.2.1)
   clear hfb
   have fin : ∀ (v : Value) (W : World) (ps : List PrR), OwnQ w1 W v ps → Below w1.heap.size w1 W → ps.map (·.1) = insR f r → ∃ A c, v = .slice A (insR f r).length c ∧ (insR f r).length ≤ c ∧ Kd.C k45 W A (insR f r).length (insR f r) ∧ Below w.heap.size w W := fun v W ps ho hb he => by
    obtain ⟨A, c, hv, hc, hC⟩ := ho.reads hb
    rw [he] at hv hc hC
    exact ⟨A, c, hv, hc, hC, G.out.2.2.2.2.2.trans (hb.mono G.out.2.2.2.2.2.size)⟩
   have FIN := Aside0.mk fin
   clear fin
   cases d with
   | true =>
    have e : ps.map (·.1) = insR f r := by simpa [restR] using HE.out
    obtain ⟨A, c, rfl, h1, h2, h3⟩ := FIN.out u6 wr ps HO.out HB.out e
    have HFI := Aside0.mk (And.intro h1 (And.intro h2 h3))
    clear h1 h2 h3 e FIN
    go_wp2
    go_ret
    exact ⟨A, c, rfl, HFI.out.1, HFI.out.2.1, HFI.out.2.2⟩
   | false =>
    have HE2 := Aside0.mk (show ps.map (·.1) ++ [f] = insR f r by simpa [restR, insR] using HE.out)
    go_wp2_with ((with_reducible refine gate_builtin (b := .append) (xs := #[.tmp 44, .tmp 46]) rfl ?_); at_builtin; refine OwnQ.append rfl (.tmp 44) (.tmp 46) rfl rfl rfl HO.out HB.out (by have := HL.out; omega) HKf.out ?_; intro v1 w2 ho1 hb1; obtain ⟨A, c, rfl, h1, h2, h3⟩ := FIN.out v1 w2 _ ho1 hb1 (by rw [List.map_append]; exact HE2.out); have HFI := Aside0.mk (And.intro h1 (And.intro h2 h3)); clear h1 h2 h3 ho1 hb1)
    go_ret
    exact ⟨A, c, rfl, HFI.out.1, HFI.out.2.1, HFI.out.2.2⟩
end Go.Proofs.YtppbcankhkgpfaaDoor.PDq
