/- gristmillref5.exprNode: the ways with a loop. Condition: the library's table of powers of ten reads as it is laid. -/
import Derived.Test.YtmoeekidmkhkoaaDoorFreeH
namespace Go.Proofs.YtmoeekidmkhkoaaDoor.FreeA
open Go.RowKit Go.Proofs.YtmoeekidmkhkoaaDoorW.PrintWords Go.Proofs.YtmoeekidmkhkoaaDoorW.PrintLast Go.Proofs.YtmoeekidmkhkoaaDoorW.PrintMore Go.Proofs.YtmoeekidmkhkoaaDoor.PFreeA
set_option linter.unusedVariables false
set_option linter.unusedSimpArgs false
set_option maxHeartbeats 8000000 in
set_option maxRecDepth 100000 in
theorem exprNode_rest (f0 : Int) (f1 : ByteArray) (f2 : Int) (w : World) (hg : GG w) {A3 A4 A5 : Option Addr} {n3 c3 n4 c4 n5 c5 : Nat} (hop : ∀ k : Int, k = 1 ∨ k = 2 ∨ k = 3 ∨ k = 4 ∨ k = 6 ∨ k = 7 ∨ k = 8 ∨ k = 10 → f0 ≠ k) (l : List S33) (hx : ∀ x ∈ l, XN x) (hl : l.length ≤ 100000000000) (hC4 : k33.C w A4 n4 l):
    Calls Tryd.prog 37 #[.agg #[.int .i64 f0, .string f1, .int .i64 f2, .slice A3 n3 c3, .slice A4 n4 c4, .slice A5 n5 c5]] w (ND w) := by
  have E : ∀ W : World, ∀ o : Obj, (W.alloc o).heap.size = W.heap.size + 1 := fun W o => Array.size_push _
  obtain ⟨W0, hW0⟩ : ∃ W0, (w.alloc (.cells #[.int .i64 f0, .string f1, .int .i64 f2, .slice A3 n3 c3, .slice A4 n4 c4, .slice A5 n5 c5] 33)).alloc (.cells #[.string ⟨#[]⟩, .slice none 0 0, .int .i64 0] 56) = W0 := ⟨_, rfl⟩
  have HB0 : Aside0 (Below w.heap.size w W0) := ⟨by rw [← hW0]; exact below_alloc (below_alloc (Below.refl _ _) _) _⟩
  have hbx : Aside0 (W0.heap[w.heap.size]? = some (.cells #[.int .i64 f0, .string f1, .int .i64 f2, .slice A3 n3 c3, .slice A4 n4 c4, .slice A5 n5 c5] 33 (0, 0))) := ⟨by rw [← hW0]; exact (Below.heap_alloc _ _ _ (by rw [E]; omega)).trans (blk_new w _)⟩
  have hrx : Aside0 (W0.heap[w.heap.size + 1]? = some (.cells #[.string ⟨#[]⟩, .slice none 0 0, .int .i64 0] 56 (0, 0))) := ⟨by rw [← hW0, ← E w]; exact blk_new _ _⟩
  have hl1 : Aside0 (W0.heap.size = w.heap.size + 2) := ⟨by rw [← hW0, E, E]⟩
  have hg0 := Aside0.mk (GG.below hg HB0.out)
  obtain ⟨b9, q9⟩ : ∃ b, (f0 == 9) = b := ⟨_, rfl⟩
  have q1 : (f0 == 1) = false := beq_eq_false_iff_ne.2 (hop 1 (by omega))
  have q2 : (f0 == 2) = false := beq_eq_false_iff_ne.2 (hop 2 (by omega))
  have q3 : (f0 == 3) = false := beq_eq_false_iff_ne.2 (hop 3 (by omega))
  have q4 : (f0 == 4) = false := beq_eq_false_iff_ne.2 (hop 4 (by omega))
  have q6 : (f0 == 6) = false := beq_eq_false_iff_ne.2 (hop 6 (by omega))
  have q7 : (f0 == 7) = false := beq_eq_false_iff_ne.2 (hop 7 (by omega))
  have q8 : (f0 == 8) = false := beq_eq_false_iff_ne.2 (hop 8 (by omega))
  have q10 : (f0 == 10) = false := beq_eq_false_iff_ne.2 (hop 10 (by omega))
  have hC := Aside0.mk (Kd.C_below hC4 HB0.out)
  have hn4 : Aside0 (l.length = n4) := ⟨hC4.1⟩
  clear hop hC4
  have k0 := (blk_cell hbx.out 0).trans rfl
  have k1 := (blk_cell hbx.out 1).trans rfl
  have k2 := (blk_cell hbx.out 2).trans rfl
  have k3 := (blk_cell hbx.out 3).trans rfl
  have k4 := (blk_cell hbx.out 4).trans rfl
  have k5 := (blk_cell hbx.out 5).trans rfl
  cases b9
  · go_enter Tryd.func37, Tryd.ntmps37
    go_wp2_with (first | (go_at_call 52; (try rw [hW0]); go_loud (with_reducible refine (l_calls none 0 0 W0).mono ?_); rintro r w2 ⟨rfl, hb2⟩; have HB2 := Aside0.mk hb2; (have kk := (blk_cell (blk_below hbx.out (below_alloc hb2 (.cells #[.string ⟨#[]⟩, .slice none 0 0, .int .i64 0] 56))) 0).trans rfl); clear hb2 k0 k1 k2 k3 k4 k5))
    obtain ⟨xb, hxb⟩ : ∃ xb, w2.heap.size = xb := ⟨_, rfl⟩
    obtain ⟨Wx, hWx⟩ : ∃ Wx, w2.alloc (.cells #[.string ⟨#[]⟩, .slice none 0 0, .int .i64 0] 56) = Wx := ⟨_, rfl⟩
    have hBx : Aside0 (Below W0.heap.size W0 Wx) := ⟨by rw [← hWx]; exact below_alloc HB2.out _⟩
    have hXx : Aside0 (Wx.heap[xb]? = some (.cells #[.string ⟨#[]⟩, .slice none 0 0, .int .i64 0] 56 (0, 0))) := ⟨by rw [← hWx, ← hxb]; exact blk_new _ _⟩
    have hsx : Aside0 (xb + 1 ≤ Wx.heap.size ∧ W0.heap.size ≤ xb) := ⟨by have := HB2.out.size; rw [← hWx, E]; omega⟩
    have hrX : Aside0 (NR Wx (xb + 1) none none 0 0) := ⟨NR.nil _ _ _⟩
    rw [hxb, hWx]
    clear hWx hxb HB2 hW0
    have hn4 := hn4.out
    go_loopg [8] (n4 + 1) (fun kq v8 w' => ∃ (i m c : Nat) (A : Option Addr), v8 = .int .i64 (i : Int) ∧ i + kq = n4 + 1 ∧ 1 ≤ kq ∧ Aside0 (m ≤ i + 1) ∧ Aside0 (w'.heap[xb]? = some (.cells #[.string ⟨#[]⟩, .slice A m c, .int .i64 0] 56 (0, 0))) ∧ Aside0 (NR w' (xb + 1) none A m c) ∧ Aside0 (Below W0.heap.size W0 w') ∧ Aside0 (xb + 1 ≤ w'.heap.size ∧ W0.heap.size ≤ xb))
    case atStart => exact ⟨0, 0, 0, none, rfl, by omega, by omega, ⟨by omega⟩, hXx, hrX, hBx, hsx⟩
    case round =>
      obtain ⟨i, m, c, A, rfl, hi, hk, hm, hX, hr, hB, hs⟩ := hrel
      have hXb := hX
      have hrow := hr
      have hxs := hs
      have hBr := hB
      have hms : Aside0 (m ≤ 200000000000) := ⟨by have := hm.out; omega⟩
      have hgr := Aside0.mk (GG.below hg0.out hBr.out)
      clear hX hr hs hB
      have k4 := (blk_cell (blk_below hbx.out hBr.out) 4).trans rfl
      by_cases hlt : i < n4
      · have hli : i < l.length := by omega
        have hxi : l[i]? = some l[i] := List.getElem?_eq_getElem hli
        have hx := hx _ (List.getElem_mem hli)
        generalize l[i] = x at hxi hx
        obtain ⟨ad, B3, d3, B4, d4, B5, d5, rfl, he, g3, g4, g5, _, _, _⟩ := elem33 (Kd.C_below hC.out hBr.out) i hxi
        have he := Aside0.mk he
        have h3 := Aside0.mk g3
        have h4 := Aside0.mk g4
        have h5 := Aside0.mk g5
        clear g3 g4 g5
        have p0 : (0 : Int) ≤ (i : Int) := by omega
        have p1 : (i : Int) < (n4 : Int) := by omega
        have q1 : decide ((i : Int) < (n4 : Int)) = true := decide_eq_true p1
        go_wp2
        have HB_ : Below wr.heap.size wr wr.drew := below_drew1 (Below.refl _ _)
        have hg9 := Aside0.mk (GG.below hgr.out HB_)
        refine start_ (n := 12) (S := fun w' => w'.cell? ⟨xb, 1, none⟩ = some (.slice A m c) ∧ w'.cell? ⟨w.heap.size, 4, none⟩ = some (.slice (some ad) n4 c4) ∧ w'.cell? (ad.add (i * 6)) = some (.int .i64 x.f0) ∧ w'.cell? ⟨((ad.add (i * 6))).block, ((ad.add (i * 6))).off + 1, none⟩ = some (.string x.f1) ∧ w'.cell? ⟨((ad.add (i * 6))).block, ((ad.add (i * 6))).off + 2, none⟩ = some (.int .i64 x.f2) ∧ w'.cell? ⟨((ad.add (i * 6))).block, ((ad.add (i * 6))).off + 3, none⟩ = some (.slice B3 x.f3.length d3) ∧ w'.cell? ⟨((ad.add (i * 6))).block, ((ad.add (i * 6))).off + 4, none⟩ = some (.slice B4 x.f4.length d4) ∧ w'.cell? ⟨((ad.add (i * 6))).block, ((ad.add (i * 6))).off + 5, none⟩ = some (.slice B5 x.f5.length d5)) (ds := [9, 11]) #[false, false, false, false, false, false, false, false, false, false, false, false] (by kernel_rfl) rfl rfl ⟨(blk_cell (blk_below hXb.out HB_) 1).trans rfl, (blk_cell (blk_below (blk_below hbx.out hBr.out) HB_) 4).trans rfl, (he.out.below HB_).1, (he.out.below HB_).2.1, (he.out.below HB_).2.2.1, (he.out.below HB_).2.2.2.1, (he.out.below HB_).2.2.2.2.1, (he.out.below HB_).2.2.2.2.2⟩ (fun hHeld => ?_)
        generalize wr.drew = W9 at *
        refine pure_ (i := 0) (N := some 152) (v := ?_) (a' := ?_) #[true, false, false, false, false, false, false, false, false, false, false, false] rfl rfl (by kernel_rfl) (fun _ _ _ h => h) (Or.inl ⟨by rfl, ?_⟩) ?_ ?_
        rotate_left
        · intro w'
          go_simp
          with_reducible rfl
        rotate_left
        · simp only [Act.put, List.setIfInBounds_toArray, List.set_cons_zero, List.set_cons_succ, i64_w, i32_w]
          rfl
        refine pure_ (i := 2) (N := some 154) (v := ?_) (a' := ?_) #[true, false, true, false, false, false, false, false, false, false, false, false] rfl rfl (by kernel_rfl) (fun _ _ _ h => h) (Or.inl ⟨by rfl, ?_⟩) ?_ ?_
        rotate_left
        · intro w'
          go_simp
          with_reducible rfl
        rotate_left
        · simp only [Act.put, List.setIfInBounds_toArray, List.set_cons_zero, List.set_cons_succ, i64_w, i32_w]
          rfl
        refine pure_ (i := 4) (N := some 156) (v := ?_) (a' := ?_) #[true, false, true, false, true, false, false, false, false, false, false, false] rfl rfl (by kernel_rfl) (fun _ _ _ h => h) (Or.inl ⟨by rfl, ?_⟩) ?_ ?_
        rotate_left
        · intro w'
          go_simp
          with_reducible rfl
        rotate_left
        · simp only [Act.put, List.setIfInBounds_toArray, List.set_cons_zero, List.set_cons_succ, i64_w, i32_w]
          rfl
        refine take_ (i := 1) (N := some 153) (v := ?_) (a' := ?_) #[true, true, true, false, true, false, false, false, false, false, false, false] rfl rfl (by kernel_rfl) (fun _ _ _ h => h) (Or.inl ⟨by rfl, ?_⟩) hHeld ?_ ?_
        rotate_left
        · rintro w' ⟨s0, s1, s2, s3, s4, s5, s6, s7⟩
          go_simp
          with_reducible rfl
        rotate_left
        · simp only [Act.put, List.setIfInBounds_toArray, List.set_cons_zero, List.set_cons_succ, i64_w, i32_w]
          rfl
        refine take_ (i := 3) (N := some 155) (v := ?_) (a' := ?_) #[true, true, true, true, true, false, false, false, false, false, false, false] rfl rfl (by kernel_rfl) (fun _ _ _ h => h) (Or.inl ⟨by rfl, ?_⟩) hHeld ?_ ?_
        rotate_left
        · rintro w' ⟨s0, s1, s2, s3, s4, s5, s6, s7⟩
          go_simp
          with_reducible rfl
        rotate_left
        · simp only [Act.put, List.setIfInBounds_toArray, List.set_cons_zero, List.set_cons_succ, i64_w, i32_w]
          rfl
        refine pure_ (i := 5) (N := some 157) (v := ?_) (a' := ?_) #[true, true, true, true, true, true, false, false, false, false, false, false] rfl rfl (by kernel_rfl) (fun _ _ _ h => h) (Or.inl ⟨by rfl, ?_⟩) ?_ ?_
        rotate_left
        · intro w'
          go_simp
          with_reducible rfl
        rotate_left
        · simp only [Act.put, List.setIfInBounds_toArray, List.set_cons_zero, List.set_cons_succ, i64_w, i32_w]
          rfl
        refine take_ (i := 6) (N := some 158) (v := ?_) (a' := ?_) #[true, true, true, true, true, true, true, false, false, false, false, false] rfl rfl (by kernel_rfl) (fun _ _ _ h => h) (Or.inl ⟨by rfl, ?_⟩) hHeld ?_ ?_
        rotate_left
        · rintro w' ⟨s0, s1, s2, s3, s4, s5, s6, s7⟩
          go_simp
          with_reducible rfl
        rotate_left
        · simp only [Act.put, List.setIfInBounds_toArray, List.set_cons_zero, List.set_cons_succ, i64_w, i32_w]
          rfl
        refine one_ (i := 7) (N := some 159) #[true, true, true, true, true, true, true, true, false, false, false, false] rfl rfl (by kernel_rfl) (by decide) (fun K hK => ?_)
        refine goes_ Tryd.func37 (by kernel_rfl) rfl #[.agg #[.int .i64 x.f0, .string x.f1, .int .i64 x.f2, .slice B3 x.f3.length d3, .slice B4 x.f4.length d4, .slice B5 x.f5.length d5]] (by rfl) rfl rfl (by simp only [List.map_toArray, List.map_cons, List.map_nil]; rfl) ?_
        (with_reducible refine (hx.at W9 (GG.below hgr.out HB_) (Kd.C_below h3.out HB_) (Kd.C_below h4.out HB_) (Kd.C_below h5.out HB_)).mono ?_)
        rintro e w5 ⟨s5, A5', n5', c5', rfl, hc5, hn5, hbq5⟩
        refine ⟨_, rfl, ?_⟩
        have HB5 := below_step HB_ hbq5
        refine hK.out _ _ ⟨(blk_cell (blk_below hXb.out HB5) 1).trans rfl, (blk_cell (blk_below (blk_below hbx.out hBr.out) HB5) 4).trans rfl, (he.out.below HB5).1, (he.out.below HB5).2.1, (he.out.below HB5).2.2.1, (he.out.below HB5).2.2.2.1, (he.out.below HB5).2.2.2.2.1, (he.out.below HB5).2.2.2.2.2⟩ (fun hHeld => ?_)
        clear hK K
        refine norm_ (a' := ?_) ?_ ?_
        rotate_left
        · show Act.put _ (some 159) _ = _
          simp only [Act.put, List.setIfInBounds_toArray, List.set_cons_zero, List.set_cons_succ, i64_w, i32_w]
          rfl
        refine one_ (i := 8) (N := some 160) #[true, true, true, true, true, true, true, true, true, false, false, false] rfl rfl (by kernel_rfl) (by decide) (fun K hK => ?_)
        refine value_ (w1 := ?_) (v := ?_) (by rfl) rfl ?_ ?_
        rotate_left 2
        · go_simp
          constructor
          · rfl
          · rfl
        have HBb := below_alloc HB5 (.cells #[.string s5, .slice A5' n5' c5', .int .i64 0] 56)
        refine hK.out _ _ ⟨(blk_cell (blk_below hXb.out HBb) 1).trans rfl, (blk_cell (blk_below (blk_below hbx.out hBr.out) HBb) 4).trans rfl, (he.out.below HBb).1, (he.out.below HBb).2.1, (he.out.below HBb).2.2.1, (he.out.below HBb).2.2.2.1, (he.out.below HBb).2.2.2.2.1, (he.out.below HBb).2.2.2.2.2⟩ (fun hHeld => ?_)
        clear hK K
        refine norm_ (a' := ?_) ?_ ?_
        rotate_left
        · show Act.put _ (some 160) _ = _
          simp only [Act.put, List.setIfInBounds_toArray, List.set_cons_zero, List.set_cons_succ, i64_w, i32_w]
          rfl
        refine last_ (i := 9) (N := some 161) #[true, true, true, true, true, true, true, true, true, true, false, false] rfl rfl (by kernel_rfl) (by decide) (fun K hK => ?_)
        refine app_step (w0 := w5) (xb + 1) (by rfl) (.tmp 153) (.tmp 160) rfl (A := A) (x0 := Option.none) (n := m) (c := c) (s1 := s5) (A1 := A5') (n1 := n5') (c1 := c5') (q := W9.heap.size) rfl rfl (NR.below hrow.out HB5) hn5 hc5 ?_ ?_ (fun y hy => by cases hy) (Below.refl _ _) ?_ ?_ ?_
        · intro k hk; have h1 := NR.lt hrow.out k hk; have h2 := HB_.size; omega
        · have h1 := hxs.out; have h2 := HB_.size; omega
        · have h1 := hxs.out; have h2 := HB5.size; omega
        · have h1 := hms.out; omega
        intro A6 c6 w6 hr6 hb6 hg6
        clear hg6
        have hx6 := (hb6.block xb (Nat.lt_succ_self _)).trans (blk_below hXb.out HB5)
        have hcz := (blk_cell hx6 1).trans rfl
        have hfz := blk_frozen hx6 1
        refine hK.out _ _ ?_
        clear hK K
        refine norm_ (a' := ?_) ?_ ?_
        rotate_left
        · show Act.put _ (some 161) _ = _
          simp only [Act.put, List.setIfInBounds_toArray, List.set_cons_zero, List.set_cons_succ, i64_w, i32_w]
          rfl
        refine pure_ (i := 10) (N := some 162) (v := ?_) (a' := ?_) #[true, true, true, true, true, true, true, true, true, true, true, false] rfl rfl (by kernel_rfl) (fun _ _ _ h => h) (Or.inl ⟨by rfl, ?_⟩) ?_ ?_
        rotate_left
        · intro w'
          go_simp
          with_reducible rfl
        rotate_left
        · simp only [Act.put, List.setIfInBounds_toArray, List.set_cons_zero, List.set_cons_succ, i64_w, i32_w]
          rfl
        refine last_ (i := 11) (N := none) #[true, true, true, true, true, true, true, true, true, true, true, true] rfl rfl (by kernel_rfl) (by decide) (fun K hK => ?_)
        refine skip_ (w1 := ?_) (by rfl) rfl ?_ ?_
        rotate_left
        · go_simp
          rfl
        refine hK.out _ _ ?_
        clear hK K
        refine done_ (by kernel_rfl) ?_
        obtain ⟨W7, hW7⟩ : ∃ W7, w6.setCell ⟨xb, 1, none⟩ (.slice A6 (m + 1) c6) = W7 := ⟨_, rfl⟩
        have hX7 : Aside0 (W7.heap[xb]? = some (.cells #[.string ⟨#[]⟩, .slice A6 (m + 1) c6, .int .i64 0] 56 (0, 0))) := ⟨by rw [← hW7]; exact blk_put hx6 1 _ rfl⟩
        have hr7 : Aside0 (NR W7 (xb + 1) none A6 (m + 1) c6) := ⟨by rw [← hW7]; exact NR.far hr6 (.inl (Nat.lt_succ_self _)) _⟩
        have hB7 : Aside0 (Below W0.heap.size W0 W7) := ⟨by rw [← hW7]; exact ((hBr.out.trans (HB5.mono hBr.out.size)).trans (hb6.mono (by have h1 := hxs.out; omega))).setCell (p := ⟨xb, 1, none⟩) (by have h1 := hxs.out; show W0.heap.size ≤ xb; omega) _⟩
        have hs7 : Aside0 (xb + 1 ≤ W7.heap.size ∧ W0.heap.size ≤ xb) := ⟨by have h1 := (Array.getElem?_eq_some_iff.1 hX7.out).1; have h2 := hxs.out; omega⟩
        rw [hW7]
        clear hHeld
        have hjn : Value.int .i64 (wrap64 ((i : Int) + 1)) = .int .i64 ((i + 1 : Nat) : Int) := by rw [show wrap64 ((i : Int) + 1) = (i : Int) + 1 by unfold wrap64; omega]; rfl
        have hi7 : i + 1 + (gk - 1) = n4 + 1 ∧ 1 ≤ gk - 1 ∧ gk - 1 < gk := by omega
        have hm7 : Aside0 (m + 1 ≤ i + 1 + 1) := ⟨by have := hm.out; omega⟩
        clear q1 p0 p1
        go_wp2
        go_roundg (gk - 1)
        case measure => exact hi7.2.2
        case rel => exact ⟨i + 1, m + 1, c6, A6, by first | exact hjn | rfl, hi7.1, hi7.2.1, hm7, hX7, hr7, hB7, hs7⟩
      · have q1 : decide ((i : Int) < (n4 : Int)) = false := decide_eq_false (by omega)
        have x0 := (blk_cell hXb.out 0).trans rfl
        have x1 := (blk_cell hXb.out 1).trans rfl
        have x2 := (blk_cell hXb.out 2).trans rfl
        have hr1 := blk_below hrx.out hBr.out
        have j0 := (blk_cell hr1 0).trans rfl
        have j1 := (blk_cell hr1 1).trans rfl
        have j2 := (blk_cell hr1 2).trans rfl
        have z0 := blk_frozen hr1 0
        have z1 := blk_frozen hr1 1
        have z2 := blk_frozen hr1 2
        have hl5 : Aside0 (w.heap.size + 1 < xb + 1 ∧ w.heap.size ≤ xb + 1) := ⟨by have h1 := hl1.out; have h2 := hxs.out; omega⟩
        go_wp2
        refine bodyPost_ret (v := .agg #[.string ⟨#[]⟩, .slice A m c, .int .i64 0]) (by simp [results, Tryd.results37, go_sem, *]) rfl ⟨_, A, _, c, rfl, hrow.out.list.2, ?_, ?_⟩
        · exact ((((hrow.out.list.1).far (p := ⟨w.heap.size + 1, 0, none⟩) (.inl hl5.out.1) _).far (p := ⟨w.heap.size + 1, 1, none⟩) (.inl hl5.out.1) _).far (p := ⟨w.heap.size + 1, 2, none⟩) (.inl hl5.out.1) _).list.mono hl5.out.2
        · exact (((HB0.out.trans (hBr.out.mono HB0.out.size)).setCell (p := ⟨w.heap.size + 1, 0, none⟩) (Nat.le_succ _) _).setCell (p := ⟨w.heap.size + 1, 1, none⟩) (Nat.le_succ _) _).setCell (p := ⟨w.heap.size + 1, 2, none⟩) (Nat.le_succ _) _
  · go_enter Tryd.func37, Tryd.ntmps37
    go_wp2_with (first | (go_at_call 52; (try rw [hW0]); go_loud (with_reducible refine (l_calls none 0 0 W0).mono ?_); rintro r w2 ⟨rfl, hb2⟩; have HB2 := Aside0.mk hb2; (have kk := (blk_cell (blk_below hbx.out (below_alloc hb2 (.cells #[.string ⟨#[]⟩, .slice none 0 0, .int .i64 0] 56))) 0).trans rfl); clear hb2 k0 k1 k2 k3 k4 k5))
    obtain ⟨xb, hxb⟩ : ∃ xb, w2.heap.size = xb := ⟨_, rfl⟩
    obtain ⟨Wx, hWx⟩ : ∃ Wx, w2.alloc (.cells #[.string ⟨#[]⟩, .slice none 0 0, .int .i64 0] 56) = Wx := ⟨_, rfl⟩
    have hBx : Aside0 (Below W0.heap.size W0 Wx) := ⟨by rw [← hWx]; exact below_alloc HB2.out _⟩
    have hXx : Aside0 (Wx.heap[xb]? = some (.cells #[.string ⟨#[]⟩, .slice none 0 0, .int .i64 0] 56 (0, 0))) := ⟨by rw [← hWx, ← hxb]; exact blk_new _ _⟩
    have hsx : Aside0 (xb + 1 ≤ Wx.heap.size ∧ W0.heap.size ≤ xb) := ⟨by have := HB2.out.size; rw [← hWx, E]; omega⟩
    have hrX : Aside0 (NR Wx (xb + 1) none none 0 0) := ⟨NR.nil _ _ _⟩
    rw [hxb, hWx]
    clear hWx hxb HB2 hW0
    have hXb := hXx
    have hrow := hrX
    have hxs := hsx
    have hBr := hBx
    have hms : Aside0 (0 ≤ 200000000000) := ⟨by omega⟩
    have hgr := Aside0.mk (GG.below hg0.out hBr.out)
    have HB_ : Below Wx.heap.size Wx Wx.drew := below_drew1 (Below.refl _ _)
    have hg9 := Aside0.mk (GG.below hgr.out HB_)
    refine start_ (n := 9) (S := fun w' => w'.cell? ⟨xb, 1, none⟩ = some (.slice none 0 0) ∧ w'.cell? ⟨w.heap.size, 1, none⟩ = some (.string f1)) (ds := [6, 8]) #[false, false, false, false, false, false, false, false, false] (by kernel_rfl) rfl rfl ⟨(blk_cell (blk_below hXb.out HB_) 1).trans rfl, (blk_cell (blk_below (blk_below hbx.out hBr.out) HB_) 1).trans rfl⟩ (fun hHeld => ?_)
    generalize Wx.drew = W9 at *
    refine pure_ (i := 0) (N := some 137) (v := ?_) (a' := ?_) #[true, false, false, false, false, false, false, false, false] rfl rfl (by kernel_rfl) (fun _ _ _ h => h) (Or.inl ⟨by rfl, ?_⟩) ?_ ?_
    rotate_left
    · intro w'
      go_simp
      with_reducible rfl
    rotate_left
    · simp only [Act.put, List.setIfInBounds_toArray, List.set_cons_zero, List.set_cons_succ, i64_w, i32_w]
      rfl
    refine pure_ (i := 2) (N := some 139) (v := ?_) (a' := ?_) #[true, false, true, false, false, false, false, false, false] rfl rfl (by kernel_rfl) (fun _ _ _ h => h) (Or.inl ⟨by rfl, ?_⟩) ?_ ?_
    rotate_left
    · intro w'
      go_simp
      with_reducible rfl
    rotate_left
    · simp only [Act.put, List.setIfInBounds_toArray, List.set_cons_zero, List.set_cons_succ, i64_w, i32_w]
      rfl
    refine take_ (i := 1) (N := some 138) (v := ?_) (a' := ?_) #[true, true, true, false, false, false, false, false, false] rfl rfl (by kernel_rfl) (fun _ _ _ h => h) (Or.inl ⟨by rfl, ?_⟩) hHeld ?_ ?_
    rotate_left
    · rintro w' ⟨s0, s1⟩
      go_simp
      with_reducible rfl
    rotate_left
    · simp only [Act.put, List.setIfInBounds_toArray, List.set_cons_zero, List.set_cons_succ, i64_w, i32_w]
      rfl
    refine take_ (i := 3) (N := some 140) (v := ?_) (a' := ?_) #[true, true, true, true, false, false, false, false, false] rfl rfl (by kernel_rfl) (fun _ _ _ h => h) (Or.inl ⟨by rfl, ?_⟩) hHeld ?_ ?_
    rotate_left
    · rintro w' ⟨s0, s1⟩
      go_simp
      with_reducible rfl
    rotate_left
    · simp only [Act.put, List.setIfInBounds_toArray, List.set_cons_zero, List.set_cons_succ, i64_w, i32_w]
      rfl
    refine one_ (i := 4) (N := some 141) #[true, true, true, true, true, false, false, false, false] rfl rfl (by kernel_rfl) (by decide) (fun K hK => ?_)
    refine goes_ Tryd.func49 (by kernel_rfl) rfl #[.string f1] (by rfl) rfl rfl (by simp only [List.map_toArray, List.map_cons, List.map_nil]; rfl) ?_
    (with_reducible refine (w_calls f1 W9).mono ?_)
    rintro e w5 ⟨rfl, hbq5⟩
    refine ⟨_, rfl, ?_⟩
    have HB5 := below_step HB_ hbq5
    refine hK.out _ _ ⟨(blk_cell (blk_below hXb.out HB5) 1).trans rfl, (blk_cell (blk_below (blk_below hbx.out hBr.out) HB5) 1).trans rfl⟩ (fun hHeld => ?_)
    clear hK K
    refine norm_ (a' := ?_) ?_ ?_
    rotate_left
    · show Act.put _ (some 141) _ = _
      simp only [Act.put, List.setIfInBounds_toArray, List.set_cons_zero, List.set_cons_succ, i64_w, i32_w]
      rfl
    refine one_ (i := 5) (N := some 142) #[true, true, true, true, true, true, false, false, false] rfl rfl (by kernel_rfl) (by decide) (fun K hK => ?_)
    refine value_ (w1 := ?_) (v := ?_) (by rfl) rfl ?_ ?_
    rotate_left 2
    · go_simp
      constructor
      · rfl
      · rfl
    have HBb := below_alloc HB5 (.cells #[.string f1, .slice none 0 0, .int .i64 0] 56)
    refine hK.out _ _ ⟨(blk_cell (blk_below hXb.out HBb) 1).trans rfl, (blk_cell (blk_below (blk_below hbx.out hBr.out) HBb) 1).trans rfl⟩ (fun hHeld => ?_)
    clear hK K
    refine norm_ (a' := ?_) ?_ ?_
    rotate_left
    · show Act.put _ (some 142) _ = _
      simp only [Act.put, List.setIfInBounds_toArray, List.set_cons_zero, List.set_cons_succ, i64_w, i32_w]
      rfl
    refine last_ (i := 6) (N := some 143) #[true, true, true, true, true, true, true, false, false] rfl rfl (by kernel_rfl) (by decide) (fun K hK => ?_)
    refine app_step (w0 := w5) (xb + 1) (by rfl) (.tmp 138) (.tmp 142) rfl (A := none) (x0 := Option.none) (n := 0) (c := 0) (s1 := f1) (A1 := none) (n1 := 0) (c1 := 0) (q := W9.heap.size) rfl rfl (NR.below hrow.out HB5) (NL.nil _ _) (Nat.le_refl _) ?_ ?_ (fun y hy => by cases hy) (Below.refl _ _) ?_ ?_ ?_
    · intro k hk; have h1 := NR.lt hrow.out k hk; have h2 := HB_.size; omega
    · have h1 := hxs.out; have h2 := HB_.size; omega
    · have h1 := hxs.out; have h2 := HB5.size; omega
    · have h1 := hms.out; omega
    intro A6 c6 w6 hr6 hb6 hg6
    clear hg6
    have hx6 := (hb6.block xb (Nat.lt_succ_self _)).trans (blk_below hXb.out HB5)
    have hcz := (blk_cell hx6 1).trans rfl
    have hfz := blk_frozen hx6 1
    refine hK.out _ _ ?_
    clear hK K
    refine norm_ (a' := ?_) ?_ ?_
    rotate_left
    · show Act.put _ (some 143) _ = _
      simp only [Act.put, List.setIfInBounds_toArray, List.set_cons_zero, List.set_cons_succ, i64_w, i32_w]
      rfl
    refine pure_ (i := 7) (N := some 144) (v := ?_) (a' := ?_) #[true, true, true, true, true, true, true, true, false] rfl rfl (by kernel_rfl) (fun _ _ _ h => h) (Or.inl ⟨by rfl, ?_⟩) ?_ ?_
    rotate_left
    · intro w'
      go_simp
      with_reducible rfl
    rotate_left
    · simp only [Act.put, List.setIfInBounds_toArray, List.set_cons_zero, List.set_cons_succ, i64_w, i32_w]
      rfl
    refine last_ (i := 8) (N := none) #[true, true, true, true, true, true, true, true, true] rfl rfl (by kernel_rfl) (by decide) (fun K hK => ?_)
    refine skip_ (w1 := ?_) (by rfl) rfl ?_ ?_
    rotate_left
    · go_simp
      rfl
    refine hK.out _ _ ?_
    clear hK K
    refine done_ (by kernel_rfl) ?_
    obtain ⟨W7, hW7⟩ : ∃ W7, w6.setCell ⟨xb, 1, none⟩ (.slice A6 (0 + 1) c6) = W7 := ⟨_, rfl⟩
    have hX7 : Aside0 (W7.heap[xb]? = some (.cells #[.string ⟨#[]⟩, .slice A6 (0 + 1) c6, .int .i64 0] 56 (0, 0))) := ⟨by rw [← hW7]; exact blk_put hx6 1 _ rfl⟩
    have hr7 : Aside0 (NR W7 (xb + 1) none A6 (0 + 1) c6) := ⟨by rw [← hW7]; exact NR.far hr6 (.inl (Nat.lt_succ_self _)) _⟩
    have hB7 : Aside0 (Below W0.heap.size W0 W7) := ⟨by rw [← hW7]; exact ((hBr.out.trans (HB5.mono hBr.out.size)).trans (hb6.mono (by have h1 := hxs.out; omega))).setCell (p := ⟨xb, 1, none⟩) (by have h1 := hxs.out; show W0.heap.size ≤ xb; omega) _⟩
    have hs7 : Aside0 (xb + 1 ≤ W7.heap.size ∧ W0.heap.size ≤ xb) := ⟨by have h1 := (Array.getElem?_eq_some_iff.1 hX7.out).1; have h2 := hxs.out; omega⟩
    rw [hW7]
    clear hHeld hXb hrow hxs hBr hms hgr hXx hrX hsx hBx
    have k4 := (blk_cell (blk_below hbx.out hB7.out) 4).trans rfl
    go_wp2
    have hXx := hX7
    have hrX := hr7
    have hBx := hB7
    have hsx := hs7
    clear hX7 hr7 hB7 hs7
    have hn4 := hn4.out
    go_loopg [8] (n4 + 1) (fun kq v8 w' => ∃ (i m c : Nat) (A : Option Addr), v8 = .int .i64 (i : Int) ∧ i + kq = n4 + 1 ∧ 1 ≤ kq ∧ Aside0 (m ≤ i + 1) ∧ Aside0 (w'.heap[xb]? = some (.cells #[.string ⟨#[]⟩, .slice A m c, .int .i64 0] 56 (0, 0))) ∧ Aside0 (NR w' (xb + 1) none A m c) ∧ Aside0 (Below W0.heap.size W0 w') ∧ Aside0 (xb + 1 ≤ w'.heap.size ∧ W0.heap.size ≤ xb))
    case atStart => exact ⟨0, 0 + 1, c6, A6, rfl, by omega, by omega, ⟨by omega⟩, hXx, hrX, hBx, hsx⟩
    case round =>
      obtain ⟨i, m, c, A, rfl, hi, hk, hm, hX, hr, hB, hs⟩ := hrel
      have hXb := hX
      have hrow := hr
      have hxs := hs
      have hBr := hB
      have hms : Aside0 (m ≤ 200000000000) := ⟨by have := hm.out; omega⟩
      have hgr := Aside0.mk (GG.below hg0.out hBr.out)
      clear hX hr hs hB
      have k4 := (blk_cell (blk_below hbx.out hBr.out) 4).trans rfl
      by_cases hlt : i < n4
      · have hli : i < l.length := by omega
        have hxi : l[i]? = some l[i] := List.getElem?_eq_getElem hli
        have hx := hx _ (List.getElem_mem hli)
        generalize l[i] = x at hxi hx
        obtain ⟨ad, B3, d3, B4, d4, B5, d5, rfl, he, g3, g4, g5, _, _, _⟩ := elem33 (Kd.C_below hC.out hBr.out) i hxi
        have he := Aside0.mk he
        have h3 := Aside0.mk g3
        have h4 := Aside0.mk g4
        have h5 := Aside0.mk g5
        clear g3 g4 g5
        have p0 : (0 : Int) ≤ (i : Int) := by omega
        have p1 : (i : Int) < (n4 : Int) := by omega
        have q1 : decide ((i : Int) < (n4 : Int)) = true := decide_eq_true p1
        go_wp2
        have HB_ : Below wr.heap.size wr wr.drew := below_drew1 (Below.refl _ _)
        have hg9 := Aside0.mk (GG.below hgr.out HB_)
        refine start_ (n := 12) (S := fun w' => w'.cell? ⟨xb, 1, none⟩ = some (.slice A m c) ∧ w'.cell? ⟨w.heap.size, 4, none⟩ = some (.slice (some ad) n4 c4) ∧ w'.cell? (ad.add (i * 6)) = some (.int .i64 x.f0) ∧ w'.cell? ⟨((ad.add (i * 6))).block, ((ad.add (i * 6))).off + 1, none⟩ = some (.string x.f1) ∧ w'.cell? ⟨((ad.add (i * 6))).block, ((ad.add (i * 6))).off + 2, none⟩ = some (.int .i64 x.f2) ∧ w'.cell? ⟨((ad.add (i * 6))).block, ((ad.add (i * 6))).off + 3, none⟩ = some (.slice B3 x.f3.length d3) ∧ w'.cell? ⟨((ad.add (i * 6))).block, ((ad.add (i * 6))).off + 4, none⟩ = some (.slice B4 x.f4.length d4) ∧ w'.cell? ⟨((ad.add (i * 6))).block, ((ad.add (i * 6))).off + 5, none⟩ = some (.slice B5 x.f5.length d5)) (ds := [9, 11]) #[false, false, false, false, false, false, false, false, false, false, false, false] (by kernel_rfl) rfl rfl ⟨(blk_cell (blk_below hXb.out HB_) 1).trans rfl, (blk_cell (blk_below (blk_below hbx.out hBr.out) HB_) 4).trans rfl, (he.out.below HB_).1, (he.out.below HB_).2.1, (he.out.below HB_).2.2.1, (he.out.below HB_).2.2.2.1, (he.out.below HB_).2.2.2.2.1, (he.out.below HB_).2.2.2.2.2⟩ (fun hHeld => ?_)
        generalize wr.drew = W9 at *
        refine pure_ (i := 0) (N := some 152) (v := ?_) (a' := ?_) #[true, false, false, false, false, false, false, false, false, false, false, false] rfl rfl (by kernel_rfl) (fun _ _ _ h => h) (Or.inl ⟨by rfl, ?_⟩) ?_ ?_
        rotate_left
        · intro w'
          go_simp
          with_reducible rfl
        rotate_left
        · simp only [Act.put, List.setIfInBounds_toArray, List.set_cons_zero, List.set_cons_succ, i64_w, i32_w]
          rfl
        refine pure_ (i := 2) (N := some 154) (v := ?_) (a' := ?_) #[true, false, true, false, false, false, false, false, false, false, false, false] rfl rfl (by kernel_rfl) (fun _ _ _ h => h) (Or.inl ⟨by rfl, ?_⟩) ?_ ?_
        rotate_left
        · intro w'
          go_simp
          with_reducible rfl
        rotate_left
        · simp only [Act.put, List.setIfInBounds_toArray, List.set_cons_zero, List.set_cons_succ, i64_w, i32_w]
          rfl
        refine pure_ (i := 4) (N := some 156) (v := ?_) (a' := ?_) #[true, false, true, false, true, false, false, false, false, false, false, false] rfl rfl (by kernel_rfl) (fun _ _ _ h => h) (Or.inl ⟨by rfl, ?_⟩) ?_ ?_
        rotate_left
        · intro w'
          go_simp
          with_reducible rfl
        rotate_left
        · simp only [Act.put, List.setIfInBounds_toArray, List.set_cons_zero, List.set_cons_succ, i64_w, i32_w]
          rfl
        refine take_ (i := 1) (N := some 153) (v := ?_) (a' := ?_) #[true, true, true, false, true, false, false, false, false, false, false, false] rfl rfl (by kernel_rfl) (fun _ _ _ h => h) (Or.inl ⟨by rfl, ?_⟩) hHeld ?_ ?_
        rotate_left
        · rintro w' ⟨s0, s1, s2, s3, s4, s5, s6, s7⟩
          go_simp
          with_reducible rfl
        rotate_left
        · simp only [Act.put, List.setIfInBounds_toArray, List.set_cons_zero, List.set_cons_succ, i64_w, i32_w]
          rfl
        refine take_ (i := 3) (N := some 155) (v := ?_) (a' := ?_) #[true, true, true, true, true, false, false, false, false, false, false, false] rfl rfl (by kernel_rfl) (fun _ _ _ h => h) (Or.inl ⟨by rfl, ?_⟩) hHeld ?_ ?_
        rotate_left
        · rintro w' ⟨s0, s1, s2, s3, s4, s5, s6, s7⟩
          go_simp
          with_reducible rfl
        rotate_left
        · simp only [Act.put, List.setIfInBounds_toArray, List.set_cons_zero, List.set_cons_succ, i64_w, i32_w]
          rfl
        refine pure_ (i := 5) (N := some 157) (v := ?_) (a' := ?_) #[true, true, true, true, true, true, false, false, false, false, false, false] rfl rfl (by kernel_rfl) (fun _ _ _ h => h) (Or.inl ⟨by rfl, ?_⟩) ?_ ?_
        rotate_left
        · intro w'
          go_simp
          with_reducible rfl
        rotate_left
        · simp only [Act.put, List.setIfInBounds_toArray, List.set_cons_zero, List.set_cons_succ, i64_w, i32_w]
          rfl
        refine take_ (i := 6) (N := some 158) (v := ?_) (a' := ?_) #[true, true, true, true, true, true, true, false, false, false, false, false] rfl rfl (by kernel_rfl) (fun _ _ _ h => h) (Or.inl ⟨by rfl, ?_⟩) hHeld ?_ ?_
        rotate_left
        · rintro w' ⟨s0, s1, s2, s3, s4, s5, s6, s7⟩
          go_simp
          with_reducible rfl
        rotate_left
        · simp only [Act.put, List.setIfInBounds_toArray, List.set_cons_zero, List.set_cons_succ, i64_w, i32_w]
          rfl
        refine one_ (i := 7) (N := some 159) #[true, true, true, true, true, true, true, true, false, false, false, false] rfl rfl (by kernel_rfl) (by decide) (fun K hK => ?_)
        refine goes_ Tryd.func37 (by kernel_rfl) rfl #[.agg #[.int .i64 x.f0, .string x.f1, .int .i64 x.f2, .slice B3 x.f3.length d3, .slice B4 x.f4.length d4, .slice B5 x.f5.length d5]] (by rfl) rfl rfl (by simp only [List.map_toArray, List.map_cons, List.map_nil]; rfl) ?_
        (with_reducible refine (hx.at W9 (GG.below hgr.out HB_) (Kd.C_below h3.out HB_) (Kd.C_below h4.out HB_) (Kd.C_below h5.out HB_)).mono ?_)
        rintro e w5 ⟨s5, A5', n5', c5', rfl, hc5, hn5, hbq5⟩
        refine ⟨_, rfl, ?_⟩
        have HB5 := below_step HB_ hbq5
        refine hK.out _ _ ⟨(blk_cell (blk_below hXb.out HB5) 1).trans rfl, (blk_cell (blk_below (blk_below hbx.out hBr.out) HB5) 4).trans rfl, (he.out.below HB5).1, (he.out.below HB5).2.1, (he.out.below HB5).2.2.1, (he.out.below HB5).2.2.2.1, (he.out.below HB5).2.2.2.2.1, (he.out.below HB5).2.2.2.2.2⟩ (fun hHeld => ?_)
        clear hK K
        refine norm_ (a' := ?_) ?_ ?_
        rotate_left
        · show Act.put _ (some 159) _ = _
          simp only [Act.put, List.setIfInBounds_toArray, List.set_cons_zero, List.set_cons_succ, i64_w, i32_w]
          rfl
        refine one_ (i := 8) (N := some 160) #[true, true, true, true, true, true, true, true, true, false, false, false] rfl rfl (by kernel_rfl) (by decide) (fun K hK => ?_)
        refine value_ (w1 := ?_) (v := ?_) (by rfl) rfl ?_ ?_
        rotate_left 2
        · go_simp
          constructor
          · rfl
          · rfl
        have HBb := below_alloc HB5 (.cells #[.string s5, .slice A5' n5' c5', .int .i64 0] 56)
        refine hK.out _ _ ⟨(blk_cell (blk_below hXb.out HBb) 1).trans rfl, (blk_cell (blk_below (blk_below hbx.out hBr.out) HBb) 4).trans rfl, (he.out.below HBb).1, (he.out.below HBb).2.1, (he.out.below HBb).2.2.1, (he.out.below HBb).2.2.2.1, (he.out.below HBb).2.2.2.2.1, (he.out.below HBb).2.2.2.2.2⟩ (fun hHeld => ?_)
        clear hK K
        refine norm_ (a' := ?_) ?_ ?_
        rotate_left
        · show Act.put _ (some 160) _ = _
          simp only [Act.put, List.setIfInBounds_toArray, List.set_cons_zero, List.set_cons_succ, i64_w, i32_w]
          rfl
        refine last_ (i := 9) (N := some 161) #[true, true, true, true, true, true, true, true, true, true, false, false] rfl rfl (by kernel_rfl) (by decide) (fun K hK => ?_)
        refine app_step (w0 := w5) (xb + 1) (by rfl) (.tmp 153) (.tmp 160) rfl (A := A) (x0 := Option.none) (n := m) (c := c) (s1 := s5) (A1 := A5') (n1 := n5') (c1 := c5') (q := W9.heap.size) rfl rfl (NR.below hrow.out HB5) hn5 hc5 ?_ ?_ (fun y hy => by cases hy) (Below.refl _ _) ?_ ?_ ?_
        · intro k hk; have h1 := NR.lt hrow.out k hk; have h2 := HB_.size; omega
        · have h1 := hxs.out; have h2 := HB_.size; omega
        · have h1 := hxs.out; have h2 := HB5.size; omega
        · have h1 := hms.out; omega
        intro A6 c6 w6 hr6 hb6 hg6
        clear hg6
        have hx6 := (hb6.block xb (Nat.lt_succ_self _)).trans (blk_below hXb.out HB5)
        have hcz := (blk_cell hx6 1).trans rfl
        have hfz := blk_frozen hx6 1
        refine hK.out _ _ ?_
        clear hK K
        refine norm_ (a' := ?_) ?_ ?_
        rotate_left
        · show Act.put _ (some 161) _ = _
          simp only [Act.put, List.setIfInBounds_toArray, List.set_cons_zero, List.set_cons_succ, i64_w, i32_w]
          rfl
        refine pure_ (i := 10) (N := some 162) (v := ?_) (a' := ?_) #[true, true, true, true, true, true, true, true, true, true, true, false] rfl rfl (by kernel_rfl) (fun _ _ _ h => h) (Or.inl ⟨by rfl, ?_⟩) ?_ ?_
        rotate_left
        · intro w'
          go_simp
          with_reducible rfl
        rotate_left
        · simp only [Act.put, List.setIfInBounds_toArray, List.set_cons_zero, List.set_cons_succ, i64_w, i32_w]
          rfl
        refine last_ (i := 11) (N := none) #[true, true, true, true, true, true, true, true, true, true, true, true] rfl rfl (by kernel_rfl) (by decide) (fun K hK => ?_)
        refine skip_ (w1 := ?_) (by rfl) rfl ?_ ?_
        rotate_left
        · go_simp
          rfl
        refine hK.out _ _ ?_
        clear hK K
        refine done_ (by kernel_rfl) ?_
        obtain ⟨W7, hW7⟩ : ∃ W7, w6.setCell ⟨xb, 1, none⟩ (.slice A6 (m + 1) c6) = W7 := ⟨_, rfl⟩
        have hX7 : Aside0 (W7.heap[xb]? = some (.cells #[.string ⟨#[]⟩, .slice A6 (m + 1) c6, .int .i64 0] 56 (0, 0))) := ⟨by rw [← hW7]; exact blk_put hx6 1 _ rfl⟩
        have hr7 : Aside0 (NR W7 (xb + 1) none A6 (m + 1) c6) := ⟨by rw [← hW7]; exact NR.far hr6 (.inl (Nat.lt_succ_self _)) _⟩
        have hB7 : Aside0 (Below W0.heap.size W0 W7) := ⟨by rw [← hW7]; exact ((hBr.out.trans (HB5.mono hBr.out.size)).trans (hb6.mono (by have h1 := hxs.out; omega))).setCell (p := ⟨xb, 1, none⟩) (by have h1 := hxs.out; show W0.heap.size ≤ xb; omega) _⟩
        have hs7 : Aside0 (xb + 1 ≤ W7.heap.size ∧ W0.heap.size ≤ xb) := ⟨by have h1 := (Array.getElem?_eq_some_iff.1 hX7.out).1; have h2 := hxs.out; omega⟩
        rw [hW7]
        clear hHeld
        have hjn : Value.int .i64 (wrap64 ((i : Int) + 1)) = .int .i64 ((i + 1 : Nat) : Int) := by rw [show wrap64 ((i : Int) + 1) = (i : Int) + 1 by unfold wrap64; omega]; rfl
        have hi7 : i + 1 + (gk - 1) = n4 + 1 ∧ 1 ≤ gk - 1 ∧ gk - 1 < gk := by omega
        have hm7 : Aside0 (m + 1 ≤ i + 1 + 1) := ⟨by have := hm.out; omega⟩
        clear q1 p0 p1
        go_wp2
        go_roundg (gk - 1)
        case measure => exact hi7.2.2
        case rel => exact ⟨i + 1, m + 1, c6, A6, by first | exact hjn | rfl, hi7.1, hi7.2.1, hm7, hX7, hr7, hB7, hs7⟩
      · have q1 : decide ((i : Int) < (n4 : Int)) = false := decide_eq_false (by omega)
        have x0 := (blk_cell hXb.out 0).trans rfl
        have x1 := (blk_cell hXb.out 1).trans rfl
        have x2 := (blk_cell hXb.out 2).trans rfl
        have hr1 := blk_below hrx.out hBr.out
        have j0 := (blk_cell hr1 0).trans rfl
        have j1 := (blk_cell hr1 1).trans rfl
        have j2 := (blk_cell hr1 2).trans rfl
        have z0 := blk_frozen hr1 0
        have z1 := blk_frozen hr1 1
        have z2 := blk_frozen hr1 2
        have hl5 : Aside0 (w.heap.size + 1 < xb + 1 ∧ w.heap.size ≤ xb + 1) := ⟨by have h1 := hl1.out; have h2 := hxs.out; omega⟩
        go_wp2
        refine bodyPost_ret (v := .agg #[.string ⟨#[]⟩, .slice A m c, .int .i64 0]) (by simp [results, Tryd.results37, go_sem, *]) rfl ⟨_, A, _, c, rfl, hrow.out.list.2, ?_, ?_⟩
        · exact ((((hrow.out.list.1).far (p := ⟨w.heap.size + 1, 0, none⟩) (.inl hl5.out.1) _).far (p := ⟨w.heap.size + 1, 1, none⟩) (.inl hl5.out.1) _).far (p := ⟨w.heap.size + 1, 2, none⟩) (.inl hl5.out.1) _).list.mono hl5.out.2
        · exact (((HB0.out.trans (hBr.out.mono HB0.out.size)).setCell (p := ⟨w.heap.size + 1, 0, none⟩) (Nat.le_succ _) _).setCell (p := ⟨w.heap.size + 1, 1, none⟩) (Nat.le_succ _) _).setCell (p := ⟨w.heap.size + 1, 2, none⟩) (Nat.le_succ _) _
end Go.Proofs.YtmoeekidmkhkoaaDoor.FreeA

