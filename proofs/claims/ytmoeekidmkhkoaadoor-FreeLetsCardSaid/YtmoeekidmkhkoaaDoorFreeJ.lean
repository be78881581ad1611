/- gristmillref5.exprNode: a let. Condition: the library's table of powers of ten reads as it is laid. -/
import Derived.Test.YtmoeekidmkhkoaaDoorFreeH
namespace Go.Proofs.YtmoeekidmkhkoaaDoor.FreeA
open Go.RowKit Go.Proofs.YtmoeekidmkhkoaaDoorW.PrintWords Go.Proofs.YtmoeekidmkhkoaaDoorW.PrintLast Go.Proofs.YtmoeekidmkhkoaaDoorW.PrintMore Go.Proofs.YtmoeekidmkhkoaaDoor.PFreeA
set_option linter.unusedVariables false
set_option linter.unusedSimpArgs false
set_option maxHeartbeats 8000000 in
set_option maxRecDepth 100000 in
theorem exprNode_let (f1 : ByteArray) (f2 : Int) (w : World) (hg : GG w) {A3 A4 A5 : Option Addr} {n3 c3 n4 c4 n5 c5 : Nat} (ns : List ByteArray) (hns : ns.length = n3) (hn3 : n3 ≤ 100000000000) (hC3 : Kd.string.C w A3 n3 ns) (l : List S33) (hx : ∀ x ∈ l, XN x) (hll : l.length = n3 + 1) (hC4 : k33.C w A4 n4 l) :
    Calls Tryd.prog 37 #[.agg #[.int .i64 7, .string f1, .int .i64 f2, .slice A3 n3 c3, .slice A4 n4 c4, .slice A5 n5 c5]] w (ND w) := by
  have E : ∀ W : World, ∀ o : Obj, (W.alloc o).heap.size = W.heap.size + 1 := fun W o => Array.size_push _
  obtain ⟨W0, hW0⟩ : ∃ W0, (w.alloc (.cells #[.int .i64 7, .string f1, .int .i64 f2, .slice A3 n3 c3, .slice A4 n4 c4, .slice A5 n5 c5] 33)).alloc (.cells #[.string ⟨#[]⟩, .slice none 0 0, .int .i64 0] 56) = W0 := ⟨_, rfl⟩
  have HB0 : Aside0 (Below w.heap.size w W0) := ⟨by rw [← hW0]; exact below_alloc (below_alloc (Below.refl _ _) _) _⟩
  have hbx : Aside0 (W0.heap[w.heap.size]? = some (.cells #[.int .i64 7, .string f1, .int .i64 f2, .slice A3 n3 c3, .slice A4 n4 c4, .slice A5 n5 c5] 33 (0, 0))) := ⟨by rw [← hW0]; exact (Below.heap_alloc _ _ _ (by rw [E]; omega)).trans (blk_new w _)⟩
  have hrx : Aside0 (W0.heap[w.heap.size + 1]? = some (.cells #[.string ⟨#[]⟩, .slice none 0 0, .int .i64 0] 56 (0, 0))) := ⟨by rw [← hW0, ← E w]; exact blk_new _ _⟩
  have hl1 : Aside0 (W0.heap.size = w.heap.size + 2) := ⟨by rw [← hW0, E, E]⟩
  have hg0 := Aside0.mk (GG.below hg HB0.out)
  have hC := Aside0.mk (Kd.C_below hC4 HB0.out)
  have hCn := Aside0.mk (Kd.C_below hC3 HB0.out)
  have hn4 : Aside0 (l.length = n4 ∧ n4 = n3 + 1 ∧ ns.length = n3) := ⟨by have := hC4.1; omega⟩
  clear hC4 hC3 hns hll
  have k0 := (blk_cell hbx.out 0).trans rfl
  have k1 := (blk_cell hbx.out 1).trans rfl
  have k2 := (blk_cell hbx.out 2).trans rfl
  have k3 := (blk_cell hbx.out 3).trans rfl
  have k4 := (blk_cell hbx.out 4).trans rfl
  have k5 := (blk_cell hbx.out 5).trans rfl
  go_enter Tryd.func37, Tryd.ntmps37
  go_wp2_with (first | (go_at_call 52; (try rw [hW0]); go_loud (with_reducible refine (l_calls none 0 0 W0).mono ?_); rintro r w2 ⟨rfl, hb2⟩; have HB2 := Aside0.mk hb2; clear hb2 k0 k1 k2 k3 k4 k5))
  obtain ⟨xb, hxb⟩ : ∃ xb, w2.heap.size = xb := ⟨_, rfl⟩
  obtain ⟨Wx, hWx⟩ : ∃ Wx, w2.alloc (.cells #[.string ⟨#[]⟩, .slice none 0 0, .int .i64 0] 56) = Wx := ⟨_, rfl⟩
  have hBx : Aside0 (Below W0.heap.size W0 Wx) := ⟨by rw [← hWx]; exact below_alloc HB2.out _⟩
  have hXx : Aside0 (Wx.heap[xb]? = some (.cells #[.string ⟨#[]⟩, .slice none 0 0, .int .i64 0] 56 (0, 0))) := ⟨by rw [← hWx, ← hxb]; exact blk_new _ _⟩
  have hsx : Aside0 (xb + 1 ≤ Wx.heap.size ∧ W0.heap.size ≤ xb) := ⟨by have := HB2.out.size; rw [← hWx, E]; omega⟩
  have hrX : Aside0 (NR Wx (xb + 1) none none 0 0) := ⟨NR.nil _ _ _⟩
  rw [hxb, hWx]
  clear hWx hxb HB2 hW0
  go_loopg [4] (n3 + 1) (fun kq v4 w' => ∃ (i m c : Nat) (A : Option Addr), v4 = .int .i64 (i : Int) ∧ i + kq = n3 + 1 ∧ 1 ≤ kq ∧ Aside0 (m ≤ i + 1) ∧ Aside0 (w'.heap[xb]? = some (.cells #[.string ⟨#[]⟩, .slice A m c, .int .i64 0] 56 (0, 0))) ∧ Aside0 (NR w' (xb + 1) none A m c) ∧ Aside0 (Below W0.heap.size W0 w') ∧ Aside0 (xb + 1 ≤ w'.heap.size ∧ W0.heap.size ≤ xb))
  case atStart => exact ⟨0, 0, 0, none, rfl, by omega, by omega, ⟨by omega⟩, hXx, hrX, hBx, hsx⟩
  case round =>
    obtain ⟨i, m, c, A, rfl, hi, hk, hm, hX, hr, hB, hs⟩ := hrel
    have hXb := hX
    have hrow := hr
    have hxs := hs
    have hBr := hB
    have hms : Aside0 (m ≤ 200000000000) := ⟨by have := hm.out; omega⟩
    have hgr := Aside0.mk (GG.below hg0.out hBr.out)
    clear hX hr hs hB hXx hrX hBx hsx
    have k3 := (blk_cell (blk_below hbx.out hBr.out) 3).trans rfl
    by_cases hlt : i < n3
    · have hli : i < l.length := by have := hn4.out; omega
      have hxi : l[i]? = some l[i] := List.getElem?_eq_getElem hli
      have hx := hx _ (List.getElem_mem hli)
      generalize l[i] = x at hxi hx
      obtain ⟨ad, B3, d3, B4, d4, B5, d5, rfl, he, g3, g4, g5, _, _, _⟩ := elem33 (Kd.C_below hC.out hBr.out) i hxi
      have he := Aside0.mk he
      have h3 := Aside0.mk g3
      have h4 := Aside0.mk g4
      have h5 := Aside0.mk g5
      clear g3 g4 g5
      obtain ⟨ad3, rfl, hsn⟩ := at_str (Kd.C_below hCn.out hBr.out) i (by have := hn4.out; omega) hlt
      generalize ns[i]'(by have := hn4.out; omega) = sn at hsn
      have hsn := Aside0.mk hsn
      have p0 : (0 : Int) ≤ (i : Int) := by omega
      have p1 : (i : Int) < (n3 : Int) := by omega
      have p2 : (i : Int) < (n4 : Int) := by have := hn4.out; omega
      have q1 : decide ((i : Int) < (n3 : Int)) = true := decide_eq_true p1
      go_wp2
      have HB_ : Below wr.heap.size wr wr.drew := below_drew1 (Below.refl _ _)
      have hg9 := Aside0.mk (GG.below hgr.out HB_)
      refine start_ (n := 20) (S := fun w' => w'.cell? ⟨xb, 1, none⟩ = some (.slice A m c) ∧ w'.cell? ⟨w.heap.size, 3, none⟩ = some (.slice (some ad3) n3 c3) ∧ w'.cell? ⟨w.heap.size, 4, none⟩ = some (.slice (some ad) n4 c4) ∧ w'.cell? (ad3.add i) = some (.string sn) ∧ w'.cell? (ad.add (i * 6)) = some (.int .i64 x.f0) ∧ w'.cell? ⟨((ad.add (i * 6))).block, ((ad.add (i * 6))).off + 1, none⟩ = some (.string x.f1) ∧ w'.cell? ⟨((ad.add (i * 6))).block, ((ad.add (i * 6))).off + 2, none⟩ = some (.int .i64 x.f2) ∧ w'.cell? ⟨((ad.add (i * 6))).block, ((ad.add (i * 6))).off + 3, none⟩ = some (.slice B3 x.f3.length d3) ∧ w'.cell? ⟨((ad.add (i * 6))).block, ((ad.add (i * 6))).off + 4, none⟩ = some (.slice B4 x.f4.length d4) ∧ w'.cell? ⟨((ad.add (i * 6))).block, ((ad.add (i * 6))).off + 5, none⟩ = some (.slice B5 x.f5.length d5)) (ds := [17, 19]) #[false, false, false, false, false, false, false, false, false, false, false, false, false, false, false, false, false, false, false, false] (by kernel_rfl) rfl rfl ⟨(blk_cell (blk_below hXb.out HB_) 1).trans rfl, (blk_cell (blk_below (blk_below hbx.out hBr.out) HB_) 3).trans rfl, (blk_cell (blk_below (blk_below hbx.out hBr.out) HB_) 4).trans rfl, (HB_.cell (World.block_lt_of_cell? _ _ hsn.out)).trans hsn.out, (he.out.below HB_).1, (he.out.below HB_).2.1, (he.out.below HB_).2.2.1, (he.out.below HB_).2.2.2.1, (he.out.below HB_).2.2.2.2.1, (he.out.below HB_).2.2.2.2.2⟩ (fun hHeld => ?_)
      generalize wr.drew = W9 at *
      refine pure_ (i := 0) (N := some 48) (v := ?_) (a' := ?_) #[true, false, false, false, false, false, false, false, false, false, false, false, false, false, false, false, false, false, false, false] rfl rfl (by kernel_rfl) (fun _ _ _ h => h) (Or.inl ⟨by rfl, ?_⟩) ?_ ?_
      rotate_left
      · intro w'
        go_simp
        with_reducible rfl
      rotate_left
      · simp only [Act.put, List.setIfInBounds_toArray, List.set_cons_zero, List.set_cons_succ, i64_w, i32_w]
        rfl
      refine pure_ (i := 2) (N := some 50) (v := ?_) (a' := ?_) #[true, false, true, false, false, false, false, false, false, false, false, false, false, false, false, false, false, false, false, false] rfl rfl (by kernel_rfl) (fun _ _ _ h => h) (Or.inl ⟨by rfl, ?_⟩) ?_ ?_
      rotate_left
      · intro w'
        go_simp
        with_reducible rfl
      rotate_left
      · simp only [Act.put, List.setIfInBounds_toArray, List.set_cons_zero, List.set_cons_succ, i64_w, i32_w]
        rfl
      refine pure_ (i := 4) (N := some 52) (v := ?_) (a' := ?_) #[true, false, true, false, true, false, false, false, false, false, false, false, false, false, false, false, false, false, false, false] rfl rfl (by kernel_rfl) (fun _ _ _ h => h) (Or.inl ⟨by rfl, ?_⟩) ?_ ?_
      rotate_left
      · intro w'
        go_simp
        with_reducible rfl
      rotate_left
      · simp only [Act.put, List.setIfInBounds_toArray, List.set_cons_zero, List.set_cons_succ, i64_w, i32_w]
        rfl
      refine pure_ (i := 8) (N := some 56) (v := ?_) (a' := ?_) #[true, false, true, false, true, false, false, false, true, false, false, false, false, false, false, false, false, false, false, false] rfl rfl (by kernel_rfl) (fun _ _ _ h => h) (Or.inl ⟨by rfl, ?_⟩) ?_ ?_
      rotate_left
      · intro w'
        go_simp
        with_reducible rfl
      rotate_left
      · simp only [Act.put, List.setIfInBounds_toArray, List.set_cons_zero, List.set_cons_succ, i64_w, i32_w]
        rfl
      refine pure_ (i := 10) (N := some 58) (v := ?_) (a' := ?_) #[true, false, true, false, true, false, false, false, true, false, true, false, false, false, false, false, false, false, false, false] rfl rfl (by kernel_rfl) (fun _ _ _ h => h) (Or.inl ⟨by rfl, ?_⟩) ?_ ?_
      rotate_left
      · intro w'
        go_simp
        with_reducible rfl
      rotate_left
      · simp only [Act.put, List.setIfInBounds_toArray, List.set_cons_zero, List.set_cons_succ, i64_w, i32_w]
        rfl
      refine take_ (i := 1) (N := some 49) (v := ?_) (a' := ?_) #[true, true, true, false, true, false, false, false, true, false, true, false, false, false, false, false, false, false, false, false] rfl rfl (by kernel_rfl) (fun _ _ _ h => h) (Or.inl ⟨by rfl, ?_⟩) hHeld ?_ ?_
      rotate_left
      · rintro w' ⟨s0, s1, s2, s3, s4, s5, s6, s7, s8, s9⟩
        go_simp
        with_reducible rfl
      rotate_left
      · simp only [Act.put, List.setIfInBounds_toArray, List.set_cons_zero, List.set_cons_succ, i64_w, i32_w]
        rfl
      refine take_ (i := 3) (N := some 51) (v := ?_) (a' := ?_) #[true, true, true, true, true, false, false, false, true, false, true, false, false, false, false, false, false, false, false, false] rfl rfl (by kernel_rfl) (fun _ _ _ h => h) (Or.inl ⟨by rfl, ?_⟩) hHeld ?_ ?_
      rotate_left
      · rintro w' ⟨s0, s1, s2, s3, s4, s5, s6, s7, s8, s9⟩
        go_simp
        with_reducible rfl
      rotate_left
      · simp only [Act.put, List.setIfInBounds_toArray, List.set_cons_zero, List.set_cons_succ, i64_w, i32_w]
        rfl
      refine pure_ (i := 5) (N := some 53) (v := ?_) (a' := ?_) #[true, true, true, true, true, true, false, false, true, false, true, false, false, false, false, false, false, false, false, false] rfl rfl (by kernel_rfl) (fun _ _ _ h => h) (Or.inl ⟨by rfl, ?_⟩) ?_ ?_
      rotate_left
      · intro w'
        go_simp
        with_reducible rfl
      rotate_left
      · simp only [Act.put, List.setIfInBounds_toArray, List.set_cons_zero, List.set_cons_succ, i64_w, i32_w]
        rfl
      refine take_ (i := 6) (N := some 54) (v := ?_) (a' := ?_) #[true, true, true, true, true, true, true, false, true, false, true, false, false, false, false, false, false, false, false, false] rfl rfl (by kernel_rfl) (fun _ _ _ h => h) (Or.inl ⟨by rfl, ?_⟩) hHeld ?_ ?_
      rotate_left
      · rintro w' ⟨s0, s1, s2, s3, s4, s5, s6, s7, s8, s9⟩
        go_simp
        with_reducible rfl
      rotate_left
      · simp only [Act.put, List.setIfInBounds_toArray, List.set_cons_zero, List.set_cons_succ, i64_w, i32_w]
        rfl
      refine take_ (i := 9) (N := some 57) (v := ?_) (a' := ?_) #[true, true, true, true, true, true, true, false, true, true, true, false, false, false, false, false, false, false, false, false] rfl rfl (by kernel_rfl) (fun _ _ _ h => h) (Or.inl ⟨by rfl, ?_⟩) hHeld ?_ ?_
      rotate_left
      · rintro w' ⟨s0, s1, s2, s3, s4, s5, s6, s7, s8, s9⟩
        go_simp
        with_reducible rfl
      rotate_left
      · simp only [Act.put, List.setIfInBounds_toArray, List.set_cons_zero, List.set_cons_succ, i64_w, i32_w]
        rfl
      refine pure_ (i := 11) (N := some 59) (v := ?_) (a' := ?_) #[true, true, true, true, true, true, true, false, true, true, true, true, false, false, false, false, false, false, false, false] rfl rfl (by kernel_rfl) (fun _ _ _ h => h) (Or.inl ⟨by rfl, ?_⟩) ?_ ?_
      rotate_left
      · intro w'
        go_simp
        with_reducible rfl
      rotate_left
      · simp only [Act.put, List.setIfInBounds_toArray, List.set_cons_zero, List.set_cons_succ, i64_w, i32_w]
        rfl
      refine take_ (i := 12) (N := some 60) (v := ?_) (a' := ?_) #[true, true, true, true, true, true, true, false, true, true, true, true, true, false, false, false, false, false, false, false] rfl rfl (by kernel_rfl) (fun _ _ _ h => h) (Or.inl ⟨by rfl, ?_⟩) hHeld ?_ ?_
      rotate_left
      · rintro w' ⟨s0, s1, s2, s3, s4, s5, s6, s7, s8, s9⟩
        go_simp
        with_reducible rfl
      rotate_left
      · simp only [Act.put, List.setIfInBounds_toArray, List.set_cons_zero, List.set_cons_succ, i64_w, i32_w]
        rfl
      refine one_ (i := 7) (N := some 55) #[true, true, true, true, true, true, true, true, true, true, true, true, true, false, false, false, false, false, false, false] rfl rfl (by kernel_rfl) (by decide) (fun K hK => ?_)
      refine goes_ Tryd.func49 (by kernel_rfl) rfl #[.string sn] (by rfl) rfl rfl (by simp only [List.map_toArray, List.map_cons, List.map_nil]; rfl) ?_
      (with_reducible refine (w_calls sn W9).mono ?_)
      rintro e w4 ⟨rfl, hbq4⟩
      refine ⟨_, rfl, ?_⟩
      have HB4 := below_step HB_ hbq4
      refine hK.out _ _ ⟨(blk_cell (blk_below hXb.out HB4) 1).trans rfl, (blk_cell (blk_below (blk_below hbx.out hBr.out) HB4) 3).trans rfl, (blk_cell (blk_below (blk_below hbx.out hBr.out) HB4) 4).trans rfl, (HB4.cell (World.block_lt_of_cell? _ _ hsn.out)).trans hsn.out, (he.out.below HB4).1, (he.out.below HB4).2.1, (he.out.below HB4).2.2.1, (he.out.below HB4).2.2.2.1, (he.out.below HB4).2.2.2.2.1, (he.out.below HB4).2.2.2.2.2⟩ (fun hHeld => ?_)
      clear hK K
      refine norm_ (a' := ?_) ?_ ?_
      rotate_left
      · show Act.put _ (some 55) _ = _
        simp only [Act.put, List.setIfInBounds_toArray, List.set_cons_zero, List.set_cons_succ, i64_w, i32_w]
        rfl
      refine one_ (i := 13) (N := some 61) #[true, true, true, true, true, true, true, true, true, true, true, true, true, true, false, false, false, false, false, false] rfl rfl (by kernel_rfl) (by decide) (fun K hK => ?_)
      refine goes_ Tryd.func37 (by kernel_rfl) rfl #[.agg #[.int .i64 x.f0, .string x.f1, .int .i64 x.f2, .slice B3 x.f3.length d3, .slice B4 x.f4.length d4, .slice B5 x.f5.length d5]] (by rfl) rfl rfl (by simp only [List.map_toArray, List.map_cons, List.map_nil]; rfl) ?_
      (with_reducible refine (hx.at w4 (GG.below hgr.out HB4) (Kd.C_below h3.out HB4) (Kd.C_below h4.out HB4) (Kd.C_below h5.out HB4)).mono ?_)
      rintro e w5 ⟨s5, A5', n5', c5', rfl, hc5, hn5, hbq5⟩
      refine ⟨_, rfl, ?_⟩
      have HB5 := below_step HB4 hbq5
      refine hK.out _ _ ⟨(blk_cell (blk_below hXb.out HB5) 1).trans rfl, (blk_cell (blk_below (blk_below hbx.out hBr.out) HB5) 3).trans rfl, (blk_cell (blk_below (blk_below hbx.out hBr.out) HB5) 4).trans rfl, (HB5.cell (World.block_lt_of_cell? _ _ hsn.out)).trans hsn.out, (he.out.below HB5).1, (he.out.below HB5).2.1, (he.out.below HB5).2.2.1, (he.out.below HB5).2.2.2.1, (he.out.below HB5).2.2.2.2.1, (he.out.below HB5).2.2.2.2.2⟩ (fun hHeld => ?_)
      clear hK K
      refine norm_ (a' := ?_) ?_ ?_
      rotate_left
      · show Act.put _ (some 61) _ = _
        simp only [Act.put, List.setIfInBounds_toArray, List.set_cons_zero, List.set_cons_succ, i64_w, i32_w]
        rfl
      refine one_ (i := 14) (N := some 62) #[true, true, true, true, true, true, true, true, true, true, true, true, true, true, true, false, false, false, false, false] rfl rfl (by kernel_rfl) (by decide) (fun K hK => ?_)
      refine value_ (w1 := ?_) (v := ?_) (by rfl) rfl ?_ ?_
      rotate_left 2
      · go_simp
        constructor
        · rfl
        · rfl
      have HB6 := below_alloc HB5 (.cells #[.string sn, .slice none 0 0, .int .i64 0, .string s5, .slice A5' n5' c5', .int .i64 0] 56)
      have hbk := blk_new w5 (.cells #[.string sn, .slice none 0 0, .int .i64 0, .string s5, .slice A5' n5' c5', .int .i64 0] 56 (0, 0))
      refine hK.out _ _ ⟨(blk_cell (blk_below hXb.out HB6) 1).trans rfl, (blk_cell (blk_below (blk_below hbx.out hBr.out) HB6) 3).trans rfl, (blk_cell (blk_below (blk_below hbx.out hBr.out) HB6) 4).trans rfl, (HB6.cell (World.block_lt_of_cell? _ _ hsn.out)).trans hsn.out, (he.out.below HB6).1, (he.out.below HB6).2.1, (he.out.below HB6).2.2.1, (he.out.below HB6).2.2.2.1, (he.out.below HB6).2.2.2.2.1, (he.out.below HB6).2.2.2.2.2⟩ (fun hHeld => ?_)
      clear hK K
      refine norm_ (a' := ?_) ?_ ?_
      rotate_left
      · show Act.put _ (some 62) _ = _
        simp only [Act.put, List.setIfInBounds_toArray, List.set_cons_zero, List.set_cons_succ, i64_w, i32_w]
        rfl
      refine one_ (i := 15) (N := some 63) #[true, true, true, true, true, true, true, true, true, true, true, true, true, true, true, true, false, false, false, false] rfl rfl (by kernel_rfl) (by decide) (fun K hK => ?_)
      refine goes_ Tryd.func52 (by kernel_rfl) rfl #[.slice (some ⟨w5.heap.size, 0, none⟩) 2 2] (by rfl) rfl rfl (by simp only [List.map_toArray, List.map_cons, List.map_nil]; rfl) ?_
      (with_reducible refine (l_calls _ _ _ _).mono ?_)
      rintro e w7 ⟨rfl, hbq7⟩
      refine ⟨_, rfl, ?_⟩
      have HB7 := below_step HB6 hbq7
      have hn7 : NL w7 W9.heap.size (some ⟨w5.heap.size, 0, none⟩) 2 := NL.two (blk_below hbk hbq7) (Nat.le_trans hbq4.size hbq5.size) (NL.nil _ _) (Nat.le_refl _) (((hn5.mono hbq4.size).below (below_alloc (Below.refl _ _) _)).below hbq7) hc5
      refine hK.out _ _ ⟨(blk_cell (blk_below hXb.out HB7) 1).trans rfl, (blk_cell (blk_below (blk_below hbx.out hBr.out) HB7) 3).trans rfl, (blk_cell (blk_below (blk_below hbx.out hBr.out) HB7) 4).trans rfl, (HB7.cell (World.block_lt_of_cell? _ _ hsn.out)).trans hsn.out, (he.out.below HB7).1, (he.out.below HB7).2.1, (he.out.below HB7).2.2.1, (he.out.below HB7).2.2.2.1, (he.out.below HB7).2.2.2.2.1, (he.out.below HB7).2.2.2.2.2⟩ (fun hHeld => ?_)
      clear hK K
      refine norm_ (a' := ?_) ?_ ?_
      rotate_left
      · show Act.put _ (some 63) _ = _
        simp only [Act.put, List.setIfInBounds_toArray, List.set_cons_zero, List.set_cons_succ, i64_w, i32_w]
        rfl
      refine one_ (i := 16) (N := some 64) #[true, true, true, true, true, true, true, true, true, true, true, true, true, true, true, true, true, false, false, false] rfl rfl (by kernel_rfl) (by decide) (fun K hK => ?_)
      refine value_ (w1 := ?_) (v := ?_) (by rfl) rfl ?_ ?_
      rotate_left 2
      · go_simp
        constructor
        · rfl
        · rfl
      have HBb := below_alloc HB7 (.cells #[.string ⟨#[]⟩, .slice (some ⟨w5.heap.size, 0, none⟩) 2 2, .int .i64 0] 56)
      refine hK.out _ _ ⟨(blk_cell (blk_below hXb.out HBb) 1).trans rfl, (blk_cell (blk_below (blk_below hbx.out hBr.out) HBb) 3).trans rfl, (blk_cell (blk_below (blk_below hbx.out hBr.out) HBb) 4).trans rfl, (HBb.cell (World.block_lt_of_cell? _ _ hsn.out)).trans hsn.out, (he.out.below HBb).1, (he.out.below HBb).2.1, (he.out.below HBb).2.2.1, (he.out.below HBb).2.2.2.1, (he.out.below HBb).2.2.2.2.1, (he.out.below HBb).2.2.2.2.2⟩ (fun hHeld => ?_)
      clear hK K
      refine norm_ (a' := ?_) ?_ ?_
      rotate_left
      · show Act.put _ (some 64) _ = _
        simp only [Act.put, List.setIfInBounds_toArray, List.set_cons_zero, List.set_cons_succ, i64_w, i32_w]
        rfl
      refine last_ (i := 17) (N := some 65) #[true, true, true, true, true, true, true, true, true, true, true, true, true, true, true, true, true, true, false, false] rfl rfl (by kernel_rfl) (by decide) (fun K hK => ?_)
      refine app_step (w0 := w7) (xb + 1) (by rfl) (.tmp 49) (.tmp 64) rfl (A := A) (x0 := Option.none) (n := m) (c := c) (s1 := ⟨#[]⟩) (A1 := (some ⟨w5.heap.size, 0, none⟩)) (n1 := 2) (c1 := 2) (q := W9.heap.size) rfl rfl (NR.below hrow.out HB7) hn7 (Nat.le_refl _) ?_ ?_ (fun y hy => by cases hy) (Below.refl _ _) ?_ ?_ ?_
      · intro k hk; have h1 := NR.lt hrow.out k hk; have h2 := HB_.size; omega
      · have h1 := hxs.out; have h2 := HB_.size; omega
      · have h1 := hxs.out; have h2 := HB7.size; omega
      · have h1 := hms.out; omega
      intro A6 c6 w6 hr6 hb6 hg6
      clear hg6
      have hx6 := (hb6.block xb (Nat.lt_succ_self _)).trans (blk_below hXb.out HB7)
      have hcz := (blk_cell hx6 1).trans rfl
      have hfz := blk_frozen hx6 1
      refine hK.out _ _ ?_
      clear hK K
      refine norm_ (a' := ?_) ?_ ?_
      rotate_left
      · show Act.put _ (some 65) _ = _
        simp only [Act.put, List.setIfInBounds_toArray, List.set_cons_zero, List.set_cons_succ, i64_w, i32_w]
        rfl
      refine pure_ (i := 18) (N := some 66) (v := ?_) (a' := ?_) #[true, true, true, true, true, true, true, true, true, true, true, true, true, true, true, true, true, true, true, false] rfl rfl (by kernel_rfl) (fun _ _ _ h => h) (Or.inl ⟨by rfl, ?_⟩) ?_ ?_
      rotate_left
      · intro w'
        go_simp
        with_reducible rfl
      rotate_left
      · simp only [Act.put, List.setIfInBounds_toArray, List.set_cons_zero, List.set_cons_succ, i64_w, i32_w]
        rfl
      refine last_ (i := 19) (N := none) #[true, true, true, true, true, true, true, true, true, true, true, true, true, true, true, true, true, true, true, true] rfl rfl (by kernel_rfl) (by decide) (fun K hK => ?_)
      refine skip_ (w1 := ?_) (by rfl) rfl ?_ ?_
      rotate_left
      · go_simp
        rfl
      refine hK.out _ _ ?_
      clear hK K
      refine done_ (by kernel_rfl) ?_
      obtain ⟨W7, hW7⟩ : ∃ W7, w6.setCell ⟨xb, 1, none⟩ (.slice A6 (m + 1) c6) = W7 := ⟨_, rfl⟩
      have hX7 : Aside0 (W7.heap[xb]? = some (.cells #[.string ⟨#[]⟩, .slice A6 (m + 1) c6, .int .i64 0] 56 (0, 0))) := ⟨by rw [← hW7]; exact blk_put hx6 1 _ rfl⟩
      have hr7 : Aside0 (NR W7 (xb + 1) none A6 (m + 1) c6) := ⟨by rw [← hW7]; exact NR.far hr6 (.inl (Nat.lt_succ_self _)) _⟩
      have hB7 : Aside0 (Below W0.heap.size W0 W7) := ⟨by rw [← hW7]; exact ((hBr.out.trans (HB7.mono hBr.out.size)).trans (hb6.mono (by have h1 := hxs.out; omega))).setCell (p := ⟨xb, 1, none⟩) (by have h1 := hxs.out; show W0.heap.size ≤ xb; omega) _⟩
      have hs7 : Aside0 (xb + 1 ≤ W7.heap.size ∧ W0.heap.size ≤ xb) := ⟨by have h1 := (Array.getElem?_eq_some_iff.1 hX7.out).1; have h2 := hxs.out; omega⟩
      rw [hW7]
      clear hHeld
      have hjn : Value.int .i64 (wrap64 ((i : Int) + 1)) = .int .i64 ((i + 1 : Nat) : Int) := by rw [show wrap64 ((i : Int) + 1) = (i : Int) + 1 by unfold wrap64; omega]; rfl
      have hi7 : i + 1 + (gk - 1) = n3 + 1 ∧ 1 ≤ gk - 1 ∧ gk - 1 < gk := by omega
      have hm7 : Aside0 (m + 1 ≤ i + 1 + 1) := ⟨by have := hm.out; omega⟩
      clear q1 p0 p1 p2
      go_wp2
      go_roundg (gk - 1)
      case measure => exact hi7.2.2
      case rel => exact ⟨i + 1, m + 1, c6, A6, by first | exact hjn | rfl, hi7.1, hi7.2.1, hm7, hX7, hr7, hB7, hs7⟩
    · have q1 : decide ((i : Int) < (n3 : Int)) = false := decide_eq_false (by omega)
      have hxi : l[n3]? = some (l[n3]'(by have := hn4.out; omega)) := List.getElem?_eq_getElem (by have := hn4.out; omega)
      have hx := hx _ (List.getElem_mem (show n3 < l.length by have := hn4.out; omega))
      generalize l[n3]'(by have := hn4.out; omega) = x at hxi hx
      obtain ⟨ad, B3, d3, B4, d4, B5, d5, rfl, he, g3, g4, g5, _, _, _⟩ := elem33 (Kd.C_below hC.out hBr.out) n3 hxi
      have he := Aside0.mk he
      have h3 := Aside0.mk g3
      have h4 := Aside0.mk g4
      have h5 := Aside0.mk g5
      clear g3 g4 g5
      have hix : wrap64 ((n4 : Int) - 1) = (n3 : Int) := by have := hn4.out; unfold wrap64; omega
      have p2 : (n3 : Int) < (n4 : Int) := by have := hn4.out; omega
      have p0 : (0 : Int) ≤ (n3 : Int) := by omega
      have hl5 : Aside0 (w.heap.size + 1 < W0.heap.size) := ⟨by have := hl1.out; omega⟩
      go_wp2
      have HB_ : Below wr.heap.size wr wr.drew := below_drew1 (Below.refl _ _)
      refine start_ (n := 14) (S := fun w' => w'.cell? ⟨xb, 0, none⟩ = some (.string ⟨#[]⟩) ∧ w'.cell? ⟨xb, 1, none⟩ = some (.slice A m c) ∧ w'.cell? ⟨xb, 2, none⟩ = some (.int .i64 0) ∧ w'.cell? ⟨w.heap.size, 4, none⟩ = some (.slice (some ad) n4 c4) ∧ w'.cell? (ad.add (n3 * 6)) = some (.int .i64 x.f0) ∧ w'.cell? ⟨((ad.add (n3 * 6))).block, ((ad.add (n3 * 6))).off + 1, none⟩ = some (.string x.f1) ∧ w'.cell? ⟨((ad.add (n3 * 6))).block, ((ad.add (n3 * 6))).off + 2, none⟩ = some (.int .i64 x.f2) ∧ w'.cell? ⟨((ad.add (n3 * 6))).block, ((ad.add (n3 * 6))).off + 3, none⟩ = some (.slice B3 x.f3.length d3) ∧ w'.cell? ⟨((ad.add (n3 * 6))).block, ((ad.add (n3 * 6))).off + 4, none⟩ = some (.slice B4 x.f4.length d4) ∧ w'.cell? ⟨((ad.add (n3 * 6))).block, ((ad.add (n3 * 6))).off + 5, none⟩ = some (.slice B5 x.f5.length d5)) (ds := [13]) #[false, false, false, false, false, false, false, false, false, false, false, false, false, false] (by kernel_rfl) rfl rfl ⟨(blk_cell (blk_below hXb.out HB_) 0).trans rfl, (blk_cell (blk_below hXb.out HB_) 1).trans rfl, (blk_cell (blk_below hXb.out HB_) 2).trans rfl, (blk_cell (blk_below (blk_below hbx.out hBr.out) HB_) 4).trans rfl, (he.out.below HB_).1, (he.out.below HB_).2.1, (he.out.below HB_).2.2.1, (he.out.below HB_).2.2.2.1, (he.out.below HB_).2.2.2.2.1, (he.out.below HB_).2.2.2.2.2⟩ (fun hHeld => ?_)
      generalize wr.drew = W9 at *
      refine pure_ (i := 2) (N := some 69) (v := ?_) (a' := ?_) #[false, false, true, false, false, false, false, false, false, false, false, false, false, false] rfl rfl (by kernel_rfl) (fun _ _ _ h => h) (Or.inl ⟨by rfl, ?_⟩) ?_ ?_
      rotate_left
      · intro w'
        go_simp
        with_reducible rfl
      rotate_left
      · simp only [Act.put, List.setIfInBounds_toArray, List.set_cons_zero, List.set_cons_succ, i64_w, i32_w]
        rfl
      refine pure_ (i := 4) (N := some 71) (v := ?_) (a' := ?_) #[false, false, true, false, true, false, false, false, false, false, false, false, false, false] rfl rfl (by kernel_rfl) (fun _ _ _ h => h) (Or.inl ⟨by rfl, ?_⟩) ?_ ?_
      rotate_left
      · intro w'
        go_simp
        with_reducible rfl
      rotate_left
      · simp only [Act.put, List.setIfInBounds_toArray, List.set_cons_zero, List.set_cons_succ, i64_w, i32_w]
        rfl
      refine take_ (i := 1) (N := some 68) (v := ?_) (a' := ?_) #[false, true, true, false, true, false, false, false, false, false, false, false, false, false] rfl rfl (by kernel_rfl) (fun _ _ _ h => h) (Or.inl ⟨by rfl, ?_⟩) hHeld ?_ ?_
      rotate_left
      · rintro w' ⟨s0, s1, s2, s3, s4, s5, s6, s7, s8, s9⟩
        go_simp
        with_reducible rfl
      rotate_left
      · simp only [Act.put, List.setIfInBounds_toArray, List.set_cons_zero, List.set_cons_succ, i64_w, i32_w]
        rfl
      refine take_ (i := 3) (N := some 70) (v := ?_) (a' := ?_) #[false, true, true, true, true, false, false, false, false, false, false, false, false, false] rfl rfl (by kernel_rfl) (fun _ _ _ h => h) (Or.inl ⟨by rfl, ?_⟩) hHeld ?_ ?_
      rotate_left
      · rintro w' ⟨s0, s1, s2, s3, s4, s5, s6, s7, s8, s9⟩
        go_simp
        with_reducible rfl
      rotate_left
      · simp only [Act.put, List.setIfInBounds_toArray, List.set_cons_zero, List.set_cons_succ, i64_w, i32_w]
        rfl
      refine take_ (i := 5) (N := some 72) (v := ?_) (a' := ?_) #[false, true, true, true, true, true, false, false, false, false, false, false, false, false] rfl rfl (by kernel_rfl) (fun _ _ _ h => h) (Or.inl ⟨by rfl, ?_⟩) hHeld ?_ ?_
      rotate_left
      · rintro w' ⟨s0, s1, s2, s3, s4, s5, s6, s7, s8, s9⟩
        go_simp
        with_reducible rfl
      rotate_left
      · simp only [Act.put, List.setIfInBounds_toArray, List.set_cons_zero, List.set_cons_succ, i64_w, i32_w]
        rfl
      refine pure_ (i := 6) (N := some 73) (v := ?_) (a' := ?_) #[false, true, true, true, true, true, true, false, false, false, false, false, false, false] rfl rfl (by kernel_rfl) (fun _ _ _ h => h) (Or.inl ⟨by rfl, ?_⟩) ?_ ?_
      rotate_left
      · intro w'
        go_simp
        with_reducible rfl
      rotate_left
      · simp only [Act.put, List.setIfInBounds_toArray, List.set_cons_zero, List.set_cons_succ, i64_w, i32_w]
        rfl
      refine pure_ (i := 7) (N := some 74) (v := ?_) (a' := ?_) #[false, true, true, true, true, true, true, true, false, false, false, false, false, false] rfl rfl (by kernel_rfl) (fun _ _ _ h => h) (Or.inl ⟨by rfl, ?_⟩) ?_ ?_
      rotate_left
      · intro w'
        go_simp
        with_reducible rfl
      rotate_left
      · simp only [Act.put, List.setIfInBounds_toArray, List.set_cons_zero, List.set_cons_succ, i64_w, i32_w]
        rfl
      refine pure_ (i := 8) (N := some 75) (v := ?_) (a' := ?_) #[false, true, true, true, true, true, true, true, true, false, false, false, false, false] rfl rfl (by kernel_rfl) (fun _ _ _ h => h) (Or.inl ⟨by rfl, ?_⟩) ?_ ?_
      rotate_left
      · intro w'
        go_simp
        with_reducible rfl
      rotate_left
      · simp only [Act.put, List.setIfInBounds_toArray, List.set_cons_zero, List.set_cons_succ, i64_w, i32_w]
        rfl
      refine take_ (i := 9) (N := some 76) (v := ?_) (a' := ?_) #[false, true, true, true, true, true, true, true, true, true, false, false, false, false] rfl rfl (by kernel_rfl) (fun _ _ _ h => h) (Or.inl ⟨by rfl, ?_⟩) hHeld ?_ ?_
      rotate_left
      · rintro w' ⟨s0, s1, s2, s3, s4, s5, s6, s7, s8, s9⟩
        go_simp
        with_reducible rfl
      rotate_left
      · simp only [Act.put, List.setIfInBounds_toArray, List.set_cons_zero, List.set_cons_succ, i64_w, i32_w]
        rfl
      refine one_ (i := 0) (N := some 67) #[true, true, true, true, true, true, true, true, true, true, false, false, false, false] rfl rfl (by kernel_rfl) (by decide) (fun K hK => ?_)
      refine goes_ Tryd.func49 (by kernel_rfl) rfl #[.string ⟨#[108, 101, 116]⟩] (by rfl) rfl rfl (by simp only [List.map_toArray, List.map_cons, List.map_nil]; rfl) ?_
      (with_reducible refine (w_calls _ W9).mono ?_)
      rintro e w4 ⟨rfl, hbq4⟩
      refine ⟨_, rfl, ?_⟩
      have HB4 := below_step HB_ hbq4
      refine hK.out _ _ ⟨(blk_cell (blk_below hXb.out HB4) 0).trans rfl, (blk_cell (blk_below hXb.out HB4) 1).trans rfl, (blk_cell (blk_below hXb.out HB4) 2).trans rfl, (blk_cell (blk_below (blk_below hbx.out hBr.out) HB4) 4).trans rfl, (he.out.below HB4).1, (he.out.below HB4).2.1, (he.out.below HB4).2.2.1, (he.out.below HB4).2.2.2.1, (he.out.below HB4).2.2.2.2.1, (he.out.below HB4).2.2.2.2.2⟩ (fun hHeld => ?_)
      clear hK K
      refine norm_ (a' := ?_) ?_ ?_
      rotate_left
      · show Act.put _ (some 67) _ = _
        simp only [Act.put, List.setIfInBounds_toArray, List.set_cons_zero, List.set_cons_succ, i64_w, i32_w]
        rfl
      refine one_ (i := 10) (N := some 77) #[true, true, true, true, true, true, true, true, true, true, true, false, false, false] rfl rfl (by kernel_rfl) (by decide) (fun K hK => ?_)
      refine goes_ Tryd.func37 (by kernel_rfl) rfl #[.agg #[.int .i64 x.f0, .string x.f1, .int .i64 x.f2, .slice B3 x.f3.length d3, .slice B4 x.f4.length d4, .slice B5 x.f5.length d5]] (by rfl) rfl rfl (by simp only [List.map_toArray, List.map_cons, List.map_nil]; rfl) ?_
      (with_reducible refine (hx.at w4 (GG.below hgr.out HB4) (Kd.C_below h3.out HB4) (Kd.C_below h4.out HB4) (Kd.C_below h5.out HB4)).mono ?_)
      rintro e w5 ⟨s5, A5', n5', c5', rfl, hc5, hn5, hbq5⟩
      refine ⟨_, rfl, ?_⟩
      have HB5 := below_step HB4 hbq5
      refine hK.out _ _ ⟨(blk_cell (blk_below hXb.out HB5) 0).trans rfl, (blk_cell (blk_below hXb.out HB5) 1).trans rfl, (blk_cell (blk_below hXb.out HB5) 2).trans rfl, (blk_cell (blk_below (blk_below hbx.out hBr.out) HB5) 4).trans rfl, (he.out.below HB5).1, (he.out.below HB5).2.1, (he.out.below HB5).2.2.1, (he.out.below HB5).2.2.2.1, (he.out.below HB5).2.2.2.2.1, (he.out.below HB5).2.2.2.2.2⟩ (fun hHeld => ?_)
      clear hK K
      refine norm_ (a' := ?_) ?_ ?_
      rotate_left
      · show Act.put _ (some 77) _ = _
        simp only [Act.put, List.setIfInBounds_toArray, List.set_cons_zero, List.set_cons_succ, i64_w, i32_w]
        rfl
      refine one_ (i := 11) (N := some 78) #[true, true, true, true, true, true, true, true, true, true, true, true, false, false] rfl rfl (by kernel_rfl) (by decide) (fun K hK => ?_)
      refine value_ (w1 := ?_) (v := ?_) (by rfl) rfl ?_ ?_
      rotate_left 2
      · go_simp
        constructor
        · rfl
        · rfl
      have HB6 := below_alloc HB5 (.cells #[.string ⟨#[108, 101, 116]⟩, .slice none 0 0, .int .i64 0, .string ⟨#[]⟩, .slice A m c, .int .i64 0, .string s5, .slice A5' n5' c5', .int .i64 0] 56)
      have hbk := blk_new w5 (.cells #[.string ⟨#[108, 101, 116]⟩, .slice none 0 0, .int .i64 0, .string ⟨#[]⟩, .slice A m c, .int .i64 0, .string s5, .slice A5' n5' c5', .int .i64 0] 56 (0, 0))
      refine hK.out _ _ ⟨(blk_cell (blk_below hXb.out HB6) 0).trans rfl, (blk_cell (blk_below hXb.out HB6) 1).trans rfl, (blk_cell (blk_below hXb.out HB6) 2).trans rfl, (blk_cell (blk_below (blk_below hbx.out hBr.out) HB6) 4).trans rfl, (he.out.below HB6).1, (he.out.below HB6).2.1, (he.out.below HB6).2.2.1, (he.out.below HB6).2.2.2.1, (he.out.below HB6).2.2.2.2.1, (he.out.below HB6).2.2.2.2.2⟩ (fun hHeld => ?_)
      clear hK K
      refine norm_ (a' := ?_) ?_ ?_
      rotate_left
      · show Act.put _ (some 78) _ = _
        simp only [Act.put, List.setIfInBounds_toArray, List.set_cons_zero, List.set_cons_succ, i64_w, i32_w]
        rfl
      refine one_ (i := 12) (N := some 79) #[true, true, true, true, true, true, true, true, true, true, true, true, true, false] rfl rfl (by kernel_rfl) (by decide) (fun K hK => ?_)
      refine goes_ Tryd.func52 (by kernel_rfl) rfl #[.slice (some ⟨w5.heap.size, 0, none⟩) 3 3] (by rfl) rfl rfl (by simp only [List.map_toArray, List.map_cons, List.map_nil]; rfl) ?_
      (with_reducible refine (l_calls _ _ _ _).mono ?_)
      rintro e w7 ⟨rfl, hbq7⟩
      refine ⟨_, rfl, ?_⟩
      have HB7 := below_step HB6 hbq7
      have hNL : NL w7 W0.heap.size (some ⟨w5.heap.size, 0, none⟩) 3 := NL.three (blk_below hbk hbq7) (Nat.le_trans hBr.out.size HB5.size) (NL.nil _ _) (Nat.le_refl _) ((hrow.out.list.1.list.mono (by have := hxs.out; omega)).below HB7) hrow.out.list.2 (((hn5.mono (Nat.le_trans hBr.out.size HB4.size)).below (below_alloc (Below.refl _ _) _)).below hbq7) hc5
      have HBz := hBr.out.trans (HB7.mono hBr.out.size)
      have hr1 := blk_below hrx.out HBz
      have j0 := (blk_cell hr1 0).trans rfl
      have j1 := (blk_cell hr1 1).trans rfl
      have j2 := (blk_cell hr1 2).trans rfl
      have z0 := blk_frozen hr1 0
      have z1 := blk_frozen hr1 1
      have z2 := blk_frozen hr1 2
      refine hK.out _ _ ⟨(blk_cell (blk_below hXb.out HB7) 0).trans rfl, (blk_cell (blk_below hXb.out HB7) 1).trans rfl, (blk_cell (blk_below hXb.out HB7) 2).trans rfl, (blk_cell (blk_below (blk_below hbx.out hBr.out) HB7) 4).trans rfl, (he.out.below HB7).1, (he.out.below HB7).2.1, (he.out.below HB7).2.2.1, (he.out.below HB7).2.2.2.1, (he.out.below HB7).2.2.2.2.1, (he.out.below HB7).2.2.2.2.2⟩ (fun hHeld => ?_)
      clear hK K
      refine norm_ (a' := ?_) ?_ ?_
      rotate_left
      · show Act.put _ (some 79) _ = _
        simp only [Act.put, List.setIfInBounds_toArray, List.set_cons_zero, List.set_cons_succ, i64_w, i32_w]
        rfl
      refine last_ (i := 13) (N := none) #[true, true, true, true, true, true, true, true, true, true, true, true, true, true] rfl rfl (by kernel_rfl) (by decide) (fun K hK => ?_)
      refine skip_ (w1 := ?_) (by rfl) rfl ?_ ?_
      rotate_left
      · go_simp
        rfl
      refine hK.out _ _ ?_
      clear hK K
      refine done_ (by kernel_rfl) ?_
      clear hHeld
      go_wp2
      refine bodyPost_ret (v := .agg #[.string ⟨#[]⟩, .slice (some ⟨w5.heap.size, 0, none⟩) 3 3, .int .i64 0]) (by simp [results, Tryd.results37, go_sem, *]) rfl ⟨_, (some ⟨w5.heap.size, 0, none⟩), _, 3, rfl, Nat.le_refl _, ?_, ?_⟩
      · exact ((((hNL).far (p := ⟨w.heap.size + 1, 0, none⟩) hl5.out _).far (p := ⟨w.heap.size + 1, 1, none⟩) hl5.out _).far (p := ⟨w.heap.size + 1, 2, none⟩) hl5.out _).mono (by have := hl5.out; omega)
      · exact (((HB0.out.trans (HBz.mono HB0.out.size)).setCell (p := ⟨w.heap.size + 1, 0, none⟩) (Nat.le_succ _) _).setCell (p := ⟨w.heap.size + 1, 1, none⟩) (Nat.le_succ _) _).setCell (p := ⟨w.heap.size + 1, 2, none⟩) (Nat.le_succ _) _
end Go.Proofs.YtmoeekidmkhkoaaDoor.FreeA

