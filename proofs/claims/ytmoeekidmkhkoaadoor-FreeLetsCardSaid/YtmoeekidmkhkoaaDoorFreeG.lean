/- gristmillref5.altNode. Condition: the library's table of powers of ten reads as it is laid. -/
import Derived.Test.YtmoeekidmkhkoaaDoorFreeF
namespace Go.Proofs.YtmoeekidmkhkoaaDoor.FreeA
open Go.RowKit Go.Proofs.YtmoeekidmkhkoaaDoorW.PrintWords Go.Proofs.YtmoeekidmkhkoaaDoorW.PrintLast Go.Proofs.YtmoeekidmkhkoaaDoorW.PrintMore Go.Proofs.YtmoeekidmkhkoaaDoor.PFreeA
set_option linter.unusedVariables false
set_option linter.unusedSimpArgs false
set_option maxHeartbeats 8000000 in
set_option maxRecDepth 100000 in
theorem altNode_calls (a : S40) (h0 : -9223372036854775808 ≤ a.f2) (h1 : a.f2 ≤ 9223372036854775807) (hl : a.f3.length ≤ 100000000000) (w : World) (hg : GG w) {A3 A7 A8 A9 : Option Addr} {c3 n7 c7 n8 c8 n9 c9 : Nat} (hC3 : Kd.C Kd.string w A3 a.f3.length a.f3) (x0 x2 : Int) (x1 : ByteArray) :
    Calls Tryd.prog 54 #[.agg #[.int .i64 a.f0, .string a.f1, .int .i64 a.f2, .slice A3 a.f3.length c3, .int .i64 x0, .string x1, .int .i64 x2, .slice A7 n7 c7, .slice A8 n8 c8, .slice A9 n9 c9]] w fun r w' => ∃ s A n c, r = .returned (.agg #[.string s, .slice A n c, .int .i64 0]) ∧ n ≤ c ∧ NL w' w.heap.size A n ∧ Below w.heap.size w w' := by
  have E : ∀ W : World, ∀ o : Obj, (W.alloc o).heap.size = W.heap.size + 1 := fun W o => Array.size_push _
  obtain ⟨f0, f1, f2, f3, f4⟩ := a
  dsimp only at *
  obtain ⟨W0, hW0⟩ : ∃ W0, (w.alloc (.cells #[.int .i64 f0, .string f1, .int .i64 f2, .slice A3 f3.length c3, .int .i64 x0, .string x1, .int .i64 x2, .slice A7 n7 c7, .slice A8 n8 c8, .slice A9 n9 c9] 40)).alloc (.cells #[.string ⟨#[]⟩, .slice none 0 0, .int .i64 0] 56) = W0 := ⟨_, rfl⟩
  have HB0 : Aside0 (Below w.heap.size w W0) := ⟨by rw [← hW0]; exact below_alloc (below_alloc (Below.refl _ _) _) _⟩
  have hbx : Aside0 (W0.heap[w.heap.size]? = some (.cells #[.int .i64 f0, .string f1, .int .i64 f2, .slice A3 f3.length c3, .int .i64 x0, .string x1, .int .i64 x2, .slice A7 n7 c7, .slice A8 n8 c8, .slice A9 n9 c9] 40 (0, 0))) := ⟨by rw [← hW0]; exact (Below.heap_alloc _ _ _ (by rw [E]; omega)).trans (blk_new w _)⟩
  have hrx : Aside0 (W0.heap[w.heap.size + 1]? = some (.cells #[.string ⟨#[]⟩, .slice none 0 0, .int .i64 0] 56 (0, 0))) := ⟨by rw [← hW0, ← E w]; exact blk_new _ _⟩
  have hl1 : Aside0 (W0.heap.size = w.heap.size + 2) := ⟨by rw [← hW0, E, E]⟩
  have hg0 := Aside0.mk (GG.below hg HB0.out)
  have hC := Aside0.mk (Kd.C_below hC3 HB0.out)
  obtain ⟨b1, q1⟩ : ∃ b, (f0 == 3) = b := ⟨_, rfl⟩
  obtain ⟨b2, q2⟩ : ∃ b, (f0 == 2) = b := ⟨_, rfl⟩
  obtain ⟨b3, q3⟩ : ∃ b, ((f3.length : Int) == 0) = b := ⟨_, rfl⟩
  have k0 := (blk_cell hbx.out 0).trans rfl
  have k1 := (blk_cell hbx.out 1).trans rfl
  have k2 := (blk_cell hbx.out 2).trans rfl
  have k3 := (blk_cell hbx.out 3).trans rfl
  cases b1
  · cases b2
    · cases b3
      · skip
        go_enter Tryd.func54, Tryd.ntmps54
        go_wp2_with (first | (go_at_call 49; (try rw [hW0]); go_loud (with_reducible refine (w_calls f1 W0).mono ?_); rintro r w2 ⟨rfl, hb2⟩; have HB2 := Aside0.mk hb2; clear hb2) | (go_at_call 52; go_loud (with_reducible refine (l_calls _ _ _ _).mono ?_); rintro r w3 ⟨rfl, hb3⟩; have HB3 := Aside0.mk hb3; clear hb3))
        obtain ⟨xb, hxb⟩ : ∃ xb, w3.heap.size = xb := ⟨_, rfl⟩
        obtain ⟨rb, hrb⟩ : ∃ rb, w2.heap.size = rb := ⟨_, rfl⟩
        have hrl : rb < xb ∧ W0.heap.size ≤ rb := by have h1 := HB3.out.size; rw [E] at h1; have h2 := HB2.out.size; omega
        obtain ⟨Wx, hWx⟩ : ∃ Wx, w3.alloc (.cells #[.string ⟨#[]⟩, .slice (some ⟨rb, 0, none⟩) 1 1, .int .i64 0] 56) = Wx := ⟨_, rfl⟩
        have hB3' : Below W0.heap.size W0 w3 := below_step (below_alloc HB2.out _) HB3.out
        have hBx : Aside0 (Below W0.heap.size W0 Wx) := ⟨by rw [← hWx]; exact below_alloc hB3' _⟩
        have hrow : Aside0 (NR Wx W0.heap.size (some xb) (some ⟨rb, 0, none⟩) 1 1) := ⟨by have h1 : NR (w2.alloc (.cells #[.string f1, .slice none 0 0, .int .i64 0] 56)) W0.heap.size (some xb) (some ⟨w2.heap.size, 0, none⟩) 1 1 := NR.lit1 (q := W0.heap.size) (NL.nil _ _) (Nat.le_refl _) (Nat.le_refl _) (fun y hy => .inr (by obtain rfl := Option.some.inj hy; omega)) HB2.out.size (fun e => by have := Option.some.inj e; omega); rw [hrb] at h1; rw [← hWx]; exact NR.below (NR.below h1 HB3.out) (below_alloc (Below.refl _ _) _)⟩
        have hXb : Aside0 (Wx.heap[xb]? = some (.cells #[.string ⟨#[]⟩, .slice (some ⟨rb, 0, none⟩) 1 1, .int .i64 0] 56 (0, 0))) := ⟨by rw [← hWx, ← hxb]; exact blk_new _ _⟩
        have hXs : Aside0 (Wx.heap.size = xb + 1 ∧ W0.heap.size ≤ rb ∧ rb < xb) := ⟨by rw [← hWx, E]; omega⟩
        have hbX := Aside0.mk (blk_below hbx.out hBx.out)
        have hrX := Aside0.mk (blk_below hrx.out hBx.out)
        have hCX := Aside0.mk (Kd.C_below hC.out hBx.out)
        rw [hrb, hxb, hWx]
        clear hWx hxb hrb hB3' hrl k0 k1 k2 k3 HB2 HB3 hW0
        have HB_ : Below Wx.heap.size Wx Wx.drew := below_drew1 (Below.refl _ _)
        refine start_ (n := 8) (S := fun w' => w'.cell? ⟨xb, 1, none⟩ = some (.slice (some ⟨rb, 0, none⟩) 1 1) ∧ w'.cell? ⟨w.heap.size, 3, none⟩ = some (.slice A3 f3.length c3)) (ds := [5, 7]) #[false, false, false, false, false, false, false, false] (by kernel_rfl) rfl rfl ⟨(blk_cell (blk_below hXb.out HB_) 1).trans rfl, (blk_cell (blk_below hbX.out HB_) 3).trans rfl⟩ (fun hHeld => ?_)
        generalize Wx.drew = W9 at *
        refine pure_ (i := 0) (N := some 30) (v := ?_) (a' := ?_) #[true, false, false, false, false, false, false, false] rfl rfl (by kernel_rfl) (fun _ _ _ h => h) (Or.inl ⟨by rfl, ?_⟩) ?_ ?_
        rotate_left
        · intro w'
          go_simp
          with_reducible rfl
        rotate_left
        · simp only [Act.put, List.setIfInBounds_toArray, List.set_cons_zero, List.set_cons_succ, i64_w, i32_w]
          rfl
        refine pure_ (i := 2) (N := some 32) (v := ?_) (a' := ?_) #[true, false, true, false, false, false, false, false] rfl rfl (by kernel_rfl) (fun _ _ _ h => h) (Or.inl ⟨by rfl, ?_⟩) ?_ ?_
        rotate_left
        · intro w'
          go_simp
          with_reducible rfl
        rotate_left
        · simp only [Act.put, List.setIfInBounds_toArray, List.set_cons_zero, List.set_cons_succ, i64_w, i32_w]
          rfl
        refine take_ (i := 1) (N := some 31) (v := ?_) (a' := ?_) #[true, true, true, false, false, false, false, false] rfl rfl (by kernel_rfl) (fun _ _ _ h => h) (Or.inl ⟨by rfl, ?_⟩) hHeld ?_ ?_
        rotate_left
        · rintro w' ⟨s0, s1⟩
          go_simp
          with_reducible rfl
        rotate_left
        · simp only [Act.put, List.setIfInBounds_toArray, List.set_cons_zero, List.set_cons_succ, i64_w, i32_w]
          rfl
        refine take_ (i := 3) (N := some 33) (v := ?_) (a' := ?_) #[true, true, true, true, false, false, false, false] rfl rfl (by kernel_rfl) (fun _ _ _ h => h) (Or.inl ⟨by rfl, ?_⟩) hHeld ?_ ?_
        rotate_left
        · rintro w' ⟨s0, s1⟩
          go_simp
          with_reducible rfl
        rotate_left
        · simp only [Act.put, List.setIfInBounds_toArray, List.set_cons_zero, List.set_cons_succ, i64_w, i32_w]
          rfl
        refine one_ (i := 4) (N := some 34) #[true, true, true, true, true, false, false, false] rfl rfl (by kernel_rfl) (by decide) (fun K hK => ?_)
        refine goes_ Tryd.func53 (by kernel_rfl) rfl #[.slice A3 f3.length c3] (by rfl) rfl rfl (by simp only [List.map_toArray, List.map_cons, List.map_nil]; rfl) ?_
        (with_reducible refine (ws_calls f3 W9 (by omega) (Kd.C_below hCX.out HB_)).mono ?_)
        rintro e w5 ⟨A1, c1, rfl, hc1, hn1, hb5⟩
        refine ⟨_, rfl, ?_⟩
        have HB5 := below_step HB_ hb5
        refine hK.out _ _ ⟨(blk_cell (blk_below hXb.out HB5) 1).trans rfl, (blk_cell (blk_below hbX.out HB5) 3).trans rfl⟩ (fun hHeld => ?_)
        clear hK K
        refine norm_ (a' := ?_) ?_ ?_
        rotate_left
        · show Act.put _ (some 34) _ = _
          simp only [Act.put, List.setIfInBounds_toArray, List.set_cons_zero, List.set_cons_succ, i64_w, i32_w]
          rfl
        refine last_ (i := 5) (N := some 35) #[true, true, true, true, true, true, false, false] rfl rfl (by kernel_rfl) (by decide) (fun K hK => ?_)
        refine apps_step (w0 := w5) W0.heap.size (by rfl) (.tmp 31) (.tmp 34) rfl (A := some ⟨rb, 0, none⟩) (x0 := some xb) (n := 1) (c := 1) (A1 := A1) (n1 := f3.length) (c1 := c1) (q := W9.heap.size) rfl rfl (NR.below hrow.out HB5) hn1 ?_ ?_ ?_ (Below.refl _ _) ?_ (by omega) ?_
        · intro k hk; have := NR.lt hrow.out k hk; have := HB_.size; omega
        · have := hXs.out; have := HB_.size; omega
        · intro y hy; obtain rfl := Option.some.inj hy; have := hXs.out; have := HB_.size; have := HB5.size; omega
        · have := hXs.out; have := HB5.size; omega
        intro A6 c6 w6 hr6 hb6 hg6
        have hx5 := blk_below hXb.out HB5
        have hx6 := (NR.keep (NR.below hrow.out HB5) hg6 (Array.getElem?_eq_some_iff.1 hx5).1).trans hx5
        have hcz := (blk_cell hx6 1).trans rfl
        have hfz := blk_frozen hx6 1
        refine hK.out _ _ ?_
        clear hK K
        refine norm_ (a' := ?_) ?_ ?_
        rotate_left
        · show Act.put _ (some 35) _ = _
          simp only [Act.put, List.setIfInBounds_toArray, List.set_cons_zero, List.set_cons_succ, i64_w, i32_w]
          rfl
        refine pure_ (i := 6) (N := some 36) (v := ?_) (a' := ?_) #[true, true, true, true, true, true, true, false] rfl rfl (by kernel_rfl) (fun _ _ _ h => h) (Or.inl ⟨by rfl, ?_⟩) ?_ ?_
        rotate_left
        · intro w'
          go_simp
          with_reducible rfl
        rotate_left
        · simp only [Act.put, List.setIfInBounds_toArray, List.set_cons_zero, List.set_cons_succ, i64_w, i32_w]
          rfl
        refine last_ (i := 7) (N := none) #[true, true, true, true, true, true, true, true] rfl rfl (by kernel_rfl) (by decide) (fun K hK => ?_)
        refine skip_ (w1 := ?_) (by rfl) rfl ?_ ?_
        rotate_left
        · go_simp
          rfl
        refine hK.out _ _ ?_
        clear hK K
        refine done_ (by kernel_rfl) ?_
        obtain ⟨W7, hW7⟩ : ∃ W7, w6.setCell ⟨xb, 1, none⟩ (.slice A6 (1 + f3.length) c6) = W7 := ⟨_, rfl⟩
        have hX7 : W7.heap[xb]? = some (.cells #[.string ⟨#[]⟩, .slice A6 (1 + f3.length) c6, .int .i64 0] 56 (0, 0)) := by rw [← hW7]; exact blk_put hx6 1 _ rfl
        have hl5 : w.heap.size + 1 < W0.heap.size := by have := hl1.out; omega
        have hR7 : W7.heap[w.heap.size + 1]? = some (.cells #[.string ⟨#[]⟩, .slice none 0 0, .int .i64 0] 56 (0, 0)) := by
          rw [← hW7]
          exact (Below.heap_setCell w6 _ _ _ (by have := hXs.out; show w.heap.size + 1 ≠ xb; omega)).trans ((hb6.block _ hl5).trans (blk_below hrX.out HB5))
        have hr7 : Aside0 (NR W7 W0.heap.size (some xb) A6 (1 + f3.length) c6) := ⟨by rw [← hW7]; exact NR.far hr6 (.inr rfl) _⟩
        have hB7 : Aside0 (Below W0.heap.size W0 W7) := ⟨by rw [← hW7]; exact ((hBx.out.trans (HB5.mono hBx.out.size)).trans hb6).setCell (p := ⟨xb, 1, none⟩) (by have := hXs.out; show W0.heap.size ≤ xb; omega) _⟩
        rw [hW7]
        clear hW7 hcz hfz hx6 hx5 hg6 hb6 hr6 hHeld hb5 HB5 hn1 HB_
        have x0 := (blk_cell hX7 0).trans rfl
        have x1 := (blk_cell hX7 1).trans rfl
        have x2 := (blk_cell hX7 2).trans rfl
        have r0 := (blk_cell hR7 0).trans rfl
        have r1 := (blk_cell hR7 1).trans rfl
        have r2 := (blk_cell hR7 2).trans rfl
        have z0 := blk_frozen hR7 0
        have z1 := blk_frozen hR7 1
        have z2 := blk_frozen hR7 2
        go_wp2
        refine bodyPost_ret (v := .agg #[.string ⟨#[]⟩, .slice A6 (1 + f3.length) c6, .int .i64 0]) (by simp [results, Tryd.results54, go_sem, *]) rfl ⟨_, A6, _, c6, rfl, hr7.out.list.2, ?_, ?_⟩
        · exact (((hr7.out.list.1.far (p := ⟨w.heap.size + 1, 0, none⟩) (.inl hl5) _).far (p := ⟨w.heap.size + 1, 1, none⟩) (.inl hl5) _).far (p := ⟨w.heap.size + 1, 2, none⟩) (.inl hl5) _).list.mono (by omega)
        · exact (((HB0.out.trans (hB7.out.mono HB0.out.size)).setCell (p := ⟨w.heap.size + 1, 0, none⟩) (Nat.le_succ _) _).setCell (p := ⟨w.heap.size + 1, 1, none⟩) (Nat.le_succ _) _).setCell (p := ⟨w.heap.size + 1, 2, none⟩) (Nat.le_succ _) _
      · go_enter Tryd.func54, Tryd.ntmps54
        go_wp2_with (first | (go_at_call 49; (try rw [hW0]); go_loud (with_reducible refine (w_calls f1 W0).mono ?_); rintro r w2 ⟨rfl, hb2⟩; have HB2 := Aside0.mk hb2; have hr1 := Aside0.mk (blk_below hrx.out hb2); have j0 := (blk_cell hr1.out 0).trans rfl; have j1 := (blk_cell hr1.out 1).trans rfl; have j2 := (blk_cell hr1.out 2).trans rfl; have z0 := blk_frozen hr1.out 0; have z1 := blk_frozen hr1.out 1; have z2 := blk_frozen hr1.out 2; clear hb2 k0 k1 k2 k3))
        refine bodyPost_ret (v := .agg #[.string f1, .slice none 0 0, .int .i64 0]) (by simp [results, Tryd.results54, go_sem, *]) rfl ⟨f1, none, 0, 0, rfl, Nat.le_refl _, NL.nil _ _, ?_⟩
        exact (((HB0.out.trans (HB2.out.mono HB0.out.size)).setCell (p := ⟨w.heap.size + 1, 0, none⟩) (Nat.le_succ _) _).setCell (p := ⟨w.heap.size + 1, 1, none⟩) (Nat.le_succ _) _).setCell (p := ⟨w.heap.size + 1, 2, none⟩) (Nat.le_succ _) _
    · have TN := numText_calls f2 h0 h1 W0 hg0.out
      go_enter Tryd.func54, Tryd.ntmps54
      go_wp2_with (first | (go_at_call 50; (try rw [hW0]); go_loud (with_reducible refine TN.mono ?_); rintro r w1 ⟨s1, rfl, hb1⟩; have HB1 := Aside0.mk hb1; clear TN hb1) | (go_at_call 49; (try rw [hW0]); go_loud (with_reducible refine (w_calls s1 w1).mono ?_); rintro r w2 ⟨rfl, hb2⟩; have HB2 := Aside0.mk (below_step HB1.out hb2); have hr1 := Aside0.mk (blk_below hrx.out HB2.out); have j0 := (blk_cell hr1.out 0).trans rfl; have j1 := (blk_cell hr1.out 1).trans rfl; have j2 := (blk_cell hr1.out 2).trans rfl; have z0 := blk_frozen hr1.out 0; have z1 := blk_frozen hr1.out 1; have z2 := blk_frozen hr1.out 2; clear hb2 k0 k1 k2 k3))
      refine bodyPost_ret (v := .agg #[.string s1, .slice none 0 0, .int .i64 0]) (by simp [results, Tryd.results54, go_sem, *]) rfl ⟨s1, none, 0, 0, rfl, Nat.le_refl _, NL.nil _ _, ?_⟩
      exact (((HB0.out.trans (HB2.out.mono HB0.out.size)).setCell (p := ⟨w.heap.size + 1, 0, none⟩) (Nat.le_succ _) _).setCell (p := ⟨w.heap.size + 1, 1, none⟩) (Nat.le_succ _) _).setCell (p := ⟨w.heap.size + 1, 2, none⟩) (Nat.le_succ _) _
  · go_enter Tryd.func54, Tryd.ntmps54
    go_wp2_with (first | (go_at_call 49; (try rw [hW0]); go_loud (with_reducible refine (w_calls ⟨#[95]⟩ W0).mono ?_); rintro r w2 ⟨rfl, hb2⟩; have HB2 := Aside0.mk hb2; have hr1 := Aside0.mk (blk_below hrx.out hb2); have j0 := (blk_cell hr1.out 0).trans rfl; have j1 := (blk_cell hr1.out 1).trans rfl; have j2 := (blk_cell hr1.out 2).trans rfl; have z0 := blk_frozen hr1.out 0; have z1 := blk_frozen hr1.out 1; have z2 := blk_frozen hr1.out 2; clear hb2 k0 k1 k2 k3))
    refine bodyPost_ret (v := .agg #[.string ⟨#[95]⟩, .slice none 0 0, .int .i64 0]) (by simp [results, Tryd.results54, go_sem, *]) rfl ⟨⟨#[95]⟩, none, 0, 0, rfl, Nat.le_refl _, NL.nil _ _, ?_⟩
    exact (((HB0.out.trans (HB2.out.mono HB0.out.size)).setCell (p := ⟨w.heap.size + 1, 0, none⟩) (Nat.le_succ _) _).setCell (p := ⟨w.heap.size + 1, 1, none⟩) (Nat.le_succ _) _).setCell (p := ⟨w.heap.size + 1, 2, none⟩) (Nat.le_succ _) _
end Go.Proofs.YtmoeekidmkhkoaaDoor.FreeA

