/- DepsChains: its walk. No condition beyond those that each states. -/
import Derived.Test.YtlgpoigbadajnaaDoorDepP
namespace Go.Proofs.YtlgpoigbadajnaaDoor.DepA
open Go.RowKit Go.Proofs.YtlgpoigbadajnaaDoorW.PrintWords Go.Proofs.YtlgpoigbadajnaaDoorW.PrintLast Go.Proofs.YtlgpoigbadajnaaDoorW.PrintMore Go.Proofs.YtlgpoigbadajnaaDoor.PDepA
set_option linter.unusedVariables false
set_option linter.unusedSimpArgs false
theorem usesX {w : World} (ds : List S34) (hok : ok3 ds = true) (n m : Nat) (hn : n = ds.length) (k : Nat) (ki : Int) (hki : ki = (k : Int)) (hk : k < ds.length) {r : List Int} (hr : usesL ds k = r) (hm : m = r.length) {Ad Af : Option Addr} {nd cd cf : Nat} (hC : Kd.C k34 w Af n ds) :
    Calls Tryd.prog 19 #[.agg #[.slice Ad nd cd, .slice Af n cf], .int .i64 ki] w fun e w' => ∃ A c, e = .returned (.slice A m c) ∧ m ≤ c ∧ Kd.C kI w' A m r ∧ Below w.heap.size w w' := by
  subst hn hki hr hm
  simp only [ok3, Bool.and_eq_true] at hok
  have h1 := okDs_at hok.1 hk
  refine (uses_calls ds hC k hk h1.1 (by omega)).mono ?_
  rintro e w' ⟨v, rfl, hr, hb⟩
  obtain ⟨A, c, rfl⟩ := Kd.R_slice hr
  exact ⟨A, c, rfl, (Kd.R_reads' hr).2.1, (Kd.R_reads' hr).2.2, hb⟩
theorem neededX {w : World} (ds : List S34) (hok : ok3 ds = true) (n m : Nat) (hn : n = ds.length) (k : Nat) (ki : Int) (hki : ki = (k : Int)) (hk : k < ds.length) {r : List Int} (hr : needL ds k = r) (hm : m = r.length) {Ad Af : Option Addr} {nd cd cf : Nat} (hC : Kd.C k34 w Af n ds) :
    Calls Tryd.prog 14 #[.agg #[.slice Ad nd cd, .slice Af n cf], .int .i64 ki] w fun e w' => ∃ A c, e = .returned (.slice A m c) ∧ m ≤ c ∧ Kd.C kI w' A m r ∧ Below w.heap.size w w' := by
  subst hn hki hr hm
  simp only [ok3, Bool.and_eq_true] at hok
  refine (needed1_calls ds hok.1 hok.2 k hk hC).mono ?_
  rintro e w' ⟨v, rfl, hr, hb⟩
  obtain ⟨A, c, rfl⟩ := Kd.R_slice hr
  exact ⟨A, c, rfl, (Kd.R_reads' hr).2.1, (Kd.R_reads' hr).2.2, hb⟩
theorem fk_D (W : World) (ok : Nat → Prop) (a : ByteArray) (x0 x2 : Int) (x1 : ByteArray) : Kd.FK k34 W ok ⟨a, [], ⟨x0, x1, x2, [], [], []⟩⟩ [.string a, .slice none 0 0, .int .i64 x0, .string x1, .int .i64 x2, .slice none 0 0, .slice none 0 0, .slice none 0 0] := by
  intro W' _
  exact k34_mk W' ⟨a, [], ⟨x0, x1, x2, [], [], []⟩⟩ (Nat.le_refl _) (Kd.C_nil _ _) (Nat.le_refl _) (Kd.C_nil _ _) (Nat.le_refl _) (Kd.C_nil _ _) (Nat.le_refl _) (Kd.C_nil _ _)
theorem oneF (W : World) (a : ByteArray) (x0 x2 : Int) (x1 : ByteArray) : Kd.F k34 (W.alloc (.cells #[.string a, .slice none 0 0, .int .i64 x0, .string x1, .int .i64 x2, .slice none 0 0, .slice none 0 0, .slice none 0 0] 34)) (fun k => k = W.heap.size) (some ⟨W.heap.size, 0, none⟩) 1 [⟨a, [], ⟨x0, x1, x2, [], [], []⟩⟩] := by
  intro W' h
  have hb := blk_new W (.cells #[.string a, .slice none 0 0, .int .i64 x0, .string x1, .int .i64 x2, .slice none 0 0, .slice none 0 0, .slice none 0 0] 34 (0, 0))
  have hlt := (Array.getElem?_eq_some_iff.1 hb).1
  exact C_cells ((h _ rfl hlt).trans hb) (Reps.c8 (Kd.FK_now (fk_D W' (fun _ => True) a x0 x2 x1)) (Reps.none _ _)) (by simp)
theorem mainC_calls (w : World) (n : Nat) (ring : Bool) (hn : n ≤ 100) {A : Option Addr} {c base : Nat} (hN : Kd.N k34 34 w base (fun _ => True) (.slice A n c) (chL n ring)) :
    Calls Tryd.prog 12 #[.agg #[.int .i64 1, .string ⟨#[100, 48]⟩, .int .i64 0, .slice none 0 0, .slice none 0 0, .slice none 0 0], .slice A n c] w fun e w' => ∃ A1 A2 c2, e = .returned (.agg #[.slice A1 1 1, .slice A2 (n + 1) c2]) ∧ Kd.C k34 w' A2 (n + 1) (chA n ring) ∧ Below w.heap.size w w' := by
  have hl : (chL n ring).length = n := by simp [chL]
  have h := mainF_calls w (ok0 := fun _ => True) (eV d0) (A3 := none) (A4 := none) (A5 := none) (n3 := 0) (c3 := 0) (n4 := 0) (c4 := 0) (n5 := 0) (c5 := 0) (fun W' _ => k_0 W' 1 0 d0) (chL n ring) (by omega) (A := A) (c := c) (by rw [hl]; exact Kd.N_F hN)
  rw [hl] at h
  refine h.mono ?_
  rintro e w' ⟨A1, A2, c2, he, hF, hb⟩
  exact ⟨A1, A2, c2, he, Kd.F_now hF, hb⟩
theorem row_at {w0 W : World} (hB : Below w0.heap.size w0 W) {G : Option Addr} {R : List (List Int)} (hC : Kd.C kII w0 G R.length R) (i : Nat) {x : List Int} {m : Nat} (hx : R[i]? = some x) (hm : m = x.length) : ∃ ad A1 c1, G = some ad ∧ W.cell? (ad.add i) = some (.slice A1 m c1) ∧ Kd.C kI W A1 m x ∧ m ≤ c1 := by
  obtain ⟨hi, rfl⟩ := List.getElem?_eq_some_iff.1 hx
  subst hm
  obtain ⟨ad, A1, c1, e, h1, h2, h3⟩ := at_row hB hC i hi
  exact ⟨ad, A1, c1, e, h1, Kd.C_below h2 hB, h3⟩
theorem add_n (a : Addr) (n : Nat) (hn : 1 ≤ n) : a.add n = ⟨a.block, a.off + n, none⟩ := by
  unfold Addr.add
  rw [if_neg (by omega)]
theorem chE_of (n : Nat) (ring : Bool) (i : Nat) : ∃ (x0 x2 : Int) (x1 : ByteArray), chE n ring i = ⟨x0, x1, x2, [], [], []⟩ := by
  unfold chE
  split
  · exact ⟨1, 0, _, rfl⟩
  · cases ring
    · exact ⟨2, 1, _, rfl⟩
    · exact ⟨1, 0, _, rfl⟩
set_option maxHeartbeats 16000000 in
set_option maxRecDepth 100000 in
theorem chains_walk (a0 : Int) (ring : Bool) (w : World) : Calls Tryd.prog 3 #[.int .i64 a0, .bool ring] w fun e w' => e = .returned (.bool true) ∧ Below w.heap.size w w' := by
  have E : ∀ W : World, ∀ o : Obj, (W.alloc o).heap.size = W.heap.size + 1 := fun W o => Array.size_push _
  obtain ⟨r, hr, hr9⟩ := number9 a0
  have hw9 : wrap64 ((r : Int) + 1) = (r : Int) + 1 := by unfold wrap64; omega
  have T1 : True := trivial
  replace hr9 := Aside0.mk hr9
  go_enter Tryd.func3, Tryd.ntmps3
  go_wp2_with (first | (clear T1; go_at_call 6; go_loud (with_reducible refine (first_calls _).mono ?_); rintro e w1 ⟨rfl, hb1⟩; have HB1 := Aside0.mk hb1; clear hb1; have T2 : True := trivial) | (clear T2; go_at_call 7; go_loud (with_reducible refine (PDepS.gristmillworld_Number.calls a0 9 r _ hr).mono ?_); rintro e w2 ⟨rfl, hd2⟩; have HB2 := Aside0.mk (below_step HB1.out hd2.below); clear hd2 HB1; have T3 : True := trivial))
  rw [hw9]
  obtain ⟨n, hn⟩ : ∃ n, r + 1 = n := ⟨_, rfl⟩
  have hnI : (r : Int) + 1 = (n : Int) := by omega
  rw [hnI]
  have hn9 : Aside0 (1 ≤ n ∧ n ≤ 9) := ⟨by have := hr9.out; omega⟩
  have hpl := ch_at hr9.out ring
  rw [hn] at hpl
  replace hpl := Aside0.mk hpl
  clear hnI hw9 hr hn hr9
  go_loopg [6, 7] (n + 1) (fun kq v6 v7 w' => ∃ (i : Nat) (A : Option Addr) (c : Nat), v6 = .slice A i c ∧ v7 = .int .i64 (i : Int) ∧ i + kq = n + 1 ∧ 1 ≤ kq ∧ Aside0 (Kd.N k34 34 w' w.heap.size (fun _ => True) (.slice A i c) ((List.range i).map (chD n ring))) ∧ Aside0 (Below w.heap.size w w'))
  case atStart => exact ⟨0, none, 0, rfl, rfl, by omega, by omega, ⟨Kd.N_nil _ _ _ _ _⟩, HB2⟩
  case round =>
    clear HB2 T3
    obtain ⟨i, A, c, rfl, rfl, hi, hk, hN, hB⟩ := hrel
    by_cases hlt : i < n
    · have q1 : decide ((i : Int) < (n : Int)) = true := decide_eq_true (by omega)
      have hwi : wrap64 ((i : Int) + 1) = (i : Int) + 1 := by have := hn9.out; unfold wrap64; omega
      have i100 : Aside0 (i + 1 < 100) := ⟨by have := hn9.out; omega⟩
      have z1 := num_size i100.out
      have z0 := num_size (i := i) (by have := i100.out; omega)
      have CN : ∀ W, Calls Tryd.prog 10 #[.int .i64 ((i : Int) + 1)] W fun e w' => e = .returned (.string (numT (i + 1))) ∧ Below W.heap.size W w' := fun W => by
        have := num_calls (i + 1) i100.out W
        rwa [show (((i + 1 : Nat) : Int)) = (i : Int) + 1 by omega] at this
      have T1 : True := trivial
      by_cases h1 : i + 1 < n
      · have q2 : decide ((i : Int) + 1 < (n : Int)) = true := decide_eq_true (by omega)
        have hE : Aside0 (chE n ring i = ⟨1, ⟨#[100]⟩ ++ numT (i + 1), 0, [], [], []⟩) := ⟨by unfold chE; rw [if_pos h1]; rfl⟩
        go_wp2_with (first | (clear T1; go_at_call 8; go_loud (with_reducible refine (i_calls _ _).mono ?_); rintro e w3 ⟨rfl, hb3⟩; have HB3 := Aside0.mk (below_step hB.out hb3); have HN3 := Aside0.mk (Kd.N_below hN.out hb3); clear hb3; have T2 : True := trivial) | (clear T2; go_at_call 10; go_loud (with_reducible refine (CN _).mono ?_); rintro e w4 ⟨rfl, hb4⟩; have HB4 := Aside0.mk hb4; clear hb4; have T3 : True := trivial) | (clear T3; go_at_call 9; go_loud (with_reducible refine (v_calls _ _).mono ?_); rintro e w5 ⟨rfl, hb5⟩; have HB5 := below_step HB4.out hb5; have hfb := blk_below (blk_new w3 (.cells #[.int .i64 2, .string ⟨#[]⟩, .int .i64 1, .slice none 0 0, .slice none 0 0, .slice none 0 0] 29)) HB5; have HFB := Aside0.mk hfb; have hx0 := (blk_cell hfb 0).trans rfl; have hx1 := (blk_cell hfb 1).trans rfl; have hx2 := (blk_cell hfb 2).trans rfl; have hx3 := (blk_cell hfb 3).trans rfl; have hx4 := (blk_cell hfb 4).trans rfl; have hx5 := (blk_cell hfb 5).trans rfl; have hf0 := blk_frozen hfb 0; have hf1 := blk_frozen hfb 1; have hf2 := blk_frozen hfb 2; have hf3 := blk_frozen hfb 3; have hf4 := blk_frozen hfb 4; have hf5 := blk_frozen hfb 5; have HBV := Aside0.mk HB5; clear hfb; clear hb5 HB5 HB4; have T4 : True := trivial))
        clear hx0 hf0 hx1 hf1 hx2 hf2 hx3 hf3 hx4 hf4 hx5 hf5
        have hch0 : Below w3.heap.size w3 w5 := below_step (below_alloc (Below.refl _ _) _) HBV.out
        obtain ⟨W0, hW0⟩ : ∃ W0, ((((((w5.setCell ⟨w3.heap.size, 0, none⟩ (.int .i64 1)).setCell ⟨w3.heap.size, 1, none⟩ (.string (⟨#[100]⟩ ++ numT (i + 1)))).setCell ⟨w3.heap.size, 2, none⟩ (.int .i64 0)).setCell ⟨w3.heap.size, 3, none⟩ (.slice none 0 0)).setCell ⟨w3.heap.size, 4, none⟩ (.slice none 0 0)).setCell ⟨w3.heap.size, 5, none⟩ (.slice none 0 0)) = W0 := ⟨_, rfl⟩
        rw [hW0]
        have hb8 : Aside0 (W0.heap[w3.heap.size]? = some (.cells #[.int .i64 1, .string (⟨#[100]⟩ ++ numT (i + 1)), .int .i64 0, .slice none 0 0, .slice none 0 0, .slice none 0 0] 29 (0, 0))) := ⟨by rw [← hW0]; exact (blk_put (blk_put (blk_put (blk_put (blk_put (blk_put HFB.out 0 _ rfl) 1 _ rfl) 2 _ rfl) 3 _ rfl) 4 _ rfl) 5 _ rfl)⟩
        have hch : Below w3.heap.size w3 W0 := by rw [← hW0]; exact ((((((hch0.setCell (p := ⟨w3.heap.size, 0, none⟩) (Nat.le_refl _) _).setCell (p := ⟨w3.heap.size, 1, none⟩) (Nat.le_refl _) _).setCell (p := ⟨w3.heap.size, 2, none⟩) (Nat.le_refl _) _).setCell (p := ⟨w3.heap.size, 3, none⟩) (Nat.le_refl _) _).setCell (p := ⟨w3.heap.size, 4, none⟩) (Nat.le_refl _) _).setCell (p := ⟨w3.heap.size, 5, none⟩) (Nat.le_refl _) _)
        clear hW0 hch0
        have HB0 : Aside0 (Below w.heap.size w W0) := ⟨HB3.out.trans (hch.mono HB3.out.size)⟩
        have HN : Aside0 (Kd.N k34 34 W0 w.heap.size (fun _ => True) (.slice A i c) ((List.range i).map (chD n ring))) := ⟨Kd.N_below HN3.out hch⟩
        obtain ⟨b8, hbe⟩ : ∃ b8, w3.heap.size = b8 := ⟨_, rfl⟩
        rw [hbe] at hb8 ⊢
        have HB_ : Below W0.heap.size W0 W0.drew := below_drew1 (Below.refl _ _)
        clear hch HB3 HN3 hN hB hbe
        refine start_ (n := 9) (S := fun w' => w'.cell? ⟨b8, 0, none⟩ = some (.int .i64 1) ∧ w'.cell? ⟨b8, 1, none⟩ = some (.string (⟨#[100]⟩ ++ numT (i + 1))) ∧ w'.cell? ⟨b8, 2, none⟩ = some (.int .i64 0) ∧ w'.cell? ⟨b8, 3, none⟩ = some (.slice none 0 0) ∧ w'.cell? ⟨b8, 4, none⟩ = some (.slice none 0 0) ∧ w'.cell? ⟨b8, 5, none⟩ = some (.slice none 0 0)) (ds := []) #[false, false, false, false, false, false, false, false, false] (by kernel_rfl) rfl rfl ⟨(blk_cell (blk_below hb8.out HB_) 0).trans rfl, (blk_cell (blk_below hb8.out HB_) 1).trans rfl, (blk_cell (blk_below hb8.out HB_) 2).trans rfl, (blk_cell (blk_below hb8.out HB_) 3).trans rfl, (blk_cell (blk_below hb8.out HB_) 4).trans rfl, (blk_cell (blk_below hb8.out HB_) 5).trans rfl⟩ (fun hHeld => ?_)
        generalize W0.drew = W9 at *
        refine pure_ (i := 0) (N := some 36) (v := ?_) (a' := ?_) #[true, false, false, false, false, false, false, false, false] rfl rfl (by kernel_rfl) (fun _ _ _ h => h) (Or.inl ⟨by rfl, ?_⟩) ?_ ?_
        rotate_left
        · intro w'
          go_simp
          with_reducible rfl
        rotate_left
        · simp only [Act.put, List.setIfInBounds_toArray, List.set_cons_zero, List.set_cons_succ, i64_w, i32_w]
          rfl
        refine pure_ (i := 1) (N := some 37) (v := ?_) (a' := ?_) #[true, true, false, false, false, false, false, false, false] rfl rfl (by kernel_rfl) (fun _ _ _ h => h) (Or.inl ⟨by rfl, ?_⟩) ?_ ?_
        rotate_left
        · intro w'
          go_simp
          with_reducible rfl
        rotate_left
        · simp only [Act.put, List.setIfInBounds_toArray, List.set_cons_zero, List.set_cons_succ, i64_w, i32_w]
          rfl
        refine take_ (i := 4) (N := some 40) (v := ?_) (a' := ?_) #[true, true, false, false, true, false, false, false, false] rfl rfl (by kernel_rfl) (fun _ _ _ h => h) (Or.inl ⟨by rfl, ?_⟩) hHeld ?_ ?_
        rotate_left
        · rintro w' ⟨s0, s1, s2, s3, s4, s5⟩
          go_simp
          with_reducible rfl
        rotate_left
        · simp only [Act.put, List.setIfInBounds_toArray, List.set_cons_zero, List.set_cons_succ, i64_w, i32_w]
          rfl
        refine one_ (i := 2) (N := some 38) #[true, true, true, false, true, false, false, false, false] rfl rfl (by kernel_rfl) (by decide) (fun K hK => ?_)
        refine goes_ Tryd.func10 (by kernel_rfl) rfl #[.int .i64 (i : Int)] (by rfl) rfl rfl (by simp only [List.map_toArray, List.map_cons, List.map_nil]; rfl) ?_
        (with_reducible refine (num_calls i (by have := i100.out; omega) W9).mono ?_)
        rintro e w13 ⟨rfl, hbq⟩
        refine ⟨_, rfl, ?_⟩
        have HB3 := below_step HB_ hbq
        refine hK.out _ _ ⟨(blk_cell (blk_below hb8.out HB3) 0).trans rfl, (blk_cell (blk_below hb8.out HB3) 1).trans rfl, (blk_cell (blk_below hb8.out HB3) 2).trans rfl, (blk_cell (blk_below hb8.out HB3) 3).trans rfl, (blk_cell (blk_below hb8.out HB3) 4).trans rfl, (blk_cell (blk_below hb8.out HB3) 5).trans rfl⟩ (fun hHeld => ?_)
        clear hK K
        refine norm_ (a' := ?_) ?_ ?_
        rotate_left
        · show Act.put _ (some 38) _ = _
          simp only [Act.put, List.setIfInBounds_toArray, List.set_cons_zero, List.set_cons_succ, i64_w, i32_w]
          rfl
        refine pure_ (i := 3) (N := some 39) (v := ?_) (a' := ?_) #[true, true, true, true, true, false, false, false, false] rfl rfl (by kernel_rfl) (fun _ _ _ h => h) (Or.inl ⟨by rfl, ?_⟩) ?_ ?_
        rotate_left
        · intro w'
          go_simp
          with_reducible rfl
        rotate_left
        · simp only [Act.put, List.setIfInBounds_toArray, List.set_cons_zero, List.set_cons_succ, i64_w, i32_w]
          rfl
        refine one_ (i := 5) (N := some 41) #[true, true, true, true, true, true, false, false, false] rfl rfl (by kernel_rfl) (by decide) (fun K hK => ?_)
        refine goes_ Tryd.func11 (by kernel_rfl) rfl #[.string (⟨#[100]⟩ ++ numT i), .slice none 0 0, .agg #[.int .i64 1, .string (⟨#[100]⟩ ++ numT (i + 1)), .int .i64 0, .slice none 0 0, .slice none 0 0, .slice none 0 0]] (by rfl) rfl rfl (by simp only [List.map_toArray, List.map_cons, List.map_nil]; rfl) ?_
        (with_reducible refine (d_calls _ w13).mono ?_)
        rintro e w14 ⟨rfl, hbq4⟩
        refine ⟨_, rfl, ?_⟩
        have HB4 := below_step HB3 hbq4
        refine hK.out _ _ ⟨(blk_cell (blk_below hb8.out HB4) 0).trans rfl, (blk_cell (blk_below hb8.out HB4) 1).trans rfl, (blk_cell (blk_below hb8.out HB4) 2).trans rfl, (blk_cell (blk_below hb8.out HB4) 3).trans rfl, (blk_cell (blk_below hb8.out HB4) 4).trans rfl, (blk_cell (blk_below hb8.out HB4) 5).trans rfl⟩ (fun hHeld => ?_)
        clear hK K
        refine norm_ (a' := ?_) ?_ ?_
        rotate_left
        · show Act.put _ (some 41) _ = _
          simp only [Act.put, List.setIfInBounds_toArray, List.set_cons_zero, List.set_cons_succ, i64_w, i32_w]
          rfl
        refine one_ (i := 6) (N := some 42) #[true, true, true, true, true, true, true, false, false] rfl rfl (by kernel_rfl) (by decide) (fun K hK => ?_)
        refine value_ (w1 := ?_) (v := ?_) (by rfl) rfl ?_ ?_
        rotate_left 2
        · go_simp
          constructor
          · rfl
          · rfl
        have HB5 := below_alloc HB4 (.cells #[.string (⟨#[100]⟩ ++ numT i), .slice none 0 0, .int .i64 1, .string (⟨#[100]⟩ ++ numT (i + 1)), .int .i64 0, .slice none 0 0, .slice none 0 0, .slice none 0 0] 34)
        refine hK.out _ _ ⟨(blk_cell (blk_below hb8.out HB5) 0).trans rfl, (blk_cell (blk_below hb8.out HB5) 1).trans rfl, (blk_cell (blk_below hb8.out HB5) 2).trans rfl, (blk_cell (blk_below hb8.out HB5) 3).trans rfl, (blk_cell (blk_below hb8.out HB5) 4).trans rfl, (blk_cell (blk_below hb8.out HB5) 5).trans rfl⟩ (fun hHeld => ?_)
        clear hK K
        refine norm_ (a' := ?_) ?_ ?_
        rotate_left
        · show Act.put _ (some 42) _ = _
          simp only [Act.put, List.setIfInBounds_toArray, List.set_cons_zero, List.set_cons_succ, i64_w, i32_w]
          rfl
        refine one_ (i := 7) (N := some 43) #[true, true, true, true, true, true, true, true, false] rfl rfl (by kernel_rfl) (by decide) (fun K hK => ?_)
        refine Kd.N_append_rows_step k34 (w0 := w) w.heap.size (by rfl) (.tmp 36) (.tmp 42) 24 34 _ 144 rfl Tryd.underlying24 info34 rfl (by decide) (by decide) (.slice A i c) ((List.range i).map (chD n ring)) [⟨⟨#[100]⟩ ++ numT i, [], ⟨1, (⟨#[100]⟩ ++ numT (i + 1)), 0, [], [], []⟩⟩] (some ⟨w14.heap.size, 0, none⟩) 1 1 (fun _ => True) (fun k => k = w14.heap.size) rfl rfl (Kd.N_alloc (Kd.N_below HN.out HB4) _) (oneF w14 _ _ _ _) (fun k hk => ⟨trivial, fun e => by have := Kd.N_lt (Kd.N_below HN.out HB4) k e.symm; omega⟩) (fun _ _ => trivial) (below_alloc (HB0.out.trans (HB4.mono HB0.out.size)) _) ?_ ?_ ?_
        · exact Nat.le_trans HB0.out.size HB5.size
        · rw [List.length_map, List.length_range]; have := hn9.out; omega
        intro v15 w15 hn15 hb15 hg15 hat15
        have hb5 := blk_below hb8.out HB5
        have hbz := (hg15.block b8 (Array.getElem?_eq_some_iff.1 hb5).1 (Kd.N_ne (Kd.N_alloc (Kd.N_below HN.out HB4) _) hb5 (by decide))).trans hb5
        refine hK.out _ _ ⟨(blk_cell hbz 0).trans rfl, (blk_cell hbz 1).trans rfl, (blk_cell hbz 2).trans rfl, (blk_cell hbz 3).trans rfl, (blk_cell hbz 4).trans rfl, (blk_cell hbz 5).trans rfl⟩ (fun hHeld => ?_)
        clear hK K
        refine norm_ (a' := ?_) ?_ ?_
        rotate_left
        · show Act.put _ (some 43) _ = _
          simp only [Act.put, List.setIfInBounds_toArray, List.set_cons_zero, List.set_cons_succ, i64_w, i32_w]
          rfl
        refine pure_ (i := 8) (N := some 6) (v := ?_) (a' := ?_) #[true, true, true, true, true, true, true, true, true] rfl rfl (by kernel_rfl) (fun _ _ _ h => h) (Or.inl ⟨by rfl, ?_⟩) ?_ ?_
        rotate_left
        · intro w'
          go_simp
          with_reducible rfl
        rotate_left
        · simp only [Act.put, List.setIfInBounds_toArray, List.set_cons_zero, List.set_cons_succ, i64_w, i32_w]
          rfl
        refine done_ (by kernel_rfl) ?_
        clear hHeld
        obtain ⟨A5, c5, hv5⟩ := Kd.N_slice hn15
        rw [List.length_append, List.length_map, List.length_range, List.length_singleton] at hv5
        subst hv5
        have hN9 : Aside0 (Kd.N k34 34 w15 w.heap.size (fun _ => True) (.slice A5 (i + 1) c5) ((List.range (i + 1)).map (chD n ring))) := ⟨by rw [List.range_succ, List.map_append]; have : [(⟨⟨#[100]⟩ ++ numT i, [], ⟨1, (⟨#[100]⟩ ++ numT (i + 1)), 0, [], [], []⟩⟩ : S34)] = List.map (chD n ring) [i] := (by rw [List.map_singleton]; unfold chD; rw [hE.out]; first | done | rfl); rw [← this]; exact hn15⟩
        have hB9 := Aside0.mk hb15
        clear hn15 hb15 hg15 hat15 hb5 hbz HB5 HB4 HB3 HB_ hbq hbq4
        go_wp2
        go_roundg (gk - 1)
        case measure => omega
        case rel => exact ⟨i + 1, A5, c5, rfl, by go_num, by omega, by omega, hN9, hB9⟩
      · have q2 : decide ((i : Int) + 1 < (n : Int)) = false := decide_eq_false (by omega)
        cases ring
        · have hE : Aside0 (chE n false i = ⟨2, ⟨#[]⟩, 1, [], [], []⟩) := ⟨by unfold chE; rw [if_neg h1]; rfl⟩
          go_wp2_with (first | (clear T1; go_at_call 8; go_loud (with_reducible refine (i_calls _ _).mono ?_); rintro e w3 ⟨rfl, hb3⟩; have HB3 := Aside0.mk (below_step hB.out hb3); have HN3 := Aside0.mk (Kd.N_below hN.out hb3); clear hb3; have T2 : True := trivial))
          obtain ⟨W0, hW0⟩ : ∃ W0, w3.alloc (.cells #[.int .i64 2, .string ⟨#[]⟩, .int .i64 1, .slice none 0 0, .slice none 0 0, .slice none 0 0] 29) = W0 := ⟨_, rfl⟩
          rw [hW0]
          have hb8 : Aside0 (W0.heap[w3.heap.size]? = some (.cells #[.int .i64 2, .string ⟨#[]⟩, .int .i64 1, .slice none 0 0, .slice none 0 0, .slice none 0 0] 29 (0, 0))) := ⟨by rw [← hW0]; exact blk_new w3 _⟩
          have hch : Below w3.heap.size w3 W0 := by rw [← hW0]; exact below_alloc (Below.refl _ _) _
          clear hW0
          have HB0 : Aside0 (Below w.heap.size w W0) := ⟨HB3.out.trans (hch.mono HB3.out.size)⟩
          have HN : Aside0 (Kd.N k34 34 W0 w.heap.size (fun _ => True) (.slice A i c) ((List.range i).map (chD n false))) := ⟨Kd.N_below HN3.out hch⟩
          obtain ⟨b8, hbe⟩ : ∃ b8, w3.heap.size = b8 := ⟨_, rfl⟩
          rw [hbe] at hb8 ⊢
          have HB_ : Below W0.heap.size W0 W0.drew := below_drew1 (Below.refl _ _)
          clear hch HB3 HN3 hN hB hbe
          refine start_ (n := 9) (S := fun w' => w'.cell? ⟨b8, 0, none⟩ = some (.int .i64 2) ∧ w'.cell? ⟨b8, 1, none⟩ = some (.string ⟨#[]⟩) ∧ w'.cell? ⟨b8, 2, none⟩ = some (.int .i64 1) ∧ w'.cell? ⟨b8, 3, none⟩ = some (.slice none 0 0) ∧ w'.cell? ⟨b8, 4, none⟩ = some (.slice none 0 0) ∧ w'.cell? ⟨b8, 5, none⟩ = some (.slice none 0 0)) (ds := []) #[false, false, false, false, false, false, false, false, false] (by kernel_rfl) rfl rfl ⟨(blk_cell (blk_below hb8.out HB_) 0).trans rfl, (blk_cell (blk_below hb8.out HB_) 1).trans rfl, (blk_cell (blk_below hb8.out HB_) 2).trans rfl, (blk_cell (blk_below hb8.out HB_) 3).trans rfl, (blk_cell (blk_below hb8.out HB_) 4).trans rfl, (blk_cell (blk_below hb8.out HB_) 5).trans rfl⟩ (fun hHeld => ?_)
          generalize W0.drew = W9 at *
          refine pure_ (i := 0) (N := some 36) (v := ?_) (a' := ?_) #[true, false, false, false, false, false, false, false, false] rfl rfl (by kernel_rfl) (fun _ _ _ h => h) (Or.inl ⟨by rfl, ?_⟩) ?_ ?_
          rotate_left
          · intro w'
            go_simp
            with_reducible rfl
          rotate_left
          · simp only [Act.put, List.setIfInBounds_toArray, List.set_cons_zero, List.set_cons_succ, i64_w, i32_w]
            rfl
          refine pure_ (i := 1) (N := some 37) (v := ?_) (a' := ?_) #[true, true, false, false, false, false, false, false, false] rfl rfl (by kernel_rfl) (fun _ _ _ h => h) (Or.inl ⟨by rfl, ?_⟩) ?_ ?_
          rotate_left
          · intro w'
            go_simp
            with_reducible rfl
          rotate_left
          · simp only [Act.put, List.setIfInBounds_toArray, List.set_cons_zero, List.set_cons_succ, i64_w, i32_w]
            rfl
          refine take_ (i := 4) (N := some 40) (v := ?_) (a' := ?_) #[true, true, false, false, true, false, false, false, false] rfl rfl (by kernel_rfl) (fun _ _ _ h => h) (Or.inl ⟨by rfl, ?_⟩) hHeld ?_ ?_
          rotate_left
          · rintro w' ⟨s0, s1, s2, s3, s4, s5⟩
            go_simp
            with_reducible rfl
          rotate_left
          · simp only [Act.put, List.setIfInBounds_toArray, List.set_cons_zero, List.set_cons_succ, i64_w, i32_w]
            rfl
          refine one_ (i := 2) (N := some 38) #[true, true, true, false, true, false, false, false, false] rfl rfl (by kernel_rfl) (by decide) (fun K hK => ?_)
          refine goes_ Tryd.func10 (by kernel_rfl) rfl #[.int .i64 (i : Int)] (by rfl) rfl rfl (by simp only [List.map_toArray, List.map_cons, List.map_nil]; rfl) ?_
          (with_reducible refine (num_calls i (by have := i100.out; omega) W9).mono ?_)
          rintro e w13 ⟨rfl, hbq⟩
          refine ⟨_, rfl, ?_⟩
          have HB3 := below_step HB_ hbq
          refine hK.out _ _ ⟨(blk_cell (blk_below hb8.out HB3) 0).trans rfl, (blk_cell (blk_below hb8.out HB3) 1).trans rfl, (blk_cell (blk_below hb8.out HB3) 2).trans rfl, (blk_cell (blk_below hb8.out HB3) 3).trans rfl, (blk_cell (blk_below hb8.out HB3) 4).trans rfl, (blk_cell (blk_below hb8.out HB3) 5).trans rfl⟩ (fun hHeld => ?_)
          clear hK K
          refine norm_ (a' := ?_) ?_ ?_
          rotate_left
          · show Act.put _ (some 38) _ = _
            simp only [Act.put, List.setIfInBounds_toArray, List.set_cons_zero, List.set_cons_succ, i64_w, i32_w]
            rfl
          refine pure_ (i := 3) (N := some 39) (v := ?_) (a' := ?_) #[true, true, true, true, true, false, false, false, false] rfl rfl (by kernel_rfl) (fun _ _ _ h => h) (Or.inl ⟨by rfl, ?_⟩) ?_ ?_
          rotate_left
          · intro w'
            go_simp
            with_reducible rfl
          rotate_left
          · simp only [Act.put, List.setIfInBounds_toArray, List.set_cons_zero, List.set_cons_succ, i64_w, i32_w]
            rfl
          refine one_ (i := 5) (N := some 41) #[true, true, true, true, true, true, false, false, false] rfl rfl (by kernel_rfl) (by decide) (fun K hK => ?_)
          refine goes_ Tryd.func11 (by kernel_rfl) rfl #[.string (⟨#[100]⟩ ++ numT i), .slice none 0 0, .agg #[.int .i64 2, .string ⟨#[]⟩, .int .i64 1, .slice none 0 0, .slice none 0 0, .slice none 0 0]] (by rfl) rfl rfl (by simp only [List.map_toArray, List.map_cons, List.map_nil]; rfl) ?_
          (with_reducible refine (d_calls _ w13).mono ?_)
          rintro e w14 ⟨rfl, hbq4⟩
          refine ⟨_, rfl, ?_⟩
          have HB4 := below_step HB3 hbq4
          refine hK.out _ _ ⟨(blk_cell (blk_below hb8.out HB4) 0).trans rfl, (blk_cell (blk_below hb8.out HB4) 1).trans rfl, (blk_cell (blk_below hb8.out HB4) 2).trans rfl, (blk_cell (blk_below hb8.out HB4) 3).trans rfl, (blk_cell (blk_below hb8.out HB4) 4).trans rfl, (blk_cell (blk_below hb8.out HB4) 5).trans rfl⟩ (fun hHeld => ?_)
          clear hK K
          refine norm_ (a' := ?_) ?_ ?_
          rotate_left
          · show Act.put _ (some 41) _ = _
            simp only [Act.put, List.setIfInBounds_toArray, List.set_cons_zero, List.set_cons_succ, i64_w, i32_w]
            rfl
          refine one_ (i := 6) (N := some 42) #[true, true, true, true, true, true, true, false, false] rfl rfl (by kernel_rfl) (by decide) (fun K hK => ?_)
          refine value_ (w1 := ?_) (v := ?_) (by rfl) rfl ?_ ?_
          rotate_left 2
          · go_simp
            constructor
            · rfl
            · rfl
          have HB5 := below_alloc HB4 (.cells #[.string (⟨#[100]⟩ ++ numT i), .slice none 0 0, .int .i64 2, .string ⟨#[]⟩, .int .i64 1, .slice none 0 0, .slice none 0 0, .slice none 0 0] 34)
          refine hK.out _ _ ⟨(blk_cell (blk_below hb8.out HB5) 0).trans rfl, (blk_cell (blk_below hb8.out HB5) 1).trans rfl, (blk_cell (blk_below hb8.out HB5) 2).trans rfl, (blk_cell (blk_below hb8.out HB5) 3).trans rfl, (blk_cell (blk_below hb8.out HB5) 4).trans rfl, (blk_cell (blk_below hb8.out HB5) 5).trans rfl⟩ (fun hHeld => ?_)
          clear hK K
          refine norm_ (a' := ?_) ?_ ?_
          rotate_left
          · show Act.put _ (some 42) _ = _
            simp only [Act.put, List.setIfInBounds_toArray, List.set_cons_zero, List.set_cons_succ, i64_w, i32_w]
            rfl
          refine one_ (i := 7) (N := some 43) #[true, true, true, true, true, true, true, true, false] rfl rfl (by kernel_rfl) (by decide) (fun K hK => ?_)
          refine Kd.N_append_rows_step k34 (w0 := w) w.heap.size (by rfl) (.tmp 36) (.tmp 42) 24 34 _ 144 rfl Tryd.underlying24 info34 rfl (by decide) (by decide) (.slice A i c) ((List.range i).map (chD n false)) [⟨⟨#[100]⟩ ++ numT i, [], ⟨2, ⟨#[]⟩, 1, [], [], []⟩⟩] (some ⟨w14.heap.size, 0, none⟩) 1 1 (fun _ => True) (fun k => k = w14.heap.size) rfl rfl (Kd.N_alloc (Kd.N_below HN.out HB4) _) (oneF w14 _ _ _ _) (fun k hk => ⟨trivial, fun e => by have := Kd.N_lt (Kd.N_below HN.out HB4) k e.symm; omega⟩) (fun _ _ => trivial) (below_alloc (HB0.out.trans (HB4.mono HB0.out.size)) _) ?_ ?_ ?_
          · exact Nat.le_trans HB0.out.size HB5.size
          · rw [List.length_map, List.length_range]; have := hn9.out; omega
          intro v15 w15 hn15 hb15 hg15 hat15
          have hb5 := blk_below hb8.out HB5
          have hbz := (hg15.block b8 (Array.getElem?_eq_some_iff.1 hb5).1 (Kd.N_ne (Kd.N_alloc (Kd.N_below HN.out HB4) _) hb5 (by decide))).trans hb5
          refine hK.out _ _ ⟨(blk_cell hbz 0).trans rfl, (blk_cell hbz 1).trans rfl, (blk_cell hbz 2).trans rfl, (blk_cell hbz 3).trans rfl, (blk_cell hbz 4).trans rfl, (blk_cell hbz 5).trans rfl⟩ (fun hHeld => ?_)
          clear hK K
          refine norm_ (a' := ?_) ?_ ?_
          rotate_left
          · show Act.put _ (some 43) _ = _
            simp only [Act.put, List.setIfInBounds_toArray, List.set_cons_zero, List.set_cons_succ, i64_w, i32_w]
            rfl
          refine pure_ (i := 8) (N := some 6) (v := ?_) (a' := ?_) #[true, true, true, true, true, true, true, true, true] rfl rfl (by kernel_rfl) (fun _ _ _ h => h) (Or.inl ⟨by rfl, ?_⟩) ?_ ?_
          rotate_left
          · intro w'
            go_simp
            with_reducible rfl
          rotate_left
          · simp only [Act.put, List.setIfInBounds_toArray, List.set_cons_zero, List.set_cons_succ, i64_w, i32_w]
            rfl
          refine done_ (by kernel_rfl) ?_
          clear hHeld
          obtain ⟨A5, c5, hv5⟩ := Kd.N_slice hn15
          rw [List.length_append, List.length_map, List.length_range, List.length_singleton] at hv5
          subst hv5
          have hN9 : Aside0 (Kd.N k34 34 w15 w.heap.size (fun _ => True) (.slice A5 (i + 1) c5) ((List.range (i + 1)).map (chD n false))) := ⟨by rw [List.range_succ, List.map_append]; have : [(⟨⟨#[100]⟩ ++ numT i, [], ⟨2, ⟨#[]⟩, 1, [], [], []⟩⟩ : S34)] = List.map (chD n false) [i] := (by rw [List.map_singleton]; unfold chD; rw [hE.out]; first | done | rfl); rw [← this]; exact hn15⟩
          have hB9 := Aside0.mk hb15
          clear hn15 hb15 hg15 hat15 hb5 hbz HB5 HB4 HB3 HB_ hbq hbq4
          go_wp2
          go_roundg (gk - 1)
          case measure => omega
          case rel => exact ⟨i + 1, A5, c5, rfl, by go_num, by omega, by omega, hN9, hB9⟩
        · have hE : Aside0 (chE n true i = ⟨1, ⟨#[100, 48]⟩, 0, [], [], []⟩) := ⟨by unfold chE; rw [if_neg h1]; rfl⟩
          go_wp2_with (first | (clear T1; go_at_call 8; go_loud (with_reducible refine (i_calls _ _).mono ?_); rintro e w3 ⟨rfl, hb3⟩; have HB3 := Aside0.mk (below_step hB.out hb3); have HN3 := Aside0.mk (Kd.N_below hN.out hb3); clear hb3; have T2 : True := trivial) | (clear T2; go_at_call 9; go_loud (with_reducible refine (v_calls _ _).mono ?_); rintro e w5 ⟨rfl, hb5⟩; have HB5 := hb5; have hfb := blk_below (blk_new w3 (.cells #[.int .i64 2, .string ⟨#[]⟩, .int .i64 1, .slice none 0 0, .slice none 0 0, .slice none 0 0] 29)) HB5; have HFB := Aside0.mk hfb; have hx0 := (blk_cell hfb 0).trans rfl; have hx1 := (blk_cell hfb 1).trans rfl; have hx2 := (blk_cell hfb 2).trans rfl; have hx3 := (blk_cell hfb 3).trans rfl; have hx4 := (blk_cell hfb 4).trans rfl; have hx5 := (blk_cell hfb 5).trans rfl; have hf0 := blk_frozen hfb 0; have hf1 := blk_frozen hfb 1; have hf2 := blk_frozen hfb 2; have hf3 := blk_frozen hfb 3; have hf4 := blk_frozen hfb 4; have hf5 := blk_frozen hfb 5; have HBV := Aside0.mk HB5; clear hfb; clear hb5 HB5; have T3 : True := trivial))
          clear hx0 hf0 hx1 hf1 hx2 hf2 hx3 hf3 hx4 hf4 hx5 hf5
          have hch0 : Below w3.heap.size w3 w5 := below_step (below_alloc (Below.refl _ _) _) HBV.out
          obtain ⟨W0, hW0⟩ : ∃ W0, ((((((w5.setCell ⟨w3.heap.size, 0, none⟩ (.int .i64 1)).setCell ⟨w3.heap.size, 1, none⟩ (.string ⟨#[100, 48]⟩)).setCell ⟨w3.heap.size, 2, none⟩ (.int .i64 0)).setCell ⟨w3.heap.size, 3, none⟩ (.slice none 0 0)).setCell ⟨w3.heap.size, 4, none⟩ (.slice none 0 0)).setCell ⟨w3.heap.size, 5, none⟩ (.slice none 0 0)) = W0 := ⟨_, rfl⟩
          rw [hW0]
          have hb8 : Aside0 (W0.heap[w3.heap.size]? = some (.cells #[.int .i64 1, .string ⟨#[100, 48]⟩, .int .i64 0, .slice none 0 0, .slice none 0 0, .slice none 0 0] 29 (0, 0))) := ⟨by rw [← hW0]; exact (blk_put (blk_put (blk_put (blk_put (blk_put (blk_put HFB.out 0 _ rfl) 1 _ rfl) 2 _ rfl) 3 _ rfl) 4 _ rfl) 5 _ rfl)⟩
          have hch : Below w3.heap.size w3 W0 := by rw [← hW0]; exact ((((((hch0.setCell (p := ⟨w3.heap.size, 0, none⟩) (Nat.le_refl _) _).setCell (p := ⟨w3.heap.size, 1, none⟩) (Nat.le_refl _) _).setCell (p := ⟨w3.heap.size, 2, none⟩) (Nat.le_refl _) _).setCell (p := ⟨w3.heap.size, 3, none⟩) (Nat.le_refl _) _).setCell (p := ⟨w3.heap.size, 4, none⟩) (Nat.le_refl _) _).setCell (p := ⟨w3.heap.size, 5, none⟩) (Nat.le_refl _) _)
          clear hW0 hch0
          have HB0 : Aside0 (Below w.heap.size w W0) := ⟨HB3.out.trans (hch.mono HB3.out.size)⟩
          have HN : Aside0 (Kd.N k34 34 W0 w.heap.size (fun _ => True) (.slice A i c) ((List.range i).map (chD n true))) := ⟨Kd.N_below HN3.out hch⟩
          obtain ⟨b8, hbe⟩ : ∃ b8, w3.heap.size = b8 := ⟨_, rfl⟩
          rw [hbe] at hb8 ⊢
          have HB_ : Below W0.heap.size W0 W0.drew := below_drew1 (Below.refl _ _)
          clear hch HB3 HN3 hN hB hbe
          refine start_ (n := 9) (S := fun w' => w'.cell? ⟨b8, 0, none⟩ = some (.int .i64 1) ∧ w'.cell? ⟨b8, 1, none⟩ = some (.string ⟨#[100, 48]⟩) ∧ w'.cell? ⟨b8, 2, none⟩ = some (.int .i64 0) ∧ w'.cell? ⟨b8, 3, none⟩ = some (.slice none 0 0) ∧ w'.cell? ⟨b8, 4, none⟩ = some (.slice none 0 0) ∧ w'.cell? ⟨b8, 5, none⟩ = some (.slice none 0 0)) (ds := []) #[false, false, false, false, false, false, false, false, false] (by kernel_rfl) rfl rfl ⟨(blk_cell (blk_below hb8.out HB_) 0).trans rfl, (blk_cell (blk_below hb8.out HB_) 1).trans rfl, (blk_cell (blk_below hb8.out HB_) 2).trans rfl, (blk_cell (blk_below hb8.out HB_) 3).trans rfl, (blk_cell (blk_below hb8.out HB_) 4).trans rfl, (blk_cell (blk_below hb8.out HB_) 5).trans rfl⟩ (fun hHeld => ?_)
          generalize W0.drew = W9 at *
          refine pure_ (i := 0) (N := some 36) (v := ?_) (a' := ?_) #[true, false, false, false, false, false, false, false, false] rfl rfl (by kernel_rfl) (fun _ _ _ h => h) (Or.inl ⟨by rfl, ?_⟩) ?_ ?_
          rotate_left
          · intro w'
            go_simp
            with_reducible rfl
          rotate_left
          · simp only [Act.put, List.setIfInBounds_toArray, List.set_cons_zero, List.set_cons_succ, i64_w, i32_w]
            rfl
          refine pure_ (i := 1) (N := some 37) (v := ?_) (a' := ?_) #[true, true, false, false, false, false, false, false, false] rfl rfl (by kernel_rfl) (fun _ _ _ h => h) (Or.inl ⟨by rfl, ?_⟩) ?_ ?_
          rotate_left
          · intro w'
            go_simp
            with_reducible rfl
          rotate_left
          · simp only [Act.put, List.setIfInBounds_toArray, List.set_cons_zero, List.set_cons_succ, i64_w, i32_w]
            rfl
          refine take_ (i := 4) (N := some 40) (v := ?_) (a' := ?_) #[true, true, false, false, true, false, false, false, false] rfl rfl (by kernel_rfl) (fun _ _ _ h => h) (Or.inl ⟨by rfl, ?_⟩) hHeld ?_ ?_
          rotate_left
          · rintro w' ⟨s0, s1, s2, s3, s4, s5⟩
            go_simp
            with_reducible rfl
          rotate_left
          · simp only [Act.put, List.setIfInBounds_toArray, List.set_cons_zero, List.set_cons_succ, i64_w, i32_w]
            rfl
          refine one_ (i := 2) (N := some 38) #[true, true, true, false, true, false, false, false, false] rfl rfl (by kernel_rfl) (by decide) (fun K hK => ?_)
          refine goes_ Tryd.func10 (by kernel_rfl) rfl #[.int .i64 (i : Int)] (by rfl) rfl rfl (by simp only [List.map_toArray, List.map_cons, List.map_nil]; rfl) ?_
          (with_reducible refine (num_calls i (by have := i100.out; omega) W9).mono ?_)
          rintro e w13 ⟨rfl, hbq⟩
          refine ⟨_, rfl, ?_⟩
          have HB3 := below_step HB_ hbq
          refine hK.out _ _ ⟨(blk_cell (blk_below hb8.out HB3) 0).trans rfl, (blk_cell (blk_below hb8.out HB3) 1).trans rfl, (blk_cell (blk_below hb8.out HB3) 2).trans rfl, (blk_cell (blk_below hb8.out HB3) 3).trans rfl, (blk_cell (blk_below hb8.out HB3) 4).trans rfl, (blk_cell (blk_below hb8.out HB3) 5).trans rfl⟩ (fun hHeld => ?_)
          clear hK K
          refine norm_ (a' := ?_) ?_ ?_
          rotate_left
          · show Act.put _ (some 38) _ = _
            simp only [Act.put, List.setIfInBounds_toArray, List.set_cons_zero, List.set_cons_succ, i64_w, i32_w]
            rfl
          refine pure_ (i := 3) (N := some 39) (v := ?_) (a' := ?_) #[true, true, true, true, true, false, false, false, false] rfl rfl (by kernel_rfl) (fun _ _ _ h => h) (Or.inl ⟨by rfl, ?_⟩) ?_ ?_
          rotate_left
          · intro w'
            go_simp
            with_reducible rfl
          rotate_left
          · simp only [Act.put, List.setIfInBounds_toArray, List.set_cons_zero, List.set_cons_succ, i64_w, i32_w]
            rfl
          refine one_ (i := 5) (N := some 41) #[true, true, true, true, true, true, false, false, false] rfl rfl (by kernel_rfl) (by decide) (fun K hK => ?_)
          refine goes_ Tryd.func11 (by kernel_rfl) rfl #[.string (⟨#[100]⟩ ++ numT i), .slice none 0 0, .agg #[.int .i64 1, .string ⟨#[100, 48]⟩, .int .i64 0, .slice none 0 0, .slice none 0 0, .slice none 0 0]] (by rfl) rfl rfl (by simp only [List.map_toArray, List.map_cons, List.map_nil]; rfl) ?_
          (with_reducible refine (d_calls _ w13).mono ?_)
          rintro e w14 ⟨rfl, hbq4⟩
          refine ⟨_, rfl, ?_⟩
          have HB4 := below_step HB3 hbq4
          refine hK.out _ _ ⟨(blk_cell (blk_below hb8.out HB4) 0).trans rfl, (blk_cell (blk_below hb8.out HB4) 1).trans rfl, (blk_cell (blk_below hb8.out HB4) 2).trans rfl, (blk_cell (blk_below hb8.out HB4) 3).trans rfl, (blk_cell (blk_below hb8.out HB4) 4).trans rfl, (blk_cell (blk_below hb8.out HB4) 5).trans rfl⟩ (fun hHeld => ?_)
          clear hK K
          refine norm_ (a' := ?_) ?_ ?_
          rotate_left
          · show Act.put _ (some 41) _ = _
            simp only [Act.put, List.setIfInBounds_toArray, List.set_cons_zero, List.set_cons_succ, i64_w, i32_w]
            rfl
          refine one_ (i := 6) (N := some 42) #[true, true, true, true, true, true, true, false, false] rfl rfl (by kernel_rfl) (by decide) (fun K hK => ?_)
          refine value_ (w1 := ?_) (v := ?_) (by rfl) rfl ?_ ?_
          rotate_left 2
          · go_simp
            constructor
            · rfl
            · rfl
          have HB5 := below_alloc HB4 (.cells #[.string (⟨#[100]⟩ ++ numT i), .slice none 0 0, .int .i64 1, .string ⟨#[100, 48]⟩, .int .i64 0, .slice none 0 0, .slice none 0 0, .slice none 0 0] 34)
          refine hK.out _ _ ⟨(blk_cell (blk_below hb8.out HB5) 0).trans rfl, (blk_cell (blk_below hb8.out HB5) 1).trans rfl, (blk_cell (blk_below hb8.out HB5) 2).trans rfl, (blk_cell (blk_below hb8.out HB5) 3).trans rfl, (blk_cell (blk_below hb8.out HB5) 4).trans rfl, (blk_cell (blk_below hb8.out HB5) 5).trans rfl⟩ (fun hHeld => ?_)
          clear hK K
          refine norm_ (a' := ?_) ?_ ?_
          rotate_left
          · show Act.put _ (some 42) _ = _
            simp only [Act.put, List.setIfInBounds_toArray, List.set_cons_zero, List.set_cons_succ, i64_w, i32_w]
            rfl
          refine one_ (i := 7) (N := some 43) #[true, true, true, true, true, true, true, true, false] rfl rfl (by kernel_rfl) (by decide) (fun K hK => ?_)
          refine Kd.N_append_rows_step k34 (w0 := w) w.heap.size (by rfl) (.tmp 36) (.tmp 42) 24 34 _ 144 rfl Tryd.underlying24 info34 rfl (by decide) (by decide) (.slice A i c) ((List.range i).map (chD n true)) [⟨⟨#[100]⟩ ++ numT i, [], ⟨1, ⟨#[100, 48]⟩, 0, [], [], []⟩⟩] (some ⟨w14.heap.size, 0, none⟩) 1 1 (fun _ => True) (fun k => k = w14.heap.size) rfl rfl (Kd.N_alloc (Kd.N_below HN.out HB4) _) (oneF w14 _ _ _ _) (fun k hk => ⟨trivial, fun e => by have := Kd.N_lt (Kd.N_below HN.out HB4) k e.symm; omega⟩) (fun _ _ => trivial) (below_alloc (HB0.out.trans (HB4.mono HB0.out.size)) _) ?_ ?_ ?_
          · exact Nat.le_trans HB0.out.size HB5.size
          · rw [List.length_map, List.length_range]; have := hn9.out; omega
          intro v15 w15 hn15 hb15 hg15 hat15
          have hb5 := blk_below hb8.out HB5
          have hbz := (hg15.block b8 (Array.getElem?_eq_some_iff.1 hb5).1 (Kd.N_ne (Kd.N_alloc (Kd.N_below HN.out HB4) _) hb5 (by decide))).trans hb5
          refine hK.out _ _ ⟨(blk_cell hbz 0).trans rfl, (blk_cell hbz 1).trans rfl, (blk_cell hbz 2).trans rfl, (blk_cell hbz 3).trans rfl, (blk_cell hbz 4).trans rfl, (blk_cell hbz 5).trans rfl⟩ (fun hHeld => ?_)
          clear hK K
          refine norm_ (a' := ?_) ?_ ?_
          rotate_left
          · show Act.put _ (some 43) _ = _
            simp only [Act.put, List.setIfInBounds_toArray, List.set_cons_zero, List.set_cons_succ, i64_w, i32_w]
            rfl
          refine pure_ (i := 8) (N := some 6) (v := ?_) (a' := ?_) #[true, true, true, true, true, true, true, true, true] rfl rfl (by kernel_rfl) (fun _ _ _ h => h) (Or.inl ⟨by rfl, ?_⟩) ?_ ?_
          rotate_left
          · intro w'
            go_simp
            with_reducible rfl
          rotate_left
          · simp only [Act.put, List.setIfInBounds_toArray, List.set_cons_zero, List.set_cons_succ, i64_w, i32_w]
            rfl
          refine done_ (by kernel_rfl) ?_
          clear hHeld
          obtain ⟨A5, c5, hv5⟩ := Kd.N_slice hn15
          rw [List.length_append, List.length_map, List.length_range, List.length_singleton] at hv5
          subst hv5
          have hN9 : Aside0 (Kd.N k34 34 w15 w.heap.size (fun _ => True) (.slice A5 (i + 1) c5) ((List.range (i + 1)).map (chD n true))) := ⟨by rw [List.range_succ, List.map_append]; have : [(⟨⟨#[100]⟩ ++ numT i, [], ⟨1, ⟨#[100, 48]⟩, 0, [], [], []⟩⟩ : S34)] = List.map (chD n true) [i] := (by rw [List.map_singleton]; unfold chD; rw [hE.out]; first | done | rfl); rw [← this]; exact hn15⟩
          have hB9 := Aside0.mk hb15
          clear hn15 hb15 hg15 hat15 hb5 hbz HB5 HB4 HB3 HB_ hbq hbq4
          go_wp2
          go_roundg (gk - 1)
          case measure => omega
          case rel => exact ⟨i + 1, A5, c5, rfl, by go_num, by omega, by omega, hN9, hB9⟩
    · have q1 : decide ((i : Int) < (n : Int)) = false := decide_eq_false (by omega)
      have hi2 : i = n := by omega
      subst hi2
      have T1 : True := trivial
      obtain ⟨o1, o2, o3⟩ := hpl.out
      replace o1 := Aside0.mk o1
      replace o2 := Aside0.mk o2
      replace o3 := Aside0.mk o3
      have hlA : Aside0 (i + 1 = (chA i ring).length) := ⟨by simp [chA, chL]⟩
      have w1 : wrap64 ((i : Int) + 1) = (i : Int) + 1 := by have := hn9.out; unfold wrap64; omega
      cases ring
      · have hRl : Aside0 (i + 1 = (chR i false).length) := ⟨by simp [chR]⟩
        go_wp2_with (first | (clear T1; go_at_call 9; go_loud (with_reducible refine (v_calls _ _).mono ?_); rintro e w3 ⟨rfl, hb3⟩; have HB3 := Aside0.mk (below_step hB.out hb3); have CM := mainC_calls w3 i false (by have := hn9.out; omega) (Kd.N_below hN.out hb3); clear hb3; have T2 : True := trivial) | (clear T2; go_at_call 12; go_loud (with_reducible refine (CM).mono ?_); rintro e w4 ⟨B1, B2, c2, rfl, hC4, hb4⟩; have K8 := Aside0.mk (blk_new w4 (.cells #[.slice B1 1 1, .slice B2 (i + 1) c2] 38 (0, 0))); have hal := below_alloc (Below.refl w4.heap.size w4) (.cells #[.slice B1 1 1, .slice B2 (i + 1) c2] 38); have HB5 := Aside0.mk (below_step (below_step HB3.out hb4) hal); have HC := Aside0.mk (Kd.C_below hC4 hal); have CG := groups3_calls (chA i false) o1.out o2.out (Ad := B1) (nd := 1) (cd := 1) (cf := c2) (i + 1) (i + 1) hlA.out hRl.out HC.out; clear hC4 hb4 hal CM; have T3 : True := trivial) | (clear T3; go_at_call 13; go_loud (with_reducible refine (CG).mono ?_); rintro e w5 ⟨G, cg, rfl, hgc, hC5, hb5⟩; have hk := blk_below K8.out hb5; have hx0 := (blk_cell hk 0).trans rfl; have hx1 := (blk_cell hk 1).trans rfl; have HG := Aside0.mk hC5; have HB6 := Aside0.mk (below_step HB5.out hb5); have CN := neededX (Ad := B1) (nd := 1) (cd := 1) (cf := c2) (chA i false) o1.out (i + 1) (i + 1) hlA.out i (i : Int) rfl (by have := hlA.out; omega) rfl o3.out.symm (Kd.C_below HC.out hb5); clear hC5 hb5 hk CG; have T4 : True := trivial) | (clear T4; go_at_call 14; go_loud (with_reducible refine (CN).mono ?_); rintro e w6 ⟨A6, c6, rfl, hc6, hC6, hb6⟩; have HB7 := Aside0.mk (below_step HB6.out hb6); have hgb := Aside0.mk hb6; have hrow := row_at hb6 HG.out i (x := [(i : Int)]) (m := 1) (by simp [chR]) rfl; obtain ⟨adg, G1, d1, rfl, hx2, hC2, hd2⟩ := hrow; have hi1 : 1 ≤ i := (hn9.out.1); have w2 : wrap64 (i : Int) = (i : Int) := (by have := hn9.out; unfold wrap64; omega); have p0 : (0 : Int) ≤ (i : Int) := (by omega); have q0 : (i : Int) < (i : Int) + 1 := (by omega); have CS := same1_calls (i : Int) (w6.alloc (.cells #[.int .i64 (i : Int)] 3)) (Kd.C_alloc hC2 _) hd2 (c_ints [(i : Int)] (blk_new w6 _) (by simp)) (Nat.le_refl _); clear hb6 hC6 CN; have T5 : True := trivial) | (clear T5; go_at_call 15; go_loud (with_reducible refine (CS).mono ?_); rintro e w7 ⟨rfl, hd7⟩; have hb7 := below_step (below_alloc (Below.refl w6.heap.size w6) (.cells #[.int .i64 (i : Int)] 3)) hd7.below; have HB8 := Aside0.mk (below_step HB7.out hb7); have hg7 := Aside0.mk (below_step hgb.out hb7); clear hd7 hb7 CS; have T6 : True := trivial))
        clear hx0 hx1 hx2 hC2
        have z7 : (((i : Int) + 1 == 0) : Bool) = false := beq_eq_false_iff_ne.2 (by omega)
        simp only [w1, z7]
        go_loopg [12] (i + 1) (fun kq v12 w' => ∃ (j : Nat), v12 = .int .i64 (j : Int) ∧ j + kq = i + 1 ∧ 1 ≤ kq ∧ Aside0 (Below w5.heap.size w5 w') ∧ Aside0 (Below w.heap.size w w'))
        case atStart => exact ⟨0, rfl, by omega, by omega, hg7, HB8⟩
        case round =>
          clear hg7 HB8 w2
          obtain ⟨j, rfl, hj1, hj2, hgj, hBj⟩ := hrel
          by_cases hlj : j < i
          · obtain ⟨x, hxe⟩ : ∃ x : Int, x = ((i - 1 - j : Nat) : Int) := ⟨_, rfl⟩
            have hrow := row_at hgj.out HG.out j (x := [x]) (m := 1) (by subst hxe; simp [chR, List.getElem?_append_left, hlj]) rfl
            obtain ⟨ad', G2, d2, e2, hx2, hC2, hd3⟩ := hrow
            obtain rfl := Option.some.inj e2
            have q5 : decide ((j : Int) < (i : Int)) = true := decide_eq_true (by omega)
            have pj0 : (0 : Int) ≤ (j : Int) := (by omega)
            have pj1 : (j : Int) < (i : Int) + 1 := (by omega)
            have s1 : wrap64 ((i : Int) - 1) = (i : Int) - 1 := (by have := hn9.out; unfold wrap64; omega)
            have s2 : wrap64 ((i : Int) - 1 - (j : Int)) = x := (by have := hn9.out; unfold wrap64; omega)
            have hwj : wrap64 ((j : Int) + 1) = (j : Int) + 1 := (by have := hn9.out; unfold wrap64; omega)
            replace hxe := Aside0.mk hxe
            have CS := same1_calls x (wr.alloc (.cells #[.int .i64 x] 3)) (Kd.C_alloc hC2 _) hd3 (c_ints [x] (blk_new wr _) (by simp)) (Nat.le_refl _)
            go_wp2_with (first | (go_at_call 15; go_loud (with_reducible refine CS.mono ?_); rintro e w7 ⟨rfl, hd7⟩; have hb7 := below_step (below_alloc (Below.refl wr.heap.size wr) (.cells #[.int .i64 x] 3)) hd7.below; have HBz := Aside0.mk (below_step hBj.out hb7); have hgz := Aside0.mk (below_step hgj.out hb7); clear hd7 hb7 CS))
            clear s1 s2 q5 pj0 pj1
            have hjn : Value.int .i64 (wrap64 ((j : Int) + 1)) = .int .i64 ((j + 1 : Nat) : Int) := by rw [hwj]; rfl
            clear hwj
            go_roundg (gk - 1)
            case measure => clear hjn; omega
            case rel => exact ⟨j + 1, hjn, by clear hjn; omega, by clear hjn; omega, hgz, HBz⟩
          · have q5 : decide ((j : Int) < (i : Int)) = false := decide_eq_false (by omega)
            go_wp2
            go_ret
            exact ⟨rfl, hBj.out⟩
      · have hRl : Aside0 (2 = (chR i true).length) := ⟨by simp [chR]⟩
        go_wp2_with (first | (clear T1; go_at_call 9; go_loud (with_reducible refine (v_calls _ _).mono ?_); rintro e w3 ⟨rfl, hb3⟩; have HB3 := Aside0.mk (below_step hB.out hb3); have CM := mainC_calls w3 i true (by have := hn9.out; omega) (Kd.N_below hN.out hb3); clear hb3; have T2 : True := trivial) | (clear T2; go_at_call 12; go_loud (with_reducible refine (CM).mono ?_); rintro e w4 ⟨B1, B2, c2, rfl, hC4, hb4⟩; have K8 := Aside0.mk (blk_new w4 (.cells #[.slice B1 1 1, .slice B2 (i + 1) c2] 38 (0, 0))); have hal := below_alloc (Below.refl w4.heap.size w4) (.cells #[.slice B1 1 1, .slice B2 (i + 1) c2] 38); have HB5 := Aside0.mk (below_step (below_step HB3.out hb4) hal); have HC := Aside0.mk (Kd.C_below hC4 hal); have CG := groups3_calls (chA i true) o1.out o2.out (Ad := B1) (nd := 1) (cd := 1) (cf := c2) (i + 1) 2 hlA.out hRl.out HC.out; clear hC4 hb4 hal CM; have T3 : True := trivial) | (clear T3; go_at_call 13; go_loud (with_reducible refine (CG).mono ?_); rintro e w5 ⟨G, cg, rfl, hgc, hC5, hb5⟩; have hk := blk_below K8.out hb5; have hx0 := (blk_cell hk 0).trans rfl; have hx1 := (blk_cell hk 1).trans rfl; have HG := Aside0.mk hC5; have HB6 := Aside0.mk (below_step HB5.out hb5); have CN := neededX (Ad := B1) (nd := 1) (cd := 1) (cf := c2) (chA i true) o1.out (i + 1) (i + 1) hlA.out i (i : Int) rfl (by have := hlA.out; omega) rfl o3.out.symm (Kd.C_below HC.out hb5); clear hC5 hb5 hk CG; have T4 : True := trivial) | (clear T4; go_at_call 14; go_loud (with_reducible refine (CN).mono ?_); rintro e w6 ⟨A6, c6, rfl, hc6, hC6, hb6⟩; have HB7 := Aside0.mk (below_step HB6.out hb6); have hgb := Aside0.mk hb6; have hrow := row_at hb6 HG.out 1 (x := [(i : Int)]) (m := 1) (by simp [chR]) rfl; obtain ⟨adg, G1, d1, rfl, hx2, hC2, hd2⟩ := hrow; rw [add_n adg 1 (by omega)] at hx2; have hrow := row_at hb6 HG.out 0 (x := (List.range i).map (fun i : Nat => (i : Int))) (m := i) (by simp [chR]) (by simp); obtain ⟨ad', G0, d0, e0, hx3, hC3, hd3⟩ := hrow; obtain rfl := Option.some.inj e0; rw [show (adg.add 0) = adg by simp [Addr.add]] at hx3; have CS := same1_calls (i : Int) (w6.alloc (.cells #[.int .i64 (i : Int)] 3)) (Kd.C_alloc hC2 _) hd2 (c_ints [(i : Int)] (blk_new w6 _) (by simp)) (Nat.le_refl _); clear hb6 hC6 CN; have T5 : True := trivial) | (clear T5; go_at_call 15; go_loud (with_reducible refine (CS).mono ?_); rintro e w7 ⟨rfl, hd7⟩; have hb7 := below_step (below_alloc (Below.refl w6.heap.size w6) (.cells #[.int .i64 (i : Int)] 3)) hd7.below; have HB8 := Aside0.mk (below_step HB7.out hb7); have hg7 := Aside0.mk (below_step hgb.out hb7); have hx4 := (hb7.cell (World.block_lt_of_cell? _ _ hx3)).trans hx3; clear hd7 hb7 CS; have T6 : True := trivial))
        go_ret
        exact ⟨rfl, HB8.out⟩
end Go.Proofs.YtlgpoigbadajnaaDoor.DepA
