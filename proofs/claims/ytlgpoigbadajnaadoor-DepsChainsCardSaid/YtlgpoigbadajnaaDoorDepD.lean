/- deps.rising, deps.Uses. No condition beyond those that each states. -/
import Derived.Test.YtlgpoigbadajnaaDoorDepC
namespace Go.Proofs.YtlgpoigbadajnaaDoor.DepA
open Go.RowKit Go.Proofs.YtlgpoigbadajnaaDoorW.PrintWords Go.Proofs.YtlgpoigbadajnaaDoorW.PrintLast Go.Proofs.YtlgpoigbadajnaaDoorW.PrintMore Go.Proofs.YtlgpoigbadajnaaDoor.PDepA
set_option linter.unusedVariables false
set_option linter.unusedSimpArgs false
theorem infI : (Tryd.prog.info? 3).map (fun i => (i.zero, i.size, i.bytes)) = some (some (.int .i64 0), 1, 8) := by kernel_rfl
abbrev kI : Kd Int := Kd.int .i64
theorem at_int {w : World} {A : Option Addr} {n : Nat} {xs : List Int} (h : Kd.C kI w A n xs) (i : Nat) (hi : i < xs.length) (hn : i < n) : ∃ ad, A = some ad ∧ w.cell? (ad.add i) = some (.int .i64 xs[i]) := by
  obtain ⟨ad, c, e, _, hK, hc⟩ := Kd.C_get h (0 : Int) (i : Int) (by omega) (by omega)
  have hK' : c = [.int .i64 (xs.getD i 0)] := hK
  subst hK'
  refine ⟨ad, e, ?_⟩
  have := hc 0 _ rfl
  have hsz : kI.sz = 1 := rfl
  rw [hsz, Int.toNat_natCast, Nat.mul_one, Nat.add_zero] at this
  rw [this]
  simp [hi]
/-- The places among so many. -/
def ris (g : Int → Int) : Nat → Nat → List Int
  | 0, _ => []
  | k + 1, i => if 0 < g (i : Int) then (i : Int) :: ris g k (i + 1) else ris g k (i + 1)
theorem ris_len (g : Int → Int) : ∀ (k i : Nat), (ris g k i).length ≤ k
  | 0, i => Nat.le_refl _
  | k + 1, i => by
    have := ris_len g k (i + 1)
    simp only [ris]
    split
    · simp only [List.length_cons]; omega
    · omega
set_option maxHeartbeats 4000000 in
set_option maxRecDepth 100000 in
theorem rising_calls {W : World} {hb nh : Nat} {g : Int → Int} (h : MapN W hb nh g) (n : Nat) (hn : n ≤ 1000000000000) :
    Calls Tryd.prog 31 #[.int .i64 (n : Int), .map (some hb)] W fun e w' => ∃ v0_ : Value, e = .returned v0_ ∧ Kd.R kI 3 w' W.heap.size (fun _ => True) v0_ (ris g n 0) ∧ Below W.heap.size W w' := by
  have h9 := Aside0.mk h
  clear h
  go_enter Tryd.func31, Tryd.ntmps31
  go_wp2
  go_loopg [5, 8] (n + 1) (fun kq v5 v8 w' => ∃ (i : Nat) (A1 : Option Addr) (c1 m1 : Nat) (xs : List Int), v5 = .slice A1 m1 c1 ∧ v8 = .int .i64 (i : Int) ∧ i + kq = n + 1 ∧ 1 ≤ kq ∧ Aside0 (m1 = xs.length ∧ xs.length ≤ i) ∧ Aside0 (xs ++ ris g (n - i) i = ris g n 0) ∧ Aside0 (Kd.R kI 3 w' W.heap.size (fun _ => True) (.slice A1 m1 c1) xs) ∧ Aside0 (Below W.heap.size W w'))
  case atStart => exact ⟨0, none, 0, 0, [], rfl, rfl, by omega, by omega, ⟨rfl, Nat.le_refl _⟩, ⟨rfl⟩, ⟨Kd.R_nil _ _ _ _ _⟩, ⟨Below.refl _ _⟩⟩
  case round =>
    obtain ⟨i, A1, c1, m1, xs, rfl, rfl, hi, hk, hm, hs, hR, hBr⟩ := hrel
    by_cases hlt : i < n
    · have q1 : decide ((i : Int) < (n : Int)) = true := decide_eq_true (by omega)
      have hlk := (h9.out.of_block (hBr.out.block _ h9.out.lt)).look (show WF (i : Int) from ⟨by omega, by omega⟩)
      have hst : ris g (n - i) i = if 0 < g (i : Int) then (i : Int) :: ris g (n - (i + 1)) (i + 1) else ris g (n - (i + 1)) (i + 1) := by
        rw [show n - i = (n - (i + 1)) + 1 by omega]; rfl
      generalize g (i : Int) = gi at *
      have hL : Aside0 ((xs.length + 1) * 8 ≤ 140737488355328) := ⟨by have := hm.out; omega⟩
      by_cases y1 : 0 < gi
      · have q2 : decide (0 < gi) = true := decide_eq_true y1
        have hs2 : Aside0 ((xs ++ [(i : Int)]) ++ ris g (n - (i + 1)) (i + 1) = ris g n 0) := ⟨by rw [← hs.out, hst, if_pos y1, List.append_assoc]; rfl⟩
        clear hst
        go_wp2_with (first | ((with_reducible refine gate_builtin (b := .append) (xs := #[.tmp 15, .tmp 17]) rfl ?_); at_builtin; go_loud (refine Kd.R_append kI (w0 := W) W.heap.size rfl (.tmp 15) (.tmp 17) 42 3 (.int .i64 0) 8 rfl Tryd.underlying42 infI rfl (by decide) (by decide) (.slice A1 m1 c1) xs (i : Int) [.int .i64 (i : Int)] (fun _ => True) (fun _ => False) rfl rfl ?aP (fun _ hk => hk.elim) (fun _ _ => trivial) ?aO ?aB ?aS ?aL ?_); (case aP => exact rfl); (case aO => exact hR.out); (case aB => exact hBr.out); (case aS => exact hBr.out.size); (case aL => exact hL.out); intro v3 w3 hr3 hb3 hg3 hat3; obtain ⟨A3, c3, hv3⟩ := Kd.R_slice hr3; rw [List.length_append, List.length_singleton] at hv3; subst hv3; have hr3 := Aside0.mk hr3; have hb3 := Aside0.mk hb3; clear hg3 hat3))
        go_roundg (gk - 1)
        case measure => omega
        case rel => exact ⟨i + 1, A3, c3, _, xs ++ [(i : Int)], rfl, by go_num, by omega, by omega, ⟨by simp, by have := hm.out; simp; omega⟩, hs2, hr3, hb3⟩
      · have q2 : decide (0 < gi) = false := decide_eq_false y1
        have hs2 : Aside0 (xs ++ ris g (n - (i + 1)) (i + 1) = ris g n 0) := ⟨by rw [← hs.out, hst, if_neg y1]⟩
        clear hst
        go_wp2
        go_roundg (gk - 1)
        case measure => omega
        case rel => exact ⟨i + 1, A1, c1, m1, xs, rfl, by go_num, by omega, by omega, ⟨hm.out.1, by have := hm.out; omega⟩, hs2, hR, hBr⟩
    · have q1 : decide ((i : Int) < (n : Int)) = false := decide_eq_false (by omega)
      have hfin : Aside0 (Kd.R kI 3 wr W.heap.size (fun _ => True) (.slice A1 m1 c1) (ris g n 0)) := ⟨by
        have h1 := hs.out
        rw [show n - i = 0 by omega] at h1
        simp only [ris, List.append_nil] at h1
        rw [← h1]
        exact hR.out⟩
      go_wp2
      go_ret
      exact ⟨_, rfl, hfin.out, hBr.out⟩
/-! ### Uses -/
def okD (d : S34) : Bool := nsz d.f1 && okE d.f2 && decide (d.f1.length + cost d.f2 ≤ 10000000000) && decide (d.f0.size ≤ 140737488351232)
def usesL (ds : List S34) (k : Nat) : List Int := match ds[k]? with
  | some d => ris (memN (fx ds d.f2 (d.f1 ++ []) [])) ds.length 0
  | none => []
theorem empties : (cnt [] = fun _ => 0) ∧ (memN [] = fun _ => 0) := ⟨by funext s; rfl, by funext s; rfl⟩
set_option maxHeartbeats 8000000 in
set_option maxRecDepth 100000 in
theorem uses_calls {w : World} (ds : List S34) {Ad Af : Option Addr} {nd cd cf : Nat} (hC : Kd.C k34 w Af ds.length ds) (k : Nat) (hk : k < ds.length) (hok : okD ds[k] = true) (hl : ds.length ≤ 1000000) :
    Calls Tryd.prog 19 #[.agg #[.slice Ad nd cd, .slice Af ds.length cf], .int .i64 (k : Int)] w fun e w' => ∃ v0_ : Value, e = .returned v0_ ∧ Kd.R kI 3 w' w.heap.size (fun _ => True) v0_ (usesL ds k) ∧ Below w.heap.size w w' := by
  have hmm := @run_makeMap Tryd.prog
  have E : ∀ W : World, ∀ o : Obj, (W.alloc o).heap.size = W.heap.size + 1 := fun W o => Array.size_push _
  obtain ⟨ad, A1, c1, A3, c3, A4, c4, A5, c5, rfl, _, u1, u2, u3, u4, u5, u6, u7, g1, g3, g4, g5⟩ := at_d (Below.refl _ _) hC k hk
  have hcells : ∀ w2 : World, Below w.heap.size w w2 → w2.cell? ⟨(ad.add (k * 8)).block, (ad.add (k * 8)).off + 1, none⟩ = some (.slice A1 ds[k].f1.length c1) ∧ w2.cell? ⟨(ad.add (k * 8)).block, (ad.add (k * 8)).off + 2, none⟩ = some (.int .i64 ds[k].f2.f0) ∧ w2.cell? ⟨(ad.add (k * 8)).block, (ad.add (k * 8)).off + 3, none⟩ = some (.string ds[k].f2.f1) ∧ w2.cell? ⟨(ad.add (k * 8)).block, (ad.add (k * 8)).off + 4, none⟩ = some (.int .i64 ds[k].f2.f2) ∧ w2.cell? ⟨(ad.add (k * 8)).block, (ad.add (k * 8)).off + 5, none⟩ = some (.slice A3 ds[k].f2.f3.length c3) ∧ w2.cell? ⟨(ad.add (k * 8)).block, (ad.add (k * 8)).off + 6, none⟩ = some (.slice A4 ds[k].f2.f4.length c4) ∧ w2.cell? ⟨(ad.add (k * 8)).block, (ad.add (k * 8)).off + 7, none⟩ = some (.slice A5 ds[k].f2.f5.length c5) := by
    intro w2 hb2
    have T : ∀ {a : Addr} {u : Value}, w.cell? a = some u → w2.cell? a = some u := fun h => (hb2.cell (World.block_lt_of_cell? _ _ h)).trans h
    exact ⟨T u1, T u2, T u3, T u4, T u5, T u6, T u7⟩
  clear u1 u2 u3 u4 u5 u6 u7
  have hu : usesL ds k = ris (memN (fx ds ds[k].f2 (ds[k].f1 ++ []) [])) ds.length 0 := by unfold usesL; rw [List.getElem?_eq_getElem hk]
  rw [hu]
  clear hu
  generalize ds[k] = d at *
  unfold okD at hok
  simp only [Bool.and_eq_true, decide_eq_true_eq] at hok
  obtain ⟨⟨⟨hok1, hok2⟩, hok3⟩, _⟩ := hok
  have hb4 : Below w.heap.size w ((((w.alloc (.cells #[.slice Ad nd cd, .slice (some ad) ds.length cf] 38)).alloc (.map #[] 0)).alloc (.map #[] 0)).alloc (.cells #[.slice Ad nd cd, .slice (some ad) ds.length cf, .map (some (w.heap.size + 1)), .map (some (w.heap.size + 1 + 1))] 81)) := below_alloc (below_alloc (below_alloc (below_alloc (Below.refl _ _) _) _) _) _
  have hF : FS ((((w.alloc (.cells #[.slice Ad nd cd, .slice (some ad) ds.length cf] 38)).alloc (.map #[] 0)).alloc (.map #[] 0)).alloc (.cells #[.slice Ad nd cd, .slice (some ad) ds.length cf, .map (some (w.heap.size + 1)), .map (some (w.heap.size + 1 + 1))] 81)) w.heap.size (w.heap.size + 1 + 1 + 1) (w.heap.size + 1) (w.heap.size + 1 + 1) (.slice Ad nd cd) (.slice (some ad) ds.length cf) 0 0 (cnt []) (memN []) := by
    refine ⟨?_, ?_, ?_, ⟨by omega, by omega, by omega⟩, by omega⟩
    · have h := blk_new (((w.alloc (.cells #[.slice Ad nd cd, .slice (some ad) ds.length cf] 38)).alloc (.map #[] 0)).alloc (.map #[] 0)) (.cells #[.slice Ad nd cd, .slice (some ad) ds.length cf, .map (some (w.heap.size + 1)), .map (some (w.heap.size + 1 + 1))] 81 (0, 0))
      rwa [E, E, E] at h
    · rw [empties.1]
      have h := MapS.made (w.alloc (.cells #[.slice Ad nd cd, .slice (some ad) ds.length cf] 38))
      rw [E] at h
      have h2 : w.heap.size + 1 < ((w.alloc (.cells #[.slice Ad nd cd, .slice (some ad) ds.length cf] 38)).alloc (.map #[] 0)).heap.size := by rw [E, E]; omega
      exact h.of_block ((Below.heap_alloc _ _ _ (by rw [E, E, E]; omega)).trans (Below.heap_alloc _ _ _ h2))
    · rw [empties.2]
      have h := MapN.made ((w.alloc (.cells #[.slice Ad nd cd, .slice (some ad) ds.length cf] 38)).alloc (.map #[] 0))
      rw [E, E] at h
      exact h.of_block (Below.heap_alloc _ _ _ (by rw [E, E, E]; omega))
  have hPb : ((((w.alloc (.cells #[.slice Ad nd cd, .slice (some ad) ds.length cf] 38)).alloc (.map #[] 0)).alloc (.map #[] 0)).alloc (.cells #[.slice Ad nd cd, .slice (some ad) ds.length cf, .map (some (w.heap.size + 1)), .map (some (w.heap.size + 1 + 1))] 81)).heap[w.heap.size]? = some (.cells #[.slice Ad nd cd, .slice (some ad) ds.length cf] 38 (0, 0)) := by
    have h := blk_new w (.cells #[.slice Ad nd cd, .slice (some ad) ds.length cf] 38 (0, 0))
    exact (Below.heap_alloc _ _ _ (by rw [E, E, E]; omega)).trans ((Below.heap_alloc _ _ _ (by rw [E, E]; omega)).trans ((Below.heap_alloc _ _ _ (by rw [E]; omega)).trans h))
  have hnP : ¬ FP (w.heap.size + 1 + 1 + 1) (w.heap.size + 1) (w.heap.size + 1 + 1) w.heap.size := by unfold FP; omega
  have hv1 := (hcells _ hb4).1
  have CB := bind_st hF (Mod.refl _ (FP (w.heap.size + 1 + 1 + 1) (w.heap.size + 1) (w.heap.size + 1 + 1))) hb4 d.f1 g1 (c := c1) hok1 1 (by decide) (addk_in d.f1 []) (by simp; omega) (by omega)
  have hcells := Aside0.mk hcells
  have hF9 := Aside0.mk hF
  have hb9 := Aside0.mk hb4
  have hP9 := Aside0.mk hPb
  have hn9 := Aside0.mk hnP
  have hC9 := Aside0.mk hC
  have hs9 : Aside0 (w.heap.size ≤ ((((w.alloc (.cells #[.slice Ad nd cd, .slice (some ad) ds.length cf] 38)).alloc (.map #[] 0)).alloc (.map #[] 0)).alloc (.cells #[.slice Ad nd cd, .slice (some ad) ds.length cf, .map (some (w.heap.size + 1)), .map (some (w.heap.size + 1 + 1))] 81)).heap.size) := ⟨hb4.size⟩
  have hok2 := Aside0.mk hok2
  have hok3 := Aside0.mk hok3
  have hg9 := Aside0.mk (And.intro g3 (And.intro g4 g5))
  have p1 : decide ((k : Int) < 0) = false := decide_eq_false (by omega)
  have p2 : decide ((ds.length : Int) ≤ (k : Int)) = false := decide_eq_false (by omega)
  have p3 : (0 : Int) ≤ (k : Int) := by omega
  have p4 : (k : Int) < (ds.length : Int) := by omega
  clear hC hb4 hF hPb hnP g1 g3 g4 g5 hok1
  go_enter Tryd.func19, Tryd.ntmps19
  go_wp2_with (first | (go_at_call 43; go_loud (with_reducible refine CB.mono ?_); rintro r w5 ⟨rfl, hst5⟩; have HS5 := Aside0.mk hst5; have hbw5 := hb9.out.trans (St.below hst5 hF9.out hs9.out); have hx5 := (blk_cell (St.blk hst5 hP9.out hn9.out) 1).trans rfl; obtain ⟨_, hy2, hy3, hy4, hy5, hy6, hy7⟩ := hcells.out w5 hbw5; have CX := step_x (expr_calls hC9.out (cost d.f2) d.f2 (Nat.le_refl _)) hF9.out hb9.out hs9.out hst5 hok2.out (by have := hok3.out; simp; omega) (by have := hok3.out; omega) (by have := hok3.out; omega) hg9.out.1 hg9.out.2.1 hg9.out.2.2 c3 c4 c5; clear hst5 hbw5 CB hv1) | (go_at_call 44; go_loud (with_reducible refine CX.mono ?_); rintro r w6 ⟨rfl, hst6⟩; have HS6 := Aside0.mk hst6; clear hst6 CX hx5 hy2 hy3 hy4 hy5 hy6 hy7))
  have hbw6 := Aside0.mk (hb9.out.trans (St.below HS6.out hF9.out hs9.out))
  have hPw6 := Aside0.mk (St.blk HS6.out hP9.out hn9.out)
  obtain ⟨na6, nh6, hF6, _⟩ := HS6.out
  have hF6 : Aside0 (FS w6.drew w.heap.size (w.heap.size + 1 + 1 + 1) (w.heap.size + 1) (w.heap.size + 1 + 1) (.slice Ad nd cd) (.slice (some ad) ds.length cf) na6 nh6 (cnt (d.f1 ++ [])) (memN (fx ds d.f2 (d.f1 ++ []) []))) := ⟨hF6.below (below_drew1 (Below.refl _ _))⟩
  have hbd6 : Aside0 (Below w.heap.size w w6.drew) := ⟨below_drew1 hbw6.out⟩
  have X1 : Aside0 (w6.drew.cell? ⟨w.heap.size, 1, none⟩ = some (.slice (some ad) ds.length cf)) := ⟨(blk_cell hPw6.out 1).trans rfl⟩
  have X3 : Aside0 (w6.drew.cell? ⟨w.heap.size + 1 + 1 + 1, 3, none⟩ = some (.map (some (w.heap.size + 1 + 1)))) := ⟨hF6.out.cells.2.2.2⟩
  clear HS6 hPw6 hbw6
  refine start_ (n := 9) (S := fun w' => w'.cell? ⟨w.heap.size, 1, none⟩ = some (.slice (some ad) ds.length cf) ∧ w'.cell? ⟨w.heap.size + 1 + 1 + 1, 3, none⟩ = some (.map (some (w.heap.size + 1 + 1)))) (ds := []) #[false, false, false, false, false, false, false, false, false] (by kernel_rfl) rfl rfl ⟨X1.out, X3.out⟩ (fun hHeld => ?_)
  generalize w6.drew = W9 at *
  refine pure_ (i := 0) (N := some 36) (v := ?_) (a' := ?_) #[true, false, false, false, false, false, false, false, false] rfl rfl (by kernel_rfl) (fun _ _ _ h => h) (Or.inl ⟨by rfl, ?_⟩) ?_ ?_
  rotate_left
  · intro w'
    go_simp
    with_reducible rfl
  rotate_left
  · simp only [Act.put, List.setIfInBounds_toArray, List.set_cons_zero, List.set_cons_succ, i64_w, i32_w]
    rfl
  refine pure_ (i := 3) (N := some 39) (v := ?_) (a' := ?_) #[true, false, false, true, false, false, false, false, false] rfl rfl (by kernel_rfl) (fun _ _ _ h => h) (Or.inl ⟨by rfl, ?_⟩) ?_ ?_
  rotate_left
  · intro w'
    go_simp
    with_reducible rfl
  rotate_left
  · simp only [Act.put, List.setIfInBounds_toArray, List.set_cons_zero, List.set_cons_succ, i64_w, i32_w]
    rfl
  refine pure_ (i := 4) (N := some 40) (v := ?_) (a' := ?_) #[true, false, false, true, true, false, false, false, false] rfl rfl (by kernel_rfl) (fun _ _ _ h => h) (Or.inl ⟨by rfl, ?_⟩) ?_ ?_
  rotate_left
  · intro w'
    go_simp
    with_reducible rfl
  rotate_left
  · simp only [Act.put, List.setIfInBounds_toArray, List.set_cons_zero, List.set_cons_succ, i64_w, i32_w]
    rfl
  refine pure_ (i := 5) (N := some 41) (v := ?_) (a' := ?_) #[true, false, false, true, true, true, false, false, false] rfl rfl (by kernel_rfl) (fun _ _ _ h => h) (Or.inl ⟨by rfl, ?_⟩) ?_ ?_
  rotate_left
  · intro w'
    go_simp
    with_reducible rfl
  rotate_left
  · simp only [Act.put, List.setIfInBounds_toArray, List.set_cons_zero, List.set_cons_succ, i64_w, i32_w]
    rfl
  refine take_ (i := 1) (N := some 37) (v := ?_) (a' := ?_) #[true, true, false, true, true, true, false, false, false] rfl rfl (by kernel_rfl) (fun _ _ _ h => h) (Or.inl ⟨by rfl, ?_⟩) hHeld ?_ ?_
  rotate_left
  · rintro w' ⟨s0, s1⟩
    go_simp
    with_reducible rfl
  rotate_left
  · simp only [Act.put, List.setIfInBounds_toArray, List.set_cons_zero, List.set_cons_succ, i64_w, i32_w]
    rfl
  refine pure_ (i := 2) (N := some 38) (v := ?_) (a' := ?_) #[true, true, true, true, true, true, false, false, false] rfl rfl (by kernel_rfl) (fun _ _ _ h => h) (Or.inl ⟨by rfl, ?_⟩) ?_ ?_
  rotate_left
  · intro w'
    go_simp
    with_reducible rfl
  rotate_left
  · simp only [Act.put, List.setIfInBounds_toArray, List.set_cons_zero, List.set_cons_succ, i64_w, i32_w]
    rfl
  refine take_ (i := 6) (N := some 42) (v := ?_) (a' := ?_) #[true, true, true, true, true, true, true, false, false] rfl rfl (by kernel_rfl) (fun _ _ _ h => h) (Or.inl ⟨by rfl, ?_⟩) hHeld ?_ ?_
  rotate_left
  · rintro w' ⟨s0, s1⟩
    go_simp
    with_reducible rfl
  rotate_left
  · simp only [Act.put, List.setIfInBounds_toArray, List.set_cons_zero, List.set_cons_succ, i64_w, i32_w]
    rfl
  refine one_ (i := 7) (N := some 43) #[true, true, true, true, true, true, true, true, false] rfl rfl (by kernel_rfl) (by decide) (fun K hK => ?_)
  refine goes_ Tryd.func31 (by kernel_rfl) rfl #[.int .i64 (ds.length : Int), .map (some (w.heap.size + 1 + 1))] (by rfl) rfl rfl (by simp only [List.map_toArray, List.map_cons, List.map_nil]; rfl) ?_
  (with_reducible refine (rising_calls hF6.out.hm ds.length (by omega)).mono ?_)
  rintro e w7 ⟨v7, rfl, hr7, hbq⟩
  refine ⟨_, rfl, ?_⟩
  have HRr := Aside0.mk (Kd.R_lower hr7 hbd6.out.size)
  have HBr := Aside0.mk (hbd6.out.trans (hbq.mono hbd6.out.size))
  refine hK.out _ _ ⟨(hbq.cell (World.block_lt_of_cell? _ _ (hHeld.1))).trans (hHeld.1), (hbq.cell (World.block_lt_of_cell? _ _ (hHeld.2))).trans (hHeld.2)⟩ (fun hHeld => ?_)
  clear hK K
  refine norm_ (a' := ?_) ?_ ?_
  rotate_left
  · show Act.put _ (some 43) _ = _
    simp only [Act.put, List.setIfInBounds_toArray, List.set_cons_zero, List.set_cons_succ, i64_w, i32_w]
    rfl
  refine pure_ (i := 8) (N := some 4) (v := ?_) (a' := ?_) #[true, true, true, true, true, true, true, true, true] rfl rfl (by kernel_rfl) (fun _ _ _ h => h) (Or.inl ⟨by rfl, ?_⟩) ?_ ?_
  rotate_left
  · intro w'
    go_simp
    with_reducible rfl
  rotate_left
  · simp only [Act.put, List.setIfInBounds_toArray, List.set_cons_zero, List.set_cons_succ, i64_w, i32_w]
    rfl
  refine done_ (by kernel_rfl) ?_
  clear hHeld
  go_wp2
  go_ret
  exact ⟨_, rfl, HRr.out, HBr.out⟩
end Go.Proofs.YtlgpoigbadajnaaDoor.DepA
