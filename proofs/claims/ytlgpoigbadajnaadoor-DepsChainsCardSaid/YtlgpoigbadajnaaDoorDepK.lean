/- deps.Uses out of range, deps.Needed. No condition beyond those that each states. -/
import Derived.Test.YtlgpoigbadajnaaDoorDepJ
import Derived.Test.YtlgpoigbadajnaaDoorPDepSx1
namespace Go.Proofs.YtlgpoigbadajnaaDoor.DepA
open Go.RowKit Go.Proofs.YtlgpoigbadajnaaDoorW.PrintWords Go.Proofs.YtlgpoigbadajnaaDoorW.PrintLast Go.Proofs.YtlgpoigbadajnaaDoorW.PrintMore Go.Proofs.YtlgpoigbadajnaaDoor.PDepA
set_option linter.unusedVariables false
set_option linter.unusedSimpArgs false
theorem uses0_calls {w : World} (k : Int) {Ad Af : Option Addr} {nd cd n cf : Nat} (h : k < 0 ∨ (n : Int) ≤ k) :
    Calls Tryd.prog 19 #[.agg #[.slice Ad nd cd, .slice Af n cf], .int .i64 k] w fun e w' => e = .returned (.slice none 0 0) ∧ Below w.heap.size w w' := by
  have hb := below_alloc (Below.refl w.heap.size w) (.cells #[.slice Ad nd cd, .slice Af n cf] 38)
  replace hb := Aside0.mk hb
  by_cases h0 : k < 0
  · have q0 : decide (k < 0) = true := decide_eq_true h0
    clear h0 h
    go_enter Tryd.func19, Tryd.ntmps19
    go_wp2
    go_ret
    exact ⟨rfl, hb.out⟩
  · have q0 : decide (k < 0) = false := decide_eq_false h0
    have q1 : decide ((n : Int) ≤ k) = true := decide_eq_true (by omega)
    clear h0 h
    go_enter Tryd.func19, Tryd.ntmps19
    go_wp2
    go_ret
    exact ⟨rfl, hb.out⟩
theorem needed0_calls {w : World} (k : Int) {Ad Af : Option Addr} {nd cd n cf : Nat} (h : k < 0 ∨ (n : Int) ≤ k) :
    Calls Tryd.prog 14 #[.agg #[.slice Ad nd cd, .slice Af n cf], .int .i64 k] w fun e w' => e = .returned (.slice none 0 0) ∧ Below w.heap.size w w' := by
  have hb := below_alloc (Below.refl w.heap.size w) (.cells #[.slice Ad nd cd, .slice Af n cf] 38)
  replace hb := Aside0.mk hb
  by_cases h0 : k < 0
  · have q0 : decide (k < 0) = true := decide_eq_true h0
    clear h0 h
    go_enter Tryd.func14, Tryd.ntmps14
    go_wp2
    go_ret
    exact ⟨rfl, hb.out⟩
  · have q0 : decide (k < 0) = false := decide_eq_false h0
    have q1 : decide ((n : Int) ≤ k) = true := decide_eq_true (by omega)
    clear h0 h
    go_enter Tryd.func14, Tryd.ntmps14
    go_wp2
    go_ret
    exact ⟨rfl, hb.out⟩
def needL (ds : List S34) (k : Nat) : List Int := ris (memN (needR (allL ds) k)) ds.length 0
set_option maxHeartbeats 8000000 in
set_option maxRecDepth 100000 in
theorem needed1_calls {w : World} (ds : List S34) (hok : okDs ds = true) (hor : okR (allL ds) = true) (k : Nat) (hk : k < ds.length) {Ad Af : Option Addr} {nd cd cf : Nat} (hC : Kd.C k34 w Af ds.length ds) :
    Calls Tryd.prog 14 #[.agg #[.slice Ad nd cd, .slice Af ds.length cf], .int .i64 (k : Int)] w fun e w' => ∃ v0_ : Value, e = .returned v0_ ∧ Kd.R kI 3 w' w.heap.size (fun _ => True) v0_ (needL ds k) ∧ Below w.heap.size w w' := by
  have hl : ds.length ≤ 1000 := by simp only [okDs, Bool.and_eq_true, decide_eq_true_eq] at hok; exact hok.2
  have q0 : decide ((k : Int) < 0) = false := decide_eq_false (by omega)
  have q1 : decide ((ds.length : Int) ≤ (k : Int)) = false := decide_eq_false (by omega)
  have hlu : (allL ds).length = ds.length := by simp [allL]
  have hh := hor
  simp only [okR, Bool.and_eq_true, decide_eq_true_eq] at hor
  have hsm := hor.1.1.1
  have hne := needR_eq hh (j := k) (by omega)
  obtain ⟨W0, hW0⟩ : ∃ W0, w.alloc (.cells #[.slice Ad nd cd, .slice Af ds.length cf] 38) = W0 := ⟨_, rfl⟩
  have HB0 : Aside0 (Below w.heap.size w W0) := ⟨by rw [← hW0]; exact below_alloc (Below.refl _ _) _⟩
  have hbx : Aside0 (W0.heap[w.heap.size]? = some (.cells #[.slice Ad nd cd, .slice Af ds.length cf] 38 (0, 0))) := ⟨by rw [← hW0]; exact blk_new w _⟩
  have hx0 := (blk_cell hbx.out 0).trans rfl
  have hx1 := (blk_cell hbx.out 1).trans rfl
  have hC0 := Aside0.mk (Kd.C_below hC HB0.out)
  replace hok := Aside0.mk hok
  replace hsm := Aside0.mk hsm
  replace hne := Aside0.mk hne
  clear hC hh hor
  go_enter Tryd.func14, Tryd.ntmps14
  go_wp2
  clear hW0 hx0 hx1
  have HB_ : Below W0.heap.size W0 W0.drew := below_drew1 (Below.refl _ _)
  refine start_ (n := 9) (S := fun w' => w'.cell? ⟨w.heap.size, 0, none⟩ = some (.slice Ad nd cd) ∧ w'.cell? ⟨w.heap.size, 1, none⟩ = some (.slice Af ds.length cf)) (ds := []) #[false, false, false, false, false, false, false, false, false] (by kernel_rfl) rfl rfl ⟨(blk_cell (blk_below hbx.out HB_) 0).trans rfl, (blk_cell (blk_below hbx.out HB_) 1).trans rfl⟩ (fun hHeld => ?_)
  generalize W0.drew = W9 at *
  refine pure_ (i := 0) (N := some 14) (v := ?_) (a' := ?_) #[true, false, false, false, false, false, false, false, false] rfl rfl (by kernel_rfl) (fun _ _ _ h => h) (Or.inl ⟨by rfl, ?_⟩) ?_ ?_
  rotate_left
  · intro w'
    go_simp
    with_reducible rfl
  rotate_left
  · simp only [Act.put, List.setIfInBounds_toArray, List.set_cons_zero, List.set_cons_succ, i64_w, i32_w]
    rfl
  refine pure_ (i := 5) (N := some 19) (v := ?_) (a' := ?_) #[true, false, false, false, false, true, false, false, false] rfl rfl (by kernel_rfl) (fun _ _ _ h => h) (Or.inl ⟨by rfl, ?_⟩) ?_ ?_
  rotate_left
  · intro w'
    go_simp
    with_reducible rfl
  rotate_left
  · simp only [Act.put, List.setIfInBounds_toArray, List.set_cons_zero, List.set_cons_succ, i64_w, i32_w]
    rfl
  refine take_ (i := 1) (N := some 15) (v := ?_) (a' := ?_) #[true, true, false, false, false, true, false, false, false] rfl rfl (by kernel_rfl) (fun _ _ _ h => h) (Or.inl ⟨by rfl, ?_⟩) hHeld ?_ ?_
  rotate_left
  · rintro w' ⟨s0, s1⟩
    go_simp
    with_reducible rfl
  rotate_left
  · simp only [Act.put, List.setIfInBounds_toArray, List.set_cons_zero, List.set_cons_succ, i64_w, i32_w]
    rfl
  refine pure_ (i := 2) (N := some 16) (v := ?_) (a' := ?_) #[true, true, true, false, false, true, false, false, false] rfl rfl (by kernel_rfl) (fun _ _ _ h => h) (Or.inl ⟨by rfl, ?_⟩) ?_ ?_
  rotate_left
  · intro w'
    go_simp
    with_reducible rfl
  rotate_left
  · simp only [Act.put, List.setIfInBounds_toArray, List.set_cons_zero, List.set_cons_succ, i64_w, i32_w]
    rfl
  refine take_ (i := 3) (N := some 17) (v := ?_) (a' := ?_) #[true, true, true, true, false, true, false, false, false] rfl rfl (by kernel_rfl) (fun _ _ _ h => h) (Or.inl ⟨by rfl, ?_⟩) hHeld ?_ ?_
  rotate_left
  · rintro w' ⟨s0, s1⟩
    go_simp
    with_reducible rfl
  rotate_left
  · simp only [Act.put, List.setIfInBounds_toArray, List.set_cons_zero, List.set_cons_succ, i64_w, i32_w]
    rfl
  refine one_ (i := 4) (N := some 18) #[true, true, true, true, true, true, false, false, false] rfl rfl (by kernel_rfl) (by decide) (fun K hK => ?_)
  refine goes_ Tryd.func28 (by kernel_rfl) rfl #[.agg #[.slice Ad nd cd, .slice Af ds.length cf]] (by rfl) rfl rfl (by simp only [List.map_toArray, List.map_cons, List.map_nil]; rfl) ?_
  (with_reducible refine (all_calls ds hok.out (Kd.C_below hC0.out HB_)).mono ?_)
  rintro e w3 ⟨U, rfl, hU3, hbq⟩
  refine ⟨_, rfl, ?_⟩
  have HB3 := below_step HB_ hbq
  refine hK.out _ _ ⟨(blk_cell (blk_below hbx.out HB3) 0).trans rfl, (blk_cell (blk_below hbx.out HB3) 1).trans rfl⟩ (fun hHeld => ?_)
  clear hK K
  refine norm_ (a' := ?_) ?_ ?_
  rotate_left
  · show Act.put _ (some 18) _ = _
    simp only [Act.put, List.setIfInBounds_toArray, List.set_cons_zero, List.set_cons_succ, i64_w, i32_w]
    rfl
  refine one_ (i := 6) (N := some 20) #[true, true, true, true, true, true, true, false, false] rfl rfl (by kernel_rfl) (by decide) (fun K hK => ?_)
  refine goes_ Tryd.func29 (by kernel_rfl) rfl #[.slice U (allL ds).length (allL ds).length, .int .i64 (k : Int)] (by rfl) rfl rfl (by simp only [List.map_toArray, List.map_cons, List.map_nil]; rfl) ?_
  (with_reducible refine (needed_calls (allL ds) hsm.out hU3 (k : Int) ⟨by omega, by omega⟩ hne.out).mono ?_)
  rintro e w4 ⟨mb, mn, rfl, hm4, hge4, hbq4⟩
  refine ⟨_, rfl, ?_⟩
  have HB4 := below_step HB3 hbq4
  refine hK.out _ _ ⟨(blk_cell (blk_below hbx.out HB4) 0).trans rfl, (blk_cell (blk_below hbx.out HB4) 1).trans rfl⟩ (fun hHeld => ?_)
  clear hK K
  refine norm_ (a' := ?_) ?_ ?_
  rotate_left
  · show Act.put _ (some 20) _ = _
    simp only [Act.put, List.setIfInBounds_toArray, List.set_cons_zero, List.set_cons_succ, i64_w, i32_w]
    rfl
  refine one_ (i := 7) (N := some 21) #[true, true, true, true, true, true, true, true, false] rfl rfl (by kernel_rfl) (by decide) (fun K hK => ?_)
  refine goes_ Tryd.func31 (by kernel_rfl) rfl #[.int .i64 (ds.length : Int), .map (some mb)] (by rfl) rfl rfl (by simp only [List.map_toArray, List.map_cons, List.map_nil]; rfl) ?_
  (with_reducible refine (rising_calls hm4.mapN ds.length (by omega)).mono ?_)
  rintro e w5 ⟨v5, rfl, hr5, hbq5⟩
  refine ⟨_, rfl, ?_⟩
  have HB5 := below_step HB4 hbq5
  refine hK.out _ _ ⟨(blk_cell (blk_below hbx.out HB5) 0).trans rfl, (blk_cell (blk_below hbx.out HB5) 1).trans rfl⟩ (fun hHeld => ?_)
  clear hK K
  refine norm_ (a' := ?_) ?_ ?_
  rotate_left
  · show Act.put _ (some 21) _ = _
    simp only [Act.put, List.setIfInBounds_toArray, List.set_cons_zero, List.set_cons_succ, i64_w, i32_w]
    rfl
  refine pure_ (i := 8) (N := some 4) (v := ?_) (a' := ?_) #[true, true, true, true, true, true, true, true, true] rfl rfl (by kernel_rfl) (fun _ _ _ h => h) (Or.inl ⟨by rfl, ?_⟩) ?_ ?_
  rotate_left
  · intro w'
    go_simp
    with_reducible rfl
  rotate_left
  · simp only [Act.put, List.setIfInBounds_toArray, List.set_cons_zero, List.set_cons_succ, i64_w, i32_w]
    rfl
  refine done_ (by kernel_rfl) ?_
  have HR := Aside0.mk hr5
  have HB := Aside0.mk HB5
  clear hHeld
  go_wp2
  go_ret
  refine ⟨_, rfl, Kd.R_lower HR.out ?_, HB0.out.trans (HB.out.mono HB0.out.size)⟩
  have := HB0.out.size
  have := HB4.size
  omega
end Go.Proofs.YtlgpoigbadajnaaDoor.DepA
