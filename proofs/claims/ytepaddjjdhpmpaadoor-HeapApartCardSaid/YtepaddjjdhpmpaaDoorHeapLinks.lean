/- HeapLinks: its walk. No condition beyond those that each states. -/
import Derived.Test.YtepaddjjdhpmpaaDoorHeapL
namespace Go.Proofs.YtepaddjjdhpmpaaDoor.HeapA
open Go.RowKit Go.Proofs.YtepaddjjdhpmpaaDoorW.PrintWords Go.Proofs.YtepaddjjdhpmpaaDoorW.PrintLast Go.Proofs.YtepaddjjdhpmpaaDoorW.PrintMore Go.Proofs.YtepaddjjdhpmpaaDoor.HeapK Go.Proofs.YtepaddjjdhpmpaaDoor.PHeapP
set_option linter.unusedVariables false
set_option linter.unusedSimpArgs false
theorem c_pair {W : World} {A : Option Addr} {x y : S33} (h : Kd.C k33 W A 2 [x, y]) : ∃ a, A = some a ∧ W.cell? a = some (.bool x.f0) ∧ W.cell? ⟨a.block, a.off + 1, none⟩ = some (.int .i64 x.f1) ∧ W.cell? ⟨a.block, a.off + 2, none⟩ = some (.bool y.f0) ∧ W.cell? ⟨a.block, a.off + 3, none⟩ = some (.int .i64 y.f1) := by
  obtain ⟨a, rfl, h0, h1⟩ := at_T33 h 0 (by decide) (by decide)
  obtain ⟨a', e, h2, h3⟩ := at_T33 h 1 (by decide) (by decide)
  obtain rfl := Option.some.inj e
  exact ⟨a, rfl, by simpa [Addr.add, rd_T33] using h0, by simpa [Addr.add, rd_T33] using h1, by simpa [Addr.add, rd_T33] using h2, by simpa [Addr.add, rd_T33, Nat.add_assoc] using h3⟩
set_option maxHeartbeats 16000000 in
set_option maxRecDepth 100000 in
theorem links_walk (a0 a1 : Int) (w : World) : Calls Tryd.prog 6 #[.int .i64 a0, .int .i64 a1] w fun e w' => e = .returned (.bool true) ∧ Below w.heap.size w w' := by
  have CF := first_calls w
  have CN := fun W => number_p a0 20 (by decide) (by decide) W
  go_enter Tryd.func6, Tryd.ntmps6
  go_wp2_with (first | (go_at_call 8; (with_reducible refine CF.mono ?_); rintro e w1 ⟨rfl, hb1⟩; have HB1 := Aside0.mk hb1; clear hb1 CF) | (go_at_call 9; (with_reducible refine (CN w1).mono ?_); rintro e w2 ⟨k1, rfl, hk1, hb2⟩; have HB2 := Aside0.mk (below_step HB1.out hb2); have C2 := number_p a1 ((k1 : Int) + 2) (by omega) (by omega) w2; clear hb2 CN) | (go_at_call 9; (with_reducible refine C2.mono ?_); rintro e w3 ⟨ask, rfl, hask, hb3⟩; have HB3 := Aside0.mk (below_step HB2.out hb3); clear hb3 C2) | (go_at_call 10; (with_reducible refine (new_q HB3.out 1000 (by decide) (by decide)).mono ?_); rintro e w4 ⟨rfl, hq4⟩; rw [show (1000 : Int) / 2 = 500 by decide] at hq4; have HQ4 := Aside0.mk hq4; clear hq4))
  have hall := lk_all (k1 + 2) (by omega) (by omega) ask (by omega)
  unfold lkOk at hall
  cases hA : lkA (k1 + 2) 0 ⟨0, 0, []⟩ with
  | none => rw [hA] at hall; cases hall
  | some Pa =>
    rw [hA] at hall
    simp only at hall
    cases hL : lkL (k1 + 2 - 1) 0 Pa with
    | none => rw [hL] at hall; cases hall
    | some Pb =>
      rw [hL] at hall
      simp only at hall
      obtain ⟨P2, P3, P4, nd, x, r0, r1, h1, h2, h3, h4, h5, h6, h7, h8, h9, h10⟩ := lkC_all hall
      subst h8 h9
      have e2 : ((k1 + 2 : Nat) : Int) = (k1 : Int) + 2 := rfl
      rw [e2] at h1 h5 h6
      have h1 := Aside0.mk h1
      have h2 := Aside0.mk h2
      have h3 := Aside0.mk h3
      have h4 := Aside0.mk h4
      have h5 := Aside0.mk h5
      have h6 := Aside0.mk h6
      have h7 := Aside0.mk h7
      have h10 := Aside0.mk h10
      have hA := Aside0.mk hA
      have hL := Aside0.mk hL
      clear hall
      generalize w3.heap.size + 1 = b at *
      go_loopg [8] (k1 + 3) (fun kq v8 w' => ∃ (i : Nat) (P : PH), v8 = .int .i64 (i : Int) ∧ i + kq = k1 + 3 ∧ 1 ≤ kq ∧ Aside0 (HQ w w' b 500 P) ∧ Aside0 (lkA (k1 + 2 - i) i P = some Pa))
      case atStart => exact ⟨0, _, rfl, by omega, by omega, HQ4, hA⟩
      case round =>
        obtain ⟨i, P, rfl, hi, hk, hq, hr⟩ := hrel
        by_cases hlt : i < k1 + 2
        · have q1 : decide ((i : Int) < (k1 : Int) + 2) = true := decide_eq_true (by omega)
          have hr2 := hr.out
          rw [show k1 + 2 - i = (k1 + 1 - i) + 1 by omega] at hr2
          obtain ⟨P', hp, hrn⟩ := lkA_step hr2
          have hrn := Aside0.mk hrn
          have CA := alloc_q (hq.out.below (below_alloc (Below.refl _ wr) (.cells #[.bool false, .int .i64 (100 + (i : Int))] 33))) (c := 1) (c_one wr ⟨false, 100 + (i : Int)⟩) (m := 1) rfl hp
          clear hp hr2
          go_wp2_with (first | (go_at_call 11; go_loud (with_reducible refine CA.mono ?_); rintro e w5 ⟨rfl, hq5⟩; have HQ5 := Aside0.mk hq5; clear hq5 CA))
          go_roundg (gk - 1)
          case measure => omega
          case rel => exact ⟨i + 1, P', congrArg (Value.int .i64) (by omega), by omega, by omega, HQ5, by rw [show k1 + 2 - (i + 1) = k1 + 1 - i by omega]; exact hrn⟩
        · have q1 : decide ((i : Int) < (k1 : Int) + 2) = false := decide_eq_false (by omega)
          have hr2 := hr.out
          rw [show k1 + 2 - i = 0 by omega] at hr2
          obtain rfl := Option.some.inj hr2
          clear hr2 hr
          go_wp2
          go_loopg [11] (k1 + 2) (fun kq v11 w' => ∃ (i : Nat) (P : PH), v11 = .int .i64 (i : Int) ∧ i + kq = k1 + 2 ∧ 1 ≤ kq ∧ Aside0 (HQ w w' b 500 P) ∧ Aside0 (lkL (k1 + 1 - i) i P = some Pb))
          case atStart => exact ⟨0, _, rfl, by omega, by omega, hq, hL⟩
          case round =>
            clear hq
            obtain ⟨i2, P5, rfl, hi2, hk2, hq, hr⟩ := hrel
            by_cases hlt2 : i2 + 1 < k1 + 2
            · have q2 : decide ((i2 : Int) + 1 < (k1 : Int) + 2) = true := decide_eq_true (by omega)
              have hr2 := hr.out
              rw [show k1 + 1 - i2 = (k1 - i2) + 1 by omega] at hr2
              obtain ⟨P6, hp, hrn⟩ := lkL_step hr2
              have hrn := Aside0.mk hrn
              have CL := link_q hq.out hp
              clear hp hr2
              go_wp2_with (first | (go_at_call 18; go_loud (with_reducible refine CL.mono ?_); rintro e w5 ⟨rfl, hq5⟩; have HQ5 := Aside0.mk hq5; clear hq5 CL))
              go_roundg (gk - 1)
              case measure => omega
              case rel => exact ⟨i2 + 1, P6, congrArg (Value.int .i64) (by omega), by omega, by omega, HQ5, by rw [show k1 + 1 - (i2 + 1) = k1 - i2 by omega]; exact hrn⟩
            · have q2 : decide ((i2 : Int) + 1 < (k1 : Int) + 2) = false := decide_eq_false (by omega)
              have hr2 := hr.out
              rw [show k1 + 1 - i2 = 0 by omega] at hr2
              obtain rfl := Option.some.inj hr2
              clear hr2 hr
              have CL1 := link_q hq.out h1.out
              go_wp2_with (first | (go_at_call 18; (with_reducible refine CL1.mono ?_); rintro e w5 ⟨rfl, hq5⟩; have HQ5 := Aside0.mk hq5; clear hq5 CL1; have CL2 := link_q HQ5.out h2.out) | (go_at_call 18; (with_reducible refine CL2.mono ?_); rintro e w6 ⟨rfl, hq6⟩; have HQ6 := Aside0.mk hq6; clear hq6 CL2; have CNd := node_q HQ6.out h3.out; simp only [h4.out, h5.out, List.length_cons, List.length_nil, Nat.zero_add] at CNd) | (go_at_call 16; go_loud (with_reducible refine CNd.mono ?_); rintro e w7 ⟨A7, c7, rfl, hC7, hq7⟩; have HQ7 := Aside0.mk hq7; clear hq7 CNd; obtain ⟨a7, rfl, hv0, hv1⟩ := at_T33 hC7 0 (by decide) (by decide); have hv1 : w7.cell? ⟨a7.block, a7.off + 1, none⟩ = some (.int .i64 (99 + ((k1 : Int) + 2))) := by { rw [← h6.out]; simpa [Addr.add, rd_T33] using hv1 }; clear hv0 hC7; have CC := collect_q (HQ7.out.below (below_alloc (Below.refl _ w7) (.cells #[.bool true, .int .i64 (3 * (ask : Int)), .bool true, .int .i64 0] 33))) (c := 2) (c_two w7 ⟨true, 3 * (ask : Int)⟩ ⟨true, 0⟩) (m := 2) rfl (by simp) h7.out; simp only [List.length_cons, List.length_nil, Nat.zero_add, Nat.reduceAdd] at CC) | (go_at_call 14; go_loud (with_reducible refine CC.mono ?_); rintro e w8 ⟨A8, c8, rfl, hC8, hq8⟩; have HQ8 := Aside0.mk hq8; clear hq8 CC; have hC8 := Aside0.mk hC8; obtain ⟨a8, rfl, hp0, hp1, hp2, hp3⟩ := c_pair hC8.out; have HD := Aside0.mk (And.intro hp0 (And.intro hp1 (And.intro hp2 hp3))); clear hp0 hp1 hp2 hp3))
              have D0 : Aside0 (w8.drew.cell? a8 = some (.bool true)) := ⟨HD.out.1⟩
              have D1 : Aside0 (w8.drew.cell? ⟨a8.block, a8.off + 1, none⟩ = some (.int .i64 0)) := ⟨HD.out.2.1⟩
              have D2 : Aside0 (w8.drew.cell? ⟨a8.block, a8.off + 2, none⟩ = some (.bool true)) := ⟨HD.out.2.2.1⟩
              have D3 : Aside0 (w8.drew.cell? ⟨a8.block, a8.off + 3, none⟩ = some (.int .i64 0)) := ⟨HD.out.2.2.2⟩
              have HQ9 := Aside0.mk (HQ8.out.below (below_drew1 (Below.refl _ w8)))
              refine start_ (n := 28) (S := fun w' => w'.cell? a8 = some (.bool true) ∧ w'.cell? ⟨a8.block, a8.off + 1, none⟩ = some (.int .i64 0) ∧ w'.cell? ⟨a8.block, a8.off + 2, none⟩ = some (.bool true) ∧ w'.cell? ⟨a8.block, a8.off + 3, none⟩ = some (.int .i64 0)) (ds := []) #[false, false, false, false, false, false, false, false, false, false, false, false, false, false, false, false, false, false, false, false, false, false, false, false, false, false, false, false] (by kernel_rfl) rfl rfl ⟨D0.out, D1.out, D2.out, D3.out⟩ (fun hHeld => ?_)
              generalize w8.drew = W9 at *
              refine pure_ (i := 0) (N := some 118) (v := ?_) (a' := ?_) #[true, false, false, false, false, false, false, false, false, false, false, false, false, false, false, false, false, false, false, false, false, false, false, false, false, false, false, false] rfl rfl (by kernel_rfl) (fun _ _ _ h => h) (Or.inl ⟨by rfl, ?_⟩) ?_ ?_
              rotate_left
              · intro w'
                go_simp
                with_reducible rfl
              rotate_left
              · simp only [Act.put, List.setIfInBounds_toArray, List.set_cons_zero, List.set_cons_succ, i64_w, i32_w]
                rfl
              refine pure_ (i := 1) (N := some 119) (v := ?_) (a' := ?_) #[true, true, false, false, false, false, false, false, false, false, false, false, false, false, false, false, false, false, false, false, false, false, false, false, false, false, false, false] rfl rfl (by kernel_rfl) (fun _ _ _ h => h) (Or.inl ⟨by rfl, ?_⟩) ?_ ?_
              rotate_left
              · intro w'
                go_simp
                with_reducible rfl
              rotate_left
              · simp only [Act.put, List.setIfInBounds_toArray, List.set_cons_zero, List.set_cons_succ, i64_w, i32_w]
                rfl
              refine pure_ (i := 2) (N := some 120) (v := ?_) (a' := ?_) #[true, true, true, false, false, false, false, false, false, false, false, false, false, false, false, false, false, false, false, false, false, false, false, false, false, false, false, false] rfl rfl (by kernel_rfl) (fun _ _ _ h => h) (Or.inl ⟨by rfl, ?_⟩) ?_ ?_
              rotate_left
              · intro w'
                go_simp
                with_reducible rfl
              rotate_left
              · simp only [Act.put, List.setIfInBounds_toArray, List.set_cons_zero, List.set_cons_succ, i64_w, i32_w]
                rfl
              refine pure_ (i := 3) (N := some 121) (v := ?_) (a' := ?_) #[true, true, true, true, false, false, false, false, false, false, false, false, false, false, false, false, false, false, false, false, false, false, false, false, false, false, false, false] rfl rfl (by kernel_rfl) (fun _ _ _ h => h) (Or.inl ⟨by rfl, ?_⟩) ?_ ?_
              rotate_left
              · intro w'
                go_simp
                with_reducible rfl
              rotate_left
              · simp only [Act.put, List.setIfInBounds_toArray, List.set_cons_zero, List.set_cons_succ, i64_w, i32_w]
                rfl
              refine pure_ (i := 4) (N := some 122) (v := ?_) (a' := ?_) #[true, true, true, true, true, false, false, false, false, false, false, false, false, false, false, false, false, false, false, false, false, false, false, false, false, false, false, false] rfl rfl (by kernel_rfl) (fun _ _ _ h => h) (Or.inl ⟨by rfl, ?_⟩) ?_ ?_
              rotate_left
              · intro w'
                go_simp
                with_reducible rfl
              rotate_left
              · simp only [Act.put, List.setIfInBounds_toArray, List.set_cons_zero, List.set_cons_succ, i64_w, i32_w]
                rfl
              refine pure_ (i := 5) (N := some 123) (v := ?_) (a' := ?_) #[true, true, true, true, true, true, false, false, false, false, false, false, false, false, false, false, false, false, false, false, false, false, false, false, false, false, false, false] rfl rfl (by kernel_rfl) (fun _ _ _ h => h) (Or.inl ⟨by rfl, ?_⟩) ?_ ?_
              rotate_left
              · intro w'
                go_simp
                with_reducible rfl
              rotate_left
              · simp only [Act.put, List.setIfInBounds_toArray, List.set_cons_zero, List.set_cons_succ, i64_w, i32_w]
                rfl
              refine pure_ (i := 6) (N := some 124) (v := ?_) (a' := ?_) #[true, true, true, true, true, true, true, false, false, false, false, false, false, false, false, false, false, false, false, false, false, false, false, false, false, false, false, false] rfl rfl (by kernel_rfl) (fun _ _ _ h => h) (Or.inl ⟨by rfl, ?_⟩) ?_ ?_
              rotate_left
              · intro w'
                go_simp
                with_reducible rfl
              rotate_left
              · simp only [Act.put, List.setIfInBounds_toArray, List.set_cons_zero, List.set_cons_succ, i64_w, i32_w]
                rfl
              refine pure_ (i := 7) (N := some 125) (v := ?_) (a' := ?_) #[true, true, true, true, true, true, true, true, false, false, false, false, false, false, false, false, false, false, false, false, false, false, false, false, false, false, false, false] rfl rfl (by kernel_rfl) (fun _ _ _ h => h) (Or.inl ⟨by rfl, ?_⟩) ?_ ?_
              rotate_left
              · intro w'
                go_simp
                with_reducible rfl
              rotate_left
              · simp only [Act.put, List.setIfInBounds_toArray, List.set_cons_zero, List.set_cons_succ, i64_w, i32_w]
                rfl
              refine pure_ (i := 8) (N := some 126) (v := ?_) (a' := ?_) #[true, true, true, true, true, true, true, true, true, false, false, false, false, false, false, false, false, false, false, false, false, false, false, false, false, false, false, false] rfl rfl (by kernel_rfl) (fun _ _ _ h => h) (Or.inl ⟨by rfl, ?_⟩) ?_ ?_
              rotate_left
              · intro w'
                go_simp
                with_reducible rfl
              rotate_left
              · simp only [Act.put, List.setIfInBounds_toArray, List.set_cons_zero, List.set_cons_succ, i64_w, i32_w]
                rfl
              refine pure_ (i := 10) (N := some 128) (v := ?_) (a' := ?_) #[true, true, true, true, true, true, true, true, true, false, true, false, false, false, false, false, false, false, false, false, false, false, false, false, false, false, false, false] rfl rfl (by kernel_rfl) (fun _ _ _ h => h) (Or.inl ⟨by rfl, ?_⟩) ?_ ?_
              rotate_left
              · intro w'
                go_simp
                with_reducible rfl
              rotate_left
              · simp only [Act.put, List.setIfInBounds_toArray, List.set_cons_zero, List.set_cons_succ, i64_w, i32_w]
                rfl
              refine take_ (i := 9) (N := some 127) (v := ?_) (a' := ?_) #[true, true, true, true, true, true, true, true, true, true, true, false, false, false, false, false, false, false, false, false, false, false, false, false, false, false, false, false] rfl rfl (by kernel_rfl) (fun _ _ _ h => h) (Or.inl ⟨by rfl, ?_⟩) hHeld ?_ ?_
              rotate_left
              · rintro w' ⟨s0, s1, s2, s3⟩
                go_simp
                with_reducible rfl
              rotate_left
              · simp only [Act.put, List.setIfInBounds_toArray, List.set_cons_zero, List.set_cons_succ, i64_w, i32_w]
                rfl
              refine one_ (i := 11) (N := some 129) #[true, true, true, true, true, true, true, true, true, true, true, true, false, false, false, false, false, false, false, false, false, false, false, false, false, false, false, false] rfl rfl (by kernel_rfl) (by decide) (fun K hK => ?_)
              refine goes_ Tryd.func17 (by kernel_rfl) rfl #[.agg #[.bool true, .int .i64 0], .agg #[.bool true, .int .i64 0]] (by rfl) rfl rfl (by simp only [List.map_toArray, List.map_cons, List.map_nil]; rfl) ?_
              (with_reducible refine (gristmillref_SameWord.calls true 0 true 0 true _ rfl).mono ?_)
              rintro e w10 ⟨rfl, hb⟩
              refine ⟨_, rfl, ?_⟩
              have HQ10 := Aside0.mk (HQ9.out.below hb)
              refine hK.out _ _ ⟨(hb.cell (World.block_lt_of_cell? _ _ (hHeld.1))).trans (hHeld.1), (hb.cell (World.block_lt_of_cell? _ _ (hHeld.2.1))).trans (hHeld.2.1), (hb.cell (World.block_lt_of_cell? _ _ (hHeld.2.2.1))).trans (hHeld.2.2.1), (hb.cell (World.block_lt_of_cell? _ _ (hHeld.2.2.2))).trans (hHeld.2.2.2)⟩ (fun hHeld => ?_)
              clear hK K
              refine norm_ (a' := ?_) ?_ ?_
              rotate_left
              · show Act.put _ (some 129) _ = _
                simp only [Act.put, List.setIfInBounds_toArray, List.set_cons_zero, List.set_cons_succ, i64_w, i32_w]
                rfl
              refine pure_ (i := 12) (N := some 130) (v := ?_) (a' := ?_) #[true, true, true, true, true, true, true, true, true, true, true, true, true, false, false, false, false, false, false, false, false, false, false, false, false, false, false, false] rfl rfl (by kernel_rfl) (fun _ _ _ h => h) (Or.inl ⟨by rfl, ?_⟩) ?_ ?_
              rotate_left
              · intro w'
                go_simp
                with_reducible rfl
              rotate_left
              · simp only [Act.put, List.setIfInBounds_toArray, List.set_cons_zero, List.set_cons_succ, i64_w, i32_w]
                rfl
              refine pure_ (i := 13) (N := some 131) (v := ?_) (a' := ?_) #[true, true, true, true, true, true, true, true, true, true, true, true, true, true, false, false, false, false, false, false, false, false, false, false, false, false, false, false] rfl rfl (by kernel_rfl) (fun _ _ _ h => h) (Or.inl ⟨by rfl, ?_⟩) ?_ ?_
              rotate_left
              · intro w'
                go_simp
                with_reducible rfl
              rotate_left
              · simp only [Act.put, List.setIfInBounds_toArray, List.set_cons_zero, List.set_cons_succ, i64_w, i32_w]
                rfl
              refine pure_ (i := 14) (N := some 132) (v := ?_) (a' := ?_) #[true, true, true, true, true, true, true, true, true, true, true, true, true, true, true, false, false, false, false, false, false, false, false, false, false, false, false, false] rfl rfl (by kernel_rfl) (fun _ _ _ h => h) (Or.inl ⟨by rfl, ?_⟩) ?_ ?_
              rotate_left
              · intro w'
                go_simp
                with_reducible rfl
              rotate_left
              · simp only [Act.put, List.setIfInBounds_toArray, List.set_cons_zero, List.set_cons_succ, i64_w, i32_w]
                rfl
              refine pure_ (i := 15) (N := some 133) (v := ?_) (a' := ?_) #[true, true, true, true, true, true, true, true, true, true, true, true, true, true, true, true, false, false, false, false, false, false, false, false, false, false, false, false] rfl rfl (by kernel_rfl) (fun _ _ _ h => h) (Or.inl ⟨by rfl, ?_⟩) ?_ ?_
              rotate_left
              · intro w'
                go_simp
                with_reducible rfl
              rotate_left
              · simp only [Act.put, List.setIfInBounds_toArray, List.set_cons_zero, List.set_cons_succ, i64_w, i32_w]
                rfl
              refine pure_ (i := 17) (N := some 135) (v := ?_) (a' := ?_) #[true, true, true, true, true, true, true, true, true, true, true, true, true, true, true, true, false, true, false, false, false, false, false, false, false, false, false, false] rfl rfl (by kernel_rfl) (fun _ _ _ h => h) (Or.inl ⟨by rfl, ?_⟩) ?_ ?_
              rotate_left
              · intro w'
                go_simp
                with_reducible rfl
              rotate_left
              · simp only [Act.put, List.setIfInBounds_toArray, List.set_cons_zero, List.set_cons_succ, i64_w, i32_w]
                rfl
              refine pure_ (i := 18) (N := some 136) (v := ?_) (a' := ?_) #[true, true, true, true, true, true, true, true, true, true, true, true, true, true, true, true, false, true, true, false, false, false, false, false, false, false, false, false] rfl rfl (by kernel_rfl) (fun _ _ _ h => h) (Or.inl ⟨by rfl, ?_⟩) ?_ ?_
              rotate_left
              · intro w'
                go_simp
                with_reducible rfl
              rotate_left
              · simp only [Act.put, List.setIfInBounds_toArray, List.set_cons_zero, List.set_cons_succ, i64_w, i32_w]
                rfl
              refine take_ (i := 16) (N := some 134) (v := ?_) (a' := ?_) #[true, true, true, true, true, true, true, true, true, true, true, true, true, true, true, true, true, true, true, false, false, false, false, false, false, false, false, false] rfl rfl (by kernel_rfl) (fun _ _ _ h => h) (Or.inl ⟨by rfl, ?_⟩) hHeld ?_ ?_
              rotate_left
              · rintro w' ⟨s0, s1, s2, s3⟩
                go_simp
                with_reducible rfl
              rotate_left
              · simp only [Act.put, List.setIfInBounds_toArray, List.set_cons_zero, List.set_cons_succ, i64_w, i32_w]
                rfl
              refine take_ (i := 19) (N := some 137) (v := ?_) (a' := ?_) #[true, true, true, true, true, true, true, true, true, true, true, true, true, true, true, true, true, true, true, true, false, false, false, false, false, false, false, false] rfl rfl (by kernel_rfl) (fun _ _ _ h => h) (Or.inl ⟨by rfl, ?_⟩) hHeld ?_ ?_
              rotate_left
              · rintro w' ⟨s0, s1, s2, s3⟩
                go_simp
                with_reducible rfl
              rotate_left
              · simp only [Act.put, List.setIfInBounds_toArray, List.set_cons_zero, List.set_cons_succ, i64_w, i32_w]
                rfl
              refine one_ (i := 20) (N := some 138) #[true, true, true, true, true, true, true, true, true, true, true, true, true, true, true, true, true, true, true, true, true, false, false, false, false, false, false, false] rfl rfl (by kernel_rfl) (by decide) (fun K hK => ?_)
              refine goes_ Tryd.func17 (by kernel_rfl) rfl #[.agg #[.bool true, .int .i64 0], .agg #[.bool true, .int .i64 0]] (by rfl) rfl rfl (by simp only [List.map_toArray, List.map_cons, List.map_nil]; rfl) ?_
              (with_reducible refine (gristmillref_SameWord.calls true 0 true 0 true _ rfl).mono ?_)
              rintro e w11 ⟨rfl, hb⟩
              refine ⟨_, rfl, ?_⟩
              have HQ11 := Aside0.mk (HQ10.out.below hb)
              refine hK.out _ _ ⟨(hb.cell (World.block_lt_of_cell? _ _ (hHeld.1))).trans (hHeld.1), (hb.cell (World.block_lt_of_cell? _ _ (hHeld.2.1))).trans (hHeld.2.1), (hb.cell (World.block_lt_of_cell? _ _ (hHeld.2.2.1))).trans (hHeld.2.2.1), (hb.cell (World.block_lt_of_cell? _ _ (hHeld.2.2.2))).trans (hHeld.2.2.2)⟩ (fun hHeld => ?_)
              clear hK K
              refine norm_ (a' := ?_) ?_ ?_
              rotate_left
              · show Act.put _ (some 138) _ = _
                simp only [Act.put, List.setIfInBounds_toArray, List.set_cons_zero, List.set_cons_succ, i64_w, i32_w]
                rfl
              refine pure_ (i := 21) (N := some 139) (v := ?_) (a' := ?_) #[true, true, true, true, true, true, true, true, true, true, true, true, true, true, true, true, true, true, true, true, true, true, false, false, false, false, false, false] rfl rfl (by kernel_rfl) (fun _ _ _ h => h) (Or.inl ⟨by rfl, ?_⟩) ?_ ?_
              rotate_left
              · intro w'
                go_simp
                with_reducible rfl
              rotate_left
              · simp only [Act.put, List.setIfInBounds_toArray, List.set_cons_zero, List.set_cons_succ, i64_w, i32_w]
                rfl
              refine pure_ (i := 22) (N := some 140) (v := ?_) (a' := ?_) #[true, true, true, true, true, true, true, true, true, true, true, true, true, true, true, true, true, true, true, true, true, true, true, false, false, false, false, false] rfl rfl (by kernel_rfl) (fun _ _ _ h => h) (Or.inl ⟨by rfl, ?_⟩) ?_ ?_
              rotate_left
              · intro w'
                go_simp
                with_reducible rfl
              rotate_left
              · simp only [Act.put, List.setIfInBounds_toArray, List.set_cons_zero, List.set_cons_succ, i64_w, i32_w]
                rfl
              refine pure_ (i := 23) (N := some 141) (v := ?_) (a' := ?_) #[true, true, true, true, true, true, true, true, true, true, true, true, true, true, true, true, true, true, true, true, true, true, true, true, false, false, false, false] rfl rfl (by kernel_rfl) (fun _ _ _ h => h) (Or.inl ⟨by rfl, ?_⟩) ?_ ?_
              rotate_left
              · intro w'
                go_simp
                with_reducible rfl
              rotate_left
              · simp only [Act.put, List.setIfInBounds_toArray, List.set_cons_zero, List.set_cons_succ, i64_w, i32_w]
                rfl
              refine one_ (i := 24) (N := some 142) #[true, true, true, true, true, true, true, true, true, true, true, true, true, true, true, true, true, true, true, true, true, true, true, true, true, false, false, false] rfl rfl (by kernel_rfl) (by decide) (fun K hK => ?_)
              have CP := ptr_q HQ11.out
              rw [h10.out] at CP
              refine goes_ Tryd.func12 (by kernel_rfl) rfl #[.pointer (some ⟨b, 0, none⟩)] (by rfl) rfl rfl (by simp only [List.map_toArray, List.map_cons, List.map_nil]; rfl) ?_
              (with_reducible refine (CP).mono ?_)
              rintro e w12 ⟨rfl, rfl⟩
              refine ⟨_, rfl, ?_⟩
              refine hK.out _ _ ⟨hHeld.1, hHeld.2.1, hHeld.2.2.1, hHeld.2.2.2⟩ (fun hHeld => ?_)
              clear hK K
              refine norm_ (a' := ?_) ?_ ?_
              rotate_left
              · show Act.put _ (some 142) _ = _
                simp only [Act.put, List.setIfInBounds_toArray, List.set_cons_zero, List.set_cons_succ, i64_w, i32_w]
                rfl
              refine pure_ (i := 25) (N := some 143) (v := ?_) (a' := ?_) #[true, true, true, true, true, true, true, true, true, true, true, true, true, true, true, true, true, true, true, true, true, true, true, true, true, true, false, false] rfl rfl (by kernel_rfl) (fun _ _ _ h => h) (Or.inl ⟨by rfl, ?_⟩) ?_ ?_
              rotate_left
              · intro w'
                go_simp
                with_reducible rfl
              rotate_left
              · simp only [Act.put, List.setIfInBounds_toArray, List.set_cons_zero, List.set_cons_succ, i64_w, i32_w]
                rfl
              refine pure_ (i := 26) (N := some 144) (v := ?_) (a' := ?_) #[true, true, true, true, true, true, true, true, true, true, true, true, true, true, true, true, true, true, true, true, true, true, true, true, true, true, true, false] rfl rfl (by kernel_rfl) (fun _ _ _ h => h) (Or.inl ⟨by rfl, ?_⟩) ?_ ?_
              rotate_left
              · intro w'
                go_simp
                with_reducible rfl
              rotate_left
              · simp only [Act.put, List.setIfInBounds_toArray, List.set_cons_zero, List.set_cons_succ, i64_w, i32_w]
                rfl
              refine pure_ (i := 27) (N := some 4) (v := ?_) (a' := ?_) #[true, true, true, true, true, true, true, true, true, true, true, true, true, true, true, true, true, true, true, true, true, true, true, true, true, true, true, true] rfl rfl (by kernel_rfl) (fun _ _ _ h => h) (Or.inl ⟨by rfl, ?_⟩) ?_ ?_
              rotate_left
              · intro w'
                go_simp
                with_reducible rfl
              rotate_left
              · simp only [Act.put, List.setIfInBounds_toArray, List.set_cons_zero, List.set_cons_succ, i64_w, i32_w]
                rfl
              refine done_ (by kernel_rfl) ?_
              go_wp2
              go_ret
              exact ⟨rfl, HQ11.out.1⟩
end Go.Proofs.YtepaddjjdhpmpaaDoor.HeapA
