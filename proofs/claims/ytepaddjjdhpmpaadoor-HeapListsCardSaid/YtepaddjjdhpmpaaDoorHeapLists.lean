/- HeapLists: its walk. No condition beyond those that each states. -/
import Derived.Test.YtepaddjjdhpmpaaDoorHeapListsP
import Derived.Test.YtepaddjjdhpmpaaDoorHeapLinks
namespace Go.Proofs.YtepaddjjdhpmpaaDoor.HeapA
open Go.RowKit Go.Proofs.YtepaddjjdhpmpaaDoorW.PrintWords Go.Proofs.YtepaddjjdhpmpaaDoorW.PrintLast Go.Proofs.YtepaddjjdhpmpaaDoorW.PrintMore Go.Proofs.YtepaddjjdhpmpaaDoor.HeapK Go.Proofs.YtepaddjjdhpmpaaDoor.PHeapP
set_option linter.unusedVariables false
set_option linter.unusedSimpArgs false
theorem set_q {w0 W : World} {b : Nat} {half : Int} {P P' : PH} (h : HQ w0 W b half P) {p : Int} {i : Nat} {x : S33} {j : Int} (hj : j = (i : Int)) (hp : pSet P p i x = some P') : Calls Tryd.prog 15 #[.pointer (some ⟨b, 0, none⟩), .int .i64 p, .int .i64 j, .agg #[.bool x.f0, .int .i64 x.f1]] W fun e W' => e = .returned (.bool true) ∧ HQ w0 W' b half P' := by
  subst hj
  obtain ⟨hb, Z, h⟩ := h
  refine (set_p h hp).mono ?_
  rintro e W' ⟨rfl, ho⟩
  exact ⟨rfl, HQ.op hb h ho⟩
theorem node_q2 {w0 W : World} {b : Nat} {half : Int} {P : PH} (h : HQ w0 W b half P) {p : Int} {nd : Nd} (hp : pNode P p = some nd) : Calls Tryd.prog 16 #[.pointer (some ⟨b, 0, none⟩), .int .i64 p] W fun e W' => ∃ A c, e = .returned (.tuple #[.int .i64 nd.tag, .slice A nd.fs.length c, .bool true]) ∧ Kd.C k33 W' A nd.fs.length nd.fs ∧ HQ w0 W' b half P ∧ Below W.heap.size W W' := by
  obtain ⟨hb, Z, h⟩ := h
  refine (node_p h hp).mono ?_
  rintro e W' ⟨u, rfl, hR, hb1, h'⟩
  obtain ⟨A, c, hv⟩ := Kd.R_slice hR
  subst hv
  exact ⟨A, c, rfl, (Kd.R_reads' hR).2.2, ⟨hb.trans (hb1.mono hb.size), Z, h'⟩, hb1⟩
/-- The last part: the list is walked. -/
def lsP2 (ring : Bool) (P P2 : PH) (p : Int) : Prop := if ring then pSet P 0 1 ⟨true, p⟩ = some P2 else P2 = P
set_option maxHeartbeats 16000000 in
set_option maxRecDepth 100000 in
theorem lists_walk (a0 a1 : Int) (ring : Bool) (w : World) : Calls Tryd.prog 4 #[.int .i64 a0, .int .i64 a1, .bool ring] w fun e w' => e = .returned (.bool true) ∧ Below w.heap.size w w' := by
  have CF := first_calls w
  have CN := fun W => number_p a0 30 (by decide) (by decide) W
  have CM := fun W => number_p a1 5 (by decide) (by decide) W
  go_enter Tryd.func4, Tryd.ntmps4
  go_wp2_with (first | (go_at_call 8; (with_reducible refine CF.mono ?_); rintro e w1 ⟨rfl, hb1⟩; have HB1 := Aside0.mk hb1; clear hb1 CF) | (go_at_call 9; (with_reducible refine (CN w1).mono ?_); rintro e w2 ⟨k, rfl, hk1, hb2⟩; have HB2 := Aside0.mk (below_step HB1.out hb2); clear hb2 CN) | (go_at_call 9; (with_reducible refine (CM w2).mono ?_); rintro e w3 ⟨m, rfl, hm1, hb3⟩; have HB3 := Aside0.mk (below_step HB2.out hb3); clear hb3 CM) | (go_at_call 10; (with_reducible refine (new_q HB3.out 2000 (by decide) (by decide)).mono ?_); rintro e w4 ⟨rfl, hq4⟩; rw [show (2000 : Int) / 2 = 1000 by decide] at hq4; have HQ4 := Aside0.mk hq4; have C0 := alloc_q (HQ4.out.below (below_alloc (Below.refl _ w4) (.cells #[.bool false, .int .i64 0, .bool false, .int .i64 (-1)] 33))) (c := 2) (c_two w4 ⟨false, 0⟩ ⟨false, -1⟩) (m := 2) rfl ls_first; clear hq4) | (go_at_call 11; go_loud (with_reducible refine C0.mono ?_); rintro e w5 ⟨rfl, hq5⟩; have HQ5 := Aside0.mk hq5; clear hq5 C0))
  have hall := ls_all k (by omega) m (by omega)
  have hex : ∃ P1 p1 P2, lsA m k 1 0 lsP0 = some (P1, p1) ∧ lsP2 ring P1 P2 p1 ∧ lsC ring (k + 1) P2 p1 = true := by
    have hr : lsOk k m ring = true := by cases ring; exact hall.2; exact hall.1
    unfold lsOk at hr
    split at hr
    · cases hr
    · rename_i P1 p1 h1
      cases ring with
      | true =>
        simp only [if_true] at hr
        split at hr
        · cases hr
        · rename_i P2 h2
          exact ⟨P1, p1, P2, h1, h2, hr⟩
      | false => exact ⟨P1, p1, P1, h1, rfl, hr⟩
  obtain ⟨P1, p1, P2, hA, h2, hC⟩ := hex
  obtain ⟨P3, r, h3, h4, h5⟩ := lsC_all hC
  rw [show (((k + 1 : Nat)) : Int) = (k : Int) + 1 from rfl] at h4
  have hA := Aside0.mk hA
  have h2 := Aside0.mk h2
  have h3 := Aside0.mk h3
  have h4 := Aside0.mk h4
  have h5 := Aside0.mk h5
  clear hall hC
  generalize w3.heap.size + 1 = b at *
  go_loopg [11, 13, 14] (k + 2) (fun kq v11 v13 v14 w' => ∃ (i : Nat) (p : Int) (P : PH), v11 = .bool true ∧ v13 = .int .i64 p ∧ v14 = .int .i64 (i : Int) ∧ i + kq = k + 3 ∧ 2 ≤ kq + 1 ∧ Aside0 (HQ w w' b 1000 P) ∧ Aside0 (lsA m (k + 1 - i) i p P = some (P1, p1)) ∧ 1 ≤ i)
  case atStart => exact ⟨1, 0, _, rfl, rfl, rfl, by omega, by omega, HQ5, hA, by omega⟩
  case round =>
    obtain ⟨i, p, P, rfl, rfl, rfl, hi, hk, hq, hr, hi1⟩ := hrel
    by_cases hlt : i < k + 1
    · have q1 : decide ((i : Int) < (k : Int) + 1) = true := decide_eq_true (by omega)
      have hr2 := hr.out
      rw [show k + 1 - i = (k - i) + 1 by omega] at hr2
      obtain ⟨PB, PC1, q, hB, hpa, hrn⟩ := lsA_step hr2
      have hB := Aside0.mk hB
      have hpa := Aside0.mk hpa
      have hrn := Aside0.mk hrn
      clear hr2
      go_wp2
      go_loopg [15] (m + 1) (fun kq v15 w' => ∃ (j : Nat) (P : PH), v15 = .int .i64 (j : Int) ∧ j + kq = m + 1 ∧ 1 ≤ kq ∧ Aside0 (HQ w w' b 1000 P) ∧ Aside0 (lsB p (m - j) P = some PB))
      case atStart => exact ⟨0, _, rfl, by omega, by omega, hq, hB⟩
      case round =>
        clear hq
        obtain ⟨j, P5, rfl, hj, hkj, hq, hb5⟩ := hrel
        by_cases hlj : j < m
        · have q2 : decide ((j : Int) < (m : Int)) = true := decide_eq_true (by omega)
          have q3 : decide (j < m) = true := decide_eq_true hlj
          have hr2 := hb5.out
          rw [show m - j = (m - 1 - j) + 1 by omega] at hr2
          obtain ⟨P6, rr, hp6, hrn6⟩ := lsB_step hr2
          have hrn6 := Aside0.mk hrn6
          have CA := alloc_q (hq.out.below (below_alloc (Below.refl _ wr) (.cells #[.bool true, .int .i64 p] 33))) (c := 1) (c_one wr ⟨true, p⟩) (m := 1) rfl hp6
          clear hp6 hr2
          go_wp2_with (first | (go_at_call 11; go_loud (with_reducible refine CA.mono ?_); rintro e w6 ⟨rfl, hq6⟩; have HQ6 := Aside0.mk hq6; clear hq6 CA))
          go_roundg (gk - 1)
          case measure => omega
          case rel => exact ⟨j + 1, P6, congrArg (Value.int .i64) (by omega), by omega, by omega, HQ6, by rw [show m - (j + 1) = m - 1 - j by omega]; exact hrn6⟩
        · have q2 : decide ((j : Int) < (m : Int)) = false := decide_eq_false (by omega)
          have q3 : decide (j < m) = false := decide_eq_false hlj
          have hr2 := hb5.out
          rw [show m - j = 0 by omega] at hr2
          obtain rfl := Option.some.inj hr2
          clear hr2
          have CA := alloc_q (hq.out.below (below_alloc (Below.refl _ wr) (.cells #[.bool false, .int .i64 (i : Int), .bool true, .int .i64 p] 33))) (c := 2) (c_two wr ⟨false, (i : Int)⟩ ⟨true, p⟩) (m := 2) rfl hpa.out
          go_wp2_with (first | (go_at_call 11; go_loud (with_reducible refine CA.mono ?_); rintro e w6 ⟨rfl, hq6⟩; have HQ6 := Aside0.mk hq6; clear hq6 CA))
          go_roundg (k + 2 - i)
          case measure => omega
          case rel => exact ⟨i + 1, q, PC1, rfl, rfl, congrArg (Value.int .i64) (by omega), by omega, by omega, HQ6, by rw [show k + 1 - (i + 1) = k - i by omega]; exact hrn, by omega⟩
    · have q1 : decide ((i : Int) < (k : Int) + 1) = false := decide_eq_false (by omega)
      have hr2 := hr.out
      rw [show k + 1 - i = 0 by omega] at hr2
      simp only [lsA, Option.some.injEq, Prod.mk.injEq] at hr2
      obtain ⟨rfl, rfl⟩ := hr2
      clear hr
      cases ring with
      | true =>
        have CS := set_q hq.out (i := 1) (j := 1) rfl (show pSet _ 0 1 ⟨true, p⟩ = some P2 from h2.out)
        go_wp2_with (first | (go_at_call 15; go_loud (with_reducible refine CS.mono ?_); rintro e w6 ⟨rfl, hq6⟩; have HQ6 := Aside0.mk hq6; clear hq6 CS; have CC := collect_q (HQ6.out.below (below_alloc (Below.refl _ w6) (.cells #[.bool false, .int .i64 5, .bool true, .int .i64 p] 33))) (c := 2) (c_two w6 ⟨false, 5⟩ ⟨true, p⟩) (m := 2) rfl (by simp) h3.out; simp only [List.length_cons, List.length_nil, Nat.zero_add, Nat.reduceAdd] at CC) | (go_at_call 14; go_loud (with_reducible refine CC.mono ?_); rintro e w8 ⟨A8, c8, rfl, hC8, hq8⟩; have HQ8 := Aside0.mk hq8; obtain ⟨a8, rfl, hp0, hp1, hp2, hp3⟩ := c_pair hC8; have CP := ptr_q HQ8.out; rw [h4.out] at CP; clear hq8 hC8 CC) | (go_at_call 12; go_loud (with_reducible refine CP.mono ?_); rintro e w9 ⟨rfl, rfl⟩; clear CP))
        clear hp0 hp1 hp2
        go_loopg [17, 18] (k + 2) (fun kq v17 v18 w' => ∃ (j : Nat) (p : Int) (i' : Int), v17 = .int .i64 p ∧ v18 = .int .i64 i' ∧ i' = (j : Int) - 1 ∧ kq = j + 1 ∧ j ≤ k + 1 ∧ Aside0 (HQ w w' b 1000 P3) ∧ Aside0 (lsW true P3 r j p = true) ∧ Aside0 (w'.cell? ⟨a8.block, a8.off + 3, none⟩ = some (.int .i64 r)))
        case atStart => exact ⟨k + 1, r, _, rfl, rfl, by omega, by omega, by omega, HQ8, h5, ⟨hp3⟩⟩
        case round =>
          clear HQ8 hp3
          obtain ⟨j, pp, i', rfl, rfl, hij, hkj, hjk, hq8, hw, hcl⟩ := hrel
          cases j with
          | zero =>
            obtain rfl : i' = -1 := by omega
            clear hij
            have t0 : decide ((0 : Int) ≤ -1) = false := by decide
            have hpr : pp = r := by have := hw.out; simpa [lsW] using this
            subst hpr
            have hc := hcl.out
            go_wp2
            go_ret
            exact ⟨by simp, hq8.out.1⟩
          | succ j =>
            obtain rfl : i' = (j : Int) := by omega
            clear hij
            have t1 : decide ((0 : Int) ≤ (j : Int)) = true := decide_eq_true (by omega)
            obtain ⟨nd, y, hn, hnf, hnt, hy⟩ := lsW_step hw.out
            have CNd := node_q2 hq8.out hn
            simp only [hnf, hnt, List.length_cons, List.length_nil, Nat.zero_add, Nat.reduceAdd] at CNd
            clear hn hw hnf hnt
            rcases hy with ⟨rfl, hrr, rfl⟩ | ⟨hne, hy0, hy1⟩
            · cases hrr
            · have hy1 := Aside0.mk hy1
              go_wp2_with (first | (go_at_call 16; go_loud (with_reducible refine CNd.mono ?_); rintro e w10 ⟨A9, c9, rfl, hC9, hq9, hb9⟩; have HQ9 := Aside0.mk hq9; obtain ⟨a9, rfl, hn0, hn1, hn2, hn3⟩ := c_pair hC9; rw [hy0] at hn2; have HCL := Aside0.mk ((hb9.cell (World.block_lt_of_cell? _ _ hcl.out)).trans hcl.out); clear hC9 hq9 hb9 CNd))
              all_goals
                go_roundg (gk - 1)
                case measure => omega
                case rel => exact ⟨j, y.f1, _, rfl, rfl, by omega, by omega, by omega, HQ9, hy1, HCL⟩
      | false =>
        obtain rfl := h2.out
        have CC := collect_q (hq.out.below (below_alloc (Below.refl _ wr) (.cells #[.bool false, .int .i64 5, .bool true, .int .i64 p] 33))) (c := 2) (c_two wr ⟨false, 5⟩ ⟨true, p⟩) (m := 2) rfl (by simp) h3.out
        simp only [List.length_cons, List.length_nil, Nat.zero_add, Nat.reduceAdd] at CC
        go_wp2_with (first | (go_at_call 14; go_loud (with_reducible refine CC.mono ?_); rintro e w8 ⟨A8, c8, rfl, hC8, hq8⟩; have HQ8 := Aside0.mk hq8; obtain ⟨a8, rfl, hp0, hp1, hp2, hp3⟩ := c_pair hC8; have CP := ptr_q HQ8.out; rw [h4.out] at CP; clear hq8 hC8 CC) | (go_at_call 12; go_loud (with_reducible refine CP.mono ?_); rintro e w9 ⟨rfl, rfl⟩; clear CP))
        clear hp0 hp1 hp2
        go_loopg [17, 18] (k + 2) (fun kq v17 v18 w' => ∃ (j : Nat) (p : Int) (i' : Int), v17 = .int .i64 p ∧ v18 = .int .i64 i' ∧ i' = (j : Int) - 1 ∧ kq = j + 1 ∧ j ≤ k + 1 ∧ Aside0 (HQ w w' b 1000 P3) ∧ Aside0 (lsW false P3 r j p = true) ∧ Aside0 (w'.cell? ⟨a8.block, a8.off + 3, none⟩ = some (.int .i64 r)))
        case atStart => exact ⟨k + 1, r, _, rfl, rfl, by omega, by omega, by omega, HQ8, h5, ⟨hp3⟩⟩
        case round =>
          clear HQ8 hp3
          obtain ⟨j, pp, i', rfl, rfl, hij, hkj, hjk, hq8, hw, hcl⟩ := hrel
          cases j with
          | zero =>
            exact absurd hw.out (by simp [lsW])
          | succ j =>
            obtain rfl : i' = (j : Int) := by omega
            clear hij
            have t1 : decide ((0 : Int) ≤ (j : Int)) = true := decide_eq_true (by omega)
            obtain ⟨nd, y, hn, hnf, hnt, hy⟩ := lsW_step hw.out
            have CNd := node_q2 hq8.out hn
            simp only [hnf, hnt, List.length_cons, List.length_nil, Nat.zero_add, Nat.reduceAdd] at CNd
            clear hn hw hnf hnt
            rcases hy with ⟨rfl, hrr, rfl⟩ | ⟨hne, hy0, hy1⟩
            · go_wp2_with (first | (go_at_call 16; go_loud (with_reducible refine CNd.mono ?_); rintro e w10 ⟨A9, c9, rfl, hC9, hq9, hb9⟩; have HQ9 := Aside0.mk hq9; obtain ⟨a9, rfl, hn0, hn1, hn2, hn3⟩ := c_pair hC9; clear hC9 hq9 CNd))
              go_ret
              exact ⟨rfl, HQ9.out.1⟩
            · have hy1 := Aside0.mk hy1
              have hj0 : j ≠ 0 := by rcases hne with h | h; exact h; cases h
              have s1 : ((j : Int) == 0) = false := by simpa using hj0
              have s2 : decide ((j : Int) = 0) = false := by simpa using hj0
              have s3 : decide (j = 0) = false := by simpa using hj0
              have s4 : (j == 0) = false := by simpa using hj0
              go_wp2_with (first | (go_at_call 16; go_loud (with_reducible refine CNd.mono ?_); rintro e w10 ⟨A9, c9, rfl, hC9, hq9, hb9⟩; have HQ9 := Aside0.mk hq9; obtain ⟨a9, rfl, hn0, hn1, hn2, hn3⟩ := c_pair hC9; rw [hy0] at hn2; have HCL := Aside0.mk ((hb9.cell (World.block_lt_of_cell? _ _ hcl.out)).trans hcl.out); clear hC9 hq9 hb9 CNd))
              all_goals
                go_roundg (gk - 1)
                case measure => omega
                case rel => exact ⟨j, y.f1, _, rfl, rfl, by omega, by omega, by omega, HQ9, hy1, HCL⟩
end Go.Proofs.YtepaddjjdhpmpaaDoor.HeapA
