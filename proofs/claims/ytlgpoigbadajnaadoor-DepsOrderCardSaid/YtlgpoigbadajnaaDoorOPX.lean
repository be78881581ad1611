/- Texts of the walks put together: PDepAx5, PDepAx7, PDepAx8, PDepAx9, PDepAx12, PDepAx14. Conditions: as each states. -/
import Derived.Test.YtlgpoigbadajnaaDoorOPDepAx0
namespace Go.Proofs.YtlgpoigbadajnaaDoor.PDepA
open Go.RowKit Go.Proofs.YtlgpoigbadajnaaDoorW.PrintWords Go.Proofs.YtlgpoigbadajnaaDoorW.PrintLast Go.Proofs.YtlgpoigbadajnaaDoorW.PrintMore
attribute [local go_sem] ZG ZP ZY Ve ZC ZB ZQ ZO   -- for this text's walks alone
set_option linter.unusedVariables false
set_option linter.unusedSimpArgs false
def Zh.f  : Option (Int × Bool × Int) := some (0, false, 0)
set_option maxHeartbeats 8000000 in
set_option maxRecDepth 100000 in
theorem Zh.calls  (r1 : Int) (r2 : Bool) (r3 : Int) (w : World) (h : Zh.f  = some (r1, r2, r3)) :
  Calls Tryd.prog 42 #[] w fun e w' => e = .returned (.agg #[.int .i64 r1, .bool r2, .int .i64 r3]) ∧ Below w.heap.size w w' := by
 have hu48 := Tryd.underlying48
 have HB := Qb.mk (Below.refl w.heap.size w)
 have H : (some (0, false, 0)) = some (r1, r2, r3) := h
 clear h
 simp only [Option.some.injEq, Prod.mk.injEq] at H
 obtain ⟨rfl, rfl, rfl⟩ := H
 go_enter Tryd.func42, Tryd.ntmps42
 go_wp2_with (first | ((with_reducible refine Zb (N := 0) rfl ?_); refine Zp ?hg (N := 0) ?hd (cs := #[.int .i64 0, .bool false, .int .i64 0]) (t := 48) ?hr ?_; (case hd => rfl); (case hg => rfl); (case hr => first | (go_simp; done) | (go_simp; rfl)); intro gb374 hg w1 hbox hb; have n0_ := Qb.mk (Qe (by repeat (first | (with_reducible first | exact HB.out | apply Qd | apply Qh | apply Qi) | exact HB.out)) hb); have n1_ := Qb.mk (hbox); have n2_ := Qb.mk ((by rw [hg]; exact (QC (by repeat (first | (with_reducible first | exact HB.out | apply Qd | apply Qh | apply Qi) | exact HB.out))) : w.heap.size ≤ gb374)); have n3_ := Qb.mk ((by rw [hg]; exact (QC (by repeat (first | (with_reducible first | exact HB.out | apply Qd | apply Qh | apply Qi) | exact HB.out))) : w.heap.size ≤ gb374)); clear HB; have HB := n0_; have BK374 := n1_; have GW374 := n2_; have GE374 := n3_; clear n0_ n1_ n2_ n3_; clear hb hbox hg; have hcz2_0 : w1.cell? ⟨gb374, 0, none⟩ = some (.int .i64 0) := (Qa BK374.out 0).trans rfl; have hcz2_1 : w1.cell? ⟨gb374, 1, none⟩ = some (.bool false) := (Qa BK374.out 1).trans rfl; have hcz2_2 : w1.cell? ⟨gb374, 2, none⟩ = some (.int .i64 0) := (Qa BK374.out 2).trans rfl; have hfz2_0 := Qg BK374.out 0; have hfz2_1 := Qg BK374.out 1; have hfz2_2 := Qg BK374.out 2))
 refine bodyPost_ret (results_cell_row rfl _ _ gb374 48 #[.int .i64 0, .bool false, .int .i64 0] (0, 0) _ rfl (by (with_reducible repeat (first | refine QK ?_ _ | refine QS ?_ | refine QL ?_ _)); refine QP (cs := #[.int .i64 0, .bool false, .int .i64 0]) ?_ 2 _ rfl; (with_reducible repeat (first | refine QK ?_ _ | refine QS ?_ | refine QL ?_ _)); refine QP (cs := #[.int .i64 0, .bool false, .int .i64 0]) ?_ 1 _ rfl; (with_reducible repeat (first | refine QK ?_ _ | refine QS ?_ | refine QL ?_ _)); refine QP (cs := #[.int .i64 0, .bool false, .int .i64 0]) ?_ 0 _ rfl; (with_reducible repeat (first | refine QK ?_ _ | refine QS ?_ | refine QL ?_ _)); exact BK374.out) Tryd.underlying48 rfl (by kernel_rfl)) rfl ?_
 exact ⟨by first | rfl | (simp [Qp, Qo] <;> rfl) | (simp [*, Qp, Qo] <;> rfl) | (simp [Qp, Qo] <;> (rw [Bool.eq_iff_iff]; simp; done)), by repeat (first | (with_reducible first | exact HB.out | apply Qd | apply Qh | apply Qi | refine QJ ?_ GE374.out) | exact HB.out)⟩
def Zq.f (a0 : Int) (a1 : Int) : Option (Int × Bool × Int) := if a0 = 0 then ((Zh.f).bind fun bt376 => (some (bt376.1, bt376.2.1, bt376.2.2))) else (some (a0, true, a1))
set_option maxHeartbeats 8000000 in
set_option maxRecDepth 100000 in
theorem Zq.calls (a0 : Int) (a1 : Int) (r1 : Int) (r2 : Bool) (r3 : Int) (w : World) (h : Zq.f a0 a1 = some (r1, r2, r3)) :
  Calls Tryd.prog 37 #[.int .i64 a0, .int .i64 a1] w fun e w' => e = .returned (.agg #[.int .i64 r1, .bool r2, .int .i64 r3]) ∧ Below w.heap.size w w' := by
 have hu48 := Tryd.underlying48
 have HB := Qb.mk (Below.refl w.heap.size w)
 have H : (if a0 = 0 then ((Zh.f).bind fun bt376 => (some (bt376.1, bt376.2.1, bt376.2.2))) else (some (a0, true, a1))) = some (r1, r2, r3) := h
 clear h
 by_cases c3 : a0 = 0
 ·rw [if_pos c3] at H
  have c3b0 : (a0 == 0) = true := beq_iff_eq.mpr c3
  have c3b1 : (a0 != 0) = false := bne_eq_false_iff_eq.mpr c3
  clear c3
  replace H := Option.bind_eq_some_iff.mp H
  obtain ⟨⟨t376, t377, t378⟩, A40, H⟩ := H
  replace H : (some (t376, t377, t378)) = some (r1, r2, r3) := H
  have A4 := Qb.mk A40
  clear A40
  simp only [Option.some.injEq, Prod.mk.injEq] at H
  obtain ⟨rfl, rfl, rfl⟩ := H
  go_enter Tryd.func37, Tryd.ntmps37
  go_wp2_with (first | ((with_reducible refine Zb (N := 4) rfl ?_); refine Zp ?hg (N := 4) ?hd (cs := #[.int .i64 0, .bool false, .int .i64 0]) (t := 48) ?hr ?_; (case hd => rfl); (case hg => rfl); (case hr => first | (go_simp; done) | (go_simp; rfl)); intro gb375 hg w5 hbox hb; have n0_ := Qb.mk (Qe (by repeat (first | (with_reducible first | exact HB.out | apply Qd | apply Qh | apply Qi) | exact HB.out)) hb); have n1_ := Qb.mk (hbox); have n2_ := Qb.mk ((by rw [hg]; exact (QC (by repeat (first | (with_reducible first | exact HB.out | apply Qd | apply Qh | apply Qi) | exact HB.out))) : w.heap.size ≤ gb375)); have n3_ := Qb.mk ((by rw [hg]; exact (QC (by repeat (first | (with_reducible first | exact HB.out | apply Qd | apply Qh | apply Qi) | exact HB.out))) : w.heap.size ≤ gb375)); clear HB; have HB := n0_; have BK375 := n1_; have GW375 := n2_; have GE375 := n3_; clear n0_ n1_ n2_ n3_; clear hb hbox hg) | ((with_reducible refine QY (f := 42) rfl ?_); refine Vp (some 7) rfl rfl Tryd.func42 (by kernel_rfl) rfl #[] rfl (by (try simp only [List.map_toArray, List.map_cons, List.map_nil]); first | done | rfl | (simp only [List.length_drop, List.length_take]; rfl)) ?_; (with_reducible refine (Zh.calls  t376 t377 t378 _ A4.out).mono ?_); rintro e w6 ⟨rfl, hb⟩; refine ⟨_, rfl, ?_⟩; have n0_ := Qb.mk (Qc (g := gb375) (o := .cells #[.int .i64 0, .bool false, .int .i64 0] 48 (0, 0)) (by (with_reducible repeat (first | refine QK ?_ _ | refine QS ?_ | refine QL ?_ _)); exact BK375.out) hb); have n1_ := Qb.mk (Qe (by repeat (first | (with_reducible first | exact HB.out | apply Qd | apply Qh | apply Qi | refine QJ ?_ GE375.out) | exact HB.out)) hb); clear BK375; clear HB; have BK375 := n0_; have HB := n1_; clear n0_ n1_; (try clear hb); (try clear hb2); (try clear hk); (try clear hi); have hcz7_0 : w6.cell? ⟨gb375, 0, none⟩ = some (.int .i64 0) := (Qa BK375.out 0).trans rfl; have hcz7_1 : w6.cell? ⟨gb375, 1, none⟩ = some (.bool false) := (Qa BK375.out 1).trans rfl; have hcz7_2 : w6.cell? ⟨gb375, 2, none⟩ = some (.int .i64 0) := (Qa BK375.out 2).trans rfl; have hfz7_0 := Qg BK375.out 0; have hfz7_1 := Qg BK375.out 1; have hfz7_2 := Qg BK375.out 2))
  refine bodyPost_ret (results_cell_row rfl _ _ gb375 48 #[.int .i64 t376, .bool t377, .int .i64 t378] (0, 0) _ rfl (by (with_reducible repeat (first | refine QK ?_ _ | refine QS ?_ | refine QL ?_ _)); refine QP (cs := #[.int .i64 t376, .bool t377, .int .i64 0]) ?_ 2 _ rfl; (with_reducible repeat (first | refine QK ?_ _ | refine QS ?_ | refine QL ?_ _)); refine QP (cs := #[.int .i64 t376, .bool false, .int .i64 0]) ?_ 1 _ rfl; (with_reducible repeat (first | refine QK ?_ _ | refine QS ?_ | refine QL ?_ _)); refine QP (cs := #[.int .i64 0, .bool false, .int .i64 0]) ?_ 0 _ rfl; (with_reducible repeat (first | refine QK ?_ _ | refine QS ?_ | refine QL ?_ _)); exact BK375.out) Tryd.underlying48 rfl (by kernel_rfl)) rfl ?_
  exact ⟨by first | rfl | (simp [Qp, Qo] <;> rfl) | (simp [*, Qp, Qo] <;> rfl) | (simp [Qp, Qo] <;> (rw [Bool.eq_iff_iff]; simp; done)), by repeat (first | (with_reducible first | exact HB.out | apply Qd | apply Qh | apply Qi | refine QJ ?_ GE375.out) | exact HB.out)⟩
 ·rw [if_neg c3] at H
  have c3b0 : (a0 == 0) = false := beq_eq_false_iff_ne.mpr c3
  have c3b1 : (a0 != 0) = true := bne_iff_ne.mpr c3
  simp only [Option.some.injEq, Prod.mk.injEq] at H
  obtain ⟨rfl, rfl, rfl⟩ := H
  go_enter Tryd.func37, Tryd.ntmps37
  go_wp2_with (first | ((with_reducible refine Zb (N := 4) rfl ?_); refine Zp ?hg (N := 4) ?hd (cs := #[.int .i64 0, .bool false, .int .i64 0]) (t := 48) ?hr ?_; (case hd => rfl); (case hg => rfl); (case hr => first | (go_simp; done) | (go_simp; rfl)); intro gb375 hg w8 hbox hb; have n0_ := Qb.mk (Qe (by repeat (first | (with_reducible first | exact HB.out | apply Qd | apply Qh | apply Qi) | exact HB.out)) hb); have n1_ := Qb.mk (hbox); have n2_ := Qb.mk ((by rw [hg]; exact (QC (by repeat (first | (with_reducible first | exact HB.out | apply Qd | apply Qh | apply Qi) | exact HB.out))) : w.heap.size ≤ gb375)); have n3_ := Qb.mk ((by rw [hg]; exact (QC (by repeat (first | (with_reducible first | exact HB.out | apply Qd | apply Qh | apply Qi) | exact HB.out))) : w.heap.size ≤ gb375)); clear HB; have HB := n0_; have BK375 := n1_; have GW375 := n2_; have GE375 := n3_; clear n0_ n1_ n2_ n3_; clear hb hbox hg; have hcz9_0 : w8.cell? ⟨gb375, 0, none⟩ = some (.int .i64 0) := (Qa BK375.out 0).trans rfl; have hcz9_1 : w8.cell? ⟨gb375, 1, none⟩ = some (.bool false) := (Qa BK375.out 1).trans rfl; have hcz9_2 : w8.cell? ⟨gb375, 2, none⟩ = some (.int .i64 0) := (Qa BK375.out 2).trans rfl; have hfz9_0 := Qg BK375.out 0; have hfz9_1 := Qg BK375.out 1; have hfz9_2 := Qg BK375.out 2))
  refine bodyPost_ret (results_cell_row rfl _ _ gb375 48 #[.int .i64 a0, .bool true, .int .i64 a1] (0, 0) _ rfl (by (with_reducible repeat (first | refine QK ?_ _ | refine QS ?_ | refine QL ?_ _)); refine QP (cs := #[.int .i64 a0, .bool true, .int .i64 0]) ?_ 2 _ rfl; (with_reducible repeat (first | refine QK ?_ _ | refine QS ?_ | refine QL ?_ _)); refine QP (cs := #[.int .i64 a0, .bool false, .int .i64 0]) ?_ 1 _ rfl; (with_reducible repeat (first | refine QK ?_ _ | refine QS ?_ | refine QL ?_ _)); refine QP (cs := #[.int .i64 0, .bool false, .int .i64 0]) ?_ 0 _ rfl; (with_reducible repeat (first | refine QK ?_ _ | refine QS ?_ | refine QL ?_ _)); exact BK375.out) Tryd.underlying48 rfl (by kernel_rfl)) rfl ?_
  exact ⟨by first | rfl | (simp [Qp, Qo] <;> rfl) | (simp [*, Qp, Qo] <;> rfl) | (simp [Qp, Qo] <;> (rw [Bool.eq_iff_iff]; simp; done)), by repeat (first | (with_reducible first | exact HB.out | apply Qd | apply Qh | apply Qi | refine QJ ?_ GE375.out) | exact HB.out)⟩
def Vo.f (a0 : Int) : Option (Int × Bool × Int) := some (a0, false, 0)
set_option maxHeartbeats 8000000 in
set_option maxRecDepth 100000 in
theorem Vo.calls (a0 : Int) (r1 : Int) (r2 : Bool) (r3 : Int) (w : World) (h : Vo.f a0 = some (r1, r2, r3)) :
  Calls Tryd.prog 41 #[.int .i64 a0] w fun e w' => e = .returned (.agg #[.int .i64 r1, .bool r2, .int .i64 r3]) ∧ Below w.heap.size w w' := by
 have hu48 := Tryd.underlying48
 have HB := Qb.mk (Below.refl w.heap.size w)
 have H : (some (a0, false, 0)) = some (r1, r2, r3) := h
 clear h
 simp only [Option.some.injEq, Prod.mk.injEq] at H
 obtain ⟨rfl, rfl, rfl⟩ := H
 go_enter Tryd.func41, Tryd.ntmps41
 go_wp2_with (first | ((with_reducible refine Zb (N := 2) rfl ?_); refine Zp ?hg (N := 2) ?hd (cs := #[.int .i64 0, .bool false, .int .i64 0]) (t := 48) ?hr ?_; (case hd => rfl); (case hg => rfl); (case hr => first | (go_simp; done) | (go_simp; rfl)); intro gb379 hg w2 hbox hb; have n0_ := Qb.mk (Qe (by repeat (first | (with_reducible first | exact HB.out | apply Qd | apply Qh | apply Qi) | exact HB.out)) hb); have n1_ := Qb.mk (hbox); have n2_ := Qb.mk ((by rw [hg]; exact (QC (by repeat (first | (with_reducible first | exact HB.out | apply Qd | apply Qh | apply Qi) | exact HB.out))) : w.heap.size ≤ gb379)); have n3_ := Qb.mk ((by rw [hg]; exact (QC (by repeat (first | (with_reducible first | exact HB.out | apply Qd | apply Qh | apply Qi) | exact HB.out))) : w.heap.size ≤ gb379)); clear HB; have HB := n0_; have BK379 := n1_; have GW379 := n2_; have GE379 := n3_; clear n0_ n1_ n2_ n3_; clear hb hbox hg; have hcz3_0 : w2.cell? ⟨gb379, 0, none⟩ = some (.int .i64 0) := (Qa BK379.out 0).trans rfl; have hcz3_1 : w2.cell? ⟨gb379, 1, none⟩ = some (.bool false) := (Qa BK379.out 1).trans rfl; have hcz3_2 : w2.cell? ⟨gb379, 2, none⟩ = some (.int .i64 0) := (Qa BK379.out 2).trans rfl; have hfz3_0 := Qg BK379.out 0; have hfz3_1 := Qg BK379.out 1; have hfz3_2 := Qg BK379.out 2))
 refine bodyPost_ret (results_cell_row rfl _ _ gb379 48 #[.int .i64 a0, .bool false, .int .i64 0] (0, 0) _ rfl (by (with_reducible repeat (first | refine QK ?_ _ | refine QS ?_ | refine QL ?_ _)); refine QP (cs := #[.int .i64 a0, .bool false, .int .i64 0]) ?_ 2 _ rfl; (with_reducible repeat (first | refine QK ?_ _ | refine QS ?_ | refine QL ?_ _)); refine QP (cs := #[.int .i64 a0, .bool false, .int .i64 0]) ?_ 1 _ rfl; (with_reducible repeat (first | refine QK ?_ _ | refine QS ?_ | refine QL ?_ _)); refine QP (cs := #[.int .i64 0, .bool false, .int .i64 0]) ?_ 0 _ rfl; (with_reducible repeat (first | refine QK ?_ _ | refine QS ?_ | refine QL ?_ _)); exact BK379.out) Tryd.underlying48 rfl (by kernel_rfl)) rfl ?_
 exact ⟨by first | rfl | (simp [Qp, Qo] <;> rfl) | (simp [*, Qp, Qo] <;> rfl) | (simp [Qp, Qo] <;> (rw [Bool.eq_iff_iff]; simp; done)), by repeat (first | (with_reducible first | exact HB.out | apply Qd | apply Qh | apply Qi | refine QJ ?_ GE379.out) | exact HB.out)⟩
attribute [local go_sem] ZG ZP ZY Ve ZC ZB ZQ ZO   -- for this text's walks alone
set_option linter.unusedVariables false
set_option linter.unusedSimpArgs false
def Qm.l0 : Nat → ByteArray → Int → Option (Bool)
 | 0, _, _ => none
 | k + 1, x0, x3 => if x3 < (x0.size : Int) then (if 0 ≤ x3 then (if (bt x0 x3) ≥ 97 then (if (bt x0 x3) ≤ 122 then (Qm.l0 k x0 (wrap64 (x3 + 1))) else (if (bt x0 x3) ≥ 65 then (if (bt x0 x3) ≤ 90 then (Qm.l0 k x0 (wrap64 (x3 + 1))) else (if (bt x0 x3) ≥ 48 then (if (bt x0 x3) ≤ 57 then (Qm.l0 k x0 (wrap64 (x3 + 1))) else (if ((bt x0 x3) = 95) then (Qm.l0 k x0 (wrap64 (x3 + 1))) else (some false))) else (if ((bt x0 x3) = 95) then (Qm.l0 k x0 (wrap64 (x3 + 1))) else (some false)))) else (if (bt x0 x3) ≥ 48 then (if (bt x0 x3) ≤ 57 then (Qm.l0 k x0 (wrap64 (x3 + 1))) else (if ((bt x0 x3) = 95) then (Qm.l0 k x0 (wrap64 (x3 + 1))) else (some false))) else (if ((bt x0 x3) = 95) then (Qm.l0 k x0 (wrap64 (x3 + 1))) else (some false))))) else (if (bt x0 x3) ≥ 65 then (if (bt x0 x3) ≤ 90 then (Qm.l0 k x0 (wrap64 (x3 + 1))) else (if (bt x0 x3) ≥ 48 then (if (bt x0 x3) ≤ 57 then (Qm.l0 k x0 (wrap64 (x3 + 1))) else (if ((bt x0 x3) = 95) then (Qm.l0 k x0 (wrap64 (x3 + 1))) else (some false))) else (if ((bt x0 x3) = 95) then (Qm.l0 k x0 (wrap64 (x3 + 1))) else (some false)))) else (if (bt x0 x3) ≥ 48 then (if (bt x0 x3) ≤ 57 then (Qm.l0 k x0 (wrap64 (x3 + 1))) else (if ((bt x0 x3) = 95) then (Qm.l0 k x0 (wrap64 (x3 + 1))) else (some false))) else (if ((bt x0 x3) = 95) then (Qm.l0 k x0 (wrap64 (x3 + 1))) else (some false))))) else (none)) else (some (decide ((x0.size : Int) ≤ 40)))
def Qm.f (k : Nat) (a0 : ByteArray) : Option (Bool) := Qm.l0 k a0 1
theorem Qm.QW : ∀ k, (∀ y0 y1, LeO (Qm.l0 k y0 y1) (Qm.l0 (k + 1) y0 y1))
 | 0 => fun _ _ r h => by simp [Qm.l0] at h
 | k + 1 => by
  have ih0 := Qm.QW k
  ·intro y0 y1
   unfold Qm.l0
   repeat' first
   | (with_reducible exact ih0 _ _)
   | (with_reducible exact LeO.refl _)
   | (with_reducible exact LeO.none _)
   | (with_reducible refine LeO.ite ?_ ?_)
   | (with_reducible refine LeO.bind ?_ (fun _ => ?_))
   | exact ih0 _ _
   | exact LeO.none _
   | refine LeO.ite ?_ ?_
   | refine LeO.bind ?_ (fun _ => ?_)
theorem Qm.mono : ∀ a0 k, LeO (Qm.f k a0) (Qm.f (k + 1) a0) := by
 intro a0 k
 have ih0 := Qm.QW k
 unfold Qm.f
 repeat' first
   | (with_reducible exact ih0 _ _)
   | (with_reducible exact LeO.refl _)
   | (with_reducible exact LeO.none _)
   | (with_reducible refine LeO.ite ?_ ?_)
   | (with_reducible refine LeO.bind ?_ (fun _ => ?_))
   | exact ih0 _ _
   | exact LeO.none _
   | refine LeO.ite ?_ ?_
   | refine LeO.bind ?_ (fun _ => ?_)
set_option maxHeartbeats 8000000 in
set_option maxRecDepth 100000 in
theorem Qm.calls (k : Nat) (a0 : ByteArray) (r : Bool) (w : World) (h : Qm.f k a0 = some r) :
  Calls Tryd.prog 80 #[.string a0] w fun e w' => e = .returned (.bool r) ∧ Qx w w' := by
 have H : (Qm.l0 k a0 1) = some r := h
 clear h
 have H' := Qb.mk H
 clear H
 go_enter Tryd.func80, Tryd.ntmps80
 go_wp2
 go_loopg [3] k (fun kq v3 w' => ∃ (x3_1 : Int), v3 = .int .i64 x3_1 ∧ Qb (Qm.l0 kq a0 x3_1 = some r) ∧ Qb (kq ≤ k) ∧ Qx w w')
 case atStart => exact ⟨(1), (by first | rfl | (simp; done) | (simp [*]; done)), H', ⟨Nat.le_refl _⟩, by repeat (first | exact Qx.refl _ | apply Qx.step)⟩
 case round =>
  clear H'
  obtain ⟨x3_1, rfl, HA, HK1, ⟨m1, rfl⟩⟩ := hrel
  cases gk with
  | zero => exact absurd HA.out (by simp [Qm.l0])
  | succ k1 =>
   have H := HA.out
   clear HA
   simp only [Qm.l0] at H
   by_cases c2 : x3_1 < (a0.size : Int)
   ·rw [if_pos c2] at H
    have c2b0 : decide (x3_1 < (a0.size : Int)) = true := decide_eq_true c2
    clear c2
    by_cases c3 : 0 ≤ x3_1
    ·rw [if_pos c3] at H
     have c3b0 : decide (0 ≤ x3_1) = true := decide_eq_true c3
     clear c3
     by_cases c5 : (bt a0 x3_1) ≥ 97
     ·rw [if_pos c5] at H
      have c5b0 : decide (97 ≤ (bt a0 x3_1)) = true := decide_eq_true c5
      clear c5
      by_cases c6 : (bt a0 x3_1) ≤ 122
      ·rw [if_pos c6] at H
       have c6b0 : decide ((bt a0 x3_1) ≤ 122) = true := decide_eq_true c6
       clear c6
       have H' := Qb.mk H
       clear H
       have p4 : 0 ≤ (x3_1 : Int) := of_decide_eq_true (by first | (with_reducible assumption) | assumption)
       have q4 : x3_1 < (a0.size : Int) := of_decide_eq_true (by first | (with_reducible assumption) | assumption)
       have hx4 := Zm a0 x3_1
       replace p4 := eq_true p4
       replace q4 := eq_true q4
       go_wp2
       go_roundg k1
       case measure => have := HK1.out; omega
       case rel => exact ⟨(wrap64 (x3_1 + 1)), (by first | rfl | (simp; done) | (simp [*]; done)), H', ⟨by have := HK1.out; omega⟩, by repeat (first | exact Qx.refl _ | apply Qx.step)⟩
      ·rw [if_neg c6] at H
       have c6b0 : decide ((bt a0 x3_1) ≤ 122) = false := decide_eq_false c6
       clear c6
       by_cases c7 : (bt a0 x3_1) ≥ 65
       ·rw [if_pos c7] at H
        have c7b0 : decide (65 ≤ (bt a0 x3_1)) = true := decide_eq_true c7
        clear c7
        by_cases c8 : (bt a0 x3_1) ≤ 90
        ·rw [if_pos c8] at H
         have c8b0 : decide ((bt a0 x3_1) ≤ 90) = true := decide_eq_true c8
         clear c8
         have H' := Qb.mk H
         clear H
         have p4 : 0 ≤ (x3_1 : Int) := of_decide_eq_true (by first | (with_reducible assumption) | assumption)
         have q4 : x3_1 < (a0.size : Int) := of_decide_eq_true (by first | (with_reducible assumption) | assumption)
         have hx4 := Zm a0 x3_1
         replace p4 := eq_true p4
         replace q4 := eq_true q4
         go_wp2
         go_roundg k1
         case measure => have := HK1.out; omega
         case rel => exact ⟨(wrap64 (x3_1 + 1)), (by first | rfl | (simp; done) | (simp [*]; done)), H', ⟨by have := HK1.out; omega⟩, by repeat (first | exact Qx.refl _ | apply Qx.step)⟩
        ·rw [if_neg c8] at H
         have c8b0 : decide ((bt a0 x3_1) ≤ 90) = false := decide_eq_false c8
         clear c8
         by_cases c9 : (bt a0 x3_1) ≥ 48
         ·rw [if_pos c9] at H
          have c9b0 : decide (48 ≤ (bt a0 x3_1)) = true := decide_eq_true c9
          clear c9
          by_cases c10 : (bt a0 x3_1) ≤ 57
          ·rw [if_pos c10] at H
           have c10b0 : decide ((bt a0 x3_1) ≤ 57) = true := decide_eq_true c10
           clear c10
           have H' := Qb.mk H
           clear H
           have p4 : 0 ≤ (x3_1 : Int) := of_decide_eq_true (by first | (with_reducible assumption) | assumption)
           have q4 : x3_1 < (a0.size : Int) := of_decide_eq_true (by first | (with_reducible assumption) | assumption)
           have hx4 := Zm a0 x3_1
           replace p4 := eq_true p4
           replace q4 := eq_true q4
           go_wp2
           go_roundg k1
           case measure => have := HK1.out; omega
           case rel => exact ⟨(wrap64 (x3_1 + 1)), (by first | rfl | (simp; done) | (simp [*]; done)), H', ⟨by have := HK1.out; omega⟩, by repeat (first | exact Qx.refl _ | apply Qx.step)⟩
          ·rw [if_neg c10] at H
           have c10b0 : decide ((bt a0 x3_1) ≤ 57) = false := decide_eq_false c10
           clear c10
           by_cases c11 : ((bt a0 x3_1) = 95)
           ·rw [if_pos c11] at H
            have c11b0 : ((bt a0 x3_1) == 95) = true := beq_iff_eq.mpr c11
            have c11b1 : ((bt a0 x3_1) != 95) = false := bne_eq_false_iff_eq.mpr c11
            clear c11
            have H' := Qb.mk H
            clear H
            have p4 : 0 ≤ (x3_1 : Int) := of_decide_eq_true (by first | (with_reducible assumption) | assumption)
            have q4 : x3_1 < (a0.size : Int) := of_decide_eq_true (by first | (with_reducible assumption) | assumption)
            have hx4 := Zm a0 x3_1
            replace p4 := eq_true p4
            replace q4 := eq_true q4
            go_wp2
            go_roundg k1
            case measure => have := HK1.out; omega
            case rel => exact ⟨(wrap64 (x3_1 + 1)), (by first | rfl | (simp; done) | (simp [*]; done)), H', ⟨by have := HK1.out; omega⟩, by repeat (first | exact Qx.refl _ | apply Qx.step)⟩
           ·rw [if_neg c11] at H
            have c11b0 : ((bt a0 x3_1) == 95) = false := beq_eq_false_iff_ne.mpr c11
            have c11b1 : ((bt a0 x3_1) != 95) = true := bne_iff_ne.mpr c11
            obtain rfl := Option.some.inj H
            have p4 : 0 ≤ (x3_1 : Int) := of_decide_eq_true (by first | (with_reducible assumption) | assumption)
            have q4 : x3_1 < (a0.size : Int) := of_decide_eq_true (by first | (with_reducible assumption) | assumption)
            have hx4 := Zm a0 x3_1
            replace p4 := eq_true p4
            replace q4 := eq_true q4
            go_wp2
            go_ret
            exact ⟨by first | rfl | (simp; done) | (simp [*]; done), by repeat (first | exact Qx.refl _ | apply Qx.step)⟩
         ·rw [if_neg c9] at H
          have c9b0 : decide (48 ≤ (bt a0 x3_1)) = false := decide_eq_false c9
          clear c9
          by_cases c12 : ((bt a0 x3_1) = 95)
          ·rw [if_pos c12] at H
           have c12b0 : ((bt a0 x3_1) == 95) = true := beq_iff_eq.mpr c12
           have c12b1 : ((bt a0 x3_1) != 95) = false := bne_eq_false_iff_eq.mpr c12
           clear c12
           have H' := Qb.mk H
           clear H
           have p4 : 0 ≤ (x3_1 : Int) := of_decide_eq_true (by first | (with_reducible assumption) | assumption)
           have q4 : x3_1 < (a0.size : Int) := of_decide_eq_true (by first | (with_reducible assumption) | assumption)
           have hx4 := Zm a0 x3_1
           replace p4 := eq_true p4
           replace q4 := eq_true q4
           go_wp2
           go_roundg k1
           case measure => have := HK1.out; omega
           case rel => exact ⟨(wrap64 (x3_1 + 1)), (by first | rfl | (simp; done) | (simp [*]; done)), H', ⟨by have := HK1.out; omega⟩, by repeat (first | exact Qx.refl _ | apply Qx.step)⟩
          ·rw [if_neg c12] at H
           have c12b0 : ((bt a0 x3_1) == 95) = false := beq_eq_false_iff_ne.mpr c12
           have c12b1 : ((bt a0 x3_1) != 95) = true := bne_iff_ne.mpr c12
           obtain rfl := Option.some.inj H
           have p4 : 0 ≤ (x3_1 : Int) := of_decide_eq_true (by first | (with_reducible assumption) | assumption)
           have q4 : x3_1 < (a0.size : Int) := of_decide_eq_true (by first | (with_reducible assumption) | assumption)
           have hx4 := Zm a0 x3_1
           replace p4 := eq_true p4
           replace q4 := eq_true q4
           go_wp2
           go_ret
           exact ⟨by first | rfl | (simp; done) | (simp [*]; done), by repeat (first | exact Qx.refl _ | apply Qx.step)⟩
       ·rw [if_neg c7] at H
        have c7b0 : decide (65 ≤ (bt a0 x3_1)) = false := decide_eq_false c7
        clear c7
        by_cases c13 : (bt a0 x3_1) ≥ 48
        ·rw [if_pos c13] at H
         have c13b0 : decide (48 ≤ (bt a0 x3_1)) = true := decide_eq_true c13
         clear c13
         by_cases c14 : (bt a0 x3_1) ≤ 57
         ·rw [if_pos c14] at H
          have c14b0 : decide ((bt a0 x3_1) ≤ 57) = true := decide_eq_true c14
          clear c14
          have H' := Qb.mk H
          clear H
          have p4 : 0 ≤ (x3_1 : Int) := of_decide_eq_true (by first | (with_reducible assumption) | assumption)
          have q4 : x3_1 < (a0.size : Int) := of_decide_eq_true (by first | (with_reducible assumption) | assumption)
          have hx4 := Zm a0 x3_1
          replace p4 := eq_true p4
          replace q4 := eq_true q4
          go_wp2
          go_roundg k1
          case measure => have := HK1.out; omega
          case rel => exact ⟨(wrap64 (x3_1 + 1)), (by first | rfl | (simp; done) | (simp [*]; done)), H', ⟨by have := HK1.out; omega⟩, by repeat (first | exact Qx.refl _ | apply Qx.step)⟩
         ·rw [if_neg c14] at H
          have c14b0 : decide ((bt a0 x3_1) ≤ 57) = false := decide_eq_false c14
          clear c14
          by_cases c15 : ((bt a0 x3_1) = 95)
          ·rw [if_pos c15] at H
           have c15b0 : ((bt a0 x3_1) == 95) = true := beq_iff_eq.mpr c15
           have c15b1 : ((bt a0 x3_1) != 95) = false := bne_eq_false_iff_eq.mpr c15
           clear c15
           have H' := Qb.mk H
           clear H
           have p4 : 0 ≤ (x3_1 : Int) := of_decide_eq_true (by first | (with_reducible assumption) | assumption)
           have q4 : x3_1 < (a0.size : Int) := of_decide_eq_true (by first | (with_reducible assumption) | assumption)
           have hx4 := Zm a0 x3_1
           replace p4 := eq_true p4
           replace q4 := eq_true q4
           go_wp2
           go_roundg k1
           case measure => have := HK1.out; omega
           case rel => exact ⟨(wrap64 (x3_1 + 1)), (by first | rfl | (simp; done) | (simp [*]; done)), H', ⟨by have := HK1.out; omega⟩, by repeat (first | exact Qx.refl _ | apply Qx.step)⟩
          ·rw [if_neg c15] at H
           have c15b0 : ((bt a0 x3_1) == 95) = false := beq_eq_false_iff_ne.mpr c15
           have c15b1 : ((bt a0 x3_1) != 95) = true := bne_iff_ne.mpr c15
           obtain rfl := Option.some.inj H
           have p4 : 0 ≤ (x3_1 : Int) := of_decide_eq_true (by first | (with_reducible assumption) | assumption)
           have q4 : x3_1 < (a0.size : Int) := of_decide_eq_true (by first | (with_reducible assumption) | assumption)
           have hx4 := Zm a0 x3_1
           replace p4 := eq_true p4
           replace q4 := eq_true q4
           go_wp2
           go_ret
           exact ⟨by first | rfl | (simp; done) | (simp [*]; done), by repeat (first | exact Qx.refl _ | apply Qx.step)⟩
        ·rw [if_neg c13] at H
         have c13b0 : decide (48 ≤ (bt a0 x3_1)) = false := decide_eq_false c13
         clear c13
         by_cases c16 : ((bt a0 x3_1) = 95)
         ·rw [if_pos c16] at H
          have c16b0 : ((bt a0 x3_1) == 95) = true := beq_iff_eq.mpr c16
          have c16b1 : ((bt a0 x3_1) != 95) = false := bne_eq_false_iff_eq.mpr c16
          clear c16
          have H' := Qb.mk H
          clear H
          have p4 : 0 ≤ (x3_1 : Int) := of_decide_eq_true (by first | (with_reducible assumption) | assumption)
          have q4 : x3_1 < (a0.size : Int) := of_decide_eq_true (by first | (with_reducible assumption) | assumption)
          have hx4 := Zm a0 x3_1
          replace p4 := eq_true p4
          replace q4 := eq_true q4
          go_wp2
          go_roundg k1
          case measure => have := HK1.out; omega
          case rel => exact ⟨(wrap64 (x3_1 + 1)), (by first | rfl | (simp; done) | (simp [*]; done)), H', ⟨by have := HK1.out; omega⟩, by repeat (first | exact Qx.refl _ | apply Qx.step)⟩
         ·rw [if_neg c16] at H
          have c16b0 : ((bt a0 x3_1) == 95) = false := beq_eq_false_iff_ne.mpr c16
          have c16b1 : ((bt a0 x3_1) != 95) = true := bne_iff_ne.mpr c16
          obtain rfl := Option.some.inj H
          have p4 : 0 ≤ (x3_1 : Int) := of_decide_eq_true (by first | (with_reducible assumption) | assumption)
          have q4 : x3_1 < (a0.size : Int) := of_decide_eq_true (by first | (with_reducible assumption) | assumption)
          have hx4 := Zm a0 x3_1
          replace p4 := eq_true p4
          replace q4 := eq_true q4
          go_wp2
          go_ret
          exact ⟨by first | rfl | (simp; done) | (simp [*]; done), by repeat (first | exact Qx.refl _ | apply Qx.step)⟩
     ·rw [if_neg c5] at H
      have c5b0 : decide (97 ≤ (bt a0 x3_1)) = false := decide_eq_false c5
      clear c5
      by_cases c17 : (bt a0 x3_1) ≥ 65
      ·rw [if_pos c17] at H
       have c17b0 : decide (65 ≤ (bt a0 x3_1)) = true := decide_eq_true c17
       clear c17
       by_cases c18 : (bt a0 x3_1) ≤ 90
       ·rw [if_pos c18] at H
        have c18b0 : decide ((bt a0 x3_1) ≤ 90) = true := decide_eq_true c18
        clear c18
        have H' := Qb.mk H
        clear H
        have p4 : 0 ≤ (x3_1 : Int) := of_decide_eq_true (by first | (with_reducible assumption) | assumption)
        have q4 : x3_1 < (a0.size : Int) := of_decide_eq_true (by first | (with_reducible assumption) | assumption)
        have hx4 := Zm a0 x3_1
        replace p4 := eq_true p4
        replace q4 := eq_true q4
        go_wp2
        go_roundg k1
        case measure => have := HK1.out; omega
        case rel => exact ⟨(wrap64 (x3_1 + 1)), (by first | rfl | (simp; done) | (simp [*]; done)), H', ⟨by have := HK1.out; omega⟩, by repeat (first | exact Qx.refl _ | apply Qx.step)⟩
       ·rw [if_neg c18] at H
        have c18b0 : decide ((bt a0 x3_1) ≤ 90) = false := decide_eq_false c18
        clear c18
        by_cases c19 : (bt a0 x3_1) ≥ 48
        ·rw [if_pos c19] at H
         have c19b0 : decide (48 ≤ (bt a0 x3_1)) = true := decide_eq_true c19
         clear c19
         by_cases c20 : (bt a0 x3_1) ≤ 57
         ·rw [if_pos c20] at H
          have c20b0 : decide ((bt a0 x3_1) ≤ 57) = true := decide_eq_true c20
          clear c20
          have H' := Qb.mk H
          clear H
          have p4 : 0 ≤ (x3_1 : Int) := of_decide_eq_true (by first | (with_reducible assumption) | assumption)
          have q4 : x3_1 < (a0.size : Int) := of_decide_eq_true (by first | (with_reducible assumption) | assumption)
          have hx4 := Zm a0 x3_1
          replace p4 := eq_true p4
          replace q4 := eq_true q4
          go_wp2
          go_roundg k1
          case measure => have := HK1.out; omega
          case rel => exact ⟨(wrap64 (x3_1 + 1)), (by first | rfl | (simp; done) | (simp [*]; done)), H', ⟨by have := HK1.out; omega⟩, by repeat (first | exact Qx.refl _ | apply Qx.step)⟩
         ·rw [if_neg c20] at H
          have c20b0 : decide ((bt a0 x3_1) ≤ 57) = false := decide_eq_false c20
          clear c20
          by_cases c21 : ((bt a0 x3_1) = 95)
          ·rw [if_pos c21] at H
           have c21b0 : ((bt a0 x3_1) == 95) = true := beq_iff_eq.mpr c21
           have c21b1 : ((bt a0 x3_1) != 95) = false := bne_eq_false_iff_eq.mpr c21
           clear c21
           have H' := Qb.mk H
           clear H
           have p4 : 0 ≤ (x3_1 : Int) := of_decide_eq_true (by first | (with_reducible assumption) | assumption)
           have q4 : x3_1 < (a0.size : Int) := of_decide_eq_true (by first | (with_reducible assumption) | assumption)
           have hx4 := Zm a0 x3_1
           replace p4 := eq_true p4
           replace q4 := eq_true q4
           go_wp2
           go_roundg k1
           case measure => have := HK1.out; omega
           case rel => exact ⟨(wrap64 (x3_1 + 1)), (by first | rfl | (simp; done) | (simp [*]; done)), H', ⟨by have := HK1.out; omega⟩, by repeat (first | exact Qx.refl _ | apply Qx.step)⟩
          ·rw [if_neg c21] at H
           have c21b0 : ((bt a0 x3_1) == 95) = false := beq_eq_false_iff_ne.mpr c21
           have c21b1 : ((bt a0 x3_1) != 95) = true := bne_iff_ne.mpr c21
           obtain rfl := Option.some.inj H
           have p4 : 0 ≤ (x3_1 : Int) := of_decide_eq_true (by first | (with_reducible assumption) | assumption)
           have q4 : x3_1 < (a0.size : Int) := of_decide_eq_true (by first | (with_reducible assumption) | assumption)
           have hx4 := Zm a0 x3_1
           replace p4 := eq_true p4
           replace q4 := eq_true q4
           go_wp2
           go_ret
           exact ⟨by first | rfl | (simp; done) | (simp [*]; done), by repeat (first | exact Qx.refl _ | apply Qx.step)⟩
        ·rw [if_neg c19] at H
         have c19b0 : decide (48 ≤ (bt a0 x3_1)) = false := decide_eq_false c19
         clear c19
         by_cases c22 : ((bt a0 x3_1) = 95)
         ·rw [if_pos c22] at H
          have c22b0 : ((bt a0 x3_1) == 95) = true := beq_iff_eq.mpr c22
          have c22b1 : ((bt a0 x3_1) != 95) = false := bne_eq_false_iff_eq.mpr c22
          clear c22
          have H' := Qb.mk H
          clear H
          have p4 : 0 ≤ (x3_1 : Int) := of_decide_eq_true (by first | (with_reducible assumption) | assumption)
          have q4 : x3_1 < (a0.size : Int) := of_decide_eq_true (by first | (with_reducible assumption) | assumption)
          have hx4 := Zm a0 x3_1
          replace p4 := eq_true p4
          replace q4 := eq_true q4
          go_wp2
          go_roundg k1
          case measure => have := HK1.out; omega
          case rel => exact ⟨(wrap64 (x3_1 + 1)), (by first | rfl | (simp; done) | (simp [*]; done)), H', ⟨by have := HK1.out; omega⟩, by repeat (first | exact Qx.refl _ | apply Qx.step)⟩
         ·rw [if_neg c22] at H
          have c22b0 : ((bt a0 x3_1) == 95) = false := beq_eq_false_iff_ne.mpr c22
          have c22b1 : ((bt a0 x3_1) != 95) = true := bne_iff_ne.mpr c22
          obtain rfl := Option.some.inj H
          have p4 : 0 ≤ (x3_1 : Int) := of_decide_eq_true (by first | (with_reducible assumption) | assumption)
          have q4 : x3_1 < (a0.size : Int) := of_decide_eq_true (by first | (with_reducible assumption) | assumption)
          have hx4 := Zm a0 x3_1
          replace p4 := eq_true p4
          replace q4 := eq_true q4
          go_wp2
          go_ret
          exact ⟨by first | rfl | (simp; done) | (simp [*]; done), by repeat (first | exact Qx.refl _ | apply Qx.step)⟩
      ·rw [if_neg c17] at H
       have c17b0 : decide (65 ≤ (bt a0 x3_1)) = false := decide_eq_false c17
       clear c17
       by_cases c23 : (bt a0 x3_1) ≥ 48
       ·rw [if_pos c23] at H
        have c23b0 : decide (48 ≤ (bt a0 x3_1)) = true := decide_eq_true c23
        clear c23
        by_cases c24 : (bt a0 x3_1) ≤ 57
        ·rw [if_pos c24] at H
         have c24b0 : decide ((bt a0 x3_1) ≤ 57) = true := decide_eq_true c24
         clear c24
         have H' := Qb.mk H
         clear H
         have p4 : 0 ≤ (x3_1 : Int) := of_decide_eq_true (by first | (with_reducible assumption) | assumption)
         have q4 : x3_1 < (a0.size : Int) := of_decide_eq_true (by first | (with_reducible assumption) | assumption)
         have hx4 := Zm a0 x3_1
         replace p4 := eq_true p4
         replace q4 := eq_true q4
         go_wp2
         go_roundg k1
         case measure => have := HK1.out; omega
         case rel => exact ⟨(wrap64 (x3_1 + 1)), (by first | rfl | (simp; done) | (simp [*]; done)), H', ⟨by have := HK1.out; omega⟩, by repeat (first | exact Qx.refl _ | apply Qx.step)⟩
        ·rw [if_neg c24] at H
         have c24b0 : decide ((bt a0 x3_1) ≤ 57) = false := decide_eq_false c24
         clear c24
         by_cases c25 : ((bt a0 x3_1) = 95)
         ·rw [if_pos c25] at H
          have c25b0 : ((bt a0 x3_1) == 95) = true := beq_iff_eq.mpr c25
          have c25b1 : ((bt a0 x3_1) != 95) = false := bne_eq_false_iff_eq.mpr c25
          clear c25
          have H' := Qb.mk H
          clear H
          have p4 : 0 ≤ (x3_1 : Int) := of_decide_eq_true (by first | (with_reducible assumption) | assumption)
          have q4 : x3_1 < (a0.size : Int) := of_decide_eq_true (by first | (with_reducible assumption) | assumption)
          have hx4 := Zm a0 x3_1
          replace p4 := eq_true p4
          replace q4 := eq_true q4
          go_wp2
          go_roundg k1
          case measure => have := HK1.out; omega
          case rel => exact ⟨(wrap64 (x3_1 + 1)), (by first | rfl | (simp; done) | (simp [*]; done)), H', ⟨by have := HK1.out; omega⟩, by repeat (first | exact Qx.refl _ | apply Qx.step)⟩
         ·rw [if_neg c25] at H
          have c25b0 : ((bt a0 x3_1) == 95) = false := beq_eq_false_iff_ne.mpr c25
          have c25b1 : ((bt a0 x3_1) != 95) = true := bne_iff_ne.mpr c25
          obtain rfl := Option.some.inj H
          have p4 : 0 ≤ (x3_1 : Int) := of_decide_eq_true (by first | (with_reducible assumption) | assumption)
          have q4 : x3_1 < (a0.size : Int) := of_decide_eq_true (by first | (with_reducible assumption) | assumption)
          have hx4 := Zm a0 x3_1
          replace p4 := eq_true p4
          replace q4 := eq_true q4
          go_wp2
          go_ret
          exact ⟨by first | rfl | (simp; done) | (simp [*]; done), by repeat (first | exact Qx.refl _ | apply Qx.step)⟩
       ·rw [if_neg c23] at H
        have c23b0 : decide (48 ≤ (bt a0 x3_1)) = false := decide_eq_false c23
        clear c23
        by_cases c26 : ((bt a0 x3_1) = 95)
        ·rw [if_pos c26] at H
         have c26b0 : ((bt a0 x3_1) == 95) = true := beq_iff_eq.mpr c26
         have c26b1 : ((bt a0 x3_1) != 95) = false := bne_eq_false_iff_eq.mpr c26
         clear c26
         have H' := Qb.mk H
         clear H
         have p4 : 0 ≤ (x3_1 : Int) := of_decide_eq_true (by first | (with_reducible assumption) | assumption)
         have q4 : x3_1 < (a0.size : Int) := of_decide_eq_true (by first | (with_reducible assumption) | assumption)
         have hx4 := Zm a0 x3_1
         replace p4 := eq_true p4
         replace q4 := eq_true q4
         go_wp2
         go_roundg k1
         case measure => have := HK1.out; omega
         case rel => exact ⟨(wrap64 (x3_1 + 1)), (by first | rfl | (simp; done) | (simp [*]; done)), H', ⟨by have := HK1.out; omega⟩, by repeat (first | exact Qx.refl _ | apply Qx.step)⟩
        ·rw [if_neg c26] at H
         have c26b0 : ((bt a0 x3_1) == 95) = false := beq_eq_false_iff_ne.mpr c26
         have c26b1 : ((bt a0 x3_1) != 95) = true := bne_iff_ne.mpr c26
         obtain rfl := Option.some.inj H
         have p4 : 0 ≤ (x3_1 : Int) := of_decide_eq_true (by first | (with_reducible assumption) | assumption)
         have q4 : x3_1 < (a0.size : Int) := of_decide_eq_true (by first | (with_reducible assumption) | assumption)
         have hx4 := Zm a0 x3_1
         replace p4 := eq_true p4
         replace q4 := eq_true q4
         go_wp2
         go_ret
         exact ⟨by first | rfl | (simp; done) | (simp [*]; done), by repeat (first | exact Qx.refl _ | apply Qx.step)⟩
    ·rw [if_neg c3] at H
     exact absurd H (by simp)
   ·rw [if_neg c2] at H
    have c2b0 : decide (x3_1 < (a0.size : Int)) = false := decide_eq_false c2
    clear c2
    obtain rfl := Option.some.inj H
    go_wp2
    go_ret
    exact ⟨by first | rfl | (simp; done) | (simp [*]; done), by repeat (first | exact Qx.refl _ | apply Qx.step)⟩
def QN.f (k : Nat) (a0 : ByteArray) : Option (Bool) := if a0.toList = ([] : List UInt8) then (some false) else (if 0 < (a0.size : Int) then (if (bt a0 0) ≥ 65 then (if (bt a0 0) ≤ 90 then ((Qm.f k a0).bind fun t397 => (some t397)) else (some false)) else (some false)) else (none))
theorem QN.mono : ∀ a0 k, LeO (QN.f k a0) (QN.f (k + 1) a0) := by
 intro a0 k
 unfold QN.f
 repeat' first
   | (with_reducible exact Qm.mono _ _)
   | (with_reducible exact LeO.refl _)
   | (with_reducible exact LeO.none _)
   | (with_reducible refine LeO.ite ?_ ?_)
   | (with_reducible refine LeO.bind ?_ (fun _ => ?_))
   | exact Qm.mono _ _
   | exact LeO.none _
   | refine LeO.ite ?_ ?_
   | refine LeO.bind ?_ (fun _ => ?_)
set_option maxHeartbeats 8000000 in
set_option maxRecDepth 100000 in
theorem QN.calls (k : Nat) (a0 : ByteArray) (r : Bool) (w : World) (h : QN.f k a0 = some r) :
  Calls Tryd.prog 65 #[.string a0] w fun e w' => e = .returned (.bool r) ∧ Qx w w' := by
 have H : (if a0.toList = ([] : List UInt8) then (some false) else (if 0 < (a0.size : Int) then (if (bt a0 0) ≥ 65 then (if (bt a0 0) ≤ 90 then ((Qm.f k a0).bind fun t397 => (some t397)) else (some false)) else (some false)) else (none))) = some r := h
 clear h
 by_cases c2 : a0.toList = ([] : List UInt8)
 ·rw [if_pos c2] at H
  have c2b0 : (a0.toList == ([] : List UInt8)) = true := beq_iff_eq.mpr c2
  have c2b1 : (a0.toList != ([] : List UInt8)) = false := bne_eq_false_iff_eq.mpr c2
  clear c2
  obtain rfl := Option.some.inj H
  go_enter Tryd.func65, Tryd.ntmps65
  go_wp2
  go_ret
  exact ⟨by first | rfl | (simp; done) | (simp [*]; done), by repeat (first | exact Qx.refl _ | apply Qx.step)⟩
 ·rw [if_neg c2] at H
  have c2b0 : (a0.toList == ([] : List UInt8)) = false := beq_eq_false_iff_ne.mpr c2
  have c2b1 : (a0.toList != ([] : List UInt8)) = true := bne_iff_ne.mpr c2
  by_cases c3 : 0 < (a0.size : Int)
  ·rw [if_pos c3] at H
   have c3b0 : decide (0 < (a0.size : Int)) = true := decide_eq_true c3
   have c3b1 : decide (0 < a0.size) = true := decide_eq_true (by omega)
   clear c3
   by_cases c5 : (bt a0 0) ≥ 65
   ·rw [if_pos c5] at H
    have c5b0 : decide (65 ≤ (bt a0 0)) = true := decide_eq_true c5
    clear c5
    by_cases c7 : (bt a0 0) ≤ 90
    ·rw [if_pos c7] at H
     have c7b0 : decide ((bt a0 0) ≤ 90) = true := decide_eq_true c7
     clear c7
     replace H := Option.bind_eq_some_iff.mp H
     obtain ⟨t397, A80, H⟩ := H
     replace H : (some t397) = some r := H
     have A8 := Qb.mk A80
     clear A80
     obtain rfl := Option.some.inj H
     have p4 : 0 ≤ (0 : Int) := (by omega)
     have q4 : 0 < a0.size := (by have : (0 : Int) < (a0.size : Int) := of_decide_eq_true (by first | (with_reducible assumption) | assumption); omega)
     have hx4 : ∀ h : 0 < a0.size, ((a0[0]'h).toNat : Int) = bt a0 0 := Zm a0 0
     clear p4
     have qi4 : (0 < (a0.size : Int)) = True := eq_true (of_decide_eq_true (by first | (with_reducible assumption) | assumption))
     replace q4 := eq_true q4
     have p6 : 0 ≤ (0 : Int) := (by omega)
     have q6 : 0 < a0.size := (by have : (0 : Int) < (a0.size : Int) := of_decide_eq_true (by first | (with_reducible assumption) | assumption); omega)
     have hx6 : ∀ h : 0 < a0.size, ((a0[0]'h).toNat : Int) = bt a0 0 := Zm a0 0
     clear p6
     have qi6 : (0 < (a0.size : Int)) = True := eq_true (of_decide_eq_true (by first | (with_reducible assumption) | assumption))
     replace q6 := eq_true q6
     go_enter Tryd.func65, Tryd.ntmps65
     go_wp2_with (first | (go_at_call 80; (with_reducible refine (Qm.calls k a0 t397 _ A8.out).mono ?_); rintro e w' ⟨rfl, ⟨nd, rfl⟩⟩))
     go_ret
     exact ⟨by first | rfl | (simp; done) | (simp [*]; done), by repeat (first | exact Qx.refl _ | apply Qx.step)⟩
    ·rw [if_neg c7] at H
     have c7b0 : decide ((bt a0 0) ≤ 90) = false := decide_eq_false c7
     clear c7
     obtain rfl := Option.some.inj H
     have p4 : 0 ≤ (0 : Int) := (by omega)
     have q4 : 0 < a0.size := (by have : (0 : Int) < (a0.size : Int) := of_decide_eq_true (by first | (with_reducible assumption) | assumption); omega)
     have hx4 : ∀ h : 0 < a0.size, ((a0[0]'h).toNat : Int) = bt a0 0 := Zm a0 0
     clear p4
     have qi4 : (0 < (a0.size : Int)) = True := eq_true (of_decide_eq_true (by first | (with_reducible assumption) | assumption))
     replace q4 := eq_true q4
     have p6 : 0 ≤ (0 : Int) := (by omega)
     have q6 : 0 < a0.size := (by have : (0 : Int) < (a0.size : Int) := of_decide_eq_true (by first | (with_reducible assumption) | assumption); omega)
     have hx6 : ∀ h : 0 < a0.size, ((a0[0]'h).toNat : Int) = bt a0 0 := Zm a0 0
     clear p6
     have qi6 : (0 < (a0.size : Int)) = True := eq_true (of_decide_eq_true (by first | (with_reducible assumption) | assumption))
     replace q6 := eq_true q6
     go_enter Tryd.func65, Tryd.ntmps65
     go_wp2
     go_ret
     exact ⟨by first | rfl | (simp; done) | (simp [*]; done), by repeat (first | exact Qx.refl _ | apply Qx.step)⟩
   ·rw [if_neg c5] at H
    have c5b0 : decide (65 ≤ (bt a0 0)) = false := decide_eq_false c5
    clear c5
    obtain rfl := Option.some.inj H
    have p4 : 0 ≤ (0 : Int) := (by omega)
    have q4 : 0 < a0.size := (by have : (0 : Int) < (a0.size : Int) := of_decide_eq_true (by first | (with_reducible assumption) | assumption); omega)
    have hx4 : ∀ h : 0 < a0.size, ((a0[0]'h).toNat : Int) = bt a0 0 := Zm a0 0
    clear p4
    have qi4 : (0 < (a0.size : Int)) = True := eq_true (of_decide_eq_true (by first | (with_reducible assumption) | assumption))
    replace q4 := eq_true q4
    go_enter Tryd.func65, Tryd.ntmps65
    go_wp2
    go_ret
    exact ⟨by first | rfl | (simp; done) | (simp [*]; done), by repeat (first | exact Qx.refl _ | apply Qx.step)⟩
  ·rw [if_neg c3] at H
   exact absurd H (by simp)
def Q8.l0 : Nat → List ByteArray → ByteArray → Int → Option (Int)
 | 0, _, _, _ => none
 | k + 1, x0, x1, x5 => if x5 < (x0.length : Int) then (if 0 ≤ x5 then (if (rdOf ByteArray.empty x0 x5).toList = x1.toList then (some x5) else (Q8.l0 k x0 x1 (wrap64 (x5 + 1)))) else (none)) else (some (-1))
def Q8.f (k : Nat) (l0 : List ByteArray) (a1 : ByteArray) : Option (Int) := Q8.l0 k l0 a1 0
theorem Q8.QW : ∀ k, (∀ y0 y1 y2, LeO (Q8.l0 k y0 y1 y2) (Q8.l0 (k + 1) y0 y1 y2))
 | 0 => fun _ _ _ r h => by simp [Q8.l0] at h
 | k + 1 => by
  have ih0 := Q8.QW k
  ·intro y0 y1 y2
   unfold Q8.l0
   repeat' first
   | (with_reducible exact ih0 _ _ _)
   | (with_reducible exact LeO.refl _)
   | (with_reducible exact LeO.none _)
   | (with_reducible refine LeO.ite ?_ ?_)
   | (with_reducible refine LeO.bind ?_ (fun _ => ?_))
   | exact ih0 _ _ _
   | exact LeO.none _
   | refine LeO.ite ?_ ?_
   | refine LeO.bind ?_ (fun _ => ?_)
theorem Q8.mono : ∀ a0 a1 k, LeO (Q8.f k a0 a1) (Q8.f (k + 1) a0 a1) := by
 intro a0 a1 k
 have ih0 := Q8.QW k
 unfold Q8.f
 repeat' first
   | (with_reducible exact ih0 _ _ _)
   | (with_reducible exact LeO.refl _)
   | (with_reducible exact LeO.none _)
   | (with_reducible refine LeO.ite ?_ ?_)
   | (with_reducible refine LeO.bind ?_ (fun _ => ?_))
   | exact ih0 _ _ _
   | exact LeO.none _
   | refine LeO.ite ?_ ?_
   | refine LeO.bind ?_ (fun _ => ?_)
set_option maxHeartbeats 8000000 in
set_option maxRecDepth 100000 in
theorem Q8.calls (k : Nat) (A0 : Option Addr) (c0 : Nat) (l0 : List ByteArray) (a1 : ByteArray) (r : Int) (w : World) (hr0 : Kd.C Kd.string w A0 l0.length l0) (hc0 : l0.length ≤ c0) (h : Q8.f k l0 a1 = some r) :
  Calls Tryd.prog 54 #[.slice A0 l0.length c0, .string a1] w fun e w' => e = .returned (.int .i64 r) ∧ Qx w w' := by
 have HR0 := Qb.mk hr0
 have HC0 := Qb.mk hc0
 clear hr0 hc0
 have H : (Q8.l0 k l0 a1 0) = some r := h
 clear h
 have H' := Qb.mk H
 clear H
 go_enter Tryd.func54, Tryd.ntmps54
 go_wp2
 go_loopg [5] k (fun kq v5 w' => ∃ (x5_1 : Int), v5 = .int .i64 x5_1 ∧ Qb (Q8.l0 kq l0 a1 x5_1 = some r) ∧ Qb (kq ≤ k) ∧ Qx w w')
 case atStart => exact ⟨(0), (by first | rfl | (simp; done) | (simp [*]; done)), H', ⟨Nat.le_refl _⟩, by repeat (first | exact Qx.refl _ | apply Qx.step)⟩
 case round =>
  clear H'
  try clear p2
  obtain ⟨x5_1, rfl, HA, HK1, ⟨m1, rfl⟩⟩ := hrel
  cases gk with
  | zero => exact absurd HA.out (by simp [Q8.l0])
  | succ k1 =>
   have H := HA.out
   clear HA
   simp only [Q8.l0] at H
   by_cases c3 : x5_1 < (l0.length : Int)
   ·rw [if_pos c3] at H
    have c3b0 : decide (x5_1 < (l0.length : Int)) = true := decide_eq_true c3
    clear c3
    by_cases c4 : 0 ≤ x5_1
    ·rw [if_pos c4] at H
     have c4b0 : decide (0 ≤ x5_1) = true := decide_eq_true c4
     clear c4
     by_cases c5 : (rdOf ByteArray.empty l0 x5_1).toList = a1.toList
     ·rw [if_pos c5] at H
      have c5b0 : ((rdOf ByteArray.empty l0 x5_1).toList == a1.toList) = true := beq_iff_eq.mpr c5
      have c5b1 : ((rdOf ByteArray.empty l0 x5_1).toList != a1.toList) = false := bne_eq_false_iff_eq.mpr c5
      clear c5
      obtain rfl := Option.some.inj H
      have p398 : 0 ≤ (x5_1 : Int) := of_decide_eq_true (by first | (with_reducible assumption) | assumption)
      have q398 : x5_1 < (l0.length : Int) := of_decide_eq_true (by first | (with_reducible assumption) | assumption)
      obtain ⟨ad398, e398, hx398_0⟩ := Kd.at_string HR0.out x5_1 p398 q398
      cases e398
      replace p398 := eq_true p398
      replace q398 := eq_true q398
      go_wp2
      go_ret
      exact ⟨by first | rfl | (simp; done) | (simp [*]; done), by repeat (first | exact Qx.refl _ | apply Qx.step)⟩
     ·rw [if_neg c5] at H
      have c5b0 : ((rdOf ByteArray.empty l0 x5_1).toList == a1.toList) = false := beq_eq_false_iff_ne.mpr c5
      have c5b1 : ((rdOf ByteArray.empty l0 x5_1).toList != a1.toList) = true := bne_iff_ne.mpr c5
      have H' := Qb.mk H
      clear H
      have p398 : 0 ≤ (x5_1 : Int) := of_decide_eq_true (by first | (with_reducible assumption) | assumption)
      have q398 : x5_1 < (l0.length : Int) := of_decide_eq_true (by first | (with_reducible assumption) | assumption)
      obtain ⟨ad398, e398, hx398_0⟩ := Kd.at_string HR0.out x5_1 p398 q398
      cases e398
      replace p398 := eq_true p398
      replace q398 := eq_true q398
      go_wp2
      go_roundg k1
      case measure => have := HK1.out; omega
      case rel => exact ⟨(wrap64 (x5_1 + 1)), (by first | rfl | (simp; done) | (simp [*]; done)), H', ⟨by have := HK1.out; omega⟩, by repeat (first | exact Qx.refl _ | apply Qx.step)⟩
    ·rw [if_neg c4] at H
     exact absurd H (by simp)
   ·rw [if_neg c3] at H
    have c3b0 : decide (x5_1 < (l0.length : Int)) = false := decide_eq_false c3
    clear c3
    obtain rfl := Option.some.inj H
    go_wp2
    go_ret
    exact ⟨by first | rfl | (simp; done) | (simp [*]; done), by repeat (first | exact Qx.refl _ | apply Qx.step)⟩
def Q3.f (k : Nat) (l0 : List ByteArray) (a1 : ByteArray) : Option (Bool) := (Q8.f k l0 a1).bind fun t399 => (some (decide (t399 ≥ 0)))
theorem Q3.mono : ∀ a0 a1 k, LeO (Q3.f k a0 a1) (Q3.f (k + 1) a0 a1) := by
 intro a0 a1 k
 unfold Q3.f
 repeat' first
   | (with_reducible exact Q8.mono _ _ _)
   | (with_reducible exact LeO.refl _)
   | (with_reducible exact LeO.none _)
   | (with_reducible refine LeO.ite ?_ ?_)
   | (with_reducible refine LeO.bind ?_ (fun _ => ?_))
   | exact Q8.mono _ _ _
   | exact LeO.none _
   | refine LeO.ite ?_ ?_
   | refine LeO.bind ?_ (fun _ => ?_)
set_option maxHeartbeats 8000000 in
set_option maxRecDepth 100000 in
theorem Q3.calls (k : Nat) (A0 : Option Addr) (c0 : Nat) (l0 : List ByteArray) (a1 : ByteArray) (r : Bool) (w : World) (hr0 : Kd.C Kd.string w A0 l0.length l0) (hc0 : l0.length ≤ c0) (h : Q3.f k l0 a1 = some r) :
  Calls Tryd.prog 35 #[.slice A0 l0.length c0, .string a1] w fun e w' => e = .returned (.bool r) ∧ Qx w w' := by
 have HR0 := Qb.mk hr0
 have HC0 := Qb.mk hc0
 clear hr0 hc0
 have H : ((Q8.f k l0 a1).bind fun t399 => (some (decide (t399 ≥ 0)))) = some r := h
 clear h
 replace H := Option.bind_eq_some_iff.mp H
 obtain ⟨t399, A30, H⟩ := H
 replace H : (some (decide (t399 ≥ 0))) = some r := H
 have A3 := Qb.mk A30
 clear A30
 obtain rfl := Option.some.inj H
 go_enter Tryd.func35, Tryd.ntmps35
 go_wp2_with (first | ((with_reducible refine QY (f := 54) rfl ?_); refine Vp (some 7) rfl rfl Tryd.func54 (by kernel_rfl) rfl #[.slice A0 l0.length c0, .string a1] rfl (by (try simp only [List.map_toArray, List.map_cons, List.map_nil]); first | done | rfl | (simp only [List.length_drop, List.length_take]; rfl)) ?_; (with_reducible refine (Q8.calls k _ _ l0 a1 t399 _ ?side187 ?side188 A3.out).mono ?_); (case side187 => repeat (first | exact HR0.out | (with_reducible refine Kd.Vb ?_ _) | (with_reducible refine Kd.Vs ?_ _) | (with_reducible refine Kd.C_drew ?_))); (case side188 => exact HC0.out); rintro e w' ⟨rfl, ⟨nd, rfl⟩⟩; refine ⟨_, rfl, ?_⟩))
 go_ret
 exact ⟨by first | rfl | (simp; done) | (simp [*]; done), by repeat (first | exact Qx.refl _ | apply Qx.step)⟩
def QD.f (k : Nat) (a0 : ByteArray) : Option (Bool) := if a0.toList = ([] : List UInt8) then (some false) else (if 0 < (a0.size : Int) then (if (bt a0 0) ≥ 97 then (if (bt a0 0) ≤ 122 then ((Qm.f k a0).bind fun t403 => (if t403 = true then ((Q3.f k (([(⟨#[102, 110]⟩ : ByteArray), (⟨#[108, 101, 116]⟩ : ByteArray), (⟨#[99, 97, 115, 101]⟩ : ByteArray), (⟨#[102, 97, 105, 108]⟩ : ByteArray), (⟨#[100, 97, 116, 97]⟩ : ByteArray), (⟨#[100, 101, 102]⟩ : ByteArray), (⟨#[100, 105, 118]⟩ : ByteArray), (⟨#[109, 111, 100]⟩ : ByteArray), (⟨#[102, 108, 111, 97, 116]⟩ : ByteArray), (⟨#[119, 104, 111, 108, 101]⟩ : ByteArray), (⟨#[115, 101, 113]⟩ : ByteArray), (⟨#[105, 110, 102]⟩ : ByteArray), (⟨#[110, 97, 110]⟩ : ByteArray)] : List ByteArray)) a0).bind fun t404 => (some (!t404))) else (some false))) else (some false)) else (some false)) else (none))
theorem QD.mono : ∀ a0 k, LeO (QD.f k a0) (QD.f (k + 1) a0) := by
 intro a0 k
 unfold QD.f
 repeat' first
   | (with_reducible exact Qm.mono _ _)
   | (with_reducible exact Q3.mono _ _ _)
   | (with_reducible exact LeO.refl _)
   | (with_reducible exact LeO.none _)
   | (with_reducible refine LeO.ite ?_ ?_)
   | (with_reducible refine LeO.bind ?_ (fun _ => ?_))
   | exact Qm.mono _ _
   | exact Q3.mono _ _ _
   | exact LeO.none _
   | refine LeO.ite ?_ ?_
   | refine LeO.bind ?_ (fun _ => ?_)
set_option maxHeartbeats 8000000 in
set_option maxRecDepth 100000 in
theorem QD.calls (k : Nat) (a0 : ByteArray) (r : Bool) (w : World) (h : QD.f k a0 = some r) :
  Calls Tryd.prog 70 #[.string a0] w fun e w' => e = .returned (.bool r) ∧ Below w.heap.size w w' := by
 have HB := Qb.mk (Below.refl w.heap.size w)
 have H : (if a0.toList = ([] : List UInt8) then (some false) else (if 0 < (a0.size : Int) then (if (bt a0 0) ≥ 97 then (if (bt a0 0) ≤ 122 then ((Qm.f k a0).bind fun t403 => (if t403 = true then ((Q3.f k (([(⟨#[102, 110]⟩ : ByteArray), (⟨#[108, 101, 116]⟩ : ByteArray), (⟨#[99, 97, 115, 101]⟩ : ByteArray), (⟨#[102, 97, 105, 108]⟩ : ByteArray), (⟨#[100, 97, 116, 97]⟩ : ByteArray), (⟨#[100, 101, 102]⟩ : ByteArray), (⟨#[100, 105, 118]⟩ : ByteArray), (⟨#[109, 111, 100]⟩ : ByteArray), (⟨#[102, 108, 111, 97, 116]⟩ : ByteArray), (⟨#[119, 104, 111, 108, 101]⟩ : ByteArray), (⟨#[115, 101, 113]⟩ : ByteArray), (⟨#[105, 110, 102]⟩ : ByteArray), (⟨#[110, 97, 110]⟩ : ByteArray)] : List ByteArray)) a0).bind fun t404 => (some (!t404))) else (some false))) else (some false)) else (some false)) else (none))) = some r := h
 clear h
 obtain ⟨y400, hy400⟩ : ∃ y_ : List ByteArray, y_ = (([(⟨#[102, 110]⟩ : ByteArray), (⟨#[108, 101, 116]⟩ : ByteArray), (⟨#[99, 97, 115, 101]⟩ : ByteArray), (⟨#[102, 97, 105, 108]⟩ : ByteArray), (⟨#[100, 97, 116, 97]⟩ : ByteArray), (⟨#[100, 101, 102]⟩ : ByteArray), (⟨#[100, 105, 118]⟩ : ByteArray), (⟨#[109, 111, 100]⟩ : ByteArray), (⟨#[102, 108, 111, 97, 116]⟩ : ByteArray), (⟨#[119, 104, 111, 108, 101]⟩ : ByteArray), (⟨#[115, 101, 113]⟩ : ByteArray), (⟨#[105, 110, 102]⟩ : ByteArray), (⟨#[110, 97, 110]⟩ : ByteArray)] : List ByteArray)) := ⟨_, rfl⟩
 replace H : (if a0.toList = ([] : List UInt8) then (some false) else (if 0 < (a0.size : Int) then (if (bt a0 0) ≥ 97 then (if (bt a0 0) ≤ 122 then ((Qm.f k a0).bind fun t403 => (if t403 = true then ((Q3.f k y400 a0).bind fun t404 => (some (!t404))) else (some false))) else (some false)) else (some false)) else (none))) = some r := by first | (rw [hy400]; with_reducible exact H) | (have H2_ := (Option.bind_some _ _).symm.trans H; rw [hy400]; with_reducible exact H2_) | (have H2_ := (Option.bind_some _ _).symm.trans H; with_reducible exact H2_) | with_reducible exact H | (rw [hy400]; exact H) | exact H
 have Ny400 := Qb.mk hy400
 clear hy400
 by_cases c2 : a0.toList = ([] : List UInt8)
 ·rw [if_pos c2] at H
  have c2b0 : (a0.toList == ([] : List UInt8)) = true := beq_iff_eq.mpr c2
  have c2b1 : (a0.toList != ([] : List UInt8)) = false := bne_eq_false_iff_eq.mpr c2
  clear c2
  obtain rfl := Option.some.inj H
  go_enter Tryd.func70, Tryd.ntmps70
  go_wp2_with (first | ((with_reducible refine Zb (N := 4) rfl ?_); refine Kd.R_lit Kd.string _ 9 ?hg (N := 4) ?hd (xs := ([(⟨#[102, 110]⟩ : ByteArray), (⟨#[108, 101, 116]⟩ : ByteArray), (⟨#[99, 97, 115, 101]⟩ : ByteArray), (⟨#[102, 97, 105, 108]⟩ : ByteArray), (⟨#[100, 97, 116, 97]⟩ : ByteArray), (⟨#[100, 101, 102]⟩ : ByteArray), (⟨#[100, 105, 118]⟩ : ByteArray), (⟨#[109, 111, 100]⟩ : ByteArray), (⟨#[102, 108, 111, 97, 116]⟩ : ByteArray), (⟨#[119, 104, 111, 108, 101]⟩ : ByteArray), (⟨#[115, 101, 113]⟩ : ByteArray), (⟨#[105, 110, 102]⟩ : ByteArray), (⟨#[110, 97, 110]⟩ : ByteArray)] : List ByteArray)) (inner := [.string (⟨#[102, 110]⟩ : ByteArray), .string (⟨#[108, 101, 116]⟩ : ByteArray), .string (⟨#[99, 97, 115, 101]⟩ : ByteArray), .string (⟨#[102, 97, 105, 108]⟩ : ByteArray), .string (⟨#[100, 97, 116, 97]⟩ : ByteArray), .string (⟨#[100, 101, 102]⟩ : ByteArray), .string (⟨#[100, 105, 118]⟩ : ByteArray), .string (⟨#[109, 111, 100]⟩ : ByteArray), .string (⟨#[102, 108, 111, 97, 116]⟩ : ByteArray), .string (⟨#[119, 104, 111, 108, 101]⟩ : ByteArray), .string (⟨#[115, 101, 113]⟩ : ByteArray), .string (⟨#[105, 110, 102]⟩ : ByteArray), .string (⟨#[110, 97, 110]⟩ : ByteArray)]) (ok := fun _ => True) (okp := fun _ => True) ?hr ?hp (fun _ hk => hk) trivial (Below.refl _ _) (Nat.le_refl _) (by simp) ?_; (case hd => rfl); (case hg => rfl); (case hr => first | (go_simp; done) | (go_simp; rfl)); (case hp => exact (QB.one (show Kd.M Kd.string _ _ _ (⟨#[102, 110]⟩ : ByteArray) [.string (⟨#[102, 110]⟩ : ByteArray)] from rfl) (QB.one (show Kd.M Kd.string _ _ _ (⟨#[108, 101, 116]⟩ : ByteArray) [.string (⟨#[108, 101, 116]⟩ : ByteArray)] from rfl) (QB.one (show Kd.M Kd.string _ _ _ (⟨#[99, 97, 115, 101]⟩ : ByteArray) [.string (⟨#[99, 97, 115, 101]⟩ : ByteArray)] from rfl) (QB.one (show Kd.M Kd.string _ _ _ (⟨#[102, 97, 105, 108]⟩ : ByteArray) [.string (⟨#[102, 97, 105, 108]⟩ : ByteArray)] from rfl) (QB.one (show Kd.M Kd.string _ _ _ (⟨#[100, 97, 116, 97]⟩ : ByteArray) [.string (⟨#[100, 97, 116, 97]⟩ : ByteArray)] from rfl) (QB.one (show Kd.M Kd.string _ _ _ (⟨#[100, 101, 102]⟩ : ByteArray) [.string (⟨#[100, 101, 102]⟩ : ByteArray)] from rfl) (QB.one (show Kd.M Kd.string _ _ _ (⟨#[100, 105, 118]⟩ : ByteArray) [.string (⟨#[100, 105, 118]⟩ : ByteArray)] from rfl) (QB.one (show Kd.M Kd.string _ _ _ (⟨#[109, 111, 100]⟩ : ByteArray) [.string (⟨#[109, 111, 100]⟩ : ByteArray)] from rfl) (QB.one (show Kd.M Kd.string _ _ _ (⟨#[102, 108, 111, 97, 116]⟩ : ByteArray) [.string (⟨#[102, 108, 111, 97, 116]⟩ : ByteArray)] from rfl) (QB.one (show Kd.M Kd.string _ _ _ (⟨#[119, 104, 111, 108, 101]⟩ : ByteArray) [.string (⟨#[119, 104, 111, 108, 101]⟩ : ByteArray)] from rfl) (QB.one (show Kd.M Kd.string _ _ _ (⟨#[115, 101, 113]⟩ : ByteArray) [.string (⟨#[115, 101, 113]⟩ : ByteArray)] from rfl) (QB.one (show Kd.M Kd.string _ _ _ (⟨#[105, 110, 102]⟩ : ByteArray) [.string (⟨#[105, 110, 102]⟩ : ByteArray)] from rfl) (QB.one (show Kd.M Kd.string _ _ _ (⟨#[110, 97, 110]⟩ : ByteArray) [.string (⟨#[110, 97, 110]⟩ : ByteArray)] from rfl) (QB.none _ _))))))))))))))); intro v401 w3 ho4 hb hg_ hnew_; clear hg_ hnew_; (first | rw [← Ny400.out] at ho4 | (simp only [Int.reduceToNat] at ho4; rw [← Ny400.out] at ho4)); have n0_ := Qb.mk (Kd.ZT ho4 (QC (by repeat (first | (with_reducible first | exact HB.out | apply Qd | apply Qh | apply Qi) | exact HB.out)))); have n1_ := Qb.mk (Qe (by repeat (first | (with_reducible first | exact HB.out | apply Qd | apply Qh | apply Qi) | exact HB.out)) hb); clear HB; have HO402 := n0_; have HB := n1_; clear n0_ n1_; clear hb ho4))
  go_ret
  exact ⟨by first | rfl | (simp [Qp, Qo] <;> rfl) | (simp [*, Qp, Qo] <;> rfl) | (simp [Qp, Qo] <;> (rw [Bool.eq_iff_iff]; simp; done)), by repeat (first | (with_reducible first | exact HB.out | apply Qd | apply Qh | apply Qi) | exact HB.out)⟩
 ·rw [if_neg c2] at H
  have c2b0 : (a0.toList == ([] : List UInt8)) = false := beq_eq_false_iff_ne.mpr c2
  have c2b1 : (a0.toList != ([] : List UInt8)) = true := bne_iff_ne.mpr c2
  by_cases c5 : 0 < (a0.size : Int)
  ·rw [if_pos c5] at H
   have c5b0 : decide (0 < (a0.size : Int)) = true := decide_eq_true c5
   have c5b1 : decide (0 < a0.size) = true := decide_eq_true (by omega)
   clear c5
   by_cases c7 : (bt a0 0) ≥ 97
   ·rw [if_pos c7] at H
    have c7b0 : decide (97 ≤ (bt a0 0)) = true := decide_eq_true c7
    clear c7
    by_cases c9 : (bt a0 0) ≤ 122
    ·rw [if_pos c9] at H
     have c9b0 : decide ((bt a0 0) ≤ 122) = true := decide_eq_true c9
     clear c9
     replace H := Option.bind_eq_some_iff.mp H
     obtain ⟨t403, A100, H⟩ := H
     replace H : (if t403 = true then ((Q3.f k y400 a0).bind fun t404 => (some (!t404))) else (some false)) = some r := H
     have A10 := Qb.mk A100
     clear A100
     by_cases c11 : t403 = true
     ·subst c11
      have H1 : ((Q3.f k y400 a0).bind fun t404 => (some (!t404))) = some r := by rw [if_pos rfl] at H; exact H
      clear H
      have H := H1
      clear H1
      replace H := Option.bind_eq_some_iff.mp H
      obtain ⟨t404, A120, H⟩ := H
      replace H : (some (!t404)) = some r := H
      have A12 := Qb.mk A120
      clear A120
      obtain rfl := Option.some.inj H
      go_enter Tryd.func70, Tryd.ntmps70
      go_wp2_with (first | ((with_reducible refine Zb (N := 4) rfl ?_); refine Kd.R_lit Kd.string _ 9 ?hg (N := 4) ?hd (xs := ([(⟨#[102, 110]⟩ : ByteArray), (⟨#[108, 101, 116]⟩ : ByteArray), (⟨#[99, 97, 115, 101]⟩ : ByteArray), (⟨#[102, 97, 105, 108]⟩ : ByteArray), (⟨#[100, 97, 116, 97]⟩ : ByteArray), (⟨#[100, 101, 102]⟩ : ByteArray), (⟨#[100, 105, 118]⟩ : ByteArray), (⟨#[109, 111, 100]⟩ : ByteArray), (⟨#[102, 108, 111, 97, 116]⟩ : ByteArray), (⟨#[119, 104, 111, 108, 101]⟩ : ByteArray), (⟨#[115, 101, 113]⟩ : ByteArray), (⟨#[105, 110, 102]⟩ : ByteArray), (⟨#[110, 97, 110]⟩ : ByteArray)] : List ByteArray)) (inner := [.string (⟨#[102, 110]⟩ : ByteArray), .string (⟨#[108, 101, 116]⟩ : ByteArray), .string (⟨#[99, 97, 115, 101]⟩ : ByteArray), .string (⟨#[102, 97, 105, 108]⟩ : ByteArray), .string (⟨#[100, 97, 116, 97]⟩ : ByteArray), .string (⟨#[100, 101, 102]⟩ : ByteArray), .string (⟨#[100, 105, 118]⟩ : ByteArray), .string (⟨#[109, 111, 100]⟩ : ByteArray), .string (⟨#[102, 108, 111, 97, 116]⟩ : ByteArray), .string (⟨#[119, 104, 111, 108, 101]⟩ : ByteArray), .string (⟨#[115, 101, 113]⟩ : ByteArray), .string (⟨#[105, 110, 102]⟩ : ByteArray), .string (⟨#[110, 97, 110]⟩ : ByteArray)]) (ok := fun _ => True) (okp := fun _ => True) ?hr ?hp (fun _ hk => hk) trivial (Below.refl _ _) (Nat.le_refl _) (by simp) ?_; (case hd => rfl); (case hg => rfl); (case hr => first | (go_simp; done) | (go_simp; rfl)); (case hp => exact (QB.one (show Kd.M Kd.string _ _ _ (⟨#[102, 110]⟩ : ByteArray) [.string (⟨#[102, 110]⟩ : ByteArray)] from rfl) (QB.one (show Kd.M Kd.string _ _ _ (⟨#[108, 101, 116]⟩ : ByteArray) [.string (⟨#[108, 101, 116]⟩ : ByteArray)] from rfl) (QB.one (show Kd.M Kd.string _ _ _ (⟨#[99, 97, 115, 101]⟩ : ByteArray) [.string (⟨#[99, 97, 115, 101]⟩ : ByteArray)] from rfl) (QB.one (show Kd.M Kd.string _ _ _ (⟨#[102, 97, 105, 108]⟩ : ByteArray) [.string (⟨#[102, 97, 105, 108]⟩ : ByteArray)] from rfl) (QB.one (show Kd.M Kd.string _ _ _ (⟨#[100, 97, 116, 97]⟩ : ByteArray) [.string (⟨#[100, 97, 116, 97]⟩ : ByteArray)] from rfl) (QB.one (show Kd.M Kd.string _ _ _ (⟨#[100, 101, 102]⟩ : ByteArray) [.string (⟨#[100, 101, 102]⟩ : ByteArray)] from rfl) (QB.one (show Kd.M Kd.string _ _ _ (⟨#[100, 105, 118]⟩ : ByteArray) [.string (⟨#[100, 105, 118]⟩ : ByteArray)] from rfl) (QB.one (show Kd.M Kd.string _ _ _ (⟨#[109, 111, 100]⟩ : ByteArray) [.string (⟨#[109, 111, 100]⟩ : ByteArray)] from rfl) (QB.one (show Kd.M Kd.string _ _ _ (⟨#[102, 108, 111, 97, 116]⟩ : ByteArray) [.string (⟨#[102, 108, 111, 97, 116]⟩ : ByteArray)] from rfl) (QB.one (show Kd.M Kd.string _ _ _ (⟨#[119, 104, 111, 108, 101]⟩ : ByteArray) [.string (⟨#[119, 104, 111, 108, 101]⟩ : ByteArray)] from rfl) (QB.one (show Kd.M Kd.string _ _ _ (⟨#[115, 101, 113]⟩ : ByteArray) [.string (⟨#[115, 101, 113]⟩ : ByteArray)] from rfl) (QB.one (show Kd.M Kd.string _ _ _ (⟨#[105, 110, 102]⟩ : ByteArray) [.string (⟨#[105, 110, 102]⟩ : ByteArray)] from rfl) (QB.one (show Kd.M Kd.string _ _ _ (⟨#[110, 97, 110]⟩ : ByteArray) [.string (⟨#[110, 97, 110]⟩ : ByteArray)] from rfl) (QB.none _ _))))))))))))))); intro v401 w13 ho14 hb hg_ hnew_; clear hg_ hnew_; (first | rw [← Ny400.out] at ho14 | (simp only [Int.reduceToNat] at ho14; rw [← Ny400.out] at ho14)); have n0_ := Qb.mk (Kd.ZT ho14 (QC (by repeat (first | (with_reducible first | exact HB.out | apply Qd | apply Qh | apply Qi) | exact HB.out)))); have n1_ := Qb.mk (Qe (by repeat (first | (with_reducible first | exact HB.out | apply Qd | apply Qh | apply Qi) | exact HB.out)) hb); clear HB; have HO402 := n0_; have HB := n1_; clear n0_ n1_; clear hb ho14; have p6 : 0 ≤ (0 : Int) := (by omega); have q6 : 0 < a0.size := (by have : (0 : Int) < (a0.size : Int) := of_decide_eq_true (by first | (with_reducible assumption) | assumption); omega); have hx6 : ∀ h : 0 < a0.size, ((a0[0]'h).toNat : Int) = bt a0 0 := Zm a0 0; clear p6; have qi6 : (0 < (a0.size : Int)) = True := eq_true (of_decide_eq_true (by first | (with_reducible assumption) | assumption)); replace q6 := eq_true q6; have p8 : 0 ≤ (0 : Int) := (by omega); have q8 : 0 < a0.size := (by have : (0 : Int) < (a0.size : Int) := of_decide_eq_true (by first | (with_reducible assumption) | assumption); omega); have hx8 : ∀ h : 0 < a0.size, ((a0[0]'h).toNat : Int) = bt a0 0 := Zm a0 0; clear p8; have qi8 : (0 < (a0.size : Int)) = True := eq_true (of_decide_eq_true (by first | (with_reducible assumption) | assumption)); replace q8 := eq_true q8) | (go_at_call 80; (with_reducible refine (Qm.calls k a0 true _ A10.out).mono ?_); rintro e w' ⟨rfl, ⟨nd, rfl⟩⟩; obtain ⟨Ao15, co15, eo15⟩ := Kd.Z8 HO402.out; subst eo15) | (go_at_call 35; (with_reducible refine (Q3.calls k _ _ y400 a0 t404 _ ?side189 ?side190 A12.out).mono ?_); (case side189 => repeat (first | exact (Kd.Zk HO402.out).2.2 | (with_reducible refine Kd.Vb ?_ _) | (with_reducible refine Kd.Vs ?_ _) | (with_reducible refine Kd.C_drew ?_))); (case side190 => exact (Kd.Zk HO402.out).2.1); rintro e w' ⟨rfl, ⟨nd, rfl⟩⟩))
      go_ret
      exact ⟨by first | rfl | (simp [Qp, Qo] <;> rfl) | (simp [*, Qp, Qo] <;> rfl) | (simp [Qp, Qo] <;> (rw [Bool.eq_iff_iff]; simp; done)), by repeat (first | (with_reducible first | exact HB.out | apply Qd | apply Qh | apply Qi) | exact HB.out)⟩
     ·replace c11 := Bool.eq_false_iff.mpr c11
      subst c11
      have H1 : (some false) = some r := by rw [if_neg (show ¬ (false = true) by decide)] at H; exact H
      clear H
      have H := H1
      clear H1
      obtain rfl := Option.some.inj H
      go_enter Tryd.func70, Tryd.ntmps70
      go_wp2_with (first | ((with_reducible refine Zb (N := 4) rfl ?_); refine Kd.R_lit Kd.string _ 9 ?hg (N := 4) ?hd (xs := ([(⟨#[102, 110]⟩ : ByteArray), (⟨#[108, 101, 116]⟩ : ByteArray), (⟨#[99, 97, 115, 101]⟩ : ByteArray), (⟨#[102, 97, 105, 108]⟩ : ByteArray), (⟨#[100, 97, 116, 97]⟩ : ByteArray), (⟨#[100, 101, 102]⟩ : ByteArray), (⟨#[100, 105, 118]⟩ : ByteArray), (⟨#[109, 111, 100]⟩ : ByteArray), (⟨#[102, 108, 111, 97, 116]⟩ : ByteArray), (⟨#[119, 104, 111, 108, 101]⟩ : ByteArray), (⟨#[115, 101, 113]⟩ : ByteArray), (⟨#[105, 110, 102]⟩ : ByteArray), (⟨#[110, 97, 110]⟩ : ByteArray)] : List ByteArray)) (inner := [.string (⟨#[102, 110]⟩ : ByteArray), .string (⟨#[108, 101, 116]⟩ : ByteArray), .string (⟨#[99, 97, 115, 101]⟩ : ByteArray), .string (⟨#[102, 97, 105, 108]⟩ : ByteArray), .string (⟨#[100, 97, 116, 97]⟩ : ByteArray), .string (⟨#[100, 101, 102]⟩ : ByteArray), .string (⟨#[100, 105, 118]⟩ : ByteArray), .string (⟨#[109, 111, 100]⟩ : ByteArray), .string (⟨#[102, 108, 111, 97, 116]⟩ : ByteArray), .string (⟨#[119, 104, 111, 108, 101]⟩ : ByteArray), .string (⟨#[115, 101, 113]⟩ : ByteArray), .string (⟨#[105, 110, 102]⟩ : ByteArray), .string (⟨#[110, 97, 110]⟩ : ByteArray)]) (ok := fun _ => True) (okp := fun _ => True) ?hr ?hp (fun _ hk => hk) trivial (Below.refl _ _) (Nat.le_refl _) (by simp) ?_; (case hd => rfl); (case hg => rfl); (case hr => first | (go_simp; done) | (go_simp; rfl)); (case hp => exact (QB.one (show Kd.M Kd.string _ _ _ (⟨#[102, 110]⟩ : ByteArray) [.string (⟨#[102, 110]⟩ : ByteArray)] from rfl) (QB.one (show Kd.M Kd.string _ _ _ (⟨#[108, 101, 116]⟩ : ByteArray) [.string (⟨#[108, 101, 116]⟩ : ByteArray)] from rfl) (QB.one (show Kd.M Kd.string _ _ _ (⟨#[99, 97, 115, 101]⟩ : ByteArray) [.string (⟨#[99, 97, 115, 101]⟩ : ByteArray)] from rfl) (QB.one (show Kd.M Kd.string _ _ _ (⟨#[102, 97, 105, 108]⟩ : ByteArray) [.string (⟨#[102, 97, 105, 108]⟩ : ByteArray)] from rfl) (QB.one (show Kd.M Kd.string _ _ _ (⟨#[100, 97, 116, 97]⟩ : ByteArray) [.string (⟨#[100, 97, 116, 97]⟩ : ByteArray)] from rfl) (QB.one (show Kd.M Kd.string _ _ _ (⟨#[100, 101, 102]⟩ : ByteArray) [.string (⟨#[100, 101, 102]⟩ : ByteArray)] from rfl) (QB.one (show Kd.M Kd.string _ _ _ (⟨#[100, 105, 118]⟩ : ByteArray) [.string (⟨#[100, 105, 118]⟩ : ByteArray)] from rfl) (QB.one (show Kd.M Kd.string _ _ _ (⟨#[109, 111, 100]⟩ : ByteArray) [.string (⟨#[109, 111, 100]⟩ : ByteArray)] from rfl) (QB.one (show Kd.M Kd.string _ _ _ (⟨#[102, 108, 111, 97, 116]⟩ : ByteArray) [.string (⟨#[102, 108, 111, 97, 116]⟩ : ByteArray)] from rfl) (QB.one (show Kd.M Kd.string _ _ _ (⟨#[119, 104, 111, 108, 101]⟩ : ByteArray) [.string (⟨#[119, 104, 111, 108, 101]⟩ : ByteArray)] from rfl) (QB.one (show Kd.M Kd.string _ _ _ (⟨#[115, 101, 113]⟩ : ByteArray) [.string (⟨#[115, 101, 113]⟩ : ByteArray)] from rfl) (QB.one (show Kd.M Kd.string _ _ _ (⟨#[105, 110, 102]⟩ : ByteArray) [.string (⟨#[105, 110, 102]⟩ : ByteArray)] from rfl) (QB.one (show Kd.M Kd.string _ _ _ (⟨#[110, 97, 110]⟩ : ByteArray) [.string (⟨#[110, 97, 110]⟩ : ByteArray)] from rfl) (QB.none _ _))))))))))))))); intro v401 w16 ho17 hb hg_ hnew_; clear hg_ hnew_; (first | rw [← Ny400.out] at ho17 | (simp only [Int.reduceToNat] at ho17; rw [← Ny400.out] at ho17)); have n0_ := Qb.mk (Kd.ZT ho17 (QC (by repeat (first | (with_reducible first | exact HB.out | apply Qd | apply Qh | apply Qi) | exact HB.out)))); have n1_ := Qb.mk (Qe (by repeat (first | (with_reducible first | exact HB.out | apply Qd | apply Qh | apply Qi) | exact HB.out)) hb); clear HB; have HO402 := n0_; have HB := n1_; clear n0_ n1_; clear hb ho17; have p6 : 0 ≤ (0 : Int) := (by omega); have q6 : 0 < a0.size := (by have : (0 : Int) < (a0.size : Int) := of_decide_eq_true (by first | (with_reducible assumption) | assumption); omega); have hx6 : ∀ h : 0 < a0.size, ((a0[0]'h).toNat : Int) = bt a0 0 := Zm a0 0; clear p6; have qi6 : (0 < (a0.size : Int)) = True := eq_true (of_decide_eq_true (by first | (with_reducible assumption) | assumption)); replace q6 := eq_true q6; have p8 : 0 ≤ (0 : Int) := (by omega); have q8 : 0 < a0.size := (by have : (0 : Int) < (a0.size : Int) := of_decide_eq_true (by first | (with_reducible assumption) | assumption); omega); have hx8 : ∀ h : 0 < a0.size, ((a0[0]'h).toNat : Int) = bt a0 0 := Zm a0 0; clear p8; have qi8 : (0 < (a0.size : Int)) = True := eq_true (of_decide_eq_true (by first | (with_reducible assumption) | assumption)); replace q8 := eq_true q8) | (go_at_call 80; (with_reducible refine (Qm.calls k a0 false _ A10.out).mono ?_); rintro e w' ⟨rfl, ⟨nd, rfl⟩⟩))
      go_ret
      exact ⟨by first | rfl | (simp [Qp, Qo] <;> rfl) | (simp [*, Qp, Qo] <;> rfl) | (simp [Qp, Qo] <;> (rw [Bool.eq_iff_iff]; simp; done)), by repeat (first | (with_reducible first | exact HB.out | apply Qd | apply Qh | apply Qi) | exact HB.out)⟩
    ·rw [if_neg c9] at H
     have c9b0 : decide ((bt a0 0) ≤ 122) = false := decide_eq_false c9
     clear c9
     obtain rfl := Option.some.inj H
     go_enter Tryd.func70, Tryd.ntmps70
     go_wp2_with (first | ((with_reducible refine Zb (N := 4) rfl ?_); refine Kd.R_lit Kd.string _ 9 ?hg (N := 4) ?hd (xs := ([(⟨#[102, 110]⟩ : ByteArray), (⟨#[108, 101, 116]⟩ : ByteArray), (⟨#[99, 97, 115, 101]⟩ : ByteArray), (⟨#[102, 97, 105, 108]⟩ : ByteArray), (⟨#[100, 97, 116, 97]⟩ : ByteArray), (⟨#[100, 101, 102]⟩ : ByteArray), (⟨#[100, 105, 118]⟩ : ByteArray), (⟨#[109, 111, 100]⟩ : ByteArray), (⟨#[102, 108, 111, 97, 116]⟩ : ByteArray), (⟨#[119, 104, 111, 108, 101]⟩ : ByteArray), (⟨#[115, 101, 113]⟩ : ByteArray), (⟨#[105, 110, 102]⟩ : ByteArray), (⟨#[110, 97, 110]⟩ : ByteArray)] : List ByteArray)) (inner := [.string (⟨#[102, 110]⟩ : ByteArray), .string (⟨#[108, 101, 116]⟩ : ByteArray), .string (⟨#[99, 97, 115, 101]⟩ : ByteArray), .string (⟨#[102, 97, 105, 108]⟩ : ByteArray), .string (⟨#[100, 97, 116, 97]⟩ : ByteArray), .string (⟨#[100, 101, 102]⟩ : ByteArray), .string (⟨#[100, 105, 118]⟩ : ByteArray), .string (⟨#[109, 111, 100]⟩ : ByteArray), .string (⟨#[102, 108, 111, 97, 116]⟩ : ByteArray), .string (⟨#[119, 104, 111, 108, 101]⟩ : ByteArray), .string (⟨#[115, 101, 113]⟩ : ByteArray), .string (⟨#[105, 110, 102]⟩ : ByteArray), .string (⟨#[110, 97, 110]⟩ : ByteArray)]) (ok := fun _ => True) (okp := fun _ => True) ?hr ?hp (fun _ hk => hk) trivial (Below.refl _ _) (Nat.le_refl _) (by simp) ?_; (case hd => rfl); (case hg => rfl); (case hr => first | (go_simp; done) | (go_simp; rfl)); (case hp => exact (QB.one (show Kd.M Kd.string _ _ _ (⟨#[102, 110]⟩ : ByteArray) [.string (⟨#[102, 110]⟩ : ByteArray)] from rfl) (QB.one (show Kd.M Kd.string _ _ _ (⟨#[108, 101, 116]⟩ : ByteArray) [.string (⟨#[108, 101, 116]⟩ : ByteArray)] from rfl) (QB.one (show Kd.M Kd.string _ _ _ (⟨#[99, 97, 115, 101]⟩ : ByteArray) [.string (⟨#[99, 97, 115, 101]⟩ : ByteArray)] from rfl) (QB.one (show Kd.M Kd.string _ _ _ (⟨#[102, 97, 105, 108]⟩ : ByteArray) [.string (⟨#[102, 97, 105, 108]⟩ : ByteArray)] from rfl) (QB.one (show Kd.M Kd.string _ _ _ (⟨#[100, 97, 116, 97]⟩ : ByteArray) [.string (⟨#[100, 97, 116, 97]⟩ : ByteArray)] from rfl) (QB.one (show Kd.M Kd.string _ _ _ (⟨#[100, 101, 102]⟩ : ByteArray) [.string (⟨#[100, 101, 102]⟩ : ByteArray)] from rfl) (QB.one (show Kd.M Kd.string _ _ _ (⟨#[100, 105, 118]⟩ : ByteArray) [.string (⟨#[100, 105, 118]⟩ : ByteArray)] from rfl) (QB.one (show Kd.M Kd.string _ _ _ (⟨#[109, 111, 100]⟩ : ByteArray) [.string (⟨#[109, 111, 100]⟩ : ByteArray)] from rfl) (QB.one (show Kd.M Kd.string _ _ _ (⟨#[102, 108, 111, 97, 116]⟩ : ByteArray) [.string (⟨#[102, 108, 111, 97, 116]⟩ : ByteArray)] from rfl) (QB.one (show Kd.M Kd.string _ _ _ (⟨#[119, 104, 111, 108, 101]⟩ : ByteArray) [.string (⟨#[119, 104, 111, 108, 101]⟩ : ByteArray)] from rfl) (QB.one (show Kd.M Kd.string _ _ _ (⟨#[115, 101, 113]⟩ : ByteArray) [.string (⟨#[115, 101, 113]⟩ : ByteArray)] from rfl) (QB.one (show Kd.M Kd.string _ _ _ (⟨#[105, 110, 102]⟩ : ByteArray) [.string (⟨#[105, 110, 102]⟩ : ByteArray)] from rfl) (QB.one (show Kd.M Kd.string _ _ _ (⟨#[110, 97, 110]⟩ : ByteArray) [.string (⟨#[110, 97, 110]⟩ : ByteArray)] from rfl) (QB.none _ _))))))))))))))); intro v401 w18 ho19 hb hg_ hnew_; clear hg_ hnew_; (first | rw [← Ny400.out] at ho19 | (simp only [Int.reduceToNat] at ho19; rw [← Ny400.out] at ho19)); have n0_ := Qb.mk (Kd.ZT ho19 (QC (by repeat (first | (with_reducible first | exact HB.out | apply Qd | apply Qh | apply Qi) | exact HB.out)))); have n1_ := Qb.mk (Qe (by repeat (first | (with_reducible first | exact HB.out | apply Qd | apply Qh | apply Qi) | exact HB.out)) hb); clear HB; have HO402 := n0_; have HB := n1_; clear n0_ n1_; clear hb ho19; have p6 : 0 ≤ (0 : Int) := (by omega); have q6 : 0 < a0.size := (by have : (0 : Int) < (a0.size : Int) := of_decide_eq_true (by first | (with_reducible assumption) | assumption); omega); have hx6 : ∀ h : 0 < a0.size, ((a0[0]'h).toNat : Int) = bt a0 0 := Zm a0 0; clear p6; have qi6 : (0 < (a0.size : Int)) = True := eq_true (of_decide_eq_true (by first | (with_reducible assumption) | assumption)); replace q6 := eq_true q6; have p8 : 0 ≤ (0 : Int) := (by omega); have q8 : 0 < a0.size := (by have : (0 : Int) < (a0.size : Int) := of_decide_eq_true (by first | (with_reducible assumption) | assumption); omega); have hx8 : ∀ h : 0 < a0.size, ((a0[0]'h).toNat : Int) = bt a0 0 := Zm a0 0; clear p8; have qi8 : (0 < (a0.size : Int)) = True := eq_true (of_decide_eq_true (by first | (with_reducible assumption) | assumption)); replace q8 := eq_true q8))
     go_ret
     exact ⟨by first | rfl | (simp [Qp, Qo] <;> rfl) | (simp [*, Qp, Qo] <;> rfl) | (simp [Qp, Qo] <;> (rw [Bool.eq_iff_iff]; simp; done)), by repeat (first | (with_reducible first | exact HB.out | apply Qd | apply Qh | apply Qi) | exact HB.out)⟩
   ·rw [if_neg c7] at H
    have c7b0 : decide (97 ≤ (bt a0 0)) = false := decide_eq_false c7
    clear c7
    obtain rfl := Option.some.inj H
    go_enter Tryd.func70, Tryd.ntmps70
    go_wp2_with (first | ((with_reducible refine Zb (N := 4) rfl ?_); refine Kd.R_lit Kd.string _ 9 ?hg (N := 4) ?hd (xs := ([(⟨#[102, 110]⟩ : ByteArray), (⟨#[108, 101, 116]⟩ : ByteArray), (⟨#[99, 97, 115, 101]⟩ : ByteArray), (⟨#[102, 97, 105, 108]⟩ : ByteArray), (⟨#[100, 97, 116, 97]⟩ : ByteArray), (⟨#[100, 101, 102]⟩ : ByteArray), (⟨#[100, 105, 118]⟩ : ByteArray), (⟨#[109, 111, 100]⟩ : ByteArray), (⟨#[102, 108, 111, 97, 116]⟩ : ByteArray), (⟨#[119, 104, 111, 108, 101]⟩ : ByteArray), (⟨#[115, 101, 113]⟩ : ByteArray), (⟨#[105, 110, 102]⟩ : ByteArray), (⟨#[110, 97, 110]⟩ : ByteArray)] : List ByteArray)) (inner := [.string (⟨#[102, 110]⟩ : ByteArray), .string (⟨#[108, 101, 116]⟩ : ByteArray), .string (⟨#[99, 97, 115, 101]⟩ : ByteArray), .string (⟨#[102, 97, 105, 108]⟩ : ByteArray), .string (⟨#[100, 97, 116, 97]⟩ : ByteArray), .string (⟨#[100, 101, 102]⟩ : ByteArray), .string (⟨#[100, 105, 118]⟩ : ByteArray), .string (⟨#[109, 111, 100]⟩ : ByteArray), .string (⟨#[102, 108, 111, 97, 116]⟩ : ByteArray), .string (⟨#[119, 104, 111, 108, 101]⟩ : ByteArray), .string (⟨#[115, 101, 113]⟩ : ByteArray), .string (⟨#[105, 110, 102]⟩ : ByteArray), .string (⟨#[110, 97, 110]⟩ : ByteArray)]) (ok := fun _ => True) (okp := fun _ => True) ?hr ?hp (fun _ hk => hk) trivial (Below.refl _ _) (Nat.le_refl _) (by simp) ?_; (case hd => rfl); (case hg => rfl); (case hr => first | (go_simp; done) | (go_simp; rfl)); (case hp => exact (QB.one (show Kd.M Kd.string _ _ _ (⟨#[102, 110]⟩ : ByteArray) [.string (⟨#[102, 110]⟩ : ByteArray)] from rfl) (QB.one (show Kd.M Kd.string _ _ _ (⟨#[108, 101, 116]⟩ : ByteArray) [.string (⟨#[108, 101, 116]⟩ : ByteArray)] from rfl) (QB.one (show Kd.M Kd.string _ _ _ (⟨#[99, 97, 115, 101]⟩ : ByteArray) [.string (⟨#[99, 97, 115, 101]⟩ : ByteArray)] from rfl) (QB.one (show Kd.M Kd.string _ _ _ (⟨#[102, 97, 105, 108]⟩ : ByteArray) [.string (⟨#[102, 97, 105, 108]⟩ : ByteArray)] from rfl) (QB.one (show Kd.M Kd.string _ _ _ (⟨#[100, 97, 116, 97]⟩ : ByteArray) [.string (⟨#[100, 97, 116, 97]⟩ : ByteArray)] from rfl) (QB.one (show Kd.M Kd.string _ _ _ (⟨#[100, 101, 102]⟩ : ByteArray) [.string (⟨#[100, 101, 102]⟩ : ByteArray)] from rfl) (QB.one (show Kd.M Kd.string _ _ _ (⟨#[100, 105, 118]⟩ : ByteArray) [.string (⟨#[100, 105, 118]⟩ : ByteArray)] from rfl) (QB.one (show Kd.M Kd.string _ _ _ (⟨#[109, 111, 100]⟩ : ByteArray) [.string (⟨#[109, 111, 100]⟩ : ByteArray)] from rfl) (QB.one (show Kd.M Kd.string _ _ _ (⟨#[102, 108, 111, 97, 116]⟩ : ByteArray) [.string (⟨#[102, 108, 111, 97, 116]⟩ : ByteArray)] from rfl) (QB.one (show Kd.M Kd.string _ _ _ (⟨#[119, 104, 111, 108, 101]⟩ : ByteArray) [.string (⟨#[119, 104, 111, 108, 101]⟩ : ByteArray)] from rfl) (QB.one (show Kd.M Kd.string _ _ _ (⟨#[115, 101, 113]⟩ : ByteArray) [.string (⟨#[115, 101, 113]⟩ : ByteArray)] from rfl) (QB.one (show Kd.M Kd.string _ _ _ (⟨#[105, 110, 102]⟩ : ByteArray) [.string (⟨#[105, 110, 102]⟩ : ByteArray)] from rfl) (QB.one (show Kd.M Kd.string _ _ _ (⟨#[110, 97, 110]⟩ : ByteArray) [.string (⟨#[110, 97, 110]⟩ : ByteArray)] from rfl) (QB.none _ _))))))))))))))); intro v401 w20 ho21 hb hg_ hnew_; clear hg_ hnew_; (first | rw [← Ny400.out] at ho21 | (simp only [Int.reduceToNat] at ho21; rw [← Ny400.out] at ho21)); have n0_ := Qb.mk (Kd.ZT ho21 (QC (by repeat (first | (with_reducible first | exact HB.out | apply Qd | apply Qh | apply Qi) | exact HB.out)))); have n1_ := Qb.mk (Qe (by repeat (first | (with_reducible first | exact HB.out | apply Qd | apply Qh | apply Qi) | exact HB.out)) hb); clear HB; have HO402 := n0_; have HB := n1_; clear n0_ n1_; clear hb ho21; have p6 : 0 ≤ (0 : Int) := (by omega); have q6 : 0 < a0.size := (by have : (0 : Int) < (a0.size : Int) := of_decide_eq_true (by first | (with_reducible assumption) | assumption); omega); have hx6 : ∀ h : 0 < a0.size, ((a0[0]'h).toNat : Int) = bt a0 0 := Zm a0 0; clear p6; have qi6 : (0 < (a0.size : Int)) = True := eq_true (of_decide_eq_true (by first | (with_reducible assumption) | assumption)); replace q6 := eq_true q6))
    go_ret
    exact ⟨by first | rfl | (simp [Qp, Qo] <;> rfl) | (simp [*, Qp, Qo] <;> rfl) | (simp [Qp, Qo] <;> (rw [Bool.eq_iff_iff]; simp; done)), by repeat (first | (with_reducible first | exact HB.out | apply Qd | apply Qh | apply Qi) | exact HB.out)⟩
  ·rw [if_neg c5] at H
   exact absurd H (by simp)
attribute [local go_sem] ZG ZP ZY Ve ZC ZB ZQ ZO   -- for this text's walks alone
set_option linter.unusedVariables false
set_option linter.unusedSimpArgs false
def Q9.l0 : Nat → List ByteArray → Int → Option (Int)
 | 0, _, _ => none
 | k + 1, x0, x3 => if x3 < (x0.length : Int) then (if 0 ≤ x3 then ((QD.f k (rdOf ByteArray.empty x0 x3)).bind fun t406 => (if t406 = true then (Q9.l0 k x0 (wrap64 (x3 + 1))) else (some 109))) else (none)) else (if (x0.length : Int) > 60 then (some 104) else (some 0))
def Q9.f (k : Nat) (l0 : List ByteArray) : Option (Int) := Q9.l0 k l0 0
theorem Q9.QW : ∀ k, (∀ y0 y1, LeO (Q9.l0 k y0 y1) (Q9.l0 (k + 1) y0 y1))
 | 0 => fun _ _ r h => by simp [Q9.l0] at h
 | k + 1 => by
  have ih0 := Q9.QW k
  ·intro y0 y1
   unfold Q9.l0
   repeat' first
   | (with_reducible exact ih0 _ _)
   | (with_reducible exact QD.mono _ _)
   | (with_reducible exact LeO.refl _)
   | (with_reducible exact LeO.none _)
   | (with_reducible refine LeO.ite ?_ ?_)
   | (with_reducible refine LeO.bind ?_ (fun _ => ?_))
   | exact ih0 _ _
   | exact QD.mono _ _
   | exact LeO.none _
   | refine LeO.ite ?_ ?_
   | refine LeO.bind ?_ (fun _ => ?_)
theorem Q9.mono : ∀ a0 k, LeO (Q9.f k a0) (Q9.f (k + 1) a0) := by
 intro a0 k
 have ih0 := Q9.QW k
 unfold Q9.f
 repeat' first
   | (with_reducible exact ih0 _ _)
   | (with_reducible exact QD.mono _ _)
   | (with_reducible exact LeO.refl _)
   | (with_reducible exact LeO.none _)
   | (with_reducible refine LeO.ite ?_ ?_)
   | (with_reducible refine LeO.bind ?_ (fun _ => ?_))
   | exact ih0 _ _
   | exact QD.mono _ _
   | exact LeO.none _
   | refine LeO.ite ?_ ?_
   | refine LeO.bind ?_ (fun _ => ?_)
set_option maxHeartbeats 8000000 in
set_option maxRecDepth 100000 in
theorem Q9.calls (k : Nat) (A0 : Option Addr) (c0 : Nat) (l0 : List ByteArray) (r : Int) (w : World) (hr0 : Kd.C Kd.string w A0 l0.length l0) (hc0 : l0.length ≤ c0) (h : Q9.f k l0 = some r) :
  Calls Tryd.prog 66 #[.slice A0 l0.length c0] w fun e w' => e = .returned (.int .i64 r) ∧ Below w.heap.size w w' := by
 have HR0 := Qb.mk hr0
 have HC0 := Qb.mk hc0
 clear hr0 hc0
 have HB := Qb.mk (Below.refl w.heap.size w)
 have H : (Q9.l0 k l0 0) = some r := h
 clear h
 have H' := Qb.mk H
 clear H
 go_enter Tryd.func66, Tryd.ntmps66
 go_wp2
 go_loopg [3] k (fun kq v3 w' => ∃ (x3_1 : Int), v3 = .int .i64 x3_1 ∧ Qb (Q9.l0 kq l0 x3_1 = some r) ∧ Qb (kq ≤ k) ∧ Qb (Below w.heap.size w w'))
 case atStart => exact ⟨(0), (by first | rfl | (simp; done) | (simp [*]; done)), H', ⟨Nat.le_refl _⟩, ⟨by repeat (first | (with_reducible first | exact HB.out | apply Qd | apply Qh | apply Qi) | exact HB.out)⟩⟩
 case round =>
  clear H'
  obtain ⟨x3_1, rfl, HA, HK1, HB⟩ := hrel
  cases gk with
  | zero => exact absurd HA.out (by simp [Q9.l0])
  | succ k1 =>
   have H := HA.out
   clear HA
   simp only [Q9.l0] at H
   by_cases c2 : x3_1 < (l0.length : Int)
   ·rw [if_pos c2] at H
    have c2b0 : decide (x3_1 < (l0.length : Int)) = true := decide_eq_true c2
    clear c2
    by_cases c3 : 0 ≤ x3_1
    ·rw [if_pos c3] at H
     have c3b0 : decide (0 ≤ x3_1) = true := decide_eq_true c3
     clear c3
     replace H := Option.bind_eq_some_iff.mp H
     obtain ⟨t406, A40, H⟩ := H
     replace H : (if t406 = true then (Q9.l0 k1 l0 (wrap64 (x3_1 + 1))) else (some 109)) = some r := H
     have A4 := Qb.mk A40
     clear A40
     by_cases c5 : t406 = true
     ·subst c5
      have H1 : (Q9.l0 k1 l0 (wrap64 (x3_1 + 1))) = some r := by rw [if_pos rfl] at H; exact H
      clear H
      have H := H1
      clear H1
      have H' := Qb.mk H
      clear H
      have p405 : 0 ≤ (x3_1 : Int) := of_decide_eq_true (by first | (with_reducible assumption) | assumption)
      have q405 : x3_1 < (l0.length : Int) := of_decide_eq_true (by first | (with_reducible assumption) | assumption)
      obtain ⟨ad405, e405, hx405_0⟩ := Kd.at_string HR0.out x3_1 p405 q405
      cases e405
      replace hx405_0 := (HB.out.cell (World.block_lt_of_cell? w _ hx405_0)).trans hx405_0
      replace p405 := eq_true p405
      replace q405 := eq_true q405
      go_wp2_with (first | ((with_reducible refine QY (f := 70) rfl ?_); refine Vp (some 14) rfl rfl Tryd.func70 (by kernel_rfl) rfl #[.string (rdOf ByteArray.empty l0 x3_1)] rfl (by (try simp only [List.map_toArray, List.map_cons, List.map_nil]); first | done | rfl | (simp only [List.length_drop, List.length_take]; rfl)) ?_; (with_reducible refine (QD.calls k1 (rdOf ByteArray.empty l0 x3_1) true _ A4.out).mono ?_); rintro e w6 ⟨rfl, hb⟩; refine ⟨_, rfl, ?_⟩; have n0_ := Qb.mk (Qe (by repeat (first | (with_reducible first | exact HB.out | apply Qd | apply Qh | apply Qi) | exact HB.out)) hb); clear HB; have HB := n0_; clear n0_; (try clear hb); (try clear hb2); (try clear hk); (try clear hi)))
      go_roundg k1
      case measure => have := HK1.out; omega
      case rel => exact ⟨(wrap64 (x3_1 + 1)), (by first | rfl | (simp; done) | (simp [*]; done)), H', ⟨by have := HK1.out; omega⟩, ⟨by repeat (first | (with_reducible first | exact HB.out | apply Qd | apply Qh | apply Qi) | exact HB.out)⟩⟩
     ·replace c5 := Bool.eq_false_iff.mpr c5
      subst c5
      have H1 : (some 109) = some r := by rw [if_neg (show ¬ (false = true) by decide)] at H; exact H
      clear H
      have H := H1
      clear H1
      obtain rfl := Option.some.inj H
      have p405 : 0 ≤ (x3_1 : Int) := of_decide_eq_true (by first | (with_reducible assumption) | assumption)
      have q405 : x3_1 < (l0.length : Int) := of_decide_eq_true (by first | (with_reducible assumption) | assumption)
      obtain ⟨ad405, e405, hx405_0⟩ := Kd.at_string HR0.out x3_1 p405 q405
      cases e405
      replace hx405_0 := (HB.out.cell (World.block_lt_of_cell? w _ hx405_0)).trans hx405_0
      replace p405 := eq_true p405
      replace q405 := eq_true q405
      go_wp2_with (first | ((with_reducible refine QY (f := 70) rfl ?_); refine Vp (some 14) rfl rfl Tryd.func70 (by kernel_rfl) rfl #[.string (rdOf ByteArray.empty l0 x3_1)] rfl (by (try simp only [List.map_toArray, List.map_cons, List.map_nil]); first | done | rfl | (simp only [List.length_drop, List.length_take]; rfl)) ?_; (with_reducible refine (QD.calls k1 (rdOf ByteArray.empty l0 x3_1) false _ A4.out).mono ?_); rintro e w7 ⟨rfl, hb⟩; refine ⟨_, rfl, ?_⟩; have n0_ := Qb.mk (Qe (by repeat (first | (with_reducible first | exact HB.out | apply Qd | apply Qh | apply Qi) | exact HB.out)) hb); clear HB; have HB := n0_; clear n0_; (try clear hb); (try clear hb2); (try clear hk); (try clear hi)))
      go_ret
      exact ⟨by first | rfl | (simp [Qp, Qo] <;> rfl) | (simp [*, Qp, Qo] <;> rfl) | (simp [Qp, Qo] <;> (rw [Bool.eq_iff_iff]; simp; done)), by repeat (first | (with_reducible first | exact HB.out | apply Qd | apply Qh | apply Qi) | exact HB.out)⟩
    ·rw [if_neg c3] at H
     exact absurd H (by simp)
   ·rw [if_neg c2] at H
    have c2b0 : decide (x3_1 < (l0.length : Int)) = false := decide_eq_false c2
    clear c2
    by_cases c8 : (l0.length : Int) > 60
    ·rw [if_pos c8] at H
     have c8b0 : decide (60 < (l0.length : Int)) = true := decide_eq_true c8
     have c8b1 : decide (60 < l0.length) = true := decide_eq_true (by omega)
     clear c8
     obtain rfl := Option.some.inj H
     go_wp2
     go_ret
     exact ⟨by first | rfl | (simp [Qp, Qo] <;> rfl) | (simp [*, Qp, Qo] <;> rfl) | (simp [Qp, Qo] <;> (rw [Bool.eq_iff_iff]; simp; done)), by repeat (first | (with_reducible first | exact HB.out | apply Qd | apply Qh | apply Qi) | exact HB.out)⟩
    ·rw [if_neg c8] at H
     have c8b0 : decide (60 < (l0.length : Int)) = false := decide_eq_false c8
     have c8b1 : decide (60 < l0.length) = false := decide_eq_false (by omega)
     clear c8
     obtain rfl := Option.some.inj H
     go_wp2
     go_ret
     exact ⟨by first | rfl | (simp [Qp, Qo] <;> rfl) | (simp [*, Qp, Qo] <;> rfl) | (simp [Qp, Qo] <;> (rw [Bool.eq_iff_iff]; simp; done)), by repeat (first | (with_reducible first | exact HB.out | apply Qd | apply Qh | apply Qi) | exact HB.out)⟩
attribute [local go_sem] ZG ZP ZY Ve ZC ZB ZQ ZO   -- for this text's walks alone
set_option linter.unusedVariables false
set_option linter.unusedSimpArgs false
mutual
def Qu.l0 : Nat → List (Vm) → Int → Int → Option (Int)
 | 0, _, _, _ => none
 | k + 1, x0, x3, x4 => if x4 < (x0.length : Int) then (if 0 ≤ x4 then (if ((QG x0 x4).f0).toList = ([] : List UInt8) then ((Qu.f k ((QG x0 x4).f1)).bind fun t414 => (Qu.l0 k x0 (mx x3 (wrap64 (1 + t414))) (wrap64 (x4 + 1)))) else (Qu.l0 k x0 x3 (wrap64 (x4 + 1)))) else (none)) else (some x3)
def Qu.f : Nat → List (Vm) → Option (Int)
 | 0, _ => none
 | k + 1, l0 => Qu.l0 k l0 0 0
end
theorem Qu.QW : ∀ k, (∀ y0, LeO (Qu.f k y0) (Qu.f (k + 1) y0)) ∧ (∀ y0 y1 y2, LeO (Qu.l0 k y0 y1 y2) (Qu.l0 (k + 1) y0 y1 y2))
 | 0 => ⟨fun _ r h => by simp [Qu.f] at h, fun _ _ _ r h => by simp [Qu.l0] at h⟩
 | k + 1 => by
  obtain ⟨ih0, ih1⟩ := Qu.QW k
  refine ⟨?_, ?_⟩
  ·intro y0
   unfold Qu.f
   repeat' first
   | (with_reducible exact ih0 _)
   | (with_reducible exact ih1 _ _ _)
   | (with_reducible exact LeO.refl _)
   | (with_reducible exact LeO.none _)
   | (with_reducible refine LeO.ite ?_ ?_)
   | (with_reducible refine LeO.bind ?_ (fun _ => ?_))
   | exact ih0 _
   | exact ih1 _ _ _
   | exact LeO.none _
   | refine LeO.ite ?_ ?_
   | refine LeO.bind ?_ (fun _ => ?_)
  ·intro y0 y1 y2
   unfold Qu.l0
   repeat' first
   | (with_reducible exact ih0 _)
   | (with_reducible exact ih1 _ _ _)
   | (with_reducible exact LeO.refl _)
   | (with_reducible exact LeO.none _)
   | (with_reducible refine LeO.ite ?_ ?_)
   | (with_reducible refine LeO.bind ?_ (fun _ => ?_))
   | exact ih0 _
   | exact ih1 _ _ _
   | exact LeO.none _
   | refine LeO.ite ?_ ?_
   | refine LeO.bind ?_ (fun _ => ?_)
theorem Qu.mono : ∀ a0 k, LeO (Qu.f k a0) (Qu.f (k + 1) a0) := by
 intro a0 k
 obtain ⟨ih0, ih1⟩ := Qu.QW k
 exact ih0 a0
set_option maxHeartbeats 8000000 in
set_option maxRecDepth 100000 in
theorem Qu.calls (k : Nat) : ∀ (A0 : Option Addr) (c0 : Nat) (l0 : List (Vm)) (r : Int) (w : World) (hr0 : Kd.C k109 w A0 l0.length l0) (hc0 : l0.length ≤ c0) (h : Qu.f k l0 = some r),
  Calls Tryd.prog 68 #[.slice A0 l0.length c0] w fun e w' => e = .returned (.int .i64 r) ∧ Below w.heap.size w w' := by
 induction k using Nat.strongRecOn with
 | _ k ih =>
 intro A0 c0 l0 r w hr0 hc0 h
 cases k with
 | zero => exact absurd h (by simp [Qu.f])
 | succ k =>
 simp only [Qu.f] at h
 have HR0 := Qb.mk hr0
 have HC0 := Qb.mk hc0
 clear hr0 hc0
 have HB := Qb.mk (Below.refl w.heap.size w)
 have H : (Qu.l0 k l0 0 0) = some r := h
 clear h
 have H' := Qb.mk H
 clear H
 go_enter Tryd.func68, Tryd.ntmps68
 go_wp2
 go_loopg [3, 4] k (fun kq v3 v4 w' => ∃ (x3_1 : Int) (x4_1 : Int), v3 = .int .i64 x3_1 ∧ v4 = .int .i64 x4_1 ∧ Qb (Qu.l0 kq l0 x3_1 x4_1 = some r) ∧ Qb (kq ≤ k) ∧ Qb (Below w.heap.size w w'))
 case atStart => exact ⟨(0), (0), (by first | rfl | (simp; done) | (simp [*]; done)), (by first | rfl | (simp; done) | (simp [*]; done)), H', ⟨Nat.le_refl _⟩, ⟨by repeat (first | (with_reducible first | exact HB.out | apply Qd | apply Qh | apply Qi) | exact HB.out)⟩⟩
 case round =>
  clear H'
  obtain ⟨x3_1, x4_1, rfl, rfl, HA, HK1, HB⟩ := hrel
  cases gk with
  | zero => exact absurd HA.out (by simp [Qu.l0])
  | succ k1 =>
   have H := HA.out
   clear HA
   simp only [Qu.l0] at H
   by_cases c2 : x4_1 < (l0.length : Int)
   ·rw [if_pos c2] at H
    have c2b0 : decide (x4_1 < (l0.length : Int)) = true := decide_eq_true c2
    clear c2
    by_cases c3 : 0 ≤ x4_1
    ·rw [if_pos c3] at H
     have c3b0 : decide (0 ≤ x4_1) = true := decide_eq_true c3
     clear c3
     by_cases c4 : ((QG l0 x4_1).f0).toList = ([] : List UInt8)
     ·rw [if_pos c4] at H
      have c4b0 : (((QG l0 x4_1).f0).toList == ([] : List UInt8)) = true := beq_iff_eq.mpr c4
      have c4b1 : (((QG l0 x4_1).f0).toList != ([] : List UInt8)) = false := bne_eq_false_iff_eq.mpr c4
      clear c4
      replace H := Option.bind_eq_some_iff.mp H
      obtain ⟨t414, A50, H⟩ := H
      replace H : (Qu.l0 k1 l0 (mx x3_1 (wrap64 (1 + t414))) (wrap64 (x4_1 + 1))) = some r := H
      have A5 := Qb.mk A50
      clear A50
      obtain ⟨ji6, hji6⟩ : ∃ j_ : Int, (mx x3_1 (wrap64 (1 + t414))) = j_ := ⟨_, rfl⟩
      replace H : (Qu.l0 k1 l0 ji6 (wrap64 (x4_1 + 1))) = some r := by first | (rw [hji6] at H; exact H) | (simp only [hji6] at H ⊢; exact H)
      (try rw [hji6] at A5)
      have hji6_ : (if x3_1 < (wrap64 (1 + t414)) then (wrap64 (1 + t414)) else x3_1) = ji6 := hji6
      have H' := Qb.mk H
      clear H
      have p412 : 0 ≤ (x4_1 : Int) := of_decide_eq_true (by first | (with_reducible assumption) | assumption)
      have q412 : x4_1 < (l0.length : Int) := of_decide_eq_true (by first | (with_reducible assumption) | assumption)
      obtain ⟨ad412, A412_1, c412_1, e412, hx412_0, hx412_1, hx412_2, hl412_1, hi412_1⟩ := Vr HR0.out x4_1 p412 q412
      cases e412
      replace hx412_0 := (HB.out.cell (World.block_lt_of_cell? w _ hx412_0)).trans hx412_0
      replace hx412_1 := (HB.out.cell (World.block_lt_of_cell? w _ hx412_1)).trans hx412_1
      replace hx412_2 := (HB.out.cell (World.block_lt_of_cell? w _ hx412_2)).trans hx412_2
      have HR412_1 := Qb.mk hi412_1
      have HC412_1 := Qb.mk hl412_1
      clear hi412_1 hl412_1
      replace p412 := eq_true p412
      replace q412 := eq_true q412
      have p413 : 0 ≤ (x4_1 : Int) := of_decide_eq_true (by first | (with_reducible assumption) | assumption)
      have q413 : x4_1 < (l0.length : Int) := of_decide_eq_true (by first | (with_reducible assumption) | assumption)
      obtain ⟨ad413, A413_1, c413_1, e413, hx413_0, hx413_1, hx413_2, hl413_1, hi413_1⟩ := Vr HR0.out x4_1 p413 q413
      obtain rfl : ad412 = ad413 := (by injection e413)
      replace hx413_0 := (HB.out.cell (World.block_lt_of_cell? w _ hx413_0)).trans hx413_0
      replace hx413_1 := (HB.out.cell (World.block_lt_of_cell? w _ hx413_1)).trans hx413_1
      replace hx413_2 := (HB.out.cell (World.block_lt_of_cell? w _ hx413_2)).trans hx413_2
      have HR413_1 := Qb.mk hi413_1
      have HC413_1 := Qb.mk hl413_1
      clear hi413_1 hl413_1
      replace p413 := eq_true p413
      replace q413 := eq_true q413
      have ea_ := Option.some.inj (hx412_1.symm.trans hx413_1)
      injection ea_ with ea_ en_ ec_
      subst ea_
      subst ec_
      clear en_
      go_wp2_with (first | ((with_reducible refine QY (f := 68) rfl ?_); refine Vp (some 23) rfl rfl Tryd.func68 (by kernel_rfl) rfl #[.slice A412_1 ((QG l0 x4_1).f1).length c412_1] rfl (by (try simp only [List.map_toArray, List.map_cons, List.map_nil]); first | done | rfl | (simp only [List.length_drop, List.length_take]; rfl)) ?_; (with_reducible refine (ih k1 (by have := HK1.out; omega) _ _ ((QG l0 x4_1).f1) t414 _ ?side195 ?side196 A5.out).mono ?_); (case side195 => repeat (first | exact (Kd.Qj HR413_1.out HB.out) | (with_reducible refine Kd.Vb ?_ _) | (with_reducible refine Kd.Vs ?_ _) | (with_reducible refine Kd.C_drew ?_))); (case side196 => exact HC413_1.out); rintro e w7 ⟨rfl, hb⟩; refine ⟨_, rfl, ?_⟩; have n0_ := Qb.mk (Qe (by repeat (first | (with_reducible first | exact HB.out | apply Qd | apply Qh | apply Qi) | exact HB.out)) hb); clear HB; have HB := n0_; clear n0_; (try clear hb); (try clear hb2); (try clear hk); (try clear hi)))
      go_roundg k1
      case measure => have := HK1.out; omega
      case rel => exact ⟨(ji6), (wrap64 (x4_1 + 1)), (by first | rfl | (simp; done) | (simp only [← hji6] <;> (first | rfl | simp)) | (simp [*]; done)), (by first | rfl | (simp; done) | (simp [*]; done)), H', ⟨by have := HK1.out; omega⟩, ⟨by repeat (first | (with_reducible first | exact HB.out | apply Qd | apply Qh | apply Qi) | exact HB.out)⟩⟩
     ·rw [if_neg c4] at H
      have c4b0 : (((QG l0 x4_1).f0).toList == ([] : List UInt8)) = false := beq_eq_false_iff_ne.mpr c4
      have c4b1 : (((QG l0 x4_1).f0).toList != ([] : List UInt8)) = true := bne_iff_ne.mpr c4
      have H' := Qb.mk H
      clear H
      have p412 : 0 ≤ (x4_1 : Int) := of_decide_eq_true (by first | (with_reducible assumption) | assumption)
      have q412 : x4_1 < (l0.length : Int) := of_decide_eq_true (by first | (with_reducible assumption) | assumption)
      obtain ⟨ad412, A412_1, c412_1, e412, hx412_0, hx412_1, hx412_2, hl412_1, hi412_1⟩ := Vr HR0.out x4_1 p412 q412
      cases e412
      replace hx412_0 := (HB.out.cell (World.block_lt_of_cell? w _ hx412_0)).trans hx412_0
      replace hx412_1 := (HB.out.cell (World.block_lt_of_cell? w _ hx412_1)).trans hx412_1
      replace hx412_2 := (HB.out.cell (World.block_lt_of_cell? w _ hx412_2)).trans hx412_2
      have HR412_1 := Qb.mk hi412_1
      have HC412_1 := Qb.mk hl412_1
      clear hi412_1 hl412_1
      replace p412 := eq_true p412
      replace q412 := eq_true q412
      go_wp2
      go_roundg k1
      case measure => have := HK1.out; omega
      case rel => exact ⟨(x3_1), (wrap64 (x4_1 + 1)), (by first | rfl | (simp; done) | (simp [*]; done)), (by first | rfl | (simp; done) | (simp [*]; done)), H', ⟨by have := HK1.out; omega⟩, ⟨by repeat (first | (with_reducible first | exact HB.out | apply Qd | apply Qh | apply Qi) | exact HB.out)⟩⟩
    ·rw [if_neg c3] at H
     exact absurd H (by simp)
   ·rw [if_neg c2] at H
    have c2b0 : decide (x4_1 < (l0.length : Int)) = false := decide_eq_false c2
    clear c2
    obtain rfl := Option.some.inj H
    go_wp2
    go_ret
    exact ⟨by first | rfl | (simp [Qp, Qo] <;> rfl) | (simp [*, Qp, Qo] <;> rfl) | (simp [Qp, Qo] <;> (rw [Bool.eq_iff_iff]; simp; done)), by repeat (first | (with_reducible first | exact HB.out | apply Qd | apply Qh | apply Qi) | exact HB.out)⟩
-- NOT PRINTED: function 84 (gristmillref5_typeNode)
-- NOT PRINTED: function 69 (gristmillref5_dataNode)
-- NOT PRINTED: function 51 (gristmillref5_validData)
def QO.f (a0 : Int) : Option (Int) := if (Go.bits .and .u64 (a0 / 4503599627370496) 2047) = 2047 then (if (Go.bits .and .u64 a0 4503599627370495) = 0 then (some a0) else (some 9221120237041090560)) else (some a0)
set_option maxHeartbeats 8000000 in
set_option maxRecDepth 100000 in
theorem QO.calls (a0 : Int) (r : Int) (w : World) (h : QO.f a0 = some r) :
  Calls Tryd.prog 92 #[.int .u64 a0] w fun e w' => e = .returned (.int .u64 r) ∧ Qx w w' := by
 have H : (if (Go.bits .and .u64 (a0 / 4503599627370496) 2047) = 2047 then (if (Go.bits .and .u64 a0 4503599627370495) = 0 then (some a0) else (some 9221120237041090560)) else (some a0)) = some r := h
 clear h
 by_cases c2 : (Go.bits .and .u64 (a0 / 4503599627370496) 2047) = 2047
 ·rw [if_pos c2] at H
  have c2b0 : ((Go.bits .and .u64 (a0 / 4503599627370496) 2047) == 2047) = true := beq_iff_eq.mpr c2
  have c2b1 : ((Go.bits .and .u64 (a0 / 4503599627370496) 2047) != 2047) = false := bne_eq_false_iff_eq.mpr c2
  clear c2
  by_cases c3 : (Go.bits .and .u64 a0 4503599627370495) = 0
  ·rw [if_pos c3] at H
   have c3b0 : ((Go.bits .and .u64 a0 4503599627370495) == 0) = true := beq_iff_eq.mpr c3
   have c3b1 : ((Go.bits .and .u64 a0 4503599627370495) != 0) = false := bne_eq_false_iff_eq.mpr c3
   clear c3
   obtain rfl := Option.some.inj H
   go_enter Tryd.func92, Tryd.ntmps92
   go_wp2
   go_ret
   exact ⟨by first | rfl | (simp; done) | (simp [*]; done), by repeat (first | exact Qx.refl _ | apply Qx.step)⟩
  ·rw [if_neg c3] at H
   have c3b0 : ((Go.bits .and .u64 a0 4503599627370495) == 0) = false := beq_eq_false_iff_ne.mpr c3
   have c3b1 : ((Go.bits .and .u64 a0 4503599627370495) != 0) = true := bne_iff_ne.mpr c3
   obtain rfl := Option.some.inj H
   go_enter Tryd.func92, Tryd.ntmps92
   go_wp2
   go_ret
   exact ⟨by first | rfl | (simp; done) | (simp [*]; done), by repeat (first | exact Qx.refl _ | apply Qx.step)⟩
 ·rw [if_neg c2] at H
  have c2b0 : ((Go.bits .and .u64 (a0 / 4503599627370496) 2047) == 2047) = false := beq_eq_false_iff_ne.mpr c2
  have c2b1 : ((Go.bits .and .u64 (a0 / 4503599627370496) 2047) != 2047) = true := bne_iff_ne.mpr c2
  obtain rfl := Option.some.inj H
  go_enter Tryd.func92, Tryd.ntmps92
  go_wp2
  go_ret
  exact ⟨by first | rfl | (simp; done) | (simp [*]; done), by repeat (first | exact Qx.refl _ | apply Qx.step)⟩
def Zr.f (a0_0 : Int) (a0_1 : ByteArray) (a0_2 : Int) (l0_3 : List ByteArray) (a0_4 : Int) (a0_5 : ByteArray) (a0_6 : Int) (l0_7 : List ByteArray) (l0_8 : List (S29)) (l0_9 : List (S88)) : Option (Bool) := if a0_0 = 1 then (some (a0_2 == 0)) else (if a0_0 = 2 then (if a0_1.toList = ([] : List UInt8) then (some ((l0_3.length : Int) == 0)) else (some false)) else (if a0_0 = 3 then (if a0_1.toList = ([] : List UInt8) then (if (l0_3.length : Int) = 0 then (some (a0_2 == 0)) else (some false)) else (some false)) else (some false)))
set_option maxHeartbeats 8000000 in
set_option maxRecDepth 100000 in
theorem Zr.calls (a0_0 : Int) (a0_1 : ByteArray) (a0_2 : Int) (A0_3 : Option Addr) (c0_3 : Nat) (l0_3 : List ByteArray) (a0_4 : Int) (a0_5 : ByteArray) (a0_6 : Int) (A0_7 : Option Addr) (c0_7 : Nat) (l0_7 : List ByteArray) (A0_8 : Option Addr) (c0_8 : Nat) (l0_8 : List (S29)) (A0_9 : Option Addr) (c0_9 : Nat) (l0_9 : List (S88)) (r : Bool) (w : World) (hr0_3 : Kd.C Kd.string w A0_3 l0_3.length l0_3) (hc0_3 : l0_3.length ≤ c0_3) (hr0_7 : Kd.C Kd.string w A0_7 l0_7.length l0_7) (hc0_7 : l0_7.length ≤ c0_7) (hr0_8 : Kd.C k29 w A0_8 l0_8.length l0_8) (hc0_8 : l0_8.length ≤ c0_8) (hr0_9 : Kd.C k88 w A0_9 l0_9.length l0_9) (hc0_9 : l0_9.length ≤ c0_9) (h : Zr.f a0_0 a0_1 a0_2 l0_3 a0_4 a0_5 a0_6 l0_7 l0_8 l0_9 = some r) :
  Calls Tryd.prog 93 #[.agg #[.int .i64 a0_0, .string a0_1, .int .i64 a0_2, .slice A0_3 l0_3.length c0_3, .int .i64 a0_4, .string a0_5, .int .i64 a0_6, .slice A0_7 l0_7.length c0_7, .slice A0_8 l0_8.length c0_8, .slice A0_9 l0_9.length c0_9]] w fun e w' => e = .returned (.bool r) ∧ Below w.heap.size w w' := by
 have hu88 := Tryd.underlying88
 have HR0_3 := Qb.mk hr0_3
 have HC0_3 := Qb.mk hc0_3
 clear hr0_3 hc0_3
 have HR0_7 := Qb.mk hr0_7
 have HC0_7 := Qb.mk hc0_7
 clear hr0_7 hc0_7
 have HR0_8 := Qb.mk hr0_8
 have HC0_8 := Qb.mk hc0_8
 clear hr0_8 hc0_8
 have HR0_9 := Qb.mk hr0_9
 have HC0_9 := Qb.mk hc0_9
 clear hr0_9 hc0_9
 have HB := Qb.mk (Below.refl w.heap.size w)
 have H : (if a0_0 = 1 then (some (a0_2 == 0)) else (if a0_0 = 2 then (if a0_1.toList = ([] : List UInt8) then (some ((l0_3.length : Int) == 0)) else (some false)) else (if a0_0 = 3 then (if a0_1.toList = ([] : List UInt8) then (if (l0_3.length : Int) = 0 then (some (a0_2 == 0)) else (some false)) else (some false)) else (some false)))) = some r := h
 clear h
 by_cases c2 : a0_0 = 1
 ·rw [if_pos c2] at H
  have c2b0 : (a0_0 == 1) = true := beq_iff_eq.mpr c2
  have c2b1 : (a0_0 != 1) = false := bne_eq_false_iff_eq.mpr c2
  clear c2
  obtain rfl := Option.some.inj H
  go_enter Tryd.func93, Tryd.ntmps93
  go_wp2_with (first | ((with_reducible refine Zb (N := 1) rfl ?_); (try (refine Vg (by rfl) ?_; dsimp only)); refine Zp ?hg (N := 1) ?hd (cs := #[.int .i64 a0_0, .string a0_1, .int .i64 a0_2, .slice A0_3 l0_3.length c0_3, .int .i64 a0_4, .string a0_5, .int .i64 a0_6, .slice A0_7 l0_7.length c0_7, .slice A0_8 l0_8.length c0_8, .slice A0_9 l0_9.length c0_9]) (t := 88) ?hr ?_; (case hd => rfl); (case hg => rfl); (case hr => first | (go_simp; done) | (go_simp; rfl)); intro gb485 hg w3 hbox hb; have n0_ := Qb.mk (Qe (by repeat (first | (with_reducible first | exact HB.out | apply Qd | apply Qh | apply Qi) | exact HB.out)) hb); have n1_ := Qb.mk (hbox); have n2_ := Qb.mk ((by rw [hg]; exact (QC (by repeat (first | (with_reducible first | exact HB.out | apply Qd | apply Qh | apply Qi) | exact HB.out))) : w.heap.size ≤ gb485)); have n3_ := Qb.mk ((by rw [hg]; exact (QC (by repeat (first | (with_reducible first | exact HB.out | apply Qd | apply Qh | apply Qi) | exact HB.out))) : w.heap.size ≤ gb485)); clear HB; have HB := n0_; have BK485 := n1_; have GW485 := n2_; have GE485 := n3_; clear n0_ n1_ n2_ n3_; clear hb hbox hg; have hcz4_0 : w3.cell? ⟨gb485, 0, none⟩ = some (.int .i64 a0_0) := (Qa BK485.out 0).trans rfl; have hcz4_1 : w3.cell? ⟨gb485, 1, none⟩ = some (.string a0_1) := (Qa BK485.out 1).trans rfl; have hcz4_2 : w3.cell? ⟨gb485, 2, none⟩ = some (.int .i64 a0_2) := (Qa BK485.out 2).trans rfl; have hcz4_3 : w3.cell? ⟨gb485, 3, none⟩ = some (.slice A0_3 l0_3.length c0_3) := (Qa BK485.out 3).trans rfl; have hcz4_4 : w3.cell? ⟨gb485, 4, none⟩ = some (.int .i64 a0_4) := (Qa BK485.out 4).trans rfl; have hcz4_5 : w3.cell? ⟨gb485, 5, none⟩ = some (.string a0_5) := (Qa BK485.out 5).trans rfl; have hcz4_6 : w3.cell? ⟨gb485, 6, none⟩ = some (.int .i64 a0_6) := (Qa BK485.out 6).trans rfl; have hcz4_7 : w3.cell? ⟨gb485, 7, none⟩ = some (.slice A0_7 l0_7.length c0_7) := (Qa BK485.out 7).trans rfl; have hcz4_8 : w3.cell? ⟨gb485, 8, none⟩ = some (.slice A0_8 l0_8.length c0_8) := (Qa BK485.out 8).trans rfl; have hcz4_9 : w3.cell? ⟨gb485, 9, none⟩ = some (.slice A0_9 l0_9.length c0_9) := (Qa BK485.out 9).trans rfl; have hfz4_0 := Qg BK485.out 0; have hfz4_1 := Qg BK485.out 1; have hfz4_2 := Qg BK485.out 2; have hfz4_3 := Qg BK485.out 3; have hfz4_4 := Qg BK485.out 4; have hfz4_5 := Qg BK485.out 5; have hfz4_6 := Qg BK485.out 6; have hfz4_7 := Qg BK485.out 7; have hfz4_8 := Qg BK485.out 8; have hfz4_9 := Qg BK485.out 9))
  go_ret
  exact ⟨by first | rfl | (simp [Qp, Qo] <;> rfl) | (simp [*, Qp, Qo] <;> rfl) | (simp [Qp, Qo] <;> (rw [Bool.eq_iff_iff]; simp; done)), by repeat (first | (with_reducible first | exact HB.out | apply Qd | apply Qh | apply Qi | refine QJ ?_ GE485.out) | exact HB.out)⟩
 ·rw [if_neg c2] at H
  have c2b0 : (a0_0 == 1) = false := beq_eq_false_iff_ne.mpr c2
  have c2b1 : (a0_0 != 1) = true := bne_iff_ne.mpr c2
  by_cases c5 : a0_0 = 2
  ·rw [if_pos c5] at H
   have c5b0 : (a0_0 == 2) = true := beq_iff_eq.mpr c5
   have c5b1 : (a0_0 != 2) = false := bne_eq_false_iff_eq.mpr c5
   clear c5
   by_cases c6 : a0_1.toList = ([] : List UInt8)
   ·rw [if_pos c6] at H
    have c6b0 : (a0_1.toList == ([] : List UInt8)) = true := beq_iff_eq.mpr c6
    have c6b1 : (a0_1.toList != ([] : List UInt8)) = false := bne_eq_false_iff_eq.mpr c6
    clear c6
    obtain rfl := Option.some.inj H
    go_enter Tryd.func93, Tryd.ntmps93
    go_wp2_with (first | ((with_reducible refine Zb (N := 1) rfl ?_); (try (refine Vg (by rfl) ?_; dsimp only)); refine Zp ?hg (N := 1) ?hd (cs := #[.int .i64 a0_0, .string a0_1, .int .i64 a0_2, .slice A0_3 l0_3.length c0_3, .int .i64 a0_4, .string a0_5, .int .i64 a0_6, .slice A0_7 l0_7.length c0_7, .slice A0_8 l0_8.length c0_8, .slice A0_9 l0_9.length c0_9]) (t := 88) ?hr ?_; (case hd => rfl); (case hg => rfl); (case hr => first | (go_simp; done) | (go_simp; rfl)); intro gb485 hg w7 hbox hb; have n0_ := Qb.mk (Qe (by repeat (first | (with_reducible first | exact HB.out | apply Qd | apply Qh | apply Qi) | exact HB.out)) hb); have n1_ := Qb.mk (hbox); have n2_ := Qb.mk ((by rw [hg]; exact (QC (by repeat (first | (with_reducible first | exact HB.out | apply Qd | apply Qh | apply Qi) | exact HB.out))) : w.heap.size ≤ gb485)); have n3_ := Qb.mk ((by rw [hg]; exact (QC (by repeat (first | (with_reducible first | exact HB.out | apply Qd | apply Qh | apply Qi) | exact HB.out))) : w.heap.size ≤ gb485)); clear HB; have HB := n0_; have BK485 := n1_; have GW485 := n2_; have GE485 := n3_; clear n0_ n1_ n2_ n3_; clear hb hbox hg; have hcz8_0 : w7.cell? ⟨gb485, 0, none⟩ = some (.int .i64 a0_0) := (Qa BK485.out 0).trans rfl; have hcz8_1 : w7.cell? ⟨gb485, 1, none⟩ = some (.string a0_1) := (Qa BK485.out 1).trans rfl; have hcz8_2 : w7.cell? ⟨gb485, 2, none⟩ = some (.int .i64 a0_2) := (Qa BK485.out 2).trans rfl; have hcz8_3 : w7.cell? ⟨gb485, 3, none⟩ = some (.slice A0_3 l0_3.length c0_3) := (Qa BK485.out 3).trans rfl; have hcz8_4 : w7.cell? ⟨gb485, 4, none⟩ = some (.int .i64 a0_4) := (Qa BK485.out 4).trans rfl; have hcz8_5 : w7.cell? ⟨gb485, 5, none⟩ = some (.string a0_5) := (Qa BK485.out 5).trans rfl; have hcz8_6 : w7.cell? ⟨gb485, 6, none⟩ = some (.int .i64 a0_6) := (Qa BK485.out 6).trans rfl; have hcz8_7 : w7.cell? ⟨gb485, 7, none⟩ = some (.slice A0_7 l0_7.length c0_7) := (Qa BK485.out 7).trans rfl; have hcz8_8 : w7.cell? ⟨gb485, 8, none⟩ = some (.slice A0_8 l0_8.length c0_8) := (Qa BK485.out 8).trans rfl; have hcz8_9 : w7.cell? ⟨gb485, 9, none⟩ = some (.slice A0_9 l0_9.length c0_9) := (Qa BK485.out 9).trans rfl; have hfz8_0 := Qg BK485.out 0; have hfz8_1 := Qg BK485.out 1; have hfz8_2 := Qg BK485.out 2; have hfz8_3 := Qg BK485.out 3; have hfz8_4 := Qg BK485.out 4; have hfz8_5 := Qg BK485.out 5; have hfz8_6 := Qg BK485.out 6; have hfz8_7 := Qg BK485.out 7; have hfz8_8 := Qg BK485.out 8; have hfz8_9 := Qg BK485.out 9))
    go_ret
    exact ⟨by first | rfl | (simp [Qp, Qo] <;> rfl) | (simp [*, Qp, Qo] <;> rfl) | (simp [Qp, Qo] <;> (rw [Bool.eq_iff_iff]; simp; done)), by repeat (first | (with_reducible first | exact HB.out | apply Qd | apply Qh | apply Qi | refine QJ ?_ GE485.out) | exact HB.out)⟩
   ·rw [if_neg c6] at H
    have c6b0 : (a0_1.toList == ([] : List UInt8)) = false := beq_eq_false_iff_ne.mpr c6
    have c6b1 : (a0_1.toList != ([] : List UInt8)) = true := bne_iff_ne.mpr c6
    obtain rfl := Option.some.inj H
    go_enter Tryd.func93, Tryd.ntmps93
    go_wp2_with (first | ((with_reducible refine Zb (N := 1) rfl ?_); (try (refine Vg (by rfl) ?_; dsimp only)); refine Zp ?hg (N := 1) ?hd (cs := #[.int .i64 a0_0, .string a0_1, .int .i64 a0_2, .slice A0_3 l0_3.length c0_3, .int .i64 a0_4, .string a0_5, .int .i64 a0_6, .slice A0_7 l0_7.length c0_7, .slice A0_8 l0_8.length c0_8, .slice A0_9 l0_9.length c0_9]) (t := 88) ?hr ?_; (case hd => rfl); (case hg => rfl); (case hr => first | (go_simp; done) | (go_simp; rfl)); intro gb485 hg w9 hbox hb; have n0_ := Qb.mk (Qe (by repeat (first | (with_reducible first | exact HB.out | apply Qd | apply Qh | apply Qi) | exact HB.out)) hb); have n1_ := Qb.mk (hbox); have n2_ := Qb.mk ((by rw [hg]; exact (QC (by repeat (first | (with_reducible first | exact HB.out | apply Qd | apply Qh | apply Qi) | exact HB.out))) : w.heap.size ≤ gb485)); have n3_ := Qb.mk ((by rw [hg]; exact (QC (by repeat (first | (with_reducible first | exact HB.out | apply Qd | apply Qh | apply Qi) | exact HB.out))) : w.heap.size ≤ gb485)); clear HB; have HB := n0_; have BK485 := n1_; have GW485 := n2_; have GE485 := n3_; clear n0_ n1_ n2_ n3_; clear hb hbox hg; have hcz10_0 : w9.cell? ⟨gb485, 0, none⟩ = some (.int .i64 a0_0) := (Qa BK485.out 0).trans rfl; have hcz10_1 : w9.cell? ⟨gb485, 1, none⟩ = some (.string a0_1) := (Qa BK485.out 1).trans rfl; have hcz10_2 : w9.cell? ⟨gb485, 2, none⟩ = some (.int .i64 a0_2) := (Qa BK485.out 2).trans rfl; have hcz10_3 : w9.cell? ⟨gb485, 3, none⟩ = some (.slice A0_3 l0_3.length c0_3) := (Qa BK485.out 3).trans rfl; have hcz10_4 : w9.cell? ⟨gb485, 4, none⟩ = some (.int .i64 a0_4) := (Qa BK485.out 4).trans rfl; have hcz10_5 : w9.cell? ⟨gb485, 5, none⟩ = some (.string a0_5) := (Qa BK485.out 5).trans rfl; have hcz10_6 : w9.cell? ⟨gb485, 6, none⟩ = some (.int .i64 a0_6) := (Qa BK485.out 6).trans rfl; have hcz10_7 : w9.cell? ⟨gb485, 7, none⟩ = some (.slice A0_7 l0_7.length c0_7) := (Qa BK485.out 7).trans rfl; have hcz10_8 : w9.cell? ⟨gb485, 8, none⟩ = some (.slice A0_8 l0_8.length c0_8) := (Qa BK485.out 8).trans rfl; have hcz10_9 : w9.cell? ⟨gb485, 9, none⟩ = some (.slice A0_9 l0_9.length c0_9) := (Qa BK485.out 9).trans rfl; have hfz10_0 := Qg BK485.out 0; have hfz10_1 := Qg BK485.out 1; have hfz10_2 := Qg BK485.out 2; have hfz10_3 := Qg BK485.out 3; have hfz10_4 := Qg BK485.out 4; have hfz10_5 := Qg BK485.out 5; have hfz10_6 := Qg BK485.out 6; have hfz10_7 := Qg BK485.out 7; have hfz10_8 := Qg BK485.out 8; have hfz10_9 := Qg BK485.out 9))
    go_ret
    exact ⟨by first | rfl | (simp [Qp, Qo] <;> rfl) | (simp [*, Qp, Qo] <;> rfl) | (simp [Qp, Qo] <;> (rw [Bool.eq_iff_iff]; simp; done)), by repeat (first | (with_reducible first | exact HB.out | apply Qd | apply Qh | apply Qi | refine QJ ?_ GE485.out) | exact HB.out)⟩
  ·rw [if_neg c5] at H
   have c5b0 : (a0_0 == 2) = false := beq_eq_false_iff_ne.mpr c5
   have c5b1 : (a0_0 != 2) = true := bne_iff_ne.mpr c5
   by_cases c11 : a0_0 = 3
   ·rw [if_pos c11] at H
    have c11b0 : (a0_0 == 3) = true := beq_iff_eq.mpr c11
    have c11b1 : (a0_0 != 3) = false := bne_eq_false_iff_eq.mpr c11
    clear c11
    by_cases c12 : a0_1.toList = ([] : List UInt8)
    ·rw [if_pos c12] at H
     have c12b0 : (a0_1.toList == ([] : List UInt8)) = true := beq_iff_eq.mpr c12
     have c12b1 : (a0_1.toList != ([] : List UInt8)) = false := bne_eq_false_iff_eq.mpr c12
     clear c12
     by_cases c13 : (l0_3.length : Int) = 0
     ·rw [if_pos c13] at H
      have c13b0 : ((l0_3.length : Int) == 0) = true := beq_iff_eq.mpr c13
      have c13b1 : ((l0_3.length : Int) != 0) = false := bne_eq_false_iff_eq.mpr c13
      clear c13
      obtain rfl := Option.some.inj H
      go_enter Tryd.func93, Tryd.ntmps93
      go_wp2_with (first | ((with_reducible refine Zb (N := 1) rfl ?_); (try (refine Vg (by rfl) ?_; dsimp only)); refine Zp ?hg (N := 1) ?hd (cs := #[.int .i64 a0_0, .string a0_1, .int .i64 a0_2, .slice A0_3 l0_3.length c0_3, .int .i64 a0_4, .string a0_5, .int .i64 a0_6, .slice A0_7 l0_7.length c0_7, .slice A0_8 l0_8.length c0_8, .slice A0_9 l0_9.length c0_9]) (t := 88) ?hr ?_; (case hd => rfl); (case hg => rfl); (case hr => first | (go_simp; done) | (go_simp; rfl)); intro gb485 hg w14 hbox hb; have n0_ := Qb.mk (Qe (by repeat (first | (with_reducible first | exact HB.out | apply Qd | apply Qh | apply Qi) | exact HB.out)) hb); have n1_ := Qb.mk (hbox); have n2_ := Qb.mk ((by rw [hg]; exact (QC (by repeat (first | (with_reducible first | exact HB.out | apply Qd | apply Qh | apply Qi) | exact HB.out))) : w.heap.size ≤ gb485)); have n3_ := Qb.mk ((by rw [hg]; exact (QC (by repeat (first | (with_reducible first | exact HB.out | apply Qd | apply Qh | apply Qi) | exact HB.out))) : w.heap.size ≤ gb485)); clear HB; have HB := n0_; have BK485 := n1_; have GW485 := n2_; have GE485 := n3_; clear n0_ n1_ n2_ n3_; clear hb hbox hg; have hcz15_0 : w14.cell? ⟨gb485, 0, none⟩ = some (.int .i64 a0_0) := (Qa BK485.out 0).trans rfl; have hcz15_1 : w14.cell? ⟨gb485, 1, none⟩ = some (.string a0_1) := (Qa BK485.out 1).trans rfl; have hcz15_2 : w14.cell? ⟨gb485, 2, none⟩ = some (.int .i64 a0_2) := (Qa BK485.out 2).trans rfl; have hcz15_3 : w14.cell? ⟨gb485, 3, none⟩ = some (.slice A0_3 l0_3.length c0_3) := (Qa BK485.out 3).trans rfl; have hcz15_4 : w14.cell? ⟨gb485, 4, none⟩ = some (.int .i64 a0_4) := (Qa BK485.out 4).trans rfl; have hcz15_5 : w14.cell? ⟨gb485, 5, none⟩ = some (.string a0_5) := (Qa BK485.out 5).trans rfl; have hcz15_6 : w14.cell? ⟨gb485, 6, none⟩ = some (.int .i64 a0_6) := (Qa BK485.out 6).trans rfl; have hcz15_7 : w14.cell? ⟨gb485, 7, none⟩ = some (.slice A0_7 l0_7.length c0_7) := (Qa BK485.out 7).trans rfl; have hcz15_8 : w14.cell? ⟨gb485, 8, none⟩ = some (.slice A0_8 l0_8.length c0_8) := (Qa BK485.out 8).trans rfl; have hcz15_9 : w14.cell? ⟨gb485, 9, none⟩ = some (.slice A0_9 l0_9.length c0_9) := (Qa BK485.out 9).trans rfl; have hfz15_0 := Qg BK485.out 0; have hfz15_1 := Qg BK485.out 1; have hfz15_2 := Qg BK485.out 2; have hfz15_3 := Qg BK485.out 3; have hfz15_4 := Qg BK485.out 4; have hfz15_5 := Qg BK485.out 5; have hfz15_6 := Qg BK485.out 6; have hfz15_7 := Qg BK485.out 7; have hfz15_8 := Qg BK485.out 8; have hfz15_9 := Qg BK485.out 9))
      go_ret
      exact ⟨by first | rfl | (simp [Qp, Qo] <;> rfl) | (simp [*, Qp, Qo] <;> rfl) | (simp [Qp, Qo] <;> (rw [Bool.eq_iff_iff]; simp; done)), by repeat (first | (with_reducible first | exact HB.out | apply Qd | apply Qh | apply Qi | refine QJ ?_ GE485.out) | exact HB.out)⟩
     ·rw [if_neg c13] at H
      have c13b0 : ((l0_3.length : Int) == 0) = false := beq_eq_false_iff_ne.mpr c13
      have c13b1 : ((l0_3.length : Int) != 0) = true := bne_iff_ne.mpr c13
      have c13b2 : ¬ (l0_3 = []) := fun h_ => c13 (by rw [h_]; rfl)
      obtain rfl := Option.some.inj H
      go_enter Tryd.func93, Tryd.ntmps93
      go_wp2_with (first | ((with_reducible refine Zb (N := 1) rfl ?_); (try (refine Vg (by rfl) ?_; dsimp only)); refine Zp ?hg (N := 1) ?hd (cs := #[.int .i64 a0_0, .string a0_1, .int .i64 a0_2, .slice A0_3 l0_3.length c0_3, .int .i64 a0_4, .string a0_5, .int .i64 a0_6, .slice A0_7 l0_7.length c0_7, .slice A0_8 l0_8.length c0_8, .slice A0_9 l0_9.length c0_9]) (t := 88) ?hr ?_; (case hd => rfl); (case hg => rfl); (case hr => first | (go_simp; done) | (go_simp; rfl)); intro gb485 hg w16 hbox hb; have n0_ := Qb.mk (Qe (by repeat (first | (with_reducible first | exact HB.out | apply Qd | apply Qh | apply Qi) | exact HB.out)) hb); have n1_ := Qb.mk (hbox); have n2_ := Qb.mk ((by rw [hg]; exact (QC (by repeat (first | (with_reducible first | exact HB.out | apply Qd | apply Qh | apply Qi) | exact HB.out))) : w.heap.size ≤ gb485)); have n3_ := Qb.mk ((by rw [hg]; exact (QC (by repeat (first | (with_reducible first | exact HB.out | apply Qd | apply Qh | apply Qi) | exact HB.out))) : w.heap.size ≤ gb485)); clear HB; have HB := n0_; have BK485 := n1_; have GW485 := n2_; have GE485 := n3_; clear n0_ n1_ n2_ n3_; clear hb hbox hg; have hcz17_0 : w16.cell? ⟨gb485, 0, none⟩ = some (.int .i64 a0_0) := (Qa BK485.out 0).trans rfl; have hcz17_1 : w16.cell? ⟨gb485, 1, none⟩ = some (.string a0_1) := (Qa BK485.out 1).trans rfl; have hcz17_2 : w16.cell? ⟨gb485, 2, none⟩ = some (.int .i64 a0_2) := (Qa BK485.out 2).trans rfl; have hcz17_3 : w16.cell? ⟨gb485, 3, none⟩ = some (.slice A0_3 l0_3.length c0_3) := (Qa BK485.out 3).trans rfl; have hcz17_4 : w16.cell? ⟨gb485, 4, none⟩ = some (.int .i64 a0_4) := (Qa BK485.out 4).trans rfl; have hcz17_5 : w16.cell? ⟨gb485, 5, none⟩ = some (.string a0_5) := (Qa BK485.out 5).trans rfl; have hcz17_6 : w16.cell? ⟨gb485, 6, none⟩ = some (.int .i64 a0_6) := (Qa BK485.out 6).trans rfl; have hcz17_7 : w16.cell? ⟨gb485, 7, none⟩ = some (.slice A0_7 l0_7.length c0_7) := (Qa BK485.out 7).trans rfl; have hcz17_8 : w16.cell? ⟨gb485, 8, none⟩ = some (.slice A0_8 l0_8.length c0_8) := (Qa BK485.out 8).trans rfl; have hcz17_9 : w16.cell? ⟨gb485, 9, none⟩ = some (.slice A0_9 l0_9.length c0_9) := (Qa BK485.out 9).trans rfl; have hfz17_0 := Qg BK485.out 0; have hfz17_1 := Qg BK485.out 1; have hfz17_2 := Qg BK485.out 2; have hfz17_3 := Qg BK485.out 3; have hfz17_4 := Qg BK485.out 4; have hfz17_5 := Qg BK485.out 5; have hfz17_6 := Qg BK485.out 6; have hfz17_7 := Qg BK485.out 7; have hfz17_8 := Qg BK485.out 8; have hfz17_9 := Qg BK485.out 9))
      go_ret
      exact ⟨by first | rfl | (simp [Qp, Qo] <;> rfl) | (simp [*, Qp, Qo] <;> rfl) | (simp [Qp, Qo] <;> (rw [Bool.eq_iff_iff]; simp; done)), by repeat (first | (with_reducible first | exact HB.out | apply Qd | apply Qh | apply Qi | refine QJ ?_ GE485.out) | exact HB.out)⟩
    ·rw [if_neg c12] at H
     have c12b0 : (a0_1.toList == ([] : List UInt8)) = false := beq_eq_false_iff_ne.mpr c12
     have c12b1 : (a0_1.toList != ([] : List UInt8)) = true := bne_iff_ne.mpr c12
     obtain rfl := Option.some.inj H
     go_enter Tryd.func93, Tryd.ntmps93
     go_wp2_with (first | ((with_reducible refine Zb (N := 1) rfl ?_); (try (refine Vg (by rfl) ?_; dsimp only)); refine Zp ?hg (N := 1) ?hd (cs := #[.int .i64 a0_0, .string a0_1, .int .i64 a0_2, .slice A0_3 l0_3.length c0_3, .int .i64 a0_4, .string a0_5, .int .i64 a0_6, .slice A0_7 l0_7.length c0_7, .slice A0_8 l0_8.length c0_8, .slice A0_9 l0_9.length c0_9]) (t := 88) ?hr ?_; (case hd => rfl); (case hg => rfl); (case hr => first | (go_simp; done) | (go_simp; rfl)); intro gb485 hg w18 hbox hb; have n0_ := Qb.mk (Qe (by repeat (first | (with_reducible first | exact HB.out | apply Qd | apply Qh | apply Qi) | exact HB.out)) hb); have n1_ := Qb.mk (hbox); have n2_ := Qb.mk ((by rw [hg]; exact (QC (by repeat (first | (with_reducible first | exact HB.out | apply Qd | apply Qh | apply Qi) | exact HB.out))) : w.heap.size ≤ gb485)); have n3_ := Qb.mk ((by rw [hg]; exact (QC (by repeat (first | (with_reducible first | exact HB.out | apply Qd | apply Qh | apply Qi) | exact HB.out))) : w.heap.size ≤ gb485)); clear HB; have HB := n0_; have BK485 := n1_; have GW485 := n2_; have GE485 := n3_; clear n0_ n1_ n2_ n3_; clear hb hbox hg; have hcz19_0 : w18.cell? ⟨gb485, 0, none⟩ = some (.int .i64 a0_0) := (Qa BK485.out 0).trans rfl; have hcz19_1 : w18.cell? ⟨gb485, 1, none⟩ = some (.string a0_1) := (Qa BK485.out 1).trans rfl; have hcz19_2 : w18.cell? ⟨gb485, 2, none⟩ = some (.int .i64 a0_2) := (Qa BK485.out 2).trans rfl; have hcz19_3 : w18.cell? ⟨gb485, 3, none⟩ = some (.slice A0_3 l0_3.length c0_3) := (Qa BK485.out 3).trans rfl; have hcz19_4 : w18.cell? ⟨gb485, 4, none⟩ = some (.int .i64 a0_4) := (Qa BK485.out 4).trans rfl; have hcz19_5 : w18.cell? ⟨gb485, 5, none⟩ = some (.string a0_5) := (Qa BK485.out 5).trans rfl; have hcz19_6 : w18.cell? ⟨gb485, 6, none⟩ = some (.int .i64 a0_6) := (Qa BK485.out 6).trans rfl; have hcz19_7 : w18.cell? ⟨gb485, 7, none⟩ = some (.slice A0_7 l0_7.length c0_7) := (Qa BK485.out 7).trans rfl; have hcz19_8 : w18.cell? ⟨gb485, 8, none⟩ = some (.slice A0_8 l0_8.length c0_8) := (Qa BK485.out 8).trans rfl; have hcz19_9 : w18.cell? ⟨gb485, 9, none⟩ = some (.slice A0_9 l0_9.length c0_9) := (Qa BK485.out 9).trans rfl; have hfz19_0 := Qg BK485.out 0; have hfz19_1 := Qg BK485.out 1; have hfz19_2 := Qg BK485.out 2; have hfz19_3 := Qg BK485.out 3; have hfz19_4 := Qg BK485.out 4; have hfz19_5 := Qg BK485.out 5; have hfz19_6 := Qg BK485.out 6; have hfz19_7 := Qg BK485.out 7; have hfz19_8 := Qg BK485.out 8; have hfz19_9 := Qg BK485.out 9))
     go_ret
     exact ⟨by first | rfl | (simp [Qp, Qo] <;> rfl) | (simp [*, Qp, Qo] <;> rfl) | (simp [Qp, Qo] <;> (rw [Bool.eq_iff_iff]; simp; done)), by repeat (first | (with_reducible first | exact HB.out | apply Qd | apply Qh | apply Qi | refine QJ ?_ GE485.out) | exact HB.out)⟩
   ·rw [if_neg c11] at H
    have c11b0 : (a0_0 == 3) = false := beq_eq_false_iff_ne.mpr c11
    have c11b1 : (a0_0 != 3) = true := bne_iff_ne.mpr c11
    obtain rfl := Option.some.inj H
    go_enter Tryd.func93, Tryd.ntmps93
    go_wp2_with (first | ((with_reducible refine Zb (N := 1) rfl ?_); (try (refine Vg (by rfl) ?_; dsimp only)); refine Zp ?hg (N := 1) ?hd (cs := #[.int .i64 a0_0, .string a0_1, .int .i64 a0_2, .slice A0_3 l0_3.length c0_3, .int .i64 a0_4, .string a0_5, .int .i64 a0_6, .slice A0_7 l0_7.length c0_7, .slice A0_8 l0_8.length c0_8, .slice A0_9 l0_9.length c0_9]) (t := 88) ?hr ?_; (case hd => rfl); (case hg => rfl); (case hr => first | (go_simp; done) | (go_simp; rfl)); intro gb485 hg w20 hbox hb; have n0_ := Qb.mk (Qe (by repeat (first | (with_reducible first | exact HB.out | apply Qd | apply Qh | apply Qi) | exact HB.out)) hb); have n1_ := Qb.mk (hbox); have n2_ := Qb.mk ((by rw [hg]; exact (QC (by repeat (first | (with_reducible first | exact HB.out | apply Qd | apply Qh | apply Qi) | exact HB.out))) : w.heap.size ≤ gb485)); have n3_ := Qb.mk ((by rw [hg]; exact (QC (by repeat (first | (with_reducible first | exact HB.out | apply Qd | apply Qh | apply Qi) | exact HB.out))) : w.heap.size ≤ gb485)); clear HB; have HB := n0_; have BK485 := n1_; have GW485 := n2_; have GE485 := n3_; clear n0_ n1_ n2_ n3_; clear hb hbox hg; have hcz21_0 : w20.cell? ⟨gb485, 0, none⟩ = some (.int .i64 a0_0) := (Qa BK485.out 0).trans rfl; have hcz21_1 : w20.cell? ⟨gb485, 1, none⟩ = some (.string a0_1) := (Qa BK485.out 1).trans rfl; have hcz21_2 : w20.cell? ⟨gb485, 2, none⟩ = some (.int .i64 a0_2) := (Qa BK485.out 2).trans rfl; have hcz21_3 : w20.cell? ⟨gb485, 3, none⟩ = some (.slice A0_3 l0_3.length c0_3) := (Qa BK485.out 3).trans rfl; have hcz21_4 : w20.cell? ⟨gb485, 4, none⟩ = some (.int .i64 a0_4) := (Qa BK485.out 4).trans rfl; have hcz21_5 : w20.cell? ⟨gb485, 5, none⟩ = some (.string a0_5) := (Qa BK485.out 5).trans rfl; have hcz21_6 : w20.cell? ⟨gb485, 6, none⟩ = some (.int .i64 a0_6) := (Qa BK485.out 6).trans rfl; have hcz21_7 : w20.cell? ⟨gb485, 7, none⟩ = some (.slice A0_7 l0_7.length c0_7) := (Qa BK485.out 7).trans rfl; have hcz21_8 : w20.cell? ⟨gb485, 8, none⟩ = some (.slice A0_8 l0_8.length c0_8) := (Qa BK485.out 8).trans rfl; have hcz21_9 : w20.cell? ⟨gb485, 9, none⟩ = some (.slice A0_9 l0_9.length c0_9) := (Qa BK485.out 9).trans rfl; have hfz21_0 := Qg BK485.out 0; have hfz21_1 := Qg BK485.out 1; have hfz21_2 := Qg BK485.out 2; have hfz21_3 := Qg BK485.out 3; have hfz21_4 := Qg BK485.out 4; have hfz21_5 := Qg BK485.out 5; have hfz21_6 := Qg BK485.out 6; have hfz21_7 := Qg BK485.out 7; have hfz21_8 := Qg BK485.out 8; have hfz21_9 := Qg BK485.out 9))
    go_ret
    exact ⟨by first | rfl | (simp [Qp, Qo] <;> rfl) | (simp [*, Qp, Qo] <;> rfl) | (simp [Qp, Qo] <;> (rw [Bool.eq_iff_iff]; simp; done)), by repeat (first | (with_reducible first | exact HB.out | apply Qd | apply Qh | apply Qi | refine QJ ?_ GE485.out) | exact HB.out)⟩
def QX.f  : Option (List ByteArray) := some (([(⟨#[43]⟩ : ByteArray), (⟨#[45]⟩ : ByteArray), (⟨#[42]⟩ : ByteArray), (⟨#[100, 105, 118]⟩ : ByteArray), (⟨#[109, 111, 100]⟩ : ByteArray), (⟨#[60]⟩ : ByteArray), (⟨#[61]⟩ : ByteArray), (⟨#[102, 43]⟩ : ByteArray), (⟨#[102, 45]⟩ : ByteArray), (⟨#[102, 42]⟩ : ByteArray), (⟨#[102, 47]⟩ : ByteArray), (⟨#[102, 60]⟩ : ByteArray), (⟨#[102, 61]⟩ : ByteArray), (⟨#[102, 108, 111, 97, 116]⟩ : ByteArray), (⟨#[119, 104, 111, 108, 101]⟩ : ByteArray), (⟨#[115, 101, 113]⟩ : ByteArray)] : List ByteArray))
set_option maxHeartbeats 8000000 in
set_option maxRecDepth 100000 in
theorem QX.calls  (r : List ByteArray) (w : World) (h : QX.f  = some r) :
  Calls Tryd.prog 100 #[] w fun e w' => ∃ v0_ : Value, e = .returned (v0_) ∧ Kd.R Kd.string 9 w' w.heap.size (fun _ => True) v0_ r ∧ Below w.heap.size w w' := by
 have HB := Qb.mk (Below.refl w.heap.size w)
 have H : (some (([(⟨#[43]⟩ : ByteArray), (⟨#[45]⟩ : ByteArray), (⟨#[42]⟩ : ByteArray), (⟨#[100, 105, 118]⟩ : ByteArray), (⟨#[109, 111, 100]⟩ : ByteArray), (⟨#[60]⟩ : ByteArray), (⟨#[61]⟩ : ByteArray), (⟨#[102, 43]⟩ : ByteArray), (⟨#[102, 45]⟩ : ByteArray), (⟨#[102, 42]⟩ : ByteArray), (⟨#[102, 47]⟩ : ByteArray), (⟨#[102, 60]⟩ : ByteArray), (⟨#[102, 61]⟩ : ByteArray), (⟨#[102, 108, 111, 97, 116]⟩ : ByteArray), (⟨#[119, 104, 111, 108, 101]⟩ : ByteArray), (⟨#[115, 101, 113]⟩ : ByteArray)] : List ByteArray))) = some r := h
 clear h
 obtain ⟨y486, hy486⟩ : ∃ y_ : List ByteArray, y_ = (([(⟨#[43]⟩ : ByteArray), (⟨#[45]⟩ : ByteArray), (⟨#[42]⟩ : ByteArray), (⟨#[100, 105, 118]⟩ : ByteArray), (⟨#[109, 111, 100]⟩ : ByteArray), (⟨#[60]⟩ : ByteArray), (⟨#[61]⟩ : ByteArray), (⟨#[102, 43]⟩ : ByteArray), (⟨#[102, 45]⟩ : ByteArray), (⟨#[102, 42]⟩ : ByteArray), (⟨#[102, 47]⟩ : ByteArray), (⟨#[102, 60]⟩ : ByteArray), (⟨#[102, 61]⟩ : ByteArray), (⟨#[102, 108, 111, 97, 116]⟩ : ByteArray), (⟨#[119, 104, 111, 108, 101]⟩ : ByteArray), (⟨#[115, 101, 113]⟩ : ByteArray)] : List ByteArray)) := ⟨_, rfl⟩
 replace H : (some y486) = some r := by first | (rw [hy486]; with_reducible exact H) | (have H2_ := (Option.bind_some _ _).symm.trans H; rw [hy486]; with_reducible exact H2_) | (have H2_ := (Option.bind_some _ _).symm.trans H; with_reducible exact H2_) | with_reducible exact H | (rw [hy486]; exact H) | exact H
 have Ny486 := Qb.mk hy486
 clear hy486
 obtain rfl := Option.some.inj H
 go_enter Tryd.func100, Tryd.ntmps100
 go_wp2_with (first | ((with_reducible refine Zb (N := 1) rfl ?_); refine Kd.R_lit Kd.string _ 9 ?hg (N := 1) ?hd (xs := ([(⟨#[43]⟩ : ByteArray), (⟨#[45]⟩ : ByteArray), (⟨#[42]⟩ : ByteArray), (⟨#[100, 105, 118]⟩ : ByteArray), (⟨#[109, 111, 100]⟩ : ByteArray), (⟨#[60]⟩ : ByteArray), (⟨#[61]⟩ : ByteArray), (⟨#[102, 43]⟩ : ByteArray), (⟨#[102, 45]⟩ : ByteArray), (⟨#[102, 42]⟩ : ByteArray), (⟨#[102, 47]⟩ : ByteArray), (⟨#[102, 60]⟩ : ByteArray), (⟨#[102, 61]⟩ : ByteArray), (⟨#[102, 108, 111, 97, 116]⟩ : ByteArray), (⟨#[119, 104, 111, 108, 101]⟩ : ByteArray), (⟨#[115, 101, 113]⟩ : ByteArray)] : List ByteArray)) (inner := [.string (⟨#[43]⟩ : ByteArray), .string (⟨#[45]⟩ : ByteArray), .string (⟨#[42]⟩ : ByteArray), .string (⟨#[100, 105, 118]⟩ : ByteArray), .string (⟨#[109, 111, 100]⟩ : ByteArray), .string (⟨#[60]⟩ : ByteArray), .string (⟨#[61]⟩ : ByteArray), .string (⟨#[102, 43]⟩ : ByteArray), .string (⟨#[102, 45]⟩ : ByteArray), .string (⟨#[102, 42]⟩ : ByteArray), .string (⟨#[102, 47]⟩ : ByteArray), .string (⟨#[102, 60]⟩ : ByteArray), .string (⟨#[102, 61]⟩ : ByteArray), .string (⟨#[102, 108, 111, 97, 116]⟩ : ByteArray), .string (⟨#[119, 104, 111, 108, 101]⟩ : ByteArray), .string (⟨#[115, 101, 113]⟩ : ByteArray)]) (ok := fun _ => True) (okp := fun _ => True) ?hr ?hp (fun _ hk => hk) trivial (Below.refl _ _) (Nat.le_refl _) (by simp) ?_; (case hd => rfl); (case hg => rfl); (case hr => first | (go_simp; done) | (go_simp; rfl)); (case hp => exact (QB.one (show Kd.M Kd.string _ _ _ (⟨#[43]⟩ : ByteArray) [.string (⟨#[43]⟩ : ByteArray)] from rfl) (QB.one (show Kd.M Kd.string _ _ _ (⟨#[45]⟩ : ByteArray) [.string (⟨#[45]⟩ : ByteArray)] from rfl) (QB.one (show Kd.M Kd.string _ _ _ (⟨#[42]⟩ : ByteArray) [.string (⟨#[42]⟩ : ByteArray)] from rfl) (QB.one (show Kd.M Kd.string _ _ _ (⟨#[100, 105, 118]⟩ : ByteArray) [.string (⟨#[100, 105, 118]⟩ : ByteArray)] from rfl) (QB.one (show Kd.M Kd.string _ _ _ (⟨#[109, 111, 100]⟩ : ByteArray) [.string (⟨#[109, 111, 100]⟩ : ByteArray)] from rfl) (QB.one (show Kd.M Kd.string _ _ _ (⟨#[60]⟩ : ByteArray) [.string (⟨#[60]⟩ : ByteArray)] from rfl) (QB.one (show Kd.M Kd.string _ _ _ (⟨#[61]⟩ : ByteArray) [.string (⟨#[61]⟩ : ByteArray)] from rfl) (QB.one (show Kd.M Kd.string _ _ _ (⟨#[102, 43]⟩ : ByteArray) [.string (⟨#[102, 43]⟩ : ByteArray)] from rfl) (QB.one (show Kd.M Kd.string _ _ _ (⟨#[102, 45]⟩ : ByteArray) [.string (⟨#[102, 45]⟩ : ByteArray)] from rfl) (QB.one (show Kd.M Kd.string _ _ _ (⟨#[102, 42]⟩ : ByteArray) [.string (⟨#[102, 42]⟩ : ByteArray)] from rfl) (QB.one (show Kd.M Kd.string _ _ _ (⟨#[102, 47]⟩ : ByteArray) [.string (⟨#[102, 47]⟩ : ByteArray)] from rfl) (QB.one (show Kd.M Kd.string _ _ _ (⟨#[102, 60]⟩ : ByteArray) [.string (⟨#[102, 60]⟩ : ByteArray)] from rfl) (QB.one (show Kd.M Kd.string _ _ _ (⟨#[102, 61]⟩ : ByteArray) [.string (⟨#[102, 61]⟩ : ByteArray)] from rfl) (QB.one (show Kd.M Kd.string _ _ _ (⟨#[102, 108, 111, 97, 116]⟩ : ByteArray) [.string (⟨#[102, 108, 111, 97, 116]⟩ : ByteArray)] from rfl) (QB.one (show Kd.M Kd.string _ _ _ (⟨#[119, 104, 111, 108, 101]⟩ : ByteArray) [.string (⟨#[119, 104, 111, 108, 101]⟩ : ByteArray)] from rfl) (QB.one (show Kd.M Kd.string _ _ _ (⟨#[115, 101, 113]⟩ : ByteArray) [.string (⟨#[115, 101, 113]⟩ : ByteArray)] from rfl) (QB.none _ _)))))))))))))))))); intro v487 w1 ho2 hb hg_ hnew_; clear hg_ hnew_; (first | rw [← Ny486.out] at ho2 | (simp only [Int.reduceToNat] at ho2; rw [← Ny486.out] at ho2)); have n0_ := Qb.mk (Kd.ZT ho2 (QC (by repeat (first | (with_reducible first | exact HB.out | apply Qd | apply Qh | apply Qi) | exact HB.out)))); have n1_ := Qb.mk (Qe (by repeat (first | (with_reducible first | exact HB.out | apply Qd | apply Qh | apply Qi) | exact HB.out)) hb); clear HB; have HO488 := n0_; have HB := n1_; clear n0_ n1_; clear hb ho2))
 go_ret
 exact ⟨_, by first | rfl | (simp [Qp, Qo] <;> rfl) | (simp [*, Qp, Qo] <;> rfl) | (simp [Qp, Qo] <;> (rw [Bool.eq_iff_iff]; simp; done)), by (with_reducible repeat (first | apply Kd.R_alloc | apply Kd.R_drewN | apply Kd.R_drew)); exact HO488.out, by repeat (first | (with_reducible first | exact HB.out | apply Qd | apply Qh | apply Qi) | exact HB.out)⟩
def QA.j0 : Nat → ByteArray → Bool → Option (Int)
 | 0, _, _ => none
 | k + 1, x0, x8 => if x8 = true then (some 1) else ((QX.f).bind fun t489 => ((Q3.f k t489 x0).bind fun t492 => (if t492 = true then (some 2) else (some 0))))
def QA.f (k : Nat) (a0 : ByteArray) : Option (Int) := if a0.toList = ([102, 108, 111, 97, 116] : List UInt8) then (QA.j0 k a0 true) else (QA.j0 k a0 (a0.toList == ([119, 104, 111, 108, 101] : List UInt8)))
theorem QA.QW : ∀ k, (∀ y0 y1, LeO (QA.j0 k y0 y1) (QA.j0 (k + 1) y0 y1))
 | 0 => fun _ _ r h => by simp [QA.j0] at h
 | k + 1 => by
  have ih0 := QA.QW k
  ·intro y0 y1
   unfold QA.j0
   repeat' first
   | (with_reducible exact ih0 _ _)
   | (with_reducible exact Q3.mono _ _ _)
   | (with_reducible exact LeO.refl _)
   | (with_reducible exact LeO.none _)
   | (with_reducible refine LeO.ite ?_ ?_)
   | (with_reducible refine LeO.bind ?_ (fun _ => ?_))
   | exact ih0 _ _
   | exact Q3.mono _ _ _
   | exact LeO.none _
   | refine LeO.ite ?_ ?_
   | refine LeO.bind ?_ (fun _ => ?_)
theorem QA.mono : ∀ a0 k, LeO (QA.f k a0) (QA.f (k + 1) a0) := by
 intro a0 k
 have ih0 := QA.QW k
 unfold QA.f
 repeat' first
   | (with_reducible exact ih0 _ _)
   | (with_reducible exact Q3.mono _ _ _)
   | (with_reducible exact LeO.refl _)
   | (with_reducible exact LeO.none _)
   | (with_reducible refine LeO.ite ?_ ?_)
   | (with_reducible refine LeO.bind ?_ (fun _ => ?_))
   | exact ih0 _ _
   | exact Q3.mono _ _ _
   | exact LeO.none _
   | refine LeO.ite ?_ ?_
   | refine LeO.bind ?_ (fun _ => ?_)
set_option maxHeartbeats 8000000 in
set_option maxRecDepth 100000 in
theorem QA.calls (k : Nat) (a0 : ByteArray) (r : Int) (w : World) (h : QA.f k a0 = some r) :
  Calls Tryd.prog 94 #[.string a0] w fun e w' => e = .returned (.int .i64 r) ∧ Below w.heap.size w w' := by
 have HB := Qb.mk (Below.refl w.heap.size w)
 have H : (if a0.toList = ([102, 108, 111, 97, 116] : List UInt8) then (QA.j0 k a0 true) else (QA.j0 k a0 (a0.toList == ([119, 104, 111, 108, 101] : List UInt8)))) = some r := h
 clear h
 have HC2 := Qb.mk H
 clear H
 go_enter Tryd.func94, Tryd.ntmps94
 go_upto_region 1 with (fail)
 go_cut [8] (fun v8 wc => ∃ (kq : Nat) (x8_1 : Bool), v8 = .bool x8_1 ∧ Qb (QA.j0 kq a0 x8_1 = some r) ∧ Qb (kq ≤ k) ∧ Qb (Below w.heap.size w wc))
 case first => as_aux_lemma =>
  (try simp only [List.append_eq, List.cons_append, List.nil_append])
  have H := HC2.out
  clear HC2
  by_cases c3 : a0.toList = ([102, 108, 111, 97, 116] : List UInt8)
  ·rw [if_pos c3] at H
   have c3b0 : (a0.toList == ([102, 108, 111, 97, 116] : List UInt8)) = true := beq_iff_eq.mpr c3
   have c3b1 : (a0.toList != ([102, 108, 111, 97, 116] : List UInt8)) = false := bne_eq_false_iff_eq.mpr c3
   clear c3
   (first | rw [c3b0] | (simp only [Qk, Ql]; rw [c3b0]) | skip)
   have H' := Qb.mk H
   clear H
   go_wp2
   go_meet
   case rel => exact ⟨_, (true), (by first | rfl | (simp; done) | (simp [*]; done)), H', ⟨by first | omega | exact Nat.le_refl _⟩, ⟨by repeat (first | (with_reducible first | exact HB.out | apply Qd | apply Qh | apply Qi) | exact HB.out)⟩⟩
  ·rw [if_neg c3] at H
   have c3b0 : (a0.toList == ([102, 108, 111, 97, 116] : List UInt8)) = false := beq_eq_false_iff_ne.mpr c3
   have c3b1 : (a0.toList != ([102, 108, 111, 97, 116] : List UInt8)) = true := bne_iff_ne.mpr c3
   (first | rw [c3b0] | (simp only [Qk, Ql]; rw [c3b0]) | skip)
   have H' := Qb.mk H
   clear H
   go_wp2
   go_meet
   case rel => exact ⟨_, ((a0.toList == ([119, 104, 111, 108, 101] : List UInt8))), (by first | rfl | (simp; done) | (simp [*]; done)), H', ⟨by first | omega | exact Nat.le_refl _⟩, ⟨by repeat (first | (with_reducible first | exact HB.out | apply Qd | apply Qh | apply Qi) | exact HB.out)⟩⟩
 case rest =>
  clear HC2
  try clear p2
  try clear c3
  try clear c3b0
  try clear c3b1
  obtain ⟨kq, x8_1, rfl, HA, HJ1, HB⟩ := hcut
  cases kq with
  | zero => exact absurd HA.out (by simp [QA.j0])
  | succ kj1 =>
   have H := HA.out
   clear HA
   simp only [QA.j0] at H
   by_cases c4 : x8_1 = true
   ·subst c4
    have H1 : (some 1) = some r := by rw [if_pos rfl] at H; exact H
    clear H
    have H := H1
    clear H1
    obtain rfl := Option.some.inj H
    go_wp2
    go_ret
    exact ⟨by first | rfl | (simp [Qp, Qo] <;> rfl) | (simp [*, Qp, Qo] <;> rfl) | (simp [Qp, Qo] <;> (rw [Bool.eq_iff_iff]; simp; done)), by repeat (first | (with_reducible first | exact HB.out | apply Qd | apply Qh | apply Qi) | exact HB.out)⟩
   ·replace c4 := Bool.eq_false_iff.mpr c4
    subst c4
    have H1 : ((QX.f).bind fun t489 => ((Q3.f kj1 t489 a0).bind fun t492 => (if t492 = true then (some 2) else (some 0)))) = some r := by rw [if_neg (show ¬ (false = true) by decide)] at H; exact H
    clear H
    have H := H1
    clear H1
    replace H := Option.bind_eq_some_iff.mp H
    obtain ⟨t489, A50, H⟩ := H
    replace H : ((Q3.f kj1 t489 a0).bind fun t492 => (if t492 = true then (some 2) else (some 0))) = some r := H
    have A5 := Qb.mk A50
    clear A50
    replace H := Option.bind_eq_some_iff.mp H
    obtain ⟨t492, A60, H⟩ := H
    replace H : (if t492 = true then (some 2) else (some 0)) = some r := H
    have A6 := Qb.mk A60
    clear A60
    by_cases c7 : t492 = true
    ·subst c7
     have H1 : (some 2) = some r := by rw [if_pos rfl] at H; exact H
     clear H
     have H := H1
     clear H1
     obtain rfl := Option.some.inj H
     go_wp2_with (first | ((with_reducible refine QY (f := 100) rfl ?_); refine Vp (some 9) rfl rfl Tryd.func100 (by kernel_rfl) rfl #[] rfl (by (try simp only [List.map_toArray, List.map_cons, List.map_nil]); first | done | rfl | (simp only [List.length_drop, List.length_take]; rfl)) ?_; (with_reducible refine (QX.calls  t489 _ A5.out).mono ?_); rintro e w8 ⟨v490, rfl, ho0, hb⟩; refine ⟨_, rfl, ?_⟩; have n0_ := Qb.mk (Kd.ZT ho0 (QC (by repeat (first | (with_reducible first | exact HB.out | apply Qd | apply Qh | apply Qi) | exact HB.out)))); have n1_ := Qb.mk (Qe (by repeat (first | (with_reducible first | exact HB.out | apply Qd | apply Qh | apply Qi) | exact HB.out)) hb); clear HB; have HO491 := n0_; have HB := n1_; clear n0_ n1_; (try clear hb); (try clear hb2); (try clear hk); (try clear hi); (try clear ho0); obtain ⟨Ao9, co9, eo9⟩ := Kd.Z8 HO491.out; subst eo9) | ((with_reducible refine QY (f := 35) rfl ?_); refine Vp (some 11) rfl rfl Tryd.func35 (by kernel_rfl) rfl #[.slice Ao9 t489.length co9, .string a0] rfl (by (try simp only [List.map_toArray, List.map_cons, List.map_nil]); first | done | rfl | (simp only [List.length_drop, List.length_take]; rfl)) ?_; (with_reducible refine (Q3.calls kj1 _ _ t489 a0 true _ ?side197 ?side198 A6.out).mono ?_); (case side197 => repeat (first | exact (Kd.Zk HO491.out).2.2 | (with_reducible refine Kd.Vb ?_ _) | (with_reducible refine Kd.Vs ?_ _) | (with_reducible refine Kd.C_drew ?_))); (case side198 => exact (Kd.Zk HO491.out).2.1); rintro e w' ⟨rfl, ⟨nd, rfl⟩⟩; refine ⟨_, rfl, ?_⟩))
     go_ret
     exact ⟨by first | rfl | (simp [Qp, Qo] <;> rfl) | (simp [*, Qp, Qo] <;> rfl) | (simp [Qp, Qo] <;> (rw [Bool.eq_iff_iff]; simp; done)), by repeat (first | (with_reducible first | exact HB.out | apply Qd | apply Qh | apply Qi) | exact HB.out)⟩
    ·replace c7 := Bool.eq_false_iff.mpr c7
     subst c7
     have H1 : (some 0) = some r := by rw [if_neg (show ¬ (false = true) by decide)] at H; exact H
     clear H
     have H := H1
     clear H1
     obtain rfl := Option.some.inj H
     go_wp2_with (first | ((with_reducible refine QY (f := 100) rfl ?_); refine Vp (some 9) rfl rfl Tryd.func100 (by kernel_rfl) rfl #[] rfl (by (try simp only [List.map_toArray, List.map_cons, List.map_nil]); first | done | rfl | (simp only [List.length_drop, List.length_take]; rfl)) ?_; (with_reducible refine (QX.calls  t489 _ A5.out).mono ?_); rintro e w10 ⟨v490, rfl, ho0, hb⟩; refine ⟨_, rfl, ?_⟩; have n0_ := Qb.mk (Kd.ZT ho0 (QC (by repeat (first | (with_reducible first | exact HB.out | apply Qd | apply Qh | apply Qi) | exact HB.out)))); have n1_ := Qb.mk (Qe (by repeat (first | (with_reducible first | exact HB.out | apply Qd | apply Qh | apply Qi) | exact HB.out)) hb); clear HB; have HO491 := n0_; have HB := n1_; clear n0_ n1_; (try clear hb); (try clear hb2); (try clear hk); (try clear hi); (try clear ho0); obtain ⟨Ao11, co11, eo11⟩ := Kd.Z8 HO491.out; subst eo11) | ((with_reducible refine QY (f := 35) rfl ?_); refine Vp (some 11) rfl rfl Tryd.func35 (by kernel_rfl) rfl #[.slice Ao11 t489.length co11, .string a0] rfl (by (try simp only [List.map_toArray, List.map_cons, List.map_nil]); first | done | rfl | (simp only [List.length_drop, List.length_take]; rfl)) ?_; (with_reducible refine (Q3.calls kj1 _ _ t489 a0 false _ ?side199 ?side200 A6.out).mono ?_); (case side199 => repeat (first | exact (Kd.Zk HO491.out).2.2 | (with_reducible refine Kd.Vb ?_ _) | (with_reducible refine Kd.Vs ?_ _) | (with_reducible refine Kd.C_drew ?_))); (case side200 => exact (Kd.Zk HO491.out).2.1); rintro e w' ⟨rfl, ⟨nd, rfl⟩⟩; refine ⟨_, rfl, ?_⟩))
     go_ret
     exact ⟨by first | rfl | (simp [Qp, Qo] <;> rfl) | (simp [*, Qp, Qo] <;> rfl) | (simp [Qp, Qo] <;> (rw [Bool.eq_iff_iff]; simp; done)), by repeat (first | (with_reducible first | exact HB.out | apply Qd | apply Qh | apply Qi) | exact HB.out)⟩
attribute [local go_sem] ZG ZP ZY Ve ZC ZB ZQ ZO   -- for this text's walks alone
set_option linter.unusedVariables false
set_option linter.unusedSimpArgs false
-- NOT PRINTED: function 101 (strconv_FormatInt_101)
-- NOT PRINTED: function 95 (gristmillref1_NumText)
-- NOT PRINTED: function 103 (strconv_FormatUint_103)
-- NOT PRINTED: function 102 (strconv_FormatUint_102)
-- NOT PRINTED: function 96 (gristmillref1_FloText)
-- NOT PRINTED: function 97 (gristmillref5_altNode)
-- NOT PRINTED: function 86 (gristmillref5_exprNode)
-- NOT PRINTED: function 72 (gristmillref5_defNode)
-- NOT PRINTED: function 52 (gristmillref5_validDef)
mutual
def Qr.l0 : Nat → List (Vm) → ByteArray → Int → Option (ByteArray)
 | 0, _, _, _ => none
 | k + 1, x0, x3, x4 => if x4 < (x0.length : Int) then (if x4 > 0 then (if x3.size + 1 ≤ 9223372036854775807 then (if 0 ≤ x4 then (if ((QG x0 x4).f0).toList = ([] : List UInt8) then (if (x3 ++ (⟨#[32]⟩ : ByteArray)).size + 1 ≤ 9223372036854775807 then ((Qr.f k ((QG x0 x4).f1)).bind fun t555 => (if ((x3 ++ (⟨#[32]⟩ : ByteArray)) ++ (⟨#[40]⟩ : ByteArray)).size + t555.size ≤ 9223372036854775807 then (if (((x3 ++ (⟨#[32]⟩ : ByteArray)) ++ (⟨#[40]⟩ : ByteArray)) ++ t555).size + 1 ≤ 9223372036854775807 then (Qr.l0 k x0 ((((x3 ++ (⟨#[32]⟩ : ByteArray)) ++ (⟨#[40]⟩ : ByteArray)) ++ t555) ++ (⟨#[41]⟩ : ByteArray)) (wrap64 (x4 + 1))) else (none)) else (none))) else (none)) else (if (x3 ++ (⟨#[32]⟩ : ByteArray)).size + ((QG x0 x4).f0).size ≤ 9223372036854775807 then (Qr.l0 k x0 ((x3 ++ (⟨#[32]⟩ : ByteArray)) ++ ((QG x0 x4).f0)) (wrap64 (x4 + 1))) else (none))) else (none)) else (none)) else (if 0 ≤ x4 then (if ((QG x0 x4).f0).toList = ([] : List UInt8) then (if x3.size + 1 ≤ 9223372036854775807 then ((Qr.f k ((QG x0 x4).f1)).bind fun t559 => (if (x3 ++ (⟨#[40]⟩ : ByteArray)).size + t559.size ≤ 9223372036854775807 then (if ((x3 ++ (⟨#[40]⟩ : ByteArray)) ++ t559).size + 1 ≤ 9223372036854775807 then (Qr.l0 k x0 (((x3 ++ (⟨#[40]⟩ : ByteArray)) ++ t559) ++ (⟨#[41]⟩ : ByteArray)) (wrap64 (x4 + 1))) else (none)) else (none))) else (none)) else (if x3.size + ((QG x0 x4).f0).size ≤ 9223372036854775807 then (Qr.l0 k x0 (x3 ++ ((QG x0 x4).f0)) (wrap64 (x4 + 1))) else (none))) else (none))) else (some x3)
def Qr.f : Nat → List (Vm) → Option (ByteArray)
 | 0, _ => none
 | k + 1, l0 => Qr.l0 k l0 (⟨#[]⟩ : ByteArray) 0
end
theorem Qr.QW : ∀ k, (∀ y0, LeO (Qr.f k y0) (Qr.f (k + 1) y0)) ∧ (∀ y0 y1 y2, LeO (Qr.l0 k y0 y1 y2) (Qr.l0 (k + 1) y0 y1 y2))
 | 0 => ⟨fun _ r h => by simp [Qr.f] at h, fun _ _ _ r h => by simp [Qr.l0] at h⟩
 | k + 1 => by
  obtain ⟨ih0, ih1⟩ := Qr.QW k
  refine ⟨?_, ?_⟩
  ·intro y0
   unfold Qr.f
   repeat' first
   | (with_reducible exact ih0 _)
   | (with_reducible exact ih1 _ _ _)
   | (with_reducible exact LeO.refl _)
   | (with_reducible exact LeO.none _)
   | (with_reducible refine LeO.ite ?_ ?_)
   | (with_reducible refine LeO.bind ?_ (fun _ => ?_))
   | exact ih0 _
   | exact ih1 _ _ _
   | exact LeO.none _
   | refine LeO.ite ?_ ?_
   | refine LeO.bind ?_ (fun _ => ?_)
  ·intro y0 y1 y2
   unfold Qr.l0
   repeat' first
   | (with_reducible exact ih0 _)
   | (with_reducible exact ih1 _ _ _)
   | (with_reducible exact LeO.refl _)
   | (with_reducible exact LeO.none _)
   | (with_reducible refine LeO.ite ?_ ?_)
   | (with_reducible refine LeO.bind ?_ (fun _ => ?_))
   | exact ih0 _
   | exact ih1 _ _ _
   | exact LeO.none _
   | refine LeO.ite ?_ ?_
   | refine LeO.bind ?_ (fun _ => ?_)
theorem Qr.mono : ∀ a0 k, LeO (Qr.f k a0) (Qr.f (k + 1) a0) := by
 intro a0 k
 obtain ⟨ih0, ih1⟩ := Qr.QW k
 exact ih0 a0
set_option maxHeartbeats 8000000 in
set_option maxRecDepth 100000 in
theorem Qr.calls (k : Nat) : ∀ (A0 : Option Addr) (c0 : Nat) (l0 : List (Vm)) (r : ByteArray) (w : World) (hr0 : Kd.C k109 w A0 l0.length l0) (hc0 : l0.length ≤ c0) (h : Qr.f k l0 = some r),
  Calls Tryd.prog 73 #[.slice A0 l0.length c0] w fun e w' => e = .returned (.string r) ∧ Qx w w' := by
 induction k using Nat.strongRecOn with
 | _ k ih =>
 intro A0 c0 l0 r w hr0 hc0 h
 cases k with
 | zero => exact absurd h (by simp [Qr.f])
 | succ k =>
 simp only [Qr.f] at h
 have HR0 := Qb.mk hr0
 have HC0 := Qb.mk hc0
 clear hr0 hc0
 have H : (Qr.l0 k l0 (⟨#[]⟩ : ByteArray) 0) = some r := h
 clear h
 have H' := Qb.mk H
 clear H
 go_enter Tryd.func73, Tryd.ntmps73
 go_wp2
 go_loopg [3, 4] k (fun kq v3 v4 w' => ∃ (x3_1 : ByteArray) (x4_1 : Int), v3 = .string x3_1 ∧ v4 = .int .i64 x4_1 ∧ Qb (Qr.l0 kq l0 x3_1 x4_1 = some r) ∧ Qb (kq ≤ k) ∧ Qx w w')
 case atStart => exact ⟨((⟨#[]⟩ : ByteArray)), (0), (by first | rfl | (simp; done) | (simp [*]; done)), (by first | rfl | (simp; done) | (simp [*]; done)), H', ⟨Nat.le_refl _⟩, by repeat (first | exact Qx.refl _ | apply Qx.step)⟩
 case round =>
  clear H'
  obtain ⟨x3_1, x4_1, rfl, rfl, HA, HK1, ⟨m1, rfl⟩⟩ := hrel
  cases gk with
  | zero => exact absurd HA.out (by simp [Qr.l0])
  | succ k1 =>
   have H := HA.out
   clear HA
   simp only [Qr.l0] at H
   by_cases c2 : x4_1 < (l0.length : Int)
   ·rw [if_pos c2] at H
    have c2b0 : decide (x4_1 < (l0.length : Int)) = true := decide_eq_true c2
    clear c2
    by_cases c3 : x4_1 > 0
    ·rw [if_pos c3] at H
     have c3b0 : decide (0 < x4_1) = true := decide_eq_true c3
     clear c3
     by_cases c4 : x3_1.size + 1 ≤ 9223372036854775807
     ·rw [if_pos c4] at H
      have c4b0 := eq_true c4
      have c4b1 : decide (x3_1.size + 1 ≤ 9223372036854775807) = true := decide_eq_true c4
      try have c4b2 : (9223372036854775807 < x3_1.size + 1) = False := eq_false (Nat.not_lt.2 c4)
      by_cases c5 : 0 ≤ x4_1
      ·rw [if_pos c5] at H
       have c5b0 : decide (0 ≤ x4_1) = true := decide_eq_true c5
       clear c5
       by_cases c6 : ((QG l0 x4_1).f0).toList = ([] : List UInt8)
       ·rw [if_pos c6] at H
        have c6b0 : (((QG l0 x4_1).f0).toList == ([] : List UInt8)) = true := beq_iff_eq.mpr c6
        have c6b1 : (((QG l0 x4_1).f0).toList != ([] : List UInt8)) = false := bne_eq_false_iff_eq.mpr c6
        clear c6
        by_cases c7 : (x3_1 ++ (⟨#[32]⟩ : ByteArray)).size + 1 ≤ 9223372036854775807
        ·rw [if_pos c7] at H
         have c7b0 := eq_true c7
         have c7b1 : decide ((x3_1 ++ (⟨#[32]⟩ : ByteArray)).size + 1 ≤ 9223372036854775807) = true := decide_eq_true c7
         have c7b3 := c7
         (try simp only [go_sem, ByteArray.size_append, show ∀ a_ : UInt8, (⟨#[a_]⟩ : ByteArray).size = 1 from fun _ => rfl] at c7b3)
         (try have c7b4 := eq_true c7b3)
         (try have c7b5 := eq_false (Nat.not_lt.2 c7b3))
         try have c7b2 : (9223372036854775807 < (x3_1 ++ (⟨#[32]⟩ : ByteArray)).size + 1) = False := eq_false (Nat.not_lt.2 c7)
         replace H := Option.bind_eq_some_iff.mp H
         obtain ⟨t555, A80, H⟩ := H
         replace H : (if ((x3_1 ++ (⟨#[32]⟩ : ByteArray)) ++ (⟨#[40]⟩ : ByteArray)).size + t555.size ≤ 9223372036854775807 then (if (((x3_1 ++ (⟨#[32]⟩ : ByteArray)) ++ (⟨#[40]⟩ : ByteArray)) ++ t555).size + 1 ≤ 9223372036854775807 then (Qr.l0 k1 l0 ((((x3_1 ++ (⟨#[32]⟩ : ByteArray)) ++ (⟨#[40]⟩ : ByteArray)) ++ t555) ++ (⟨#[41]⟩ : ByteArray)) (wrap64 (x4_1 + 1))) else (none)) else (none)) = some r := H
         have A8 := Qb.mk A80
         clear A80
         by_cases c9 : ((x3_1 ++ (⟨#[32]⟩ : ByteArray)) ++ (⟨#[40]⟩ : ByteArray)).size + t555.size ≤ 9223372036854775807
         ·rw [if_pos c9] at H
          have c9b0 := eq_true c9
          have c9b1 : decide (((x3_1 ++ (⟨#[32]⟩ : ByteArray)) ++ (⟨#[40]⟩ : ByteArray)).size + t555.size ≤ 9223372036854775807) = true := decide_eq_true c9
          have c9b3 := c9
          (try simp only [go_sem, ByteArray.size_append, show ∀ a_ : UInt8, (⟨#[a_]⟩ : ByteArray).size = 1 from fun _ => rfl] at c9b3)
          (try have c9b4 := eq_true c9b3)
          (try have c9b5 := eq_false (Nat.not_lt.2 c9b3))
          try have c9b2 : (9223372036854775807 < ((x3_1 ++ (⟨#[32]⟩ : ByteArray)) ++ (⟨#[40]⟩ : ByteArray)).size + t555.size) = False := eq_false (Nat.not_lt.2 c9)
          by_cases c10 : (((x3_1 ++ (⟨#[32]⟩ : ByteArray)) ++ (⟨#[40]⟩ : ByteArray)) ++ t555).size + 1 ≤ 9223372036854775807
          ·rw [if_pos c10] at H
           have c10b0 := eq_true c10
           have c10b1 : decide ((((x3_1 ++ (⟨#[32]⟩ : ByteArray)) ++ (⟨#[40]⟩ : ByteArray)) ++ t555).size + 1 ≤ 9223372036854775807) = true := decide_eq_true c10
           have c10b3 := c10
           (try simp only [go_sem, ByteArray.size_append, show ∀ a_ : UInt8, (⟨#[a_]⟩ : ByteArray).size = 1 from fun _ => rfl] at c10b3)
           (try have c10b4 := eq_true c10b3)
           (try have c10b5 := eq_false (Nat.not_lt.2 c10b3))
           try have c10b2 : (9223372036854775807 < (((x3_1 ++ (⟨#[32]⟩ : ByteArray)) ++ (⟨#[40]⟩ : ByteArray)) ++ t555).size + 1) = False := eq_false (Nat.not_lt.2 c10)
           have H' := Qb.mk H
           clear H
           have p553 : 0 ≤ (x4_1 : Int) := of_decide_eq_true (by first | (with_reducible assumption) | assumption)
           have q553 : x4_1 < (l0.length : Int) := of_decide_eq_true (by first | (with_reducible assumption) | assumption)
           obtain ⟨ad553, A553_1, c553_1, e553, hx553_0, hx553_1, hx553_2, hl553_1, hi553_1⟩ := Vr HR0.out x4_1 p553 q553
           cases e553
           have HR553_1 := Qb.mk hi553_1
           have HC553_1 := Qb.mk hl553_1
           clear hi553_1 hl553_1
           replace p553 := eq_true p553
           replace q553 := eq_true q553
           have p554 : 0 ≤ (x4_1 : Int) := of_decide_eq_true (by first | (with_reducible assumption) | assumption)
           have q554 : x4_1 < (l0.length : Int) := of_decide_eq_true (by first | (with_reducible assumption) | assumption)
           obtain ⟨ad554, A554_1, c554_1, e554, hx554_0, hx554_1, hx554_2, hl554_1, hi554_1⟩ := Vr HR0.out x4_1 p554 q554
           obtain rfl : ad553 = ad554 := (by injection e554)
           have HR554_1 := Qb.mk hi554_1
           have HC554_1 := Qb.mk hl554_1
           clear hi554_1 hl554_1
           replace p554 := eq_true p554
           replace q554 := eq_true q554
           have ea_ := Option.some.inj (hx553_1.symm.trans hx554_1)
           injection ea_ with ea_ en_ ec_
           subst ea_
           subst ec_
           clear en_
           go_wp2_with (first | ((with_reducible refine QY (f := 73) rfl ?_); refine Vp (some 35) rfl rfl Tryd.func73 (by kernel_rfl) rfl #[.slice A553_1 ((QG l0 x4_1).f1).length c553_1] rfl (by (try simp only [List.map_toArray, List.map_cons, List.map_nil]); first | done | rfl | (simp only [List.length_drop, List.length_take]; rfl)) ?_; (with_reducible refine (ih k1 (by have := HK1.out; omega) _ _ ((QG l0 x4_1).f1) t555 _ ?side259 ?side260 A8.out).mono ?_); (case side259 => repeat (first | exact HR554_1.out | (with_reducible refine Kd.Vb ?_ _) | (with_reducible refine Kd.Vs ?_ _) | (with_reducible refine Kd.C_drew ?_))); (case side260 => exact HC554_1.out); rintro e w' ⟨rfl, ⟨nd, rfl⟩⟩; refine ⟨_, rfl, ?_⟩))
           go_roundg k1
           case measure => have := HK1.out; omega
           case rel => exact ⟨((((x3_1 ++ (⟨#[32]⟩ : ByteArray)) ++ (⟨#[40]⟩ : ByteArray)) ++ t555) ++ (⟨#[41]⟩ : ByteArray)), (wrap64 (x4_1 + 1)), (by first | rfl | (simp; done) | (simp [*]; done)), (by first | rfl | (simp; done) | (simp [*]; done)), H', ⟨by have := HK1.out; omega⟩, by repeat (first | exact Qx.refl _ | apply Qx.step)⟩
          ·rw [if_neg c10] at H
           exact absurd H (by simp)
         ·rw [if_neg c9] at H
          exact absurd H (by simp)
        ·rw [if_neg c7] at H
         exact absurd H (by simp)
       ·rw [if_neg c6] at H
        have c6b0 : (((QG l0 x4_1).f0).toList == ([] : List UInt8)) = false := beq_eq_false_iff_ne.mpr c6
        have c6b1 : (((QG l0 x4_1).f0).toList != ([] : List UInt8)) = true := bne_iff_ne.mpr c6
        by_cases c11 : (x3_1 ++ (⟨#[32]⟩ : ByteArray)).size + ((QG l0 x4_1).f0).size ≤ 9223372036854775807
        ·rw [if_pos c11] at H
         have c11b0 := eq_true c11
         have c11b1 : decide ((x3_1 ++ (⟨#[32]⟩ : ByteArray)).size + ((QG l0 x4_1).f0).size ≤ 9223372036854775807) = true := decide_eq_true c11
         have c11b3 := c11
         (try simp only [go_sem, ByteArray.size_append, show ∀ a_ : UInt8, (⟨#[a_]⟩ : ByteArray).size = 1 from fun _ => rfl] at c11b3)
         (try have c11b4 := eq_true c11b3)
         (try have c11b5 := eq_false (Nat.not_lt.2 c11b3))
         try have c11b2 : (9223372036854775807 < (x3_1 ++ (⟨#[32]⟩ : ByteArray)).size + ((QG l0 x4_1).f0).size) = False := eq_false (Nat.not_lt.2 c11)
         have H' := Qb.mk H
         clear H
         have p553 : 0 ≤ (x4_1 : Int) := of_decide_eq_true (by first | (with_reducible assumption) | assumption)
         have q553 : x4_1 < (l0.length : Int) := of_decide_eq_true (by first | (with_reducible assumption) | assumption)
         obtain ⟨ad553, A553_1, c553_1, e553, hx553_0, hx553_1, hx553_2, hl553_1, hi553_1⟩ := Vr HR0.out x4_1 p553 q553
         cases e553
         have HR553_1 := Qb.mk hi553_1
         have HC553_1 := Qb.mk hl553_1
         clear hi553_1 hl553_1
         replace p553 := eq_true p553
         replace q553 := eq_true q553
         have p556 : 0 ≤ (x4_1 : Int) := of_decide_eq_true (by first | (with_reducible assumption) | assumption)
         have q556 : x4_1 < (l0.length : Int) := of_decide_eq_true (by first | (with_reducible assumption) | assumption)
         obtain ⟨ad556, A556_1, c556_1, e556, hx556_0, hx556_1, hx556_2, hl556_1, hi556_1⟩ := Vr HR0.out x4_1 p556 q556
         obtain rfl : ad553 = ad556 := (by injection e556)
         have HR556_1 := Qb.mk hi556_1
         have HC556_1 := Qb.mk hl556_1
         clear hi556_1 hl556_1
         replace p556 := eq_true p556
         replace q556 := eq_true q556
         have ea_ := Option.some.inj (hx553_1.symm.trans hx556_1)
         injection ea_ with ea_ en_ ec_
         subst ea_
         subst ec_
         clear en_
         go_wp2
         go_roundg k1
         case measure => have := HK1.out; omega
         case rel => exact ⟨((x3_1 ++ (⟨#[32]⟩ : ByteArray)) ++ ((QG l0 x4_1).f0)), (wrap64 (x4_1 + 1)), (by first | rfl | (simp; done) | (simp [*]; done)), (by first | rfl | (simp; done) | (simp [*]; done)), H', ⟨by have := HK1.out; omega⟩, by repeat (first | exact Qx.refl _ | apply Qx.step)⟩
        ·rw [if_neg c11] at H
         exact absurd H (by simp)
      ·rw [if_neg c5] at H
       exact absurd H (by simp)
     ·rw [if_neg c4] at H
      exact absurd H (by simp)
    ·rw [if_neg c3] at H
     have c3b0 : decide (0 < x4_1) = false := decide_eq_false c3
     clear c3
     by_cases c12 : 0 ≤ x4_1
     ·rw [if_pos c12] at H
      have c12b0 : decide (0 ≤ x4_1) = true := decide_eq_true c12
      clear c12
      by_cases c13 : ((QG l0 x4_1).f0).toList = ([] : List UInt8)
      ·rw [if_pos c13] at H
       have c13b0 : (((QG l0 x4_1).f0).toList == ([] : List UInt8)) = true := beq_iff_eq.mpr c13
       have c13b1 : (((QG l0 x4_1).f0).toList != ([] : List UInt8)) = false := bne_eq_false_iff_eq.mpr c13
       clear c13
       by_cases c14 : x3_1.size + 1 ≤ 9223372036854775807
       ·rw [if_pos c14] at H
        have c14b0 := eq_true c14
        have c14b1 : decide (x3_1.size + 1 ≤ 9223372036854775807) = true := decide_eq_true c14
        try have c14b2 : (9223372036854775807 < x3_1.size + 1) = False := eq_false (Nat.not_lt.2 c14)
        replace H := Option.bind_eq_some_iff.mp H
        obtain ⟨t559, A150, H⟩ := H
        replace H : (if (x3_1 ++ (⟨#[40]⟩ : ByteArray)).size + t559.size ≤ 9223372036854775807 then (if ((x3_1 ++ (⟨#[40]⟩ : ByteArray)) ++ t559).size + 1 ≤ 9223372036854775807 then (Qr.l0 k1 l0 (((x3_1 ++ (⟨#[40]⟩ : ByteArray)) ++ t559) ++ (⟨#[41]⟩ : ByteArray)) (wrap64 (x4_1 + 1))) else (none)) else (none)) = some r := H
        have A15 := Qb.mk A150
        clear A150
        by_cases c16 : (x3_1 ++ (⟨#[40]⟩ : ByteArray)).size + t559.size ≤ 9223372036854775807
        ·rw [if_pos c16] at H
         have c16b0 := eq_true c16
         have c16b1 : decide ((x3_1 ++ (⟨#[40]⟩ : ByteArray)).size + t559.size ≤ 9223372036854775807) = true := decide_eq_true c16
         have c16b3 := c16
         (try simp only [go_sem, ByteArray.size_append, show ∀ a_ : UInt8, (⟨#[a_]⟩ : ByteArray).size = 1 from fun _ => rfl] at c16b3)
         (try have c16b4 := eq_true c16b3)
         (try have c16b5 := eq_false (Nat.not_lt.2 c16b3))
         try have c16b2 : (9223372036854775807 < (x3_1 ++ (⟨#[40]⟩ : ByteArray)).size + t559.size) = False := eq_false (Nat.not_lt.2 c16)
         by_cases c17 : ((x3_1 ++ (⟨#[40]⟩ : ByteArray)) ++ t559).size + 1 ≤ 9223372036854775807
         ·rw [if_pos c17] at H
          have c17b0 := eq_true c17
          have c17b1 : decide (((x3_1 ++ (⟨#[40]⟩ : ByteArray)) ++ t559).size + 1 ≤ 9223372036854775807) = true := decide_eq_true c17
          have c17b3 := c17
          (try simp only [go_sem, ByteArray.size_append, show ∀ a_ : UInt8, (⟨#[a_]⟩ : ByteArray).size = 1 from fun _ => rfl] at c17b3)
          (try have c17b4 := eq_true c17b3)
          (try have c17b5 := eq_false (Nat.not_lt.2 c17b3))
          try have c17b2 : (9223372036854775807 < ((x3_1 ++ (⟨#[40]⟩ : ByteArray)) ++ t559).size + 1) = False := eq_false (Nat.not_lt.2 c17)
          have H' := Qb.mk H
          clear H
          have p557 : 0 ≤ (x4_1 : Int) := of_decide_eq_true (by first | (with_reducible assumption) | assumption)
          have q557 : x4_1 < (l0.length : Int) := of_decide_eq_true (by first | (with_reducible assumption) | assumption)
          obtain ⟨ad557, A557_1, c557_1, e557, hx557_0, hx557_1, hx557_2, hl557_1, hi557_1⟩ := Vr HR0.out x4_1 p557 q557
          cases e557
          have HR557_1 := Qb.mk hi557_1
          have HC557_1 := Qb.mk hl557_1
          clear hi557_1 hl557_1
          replace p557 := eq_true p557
          replace q557 := eq_true q557
          have p558 : 0 ≤ (x4_1 : Int) := of_decide_eq_true (by first | (with_reducible assumption) | assumption)
          have q558 : x4_1 < (l0.length : Int) := of_decide_eq_true (by first | (with_reducible assumption) | assumption)
          obtain ⟨ad558, A558_1, c558_1, e558, hx558_0, hx558_1, hx558_2, hl558_1, hi558_1⟩ := Vr HR0.out x4_1 p558 q558
          obtain rfl : ad557 = ad558 := (by injection e558)
          have HR558_1 := Qb.mk hi558_1
          have HC558_1 := Qb.mk hl558_1
          clear hi558_1 hl558_1
          replace p558 := eq_true p558
          replace q558 := eq_true q558
          have ea_ := Option.some.inj (hx557_1.symm.trans hx558_1)
          injection ea_ with ea_ en_ ec_
          subst ea_
          subst ec_
          clear en_
          go_wp2_with (first | ((with_reducible refine QY (f := 73) rfl ?_); refine Vp (some 35) rfl rfl Tryd.func73 (by kernel_rfl) rfl #[.slice A557_1 ((QG l0 x4_1).f1).length c557_1] rfl (by (try simp only [List.map_toArray, List.map_cons, List.map_nil]); first | done | rfl | (simp only [List.length_drop, List.length_take]; rfl)) ?_; (with_reducible refine (ih k1 (by have := HK1.out; omega) _ _ ((QG l0 x4_1).f1) t559 _ ?side261 ?side262 A15.out).mono ?_); (case side261 => repeat (first | exact HR558_1.out | (with_reducible refine Kd.Vb ?_ _) | (with_reducible refine Kd.Vs ?_ _) | (with_reducible refine Kd.C_drew ?_))); (case side262 => exact HC558_1.out); rintro e w' ⟨rfl, ⟨nd, rfl⟩⟩; refine ⟨_, rfl, ?_⟩))
          go_roundg k1
          case measure => have := HK1.out; omega
          case rel => exact ⟨(((x3_1 ++ (⟨#[40]⟩ : ByteArray)) ++ t559) ++ (⟨#[41]⟩ : ByteArray)), (wrap64 (x4_1 + 1)), (by first | rfl | (simp; done) | (simp [*]; done)), (by first | rfl | (simp; done) | (simp [*]; done)), H', ⟨by have := HK1.out; omega⟩, by repeat (first | exact Qx.refl _ | apply Qx.step)⟩
         ·rw [if_neg c17] at H
          exact absurd H (by simp)
        ·rw [if_neg c16] at H
         exact absurd H (by simp)
       ·rw [if_neg c14] at H
        exact absurd H (by simp)
      ·rw [if_neg c13] at H
       have c13b0 : (((QG l0 x4_1).f0).toList == ([] : List UInt8)) = false := beq_eq_false_iff_ne.mpr c13
       have c13b1 : (((QG l0 x4_1).f0).toList != ([] : List UInt8)) = true := bne_iff_ne.mpr c13
       by_cases c18 : x3_1.size + ((QG l0 x4_1).f0).size ≤ 9223372036854775807
       ·rw [if_pos c18] at H
        have c18b0 := eq_true c18
        have c18b1 : decide (x3_1.size + ((QG l0 x4_1).f0).size ≤ 9223372036854775807) = true := decide_eq_true c18
        try have c18b2 : (9223372036854775807 < x3_1.size + ((QG l0 x4_1).f0).size) = False := eq_false (Nat.not_lt.2 c18)
        have H' := Qb.mk H
        clear H
        have p557 : 0 ≤ (x4_1 : Int) := of_decide_eq_true (by first | (with_reducible assumption) | assumption)
        have q557 : x4_1 < (l0.length : Int) := of_decide_eq_true (by first | (with_reducible assumption) | assumption)
        obtain ⟨ad557, A557_1, c557_1, e557, hx557_0, hx557_1, hx557_2, hl557_1, hi557_1⟩ := Vr HR0.out x4_1 p557 q557
        cases e557
        have HR557_1 := Qb.mk hi557_1
        have HC557_1 := Qb.mk hl557_1
        clear hi557_1 hl557_1
        replace p557 := eq_true p557
        replace q557 := eq_true q557
        have p560 : 0 ≤ (x4_1 : Int) := of_decide_eq_true (by first | (with_reducible assumption) | assumption)
        have q560 : x4_1 < (l0.length : Int) := of_decide_eq_true (by first | (with_reducible assumption) | assumption)
        obtain ⟨ad560, A560_1, c560_1, e560, hx560_0, hx560_1, hx560_2, hl560_1, hi560_1⟩ := Vr HR0.out x4_1 p560 q560
        obtain rfl : ad557 = ad560 := (by injection e560)
        have HR560_1 := Qb.mk hi560_1
        have HC560_1 := Qb.mk hl560_1
        clear hi560_1 hl560_1
        replace p560 := eq_true p560
        replace q560 := eq_true q560
        have ea_ := Option.some.inj (hx557_1.symm.trans hx560_1)
        injection ea_ with ea_ en_ ec_
        subst ea_
        subst ec_
        clear en_
        go_wp2
        go_roundg k1
        case measure => have := HK1.out; omega
        case rel => exact ⟨(x3_1 ++ ((QG l0 x4_1).f0)), (wrap64 (x4_1 + 1)), (by first | rfl | (simp; done) | (simp [*]; done)), (by first | rfl | (simp; done) | (simp [*]; done)), H', ⟨by have := HK1.out; omega⟩, by repeat (first | exact Qx.refl _ | apply Qx.step)⟩
       ·rw [if_neg c18] at H
        exact absurd H (by simp)
     ·rw [if_neg c12] at H
      exact absurd H (by simp)
   ·rw [if_neg c2] at H
    have c2b0 : decide (x4_1 < (l0.length : Int)) = false := decide_eq_false c2
    clear c2
    obtain rfl := Option.some.inj H
    go_wp2
    go_ret
    exact ⟨by first | rfl | (simp; done) | (simp [*]; done), by repeat (first | exact Qx.refl _ | apply Qx.step)⟩
-- NOT PRINTED: function 53 (gristmillref5_Text)
-- NOT PRINTED: function 34 (Vd)
def Qy.l0 : Nat → List ByteArray → List ByteArray → Int → Option (List ByteArray)
 | 0, _, _, _ => none
 | k + 1, x0, x3, x4 => if x4 < (x0.length : Int) then (if 0 ≤ x4 then ((Q3.f k x3 (rdOf ByteArray.empty x0 x4)).bind fun t571 => (if t571 = true then (Qy.l0 k x0 x3 (wrap64 (x4 + 1))) else (if x3.length < 8796093022208 then (Qy.l0 k x0 (x3 ++ [rdOf ByteArray.empty x0 x4]) (wrap64 (x4 + 1))) else (none)))) else (none)) else (some x3)
def Qy.f (k : Nat) (l0 : List ByteArray) : Option (List ByteArray) := Qy.l0 k l0 ([] : List ByteArray) 0
theorem Qy.QW : ∀ k, (∀ y0 y1 y2, LeO (Qy.l0 k y0 y1 y2) (Qy.l0 (k + 1) y0 y1 y2))
 | 0 => fun _ _ _ r h => by simp [Qy.l0] at h
 | k + 1 => by
  have ih0 := Qy.QW k
  ·intro y0 y1 y2
   unfold Qy.l0
   repeat' first
   | (with_reducible exact ih0 _ _ _)
   | (with_reducible exact Q3.mono _ _ _)
   | (with_reducible exact LeO.refl _)
   | (with_reducible exact LeO.none _)
   | (with_reducible refine LeO.ite ?_ ?_)
   | (with_reducible refine LeO.bind ?_ (fun _ => ?_))
   | exact ih0 _ _ _
   | exact Q3.mono _ _ _
   | exact LeO.none _
   | refine LeO.ite ?_ ?_
   | refine LeO.bind ?_ (fun _ => ?_)
theorem Qy.mono : ∀ a0 k, LeO (Qy.f k a0) (Qy.f (k + 1) a0) := by
 intro a0 k
 have ih0 := Qy.QW k
 unfold Qy.f
 repeat' first
   | (with_reducible exact ih0 _ _ _)
   | (with_reducible exact Q3.mono _ _ _)
   | (with_reducible exact LeO.refl _)
   | (with_reducible exact LeO.none _)
   | (with_reducible refine LeO.ite ?_ ?_)
   | (with_reducible refine LeO.bind ?_ (fun _ => ?_))
   | exact ih0 _ _ _
   | exact Q3.mono _ _ _
   | exact LeO.none _
   | refine LeO.ite ?_ ?_
   | refine LeO.bind ?_ (fun _ => ?_)
set_option maxHeartbeats 8000000 in
set_option maxRecDepth 100000 in
theorem Qy.calls (k : Nat) (A0 : Option Addr) (c0 : Nat) (l0 : List ByteArray) (r : List ByteArray) (w : World) (hr0 : Kd.C Kd.string w A0 l0.length l0) (hc0 : l0.length ≤ c0) (h : Qy.f k l0 = some r) :
  Calls Tryd.prog 55 #[.slice A0 l0.length c0] w fun e w' => ∃ v0_ : Value, e = .returned (v0_) ∧ Kd.R Kd.string 9 w' w.heap.size (fun _ => True) v0_ r ∧ Below w.heap.size w w' := by
 have HR0 := Qb.mk hr0
 have HC0 := Qb.mk hc0
 clear hr0 hc0
 have HB := Qb.mk (Below.refl w.heap.size w)
 have H : (Qy.l0 k l0 ([] : List ByteArray) 0) = some r := h
 clear h
 have H' := Qb.mk H
 clear H
 go_enter Tryd.func55, Tryd.ntmps55
 go_wp2
 go_loopg [3, 4] k (fun kq v3 v4 w' => ∃ (x3_1 : List ByteArray) (x4_1 : Int), v4 = .int .i64 x4_1 ∧ Qb (Qy.l0 kq l0 x3_1 x4_1 = some r) ∧ Qb (kq ≤ k) ∧ Qb (Kd.R Kd.string 9 w' w.heap.size (fun _ => True) v3 x3_1) ∧ Qb (Below w.heap.size w w'))
 case atStart => exact ⟨(([] : List ByteArray)), (0), (by first | rfl | (simp; done) | (simp [*]; done)), H', ⟨Nat.le_refl _⟩, ⟨by first | exact Kd.R_nil _ _ _ _ _ | exact Kd.N_nil _ _ _ _ _ | exact Kd.V_nil _ _ _ _ _ | exact Kd.Q_nil _ _ _ _ _ | exact Kd.S_nil _ _ _ _ _⟩, ⟨by repeat (first | (with_reducible first | exact HB.out | apply Qd | apply Qh | apply Qi) | exact HB.out)⟩⟩
 case round =>
  clear H'
  obtain ⟨x3_1, x4_1, rfl, HA, HK1, HO_3, HB⟩ := hrel
  cases gk with
  | zero => exact absurd HA.out (by simp [Qy.l0])
  | succ k1 =>
   have H := HA.out
   clear HA
   simp only [Qy.l0] at H
   by_cases c2 : x4_1 < (l0.length : Int)
   ·rw [if_pos c2] at H
    have c2b0 : decide (x4_1 < (l0.length : Int)) = true := decide_eq_true c2
    clear c2
    by_cases c3 : 0 ≤ x4_1
    ·rw [if_pos c3] at H
     have c3b0 : decide (0 ≤ x4_1) = true := decide_eq_true c3
     clear c3
     replace H := Option.bind_eq_some_iff.mp H
     obtain ⟨t571, A40, H⟩ := H
     replace H : (if t571 = true then (Qy.l0 k1 l0 x3_1 (wrap64 (x4_1 + 1))) else (if x3_1.length < 8796093022208 then (Qy.l0 k1 l0 (x3_1 ++ [rdOf ByteArray.empty l0 x4_1]) (wrap64 (x4_1 + 1))) else (none))) = some r := H
     have A4 := Qb.mk A40
     clear A40
     by_cases c5 : t571 = true
     ·subst c5
      have H1 : (Qy.l0 k1 l0 x3_1 (wrap64 (x4_1 + 1))) = some r := by rw [if_pos rfl] at H; exact H
      clear H
      have H := H1
      clear H1
      have H' := Qb.mk H
      clear H
      have p570 : 0 ≤ (x4_1 : Int) := of_decide_eq_true (by first | (with_reducible assumption) | assumption)
      have q570 : x4_1 < (l0.length : Int) := of_decide_eq_true (by first | (with_reducible assumption) | assumption)
      obtain ⟨ad570, e570, hx570_0⟩ := Kd.at_string HR0.out x4_1 p570 q570
      cases e570
      replace hx570_0 := (HB.out.cell (World.block_lt_of_cell? w _ hx570_0)).trans hx570_0
      replace p570 := eq_true p570
      replace q570 := eq_true q570
      obtain ⟨Ao6, co6, eo6⟩ := Kd.Z8 HO_3.out
      subst eo6
      go_wp2_with (first | ((with_reducible refine QY (f := 35) rfl ?_); refine Vp (some 16) rfl rfl Tryd.func35 (by kernel_rfl) rfl #[.slice Ao6 x3_1.length co6, .string (rdOf ByteArray.empty l0 x4_1)] rfl (by (try simp only [List.map_toArray, List.map_cons, List.map_nil]); first | done | rfl | (simp only [List.length_drop, List.length_take]; rfl)) ?_; (with_reducible refine (Q3.calls k1 _ _ x3_1 (rdOf ByteArray.empty l0 x4_1) true _ ?side263 ?side264 A4.out).mono ?_); (case side263 => repeat (first | exact (Kd.Zk HO_3.out).2.2 | (with_reducible refine Kd.Vb ?_ _) | (with_reducible refine Kd.Vs ?_ _) | (with_reducible refine Kd.C_drew ?_))); (case side264 => exact (Kd.Zk HO_3.out).2.1); rintro e w' ⟨rfl, ⟨nd, rfl⟩⟩; refine ⟨_, rfl, ?_⟩))
      go_roundg k1
      case measure => have := HK1.out; omega
      case rel => exact ⟨(x3_1), (wrap64 (x4_1 + 1)), (by first | rfl | (simp; done) | (simp [*]; done)), H', ⟨by have := HK1.out; omega⟩, ⟨by (with_reducible repeat (first | apply Kd.R_alloc | apply Kd.R_drewN | apply Kd.R_drew)); exact HO_3.out⟩, ⟨by repeat (first | (with_reducible first | exact HB.out | apply Qd | apply Qh | apply Qi) | exact HB.out)⟩⟩
     ·replace c5 := Bool.eq_false_iff.mpr c5
      subst c5
      have H1 : (if x3_1.length < 8796093022208 then (Qy.l0 k1 l0 (x3_1 ++ [rdOf ByteArray.empty l0 x4_1]) (wrap64 (x4_1 + 1))) else (none)) = some r := by rw [if_neg (show ¬ (false = true) by decide)] at H; exact H
      clear H
      have H := H1
      clear H1
      by_cases c7 : x3_1.length < 8796093022208
      ·rw [if_pos c7] at H
       have LMc7 := Qb.mk c7
       clear c7
       obtain ⟨y573, hy573⟩ : ∃ y_ : List ByteArray, y_ = (x3_1 ++ [rdOf ByteArray.empty l0 x4_1]) := ⟨_, rfl⟩
       replace H : (Qy.l0 k1 l0 y573 (wrap64 (x4_1 + 1))) = some r := by first | (rw [hy573]; with_reducible exact H) | (have H2_ := (Option.bind_some _ _).symm.trans H; rw [hy573]; with_reducible exact H2_) | (have H2_ := (Option.bind_some _ _).symm.trans H; with_reducible exact H2_) | with_reducible exact H | (rw [hy573]; exact H) | exact H
       have Ny573 := Qb.mk hy573
       clear hy573
       have H' := Qb.mk H
       clear H
       have p570 : 0 ≤ (x4_1 : Int) := of_decide_eq_true (by first | (with_reducible assumption) | assumption)
       have q570 : x4_1 < (l0.length : Int) := of_decide_eq_true (by first | (with_reducible assumption) | assumption)
       obtain ⟨ad570, e570, hx570_0⟩ := Kd.at_string HR0.out x4_1 p570 q570
       cases e570
       replace hx570_0 := (HB.out.cell (World.block_lt_of_cell? w _ hx570_0)).trans hx570_0
       replace p570 := eq_true p570
       replace q570 := eq_true q570
       obtain ⟨Ao8, co8, eo8⟩ := Kd.Z8 HO_3.out
       subst eo8
       go_wp2_with (first | ((with_reducible refine QY (f := 35) rfl ?_); refine Vp (some 16) rfl rfl Tryd.func35 (by kernel_rfl) rfl #[.slice Ao8 x3_1.length co8, .string (rdOf ByteArray.empty l0 x4_1)] rfl (by (try simp only [List.map_toArray, List.map_cons, List.map_nil]); first | done | rfl | (simp only [List.length_drop, List.length_take]; rfl)) ?_; (with_reducible refine (Q3.calls k1 _ _ x3_1 (rdOf ByteArray.empty l0 x4_1) false _ ?side265 ?side266 A4.out).mono ?_); (case side265 => repeat (first | exact (Kd.Zk HO_3.out).2.2 | (with_reducible refine Kd.Vb ?_ _) | (with_reducible refine Kd.Vs ?_ _) | (with_reducible refine Kd.C_drew ?_))); (case side266 => exact (Kd.Zk HO_3.out).2.1); rintro e w' ⟨rfl, ⟨nd, rfl⟩⟩; refine ⟨_, rfl, ?_⟩; have p572 : 0 ≤ (x4_1 : Int) := of_decide_eq_true (by first | (with_reducible assumption) | assumption); have q572 : x4_1 < (l0.length : Int) := of_decide_eq_true (by first | (with_reducible assumption) | assumption); obtain ⟨ad572, e572, hx572_0⟩ := Kd.at_string HR0.out x4_1 p572 q572; obtain rfl : ad570 = ad572 := (by injection e572); replace hx572_0 := (HB.out.cell (World.block_lt_of_cell? w _ hx572_0)).trans hx572_0; replace p572 := eq_true p572; replace q572 := eq_true q572) | ((with_reducible refine Zi (b := .append) (xs := #[.tmp 18, .tmp 23]) rfl ?_); at_builtin; refine Kd.R_append Kd.string (w0 := w) w.heap.size rfl (.tmp 18) (.tmp 23) 25 9 (.string ⟨#[]⟩) 16 rfl Tryd.underlying25 info9 rfl (by decide) (by omega) (.slice Ao8 x3_1.length co8) x3_1 (rdOf ByteArray.empty l0 x4_1) [.string (rdOf ByteArray.empty l0 x4_1)] (fun _ => True) (fun _ => False) rfl rfl ?aP (fun _ hk => hk.elim) ?aF ?aO ?aB ?aS ?aL ?_; (case aP => exact rfl); (case aB => exact (by repeat (first | (with_reducible first | exact HB.out | apply Qd | apply Qh | apply Qi) | exact HB.out))); (case aF => exact (fun _ _ => trivial)); (case aO => exact (by (with_reducible repeat (first | apply Kd.R_alloc | apply Kd.R_drewN | apply Kd.R_drew)); exact HO_3.out)); (case aS => exact (QC (by repeat (first | (with_reducible first | exact HB.out | apply Qd | apply Qh | apply Qi) | exact HB.out)))); (case aL => have := LMc7.out; omega); intro v574 w9 ho hb hg hat; rw [← Ny573.out] at ho; have n0_ := Qb.mk (hb); have n1_ := Qb.mk (ho); clear HB; clear HO_3; have HB := n0_; have HO575 := n1_; clear n0_ n1_; clear ho hb hg hat))
       go_roundg k1
       case measure => have := HK1.out; omega
       case rel => exact ⟨(y573), (wrap64 (x4_1 + 1)), (by first | rfl | (simp; done) | (simp [*]; done)), H', ⟨by have := HK1.out; omega⟩, ⟨by (with_reducible repeat (first | apply Kd.R_alloc | apply Kd.R_drewN | apply Kd.R_drew)); exact HO575.out⟩, ⟨by repeat (first | (with_reducible first | exact HB.out | apply Qd | apply Qh | apply Qi) | exact HB.out)⟩⟩
      ·rw [if_neg c7] at H
       exact absurd H (by simp)
    ·rw [if_neg c3] at H
     exact absurd H (by simp)
   ·rw [if_neg c2] at H
    have c2b0 : decide (x4_1 < (l0.length : Int)) = false := decide_eq_false c2
    clear c2
    obtain rfl := Option.some.inj H
    go_wp2
    go_ret
    exact ⟨_, by first | rfl | (simp [Qp, Qo] <;> rfl) | (simp [*, Qp, Qo] <;> rfl) | (simp [Qp, Qo] <;> (rw [Bool.eq_iff_iff]; simp; done)), by (with_reducible repeat (first | apply Kd.R_alloc | apply Kd.R_drewN | apply Kd.R_drew)); exact HO_3.out, by repeat (first | (with_reducible first | exact HB.out | apply Qd | apply Qh | apply Qi) | exact HB.out)⟩
def QR.f (k : Nat) (l0 : List ByteArray) : Option (Bool) := (Qy.f k l0).bind fun t576 => (some ((t576.length : Int) != (l0.length : Int)))
theorem QR.mono : ∀ a0 k, LeO (QR.f k a0) (QR.f (k + 1) a0) := by
 intro a0 k
 unfold QR.f
 repeat' first
   | (with_reducible exact Qy.mono _ _)
   | (with_reducible exact LeO.refl _)
   | (with_reducible exact LeO.none _)
   | (with_reducible refine LeO.ite ?_ ?_)
   | (with_reducible refine LeO.bind ?_ (fun _ => ?_))
   | exact Qy.mono _ _
   | exact LeO.none _
   | refine LeO.ite ?_ ?_
   | refine LeO.bind ?_ (fun _ => ?_)
set_option maxHeartbeats 8000000 in
set_option maxRecDepth 100000 in
theorem QR.calls (k : Nat) (A0 : Option Addr) (c0 : Nat) (l0 : List ByteArray) (r : Bool) (w : World) (hr0 : Kd.C Kd.string w A0 l0.length l0) (hc0 : l0.length ≤ c0) (h : QR.f k l0 = some r) :
  Calls Tryd.prog 36 #[.slice A0 l0.length c0] w fun e w' => e = .returned (.bool r) ∧ Below w.heap.size w w' := by
 have HR0 := Qb.mk hr0
 have HC0 := Qb.mk hc0
 clear hr0 hc0
 have HB := Qb.mk (Below.refl w.heap.size w)
 have H : ((Qy.f k l0).bind fun t576 => (some ((t576.length : Int) != (l0.length : Int)))) = some r := h
 clear h
 replace H := Option.bind_eq_some_iff.mp H
 obtain ⟨t576, A20, H⟩ := H
 replace H : (some ((t576.length : Int) != (l0.length : Int))) = some r := H
 have A2 := Qb.mk A20
 clear A20
 obtain rfl := Option.some.inj H
 go_enter Tryd.func36, Tryd.ntmps36
 go_wp2_with (first | ((with_reducible refine QY (f := 55) rfl ?_); refine Vp (some 4) rfl rfl Tryd.func55 (by kernel_rfl) rfl #[.slice A0 l0.length c0] rfl (by (try simp only [List.map_toArray, List.map_cons, List.map_nil]); first | done | rfl | (simp only [List.length_drop, List.length_take]; rfl)) ?_; (with_reducible refine (Qy.calls k _ _ l0 t576 _ ?side267 ?side268 A2.out).mono ?_); (case side267 => repeat (first | exact HR0.out | (with_reducible refine Kd.Vb ?_ _) | (with_reducible refine Kd.Vs ?_ _) | (with_reducible refine Kd.C_drew ?_))); (case side268 => exact HC0.out); rintro e w3 ⟨v577, rfl, ho0, hb⟩; refine ⟨_, rfl, ?_⟩; have n0_ := Qb.mk (Kd.ZT ho0 (QC (by repeat (first | (with_reducible first | exact HB.out | apply Qd | apply Qh | apply Qi) | exact HB.out)))); have n1_ := Qb.mk (Qe (by repeat (first | (with_reducible first | exact HB.out | apply Qd | apply Qh | apply Qi) | exact HB.out)) hb); clear HB; have HO578 := n0_; have HB := n1_; clear n0_ n1_; (try clear hb); (try clear hb2); (try clear hk); (try clear hi); (try clear ho0); obtain ⟨Ao4, co4, eo4⟩ := Kd.Z8 HO578.out; subst eo4))
 go_ret
 exact ⟨by first | rfl | (simp [Qp, Qo] <;> rfl) | (simp [*, Qp, Qo] <;> rfl) | (simp [Qp, Qo] <;> (rw [Bool.eq_iff_iff]; simp; done)), by repeat (first | (with_reducible first | exact HB.out | apply Qd | apply Qh | apply Qi) | exact HB.out)⟩
def Qz.l0 : Nat → ByteArray → Int → List (S56) → List (S34) → Option (Int)
 | 0, _, _, _, _ => none
 | k + 1, x1, x5, x580000, x580001 => if x5 < (x580000.length : Int) then (if 0 ≤ x5 then (if ((Za x580000 x5).f0).toList = x1.toList then (some x5) else (Qz.l0 k x1 (wrap64 (x5 + 1)) x580000 x580001)) else (none)) else (some (-1))
def Qz.f (k : Nat) (l0_0 : List (S56)) (l0_1 : List (S34)) (a1 : ByteArray) : Option (Int) := Qz.l0 k a1 0 l0_0 l0_1
theorem Qz.QW : ∀ k, (∀ y0 y1 y2 y3, LeO (Qz.l0 k y0 y1 y2 y3) (Qz.l0 (k + 1) y0 y1 y2 y3))
 | 0 => fun _ _ _ _ r h => by simp [Qz.l0] at h
 | k + 1 => by
  have ih0 := Qz.QW k
  ·intro y0 y1 y2 y3
   unfold Qz.l0
   repeat' first
   | (with_reducible exact ih0 _ _ _ _)
   | (with_reducible exact LeO.refl _)
   | (with_reducible exact LeO.none _)
   | (with_reducible refine LeO.ite ?_ ?_)
   | (with_reducible refine LeO.bind ?_ (fun _ => ?_))
   | exact ih0 _ _ _ _
   | exact LeO.none _
   | refine LeO.ite ?_ ?_
   | refine LeO.bind ?_ (fun _ => ?_)
theorem Qz.mono : ∀ a0 a1 a2 k, LeO (Qz.f k a0 a1 a2) (Qz.f (k + 1) a0 a1 a2) := by
 intro a0 a1 a2 k
 have ih0 := Qz.QW k
 unfold Qz.f
 repeat' first
   | (with_reducible exact ih0 _ _ _ _)
   | (with_reducible exact LeO.refl _)
   | (with_reducible exact LeO.none _)
   | (with_reducible refine LeO.ite ?_ ?_)
   | (with_reducible refine LeO.bind ?_ (fun _ => ?_))
   | exact ih0 _ _ _ _
   | exact LeO.none _
   | refine LeO.ite ?_ ?_
   | refine LeO.bind ?_ (fun _ => ?_)
set_option maxHeartbeats 8000000 in
set_option maxRecDepth 100000 in
theorem Qz.calls (k : Nat) (A0_0 : Option Addr) (c0_0 : Nat) (l0_0 : List (S56)) (A0_1 : Option Addr) (c0_1 : Nat) (l0_1 : List (S34)) (a1 : ByteArray) (r : Int) (w : World) (hr0_0 : Kd.C k56 w A0_0 l0_0.length l0_0) (hc0_0 : l0_0.length ≤ c0_0) (hr0_1 : Kd.C k34 w A0_1 l0_1.length l0_1) (hc0_1 : l0_1.length ≤ c0_1) (h : Qz.f k l0_0 l0_1 a1 = some r) :
  Calls Tryd.prog 56 #[.agg #[.slice A0_0 l0_0.length c0_0, .slice A0_1 l0_1.length c0_1], .string a1] w fun e w' => e = .returned (.int .i64 r) ∧ Below w.heap.size w w' := by
 have hu38 := Tryd.underlying38
 have HR0_0 := Qb.mk hr0_0
 have HC0_0 := Qb.mk hc0_0
 clear hr0_0 hc0_0
 have HR0_1 := Qb.mk hr0_1
 have HC0_1 := Qb.mk hc0_1
 clear hr0_1 hc0_1
 have HB := Qb.mk (Below.refl w.heap.size w)
 have H : (Qz.l0 k a1 0 l0_0 l0_1) = some r := h
 clear h
 have H' := Qb.mk H
 clear H
 go_enter Tryd.func56, Tryd.ntmps56
 go_wp2_with (first | ((with_reducible refine Zb (N := 2) rfl ?_); refine Zp ?hg (N := 2) ?hd (cs := #[.slice A0_0 l0_0.length c0_0, .slice A0_1 l0_1.length c0_1]) (t := 38) ?hr ?_; (case hd => rfl); (case hg => rfl); (case hr => first | (go_simp; done) | (go_simp; rfl)); intro gb579 hg w3 hbox hb; have n0_ := Qb.mk (Qe (by repeat (first | (with_reducible first | exact HB.out | apply Qd | apply Qh | apply Qi) | exact HB.out)) hb); have n1_ := Qb.mk (hbox); have n2_ := Qb.mk ((by rw [hg]; exact (QC (by repeat (first | (with_reducible first | exact HB.out | apply Qd | apply Qh | apply Qi) | exact HB.out))) : w.heap.size ≤ gb579)); have n3_ := Qb.mk ((by rw [hg]; exact (QC (by repeat (first | (with_reducible first | exact HB.out | apply Qd | apply Qh | apply Qi) | exact HB.out))) : w.heap.size ≤ gb579)); clear HB; have HB := n0_; have BK579 := n1_; have GW579 := n2_; have GE579 := n3_; clear n0_ n1_ n2_ n3_; clear hb hbox hg))
 go_loopg [5] k (fun kq v5 w' => ∃ (x5_1 : Int), v5 = .int .i64 x5_1 ∧ Qb (Qz.l0 kq a1 x5_1 l0_0 l0_1 = some r) ∧ Qb (kq ≤ k) ∧ Qb (w'.heap[gb579]? = some (.cells #[(.slice A0_0 l0_0.length c0_0), (.slice A0_1 l0_1.length c0_1)] 38 (0, 0))) ∧ Qb (Below w.heap.size w w'))
 case atStart => exact ⟨(0), (by first | rfl | (simp; done) | (simp [*]; done)), H', ⟨Nat.le_refl _⟩, ⟨by (with_reducible repeat (first | refine QK ?_ _ | refine QS ?_ | refine QL ?_ _)); exact BK579.out⟩, ⟨by repeat (first | (with_reducible first | exact HB.out | apply Qd | apply Qh | apply Qi | refine QJ ?_ GE579.out) | exact HB.out)⟩⟩
 case round =>
  clear H'
  try clear p2
  obtain ⟨x5_1, rfl, HA, HK1, BK579, HB⟩ := hrel
  cases gk with
  | zero => exact absurd HA.out (by simp [Qz.l0])
  | succ k1 =>
   have H := HA.out
   clear HA
   simp only [Qz.l0] at H
   by_cases c4 : x5_1 < (l0_0.length : Int)
   ·rw [if_pos c4] at H
    have c4b0 : decide (x5_1 < (l0_0.length : Int)) = true := decide_eq_true c4
    clear c4
    by_cases c5 : 0 ≤ x5_1
    ·rw [if_pos c5] at H
     have c5b0 : decide (0 ≤ x5_1) = true := decide_eq_true c5
     clear c5
     by_cases c6 : ((Za l0_0 x5_1).f0).toList = a1.toList
     ·rw [if_pos c6] at H
      have c6b0 : (((Za l0_0 x5_1).f0).toList == a1.toList) = true := beq_iff_eq.mpr c6
      have c6b1 : (((Za l0_0 x5_1).f0).toList != a1.toList) = false := bne_eq_false_iff_eq.mpr c6
      clear c6
      obtain rfl := Option.some.inj H
      have hcz7_0 : wr.cell? ⟨gb579, 0, none⟩ = some (.slice A0_0 l0_0.length c0_0) := (Qa BK579.out 0).trans rfl
      have hcz7_1 : wr.cell? ⟨gb579, 1, none⟩ = some (.slice A0_1 l0_1.length c0_1) := (Qa BK579.out 1).trans rfl
      have hfz7_0 := Qg BK579.out 0
      have hfz7_1 := Qg BK579.out 1
      have p580 : 0 ≤ (x5_1 : Int) := of_decide_eq_true (by first | (with_reducible assumption) | assumption)
      have q580 : x5_1 < (l0_0.length : Int) := of_decide_eq_true (by first | (with_reducible assumption) | assumption)
      obtain ⟨ad580, A580_1, c580_1, A580_2, c580_2, e580, hx580_0, hx580_1, hx580_2, hl580_1, hi580_1, hl580_2, hi580_2⟩ := at_T56 HR0_0.out x5_1 p580 q580
      cases e580
      replace hx580_0 := (HB.out.cell (World.block_lt_of_cell? w _ hx580_0)).trans hx580_0
      replace hx580_1 := (HB.out.cell (World.block_lt_of_cell? w _ hx580_1)).trans hx580_1
      replace hx580_2 := (HB.out.cell (World.block_lt_of_cell? w _ hx580_2)).trans hx580_2
      have HR580_1 := Qb.mk hi580_1
      have HC580_1 := Qb.mk hl580_1
      clear hi580_1 hl580_1
      have HR580_2 := Qb.mk hi580_2
      have HC580_2 := Qb.mk hl580_2
      clear hi580_2 hl580_2
      replace p580 := eq_true p580
      replace q580 := eq_true q580
      go_wp2
      go_ret
      exact ⟨by first | rfl | (simp [Qp, Qo] <;> rfl) | (simp [*, Qp, Qo] <;> rfl) | (simp [Qp, Qo] <;> (rw [Bool.eq_iff_iff]; simp; done)), by repeat (first | (with_reducible first | exact HB.out | apply Qd | apply Qh | apply Qi | refine QJ ?_ GE579.out) | exact HB.out)⟩
     ·rw [if_neg c6] at H
      have c6b0 : (((Za l0_0 x5_1).f0).toList == a1.toList) = false := beq_eq_false_iff_ne.mpr c6
      have c6b1 : (((Za l0_0 x5_1).f0).toList != a1.toList) = true := bne_iff_ne.mpr c6
      have H' := Qb.mk H
      clear H
      have hcz8_0 : wr.cell? ⟨gb579, 0, none⟩ = some (.slice A0_0 l0_0.length c0_0) := (Qa BK579.out 0).trans rfl
      have hcz8_1 : wr.cell? ⟨gb579, 1, none⟩ = some (.slice A0_1 l0_1.length c0_1) := (Qa BK579.out 1).trans rfl
      have hfz8_0 := Qg BK579.out 0
      have hfz8_1 := Qg BK579.out 1
      have p580 : 0 ≤ (x5_1 : Int) := of_decide_eq_true (by first | (with_reducible assumption) | assumption)
      have q580 : x5_1 < (l0_0.length : Int) := of_decide_eq_true (by first | (with_reducible assumption) | assumption)
      obtain ⟨ad580, A580_1, c580_1, A580_2, c580_2, e580, hx580_0, hx580_1, hx580_2, hl580_1, hi580_1, hl580_2, hi580_2⟩ := at_T56 HR0_0.out x5_1 p580 q580
      cases e580
      replace hx580_0 := (HB.out.cell (World.block_lt_of_cell? w _ hx580_0)).trans hx580_0
      replace hx580_1 := (HB.out.cell (World.block_lt_of_cell? w _ hx580_1)).trans hx580_1
      replace hx580_2 := (HB.out.cell (World.block_lt_of_cell? w _ hx580_2)).trans hx580_2
      have HR580_1 := Qb.mk hi580_1
      have HC580_1 := Qb.mk hl580_1
      clear hi580_1 hl580_1
      have HR580_2 := Qb.mk hi580_2
      have HC580_2 := Qb.mk hl580_2
      clear hi580_2 hl580_2
      replace p580 := eq_true p580
      replace q580 := eq_true q580
      go_wp2
      go_roundg k1
      case measure => have := HK1.out; omega
      case rel => exact ⟨(wrap64 (x5_1 + 1)), (by first | rfl | (simp; done) | (simp [*]; done)), H', ⟨by have := HK1.out; omega⟩, ⟨by (with_reducible repeat (first | refine QK ?_ _ | refine QS ?_ | refine QL ?_ _)); exact BK579.out⟩, ⟨by repeat (first | (with_reducible first | exact HB.out | apply Qd | apply Qh | apply Qi | refine QJ ?_ GE579.out) | exact HB.out)⟩⟩
    ·rw [if_neg c5] at H
     exact absurd H (by simp)
   ·rw [if_neg c4] at H
    have c4b0 : decide (x5_1 < (l0_0.length : Int)) = false := decide_eq_false c4
    clear c4
    obtain rfl := Option.some.inj H
    have hcz9_0 : wr.cell? ⟨gb579, 0, none⟩ = some (.slice A0_0 l0_0.length c0_0) := (Qa BK579.out 0).trans rfl
    have hcz9_1 : wr.cell? ⟨gb579, 1, none⟩ = some (.slice A0_1 l0_1.length c0_1) := (Qa BK579.out 1).trans rfl
    have hfz9_0 := Qg BK579.out 0
    have hfz9_1 := Qg BK579.out 1
    go_wp2
    go_ret
    exact ⟨by first | rfl | (simp [Qp, Qo] <;> rfl) | (simp [*, Qp, Qo] <;> rfl) | (simp [Qp, Qo] <;> (rw [Bool.eq_iff_iff]; simp; done)), by repeat (first | (with_reducible first | exact HB.out | apply Qd | apply Qh | apply Qi | refine QJ ?_ GE579.out) | exact HB.out)⟩
def Zt.f (a0 : ByteArray) : Option (Bool) := if a0.toList = ([] : List UInt8) then (some false) else (if 0 < (a0.size : Int) then (if (bt a0 0) ≥ 97 then (some (decide ((bt a0 0) ≤ 122))) else (some false)) else (none))
set_option maxHeartbeats 8000000 in
set_option maxRecDepth 100000 in
theorem Zt.calls (a0 : ByteArray) (r : Bool) (w : World) (h : Zt.f a0 = some r) :
  Calls Tryd.prog 57 #[.string a0] w fun e w' => e = .returned (.bool r) ∧ Qx w w' := by
 have H : (if a0.toList = ([] : List UInt8) then (some false) else (if 0 < (a0.size : Int) then (if (bt a0 0) ≥ 97 then (some (decide ((bt a0 0) ≤ 122))) else (some false)) else (none))) = some r := h
 clear h
 by_cases c2 : a0.toList = ([] : List UInt8)
 ·rw [if_pos c2] at H
  have c2b0 : (a0.toList == ([] : List UInt8)) = true := beq_iff_eq.mpr c2
  have c2b1 : (a0.toList != ([] : List UInt8)) = false := bne_eq_false_iff_eq.mpr c2
  clear c2
  obtain rfl := Option.some.inj H
  go_enter Tryd.func57, Tryd.ntmps57
  go_wp2
  go_ret
  exact ⟨by first | rfl | (simp; done) | (simp [*]; done), by repeat (first | exact Qx.refl _ | apply Qx.step)⟩
 ·rw [if_neg c2] at H
  have c2b0 : (a0.toList == ([] : List UInt8)) = false := beq_eq_false_iff_ne.mpr c2
  have c2b1 : (a0.toList != ([] : List UInt8)) = true := bne_iff_ne.mpr c2
  by_cases c3 : 0 < (a0.size : Int)
  ·rw [if_pos c3] at H
   have c3b0 : decide (0 < (a0.size : Int)) = true := decide_eq_true c3
   have c3b1 : decide (0 < a0.size) = true := decide_eq_true (by omega)
   clear c3
   by_cases c5 : (bt a0 0) ≥ 97
   ·rw [if_pos c5] at H
    have c5b0 : decide (97 ≤ (bt a0 0)) = true := decide_eq_true c5
    clear c5
    obtain rfl := Option.some.inj H
    have p4 : 0 ≤ (0 : Int) := (by omega)
    have q4 : 0 < a0.size := (by have : (0 : Int) < (a0.size : Int) := of_decide_eq_true (by first | (with_reducible assumption) | assumption); omega)
    have hx4 : ∀ h : 0 < a0.size, ((a0[0]'h).toNat : Int) = bt a0 0 := Zm a0 0
    clear p4
    have qi4 : (0 < (a0.size : Int)) = True := eq_true (of_decide_eq_true (by first | (with_reducible assumption) | assumption))
    replace q4 := eq_true q4
    have p6 : 0 ≤ (0 : Int) := (by omega)
    have q6 : 0 < a0.size := (by have : (0 : Int) < (a0.size : Int) := of_decide_eq_true (by first | (with_reducible assumption) | assumption); omega)
    have hx6 : ∀ h : 0 < a0.size, ((a0[0]'h).toNat : Int) = bt a0 0 := Zm a0 0
    clear p6
    have qi6 : (0 < (a0.size : Int)) = True := eq_true (of_decide_eq_true (by first | (with_reducible assumption) | assumption))
    replace q6 := eq_true q6
    go_enter Tryd.func57, Tryd.ntmps57
    go_wp2
    go_ret
    exact ⟨by first | rfl | (simp; done) | (simp [*]; done), by repeat (first | exact Qx.refl _ | apply Qx.step)⟩
   ·rw [if_neg c5] at H
    have c5b0 : decide (97 ≤ (bt a0 0)) = false := decide_eq_false c5
    clear c5
    obtain rfl := Option.some.inj H
    have p4 : 0 ≤ (0 : Int) := (by omega)
    have q4 : 0 < a0.size := (by have : (0 : Int) < (a0.size : Int) := of_decide_eq_true (by first | (with_reducible assumption) | assumption); omega)
    have hx4 : ∀ h : 0 < a0.size, ((a0[0]'h).toNat : Int) = bt a0 0 := Zm a0 0
    clear p4
    have qi4 : (0 < (a0.size : Int)) = True := eq_true (of_decide_eq_true (by first | (with_reducible assumption) | assumption))
    replace q4 := eq_true q4
    go_enter Tryd.func57, Tryd.ntmps57
    go_wp2
    go_ret
    exact ⟨by first | rfl | (simp; done) | (simp [*]; done), by repeat (first | exact Qx.refl _ | apply Qx.step)⟩
  ·rw [if_neg c3] at H
   exact absurd H (by simp)
attribute [local go_sem] ZG ZP ZY Ve ZC ZB ZQ ZO   -- for this text's walks alone
set_option linter.unusedVariables false
set_option linter.unusedSimpArgs false
def Q7.l0 : Nat → ByteArray → Int → List (S56) → List (S34) → Option (Int)
 | 0, _, _, _, _ => none
 | k + 1, x1, x5, x591000, x591001 => if x5 < (x591001.length : Int) then (if 0 ≤ x5 then (if ((Zd x591001 x5).f0).toList = x1.toList then (some x5) else (Q7.l0 k x1 (wrap64 (x5 + 1)) x591000 x591001)) else (none)) else (some (-1))
def Q7.f (k : Nat) (l0_0 : List (S56)) (l0_1 : List (S34)) (a1 : ByteArray) : Option (Int) := Q7.l0 k a1 0 l0_0 l0_1
theorem Q7.QW : ∀ k, (∀ y0 y1 y2 y3, LeO (Q7.l0 k y0 y1 y2 y3) (Q7.l0 (k + 1) y0 y1 y2 y3))
 | 0 => fun _ _ _ _ r h => by simp [Q7.l0] at h
 | k + 1 => by
  have ih0 := Q7.QW k
  ·intro y0 y1 y2 y3
   unfold Q7.l0
   repeat' first
   | (with_reducible exact ih0 _ _ _ _)
   | (with_reducible exact LeO.refl _)
   | (with_reducible exact LeO.none _)
   | (with_reducible refine LeO.ite ?_ ?_)
   | (with_reducible refine LeO.bind ?_ (fun _ => ?_))
   | exact ih0 _ _ _ _
   | exact LeO.none _
   | refine LeO.ite ?_ ?_
   | refine LeO.bind ?_ (fun _ => ?_)
theorem Q7.mono : ∀ a0 a1 a2 k, LeO (Q7.f k a0 a1 a2) (Q7.f (k + 1) a0 a1 a2) := by
 intro a0 a1 a2 k
 have ih0 := Q7.QW k
 unfold Q7.f
 repeat' first
   | (with_reducible exact ih0 _ _ _ _)
   | (with_reducible exact LeO.refl _)
   | (with_reducible exact LeO.none _)
   | (with_reducible refine LeO.ite ?_ ?_)
   | (with_reducible refine LeO.bind ?_ (fun _ => ?_))
   | exact ih0 _ _ _ _
   | exact LeO.none _
   | refine LeO.ite ?_ ?_
   | refine LeO.bind ?_ (fun _ => ?_)
set_option maxHeartbeats 8000000 in
set_option maxRecDepth 100000 in
theorem Q7.calls (k : Nat) (A0_0 : Option Addr) (c0_0 : Nat) (l0_0 : List (S56)) (A0_1 : Option Addr) (c0_1 : Nat) (l0_1 : List (S34)) (a1 : ByteArray) (r : Int) (w : World) (hr0_0 : Kd.C k56 w A0_0 l0_0.length l0_0) (hc0_0 : l0_0.length ≤ c0_0) (hr0_1 : Kd.C k34 w A0_1 l0_1.length l0_1) (hc0_1 : l0_1.length ≤ c0_1) (h : Q7.f k l0_0 l0_1 a1 = some r) :
  Calls Tryd.prog 40 #[.agg #[.slice A0_0 l0_0.length c0_0, .slice A0_1 l0_1.length c0_1], .string a1] w fun e w' => e = .returned (.int .i64 r) ∧ Below w.heap.size w w' := by
 have hu38 := Tryd.underlying38
 have HR0_0 := Qb.mk hr0_0
 have HC0_0 := Qb.mk hc0_0
 clear hr0_0 hc0_0
 have HR0_1 := Qb.mk hr0_1
 have HC0_1 := Qb.mk hc0_1
 clear hr0_1 hc0_1
 have HB := Qb.mk (Below.refl w.heap.size w)
 have H : (Q7.l0 k a1 0 l0_0 l0_1) = some r := h
 clear h
 have H' := Qb.mk H
 clear H
 go_enter Tryd.func40, Tryd.ntmps40
 go_wp2_with (first | ((with_reducible refine Zb (N := 2) rfl ?_); refine Zp ?hg (N := 2) ?hd (cs := #[.slice A0_0 l0_0.length c0_0, .slice A0_1 l0_1.length c0_1]) (t := 38) ?hr ?_; (case hd => rfl); (case hg => rfl); (case hr => first | (go_simp; done) | (go_simp; rfl)); intro gb590 hg w3 hbox hb; have n0_ := Qb.mk (Qe (by repeat (first | (with_reducible first | exact HB.out | apply Qd | apply Qh | apply Qi) | exact HB.out)) hb); have n1_ := Qb.mk (hbox); have n2_ := Qb.mk ((by rw [hg]; exact (QC (by repeat (first | (with_reducible first | exact HB.out | apply Qd | apply Qh | apply Qi) | exact HB.out))) : w.heap.size ≤ gb590)); have n3_ := Qb.mk ((by rw [hg]; exact (QC (by repeat (first | (with_reducible first | exact HB.out | apply Qd | apply Qh | apply Qi) | exact HB.out))) : w.heap.size ≤ gb590)); clear HB; have HB := n0_; have BK590 := n1_; have GW590 := n2_; have GE590 := n3_; clear n0_ n1_ n2_ n3_; clear hb hbox hg))
 go_loopg [5] k (fun kq v5 w' => ∃ (x5_1 : Int), v5 = .int .i64 x5_1 ∧ Qb (Q7.l0 kq a1 x5_1 l0_0 l0_1 = some r) ∧ Qb (kq ≤ k) ∧ Qb (w'.heap[gb590]? = some (.cells #[(.slice A0_0 l0_0.length c0_0), (.slice A0_1 l0_1.length c0_1)] 38 (0, 0))) ∧ Qb (Below w.heap.size w w'))
 case atStart => exact ⟨(0), (by first | rfl | (simp; done) | (simp [*]; done)), H', ⟨Nat.le_refl _⟩, ⟨by (with_reducible repeat (first | refine QK ?_ _ | refine QS ?_ | refine QL ?_ _)); exact BK590.out⟩, ⟨by repeat (first | (with_reducible first | exact HB.out | apply Qd | apply Qh | apply Qi | refine QJ ?_ GE590.out) | exact HB.out)⟩⟩
 case round =>
  clear H'
  try clear p2
  obtain ⟨x5_1, rfl, HA, HK1, BK590, HB⟩ := hrel
  cases gk with
  | zero => exact absurd HA.out (by simp [Q7.l0])
  | succ k1 =>
   have H := HA.out
   clear HA
   simp only [Q7.l0] at H
   by_cases c4 : x5_1 < (l0_1.length : Int)
   ·rw [if_pos c4] at H
    have c4b0 : decide (x5_1 < (l0_1.length : Int)) = true := decide_eq_true c4
    clear c4
    by_cases c5 : 0 ≤ x5_1
    ·rw [if_pos c5] at H
     have c5b0 : decide (0 ≤ x5_1) = true := decide_eq_true c5
     clear c5
     by_cases c6 : ((Zd l0_1 x5_1).f0).toList = a1.toList
     ·rw [if_pos c6] at H
      have c6b0 : (((Zd l0_1 x5_1).f0).toList == a1.toList) = true := beq_iff_eq.mpr c6
      have c6b1 : (((Zd l0_1 x5_1).f0).toList != a1.toList) = false := bne_eq_false_iff_eq.mpr c6
      clear c6
      obtain rfl := Option.some.inj H
      have hcz7_0 : wr.cell? ⟨gb590, 0, none⟩ = some (.slice A0_0 l0_0.length c0_0) := (Qa BK590.out 0).trans rfl
      have hcz7_1 : wr.cell? ⟨gb590, 1, none⟩ = some (.slice A0_1 l0_1.length c0_1) := (Qa BK590.out 1).trans rfl
      have hfz7_0 := Qg BK590.out 0
      have hfz7_1 := Qg BK590.out 1
      have p591 : 0 ≤ (x5_1 : Int) := of_decide_eq_true (by first | (with_reducible assumption) | assumption)
      have q591 : x5_1 < (l0_1.length : Int) := of_decide_eq_true (by first | (with_reducible assumption) | assumption)
      obtain ⟨ad591, A591_1, c591_1, A591_5, c591_5, A591_6, c591_6, A591_7, c591_7, e591, hx591_0, hx591_1, hx591_2, hx591_3, hx591_4, hx591_5, hx591_6, hx591_7, hl591_1, hi591_1, hl591_5, hi591_5, hl591_6, hi591_6, hl591_7, hi591_7⟩ := at_T34 HR0_1.out x5_1 p591 q591
      cases e591
      replace hx591_0 := (HB.out.cell (World.block_lt_of_cell? w _ hx591_0)).trans hx591_0
      replace hx591_1 := (HB.out.cell (World.block_lt_of_cell? w _ hx591_1)).trans hx591_1
      replace hx591_2 := (HB.out.cell (World.block_lt_of_cell? w _ hx591_2)).trans hx591_2
      replace hx591_3 := (HB.out.cell (World.block_lt_of_cell? w _ hx591_3)).trans hx591_3
      replace hx591_4 := (HB.out.cell (World.block_lt_of_cell? w _ hx591_4)).trans hx591_4
      replace hx591_5 := (HB.out.cell (World.block_lt_of_cell? w _ hx591_5)).trans hx591_5
      replace hx591_6 := (HB.out.cell (World.block_lt_of_cell? w _ hx591_6)).trans hx591_6
      replace hx591_7 := (HB.out.cell (World.block_lt_of_cell? w _ hx591_7)).trans hx591_7
      have HR591_1 := Qb.mk hi591_1
      have HC591_1 := Qb.mk hl591_1
      clear hi591_1 hl591_1
      have HR591_5 := Qb.mk hi591_5
      have HC591_5 := Qb.mk hl591_5
      clear hi591_5 hl591_5
      have HR591_6 := Qb.mk hi591_6
      have HC591_6 := Qb.mk hl591_6
      clear hi591_6 hl591_6
      have HR591_7 := Qb.mk hi591_7
      have HC591_7 := Qb.mk hl591_7
      clear hi591_7 hl591_7
      replace p591 := eq_true p591
      replace q591 := eq_true q591
      go_wp2
      go_ret
      exact ⟨by first | rfl | (simp [Qp, Qo] <;> rfl) | (simp [*, Qp, Qo] <;> rfl) | (simp [Qp, Qo] <;> (rw [Bool.eq_iff_iff]; simp; done)), by repeat (first | (with_reducible first | exact HB.out | apply Qd | apply Qh | apply Qi | refine QJ ?_ GE590.out) | exact HB.out)⟩
     ·rw [if_neg c6] at H
      have c6b0 : (((Zd l0_1 x5_1).f0).toList == a1.toList) = false := beq_eq_false_iff_ne.mpr c6
      have c6b1 : (((Zd l0_1 x5_1).f0).toList != a1.toList) = true := bne_iff_ne.mpr c6
      have H' := Qb.mk H
      clear H
      have hcz8_0 : wr.cell? ⟨gb590, 0, none⟩ = some (.slice A0_0 l0_0.length c0_0) := (Qa BK590.out 0).trans rfl
      have hcz8_1 : wr.cell? ⟨gb590, 1, none⟩ = some (.slice A0_1 l0_1.length c0_1) := (Qa BK590.out 1).trans rfl
      have hfz8_0 := Qg BK590.out 0
      have hfz8_1 := Qg BK590.out 1
      have p591 : 0 ≤ (x5_1 : Int) := of_decide_eq_true (by first | (with_reducible assumption) | assumption)
      have q591 : x5_1 < (l0_1.length : Int) := of_decide_eq_true (by first | (with_reducible assumption) | assumption)
      obtain ⟨ad591, A591_1, c591_1, A591_5, c591_5, A591_6, c591_6, A591_7, c591_7, e591, hx591_0, hx591_1, hx591_2, hx591_3, hx591_4, hx591_5, hx591_6, hx591_7, hl591_1, hi591_1, hl591_5, hi591_5, hl591_6, hi591_6, hl591_7, hi591_7⟩ := at_T34 HR0_1.out x5_1 p591 q591
      cases e591
      replace hx591_0 := (HB.out.cell (World.block_lt_of_cell? w _ hx591_0)).trans hx591_0
      replace hx591_1 := (HB.out.cell (World.block_lt_of_cell? w _ hx591_1)).trans hx591_1
      replace hx591_2 := (HB.out.cell (World.block_lt_of_cell? w _ hx591_2)).trans hx591_2
      replace hx591_3 := (HB.out.cell (World.block_lt_of_cell? w _ hx591_3)).trans hx591_3
      replace hx591_4 := (HB.out.cell (World.block_lt_of_cell? w _ hx591_4)).trans hx591_4
      replace hx591_5 := (HB.out.cell (World.block_lt_of_cell? w _ hx591_5)).trans hx591_5
      replace hx591_6 := (HB.out.cell (World.block_lt_of_cell? w _ hx591_6)).trans hx591_6
      replace hx591_7 := (HB.out.cell (World.block_lt_of_cell? w _ hx591_7)).trans hx591_7
      have HR591_1 := Qb.mk hi591_1
      have HC591_1 := Qb.mk hl591_1
      clear hi591_1 hl591_1
      have HR591_5 := Qb.mk hi591_5
      have HC591_5 := Qb.mk hl591_5
      clear hi591_5 hl591_5
      have HR591_6 := Qb.mk hi591_6
      have HC591_6 := Qb.mk hl591_6
      clear hi591_6 hl591_6
      have HR591_7 := Qb.mk hi591_7
      have HC591_7 := Qb.mk hl591_7
      clear hi591_7 hl591_7
      replace p591 := eq_true p591
      replace q591 := eq_true q591
      go_wp2
      go_roundg k1
      case measure => have := HK1.out; omega
      case rel => exact ⟨(wrap64 (x5_1 + 1)), (by first | rfl | (simp; done) | (simp [*]; done)), H', ⟨by have := HK1.out; omega⟩, ⟨by (with_reducible repeat (first | refine QK ?_ _ | refine QS ?_ | refine QL ?_ _)); exact BK590.out⟩, ⟨by repeat (first | (with_reducible first | exact HB.out | apply Qd | apply Qh | apply Qi | refine QJ ?_ GE590.out) | exact HB.out)⟩⟩
    ·rw [if_neg c5] at H
     exact absurd H (by simp)
   ·rw [if_neg c4] at H
    have c4b0 : decide (x5_1 < (l0_1.length : Int)) = false := decide_eq_false c4
    clear c4
    obtain rfl := Option.some.inj H
    have hcz9_0 : wr.cell? ⟨gb590, 0, none⟩ = some (.slice A0_0 l0_0.length c0_0) := (Qa BK590.out 0).trans rfl
    have hcz9_1 : wr.cell? ⟨gb590, 1, none⟩ = some (.slice A0_1 l0_1.length c0_1) := (Qa BK590.out 1).trans rfl
    have hfz9_0 := Qg BK590.out 0
    have hfz9_1 := Qg BK590.out 1
    go_wp2
    go_ret
    exact ⟨by first | rfl | (simp [Qp, Qo] <;> rfl) | (simp [*, Qp, Qo] <;> rfl) | (simp [Qp, Qo] <;> (rw [Bool.eq_iff_iff]; simp; done)), by repeat (first | (with_reducible first | exact HB.out | apply Qd | apply Qh | apply Qi | refine QJ ?_ GE590.out) | exact HB.out)⟩
mutual
def Qn.l0 : Nat → ByteArray → Int → List (S56) → List (S34) → Option (Int × Int)
 | 0, _, _, _, _ => none
 | k + 1, x1, x6, x593000, x593001 => if x6 < (x593000.length : Int) then (Qn.l1 k x1 x6 0 x593000 x593001) else (some ((-1), (-1)))
def Qn.l1 : Nat → ByteArray → Int → Int → List (S56) → List (S34) → Option (Int × Int)
 | 0, _, _, _, _, _ => none
 | k + 1, x1, x6, x7, x593000, x593001 => if 0 ≤ x6 then (if x6 < (x593000.length : Int) then (if x7 < (((Za x593000 x6).f2).length : Int) then (if 0 ≤ x7 then (if ((rd_T65 ((Za x593000 x6).f2) x7).f0).toList = x1.toList then (some (x6, x7)) else (Qn.l1 k x1 x6 (wrap64 (x7 + 1)) x593000 x593001)) else (none)) else (Qn.l0 k x1 (wrap64 (x6 + 1)) x593000 x593001)) else (none)) else (none)
end
def Qn.f (k : Nat) (l0_0 : List (S56)) (l0_1 : List (S34)) (a1 : ByteArray) : Option (Int × Int) := Qn.l0 k a1 0 l0_0 l0_1
theorem Qn.QW : ∀ k, (∀ y0 y1 y2 y3, LeO (Qn.l0 k y0 y1 y2 y3) (Qn.l0 (k + 1) y0 y1 y2 y3)) ∧ (∀ y0 y1 y2 y3 y4, LeO (Qn.l1 k y0 y1 y2 y3 y4) (Qn.l1 (k + 1) y0 y1 y2 y3 y4))
 | 0 => ⟨fun _ _ _ _ r h => by simp [Qn.l0] at h, fun _ _ _ _ _ r h => by simp [Qn.l1] at h⟩
 | k + 1 => by
  obtain ⟨ih0, ih1⟩ := Qn.QW k
  refine ⟨?_, ?_⟩
  ·intro y0 y1 y2 y3
   unfold Qn.l0
   repeat' first
   | (with_reducible exact ih0 _ _ _ _)
   | (with_reducible exact ih1 _ _ _ _ _)
   | (with_reducible exact LeO.refl _)
   | (with_reducible exact LeO.none _)
   | (with_reducible refine LeO.ite ?_ ?_)
   | (with_reducible refine LeO.bind ?_ (fun _ => ?_))
   | exact ih0 _ _ _ _
   | exact ih1 _ _ _ _ _
   | exact LeO.none _
   | refine LeO.ite ?_ ?_
   | refine LeO.bind ?_ (fun _ => ?_)
  ·intro y0 y1 y2 y3 y4
   unfold Qn.l1
   repeat' first
   | (with_reducible exact ih0 _ _ _ _)
   | (with_reducible exact ih1 _ _ _ _ _)
   | (with_reducible exact LeO.refl _)
   | (with_reducible exact LeO.none _)
   | (with_reducible refine LeO.ite ?_ ?_)
   | (with_reducible refine LeO.bind ?_ (fun _ => ?_))
   | exact ih0 _ _ _ _
   | exact ih1 _ _ _ _ _
   | exact LeO.none _
   | refine LeO.ite ?_ ?_
   | refine LeO.bind ?_ (fun _ => ?_)
theorem Qn.mono : ∀ a0 a1 a2 k, LeO (Qn.f k a0 a1 a2) (Qn.f (k + 1) a0 a1 a2) := by
 intro a0 a1 a2 k
 obtain ⟨ih0, ih1⟩ := Qn.QW k
 unfold Qn.f
 repeat' first
   | (with_reducible exact ih0 _ _ _ _)
   | (with_reducible exact ih1 _ _ _ _ _)
   | (with_reducible exact LeO.refl _)
   | (with_reducible exact LeO.none _)
   | (with_reducible refine LeO.ite ?_ ?_)
   | (with_reducible refine LeO.bind ?_ (fun _ => ?_))
   | exact ih0 _ _ _ _
   | exact ih1 _ _ _ _ _
   | exact LeO.none _
   | refine LeO.ite ?_ ?_
   | refine LeO.bind ?_ (fun _ => ?_)
set_option maxHeartbeats 8000000 in
set_option maxRecDepth 100000 in
theorem Qn.calls (k : Nat) (A0_0 : Option Addr) (c0_0 : Nat) (l0_0 : List (S56)) (A0_1 : Option Addr) (c0_1 : Nat) (l0_1 : List (S34)) (a1 : ByteArray) (r1 : Int) (r2 : Int) (w : World) (hr0_0 : Kd.C k56 w A0_0 l0_0.length l0_0) (hc0_0 : l0_0.length ≤ c0_0) (hr0_1 : Kd.C k34 w A0_1 l0_1.length l0_1) (hc0_1 : l0_1.length ≤ c0_1) (h : Qn.f k l0_0 l0_1 a1 = some (r1, r2)) :
  Calls Tryd.prog 58 #[.agg #[.slice A0_0 l0_0.length c0_0, .slice A0_1 l0_1.length c0_1], .string a1] w fun e w' => e = .returned (.tuple #[.int .i64 r1, .int .i64 r2]) ∧ Below w.heap.size w w' := by
 have hu38 := Tryd.underlying38
 have HR0_0 := Qb.mk hr0_0
 have HC0_0 := Qb.mk hc0_0
 clear hr0_0 hc0_0
 have HR0_1 := Qb.mk hr0_1
 have HC0_1 := Qb.mk hc0_1
 clear hr0_1 hc0_1
 have HB := Qb.mk (Below.refl w.heap.size w)
 have H : (Qn.l0 k a1 0 l0_0 l0_1) = some (r1, r2) := h
 clear h
 have H' := Qb.mk H
 clear H
 go_enter Tryd.func58, Tryd.ntmps58
 go_wp2_with (first | ((with_reducible refine Zb (N := 2) rfl ?_); refine Zp ?hg (N := 2) ?hd (cs := #[.slice A0_0 l0_0.length c0_0, .slice A0_1 l0_1.length c0_1]) (t := 38) ?hr ?_; (case hd => rfl); (case hg => rfl); (case hr => first | (go_simp; done) | (go_simp; rfl)); intro gb592 hg w3 hbox hb; have n0_ := Qb.mk (Qe (by repeat (first | (with_reducible first | exact HB.out | apply Qd | apply Qh | apply Qi) | exact HB.out)) hb); have n1_ := Qb.mk (hbox); have n2_ := Qb.mk ((by rw [hg]; exact (QC (by repeat (first | (with_reducible first | exact HB.out | apply Qd | apply Qh | apply Qi) | exact HB.out))) : w.heap.size ≤ gb592)); have n3_ := Qb.mk ((by rw [hg]; exact (QC (by repeat (first | (with_reducible first | exact HB.out | apply Qd | apply Qh | apply Qi) | exact HB.out))) : w.heap.size ≤ gb592)); clear HB; have HB := n0_; have BK592 := n1_; have GW592 := n2_; have GE592 := n3_; clear n0_ n1_ n2_ n3_; clear hb hbox hg))
 go_loopg [6] k (fun kq v6 w' => ∃ (x6_1 : Int), v6 = .int .i64 x6_1 ∧ Qb (Qn.l0 kq a1 x6_1 l0_0 l0_1 = some (r1, r2)) ∧ Qb (kq ≤ k) ∧ Qb (w'.heap[gb592]? = some (.cells #[(.slice A0_0 l0_0.length c0_0), (.slice A0_1 l0_1.length c0_1)] 38 (0, 0))) ∧ Qb (Below w.heap.size w w'))
 case atStart => exact ⟨(0), (by first | rfl | (simp; done) | (simp [*]; done)), H', ⟨Nat.le_refl _⟩, ⟨by (with_reducible repeat (first | refine QK ?_ _ | refine QS ?_ | refine QL ?_ _)); exact BK592.out⟩, ⟨by repeat (first | (with_reducible first | exact HB.out | apply Qd | apply Qh | apply Qi | refine QJ ?_ GE592.out) | exact HB.out)⟩⟩
 case round =>
  clear H'
  try clear p2
  obtain ⟨x6_1, rfl, HA, HK1, BK592, HB⟩ := hrel
  cases gk with
  | zero => exact absurd HA.out (by simp [Qn.l0])
  | succ k1 =>
   have H := HA.out
   clear HA
   simp only [Qn.l0] at H
   by_cases c4 : x6_1 < (l0_0.length : Int)
   ·rw [if_pos c4] at H
    have c4b0 : decide (x6_1 < (l0_0.length : Int)) = true := decide_eq_true c4
    clear c4
    have H' := Qb.mk H
    clear H
    have hcz5_0 : wr.cell? ⟨gb592, 0, none⟩ = some (.slice A0_0 l0_0.length c0_0) := (Qa BK592.out 0).trans rfl
    have hcz5_1 : wr.cell? ⟨gb592, 1, none⟩ = some (.slice A0_1 l0_1.length c0_1) := (Qa BK592.out 1).trans rfl
    have hfz5_0 := Qg BK592.out 0
    have hfz5_1 := Qg BK592.out 1
    go_wp2
    go_loopg [7] k1 (fun kq v7 w' => ∃ (x7_2 : Int), v7 = .int .i64 x7_2 ∧ Qb (Qn.l1 kq a1 x6_1 x7_2 l0_0 l0_1 = some (r1, r2)) ∧ Qb (kq ≤ k1) ∧ Qb (w'.heap[gb592]? = some (.cells #[(.slice A0_0 l0_0.length c0_0), (.slice A0_1 l0_1.length c0_1)] 38 (0, 0))) ∧ Qb (Below w.heap.size w w'))
    case atStart => exact ⟨(0), (by first | rfl | (simp; done) | (simp [*]; done)), H', ⟨Nat.le_refl _⟩, ⟨by (with_reducible repeat (first | refine QK ?_ _ | refine QS ?_ | refine QL ?_ _)); exact BK592.out⟩, ⟨by repeat (first | (with_reducible first | exact HB.out | apply Qd | apply Qh | apply Qi | refine QJ ?_ GE592.out) | exact HB.out)⟩⟩
    case round =>
     clear H'
     try clear p2
     try clear c4
     try clear c4b0
     try clear c5
     try clear hcz5_0
     try clear hcz5_1
     try clear hfz5_0
     try clear hfz5_1
     try clear p2
     obtain ⟨x7_2, rfl, HA, HK2, BK592, HB⟩ := hrel
     cases gk with
     | zero => exact absurd HA.out (by simp [Qn.l1])
     | succ k2 =>
      have H := HA.out
      clear HA
      simp only [Qn.l1] at H
      by_cases c6 : 0 ≤ x6_1
      ·rw [if_pos c6] at H
       have c6b0 : decide (0 ≤ x6_1) = true := decide_eq_true c6
       clear c6
       by_cases c7 : x6_1 < (l0_0.length : Int)
       ·rw [if_pos c7] at H
        have c7b0 : decide (x6_1 < (l0_0.length : Int)) = true := decide_eq_true c7
        clear c7
        by_cases c8 : x7_2 < (((Za l0_0 x6_1).f2).length : Int)
        ·rw [if_pos c8] at H
         have c8b0 : decide (x7_2 < (((Za l0_0 x6_1).f2).length : Int)) = true := decide_eq_true c8
         clear c8
         by_cases c9 : 0 ≤ x7_2
         ·rw [if_pos c9] at H
          have c9b0 : decide (0 ≤ x7_2) = true := decide_eq_true c9
          clear c9
          by_cases c10 : ((rd_T65 ((Za l0_0 x6_1).f2) x7_2).f0).toList = a1.toList
          ·rw [if_pos c10] at H
           have c10b0 : (((rd_T65 ((Za l0_0 x6_1).f2) x7_2).f0).toList == a1.toList) = true := beq_iff_eq.mpr c10
           have c10b1 : (((rd_T65 ((Za l0_0 x6_1).f2) x7_2).f0).toList != a1.toList) = false := bne_eq_false_iff_eq.mpr c10
           clear c10
           simp only [Option.some.injEq, Prod.mk.injEq] at H
           obtain ⟨rfl, rfl⟩ := H
           have hcz11_0 : wr.cell? ⟨gb592, 0, none⟩ = some (.slice A0_0 l0_0.length c0_0) := (Qa BK592.out 0).trans rfl
           have hcz11_1 : wr.cell? ⟨gb592, 1, none⟩ = some (.slice A0_1 l0_1.length c0_1) := (Qa BK592.out 1).trans rfl
           have hfz11_0 := Qg BK592.out 0
           have hfz11_1 := Qg BK592.out 1
           have p593 : 0 ≤ (x6_1 : Int) := of_decide_eq_true (by first | (with_reducible assumption) | assumption)
           have q593 : x6_1 < (l0_0.length : Int) := of_decide_eq_true (by first | (with_reducible assumption) | assumption)
           obtain ⟨ad593, A593_1, c593_1, A593_2, c593_2, e593, hx593_0, hx593_1, hx593_2, hl593_1, hi593_1, hl593_2, hi593_2⟩ := at_T56 HR0_0.out x6_1 p593 q593
           cases e593
           replace hx593_0 := (HB.out.cell (World.block_lt_of_cell? w _ hx593_0)).trans hx593_0
           replace hx593_1 := (HB.out.cell (World.block_lt_of_cell? w _ hx593_1)).trans hx593_1
           replace hx593_2 := (HB.out.cell (World.block_lt_of_cell? w _ hx593_2)).trans hx593_2
           have HR593_1 := Qb.mk hi593_1
           have HC593_1 := Qb.mk hl593_1
           clear hi593_1 hl593_1
           have HR593_2 := Qb.mk hi593_2
           have HC593_2 := Qb.mk hl593_2
           clear hi593_2 hl593_2
           replace p593 := eq_true p593
           replace q593 := eq_true q593
           have p594 : 0 ≤ (x6_1 : Int) := of_decide_eq_true (by first | (with_reducible assumption) | assumption)
           have q594 : x6_1 < (l0_0.length : Int) := of_decide_eq_true (by first | (with_reducible assumption) | assumption)
           obtain ⟨ad594, A594_1, c594_1, A594_2, c594_2, e594, hx594_0, hx594_1, hx594_2, hl594_1, hi594_1, hl594_2, hi594_2⟩ := at_T56 HR0_0.out x6_1 p594 q594
           obtain rfl : ad593 = ad594 := (by injection e594)
           replace hx594_0 := (HB.out.cell (World.block_lt_of_cell? w _ hx594_0)).trans hx594_0
           replace hx594_1 := (HB.out.cell (World.block_lt_of_cell? w _ hx594_1)).trans hx594_1
           replace hx594_2 := (HB.out.cell (World.block_lt_of_cell? w _ hx594_2)).trans hx594_2
           have HR594_1 := Qb.mk hi594_1
           have HC594_1 := Qb.mk hl594_1
           clear hi594_1 hl594_1
           have HR594_2 := Qb.mk hi594_2
           have HC594_2 := Qb.mk hl594_2
           clear hi594_2 hl594_2
           replace p594 := eq_true p594
           replace q594 := eq_true q594
           have ea_ := Option.some.inj (hx593_1.symm.trans hx594_1)
           injection ea_ with ea_ en_ ec_
           subst ea_
           subst ec_
           clear en_
           have ea_ := Option.some.inj (hx593_2.symm.trans hx594_2)
           injection ea_ with ea_ en_ ec_
           subst ea_
           subst ec_
           clear en_
           have p595 : 0 ≤ (x7_2 : Int) := of_decide_eq_true (by first | (with_reducible assumption) | assumption)
           have q595 : x7_2 < (((Za l0_0 x6_1).f2).length : Int) := of_decide_eq_true (by first | (with_reducible assumption) | assumption)
           obtain ⟨ad595, A595_1, c595_1, e595, hx595_0, hx595_1, hl595_1, hi595_1⟩ := at_T65 HR594_2.out x7_2 p595 q595
           cases e595
           replace hx595_0 := (HB.out.cell (World.block_lt_of_cell? w _ hx595_0)).trans hx595_0
           replace hx595_1 := (HB.out.cell (World.block_lt_of_cell? w _ hx595_1)).trans hx595_1
           have HR595_1 := Qb.mk hi595_1
           have HC595_1 := Qb.mk hl595_1
           clear hi595_1 hl595_1
           replace p595 := eq_true p595
           replace q595 := eq_true q595
           go_wp2
           go_ret2
           exact ⟨by first | rfl | (simp [Qp, Qo] <;> rfl) | (simp [*, Qp, Qo] <;> rfl) | (simp [Qp, Qo] <;> (rw [Bool.eq_iff_iff]; simp; done)), by repeat (first | (with_reducible first | exact HB.out | apply Qd | apply Qh | apply Qi | refine QJ ?_ GE592.out) | exact HB.out)⟩
          ·rw [if_neg c10] at H
           have c10b0 : (((rd_T65 ((Za l0_0 x6_1).f2) x7_2).f0).toList == a1.toList) = false := beq_eq_false_iff_ne.mpr c10
           have c10b1 : (((rd_T65 ((Za l0_0 x6_1).f2) x7_2).f0).toList != a1.toList) = true := bne_iff_ne.mpr c10
           have H' := Qb.mk H
           clear H
           have hcz12_0 : wr.cell? ⟨gb592, 0, none⟩ = some (.slice A0_0 l0_0.length c0_0) := (Qa BK592.out 0).trans rfl
           have hcz12_1 : wr.cell? ⟨gb592, 1, none⟩ = some (.slice A0_1 l0_1.length c0_1) := (Qa BK592.out 1).trans rfl
           have hfz12_0 := Qg BK592.out 0
           have hfz12_1 := Qg BK592.out 1
           have p593 : 0 ≤ (x6_1 : Int) := of_decide_eq_true (by first | (with_reducible assumption) | assumption)
           have q593 : x6_1 < (l0_0.length : Int) := of_decide_eq_true (by first | (with_reducible assumption) | assumption)
           obtain ⟨ad593, A593_1, c593_1, A593_2, c593_2, e593, hx593_0, hx593_1, hx593_2, hl593_1, hi593_1, hl593_2, hi593_2⟩ := at_T56 HR0_0.out x6_1 p593 q593
           cases e593
           replace hx593_0 := (HB.out.cell (World.block_lt_of_cell? w _ hx593_0)).trans hx593_0
           replace hx593_1 := (HB.out.cell (World.block_lt_of_cell? w _ hx593_1)).trans hx593_1
           replace hx593_2 := (HB.out.cell (World.block_lt_of_cell? w _ hx593_2)).trans hx593_2
           have HR593_1 := Qb.mk hi593_1
           have HC593_1 := Qb.mk hl593_1
           clear hi593_1 hl593_1
           have HR593_2 := Qb.mk hi593_2
           have HC593_2 := Qb.mk hl593_2
           clear hi593_2 hl593_2
           replace p593 := eq_true p593
           replace q593 := eq_true q593
           have p594 : 0 ≤ (x6_1 : Int) := of_decide_eq_true (by first | (with_reducible assumption) | assumption)
           have q594 : x6_1 < (l0_0.length : Int) := of_decide_eq_true (by first | (with_reducible assumption) | assumption)
           obtain ⟨ad594, A594_1, c594_1, A594_2, c594_2, e594, hx594_0, hx594_1, hx594_2, hl594_1, hi594_1, hl594_2, hi594_2⟩ := at_T56 HR0_0.out x6_1 p594 q594
           obtain rfl : ad593 = ad594 := (by injection e594)
           replace hx594_0 := (HB.out.cell (World.block_lt_of_cell? w _ hx594_0)).trans hx594_0
           replace hx594_1 := (HB.out.cell (World.block_lt_of_cell? w _ hx594_1)).trans hx594_1
           replace hx594_2 := (HB.out.cell (World.block_lt_of_cell? w _ hx594_2)).trans hx594_2
           have HR594_1 := Qb.mk hi594_1
           have HC594_1 := Qb.mk hl594_1
           clear hi594_1 hl594_1
           have HR594_2 := Qb.mk hi594_2
           have HC594_2 := Qb.mk hl594_2
           clear hi594_2 hl594_2
           replace p594 := eq_true p594
           replace q594 := eq_true q594
           have ea_ := Option.some.inj (hx593_1.symm.trans hx594_1)
           injection ea_ with ea_ en_ ec_
           subst ea_
           subst ec_
           clear en_
           have ea_ := Option.some.inj (hx593_2.symm.trans hx594_2)
           injection ea_ with ea_ en_ ec_
           subst ea_
           subst ec_
           clear en_
           have p595 : 0 ≤ (x7_2 : Int) := of_decide_eq_true (by first | (with_reducible assumption) | assumption)
           have q595 : x7_2 < (((Za l0_0 x6_1).f2).length : Int) := of_decide_eq_true (by first | (with_reducible assumption) | assumption)
           obtain ⟨ad595, A595_1, c595_1, e595, hx595_0, hx595_1, hl595_1, hi595_1⟩ := at_T65 HR594_2.out x7_2 p595 q595
           cases e595
           replace hx595_0 := (HB.out.cell (World.block_lt_of_cell? w _ hx595_0)).trans hx595_0
           replace hx595_1 := (HB.out.cell (World.block_lt_of_cell? w _ hx595_1)).trans hx595_1
           have HR595_1 := Qb.mk hi595_1
           have HC595_1 := Qb.mk hl595_1
           clear hi595_1 hl595_1
           replace p595 := eq_true p595
           replace q595 := eq_true q595
           go_wp2
           go_roundg k2
           case measure => have := HK1.out; have := HK2.out; omega
           case rel => exact ⟨(wrap64 (x7_2 + 1)), (by first | rfl | (simp; done) | (simp [*]; done)), H', ⟨by have := HK1.out; have := HK2.out; omega⟩, ⟨by (with_reducible repeat (first | refine QK ?_ _ | refine QS ?_ | refine QL ?_ _)); exact BK592.out⟩, ⟨by repeat (first | (with_reducible first | exact HB.out | apply Qd | apply Qh | apply Qi | refine QJ ?_ GE592.out) | exact HB.out)⟩⟩
         ·rw [if_neg c9] at H
          exact absurd H (by simp)
        ·rw [if_neg c8] at H
         have c8b0 : decide (x7_2 < (((Za l0_0 x6_1).f2).length : Int)) = false := decide_eq_false c8
         clear c8
         have H' := Qb.mk H
         clear H
         have hcz13_0 : wr.cell? ⟨gb592, 0, none⟩ = some (.slice A0_0 l0_0.length c0_0) := (Qa BK592.out 0).trans rfl
         have hcz13_1 : wr.cell? ⟨gb592, 1, none⟩ = some (.slice A0_1 l0_1.length c0_1) := (Qa BK592.out 1).trans rfl
         have hfz13_0 := Qg BK592.out 0
         have hfz13_1 := Qg BK592.out 1
         have p593 : 0 ≤ (x6_1 : Int) := of_decide_eq_true (by first | (with_reducible assumption) | assumption)
         have q593 : x6_1 < (l0_0.length : Int) := of_decide_eq_true (by first | (with_reducible assumption) | assumption)
         obtain ⟨ad593, A593_1, c593_1, A593_2, c593_2, e593, hx593_0, hx593_1, hx593_2, hl593_1, hi593_1, hl593_2, hi593_2⟩ := at_T56 HR0_0.out x6_1 p593 q593
         cases e593
         replace hx593_0 := (HB.out.cell (World.block_lt_of_cell? w _ hx593_0)).trans hx593_0
         replace hx593_1 := (HB.out.cell (World.block_lt_of_cell? w _ hx593_1)).trans hx593_1
         replace hx593_2 := (HB.out.cell (World.block_lt_of_cell? w _ hx593_2)).trans hx593_2
         have HR593_1 := Qb.mk hi593_1
         have HC593_1 := Qb.mk hl593_1
         clear hi593_1 hl593_1
         have HR593_2 := Qb.mk hi593_2
         have HC593_2 := Qb.mk hl593_2
         clear hi593_2 hl593_2
         replace p593 := eq_true p593
         replace q593 := eq_true q593
         go_wp2
         go_roundg k2
         case measure => have := HK1.out; have := HK2.out; omega
         case rel => exact ⟨(wrap64 (x6_1 + 1)), (by first | rfl | (simp; done) | (simp [*]; done)), H', ⟨by have := HK1.out; have := HK2.out; omega⟩, ⟨by (with_reducible repeat (first | refine QK ?_ _ | refine QS ?_ | refine QL ?_ _)); exact BK592.out⟩, ⟨by repeat (first | (with_reducible first | exact HB.out | apply Qd | apply Qh | apply Qi | refine QJ ?_ GE592.out) | exact HB.out)⟩⟩
       ·rw [if_neg c7] at H
        exact absurd H (by simp)
      ·rw [if_neg c6] at H
       exact absurd H (by simp)
   ·rw [if_neg c4] at H
    have c4b0 : decide (x6_1 < (l0_0.length : Int)) = false := decide_eq_false c4
    clear c4
    simp only [Option.some.injEq, Prod.mk.injEq] at H
    obtain ⟨rfl, rfl⟩ := H
    have hcz14_0 : wr.cell? ⟨gb592, 0, none⟩ = some (.slice A0_0 l0_0.length c0_0) := (Qa BK592.out 0).trans rfl
    have hcz14_1 : wr.cell? ⟨gb592, 1, none⟩ = some (.slice A0_1 l0_1.length c0_1) := (Qa BK592.out 1).trans rfl
    have hfz14_0 := Qg BK592.out 0
    have hfz14_1 := Qg BK592.out 1
    go_wp2
    go_ret2
    exact ⟨by first | rfl | (simp [Qp, Qo] <;> rfl) | (simp [*, Qp, Qo] <;> rfl) | (simp [Qp, Qo] <;> (rw [Bool.eq_iff_iff]; simp; done)), by repeat (first | (with_reducible first | exact HB.out | apply Qd | apply Qh | apply Qi | refine QJ ?_ GE592.out) | exact HB.out)⟩
-- NOT PRINTED: function 59 (ZJ)
-- NOT PRINTED: function 39 (gristmillref5_CheckExpr)
-- NOT PRINTED: function 17 (gristmillref5_Check)
-- NOT PRINTED: function 61 (gristmillref5_names10)
-- NOT PRINTED: function 45 (gristmillref5_Names)
-- NOT PRINTED: function 47 (gristmillref_Ints)
-- NOT PRINTED: function 46 (gristmillref_Put)
-- NOT PRINTED: function 20 (gristmillref5_Uses)
def Q5.l0 : Nat → List Int → Int → Int → Option (Bool)
 | 0, _, _, _ => none
 | k + 1, x0, x1, x5 => if x5 < (x0.length : Int) then (if 0 ≤ x5 then (if (rd x0 x5) = x1 then (some true) else (Q5.l0 k x0 x1 (wrap64 (x5 + 1)))) else (none)) else (some false)
def Q5.f (k : Nat) (l0 : List Int) (a1 : Int) : Option (Bool) := Q5.l0 k l0 a1 0
theorem Q5.QW : ∀ k, (∀ y0 y1 y2, LeO (Q5.l0 k y0 y1 y2) (Q5.l0 (k + 1) y0 y1 y2))
 | 0 => fun _ _ _ r h => by simp [Q5.l0] at h
 | k + 1 => by
  have ih0 := Q5.QW k
  ·intro y0 y1 y2
   unfold Q5.l0
   repeat' first
   | (with_reducible exact ih0 _ _ _)
   | (with_reducible exact LeO.refl _)
   | (with_reducible exact LeO.none _)
   | (with_reducible refine LeO.ite ?_ ?_)
   | (with_reducible refine LeO.bind ?_ (fun _ => ?_))
   | exact ih0 _ _ _
   | exact LeO.none _
   | refine LeO.ite ?_ ?_
   | refine LeO.bind ?_ (fun _ => ?_)
theorem Q5.mono : ∀ a0 a1 k, LeO (Q5.f k a0 a1) (Q5.f (k + 1) a0 a1) := by
 intro a0 a1 k
 have ih0 := Q5.QW k
 unfold Q5.f
 repeat' first
   | (with_reducible exact ih0 _ _ _)
   | (with_reducible exact LeO.refl _)
   | (with_reducible exact LeO.none _)
   | (with_reducible refine LeO.ite ?_ ?_)
   | (with_reducible refine LeO.bind ?_ (fun _ => ?_))
   | exact ih0 _ _ _
   | exact LeO.none _
   | refine LeO.ite ?_ ?_
   | refine LeO.bind ?_ (fun _ => ?_)
set_option maxHeartbeats 8000000 in
set_option maxRecDepth 100000 in
theorem Q5.calls (k : Nat) (A0 : Option Addr) (c0 : Nat) (l0 : List Int) (a1 : Int) (r : Bool) (w : World) (hr0 : Kd.C (Kd.int .i64) w A0 l0.length l0) (hc0 : l0.length ≤ c0) (h : Q5.f k l0 a1 = some r) :
  Calls Tryd.prog 22 #[.slice A0 l0.length c0, .int .i64 a1] w fun e w' => e = .returned (.bool r) ∧ Qx w w' := by
 have HR0 := Qb.mk hr0
 have HC0 := Qb.mk hc0
 clear hr0 hc0
 have H : (Q5.l0 k l0 a1 0) = some r := h
 clear h
 have H' := Qb.mk H
 clear H
 go_enter Tryd.func22, Tryd.ntmps22
 go_wp2
 go_loopg [5] k (fun kq v5 w' => ∃ (x5_1 : Int), v5 = .int .i64 x5_1 ∧ Qb (Q5.l0 kq l0 a1 x5_1 = some r) ∧ Qb (kq ≤ k) ∧ Qx w w')
 case atStart => exact ⟨(0), (by first | rfl | (simp; done) | (simp [*]; done)), H', ⟨Nat.le_refl _⟩, by repeat (first | exact Qx.refl _ | apply Qx.step)⟩
 case round =>
  clear H'
  try clear c2
  try clear p2
  obtain ⟨x5_1, rfl, HA, HK1, ⟨m1, rfl⟩⟩ := hrel
  cases gk with
  | zero => exact absurd HA.out (by simp [Q5.l0])
  | succ k1 =>
   have H := HA.out
   clear HA
   simp only [Q5.l0] at H
   by_cases c3 : x5_1 < (l0.length : Int)
   ·rw [if_pos c3] at H
    have c3b0 : decide (x5_1 < (l0.length : Int)) = true := decide_eq_true c3
    clear c3
    by_cases c4 : 0 ≤ x5_1
    ·rw [if_pos c4] at H
     have c4b0 : decide (0 ≤ x5_1) = true := decide_eq_true c4
     clear c4
     by_cases c5 : (rd l0 x5_1) = a1
     ·rw [if_pos c5] at H
      have c5b0 : ((rd l0 x5_1) == a1) = true := beq_iff_eq.mpr c5
      have c5b1 : ((rd l0 x5_1) != a1) = false := bne_eq_false_iff_eq.mpr c5
      clear c5
      obtain rfl := Option.some.inj H
      have p615 : 0 ≤ (x5_1 : Int) := of_decide_eq_true (by first | (with_reducible assumption) | assumption)
      have q615 : x5_1 < (l0.length : Int) := of_decide_eq_true (by first | (with_reducible assumption) | assumption)
      obtain ⟨ad615, e615, hx615_0⟩ := Kd.at_int HR0.out x5_1 p615 q615
      cases e615
      replace p615 := eq_true p615
      replace q615 := eq_true q615
      go_wp2
      go_ret
      exact ⟨by first | rfl | (simp; done) | (simp [*]; done), by repeat (first | exact Qx.refl _ | apply Qx.step)⟩
     ·rw [if_neg c5] at H
      have c5b0 : ((rd l0 x5_1) == a1) = false := beq_eq_false_iff_ne.mpr c5
      have c5b1 : ((rd l0 x5_1) != a1) = true := bne_iff_ne.mpr c5
      have H' := Qb.mk H
      clear H
      have p615 : 0 ≤ (x5_1 : Int) := of_decide_eq_true (by first | (with_reducible assumption) | assumption)
      have q615 : x5_1 < (l0.length : Int) := of_decide_eq_true (by first | (with_reducible assumption) | assumption)
      obtain ⟨ad615, e615, hx615_0⟩ := Kd.at_int HR0.out x5_1 p615 q615
      cases e615
      replace p615 := eq_true p615
      replace q615 := eq_true q615
      go_wp2
      go_roundg k1
      case measure => have := HK1.out; omega
      case rel => exact ⟨(wrap64 (x5_1 + 1)), (by first | rfl | (simp; done) | (simp [*]; done)), H', ⟨by have := HK1.out; omega⟩, by repeat (first | exact Qx.refl _ | apply Qx.step)⟩
    ·rw [if_neg c4] at H
     exact absurd H (by simp)
   ·rw [if_neg c3] at H
    have c3b0 : decide (x5_1 < (l0.length : Int)) = false := decide_eq_false c3
    clear c3
    obtain rfl := Option.some.inj H
    go_wp2
    go_ret
    exact ⟨by first | rfl | (simp; done) | (simp [*]; done), by repeat (first | exact Qx.refl _ | apply Qx.step)⟩
def Q5.Pure : Prop := ∀ (l0 : List Int) (a1 : Int), l0.length ≤ maxLen → l0.length * 8 ≤ 140737488351232 → (∀ x ∈ l0, (Lit.int .i64 x).wf = true) → (Lit.int .i64 a1).wf = true → ∃ k, Q5.f k l0 a1 = some true
theorem Q5.walk (P : Q5.Pure) (a0 : Option Addr) (len0 cap0 : Nat) (z0 : List Int) (a1 : Int) (w : World) (w0 : (a0 = none ∧ len0 = 0 ∧ cap0 = 0 ∧ z0 = []) ∨ ∃ x, a0 = some x ∧ len0 ≤ cap0 ∧ cap0 ≤ maxLen ∧ z0.length = cap0 ∧ (∀ i, i < z0.length → w.cell? (x.add i) = some (.int .i64 (z0.getD i 0))) ∧ ∀ n ∈ z0, (Lit.int .i64 n).wf = true) (y0 : len0 * 8 ≤ 140737488351232) (w1 : (Lit.int .i64 a1).wf = true) :
  Calls Tryd.prog 22 #[.slice a0 len0 cap0, .int .i64 a1] w fun e w' => e = .returned (.bool true) ∧ Below w.heap.size w w' := by
 obtain ⟨l0, rfl, hr0, hm0, hw0, hc0⟩ := QT.ofRowC w0
 obtain ⟨k, h⟩ := P l0 a1 hm0 y0 hw0 w1
 refine (Q5.calls k _ _ l0 a1 true w (Kd.C_of_reads (d := (0 : Int)) (h1 := fun _ => rfl) hr0) hc0 h).mono ?_
 rintro e w' ⟨rfl, hd⟩
 exact ⟨rfl, hd.below⟩
-- NOT PRINTED: function 21 (gristmillref5_Needed)
-- NOT PRINTED: function 18 (gristmillref5_Groups)
end Go.Proofs.YtlgpoigbadajnaaDoor.PDepA
