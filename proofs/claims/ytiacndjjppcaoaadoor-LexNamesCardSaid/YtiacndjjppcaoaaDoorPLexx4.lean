/- For each Go function that the laws of this group reach: a plain function with the same answers, and the proof that the call comes to them wherever the plain function has an answer. No other condition. (Laid by a program of this session.) -/
import Derived.Test.YtiacndjjppcaoaaDoorPLexx0
namespace Go.Proofs.YtiacndjjppcaoaaDoor.PLex
open Go.RowKit Go.Proofs.YtiacndjjppcaoaaDoorW.PrintWords Go.Proofs.YtiacndjjppcaoaaDoorW.PrintLast Go.Proofs.YtiacndjjppcaoaaDoorW.PrintMore
attribute [local go_sem] max2_int min2_int max_two min_two max_three min_three max_four min_four   -- for this text's walks alone
set_option linter.unusedVariables false
set_option linter.unusedSimpArgs false

/-! ### gristmillref1_space: function 19 -/
def gristmillref1_space.f (a0 : Int) : Option (Bool) := if a0 = 32 then (some true) else (if a0 = 9 then (some true) else (if a0 = 10 then (some true) else (some (a0 == 13))))
set_option maxHeartbeats 8000000 in
set_option maxRecDepth 100000 in
theorem gristmillref1_space.calls (a0 : Int) (r : Bool) (w : World) (h : gristmillref1_space.f a0 = some r) :
    Calls Tryd.prog 19 #[.int .u8 a0] w fun e w' => e = .returned (.bool r) ∧ Drawn0 w w' := by
  have H : (if a0 = 32 then (some true) else (if a0 = 9 then (some true) else (if a0 = 10 then (some true) else (some (a0 == 13))))) = some r := h
  clear h
  by_cases c2 : a0 = 32
  · rw [if_pos c2] at H
    have c2b0 : (a0 == 32) = true := beq_iff_eq.mpr c2
    have c2b1 : (a0 != 32) = false := bne_eq_false_iff_eq.mpr c2
    clear c2
    obtain rfl := Option.some.inj H
    go_enter Tryd.func19, Tryd.ntmps19
    go_wp2
    go_ret
    exact ⟨by first | rfl | (simp; done) | (simp [*]; done), by repeat (first | exact Drawn0.refl _ | apply Drawn0.step)⟩
  · rw [if_neg c2] at H
    have c2b0 : (a0 == 32) = false := beq_eq_false_iff_ne.mpr c2
    have c2b1 : (a0 != 32) = true := bne_iff_ne.mpr c2
    by_cases c3 : a0 = 9
    · rw [if_pos c3] at H
      have c3b0 : (a0 == 9) = true := beq_iff_eq.mpr c3
      have c3b1 : (a0 != 9) = false := bne_eq_false_iff_eq.mpr c3
      clear c3
      obtain rfl := Option.some.inj H
      go_enter Tryd.func19, Tryd.ntmps19
      go_wp2
      go_ret
      exact ⟨by first | rfl | (simp; done) | (simp [*]; done), by repeat (first | exact Drawn0.refl _ | apply Drawn0.step)⟩
    · rw [if_neg c3] at H
      have c3b0 : (a0 == 9) = false := beq_eq_false_iff_ne.mpr c3
      have c3b1 : (a0 != 9) = true := bne_iff_ne.mpr c3
      by_cases c4 : a0 = 10
      · rw [if_pos c4] at H
        have c4b0 : (a0 == 10) = true := beq_iff_eq.mpr c4
        have c4b1 : (a0 != 10) = false := bne_eq_false_iff_eq.mpr c4
        clear c4
        obtain rfl := Option.some.inj H
        go_enter Tryd.func19, Tryd.ntmps19
        go_wp2
        go_ret
        exact ⟨by first | rfl | (simp; done) | (simp [*]; done), by repeat (first | exact Drawn0.refl _ | apply Drawn0.step)⟩
      · rw [if_neg c4] at H
        have c4b0 : (a0 == 10) = false := beq_eq_false_iff_ne.mpr c4
        have c4b1 : (a0 != 10) = true := bne_iff_ne.mpr c4
        obtain rfl := Option.some.inj H
        go_enter Tryd.func19, Tryd.ntmps19
        go_wp2
        go_ret
        exact ⟨by first | rfl | (simp; done) | (simp [*]; done), by repeat (first | exact Drawn0.refl _ | apply Drawn0.step)⟩

/-! ### gristmillref1_Words: function 11 -/
mutual
def gristmillref1_Words.l0 : Nat → ByteArray → List (S38) → Int → Option ((List (S38)) × Bool)
  | 0, _, _, _ => none
  | k + 1, x0, x4, x5 => if x5 < (x0.size : Int) then (if 0 ≤ x5 then ((gristmillref1_space.f (bt x0 x5)).bind fun t195 => (if t195 = true then (gristmillref1_Words.l0 k x0 x4 (wrap64 (x5 + 1))) else (if (bt x0 x5) = 59 then (gristmillref1_Words.l1 k x0 x4 x5) else (gristmillref1_Words.l2 k x0 x4 x5 (bt x0 x5) (wrap64 (x5 + 1)))))) else (none)) else (some (x4, true))
def gristmillref1_Words.l1 : Nat → ByteArray → List (S38) → Int → Option ((List (S38)) × Bool)
  | 0, _, _, _ => none
  | k + 1, x0, x4, x5 => if x5 < (x0.size : Int) then (if 0 ≤ x5 then (if (bt x0 x5) = 10 then (gristmillref1_Words.l0 k x0 x4 x5) else (gristmillref1_Words.l1 k x0 x4 (wrap64 (x5 + 1)))) else (none)) else (gristmillref1_Words.l0 k x0 x4 x5)
def gristmillref1_Words.l2 : Nat → ByteArray → List (S38) → Int → Int → Int → Option ((List (S38)) × Bool)
  | 0, _, _, _, _, _ => none
  | k + 1, x0, x4, x5, x6, x7 => if x6 = 40 then (if 0 ≤ x5 then (if x5 ≤ x7 then (if x7 ≤ (x0.size : Int) then (if x4.length < 5864062014805 then (gristmillref1_Words.l0 k x0 (x4 ++ [(⟨x0.extract (x5 : Int).toNat (x7 : Int).toNat, x5⟩ : S38)]) x7) else (none)) else (none)) else (none)) else (none)) else (if x6 = 41 then (if 0 ≤ x5 then (if x5 ≤ x7 then (if x7 ≤ (x0.size : Int) then (if x4.length < 5864062014805 then (gristmillref1_Words.l0 k x0 (x4 ++ [(⟨x0.extract (x5 : Int).toNat (x7 : Int).toNat, x5⟩ : S38)]) x7) else (none)) else (none)) else (none)) else (none)) else (if x7 < (x0.size : Int) then (if 0 ≤ x7 then ((gristmillref1_space.f (bt x0 x7)).bind fun t202 => (if t202 = true then (if 0 ≤ x5 then (if x5 ≤ x7 then (if x7 ≤ (x0.size : Int) then (if x4.length < 5864062014805 then (gristmillref1_Words.l0 k x0 (x4 ++ [(⟨x0.extract (x5 : Int).toNat (x7 : Int).toNat, x5⟩ : S38)]) x7) else (none)) else (none)) else (none)) else (none)) else (if (bt x0 x7) = 59 then (if 0 ≤ x5 then (if x5 ≤ x7 then (if x7 ≤ (x0.size : Int) then (if x4.length < 5864062014805 then (gristmillref1_Words.l0 k x0 (x4 ++ [(⟨x0.extract (x5 : Int).toNat (x7 : Int).toNat, x5⟩ : S38)]) x7) else (none)) else (none)) else (none)) else (none)) else (if (bt x0 x7) = 40 then (if 0 ≤ x5 then (if x5 ≤ x7 then (if x7 ≤ (x0.size : Int) then (if x4.length < 5864062014805 then (gristmillref1_Words.l0 k x0 (x4 ++ [(⟨x0.extract (x5 : Int).toNat (x7 : Int).toNat, x5⟩ : S38)]) x7) else (none)) else (none)) else (none)) else (none)) else (if (bt x0 x7) = 41 then (if 0 ≤ x5 then (if x5 ≤ x7 then (if x7 ≤ (x0.size : Int) then (if x4.length < 5864062014805 then (gristmillref1_Words.l0 k x0 (x4 ++ [(⟨x0.extract (x5 : Int).toNat (x7 : Int).toNat, x5⟩ : S38)]) x7) else (none)) else (none)) else (none)) else (none)) else (gristmillref1_Words.l2 k x0 x4 x5 x6 (wrap64 (x7 + 1)))))))) else (none)) else (if 0 ≤ x5 then (if x5 ≤ x7 then (if x7 ≤ (x0.size : Int) then (if x4.length < 5864062014805 then (gristmillref1_Words.l0 k x0 (x4 ++ [(⟨x0.extract (x5 : Int).toNat (x7 : Int).toNat, x5⟩ : S38)]) x7) else (none)) else (none)) else (none)) else (none))))
end
def gristmillref1_Words.f (k : Nat) (a0 : ByteArray) : Option ((List (S38)) × Bool) := if (a0.size : Int) > 65536 then (some (([] : List (S38)), false)) else (gristmillref1_Words.l0 k a0 ([] : List (S38)) 0)
theorem gristmillref1_Words.mono_l : ∀ k, (∀ y0 y1 y2, LeO (gristmillref1_Words.l0 k y0 y1 y2) (gristmillref1_Words.l0 (k + 1) y0 y1 y2)) ∧ (∀ y0 y1 y2, LeO (gristmillref1_Words.l1 k y0 y1 y2) (gristmillref1_Words.l1 (k + 1) y0 y1 y2)) ∧ (∀ y0 y1 y2 y3 y4, LeO (gristmillref1_Words.l2 k y0 y1 y2 y3 y4) (gristmillref1_Words.l2 (k + 1) y0 y1 y2 y3 y4))
  | 0 => ⟨fun _ _ _ r h => by simp [gristmillref1_Words.l0] at h, fun _ _ _ r h => by simp [gristmillref1_Words.l1] at h, fun _ _ _ _ _ r h => by simp [gristmillref1_Words.l2] at h⟩
  | k + 1 => by
    obtain ⟨ih0, ih1, ih2⟩ := gristmillref1_Words.mono_l k
    refine ⟨?_, ?_, ?_⟩
    · intro y0 y1 y2
      unfold gristmillref1_Words.l0
      repeat' first
      | (with_reducible exact ih0 _ _ _)
      | (with_reducible exact ih1 _ _ _)
      | (with_reducible exact ih2 _ _ _ _ _)
      | (with_reducible exact LeO.refl _)
      | (with_reducible exact LeO.none _)
      | (with_reducible refine LeO.ite ?_ ?_)
      | (with_reducible refine LeO.bind ?_ (fun _ => ?_))
      | exact ih0 _ _ _
      | exact ih1 _ _ _
      | exact ih2 _ _ _ _ _
      | exact LeO.none _
      | refine LeO.ite ?_ ?_
      | refine LeO.bind ?_ (fun _ => ?_)
    · intro y0 y1 y2
      unfold gristmillref1_Words.l1
      repeat' first
      | (with_reducible exact ih0 _ _ _)
      | (with_reducible exact ih1 _ _ _)
      | (with_reducible exact ih2 _ _ _ _ _)
      | (with_reducible exact LeO.refl _)
      | (with_reducible exact LeO.none _)
      | (with_reducible refine LeO.ite ?_ ?_)
      | (with_reducible refine LeO.bind ?_ (fun _ => ?_))
      | exact ih0 _ _ _
      | exact ih1 _ _ _
      | exact ih2 _ _ _ _ _
      | exact LeO.none _
      | refine LeO.ite ?_ ?_
      | refine LeO.bind ?_ (fun _ => ?_)
    · intro y0 y1 y2 y3 y4
      unfold gristmillref1_Words.l2
      repeat' first
      | (with_reducible exact ih0 _ _ _)
      | (with_reducible exact ih1 _ _ _)
      | (with_reducible exact ih2 _ _ _ _ _)
      | (with_reducible exact LeO.refl _)
      | (with_reducible exact LeO.none _)
      | (with_reducible refine LeO.ite ?_ ?_)
      | (with_reducible refine LeO.bind ?_ (fun _ => ?_))
      | exact ih0 _ _ _
      | exact ih1 _ _ _
      | exact ih2 _ _ _ _ _
      | exact LeO.none _
      | refine LeO.ite ?_ ?_
      | refine LeO.bind ?_ (fun _ => ?_)
theorem gristmillref1_Words.mono : ∀ a0 k, LeO (gristmillref1_Words.f k a0) (gristmillref1_Words.f (k + 1) a0) := by
  intro a0 k
  obtain ⟨ih0, ih1, ih2⟩ := gristmillref1_Words.mono_l k
  unfold gristmillref1_Words.f
  repeat' first
      | (with_reducible exact ih0 _ _ _)
      | (with_reducible exact ih1 _ _ _)
      | (with_reducible exact ih2 _ _ _ _ _)
      | (with_reducible exact LeO.refl _)
      | (with_reducible exact LeO.none _)
      | (with_reducible refine LeO.ite ?_ ?_)
      | (with_reducible refine LeO.bind ?_ (fun _ => ?_))
      | exact ih0 _ _ _
      | exact ih1 _ _ _
      | exact ih2 _ _ _ _ _
      | exact LeO.none _
      | refine LeO.ite ?_ ?_
      | refine LeO.bind ?_ (fun _ => ?_)
set_option maxHeartbeats 8000000 in
set_option maxRecDepth 100000 in
theorem gristmillref1_Words.calls (k : Nat) (a0 : ByteArray) (r1 : List (S38)) (r2 : Bool) (w : World) (h : gristmillref1_Words.f k a0 = some (r1, r2)) :
    Calls Tryd.prog 11 #[.string a0] w fun e w' => ∃ v0_ : Value, e = .returned (.tuple #[v0_, .bool r2]) ∧ Kd.R k38 38 w' w.heap.size (fun _ => True) v0_ r1 ∧ Below w.heap.size w w' := by
  have hu38 := Tryd.underlying38
  have HB := Aside0.mk (Below.refl w.heap.size w)
  have H : (if (a0.size : Int) > 65536 then (some (([] : List (S38)), false)) else (gristmillref1_Words.l0 k a0 ([] : List (S38)) 0)) = some (r1, r2) := h
  clear h
  by_cases c2 : (a0.size : Int) > 65536
  · rw [if_pos c2] at H
    have c2b0 : decide (65536 < (a0.size : Int)) = true := decide_eq_true c2
    have c2b1 : decide (65536 < a0.size) = true := decide_eq_true (by omega)
    clear c2
    simp only [Option.some.injEq, Prod.mk.injEq] at H
    obtain ⟨rfl, rfl⟩ := H
    go_enter Tryd.func11, Tryd.ntmps11
    go_wp2
    go_ret2
    exact ⟨_, by first | rfl | (simp [errW_none, errW_some] <;> rfl) | (simp [*, errW_none, errW_some] <;> rfl), by first | exact Kd.R_nil _ _ _ _ _ | exact Kd.N_nil _ _ _ _ _ | exact Kd.V_nil _ _ _ _ _ | exact Kd.Q_nil _ _ _ _ _ | exact Kd.S_nil _ _ _ _ _, by repeat (first | (with_reducible first | exact HB.out | apply below_alloc | apply pw_below_drewN | apply below_drew1) | exact HB.out)⟩
  · rw [if_neg c2] at H
    have c2b0 : decide (65536 < (a0.size : Int)) = false := decide_eq_false c2
    have c2b1 : decide (65536 < a0.size) = false := decide_eq_false (by omega)
    clear c2
    have H' := Aside0.mk H
    clear H
    go_enter Tryd.func11, Tryd.ntmps11
    go_wp2
    go_loopg [4, 5] k (fun kq v4 v5 w' => ∃ (x4_1 : List (S38)) (x5_1 : Int), v5 = .int .i64 x5_1 ∧ Aside0 (gristmillref1_Words.l0 kq a0 x4_1 x5_1 = some (r1, r2)) ∧ Aside0 (kq ≤ k) ∧ Aside0 (Kd.R k38 38 w' w.heap.size (fun _ => True) v4 x4_1) ∧ Aside0 (Below w.heap.size w w'))
    case atStart => exact ⟨(([] : List (S38))), (0), (by first | rfl | (simp; done) | (simp [*]; done)), H', ⟨Nat.le_refl _⟩, ⟨by first | exact Kd.R_nil _ _ _ _ _ | exact Kd.N_nil _ _ _ _ _ | exact Kd.V_nil _ _ _ _ _ | exact Kd.Q_nil _ _ _ _ _ | exact Kd.S_nil _ _ _ _ _⟩, ⟨by repeat (first | (with_reducible first | exact HB.out | apply below_alloc | apply pw_below_drewN | apply below_drew1) | exact HB.out)⟩⟩
    case round =>
      clear H'
      try clear c1
      try clear c2
      try clear c2b0
      try clear c2b1
      try clear p2
      obtain ⟨x4_1, x5_1, rfl, HA, HK1, HO_4, HB⟩ := hrel
      cases gk with
      | zero => exact absurd HA.out (by simp [gristmillref1_Words.l0])
      | succ k1 =>
        have H := HA.out
        clear HA
        simp only [gristmillref1_Words.l0] at H
        by_cases c3 : x5_1 < (a0.size : Int)
        · rw [if_pos c3] at H
          have c3b0 : decide (x5_1 < (a0.size : Int)) = true := decide_eq_true c3
          clear c3
          by_cases c4 : 0 ≤ x5_1
          · rw [if_pos c4] at H
            have c4b0 : decide (0 ≤ x5_1) = true := decide_eq_true c4
            clear c4
            replace H := Option.bind_eq_some_iff.mp H
            obtain ⟨t195, A60, H⟩ := H
            replace H : (if t195 = true then (gristmillref1_Words.l0 k1 a0 x4_1 (wrap64 (x5_1 + 1))) else (if (bt a0 x5_1) = 59 then (gristmillref1_Words.l1 k1 a0 x4_1 x5_1) else (gristmillref1_Words.l2 k1 a0 x4_1 x5_1 (bt a0 x5_1) (wrap64 (x5_1 + 1))))) = some (r1, r2) := H
            have A6 := Aside0.mk A60
            clear A60
            by_cases c7 : t195 = true
            · subst c7
              have H1 : (gristmillref1_Words.l0 k1 a0 x4_1 (wrap64 (x5_1 + 1))) = some (r1, r2) := by rw [if_pos rfl] at H; exact H
              clear H
              have H := H1
              clear H1
              have H' := Aside0.mk H
              clear H
              have p5 : 0 ≤ (x5_1 : Int) := of_decide_eq_true (by first | (with_reducible assumption) | assumption)
              have q5 : x5_1 < (a0.size : Int) := of_decide_eq_true (by first | (with_reducible assumption) | assumption)
              have hx5 := bt_at a0 x5_1
              replace p5 := eq_true p5
              replace q5 := eq_true q5
              go_wp2_with (first | ((with_reducible refine gate_callee (f := 19) rfl ?_); refine goesL_ (some 19) rfl rfl Tryd.func19 (by kernel_rfl) rfl #[.int .u8 (bt a0 x5_1)] rfl (by (try simp only [List.map_toArray, List.map_cons, List.map_nil]); first | done | rfl | (simp only [List.length_drop, List.length_take]; rfl)) ?_; (with_reducible refine (gristmillref1_space.calls (bt a0 x5_1) true _ A6.out).mono ?_); rintro e w' ⟨rfl, ⟨nd, rfl⟩⟩; refine ⟨_, rfl, ?_⟩))
              go_roundg k1
              case measure => have := HK1.out; omega
              case rel => exact ⟨(x4_1), (wrap64 (x5_1 + 1)), (by first | rfl | (simp; done) | (simp [*]; done)), H', ⟨by have := HK1.out; omega⟩, ⟨by (with_reducible repeat (first | apply Kd.R_alloc | apply Kd.R_drewN | apply Kd.R_drew)); exact HO_4.out⟩, ⟨by repeat (first | (with_reducible first | exact HB.out | apply below_alloc | apply pw_below_drewN | apply below_drew1) | exact HB.out)⟩⟩
            · replace c7 := Bool.eq_false_iff.mpr c7
              subst c7
              have H1 : (if (bt a0 x5_1) = 59 then (gristmillref1_Words.l1 k1 a0 x4_1 x5_1) else (gristmillref1_Words.l2 k1 a0 x4_1 x5_1 (bt a0 x5_1) (wrap64 (x5_1 + 1)))) = some (r1, r2) := by rw [if_neg (show ¬ (false = true) by decide)] at H; exact H
              clear H
              have H := H1
              clear H1
              by_cases c8 : (bt a0 x5_1) = 59
              · rw [if_pos c8] at H
                have c8b0 : ((bt a0 x5_1) == 59) = true := beq_iff_eq.mpr c8
                have c8b1 : ((bt a0 x5_1) != 59) = false := bne_eq_false_iff_eq.mpr c8
                clear c8
                have H' := Aside0.mk H
                clear H
                have p5 : 0 ≤ (x5_1 : Int) := of_decide_eq_true (by first | (with_reducible assumption) | assumption)
                have q5 : x5_1 < (a0.size : Int) := of_decide_eq_true (by first | (with_reducible assumption) | assumption)
                have hx5 := bt_at a0 x5_1
                replace p5 := eq_true p5
                replace q5 := eq_true q5
                go_wp2_with (first | ((with_reducible refine gate_callee (f := 19) rfl ?_); refine goesL_ (some 19) rfl rfl Tryd.func19 (by kernel_rfl) rfl #[.int .u8 (bt a0 x5_1)] rfl (by (try simp only [List.map_toArray, List.map_cons, List.map_nil]); first | done | rfl | (simp only [List.length_drop, List.length_take]; rfl)) ?_; (with_reducible refine (gristmillref1_space.calls (bt a0 x5_1) false _ A6.out).mono ?_); rintro e w' ⟨rfl, ⟨nd, rfl⟩⟩; refine ⟨_, rfl, ?_⟩))
                go_loopg [5] k1 (fun kq v5 w' => ∃ (x5_2 : Int), v5 = .int .i64 x5_2 ∧ Aside0 (gristmillref1_Words.l1 kq a0 x4_1 x5_2 = some (r1, r2)) ∧ Aside0 (kq ≤ k1) ∧ Aside0 (Kd.R k38 38 w' w.heap.size (fun _ => True) u4 x4_1) ∧ Aside0 (Below w.heap.size w w'))
                case atStart => exact ⟨(x5_1), (by first | rfl | (simp; done) | (simp [*]; done)), H', ⟨Nat.le_refl _⟩, ⟨by (with_reducible repeat (first | apply Kd.R_alloc | apply Kd.R_drewN | apply Kd.R_drew)); exact HO_4.out⟩, ⟨by repeat (first | (with_reducible first | exact HB.out | apply below_alloc | apply pw_below_drewN | apply below_drew1) | exact HB.out)⟩⟩
                case round =>
                  clear H'
                  try clear c1
                  try clear c2
                  try clear c2b0
                  try clear c2b1
                  try clear p2
                  try clear c3
                  try clear c3b0
                  try clear c4
                  try clear c4b0
                  try clear p5
                  try clear q5
                  try clear hx5
                  try clear p6
                  try clear c7
                  try clear c8
                  try clear c8b0
                  try clear c8b1
                  try clear p2
                  try clear p5
                  try clear q5
                  obtain ⟨x5_2, rfl, HA, HK2, HO_4, HB⟩ := hrel
                  cases gk with
                  | zero => exact absurd HA.out (by simp [gristmillref1_Words.l1])
                  | succ k2 =>
                    have H := HA.out
                    clear HA
                    simp only [gristmillref1_Words.l1] at H
                    by_cases c9 : x5_2 < (a0.size : Int)
                    · rw [if_pos c9] at H
                      have c9b0 : decide (x5_2 < (a0.size : Int)) = true := decide_eq_true c9
                      clear c9
                      by_cases c10 : 0 ≤ x5_2
                      · rw [if_pos c10] at H
                        have c10b0 : decide (0 ≤ x5_2) = true := decide_eq_true c10
                        clear c10
                        by_cases c12 : (bt a0 x5_2) = 10
                        · rw [if_pos c12] at H
                          have c12b0 : ((bt a0 x5_2) == 10) = true := beq_iff_eq.mpr c12
                          have c12b1 : ((bt a0 x5_2) != 10) = false := bne_eq_false_iff_eq.mpr c12
                          clear c12
                          have H' := Aside0.mk H
                          clear H
                          have p11 : 0 ≤ (x5_2 : Int) := of_decide_eq_true (by first | (with_reducible assumption) | assumption)
                          have q11 : x5_2 < (a0.size : Int) := of_decide_eq_true (by first | (with_reducible assumption) | assumption)
                          have hx11 := bt_at a0 x5_2
                          replace p11 := eq_true p11
                          replace q11 := eq_true q11
                          go_wp2
                          go_roundg k2
                          case measure => have := HK1.out; have := HK2.out; omega
                          case rel => exact ⟨(x4_1), (x5_2), (by first | rfl | (simp; done) | (simp [*]; done)), H', ⟨by have := HK1.out; have := HK2.out; omega⟩, ⟨by (with_reducible repeat (first | apply Kd.R_alloc | apply Kd.R_drewN | apply Kd.R_drew)); exact HO_4.out⟩, ⟨by repeat (first | (with_reducible first | exact HB.out | apply below_alloc | apply pw_below_drewN | apply below_drew1) | exact HB.out)⟩⟩
                        · rw [if_neg c12] at H
                          have c12b0 : ((bt a0 x5_2) == 10) = false := beq_eq_false_iff_ne.mpr c12
                          have c12b1 : ((bt a0 x5_2) != 10) = true := bne_iff_ne.mpr c12
                          have H' := Aside0.mk H
                          clear H
                          have p11 : 0 ≤ (x5_2 : Int) := of_decide_eq_true (by first | (with_reducible assumption) | assumption)
                          have q11 : x5_2 < (a0.size : Int) := of_decide_eq_true (by first | (with_reducible assumption) | assumption)
                          have hx11 := bt_at a0 x5_2
                          replace p11 := eq_true p11
                          replace q11 := eq_true q11
                          go_wp2
                          go_roundg k2
                          case measure => have := HK1.out; have := HK2.out; omega
                          case rel => exact ⟨(wrap64 (x5_2 + 1)), (by first | rfl | (simp; done) | (simp [*]; done)), H', ⟨by have := HK1.out; have := HK2.out; omega⟩, ⟨by (with_reducible repeat (first | apply Kd.R_alloc | apply Kd.R_drewN | apply Kd.R_drew)); exact HO_4.out⟩, ⟨by repeat (first | (with_reducible first | exact HB.out | apply below_alloc | apply pw_below_drewN | apply below_drew1) | exact HB.out)⟩⟩
                      · rw [if_neg c10] at H
                        exact absurd H (by simp)
                    · rw [if_neg c9] at H
                      have c9b0 : decide (x5_2 < (a0.size : Int)) = false := decide_eq_false c9
                      clear c9
                      have H' := Aside0.mk H
                      clear H
                      go_wp2
                      go_roundg k2
                      case measure => have := HK1.out; have := HK2.out; omega
                      case rel => exact ⟨(x4_1), (x5_2), (by first | rfl | (simp; done) | (simp [*]; done)), H', ⟨by have := HK1.out; have := HK2.out; omega⟩, ⟨by (with_reducible repeat (first | apply Kd.R_alloc | apply Kd.R_drewN | apply Kd.R_drew)); exact HO_4.out⟩, ⟨by repeat (first | (with_reducible first | exact HB.out | apply below_alloc | apply pw_below_drewN | apply below_drew1) | exact HB.out)⟩⟩
              · rw [if_neg c8] at H
                have c8b0 : ((bt a0 x5_1) == 59) = false := beq_eq_false_iff_ne.mpr c8
                have c8b1 : ((bt a0 x5_1) != 59) = true := bne_iff_ne.mpr c8
                have H' := Aside0.mk H
                clear H
                have p5 : 0 ≤ (x5_1 : Int) := of_decide_eq_true (by first | (with_reducible assumption) | assumption)
                have q5 : x5_1 < (a0.size : Int) := of_decide_eq_true (by first | (with_reducible assumption) | assumption)
                have hx5 := bt_at a0 x5_1
                replace p5 := eq_true p5
                replace q5 := eq_true q5
                go_wp2_with (first | ((with_reducible refine gate_callee (f := 19) rfl ?_); refine goesL_ (some 19) rfl rfl Tryd.func19 (by kernel_rfl) rfl #[.int .u8 (bt a0 x5_1)] rfl (by (try simp only [List.map_toArray, List.map_cons, List.map_nil]); first | done | rfl | (simp only [List.length_drop, List.length_take]; rfl)) ?_; (with_reducible refine (gristmillref1_space.calls (bt a0 x5_1) false _ A6.out).mono ?_); rintro e w' ⟨rfl, ⟨nd, rfl⟩⟩; refine ⟨_, rfl, ?_⟩))
                go_loopg [7] k1 (fun kq v7 w' => ∃ (x7_2 : Int), v7 = .int .i64 x7_2 ∧ Aside0 (gristmillref1_Words.l2 kq a0 x4_1 x5_1 (bt a0 x5_1) x7_2 = some (r1, r2)) ∧ Aside0 (kq ≤ k1) ∧ Aside0 (Kd.R k38 38 w' w.heap.size (fun _ => True) u4 x4_1) ∧ Aside0 (Below w.heap.size w w'))
                case atStart => exact ⟨(wrap64 (x5_1 + 1)), (by first | rfl | (simp; done) | (simp [*]; done)), H', ⟨Nat.le_refl _⟩, ⟨by (with_reducible repeat (first | apply Kd.R_alloc | apply Kd.R_drewN | apply Kd.R_drew)); exact HO_4.out⟩, ⟨by repeat (first | (with_reducible first | exact HB.out | apply below_alloc | apply pw_below_drewN | apply below_drew1) | exact HB.out)⟩⟩
                case round =>
                  clear H'
                  try clear c1
                  try clear p1
                  try clear q1
                  try clear hx1
                  try clear c2
                  try clear c2b0
                  try clear c2b1
                  try clear p2
                  try clear c3
                  try clear c3b0
                  try clear c4
                  try clear c4b0
                  try clear p5
                  try clear q5
                  try clear hx5
                  try clear p6
                  try clear c7
                  try clear c8
                  try clear c8b0
                  try clear c8b1
                  try clear c9
                  try clear c9b0
                  try clear c10
                  try clear c10b0
                  try clear c11
                  try clear p11
                  try clear q11
                  try clear hx11
                  try clear c12
                  try clear c12b0
                  try clear c12b1
                  try clear p11
                  try clear p2
                  try clear p5
                  try clear p6
                  try clear q11
                  try clear q5
                  obtain ⟨x7_2, rfl, HA, HK2, HO_4, HB⟩ := hrel
                  cases gk with
                  | zero => exact absurd HA.out (by simp [gristmillref1_Words.l2])
                  | succ k2 =>
                    have H := HA.out
                    clear HA
                    simp only [gristmillref1_Words.l2] at H
                    by_cases c13 : (bt a0 x5_1) = 40
                    · rw [if_pos c13] at H
                      have c13b0 : ((bt a0 x5_1) == 40) = true := beq_iff_eq.mpr c13
                      have c13b1 : ((bt a0 x5_1) != 40) = false := bne_eq_false_iff_eq.mpr c13
                      clear c13
                      by_cases c14 : 0 ≤ x5_1
                      · rw [if_pos c14] at H
                        have c14b0 := eq_true c14
                        have c14b1 : decide (0 ≤ x5_1) = true := decide_eq_true c14
                        clear c14
                        by_cases c15 : x5_1 ≤ x7_2
                        · rw [if_pos c15] at H
                          have c15b0 := eq_true c15
                          have c15b1 : decide (x5_1 ≤ x7_2) = true := decide_eq_true c15
                          clear c15
                          by_cases c16 : x7_2 ≤ (a0.size : Int)
                          · rw [if_pos c16] at H
                            have c16b0 := eq_true c16
                            have c16b1 : decide (x7_2 ≤ (a0.size : Int)) = true := decide_eq_true c16
                            clear c16
                            by_cases c17 : x4_1.length < 5864062014805
                            · rw [if_pos c17] at H
                              have LMc17 := Aside0.mk c17
                              clear c17
                              obtain ⟨y196, hy196⟩ : ∃ y_ : List (S38), y_ = (x4_1 ++ [(⟨a0.extract (x5_1 : Int).toNat (x7_2 : Int).toNat, x5_1⟩ : S38)]) := ⟨_, rfl⟩
                              replace H : (gristmillref1_Words.l0 k2 a0 y196 x7_2) = some (r1, r2) := by first | (rw [hy196]; with_reducible exact H) | (have H2_ := (Option.bind_some _ _).symm.trans H; rw [hy196]; with_reducible exact H2_) | (have H2_ := (Option.bind_some _ _).symm.trans H; with_reducible exact H2_) | with_reducible exact H | (rw [hy196]; exact H) | exact H
                              have Ny196 := Aside0.mk hy196
                              clear hy196
                              have H' := Aside0.mk H
                              clear H
                              go_wp2_with (first | ((with_reducible refine gate_builtin (b := .append) (xs := #[.tmp 77, .tmp 84]) rfl ?_); (try (refine gate_guard (by rfl) ?_; dsimp only)); at_builtin; refine Kd.R_append k38 (w0 := w) w.heap.size rfl (.tmp 77) (.tmp 84) 35 38 (.agg #[(.string ⟨#[]⟩), (.int .i64 0)]) 24 rfl Tryd.underlying35 info38 rfl (by decide) (by omega) u4 x4_1 (⟨a0.extract (x5_1 : Int).toNat (x7_2 : Int).toNat, x5_1⟩ : S38) [.string (a0.extract (x5_1 : Int).toNat (x7_2 : Int).toNat), .int .i64 x5_1] (fun _ => True) (fun _ => False) rfl rfl ?aP (fun _ hk => hk.elim) ?aF ?aO ?aB ?aS ?aL ?_; (case aP => exact k38_mkM _ _ _ (⟨a0.extract (x5_1 : Int).toNat (x7_2 : Int).toNat, x5_1⟩ : S38)); (case aB => exact (by repeat (first | (with_reducible first | exact HB.out | apply below_alloc | apply pw_below_drewN | apply below_drew1) | exact HB.out))); (case aF => exact (fun _ _ => trivial)); (case aO => exact (by (with_reducible repeat (first | apply Kd.R_alloc | apply Kd.R_drewN | apply Kd.R_drew)); exact HO_4.out)); (case aS => exact (below_size (by repeat (first | (with_reducible first | exact HB.out | apply below_alloc | apply pw_below_drewN | apply below_drew1) | exact HB.out)))); (case aL => have := LMc17.out; omega); intro v197 w18 ho hb hg hat; rw [← Ny196.out] at ho; have n0_ := Aside0.mk (hb); have n1_ := Aside0.mk (ho); clear HB; clear HO_4; have HB := n0_; have HO198 := n1_; clear n0_ n1_; clear ho hb hg hat))
                              go_roundg k2
                              case measure => have := HK1.out; have := HK2.out; omega
                              case rel => exact ⟨(y196), (x7_2), (by first | rfl | (simp; done) | (simp [*]; done)), H', ⟨by have := HK1.out; have := HK2.out; omega⟩, ⟨by (with_reducible repeat (first | apply Kd.R_alloc | apply Kd.R_drewN | apply Kd.R_drew)); exact HO198.out⟩, ⟨by repeat (first | (with_reducible first | exact HB.out | apply below_alloc | apply pw_below_drewN | apply below_drew1) | exact HB.out)⟩⟩
                            · rw [if_neg c17] at H
                              exact absurd H (by simp)
                          · rw [if_neg c16] at H
                            exact absurd H (by simp)
                        · rw [if_neg c15] at H
                          exact absurd H (by simp)
                      · rw [if_neg c14] at H
                        exact absurd H (by simp)
                    · rw [if_neg c13] at H
                      have c13b0 : ((bt a0 x5_1) == 40) = false := beq_eq_false_iff_ne.mpr c13
                      have c13b1 : ((bt a0 x5_1) != 40) = true := bne_iff_ne.mpr c13
                      by_cases c19 : (bt a0 x5_1) = 41
                      · rw [if_pos c19] at H
                        have c19b0 : ((bt a0 x5_1) == 41) = true := beq_iff_eq.mpr c19
                        have c19b1 : ((bt a0 x5_1) != 41) = false := bne_eq_false_iff_eq.mpr c19
                        clear c19
                        by_cases c20 : 0 ≤ x5_1
                        · rw [if_pos c20] at H
                          have c20b0 := eq_true c20
                          have c20b1 : decide (0 ≤ x5_1) = true := decide_eq_true c20
                          clear c20
                          by_cases c21 : x5_1 ≤ x7_2
                          · rw [if_pos c21] at H
                            have c21b0 := eq_true c21
                            have c21b1 : decide (x5_1 ≤ x7_2) = true := decide_eq_true c21
                            clear c21
                            by_cases c22 : x7_2 ≤ (a0.size : Int)
                            · rw [if_pos c22] at H
                              have c22b0 := eq_true c22
                              have c22b1 : decide (x7_2 ≤ (a0.size : Int)) = true := decide_eq_true c22
                              clear c22
                              by_cases c23 : x4_1.length < 5864062014805
                              · rw [if_pos c23] at H
                                have LMc23 := Aside0.mk c23
                                clear c23
                                obtain ⟨y199, hy199⟩ : ∃ y_ : List (S38), y_ = (x4_1 ++ [(⟨a0.extract (x5_1 : Int).toNat (x7_2 : Int).toNat, x5_1⟩ : S38)]) := ⟨_, rfl⟩
                                replace H : (gristmillref1_Words.l0 k2 a0 y199 x7_2) = some (r1, r2) := by first | (rw [hy199]; with_reducible exact H) | (have H2_ := (Option.bind_some _ _).symm.trans H; rw [hy199]; with_reducible exact H2_) | (have H2_ := (Option.bind_some _ _).symm.trans H; with_reducible exact H2_) | with_reducible exact H | (rw [hy199]; exact H) | exact H
                                have Ny199 := Aside0.mk hy199
                                clear hy199
                                have H' := Aside0.mk H
                                clear H
                                go_wp2_with (first | ((with_reducible refine gate_builtin (b := .append) (xs := #[.tmp 77, .tmp 84]) rfl ?_); (try (refine gate_guard (by rfl) ?_; dsimp only)); at_builtin; refine Kd.R_append k38 (w0 := w) w.heap.size rfl (.tmp 77) (.tmp 84) 35 38 (.agg #[(.string ⟨#[]⟩), (.int .i64 0)]) 24 rfl Tryd.underlying35 info38 rfl (by decide) (by omega) u4 x4_1 (⟨a0.extract (x5_1 : Int).toNat (x7_2 : Int).toNat, x5_1⟩ : S38) [.string (a0.extract (x5_1 : Int).toNat (x7_2 : Int).toNat), .int .i64 x5_1] (fun _ => True) (fun _ => False) rfl rfl ?aP (fun _ hk => hk.elim) ?aF ?aO ?aB ?aS ?aL ?_; (case aP => exact k38_mkM _ _ _ (⟨a0.extract (x5_1 : Int).toNat (x7_2 : Int).toNat, x5_1⟩ : S38)); (case aB => exact (by repeat (first | (with_reducible first | exact HB.out | apply below_alloc | apply pw_below_drewN | apply below_drew1) | exact HB.out))); (case aF => exact (fun _ _ => trivial)); (case aO => exact (by (with_reducible repeat (first | apply Kd.R_alloc | apply Kd.R_drewN | apply Kd.R_drew)); exact HO_4.out)); (case aS => exact (below_size (by repeat (first | (with_reducible first | exact HB.out | apply below_alloc | apply pw_below_drewN | apply below_drew1) | exact HB.out)))); (case aL => have := LMc23.out; omega); intro v200 w24 ho hb hg hat; rw [← Ny199.out] at ho; have n0_ := Aside0.mk (hb); have n1_ := Aside0.mk (ho); clear HB; clear HO_4; have HB := n0_; have HO201 := n1_; clear n0_ n1_; clear ho hb hg hat))
                                go_roundg k2
                                case measure => have := HK1.out; have := HK2.out; omega
                                case rel => exact ⟨(y199), (x7_2), (by first | rfl | (simp; done) | (simp [*]; done)), H', ⟨by have := HK1.out; have := HK2.out; omega⟩, ⟨by (with_reducible repeat (first | apply Kd.R_alloc | apply Kd.R_drewN | apply Kd.R_drew)); exact HO201.out⟩, ⟨by repeat (first | (with_reducible first | exact HB.out | apply below_alloc | apply pw_below_drewN | apply below_drew1) | exact HB.out)⟩⟩
                              · rw [if_neg c23] at H
                                exact absurd H (by simp)
                            · rw [if_neg c22] at H
                              exact absurd H (by simp)
                          · rw [if_neg c21] at H
                            exact absurd H (by simp)
                        · rw [if_neg c20] at H
                          exact absurd H (by simp)
                      · rw [if_neg c19] at H
                        have c19b0 : ((bt a0 x5_1) == 41) = false := beq_eq_false_iff_ne.mpr c19
                        have c19b1 : ((bt a0 x5_1) != 41) = true := bne_iff_ne.mpr c19
                        by_cases c25 : x7_2 < (a0.size : Int)
                        · rw [if_pos c25] at H
                          have c25b0 : decide (x7_2 < (a0.size : Int)) = true := decide_eq_true c25
                          clear c25
                          by_cases c26 : 0 ≤ x7_2
                          · rw [if_pos c26] at H
                            have c26b0 : decide (0 ≤ x7_2) = true := decide_eq_true c26
                            clear c26
                            replace H := Option.bind_eq_some_iff.mp H
                            obtain ⟨t202, A280, H⟩ := H
                            replace H : (if t202 = true then (if 0 ≤ x5_1 then (if x5_1 ≤ x7_2 then (if x7_2 ≤ (a0.size : Int) then (if x4_1.length < 5864062014805 then (gristmillref1_Words.l0 k2 a0 (x4_1 ++ [(⟨a0.extract (x5_1 : Int).toNat (x7_2 : Int).toNat, x5_1⟩ : S38)]) x7_2) else (none)) else (none)) else (none)) else (none)) else (if (bt a0 x7_2) = 59 then (if 0 ≤ x5_1 then (if x5_1 ≤ x7_2 then (if x7_2 ≤ (a0.size : Int) then (if x4_1.length < 5864062014805 then (gristmillref1_Words.l0 k2 a0 (x4_1 ++ [(⟨a0.extract (x5_1 : Int).toNat (x7_2 : Int).toNat, x5_1⟩ : S38)]) x7_2) else (none)) else (none)) else (none)) else (none)) else (if (bt a0 x7_2) = 40 then (if 0 ≤ x5_1 then (if x5_1 ≤ x7_2 then (if x7_2 ≤ (a0.size : Int) then (if x4_1.length < 5864062014805 then (gristmillref1_Words.l0 k2 a0 (x4_1 ++ [(⟨a0.extract (x5_1 : Int).toNat (x7_2 : Int).toNat, x5_1⟩ : S38)]) x7_2) else (none)) else (none)) else (none)) else (none)) else (if (bt a0 x7_2) = 41 then (if 0 ≤ x5_1 then (if x5_1 ≤ x7_2 then (if x7_2 ≤ (a0.size : Int) then (if x4_1.length < 5864062014805 then (gristmillref1_Words.l0 k2 a0 (x4_1 ++ [(⟨a0.extract (x5_1 : Int).toNat (x7_2 : Int).toNat, x5_1⟩ : S38)]) x7_2) else (none)) else (none)) else (none)) else (none)) else (gristmillref1_Words.l2 k2 a0 x4_1 x5_1 (bt a0 x5_1) (wrap64 (x7_2 + 1))))))) = some (r1, r2) := H
                            have A28 := Aside0.mk A280
                            clear A280
                            by_cases c29 : t202 = true
                            · subst c29
                              have H1 : (if 0 ≤ x5_1 then (if x5_1 ≤ x7_2 then (if x7_2 ≤ (a0.size : Int) then (if x4_1.length < 5864062014805 then (gristmillref1_Words.l0 k2 a0 (x4_1 ++ [(⟨a0.extract (x5_1 : Int).toNat (x7_2 : Int).toNat, x5_1⟩ : S38)]) x7_2) else (none)) else (none)) else (none)) else (none)) = some (r1, r2) := by rw [if_pos rfl] at H; exact H
                              clear H
                              have H := H1
                              clear H1
                              by_cases c30 : 0 ≤ x5_1
                              · rw [if_pos c30] at H
                                have c30b0 := eq_true c30
                                have c30b1 : decide (0 ≤ x5_1) = true := decide_eq_true c30
                                clear c30
                                by_cases c31 : x5_1 ≤ x7_2
                                · rw [if_pos c31] at H
                                  have c31b0 := eq_true c31
                                  have c31b1 : decide (x5_1 ≤ x7_2) = true := decide_eq_true c31
                                  clear c31
                                  by_cases c32 : x7_2 ≤ (a0.size : Int)
                                  · rw [if_pos c32] at H
                                    have c32b0 := eq_true c32
                                    have c32b1 : decide (x7_2 ≤ (a0.size : Int)) = true := decide_eq_true c32
                                    clear c32
                                    by_cases c33 : x4_1.length < 5864062014805
                                    · rw [if_pos c33] at H
                                      have LMc33 := Aside0.mk c33
                                      clear c33
                                      obtain ⟨y203, hy203⟩ : ∃ y_ : List (S38), y_ = (x4_1 ++ [(⟨a0.extract (x5_1 : Int).toNat (x7_2 : Int).toNat, x5_1⟩ : S38)]) := ⟨_, rfl⟩
                                      replace H : (gristmillref1_Words.l0 k2 a0 y203 x7_2) = some (r1, r2) := by first | (rw [hy203]; with_reducible exact H) | (have H2_ := (Option.bind_some _ _).symm.trans H; rw [hy203]; with_reducible exact H2_) | (have H2_ := (Option.bind_some _ _).symm.trans H; with_reducible exact H2_) | with_reducible exact H | (rw [hy203]; exact H) | exact H
                                      have Ny203 := Aside0.mk hy203
                                      clear hy203
                                      have H' := Aside0.mk H
                                      clear H
                                      have p27 : 0 ≤ (x7_2 : Int) := of_decide_eq_true (by first | (with_reducible assumption) | assumption)
                                      have q27 : x7_2 < (a0.size : Int) := of_decide_eq_true (by first | (with_reducible assumption) | assumption)
                                      have hx27 := bt_at a0 x7_2
                                      replace p27 := eq_true p27
                                      replace q27 := eq_true q27
                                      go_wp2_with (first | (go_at_call 19; (with_reducible refine (gristmillref1_space.calls (bt a0 x7_2) true _ A28.out).mono ?_); rintro e w' ⟨rfl, ⟨nd, rfl⟩⟩) | ((with_reducible refine gate_builtin (b := .append) (xs := #[.tmp 77, .tmp 84]) rfl ?_); (try (refine gate_guard (by rfl) ?_; dsimp only)); at_builtin; refine Kd.R_append k38 (w0 := w) w.heap.size rfl (.tmp 77) (.tmp 84) 35 38 (.agg #[(.string ⟨#[]⟩), (.int .i64 0)]) 24 rfl Tryd.underlying35 info38 rfl (by decide) (by omega) u4 x4_1 (⟨a0.extract (x5_1 : Int).toNat (x7_2 : Int).toNat, x5_1⟩ : S38) [.string (a0.extract (x5_1 : Int).toNat (x7_2 : Int).toNat), .int .i64 x5_1] (fun _ => True) (fun _ => False) rfl rfl ?aP (fun _ hk => hk.elim) ?aF ?aO ?aB ?aS ?aL ?_; (case aP => exact k38_mkM _ _ _ (⟨a0.extract (x5_1 : Int).toNat (x7_2 : Int).toNat, x5_1⟩ : S38)); (case aB => exact (by repeat (first | (with_reducible first | exact HB.out | apply below_alloc | apply pw_below_drewN | apply below_drew1) | exact HB.out))); (case aF => exact (fun _ _ => trivial)); (case aO => exact (by (with_reducible repeat (first | apply Kd.R_alloc | apply Kd.R_drewN | apply Kd.R_drew)); exact HO_4.out)); (case aS => exact (below_size (by repeat (first | (with_reducible first | exact HB.out | apply below_alloc | apply pw_below_drewN | apply below_drew1) | exact HB.out)))); (case aL => have := LMc33.out; omega); intro v204 w34 ho hb hg hat; rw [← Ny203.out] at ho; have n0_ := Aside0.mk (hb); have n1_ := Aside0.mk (ho); clear HB; clear HO_4; have HB := n0_; have HO205 := n1_; clear n0_ n1_; clear ho hb hg hat))
                                      go_roundg k2
                                      case measure => have := HK1.out; have := HK2.out; omega
                                      case rel => exact ⟨(y203), (x7_2), (by first | rfl | (simp; done) | (simp [*]; done)), H', ⟨by have := HK1.out; have := HK2.out; omega⟩, ⟨by (with_reducible repeat (first | apply Kd.R_alloc | apply Kd.R_drewN | apply Kd.R_drew)); exact HO205.out⟩, ⟨by repeat (first | (with_reducible first | exact HB.out | apply below_alloc | apply pw_below_drewN | apply below_drew1) | exact HB.out)⟩⟩
                                    · rw [if_neg c33] at H
                                      exact absurd H (by simp)
                                  · rw [if_neg c32] at H
                                    exact absurd H (by simp)
                                · rw [if_neg c31] at H
                                  exact absurd H (by simp)
                              · rw [if_neg c30] at H
                                exact absurd H (by simp)
                            · replace c29 := Bool.eq_false_iff.mpr c29
                              subst c29
                              have H1 : (if (bt a0 x7_2) = 59 then (if 0 ≤ x5_1 then (if x5_1 ≤ x7_2 then (if x7_2 ≤ (a0.size : Int) then (if x4_1.length < 5864062014805 then (gristmillref1_Words.l0 k2 a0 (x4_1 ++ [(⟨a0.extract (x5_1 : Int).toNat (x7_2 : Int).toNat, x5_1⟩ : S38)]) x7_2) else (none)) else (none)) else (none)) else (none)) else (if (bt a0 x7_2) = 40 then (if 0 ≤ x5_1 then (if x5_1 ≤ x7_2 then (if x7_2 ≤ (a0.size : Int) then (if x4_1.length < 5864062014805 then (gristmillref1_Words.l0 k2 a0 (x4_1 ++ [(⟨a0.extract (x5_1 : Int).toNat (x7_2 : Int).toNat, x5_1⟩ : S38)]) x7_2) else (none)) else (none)) else (none)) else (none)) else (if (bt a0 x7_2) = 41 then (if 0 ≤ x5_1 then (if x5_1 ≤ x7_2 then (if x7_2 ≤ (a0.size : Int) then (if x4_1.length < 5864062014805 then (gristmillref1_Words.l0 k2 a0 (x4_1 ++ [(⟨a0.extract (x5_1 : Int).toNat (x7_2 : Int).toNat, x5_1⟩ : S38)]) x7_2) else (none)) else (none)) else (none)) else (none)) else (gristmillref1_Words.l2 k2 a0 x4_1 x5_1 (bt a0 x5_1) (wrap64 (x7_2 + 1)))))) = some (r1, r2) := by rw [if_neg (show ¬ (false = true) by decide)] at H; exact H
                              clear H
                              have H := H1
                              clear H1
                              by_cases c36 : (bt a0 x7_2) = 59
                              · rw [if_pos c36] at H
                                have c36b0 : ((bt a0 x7_2) == 59) = true := beq_iff_eq.mpr c36
                                have c36b1 : ((bt a0 x7_2) != 59) = false := bne_eq_false_iff_eq.mpr c36
                                clear c36
                                by_cases c37 : 0 ≤ x5_1
                                · rw [if_pos c37] at H
                                  have c37b0 := eq_true c37
                                  have c37b1 : decide (0 ≤ x5_1) = true := decide_eq_true c37
                                  clear c37
                                  by_cases c38 : x5_1 ≤ x7_2
                                  · rw [if_pos c38] at H
                                    have c38b0 := eq_true c38
                                    have c38b1 : decide (x5_1 ≤ x7_2) = true := decide_eq_true c38
                                    clear c38
                                    by_cases c39 : x7_2 ≤ (a0.size : Int)
                                    · rw [if_pos c39] at H
                                      have c39b0 := eq_true c39
                                      have c39b1 : decide (x7_2 ≤ (a0.size : Int)) = true := decide_eq_true c39
                                      clear c39
                                      by_cases c40 : x4_1.length < 5864062014805
                                      · rw [if_pos c40] at H
                                        have LMc40 := Aside0.mk c40
                                        clear c40
                                        obtain ⟨y206, hy206⟩ : ∃ y_ : List (S38), y_ = (x4_1 ++ [(⟨a0.extract (x5_1 : Int).toNat (x7_2 : Int).toNat, x5_1⟩ : S38)]) := ⟨_, rfl⟩
                                        replace H : (gristmillref1_Words.l0 k2 a0 y206 x7_2) = some (r1, r2) := by first | (rw [hy206]; with_reducible exact H) | (have H2_ := (Option.bind_some _ _).symm.trans H; rw [hy206]; with_reducible exact H2_) | (have H2_ := (Option.bind_some _ _).symm.trans H; with_reducible exact H2_) | with_reducible exact H | (rw [hy206]; exact H) | exact H
                                        have Ny206 := Aside0.mk hy206
                                        clear hy206
                                        have H' := Aside0.mk H
                                        clear H
                                        have p27 : 0 ≤ (x7_2 : Int) := of_decide_eq_true (by first | (with_reducible assumption) | assumption)
                                        have q27 : x7_2 < (a0.size : Int) := of_decide_eq_true (by first | (with_reducible assumption) | assumption)
                                        have hx27 := bt_at a0 x7_2
                                        replace p27 := eq_true p27
                                        replace q27 := eq_true q27
                                        go_wp2_with (first | (go_at_call 19; (with_reducible refine (gristmillref1_space.calls (bt a0 x7_2) false _ A28.out).mono ?_); rintro e w' ⟨rfl, ⟨nd, rfl⟩⟩; have p35 : 0 ≤ (x7_2 : Int) := of_decide_eq_true (by first | (with_reducible assumption) | assumption); have q35 : x7_2 < (a0.size : Int) := of_decide_eq_true (by first | (with_reducible assumption) | assumption); have hx35 := bt_at a0 x7_2; replace p35 := eq_true p35; replace q35 := eq_true q35) | ((with_reducible refine gate_builtin (b := .append) (xs := #[.tmp 77, .tmp 84]) rfl ?_); (try (refine gate_guard (by rfl) ?_; dsimp only)); at_builtin; refine Kd.R_append k38 (w0 := w) w.heap.size rfl (.tmp 77) (.tmp 84) 35 38 (.agg #[(.string ⟨#[]⟩), (.int .i64 0)]) 24 rfl Tryd.underlying35 info38 rfl (by decide) (by omega) u4 x4_1 (⟨a0.extract (x5_1 : Int).toNat (x7_2 : Int).toNat, x5_1⟩ : S38) [.string (a0.extract (x5_1 : Int).toNat (x7_2 : Int).toNat), .int .i64 x5_1] (fun _ => True) (fun _ => False) rfl rfl ?aP (fun _ hk => hk.elim) ?aF ?aO ?aB ?aS ?aL ?_; (case aP => exact k38_mkM _ _ _ (⟨a0.extract (x5_1 : Int).toNat (x7_2 : Int).toNat, x5_1⟩ : S38)); (case aB => exact (by repeat (first | (with_reducible first | exact HB.out | apply below_alloc | apply pw_below_drewN | apply below_drew1) | exact HB.out))); (case aF => exact (fun _ _ => trivial)); (case aO => exact (by (with_reducible repeat (first | apply Kd.R_alloc | apply Kd.R_drewN | apply Kd.R_drew)); exact HO_4.out)); (case aS => exact (below_size (by repeat (first | (with_reducible first | exact HB.out | apply below_alloc | apply pw_below_drewN | apply below_drew1) | exact HB.out)))); (case aL => have := LMc40.out; omega); intro v207 w41 ho hb hg hat; rw [← Ny206.out] at ho; have n0_ := Aside0.mk (hb); have n1_ := Aside0.mk (ho); clear HB; clear HO_4; have HB := n0_; have HO208 := n1_; clear n0_ n1_; clear ho hb hg hat))
                                        go_roundg k2
                                        case measure => have := HK1.out; have := HK2.out; omega
                                        case rel => exact ⟨(y206), (x7_2), (by first | rfl | (simp; done) | (simp [*]; done)), H', ⟨by have := HK1.out; have := HK2.out; omega⟩, ⟨by (with_reducible repeat (first | apply Kd.R_alloc | apply Kd.R_drewN | apply Kd.R_drew)); exact HO208.out⟩, ⟨by repeat (first | (with_reducible first | exact HB.out | apply below_alloc | apply pw_below_drewN | apply below_drew1) | exact HB.out)⟩⟩
                                      · rw [if_neg c40] at H
                                        exact absurd H (by simp)
                                    · rw [if_neg c39] at H
                                      exact absurd H (by simp)
                                  · rw [if_neg c38] at H
                                    exact absurd H (by simp)
                                · rw [if_neg c37] at H
                                  exact absurd H (by simp)
                              · rw [if_neg c36] at H
                                have c36b0 : ((bt a0 x7_2) == 59) = false := beq_eq_false_iff_ne.mpr c36
                                have c36b1 : ((bt a0 x7_2) != 59) = true := bne_iff_ne.mpr c36
                                by_cases c43 : (bt a0 x7_2) = 40
                                · rw [if_pos c43] at H
                                  have c43b0 : ((bt a0 x7_2) == 40) = true := beq_iff_eq.mpr c43
                                  have c43b1 : ((bt a0 x7_2) != 40) = false := bne_eq_false_iff_eq.mpr c43
                                  clear c43
                                  by_cases c44 : 0 ≤ x5_1
                                  · rw [if_pos c44] at H
                                    have c44b0 := eq_true c44
                                    have c44b1 : decide (0 ≤ x5_1) = true := decide_eq_true c44
                                    clear c44
                                    by_cases c45 : x5_1 ≤ x7_2
                                    · rw [if_pos c45] at H
                                      have c45b0 := eq_true c45
                                      have c45b1 : decide (x5_1 ≤ x7_2) = true := decide_eq_true c45
                                      clear c45
                                      by_cases c46 : x7_2 ≤ (a0.size : Int)
                                      · rw [if_pos c46] at H
                                        have c46b0 := eq_true c46
                                        have c46b1 : decide (x7_2 ≤ (a0.size : Int)) = true := decide_eq_true c46
                                        clear c46
                                        by_cases c47 : x4_1.length < 5864062014805
                                        · rw [if_pos c47] at H
                                          have LMc47 := Aside0.mk c47
                                          clear c47
                                          obtain ⟨y209, hy209⟩ : ∃ y_ : List (S38), y_ = (x4_1 ++ [(⟨a0.extract (x5_1 : Int).toNat (x7_2 : Int).toNat, x5_1⟩ : S38)]) := ⟨_, rfl⟩
                                          replace H : (gristmillref1_Words.l0 k2 a0 y209 x7_2) = some (r1, r2) := by first | (rw [hy209]; with_reducible exact H) | (have H2_ := (Option.bind_some _ _).symm.trans H; rw [hy209]; with_reducible exact H2_) | (have H2_ := (Option.bind_some _ _).symm.trans H; with_reducible exact H2_) | with_reducible exact H | (rw [hy209]; exact H) | exact H
                                          have Ny209 := Aside0.mk hy209
                                          clear hy209
                                          have H' := Aside0.mk H
                                          clear H
                                          have p27 : 0 ≤ (x7_2 : Int) := of_decide_eq_true (by first | (with_reducible assumption) | assumption)
                                          have q27 : x7_2 < (a0.size : Int) := of_decide_eq_true (by first | (with_reducible assumption) | assumption)
                                          have hx27 := bt_at a0 x7_2
                                          replace p27 := eq_true p27
                                          replace q27 := eq_true q27
                                          go_wp2_with (first | (go_at_call 19; (with_reducible refine (gristmillref1_space.calls (bt a0 x7_2) false _ A28.out).mono ?_); rintro e w' ⟨rfl, ⟨nd, rfl⟩⟩; have p35 : 0 ≤ (x7_2 : Int) := of_decide_eq_true (by first | (with_reducible assumption) | assumption); have q35 : x7_2 < (a0.size : Int) := of_decide_eq_true (by first | (with_reducible assumption) | assumption); have hx35 := bt_at a0 x7_2; replace p35 := eq_true p35; replace q35 := eq_true q35; have p42 : 0 ≤ (x7_2 : Int) := of_decide_eq_true (by first | (with_reducible assumption) | assumption); have q42 : x7_2 < (a0.size : Int) := of_decide_eq_true (by first | (with_reducible assumption) | assumption); have hx42 := bt_at a0 x7_2; replace p42 := eq_true p42; replace q42 := eq_true q42) | ((with_reducible refine gate_builtin (b := .append) (xs := #[.tmp 77, .tmp 84]) rfl ?_); (try (refine gate_guard (by rfl) ?_; dsimp only)); at_builtin; refine Kd.R_append k38 (w0 := w) w.heap.size rfl (.tmp 77) (.tmp 84) 35 38 (.agg #[(.string ⟨#[]⟩), (.int .i64 0)]) 24 rfl Tryd.underlying35 info38 rfl (by decide) (by omega) u4 x4_1 (⟨a0.extract (x5_1 : Int).toNat (x7_2 : Int).toNat, x5_1⟩ : S38) [.string (a0.extract (x5_1 : Int).toNat (x7_2 : Int).toNat), .int .i64 x5_1] (fun _ => True) (fun _ => False) rfl rfl ?aP (fun _ hk => hk.elim) ?aF ?aO ?aB ?aS ?aL ?_; (case aP => exact k38_mkM _ _ _ (⟨a0.extract (x5_1 : Int).toNat (x7_2 : Int).toNat, x5_1⟩ : S38)); (case aB => exact (by repeat (first | (with_reducible first | exact HB.out | apply below_alloc | apply pw_below_drewN | apply below_drew1) | exact HB.out))); (case aF => exact (fun _ _ => trivial)); (case aO => exact (by (with_reducible repeat (first | apply Kd.R_alloc | apply Kd.R_drewN | apply Kd.R_drew)); exact HO_4.out)); (case aS => exact (below_size (by repeat (first | (with_reducible first | exact HB.out | apply below_alloc | apply pw_below_drewN | apply below_drew1) | exact HB.out)))); (case aL => have := LMc47.out; omega); intro v210 w48 ho hb hg hat; rw [← Ny209.out] at ho; have n0_ := Aside0.mk (hb); have n1_ := Aside0.mk (ho); clear HB; clear HO_4; have HB := n0_; have HO211 := n1_; clear n0_ n1_; clear ho hb hg hat))
                                          go_roundg k2
                                          case measure => have := HK1.out; have := HK2.out; omega
                                          case rel => exact ⟨(y209), (x7_2), (by first | rfl | (simp; done) | (simp [*]; done)), H', ⟨by have := HK1.out; have := HK2.out; omega⟩, ⟨by (with_reducible repeat (first | apply Kd.R_alloc | apply Kd.R_drewN | apply Kd.R_drew)); exact HO211.out⟩, ⟨by repeat (first | (with_reducible first | exact HB.out | apply below_alloc | apply pw_below_drewN | apply below_drew1) | exact HB.out)⟩⟩
                                        · rw [if_neg c47] at H
                                          exact absurd H (by simp)
                                      · rw [if_neg c46] at H
                                        exact absurd H (by simp)
                                    · rw [if_neg c45] at H
                                      exact absurd H (by simp)
                                  · rw [if_neg c44] at H
                                    exact absurd H (by simp)
                                · rw [if_neg c43] at H
                                  have c43b0 : ((bt a0 x7_2) == 40) = false := beq_eq_false_iff_ne.mpr c43
                                  have c43b1 : ((bt a0 x7_2) != 40) = true := bne_iff_ne.mpr c43
                                  by_cases c50 : (bt a0 x7_2) = 41
                                  · rw [if_pos c50] at H
                                    have c50b0 : ((bt a0 x7_2) == 41) = true := beq_iff_eq.mpr c50
                                    have c50b1 : ((bt a0 x7_2) != 41) = false := bne_eq_false_iff_eq.mpr c50
                                    clear c50
                                    by_cases c51 : 0 ≤ x5_1
                                    · rw [if_pos c51] at H
                                      have c51b0 := eq_true c51
                                      have c51b1 : decide (0 ≤ x5_1) = true := decide_eq_true c51
                                      clear c51
                                      by_cases c52 : x5_1 ≤ x7_2
                                      · rw [if_pos c52] at H
                                        have c52b0 := eq_true c52
                                        have c52b1 : decide (x5_1 ≤ x7_2) = true := decide_eq_true c52
                                        clear c52
                                        by_cases c53 : x7_2 ≤ (a0.size : Int)
                                        · rw [if_pos c53] at H
                                          have c53b0 := eq_true c53
                                          have c53b1 : decide (x7_2 ≤ (a0.size : Int)) = true := decide_eq_true c53
                                          clear c53
                                          by_cases c54 : x4_1.length < 5864062014805
                                          · rw [if_pos c54] at H
                                            have LMc54 := Aside0.mk c54
                                            clear c54
                                            obtain ⟨y212, hy212⟩ : ∃ y_ : List (S38), y_ = (x4_1 ++ [(⟨a0.extract (x5_1 : Int).toNat (x7_2 : Int).toNat, x5_1⟩ : S38)]) := ⟨_, rfl⟩
                                            replace H : (gristmillref1_Words.l0 k2 a0 y212 x7_2) = some (r1, r2) := by first | (rw [hy212]; with_reducible exact H) | (have H2_ := (Option.bind_some _ _).symm.trans H; rw [hy212]; with_reducible exact H2_) | (have H2_ := (Option.bind_some _ _).symm.trans H; with_reducible exact H2_) | with_reducible exact H | (rw [hy212]; exact H) | exact H
                                            have Ny212 := Aside0.mk hy212
                                            clear hy212
                                            have H' := Aside0.mk H
                                            clear H
                                            have p27 : 0 ≤ (x7_2 : Int) := of_decide_eq_true (by first | (with_reducible assumption) | assumption)
                                            have q27 : x7_2 < (a0.size : Int) := of_decide_eq_true (by first | (with_reducible assumption) | assumption)
                                            have hx27 := bt_at a0 x7_2
                                            replace p27 := eq_true p27
                                            replace q27 := eq_true q27
                                            go_wp2_with (first | (go_at_call 19; (with_reducible refine (gristmillref1_space.calls (bt a0 x7_2) false _ A28.out).mono ?_); rintro e w' ⟨rfl, ⟨nd, rfl⟩⟩; have p35 : 0 ≤ (x7_2 : Int) := of_decide_eq_true (by first | (with_reducible assumption) | assumption); have q35 : x7_2 < (a0.size : Int) := of_decide_eq_true (by first | (with_reducible assumption) | assumption); have hx35 := bt_at a0 x7_2; replace p35 := eq_true p35; replace q35 := eq_true q35; have p42 : 0 ≤ (x7_2 : Int) := of_decide_eq_true (by first | (with_reducible assumption) | assumption); have q42 : x7_2 < (a0.size : Int) := of_decide_eq_true (by first | (with_reducible assumption) | assumption); have hx42 := bt_at a0 x7_2; replace p42 := eq_true p42; replace q42 := eq_true q42; have p49 : 0 ≤ (x7_2 : Int) := of_decide_eq_true (by first | (with_reducible assumption) | assumption); have q49 : x7_2 < (a0.size : Int) := of_decide_eq_true (by first | (with_reducible assumption) | assumption); have hx49 := bt_at a0 x7_2; replace p49 := eq_true p49; replace q49 := eq_true q49) | ((with_reducible refine gate_builtin (b := .append) (xs := #[.tmp 77, .tmp 84]) rfl ?_); (try (refine gate_guard (by rfl) ?_; dsimp only)); at_builtin; refine Kd.R_append k38 (w0 := w) w.heap.size rfl (.tmp 77) (.tmp 84) 35 38 (.agg #[(.string ⟨#[]⟩), (.int .i64 0)]) 24 rfl Tryd.underlying35 info38 rfl (by decide) (by omega) u4 x4_1 (⟨a0.extract (x5_1 : Int).toNat (x7_2 : Int).toNat, x5_1⟩ : S38) [.string (a0.extract (x5_1 : Int).toNat (x7_2 : Int).toNat), .int .i64 x5_1] (fun _ => True) (fun _ => False) rfl rfl ?aP (fun _ hk => hk.elim) ?aF ?aO ?aB ?aS ?aL ?_; (case aP => exact k38_mkM _ _ _ (⟨a0.extract (x5_1 : Int).toNat (x7_2 : Int).toNat, x5_1⟩ : S38)); (case aB => exact (by repeat (first | (with_reducible first | exact HB.out | apply below_alloc | apply pw_below_drewN | apply below_drew1) | exact HB.out))); (case aF => exact (fun _ _ => trivial)); (case aO => exact (by (with_reducible repeat (first | apply Kd.R_alloc | apply Kd.R_drewN | apply Kd.R_drew)); exact HO_4.out)); (case aS => exact (below_size (by repeat (first | (with_reducible first | exact HB.out | apply below_alloc | apply pw_below_drewN | apply below_drew1) | exact HB.out)))); (case aL => have := LMc54.out; omega); intro v213 w55 ho hb hg hat; rw [← Ny212.out] at ho; have n0_ := Aside0.mk (hb); have n1_ := Aside0.mk (ho); clear HB; clear HO_4; have HB := n0_; have HO214 := n1_; clear n0_ n1_; clear ho hb hg hat))
                                            go_roundg k2
                                            case measure => have := HK1.out; have := HK2.out; omega
                                            case rel => exact ⟨(y212), (x7_2), (by first | rfl | (simp; done) | (simp [*]; done)), H', ⟨by have := HK1.out; have := HK2.out; omega⟩, ⟨by (with_reducible repeat (first | apply Kd.R_alloc | apply Kd.R_drewN | apply Kd.R_drew)); exact HO214.out⟩, ⟨by repeat (first | (with_reducible first | exact HB.out | apply below_alloc | apply pw_below_drewN | apply below_drew1) | exact HB.out)⟩⟩
                                          · rw [if_neg c54] at H
                                            exact absurd H (by simp)
                                        · rw [if_neg c53] at H
                                          exact absurd H (by simp)
                                      · rw [if_neg c52] at H
                                        exact absurd H (by simp)
                                    · rw [if_neg c51] at H
                                      exact absurd H (by simp)
                                  · rw [if_neg c50] at H
                                    have c50b0 : ((bt a0 x7_2) == 41) = false := beq_eq_false_iff_ne.mpr c50
                                    have c50b1 : ((bt a0 x7_2) != 41) = true := bne_iff_ne.mpr c50
                                    have H' := Aside0.mk H
                                    clear H
                                    have p27 : 0 ≤ (x7_2 : Int) := of_decide_eq_true (by first | (with_reducible assumption) | assumption)
                                    have q27 : x7_2 < (a0.size : Int) := of_decide_eq_true (by first | (with_reducible assumption) | assumption)
                                    have hx27 := bt_at a0 x7_2
                                    replace p27 := eq_true p27
                                    replace q27 := eq_true q27
                                    go_wp2_with (first | (go_at_call 19; (with_reducible refine (gristmillref1_space.calls (bt a0 x7_2) false _ A28.out).mono ?_); rintro e w' ⟨rfl, ⟨nd, rfl⟩⟩; have p35 : 0 ≤ (x7_2 : Int) := of_decide_eq_true (by first | (with_reducible assumption) | assumption); have q35 : x7_2 < (a0.size : Int) := of_decide_eq_true (by first | (with_reducible assumption) | assumption); have hx35 := bt_at a0 x7_2; replace p35 := eq_true p35; replace q35 := eq_true q35; have p42 : 0 ≤ (x7_2 : Int) := of_decide_eq_true (by first | (with_reducible assumption) | assumption); have q42 : x7_2 < (a0.size : Int) := of_decide_eq_true (by first | (with_reducible assumption) | assumption); have hx42 := bt_at a0 x7_2; replace p42 := eq_true p42; replace q42 := eq_true q42; have p49 : 0 ≤ (x7_2 : Int) := of_decide_eq_true (by first | (with_reducible assumption) | assumption); have q49 : x7_2 < (a0.size : Int) := of_decide_eq_true (by first | (with_reducible assumption) | assumption); have hx49 := bt_at a0 x7_2; replace p49 := eq_true p49; replace q49 := eq_true q49))
                                    go_roundg k2
                                    case measure => have := HK1.out; have := HK2.out; omega
                                    case rel => exact ⟨(wrap64 (x7_2 + 1)), (by first | rfl | (simp; done) | (simp [*]; done)), H', ⟨by have := HK1.out; have := HK2.out; omega⟩, ⟨by (with_reducible repeat (first | apply Kd.R_alloc | apply Kd.R_drewN | apply Kd.R_drew)); exact HO_4.out⟩, ⟨by repeat (first | (with_reducible first | exact HB.out | apply below_alloc | apply pw_below_drewN | apply below_drew1) | exact HB.out)⟩⟩
                          · rw [if_neg c26] at H
                            exact absurd H (by simp)
                        · rw [if_neg c25] at H
                          have c25b0 : decide (x7_2 < (a0.size : Int)) = false := decide_eq_false c25
                          clear c25
                          by_cases c56 : 0 ≤ x5_1
                          · rw [if_pos c56] at H
                            have c56b0 := eq_true c56
                            have c56b1 : decide (0 ≤ x5_1) = true := decide_eq_true c56
                            clear c56
                            by_cases c57 : x5_1 ≤ x7_2
                            · rw [if_pos c57] at H
                              have c57b0 := eq_true c57
                              have c57b1 : decide (x5_1 ≤ x7_2) = true := decide_eq_true c57
                              clear c57
                              by_cases c58 : x7_2 ≤ (a0.size : Int)
                              · rw [if_pos c58] at H
                                have c58b0 := eq_true c58
                                have c58b1 : decide (x7_2 ≤ (a0.size : Int)) = true := decide_eq_true c58
                                clear c58
                                by_cases c59 : x4_1.length < 5864062014805
                                · rw [if_pos c59] at H
                                  have LMc59 := Aside0.mk c59
                                  clear c59
                                  obtain ⟨y215, hy215⟩ : ∃ y_ : List (S38), y_ = (x4_1 ++ [(⟨a0.extract (x5_1 : Int).toNat (x7_2 : Int).toNat, x5_1⟩ : S38)]) := ⟨_, rfl⟩
                                  replace H : (gristmillref1_Words.l0 k2 a0 y215 x7_2) = some (r1, r2) := by first | (rw [hy215]; with_reducible exact H) | (have H2_ := (Option.bind_some _ _).symm.trans H; rw [hy215]; with_reducible exact H2_) | (have H2_ := (Option.bind_some _ _).symm.trans H; with_reducible exact H2_) | with_reducible exact H | (rw [hy215]; exact H) | exact H
                                  have Ny215 := Aside0.mk hy215
                                  clear hy215
                                  have H' := Aside0.mk H
                                  clear H
                                  go_wp2_with (first | ((with_reducible refine gate_builtin (b := .append) (xs := #[.tmp 77, .tmp 84]) rfl ?_); (try (refine gate_guard (by rfl) ?_; dsimp only)); at_builtin; refine Kd.R_append k38 (w0 := w) w.heap.size rfl (.tmp 77) (.tmp 84) 35 38 (.agg #[(.string ⟨#[]⟩), (.int .i64 0)]) 24 rfl Tryd.underlying35 info38 rfl (by decide) (by omega) u4 x4_1 (⟨a0.extract (x5_1 : Int).toNat (x7_2 : Int).toNat, x5_1⟩ : S38) [.string (a0.extract (x5_1 : Int).toNat (x7_2 : Int).toNat), .int .i64 x5_1] (fun _ => True) (fun _ => False) rfl rfl ?aP (fun _ hk => hk.elim) ?aF ?aO ?aB ?aS ?aL ?_; (case aP => exact k38_mkM _ _ _ (⟨a0.extract (x5_1 : Int).toNat (x7_2 : Int).toNat, x5_1⟩ : S38)); (case aB => exact (by repeat (first | (with_reducible first | exact HB.out | apply below_alloc | apply pw_below_drewN | apply below_drew1) | exact HB.out))); (case aF => exact (fun _ _ => trivial)); (case aO => exact (by (with_reducible repeat (first | apply Kd.R_alloc | apply Kd.R_drewN | apply Kd.R_drew)); exact HO_4.out)); (case aS => exact (below_size (by repeat (first | (with_reducible first | exact HB.out | apply below_alloc | apply pw_below_drewN | apply below_drew1) | exact HB.out)))); (case aL => have := LMc59.out; omega); intro v216 w60 ho hb hg hat; rw [← Ny215.out] at ho; have n0_ := Aside0.mk (hb); have n1_ := Aside0.mk (ho); clear HB; clear HO_4; have HB := n0_; have HO217 := n1_; clear n0_ n1_; clear ho hb hg hat))
                                  go_roundg k2
                                  case measure => have := HK1.out; have := HK2.out; omega
                                  case rel => exact ⟨(y215), (x7_2), (by first | rfl | (simp; done) | (simp [*]; done)), H', ⟨by have := HK1.out; have := HK2.out; omega⟩, ⟨by (with_reducible repeat (first | apply Kd.R_alloc | apply Kd.R_drewN | apply Kd.R_drew)); exact HO217.out⟩, ⟨by repeat (first | (with_reducible first | exact HB.out | apply below_alloc | apply pw_below_drewN | apply below_drew1) | exact HB.out)⟩⟩
                                · rw [if_neg c59] at H
                                  exact absurd H (by simp)
                              · rw [if_neg c58] at H
                                exact absurd H (by simp)
                            · rw [if_neg c57] at H
                              exact absurd H (by simp)
                          · rw [if_neg c56] at H
                            exact absurd H (by simp)
          · rw [if_neg c4] at H
            exact absurd H (by simp)
        · rw [if_neg c3] at H
          have c3b0 : decide (x5_1 < (a0.size : Int)) = false := decide_eq_false c3
          clear c3
          simp only [Option.some.injEq, Prod.mk.injEq] at H
          obtain ⟨rfl, rfl⟩ := H
          go_wp2
          go_ret2
          exact ⟨_, by first | rfl | (simp [errW_none, errW_some] <;> rfl) | (simp [*, errW_none, errW_some] <;> rfl), by (with_reducible repeat (first | apply Kd.R_alloc | apply Kd.R_drewN | apply Kd.R_drew)); exact HO_4.out, by repeat (first | (with_reducible first | exact HB.out | apply below_alloc | apply pw_below_drewN | apply below_drew1) | exact HB.out)⟩

/-! ### lex_small: function 20 -/
def lex_small.f (a0 : Int) : Option (Bool) := if a0 ≥ 97 then (some (decide (a0 ≤ 122))) else (some false)
set_option maxHeartbeats 8000000 in
set_option maxRecDepth 100000 in
theorem lex_small.calls (a0 : Int) (r : Bool) (w : World) (h : lex_small.f a0 = some r) :
    Calls Tryd.prog 20 #[.int .u8 a0] w fun e w' => e = .returned (.bool r) ∧ Drawn0 w w' := by
  have H : (if a0 ≥ 97 then (some (decide (a0 ≤ 122))) else (some false)) = some r := h
  clear h
  by_cases c2 : a0 ≥ 97
  · rw [if_pos c2] at H
    have c2b0 : decide (97 ≤ a0) = true := decide_eq_true c2
    clear c2
    obtain rfl := Option.some.inj H
    go_enter Tryd.func20, Tryd.ntmps20
    go_wp2
    go_ret
    exact ⟨by first | rfl | (simp; done) | (simp [*]; done), by repeat (first | exact Drawn0.refl _ | apply Drawn0.step)⟩
  · rw [if_neg c2] at H
    have c2b0 : decide (97 ≤ a0) = false := decide_eq_false c2
    clear c2
    obtain rfl := Option.some.inj H
    go_enter Tryd.func20, Tryd.ntmps20
    go_wp2
    go_ret
    exact ⟨by first | rfl | (simp; done) | (simp [*]; done), by repeat (first | exact Drawn0.refl _ | apply Drawn0.step)⟩

/-! ### lex_great: function 25 -/
def lex_great.f (a0 : Int) : Option (Bool) := if a0 ≥ 65 then (some (decide (a0 ≤ 90))) else (some false)
set_option maxHeartbeats 8000000 in
set_option maxRecDepth 100000 in
theorem lex_great.calls (a0 : Int) (r : Bool) (w : World) (h : lex_great.f a0 = some r) :
    Calls Tryd.prog 25 #[.int .u8 a0] w fun e w' => e = .returned (.bool r) ∧ Drawn0 w w' := by
  have H : (if a0 ≥ 65 then (some (decide (a0 ≤ 90))) else (some false)) = some r := h
  clear h
  by_cases c2 : a0 ≥ 65
  · rw [if_pos c2] at H
    have c2b0 : decide (65 ≤ a0) = true := decide_eq_true c2
    clear c2
    obtain rfl := Option.some.inj H
    go_enter Tryd.func25, Tryd.ntmps25
    go_wp2
    go_ret
    exact ⟨by first | rfl | (simp; done) | (simp [*]; done), by repeat (first | exact Drawn0.refl _ | apply Drawn0.step)⟩
  · rw [if_neg c2] at H
    have c2b0 : decide (65 ≤ a0) = false := decide_eq_false c2
    clear c2
    obtain rfl := Option.some.inj H
    go_enter Tryd.func25, Tryd.ntmps25
    go_wp2
    go_ret
    exact ⟨by first | rfl | (simp; done) | (simp [*]; done), by repeat (first | exact Drawn0.refl _ | apply Drawn0.step)⟩

/-! ### lex_digit: function 28 -/
def lex_digit.f (a0 : Int) : Option (Bool) := if a0 ≥ 48 then (some (decide (a0 ≤ 57))) else (some false)
set_option maxHeartbeats 8000000 in
set_option maxRecDepth 100000 in
theorem lex_digit.calls (a0 : Int) (r : Bool) (w : World) (h : lex_digit.f a0 = some r) :
    Calls Tryd.prog 28 #[.int .u8 a0] w fun e w' => e = .returned (.bool r) ∧ Drawn0 w w' := by
  have H : (if a0 ≥ 48 then (some (decide (a0 ≤ 57))) else (some false)) = some r := h
  clear h
  by_cases c2 : a0 ≥ 48
  · rw [if_pos c2] at H
    have c2b0 : decide (48 ≤ a0) = true := decide_eq_true c2
    clear c2
    obtain rfl := Option.some.inj H
    go_enter Tryd.func28, Tryd.ntmps28
    go_wp2
    go_ret
    exact ⟨by first | rfl | (simp; done) | (simp [*]; done), by repeat (first | exact Drawn0.refl _ | apply Drawn0.step)⟩
  · rw [if_neg c2] at H
    have c2b0 : decide (48 ≤ a0) = false := decide_eq_false c2
    clear c2
    obtain rfl := Option.some.inj H
    go_enter Tryd.func28, Tryd.ntmps28
    go_wp2
    go_ret
    exact ⟨by first | rfl | (simp; done) | (simp [*]; done), by repeat (first | exact Drawn0.refl _ | apply Drawn0.step)⟩

end Go.Proofs.YtiacndjjppcaoaaDoor.PLex
