/- For each Go function that the laws of this group reach: a plain function with the same answers, and the proof that the call comes to them wherever the plain function has an answer. No other condition. (Laid by a program of this session.) -/
import Derived.Test.YthbiofcgaegjkaaDoorPTreeLx0
import Derived.Test.YthbiofcgaegjkaaDoorExtE
namespace Go.Proofs.YthbiofcgaegjkaaDoor.PTreeL
open Go.RowKit Go.Proofs.YthbiofcgaegjkaaDoorW.PrintWords Go.Proofs.YthbiofcgaegjkaaDoorW.PrintLast Go.Proofs.YthbiofcgaegjkaaDoorW.PrintMore Go.Proofs.YthbiofcgaegjkaaDoor.ExtE
attribute [local go_sem] max2_int min2_int max_two min_two max_three min_three max_four min_four   -- for this text's walks alone
set_option linter.unusedVariables false
set_option linter.unusedSimpArgs false

variable {ad : Int → Addr}
/-! ### lex_apart: function 23 -/
def lex_apart.f (a0 : Int) : Option (Bool) := if a0 = 32 then (some true) else (if a0 = 9 then (some true) else (if a0 = 10 then (some true) else (some (a0 == 13))))
set_option maxHeartbeats 8000000 in
set_option maxRecDepth 100000 in
theorem lex_apart.calls (a0 : Int) (r : Bool) (w : World) (h : lex_apart.f a0 = some r) :
    Calls Tryd.prog 23 #[.int .u8 a0] w fun e w' => e = .returned (.bool r) ∧ Drawn0 w w' := by
  have H : (if a0 = 32 then (some true) else (if a0 = 9 then (some true) else (if a0 = 10 then (some true) else (some (a0 == 13))))) = some r := h
  clear h
  by_cases c2 : a0 = 32
  · rw [if_pos c2] at H
    have c2b0 : (a0 == 32) = true := beq_iff_eq.mpr c2
    have c2b1 : (a0 != 32) = false := bne_eq_false_iff_eq.mpr c2
    clear c2
    obtain rfl := Option.some.inj H
    go_enter Tryd.func23, Tryd.ntmps23
    go_wp2
    go_ret
    exact ⟨by first | rfl | (simp; done) | (simp [*]; done), by repeat (first | exact Drawn0.refl _ | apply Drawn0.step)⟩
  · rw [if_neg c2] at H
    have c2b0 : (a0 == 32) = false := beq_eq_false_iff_ne.mpr c2
    have c2b1 : (a0 != 32) = true := bne_iff_ne.mpr c2
    by_cases c3 : a0 = 9
    · rw [if_pos c3] at H
      have c3b0 : (a0 == 9) = true := beq_iff_eq.mpr c3
      have c3b1 : (a0 != 9) = false := bne_eq_false_iff_eq.mpr c3
      clear c3
      obtain rfl := Option.some.inj H
      go_enter Tryd.func23, Tryd.ntmps23
      go_wp2
      go_ret
      exact ⟨by first | rfl | (simp; done) | (simp [*]; done), by repeat (first | exact Drawn0.refl _ | apply Drawn0.step)⟩
    · rw [if_neg c3] at H
      have c3b0 : (a0 == 9) = false := beq_eq_false_iff_ne.mpr c3
      have c3b1 : (a0 != 9) = true := bne_iff_ne.mpr c3
      by_cases c4 : a0 = 10
      · rw [if_pos c4] at H
        have c4b0 : (a0 == 10) = true := beq_iff_eq.mpr c4
        have c4b1 : (a0 != 10) = false := bne_eq_false_iff_eq.mpr c4
        clear c4
        obtain rfl := Option.some.inj H
        go_enter Tryd.func23, Tryd.ntmps23
        go_wp2
        go_ret
        exact ⟨by first | rfl | (simp; done) | (simp [*]; done), by repeat (first | exact Drawn0.refl _ | apply Drawn0.step)⟩
      · rw [if_neg c4] at H
        have c4b0 : (a0 == 10) = false := beq_eq_false_iff_ne.mpr c4
        have c4b1 : (a0 != 10) = true := bne_iff_ne.mpr c4
        obtain rfl := Option.some.inj H
        go_enter Tryd.func23, Tryd.ntmps23
        go_wp2
        go_ret
        exact ⟨by first | rfl | (simp; done) | (simp [*]; done), by repeat (first | exact Drawn0.refl _ | apply Drawn0.step)⟩

/-! ### lex_round: function 24 -/
def lex_round.f (a0 : Int) : Option (Bool) := if a0 = 40 then (some true) else (some (a0 == 41))
set_option maxHeartbeats 8000000 in
set_option maxRecDepth 100000 in
theorem lex_round.calls (a0 : Int) (r : Bool) (w : World) (h : lex_round.f a0 = some r) :
    Calls Tryd.prog 24 #[.int .u8 a0] w fun e w' => e = .returned (.bool r) ∧ Drawn0 w w' := by
  have H : (if a0 = 40 then (some true) else (some (a0 == 41))) = some r := h
  clear h
  by_cases c2 : a0 = 40
  · rw [if_pos c2] at H
    have c2b0 : (a0 == 40) = true := beq_iff_eq.mpr c2
    have c2b1 : (a0 != 40) = false := bne_eq_false_iff_eq.mpr c2
    clear c2
    obtain rfl := Option.some.inj H
    go_enter Tryd.func24, Tryd.ntmps24
    go_wp2
    go_ret
    exact ⟨by first | rfl | (simp; done) | (simp [*]; done), by repeat (first | exact Drawn0.refl _ | apply Drawn0.step)⟩
  · rw [if_neg c2] at H
    have c2b0 : (a0 == 40) = false := beq_eq_false_iff_ne.mpr c2
    have c2b1 : (a0 != 40) = true := bne_iff_ne.mpr c2
    obtain rfl := Option.some.inj H
    go_enter Tryd.func24, Tryd.ntmps24
    go_wp2
    go_ret
    exact ⟨by first | rfl | (simp; done) | (simp [*]; done), by repeat (first | exact Drawn0.refl _ | apply Drawn0.step)⟩

/-! ### lex_Words: function 15 -/
mutual
def lex_Words.l0 : Nat → ByteArray → List (S46) → Int → Option ((List (S46)) × Option Int)
  | 0, _, _, _ => none
  | k + 1, x0, x4, x5 => if x5 < (x0.size : Int) then (if 0 ≤ x5 then ((lex_apart.f (bt x0 x5)).bind fun t101 => (if t101 = true then (lex_Words.l0 k x0 x4 (wrap64 (x5 + 1))) else (if (bt x0 x5) = 59 then (lex_Words.l1 k x0 x4 x5) else ((lex_round.f (bt x0 x5)).bind fun t102 => (if t102 = true then (if x5 ≤ (wrap64 (x5 + 1)) then (if (wrap64 (x5 + 1)) ≤ (x0.size : Int) then (if x4.length < 5864062014805 then (lex_Words.l0 k x0 (x4 ++ [(⟨x0.extract (x5 : Int).toNat ((wrap64 (x5 + 1)) : Int).toNat, x5⟩ : S46)]) (wrap64 (x5 + 1))) else (none)) else (none)) else (none)) else (lex_Words.l2 k x0 x4 x5 x5)))))) else (none)) else (some (x4, none))
def lex_Words.l1 : Nat → ByteArray → List (S46) → Int → Option ((List (S46)) × Option Int)
  | 0, _, _, _ => none
  | k + 1, x0, x4, x5 => if x5 < (x0.size : Int) then (if 0 ≤ x5 then (if (bt x0 x5) = 10 then (lex_Words.l0 k x0 x4 x5) else (lex_Words.l1 k x0 x4 (wrap64 (x5 + 1)))) else (none)) else (lex_Words.l0 k x0 x4 x5)
def lex_Words.l2 : Nat → ByteArray → List (S46) → Int → Int → Option ((List (S46)) × Option Int)
  | 0, _, _, _, _ => none
  | k + 1, x0, x4, x5, x6 => if x5 < (x0.size : Int) then (if 0 ≤ x5 then ((lex_apart.f (bt x0 x5)).bind fun t106 => (if t106 = true then (if 0 ≤ x6 then (if x6 ≤ x5 then (if x5 ≤ (x0.size : Int) then (if x4.length < 5864062014805 then (lex_Words.l0 k x0 (x4 ++ [(⟨x0.extract (x6 : Int).toNat (x5 : Int).toNat, x6⟩ : S46)]) x5) else (none)) else (none)) else (none)) else (none)) else ((lex_round.f (bt x0 x5)).bind fun t110 => (if t110 = true then (if 0 ≤ x6 then (if x6 ≤ x5 then (if x5 ≤ (x0.size : Int) then (if x4.length < 5864062014805 then (lex_Words.l0 k x0 (x4 ++ [(⟨x0.extract (x6 : Int).toNat (x5 : Int).toNat, x6⟩ : S46)]) x5) else (none)) else (none)) else (none)) else (none)) else (if (bt x0 x5) = 59 then (if 0 ≤ x6 then (if x6 ≤ x5 then (if x5 ≤ (x0.size : Int) then (if x4.length < 5864062014805 then (lex_Words.l0 k x0 (x4 ++ [(⟨x0.extract (x6 : Int).toNat (x5 : Int).toNat, x6⟩ : S46)]) x5) else (none)) else (none)) else (none)) else (none)) else (lex_Words.l2 k x0 x4 (wrap64 (x5 + 1)) x6)))))) else (none)) else (if 0 ≤ x6 then (if x6 ≤ x5 then (if x5 ≤ (x0.size : Int) then (if x4.length < 5864062014805 then (lex_Words.l0 k x0 (x4 ++ [(⟨x0.extract (x6 : Int).toNat (x5 : Int).toNat, x6⟩ : S46)]) x5) else (none)) else (none)) else (none)) else (none))
end
def lex_Words.f (k : Nat) (a0 : ByteArray) : Option ((List (S46)) × Option Int) := if (a0.size : Int) > 65536 then (some (([] : List (S46)), some 104)) else (lex_Words.l0 k a0 ([] : List (S46)) 0)
theorem lex_Words.mono_l : ∀ k, (∀ y0 y1 y2, LeO (lex_Words.l0 k y0 y1 y2) (lex_Words.l0 (k + 1) y0 y1 y2)) ∧ (∀ y0 y1 y2, LeO (lex_Words.l1 k y0 y1 y2) (lex_Words.l1 (k + 1) y0 y1 y2)) ∧ (∀ y0 y1 y2 y3, LeO (lex_Words.l2 k y0 y1 y2 y3) (lex_Words.l2 (k + 1) y0 y1 y2 y3))
  | 0 => ⟨fun _ _ _ r h => by simp [lex_Words.l0] at h, fun _ _ _ r h => by simp [lex_Words.l1] at h, fun _ _ _ _ r h => by simp [lex_Words.l2] at h⟩
  | k + 1 => by
    obtain ⟨ih0, ih1, ih2⟩ := lex_Words.mono_l k
    refine ⟨?_, ?_, ?_⟩
    · intro y0 y1 y2
      unfold lex_Words.l0
      repeat' first
      | (with_reducible exact ih0 _ _ _)
      | (with_reducible exact ih1 _ _ _)
      | (with_reducible exact ih2 _ _ _ _)
      | (with_reducible exact LeO.refl _)
      | (with_reducible exact LeO.none _)
      | (with_reducible refine LeO.ite ?_ ?_)
      | (with_reducible refine LeO.bind ?_ (fun _ => ?_))
      | exact ih0 _ _ _
      | exact ih1 _ _ _
      | exact ih2 _ _ _ _
      | exact LeO.none _
      | refine LeO.ite ?_ ?_
      | refine LeO.bind ?_ (fun _ => ?_)
    · intro y0 y1 y2
      unfold lex_Words.l1
      repeat' first
      | (with_reducible exact ih0 _ _ _)
      | (with_reducible exact ih1 _ _ _)
      | (with_reducible exact ih2 _ _ _ _)
      | (with_reducible exact LeO.refl _)
      | (with_reducible exact LeO.none _)
      | (with_reducible refine LeO.ite ?_ ?_)
      | (with_reducible refine LeO.bind ?_ (fun _ => ?_))
      | exact ih0 _ _ _
      | exact ih1 _ _ _
      | exact ih2 _ _ _ _
      | exact LeO.none _
      | refine LeO.ite ?_ ?_
      | refine LeO.bind ?_ (fun _ => ?_)
    · intro y0 y1 y2 y3
      unfold lex_Words.l2
      repeat' first
      | (with_reducible exact ih0 _ _ _)
      | (with_reducible exact ih1 _ _ _)
      | (with_reducible exact ih2 _ _ _ _)
      | (with_reducible exact LeO.refl _)
      | (with_reducible exact LeO.none _)
      | (with_reducible refine LeO.ite ?_ ?_)
      | (with_reducible refine LeO.bind ?_ (fun _ => ?_))
      | exact ih0 _ _ _
      | exact ih1 _ _ _
      | exact ih2 _ _ _ _
      | exact LeO.none _
      | refine LeO.ite ?_ ?_
      | refine LeO.bind ?_ (fun _ => ?_)
theorem lex_Words.mono : ∀ a0 k, LeO (lex_Words.f k a0) (lex_Words.f (k + 1) a0) := by
  intro a0 k
  obtain ⟨ih0, ih1, ih2⟩ := lex_Words.mono_l k
  unfold lex_Words.f
  repeat' first
      | (with_reducible exact ih0 _ _ _)
      | (with_reducible exact ih1 _ _ _)
      | (with_reducible exact ih2 _ _ _ _)
      | (with_reducible exact LeO.refl _)
      | (with_reducible exact LeO.none _)
      | (with_reducible refine LeO.ite ?_ ?_)
      | (with_reducible refine LeO.bind ?_ (fun _ => ?_))
      | exact ih0 _ _ _
      | exact ih1 _ _ _
      | exact ih2 _ _ _ _
      | exact LeO.none _
      | refine LeO.ite ?_ ?_
      | refine LeO.bind ?_ (fun _ => ?_)
set_option maxHeartbeats 8000000 in
set_option maxRecDepth 100000 in
theorem lex_Words.calls (k : Nat) (a0 : ByteArray) (r1 : List (S46)) (r2 : Option Int) (w : World) (hGG : GG ad w) (h : lex_Words.f k a0 = some (r1, r2)) :
    Calls Tryd.prog 15 #[.string a0] w fun e w' => ∃ v0_ : Value, e = .returned (.tuple #[v0_, errW ad r2]) ∧ Kd.R k46 46 w' w.heap.size (fun _ => True) v0_ r1 ∧ Below w.heap.size w w' := by
  have hu46 := Tryd.underlying46
  have hgl3 := hGG.many
  have HB := Aside0.mk (Below.refl w.heap.size w)
  have H : (if (a0.size : Int) > 65536 then (some (([] : List (S46)), some 104)) else (lex_Words.l0 k a0 ([] : List (S46)) 0)) = some (r1, r2) := h
  clear h
  by_cases c2 : (a0.size : Int) > 65536
  · rw [if_pos c2] at H
    have c2b0 : decide (65536 < (a0.size : Int)) = true := decide_eq_true c2
    have c2b1 : decide (65536 < a0.size) = true := decide_eq_true (by omega)
    clear c2
    simp only [Option.some.injEq, Prod.mk.injEq] at H
    obtain ⟨rfl, rfl⟩ := H
    go_enter Tryd.func15, Tryd.ntmps15
    go_wp2
    repeat (go_quiet (fail); try go_wp2)
    go_ret2
    exact ⟨_, by first | rfl | (simp [errW_none, errW_some] <;> rfl) | (simp [*, errW_none, errW_some] <;> rfl) | (simp [errW_none, errW_some] <;> (rw [Bool.eq_iff_iff]; simp; done)), by first | exact Kd.R_nil _ _ _ _ _ | exact Kd.N_nil _ _ _ _ _ | exact Kd.V_nil _ _ _ _ _ | exact Kd.Q_nil _ _ _ _ _ | exact Kd.S_nil _ _ _ _ _, by repeat (first | (with_reducible first | exact HB.out | apply below_alloc | apply pw_below_drewN | apply below_drew1) | exact HB.out)⟩
  · rw [if_neg c2] at H
    have c2b0 : decide (65536 < (a0.size : Int)) = false := decide_eq_false c2
    have c2b1 : decide (65536 < a0.size) = false := decide_eq_false (by omega)
    clear c2
    have H' := Aside0.mk H
    clear H
    go_enter Tryd.func15, Tryd.ntmps15
    go_wp2
    repeat (go_quiet (fail); try go_wp2)
    go_loopg [4, 5] k (fun kq v4 v5 w' => ∃ (x4_1 : List (S46)) (x5_1 : Int), v5 = .int .i64 x5_1 ∧ Aside0 (lex_Words.l0 kq a0 x4_1 x5_1 = some (r1, r2)) ∧ Aside0 (kq ≤ k) ∧ Aside0 (Kd.R k46 46 w' w.heap.size (fun _ => True) v4 x4_1) ∧ Aside0 (Below w.heap.size w w'))
    case atStart => exact ⟨(([] : List (S46))), (0), (by first | rfl | (simp; done) | (simp [*]; done)), H', ⟨Nat.le_refl _⟩, ⟨by first | exact Kd.R_nil _ _ _ _ _ | exact Kd.N_nil _ _ _ _ _ | exact Kd.V_nil _ _ _ _ _ | exact Kd.Q_nil _ _ _ _ _ | exact Kd.S_nil _ _ _ _ _⟩, ⟨by repeat (first | (with_reducible first | exact HB.out | apply below_alloc | apply pw_below_drewN | apply below_drew1) | exact HB.out)⟩⟩
    case round =>
      clear H'
      try clear c1
      try clear c2
      try clear c2b0
      try clear c2b1
      try clear p2
      obtain ⟨x4_1, x5_1, rfl, HA, HK1, HO_4, HB⟩ := hrel
      cases gk with
      | zero => exact absurd HA.out (by simp [lex_Words.l0])
      | succ k1 =>
        have H := HA.out
        clear HA
        simp only [lex_Words.l0] at H
        by_cases c3 : x5_1 < (a0.size : Int)
        · rw [if_pos c3] at H
          have c3b0 : decide (x5_1 < (a0.size : Int)) = true := decide_eq_true c3
          clear c3
          by_cases c4 : 0 ≤ x5_1
          · rw [if_pos c4] at H
            have c4b0 : decide (0 ≤ x5_1) = true := decide_eq_true c4
            clear c4
            replace H := Option.bind_eq_some_iff.mp H
            obtain ⟨t101, A60, H⟩ := H
            replace H : (if t101 = true then (lex_Words.l0 k1 a0 x4_1 (wrap64 (x5_1 + 1))) else (if (bt a0 x5_1) = 59 then (lex_Words.l1 k1 a0 x4_1 x5_1) else ((lex_round.f (bt a0 x5_1)).bind fun t102 => (if t102 = true then (if x5_1 ≤ (wrap64 (x5_1 + 1)) then (if (wrap64 (x5_1 + 1)) ≤ (a0.size : Int) then (if x4_1.length < 5864062014805 then (lex_Words.l0 k1 a0 (x4_1 ++ [(⟨a0.extract (x5_1 : Int).toNat ((wrap64 (x5_1 + 1)) : Int).toNat, x5_1⟩ : S46)]) (wrap64 (x5_1 + 1))) else (none)) else (none)) else (none)) else (lex_Words.l2 k1 a0 x4_1 x5_1 x5_1))))) = some (r1, r2) := H
            have A6 := Aside0.mk A60
            clear A60
            by_cases c7 : t101 = true
            · subst c7
              have H1 : (lex_Words.l0 k1 a0 x4_1 (wrap64 (x5_1 + 1))) = some (r1, r2) := by rw [if_pos rfl] at H; exact H
              clear H
              have H := H1
              clear H1
              have H' := Aside0.mk H
              clear H
              have p5 : 0 ≤ (x5_1 : Int) := of_decide_eq_true (by first | (with_reducible assumption) | assumption)
              have q5 : x5_1 < (a0.size : Int) := of_decide_eq_true (by first | (with_reducible assumption) | assumption)
              have hx5 := bt_at a0 x5_1
              replace p5 := eq_true p5
              replace q5 := eq_true q5
              go_wp2_with (first | (go_at_call 23; (with_reducible refine (lex_apart.calls (bt a0 x5_1) true _ A6.out).mono ?_); rintro e w' ⟨rfl, ⟨nd, rfl⟩⟩; (try first | exact ⟨rfl, _, World.drewN_drewN _ _ _⟩ | exact ⟨rfl, _, Eq.trans (World.drewN_drewN _ _ _) (congrArg (World.drewN _) (Nat.add_assoc _ _ _))⟩)))
              repeat (go_quiet (first | (go_at_call 23; (with_reducible refine (lex_apart.calls (bt a0 x5_1) true _ A6.out).mono ?_); rintro e w' ⟨rfl, ⟨nd, rfl⟩⟩; (try first | exact ⟨rfl, _, World.drewN_drewN _ _ _⟩ | exact ⟨rfl, _, Eq.trans (World.drewN_drewN _ _ _) (congrArg (World.drewN _) (Nat.add_assoc _ _ _))⟩))); try go_wp2_with (first | (go_at_call 23; (with_reducible refine (lex_apart.calls (bt a0 x5_1) true _ A6.out).mono ?_); rintro e w' ⟨rfl, ⟨nd, rfl⟩⟩; (try first | exact ⟨rfl, _, World.drewN_drewN _ _ _⟩ | exact ⟨rfl, _, Eq.trans (World.drewN_drewN _ _ _) (congrArg (World.drewN _) (Nat.add_assoc _ _ _))⟩))))
              go_roundg k1
              case measure => have := HK1.out; omega
              case rel => exact ⟨(x4_1), (wrap64 (x5_1 + 1)), (by first | rfl | (simp; done) | (simp [*]; done)), H', ⟨by have := HK1.out; omega⟩, ⟨by (with_reducible repeat (first | apply Kd.R_alloc | apply Kd.R_drewN | apply Kd.R_drew)); exact HO_4.out⟩, ⟨by repeat (first | (with_reducible first | exact HB.out | apply below_alloc | apply pw_below_drewN | apply below_drew1) | exact HB.out)⟩⟩
            · replace c7 := Bool.eq_false_iff.mpr c7
              subst c7
              have H1 : (if (bt a0 x5_1) = 59 then (lex_Words.l1 k1 a0 x4_1 x5_1) else ((lex_round.f (bt a0 x5_1)).bind fun t102 => (if t102 = true then (if x5_1 ≤ (wrap64 (x5_1 + 1)) then (if (wrap64 (x5_1 + 1)) ≤ (a0.size : Int) then (if x4_1.length < 5864062014805 then (lex_Words.l0 k1 a0 (x4_1 ++ [(⟨a0.extract (x5_1 : Int).toNat ((wrap64 (x5_1 + 1)) : Int).toNat, x5_1⟩ : S46)]) (wrap64 (x5_1 + 1))) else (none)) else (none)) else (none)) else (lex_Words.l2 k1 a0 x4_1 x5_1 x5_1)))) = some (r1, r2) := by rw [if_neg (show ¬ (false = true) by decide)] at H; exact H
              clear H
              have H := H1
              clear H1
              by_cases c8 : (bt a0 x5_1) = 59
              · rw [if_pos c8] at H
                have c8b0 : ((bt a0 x5_1) == 59) = true := beq_iff_eq.mpr c8
                have c8b1 : ((bt a0 x5_1) != 59) = false := bne_eq_false_iff_eq.mpr c8
                clear c8
                have H' := Aside0.mk H
                clear H
                have p5 : 0 ≤ (x5_1 : Int) := of_decide_eq_true (by first | (with_reducible assumption) | assumption)
                have q5 : x5_1 < (a0.size : Int) := of_decide_eq_true (by first | (with_reducible assumption) | assumption)
                have hx5 := bt_at a0 x5_1
                replace p5 := eq_true p5
                replace q5 := eq_true q5
                go_wp2_with (first | (go_at_call 23; (with_reducible refine (lex_apart.calls (bt a0 x5_1) false _ A6.out).mono ?_); rintro e w' ⟨rfl, ⟨nd, rfl⟩⟩; (try first | exact ⟨rfl, _, World.drewN_drewN _ _ _⟩ | exact ⟨rfl, _, Eq.trans (World.drewN_drewN _ _ _) (congrArg (World.drewN _) (Nat.add_assoc _ _ _))⟩)))
                repeat (go_quiet (first | (go_at_call 23; (with_reducible refine (lex_apart.calls (bt a0 x5_1) false _ A6.out).mono ?_); rintro e w' ⟨rfl, ⟨nd, rfl⟩⟩; (try first | exact ⟨rfl, _, World.drewN_drewN _ _ _⟩ | exact ⟨rfl, _, Eq.trans (World.drewN_drewN _ _ _) (congrArg (World.drewN _) (Nat.add_assoc _ _ _))⟩))); try go_wp2_with (first | (go_at_call 23; (with_reducible refine (lex_apart.calls (bt a0 x5_1) false _ A6.out).mono ?_); rintro e w' ⟨rfl, ⟨nd, rfl⟩⟩; (try first | exact ⟨rfl, _, World.drewN_drewN _ _ _⟩ | exact ⟨rfl, _, Eq.trans (World.drewN_drewN _ _ _) (congrArg (World.drewN _) (Nat.add_assoc _ _ _))⟩))))
                go_loopg [5] k1 (fun kq v5 w' => ∃ (x5_2 : Int), v5 = .int .i64 x5_2 ∧ Aside0 (lex_Words.l1 kq a0 x4_1 x5_2 = some (r1, r2)) ∧ Aside0 (kq ≤ k1) ∧ Aside0 (Kd.R k46 46 w' w.heap.size (fun _ => True) u4 x4_1) ∧ Aside0 (Below w.heap.size w w'))
                case atStart => exact ⟨(x5_1), (by first | rfl | (simp; done) | (simp [*]; done)), H', ⟨Nat.le_refl _⟩, ⟨by (with_reducible repeat (first | apply Kd.R_alloc | apply Kd.R_drewN | apply Kd.R_drew)); exact HO_4.out⟩, ⟨by repeat (first | (with_reducible first | exact HB.out | apply below_alloc | apply pw_below_drewN | apply below_drew1) | exact HB.out)⟩⟩
                case round =>
                  clear H'
                  try clear c1
                  try clear c2
                  try clear c2b0
                  try clear c2b1
                  try clear p2
                  try clear c3
                  try clear c3b0
                  try clear c4
                  try clear c4b0
                  try clear p5
                  try clear q5
                  try clear hx5
                  try clear p6
                  try clear c7
                  try clear c8
                  try clear c8b0
                  try clear c8b1
                  try clear p2
                  try clear p5
                  try clear q5
                  obtain ⟨x5_2, rfl, HA, HK2, HO_4, HB⟩ := hrel
                  cases gk with
                  | zero => exact absurd HA.out (by simp [lex_Words.l1])
                  | succ k2 =>
                    have H := HA.out
                    clear HA
                    simp only [lex_Words.l1] at H
                    by_cases c9 : x5_2 < (a0.size : Int)
                    · rw [if_pos c9] at H
                      have c9b0 : decide (x5_2 < (a0.size : Int)) = true := decide_eq_true c9
                      clear c9
                      by_cases c10 : 0 ≤ x5_2
                      · rw [if_pos c10] at H
                        have c10b0 : decide (0 ≤ x5_2) = true := decide_eq_true c10
                        clear c10
                        by_cases c12 : (bt a0 x5_2) = 10
                        · rw [if_pos c12] at H
                          have c12b0 : ((bt a0 x5_2) == 10) = true := beq_iff_eq.mpr c12
                          have c12b1 : ((bt a0 x5_2) != 10) = false := bne_eq_false_iff_eq.mpr c12
                          clear c12
                          have H' := Aside0.mk H
                          clear H
                          have p11 : 0 ≤ (x5_2 : Int) := of_decide_eq_true (by first | (with_reducible assumption) | assumption)
                          have q11 : x5_2 < (a0.size : Int) := of_decide_eq_true (by first | (with_reducible assumption) | assumption)
                          have hx11 := bt_at a0 x5_2
                          replace p11 := eq_true p11
                          replace q11 := eq_true q11
                          go_wp2
                          repeat (go_quiet (fail); try go_wp2)
                          go_roundg k2
                          case measure => have := HK1.out; have := HK2.out; omega
                          case rel => exact ⟨(x4_1), (x5_2), (by first | rfl | (simp; done) | (simp [*]; done)), H', ⟨by have := HK1.out; have := HK2.out; omega⟩, ⟨by (with_reducible repeat (first | apply Kd.R_alloc | apply Kd.R_drewN | apply Kd.R_drew)); exact HO_4.out⟩, ⟨by repeat (first | (with_reducible first | exact HB.out | apply below_alloc | apply pw_below_drewN | apply below_drew1) | exact HB.out)⟩⟩
                        · rw [if_neg c12] at H
                          have c12b0 : ((bt a0 x5_2) == 10) = false := beq_eq_false_iff_ne.mpr c12
                          have c12b1 : ((bt a0 x5_2) != 10) = true := bne_iff_ne.mpr c12
                          have H' := Aside0.mk H
                          clear H
                          have p11 : 0 ≤ (x5_2 : Int) := of_decide_eq_true (by first | (with_reducible assumption) | assumption)
                          have q11 : x5_2 < (a0.size : Int) := of_decide_eq_true (by first | (with_reducible assumption) | assumption)
                          have hx11 := bt_at a0 x5_2
                          replace p11 := eq_true p11
                          replace q11 := eq_true q11
                          go_wp2
                          repeat (go_quiet (fail); try go_wp2)
                          go_roundg k2
                          case measure => have := HK1.out; have := HK2.out; omega
                          case rel => exact ⟨(wrap64 (x5_2 + 1)), (by first | rfl | (simp; done) | (simp [*]; done)), H', ⟨by have := HK1.out; have := HK2.out; omega⟩, ⟨by (with_reducible repeat (first | apply Kd.R_alloc | apply Kd.R_drewN | apply Kd.R_drew)); exact HO_4.out⟩, ⟨by repeat (first | (with_reducible first | exact HB.out | apply below_alloc | apply pw_below_drewN | apply below_drew1) | exact HB.out)⟩⟩
                      · rw [if_neg c10] at H
                        exact absurd H (by simp)
                    · rw [if_neg c9] at H
                      have c9b0 : decide (x5_2 < (a0.size : Int)) = false := decide_eq_false c9
                      clear c9
                      have H' := Aside0.mk H
                      clear H
                      go_wp2
                      repeat (go_quiet (fail); try go_wp2)
                      go_roundg k2
                      case measure => have := HK1.out; have := HK2.out; omega
                      case rel => exact ⟨(x4_1), (x5_2), (by first | rfl | (simp; done) | (simp [*]; done)), H', ⟨by have := HK1.out; have := HK2.out; omega⟩, ⟨by (with_reducible repeat (first | apply Kd.R_alloc | apply Kd.R_drewN | apply Kd.R_drew)); exact HO_4.out⟩, ⟨by repeat (first | (with_reducible first | exact HB.out | apply below_alloc | apply pw_below_drewN | apply below_drew1) | exact HB.out)⟩⟩
              · rw [if_neg c8] at H
                have c8b0 : ((bt a0 x5_1) == 59) = false := beq_eq_false_iff_ne.mpr c8
                have c8b1 : ((bt a0 x5_1) != 59) = true := bne_iff_ne.mpr c8
                replace H := Option.bind_eq_some_iff.mp H
                obtain ⟨t102, A130, H⟩ := H
                replace H : (if t102 = true then (if x5_1 ≤ (wrap64 (x5_1 + 1)) then (if (wrap64 (x5_1 + 1)) ≤ (a0.size : Int) then (if x4_1.length < 5864062014805 then (lex_Words.l0 k1 a0 (x4_1 ++ [(⟨a0.extract (x5_1 : Int).toNat ((wrap64 (x5_1 + 1)) : Int).toNat, x5_1⟩ : S46)]) (wrap64 (x5_1 + 1))) else (none)) else (none)) else (none)) else (lex_Words.l2 k1 a0 x4_1 x5_1 x5_1)) = some (r1, r2) := H
                have A13 := Aside0.mk A130
                clear A130
                by_cases c14 : t102 = true
                · subst c14
                  have H1 : (if x5_1 ≤ (wrap64 (x5_1 + 1)) then (if (wrap64 (x5_1 + 1)) ≤ (a0.size : Int) then (if x4_1.length < 5864062014805 then (lex_Words.l0 k1 a0 (x4_1 ++ [(⟨a0.extract (x5_1 : Int).toNat ((wrap64 (x5_1 + 1)) : Int).toNat, x5_1⟩ : S46)]) (wrap64 (x5_1 + 1))) else (none)) else (none)) else (none)) = some (r1, r2) := by rw [if_pos rfl] at H; exact H
                  clear H
                  have H := H1
                  clear H1
                  have c15b0 := eq_true (of_decide_eq_true (by first | (with_reducible assumption) | assumption) : 0 ≤ x5_1)
                  by_cases c16 : x5_1 ≤ (wrap64 (x5_1 + 1))
                  · rw [if_pos c16] at H
                    have c16b0 := eq_true c16
                    have c16b1 : decide (x5_1 ≤ (wrap64 (x5_1 + 1))) = true := decide_eq_true c16
                    by_cases c17 : (wrap64 (x5_1 + 1)) ≤ (a0.size : Int)
                    · rw [if_pos c17] at H
                      have c17b0 := eq_true c17
                      have c17b1 : decide ((wrap64 (x5_1 + 1)) ≤ (a0.size : Int)) = true := decide_eq_true c17
                      by_cases c18 : x4_1.length < 5864062014805
                      · rw [if_pos c18] at H
                        have LMc18 := Aside0.mk c18
                        clear c18
                        obtain ⟨y103, hy103⟩ : ∃ y_ : List (S46), y_ = (x4_1 ++ [(⟨a0.extract (x5_1 : Int).toNat ((wrap64 (x5_1 + 1)) : Int).toNat, x5_1⟩ : S46)]) := ⟨_, rfl⟩
                        replace H : (lex_Words.l0 k1 a0 y103 (wrap64 (x5_1 + 1))) = some (r1, r2) := by first | (rw [hy103]; with_reducible exact H) | (have H2_ := (Option.bind_some _ _).symm.trans H; rw [hy103]; with_reducible exact H2_) | (have H2_ := (Option.bind_some _ _).symm.trans H; with_reducible exact H2_) | with_reducible exact H | (rw [hy103]; exact H) | exact H
                        have Ny103 := Aside0.mk hy103
                        clear hy103
                        have H' := Aside0.mk H
                        clear H
                        have p5 : 0 ≤ (x5_1 : Int) := of_decide_eq_true (by first | (with_reducible assumption) | assumption)
                        have q5 : x5_1 < (a0.size : Int) := of_decide_eq_true (by first | (with_reducible assumption) | assumption)
                        have hx5 := bt_at a0 x5_1
                        replace p5 := eq_true p5
                        replace q5 := eq_true q5
                        go_wp2_with (first | (go_at_call 23; (with_reducible refine (lex_apart.calls (bt a0 x5_1) false _ A6.out).mono ?_); rintro e w' ⟨rfl, ⟨nd, rfl⟩⟩; (try first | exact ⟨rfl, _, World.drewN_drewN _ _ _⟩ | exact ⟨rfl, _, Eq.trans (World.drewN_drewN _ _ _) (congrArg (World.drewN _) (Nat.add_assoc _ _ _))⟩)) | (go_at_call 24; (with_reducible refine (lex_round.calls (bt a0 x5_1) true _ A13.out).mono ?_); rintro e w' ⟨rfl, ⟨nd, rfl⟩⟩; (try first | exact ⟨rfl, _, World.drewN_drewN _ _ _⟩ | exact ⟨rfl, _, Eq.trans (World.drewN_drewN _ _ _) (congrArg (World.drewN _) (Nat.add_assoc _ _ _))⟩)) | ((with_reducible refine gate_builtin (b := .append) (xs := #[.tmp 71, .tmp 78]) rfl ?_); at_builtin; refine Kd.R_append k46 (w0 := w) w.heap.size rfl (.tmp 71) (.tmp 78) 42 46 (.agg #[(.string ⟨#[]⟩), (.int .i64 0)]) 24 rfl Tryd.underlying42 info46 rfl (by decide) (by omega) u4 x4_1 (⟨a0.extract (x5_1 : Int).toNat ((wrap64 (x5_1 + 1)) : Int).toNat, x5_1⟩ : S46) [.string (a0.extract (x5_1 : Int).toNat ((wrap64 (x5_1 + 1)) : Int).toNat), .int .i64 x5_1] (fun _ => True) (fun _ => False) rfl rfl ?aP (fun _ hk => hk.elim) ?aF ?aO ?aB ?aS ?aL ?_; (case aP => exact k46_mkM _ _ _ (⟨a0.extract (x5_1 : Int).toNat ((wrap64 (x5_1 + 1)) : Int).toNat, x5_1⟩ : S46)); (case aB => exact (by repeat (first | (with_reducible first | exact HB.out | apply below_alloc | apply pw_below_drewN | apply below_drew1) | exact HB.out))); (case aF => exact (fun _ _ => trivial)); (case aO => exact (by (with_reducible repeat (first | apply Kd.R_alloc | apply Kd.R_drewN | apply Kd.R_drew)); exact HO_4.out)); (case aS => exact (below_size (by repeat (first | (with_reducible first | exact HB.out | apply below_alloc | apply pw_below_drewN | apply below_drew1) | exact HB.out)))); (case aL => have := LMc18.out; omega); intro v104 w19 ho hb hg hat; rw [← Ny103.out] at ho; have n0_ := Aside0.mk (hb); have n1_ := Aside0.mk (ho); clear HB; clear HO_4; have HB := n0_; have HO105 := n1_; clear n0_ n1_; clear ho hb hg hat))
                        repeat (go_quiet (first | (go_at_call 23; (with_reducible refine (lex_apart.calls (bt a0 x5_1) false _ A6.out).mono ?_); rintro e w' ⟨rfl, ⟨nd, rfl⟩⟩; (try first | exact ⟨rfl, _, World.drewN_drewN _ _ _⟩ | exact ⟨rfl, _, Eq.trans (World.drewN_drewN _ _ _) (congrArg (World.drewN _) (Nat.add_assoc _ _ _))⟩)) | (go_at_call 24; (with_reducible refine (lex_round.calls (bt a0 x5_1) true _ A13.out).mono ?_); rintro e w' ⟨rfl, ⟨nd, rfl⟩⟩; (try first | exact ⟨rfl, _, World.drewN_drewN _ _ _⟩ | exact ⟨rfl, _, Eq.trans (World.drewN_drewN _ _ _) (congrArg (World.drewN _) (Nat.add_assoc _ _ _))⟩)) | ((with_reducible refine gate_builtin (b := .append) (xs := #[.tmp 71, .tmp 78]) rfl ?_); at_builtin; refine Kd.R_append k46 (w0 := w) w.heap.size rfl (.tmp 71) (.tmp 78) 42 46 (.agg #[(.string ⟨#[]⟩), (.int .i64 0)]) 24 rfl Tryd.underlying42 info46 rfl (by decide) (by omega) u4 x4_1 (⟨a0.extract (x5_1 : Int).toNat ((wrap64 (x5_1 + 1)) : Int).toNat, x5_1⟩ : S46) [.string (a0.extract (x5_1 : Int).toNat ((wrap64 (x5_1 + 1)) : Int).toNat), .int .i64 x5_1] (fun _ => True) (fun _ => False) rfl rfl ?aP (fun _ hk => hk.elim) ?aF ?aO ?aB ?aS ?aL ?_; (case aP => exact k46_mkM _ _ _ (⟨a0.extract (x5_1 : Int).toNat ((wrap64 (x5_1 + 1)) : Int).toNat, x5_1⟩ : S46)); (case aB => exact (by repeat (first | (with_reducible first | exact HB.out | apply below_alloc | apply pw_below_drewN | apply below_drew1) | exact HB.out))); (case aF => exact (fun _ _ => trivial)); (case aO => exact (by (with_reducible repeat (first | apply Kd.R_alloc | apply Kd.R_drewN | apply Kd.R_drew)); exact HO_4.out)); (case aS => exact (below_size (by repeat (first | (with_reducible first | exact HB.out | apply below_alloc | apply pw_below_drewN | apply below_drew1) | exact HB.out)))); (case aL => have := LMc18.out; omega); intro v104 w19 ho hb hg hat; rw [← Ny103.out] at ho; have n0_ := Aside0.mk (hb); have n1_ := Aside0.mk (ho); clear HB; clear HO_4; have HB := n0_; have HO105 := n1_; clear n0_ n1_; clear ho hb hg hat)); try go_wp2_with (first | (go_at_call 23; (with_reducible refine (lex_apart.calls (bt a0 x5_1) false _ A6.out).mono ?_); rintro e w' ⟨rfl, ⟨nd, rfl⟩⟩; (try first | exact ⟨rfl, _, World.drewN_drewN _ _ _⟩ | exact ⟨rfl, _, Eq.trans (World.drewN_drewN _ _ _) (congrArg (World.drewN _) (Nat.add_assoc _ _ _))⟩)) | (go_at_call 24; (with_reducible refine (lex_round.calls (bt a0 x5_1) true _ A13.out).mono ?_); rintro e w' ⟨rfl, ⟨nd, rfl⟩⟩; (try first | exact ⟨rfl, _, World.drewN_drewN _ _ _⟩ | exact ⟨rfl, _, Eq.trans (World.drewN_drewN _ _ _) (congrArg (World.drewN _) (Nat.add_assoc _ _ _))⟩)) | ((with_reducible refine gate_builtin (b := .append) (xs := #[.tmp 71, .tmp 78]) rfl ?_); at_builtin; refine Kd.R_append k46 (w0 := w) w.heap.size rfl (.tmp 71) (.tmp 78) 42 46 (.agg #[(.string ⟨#[]⟩), (.int .i64 0)]) 24 rfl Tryd.underlying42 info46 rfl (by decide) (by omega) u4 x4_1 (⟨a0.extract (x5_1 : Int).toNat ((wrap64 (x5_1 + 1)) : Int).toNat, x5_1⟩ : S46) [.string (a0.extract (x5_1 : Int).toNat ((wrap64 (x5_1 + 1)) : Int).toNat), .int .i64 x5_1] (fun _ => True) (fun _ => False) rfl rfl ?aP (fun _ hk => hk.elim) ?aF ?aO ?aB ?aS ?aL ?_; (case aP => exact k46_mkM _ _ _ (⟨a0.extract (x5_1 : Int).toNat ((wrap64 (x5_1 + 1)) : Int).toNat, x5_1⟩ : S46)); (case aB => exact (by repeat (first | (with_reducible first | exact HB.out | apply below_alloc | apply pw_below_drewN | apply below_drew1) | exact HB.out))); (case aF => exact (fun _ _ => trivial)); (case aO => exact (by (with_reducible repeat (first | apply Kd.R_alloc | apply Kd.R_drewN | apply Kd.R_drew)); exact HO_4.out)); (case aS => exact (below_size (by repeat (first | (with_reducible first | exact HB.out | apply below_alloc | apply pw_below_drewN | apply below_drew1) | exact HB.out)))); (case aL => have := LMc18.out; omega); intro v104 w19 ho hb hg hat; rw [← Ny103.out] at ho; have n0_ := Aside0.mk (hb); have n1_ := Aside0.mk (ho); clear HB; clear HO_4; have HB := n0_; have HO105 := n1_; clear n0_ n1_; clear ho hb hg hat)))
                        go_roundg k1
                        case measure => have := HK1.out; omega
                        case rel => exact ⟨(y103), (wrap64 (x5_1 + 1)), (by first | rfl | (simp; done) | (simp [*]; done)), H', ⟨by have := HK1.out; omega⟩, ⟨by (with_reducible repeat (first | apply Kd.R_alloc | apply Kd.R_drewN | apply Kd.R_drew)); exact HO105.out⟩, ⟨by repeat (first | (with_reducible first | exact HB.out | apply below_alloc | apply pw_below_drewN | apply below_drew1) | exact HB.out)⟩⟩
                      · rw [if_neg c18] at H
                        exact absurd H (by simp)
                    · rw [if_neg c17] at H
                      exact absurd H (by simp)
                  · rw [if_neg c16] at H
                    exact absurd H (by simp)
                · replace c14 := Bool.eq_false_iff.mpr c14
                  subst c14
                  have H1 : (lex_Words.l2 k1 a0 x4_1 x5_1 x5_1) = some (r1, r2) := by rw [if_neg (show ¬ (false = true) by decide)] at H; exact H
                  clear H
                  have H := H1
                  clear H1
                  have H' := Aside0.mk H
                  clear H
                  have p5 : 0 ≤ (x5_1 : Int) := of_decide_eq_true (by first | (with_reducible assumption) | assumption)
                  have q5 : x5_1 < (a0.size : Int) := of_decide_eq_true (by first | (with_reducible assumption) | assumption)
                  have hx5 := bt_at a0 x5_1
                  replace p5 := eq_true p5
                  replace q5 := eq_true q5
                  go_wp2_with (first | (go_at_call 23; (with_reducible refine (lex_apart.calls (bt a0 x5_1) false _ A6.out).mono ?_); rintro e w' ⟨rfl, ⟨nd, rfl⟩⟩; (try first | exact ⟨rfl, _, World.drewN_drewN _ _ _⟩ | exact ⟨rfl, _, Eq.trans (World.drewN_drewN _ _ _) (congrArg (World.drewN _) (Nat.add_assoc _ _ _))⟩)) | (go_at_call 24; (with_reducible refine (lex_round.calls (bt a0 x5_1) false _ A13.out).mono ?_); rintro e w' ⟨rfl, ⟨nd, rfl⟩⟩; (try first | exact ⟨rfl, _, World.drewN_drewN _ _ _⟩ | exact ⟨rfl, _, Eq.trans (World.drewN_drewN _ _ _) (congrArg (World.drewN _) (Nat.add_assoc _ _ _))⟩)))
                  repeat (go_quiet (first | (go_at_call 23; (with_reducible refine (lex_apart.calls (bt a0 x5_1) false _ A6.out).mono ?_); rintro e w' ⟨rfl, ⟨nd, rfl⟩⟩; (try first | exact ⟨rfl, _, World.drewN_drewN _ _ _⟩ | exact ⟨rfl, _, Eq.trans (World.drewN_drewN _ _ _) (congrArg (World.drewN _) (Nat.add_assoc _ _ _))⟩)) | (go_at_call 24; (with_reducible refine (lex_round.calls (bt a0 x5_1) false _ A13.out).mono ?_); rintro e w' ⟨rfl, ⟨nd, rfl⟩⟩; (try first | exact ⟨rfl, _, World.drewN_drewN _ _ _⟩ | exact ⟨rfl, _, Eq.trans (World.drewN_drewN _ _ _) (congrArg (World.drewN _) (Nat.add_assoc _ _ _))⟩))); try go_wp2_with (first | (go_at_call 23; (with_reducible refine (lex_apart.calls (bt a0 x5_1) false _ A6.out).mono ?_); rintro e w' ⟨rfl, ⟨nd, rfl⟩⟩; (try first | exact ⟨rfl, _, World.drewN_drewN _ _ _⟩ | exact ⟨rfl, _, Eq.trans (World.drewN_drewN _ _ _) (congrArg (World.drewN _) (Nat.add_assoc _ _ _))⟩)) | (go_at_call 24; (with_reducible refine (lex_round.calls (bt a0 x5_1) false _ A13.out).mono ?_); rintro e w' ⟨rfl, ⟨nd, rfl⟩⟩; (try first | exact ⟨rfl, _, World.drewN_drewN _ _ _⟩ | exact ⟨rfl, _, Eq.trans (World.drewN_drewN _ _ _) (congrArg (World.drewN _) (Nat.add_assoc _ _ _))⟩))))
                  go_loopg [5] k1 (fun kq v5 w' => ∃ (x5_2 : Int), v5 = .int .i64 x5_2 ∧ Aside0 (lex_Words.l2 kq a0 x4_1 x5_2 x5_1 = some (r1, r2)) ∧ Aside0 (kq ≤ k1) ∧ Aside0 (Kd.R k46 46 w' w.heap.size (fun _ => True) u4 x4_1) ∧ Aside0 (Below w.heap.size w w'))
                  case atStart => exact ⟨(x5_1), (by first | rfl | (simp; done) | (simp [*]; done)), H', ⟨Nat.le_refl _⟩, ⟨by (with_reducible repeat (first | apply Kd.R_alloc | apply Kd.R_drewN | apply Kd.R_drew)); exact HO_4.out⟩, ⟨by repeat (first | (with_reducible first | exact HB.out | apply below_alloc | apply pw_below_drewN | apply below_drew1) | exact HB.out)⟩⟩
                  case round =>
                    clear H'
                    try clear c1
                    try clear p1
                    try clear q1
                    try clear hx1
                    try clear c2
                    try clear c2b0
                    try clear c2b1
                    try clear p2
                    try clear c3
                    try clear c3b0
                    try clear c4
                    try clear c4b0
                    try clear p5
                    try clear q5
                    try clear hx5
                    try clear p6
                    try clear c7
                    try clear c8
                    try clear c8b0
                    try clear c8b1
                    try clear c9
                    try clear c9b0
                    try clear c10
                    try clear c10b0
                    try clear p11
                    try clear q11
                    try clear hx11
                    try clear c12
                    try clear c12b0
                    try clear c12b1
                    try clear c14
                    try clear c15
                    try clear c15b0
                    try clear c16
                    try clear c16b0
                    try clear c16b1
                    try clear c17
                    try clear c17b0
                    try clear c17b1
                    try clear c18
                    try clear p11
                    try clear p2
                    try clear p5
                    try clear p6
                    try clear q11
                    try clear q5
                    obtain ⟨x5_2, rfl, HA, HK2, HO_4, HB⟩ := hrel
                    cases gk with
                    | zero => exact absurd HA.out (by simp [lex_Words.l2])
                    | succ k2 =>
                      have H := HA.out
                      clear HA
                      simp only [lex_Words.l2] at H
                      by_cases c20 : x5_2 < (a0.size : Int)
                      · rw [if_pos c20] at H
                        have c20b0 : decide (x5_2 < (a0.size : Int)) = true := decide_eq_true c20
                        clear c20
                        by_cases c21 : 0 ≤ x5_2
                        · rw [if_pos c21] at H
                          have c21b0 : decide (0 ≤ x5_2) = true := decide_eq_true c21
                          clear c21
                          replace H := Option.bind_eq_some_iff.mp H
                          obtain ⟨t106, A230, H⟩ := H
                          replace H : (if t106 = true then (if 0 ≤ x5_1 then (if x5_1 ≤ x5_2 then (if x5_2 ≤ (a0.size : Int) then (if x4_1.length < 5864062014805 then (lex_Words.l0 k2 a0 (x4_1 ++ [(⟨a0.extract (x5_1 : Int).toNat (x5_2 : Int).toNat, x5_1⟩ : S46)]) x5_2) else (none)) else (none)) else (none)) else (none)) else ((lex_round.f (bt a0 x5_2)).bind fun t110 => (if t110 = true then (if 0 ≤ x5_1 then (if x5_1 ≤ x5_2 then (if x5_2 ≤ (a0.size : Int) then (if x4_1.length < 5864062014805 then (lex_Words.l0 k2 a0 (x4_1 ++ [(⟨a0.extract (x5_1 : Int).toNat (x5_2 : Int).toNat, x5_1⟩ : S46)]) x5_2) else (none)) else (none)) else (none)) else (none)) else (if (bt a0 x5_2) = 59 then (if 0 ≤ x5_1 then (if x5_1 ≤ x5_2 then (if x5_2 ≤ (a0.size : Int) then (if x4_1.length < 5864062014805 then (lex_Words.l0 k2 a0 (x4_1 ++ [(⟨a0.extract (x5_1 : Int).toNat (x5_2 : Int).toNat, x5_1⟩ : S46)]) x5_2) else (none)) else (none)) else (none)) else (none)) else (lex_Words.l2 k2 a0 x4_1 (wrap64 (x5_2 + 1)) x5_1))))) = some (r1, r2) := H
                          have A23 := Aside0.mk A230
                          clear A230
                          by_cases c24 : t106 = true
                          · subst c24
                            have H1 : (if 0 ≤ x5_1 then (if x5_1 ≤ x5_2 then (if x5_2 ≤ (a0.size : Int) then (if x4_1.length < 5864062014805 then (lex_Words.l0 k2 a0 (x4_1 ++ [(⟨a0.extract (x5_1 : Int).toNat (x5_2 : Int).toNat, x5_1⟩ : S46)]) x5_2) else (none)) else (none)) else (none)) else (none)) = some (r1, r2) := by rw [if_pos rfl] at H; exact H
                            clear H
                            have H := H1
                            clear H1
                            by_cases c25 : 0 ≤ x5_1
                            · rw [if_pos c25] at H
                              have c25b0 := eq_true c25
                              have c25b1 : decide (0 ≤ x5_1) = true := decide_eq_true c25
                              clear c25
                              by_cases c26 : x5_1 ≤ x5_2
                              · rw [if_pos c26] at H
                                have c26b0 := eq_true c26
                                have c26b1 : decide (x5_1 ≤ x5_2) = true := decide_eq_true c26
                                clear c26
                                by_cases c27 : x5_2 ≤ (a0.size : Int)
                                · rw [if_pos c27] at H
                                  have c27b0 := eq_true c27
                                  have c27b1 : decide (x5_2 ≤ (a0.size : Int)) = true := decide_eq_true c27
                                  clear c27
                                  by_cases c28 : x4_1.length < 5864062014805
                                  · rw [if_pos c28] at H
                                    have LMc28 := Aside0.mk c28
                                    clear c28
                                    obtain ⟨y107, hy107⟩ : ∃ y_ : List (S46), y_ = (x4_1 ++ [(⟨a0.extract (x5_1 : Int).toNat (x5_2 : Int).toNat, x5_1⟩ : S46)]) := ⟨_, rfl⟩
                                    replace H : (lex_Words.l0 k2 a0 y107 x5_2) = some (r1, r2) := by first | (rw [hy107]; with_reducible exact H) | (have H2_ := (Option.bind_some _ _).symm.trans H; rw [hy107]; with_reducible exact H2_) | (have H2_ := (Option.bind_some _ _).symm.trans H; with_reducible exact H2_) | with_reducible exact H | (rw [hy107]; exact H) | exact H
                                    have Ny107 := Aside0.mk hy107
                                    clear hy107
                                    have H' := Aside0.mk H
                                    clear H
                                    have p22 : 0 ≤ (x5_2 : Int) := of_decide_eq_true (by first | (with_reducible assumption) | assumption)
                                    have q22 : x5_2 < (a0.size : Int) := of_decide_eq_true (by first | (with_reducible assumption) | assumption)
                                    have hx22 := bt_at a0 x5_2
                                    replace p22 := eq_true p22
                                    replace q22 := eq_true q22
                                    go_wp2_with (first | (go_at_call 23; (with_reducible refine (lex_apart.calls (bt a0 x5_2) true _ A23.out).mono ?_); rintro e w' ⟨rfl, ⟨nd, rfl⟩⟩; (try first | exact ⟨rfl, _, World.drewN_drewN _ _ _⟩ | exact ⟨rfl, _, Eq.trans (World.drewN_drewN _ _ _) (congrArg (World.drewN _) (Nat.add_assoc _ _ _))⟩)) | ((with_reducible refine gate_builtin (b := .append) (xs := #[.tmp 71, .tmp 78]) rfl ?_); at_builtin; refine Kd.R_append k46 (w0 := w) w.heap.size rfl (.tmp 71) (.tmp 78) 42 46 (.agg #[(.string ⟨#[]⟩), (.int .i64 0)]) 24 rfl Tryd.underlying42 info46 rfl (by decide) (by omega) u4 x4_1 (⟨a0.extract (x5_1 : Int).toNat (x5_2 : Int).toNat, x5_1⟩ : S46) [.string (a0.extract (x5_1 : Int).toNat (x5_2 : Int).toNat), .int .i64 x5_1] (fun _ => True) (fun _ => False) rfl rfl ?aP (fun _ hk => hk.elim) ?aF ?aO ?aB ?aS ?aL ?_; (case aP => exact k46_mkM _ _ _ (⟨a0.extract (x5_1 : Int).toNat (x5_2 : Int).toNat, x5_1⟩ : S46)); (case aB => exact (by repeat (first | (with_reducible first | exact HB.out | apply below_alloc | apply pw_below_drewN | apply below_drew1) | exact HB.out))); (case aF => exact (fun _ _ => trivial)); (case aO => exact (by (with_reducible repeat (first | apply Kd.R_alloc | apply Kd.R_drewN | apply Kd.R_drew)); exact HO_4.out)); (case aS => exact (below_size (by repeat (first | (with_reducible first | exact HB.out | apply below_alloc | apply pw_below_drewN | apply below_drew1) | exact HB.out)))); (case aL => have := LMc28.out; omega); intro v108 w29 ho hb hg hat; rw [← Ny107.out] at ho; have n0_ := Aside0.mk (hb); have n1_ := Aside0.mk (ho); clear HB; clear HO_4; have HB := n0_; have HO109 := n1_; clear n0_ n1_; clear ho hb hg hat))
                                    repeat (go_quiet (first | (go_at_call 23; (with_reducible refine (lex_apart.calls (bt a0 x5_2) true _ A23.out).mono ?_); rintro e w' ⟨rfl, ⟨nd, rfl⟩⟩; (try first | exact ⟨rfl, _, World.drewN_drewN _ _ _⟩ | exact ⟨rfl, _, Eq.trans (World.drewN_drewN _ _ _) (congrArg (World.drewN _) (Nat.add_assoc _ _ _))⟩)) | ((with_reducible refine gate_builtin (b := .append) (xs := #[.tmp 71, .tmp 78]) rfl ?_); at_builtin; refine Kd.R_append k46 (w0 := w) w.heap.size rfl (.tmp 71) (.tmp 78) 42 46 (.agg #[(.string ⟨#[]⟩), (.int .i64 0)]) 24 rfl Tryd.underlying42 info46 rfl (by decide) (by omega) u4 x4_1 (⟨a0.extract (x5_1 : Int).toNat (x5_2 : Int).toNat, x5_1⟩ : S46) [.string (a0.extract (x5_1 : Int).toNat (x5_2 : Int).toNat), .int .i64 x5_1] (fun _ => True) (fun _ => False) rfl rfl ?aP (fun _ hk => hk.elim) ?aF ?aO ?aB ?aS ?aL ?_; (case aP => exact k46_mkM _ _ _ (⟨a0.extract (x5_1 : Int).toNat (x5_2 : Int).toNat, x5_1⟩ : S46)); (case aB => exact (by repeat (first | (with_reducible first | exact HB.out | apply below_alloc | apply pw_below_drewN | apply below_drew1) | exact HB.out))); (case aF => exact (fun _ _ => trivial)); (case aO => exact (by (with_reducible repeat (first | apply Kd.R_alloc | apply Kd.R_drewN | apply Kd.R_drew)); exact HO_4.out)); (case aS => exact (below_size (by repeat (first | (with_reducible first | exact HB.out | apply below_alloc | apply pw_below_drewN | apply below_drew1) | exact HB.out)))); (case aL => have := LMc28.out; omega); intro v108 w29 ho hb hg hat; rw [← Ny107.out] at ho; have n0_ := Aside0.mk (hb); have n1_ := Aside0.mk (ho); clear HB; clear HO_4; have HB := n0_; have HO109 := n1_; clear n0_ n1_; clear ho hb hg hat)); try go_wp2_with (first | (go_at_call 23; (with_reducible refine (lex_apart.calls (bt a0 x5_2) true _ A23.out).mono ?_); rintro e w' ⟨rfl, ⟨nd, rfl⟩⟩; (try first | exact ⟨rfl, _, World.drewN_drewN _ _ _⟩ | exact ⟨rfl, _, Eq.trans (World.drewN_drewN _ _ _) (congrArg (World.drewN _) (Nat.add_assoc _ _ _))⟩)) | ((with_reducible refine gate_builtin (b := .append) (xs := #[.tmp 71, .tmp 78]) rfl ?_); at_builtin; refine Kd.R_append k46 (w0 := w) w.heap.size rfl (.tmp 71) (.tmp 78) 42 46 (.agg #[(.string ⟨#[]⟩), (.int .i64 0)]) 24 rfl Tryd.underlying42 info46 rfl (by decide) (by omega) u4 x4_1 (⟨a0.extract (x5_1 : Int).toNat (x5_2 : Int).toNat, x5_1⟩ : S46) [.string (a0.extract (x5_1 : Int).toNat (x5_2 : Int).toNat), .int .i64 x5_1] (fun _ => True) (fun _ => False) rfl rfl ?aP (fun _ hk => hk.elim) ?aF ?aO ?aB ?aS ?aL ?_; (case aP => exact k46_mkM _ _ _ (⟨a0.extract (x5_1 : Int).toNat (x5_2 : Int).toNat, x5_1⟩ : S46)); (case aB => exact (by repeat (first | (with_reducible first | exact HB.out | apply below_alloc | apply pw_below_drewN | apply below_drew1) | exact HB.out))); (case aF => exact (fun _ _ => trivial)); (case aO => exact (by (with_reducible repeat (first | apply Kd.R_alloc | apply Kd.R_drewN | apply Kd.R_drew)); exact HO_4.out)); (case aS => exact (below_size (by repeat (first | (with_reducible first | exact HB.out | apply below_alloc | apply pw_below_drewN | apply below_drew1) | exact HB.out)))); (case aL => have := LMc28.out; omega); intro v108 w29 ho hb hg hat; rw [← Ny107.out] at ho; have n0_ := Aside0.mk (hb); have n1_ := Aside0.mk (ho); clear HB; clear HO_4; have HB := n0_; have HO109 := n1_; clear n0_ n1_; clear ho hb hg hat)))
                                    go_roundg k2
                                    case measure => have := HK1.out; have := HK2.out; omega
                                    case rel => exact ⟨(y107), (x5_2), (by first | rfl | (simp; done) | (simp [*]; done)), H', ⟨by have := HK1.out; have := HK2.out; omega⟩, ⟨by (with_reducible repeat (first | apply Kd.R_alloc | apply Kd.R_drewN | apply Kd.R_drew)); exact HO109.out⟩, ⟨by repeat (first | (with_reducible first | exact HB.out | apply below_alloc | apply pw_below_drewN | apply below_drew1) | exact HB.out)⟩⟩
                                  · rw [if_neg c28] at H
                                    exact absurd H (by simp)
                                · rw [if_neg c27] at H
                                  exact absurd H (by simp)
                              · rw [if_neg c26] at H
                                exact absurd H (by simp)
                            · rw [if_neg c25] at H
                              exact absurd H (by simp)
                          · replace c24 := Bool.eq_false_iff.mpr c24
                            subst c24
                            have H1 : ((lex_round.f (bt a0 x5_2)).bind fun t110 => (if t110 = true then (if 0 ≤ x5_1 then (if x5_1 ≤ x5_2 then (if x5_2 ≤ (a0.size : Int) then (if x4_1.length < 5864062014805 then (lex_Words.l0 k2 a0 (x4_1 ++ [(⟨a0.extract (x5_1 : Int).toNat (x5_2 : Int).toNat, x5_1⟩ : S46)]) x5_2) else (none)) else (none)) else (none)) else (none)) else (if (bt a0 x5_2) = 59 then (if 0 ≤ x5_1 then (if x5_1 ≤ x5_2 then (if x5_2 ≤ (a0.size : Int) then (if x4_1.length < 5864062014805 then (lex_Words.l0 k2 a0 (x4_1 ++ [(⟨a0.extract (x5_1 : Int).toNat (x5_2 : Int).toNat, x5_1⟩ : S46)]) x5_2) else (none)) else (none)) else (none)) else (none)) else (lex_Words.l2 k2 a0 x4_1 (wrap64 (x5_2 + 1)) x5_1)))) = some (r1, r2) := by rw [if_neg (show ¬ (false = true) by decide)] at H; exact H
                            clear H
                            have H := H1
                            clear H1
                            replace H := Option.bind_eq_some_iff.mp H
                            obtain ⟨t110, A310, H⟩ := H
                            replace H : (if t110 = true then (if 0 ≤ x5_1 then (if x5_1 ≤ x5_2 then (if x5_2 ≤ (a0.size : Int) then (if x4_1.length < 5864062014805 then (lex_Words.l0 k2 a0 (x4_1 ++ [(⟨a0.extract (x5_1 : Int).toNat (x5_2 : Int).toNat, x5_1⟩ : S46)]) x5_2) else (none)) else (none)) else (none)) else (none)) else (if (bt a0 x5_2) = 59 then (if 0 ≤ x5_1 then (if x5_1 ≤ x5_2 then (if x5_2 ≤ (a0.size : Int) then (if x4_1.length < 5864062014805 then (lex_Words.l0 k2 a0 (x4_1 ++ [(⟨a0.extract (x5_1 : Int).toNat (x5_2 : Int).toNat, x5_1⟩ : S46)]) x5_2) else (none)) else (none)) else (none)) else (none)) else (lex_Words.l2 k2 a0 x4_1 (wrap64 (x5_2 + 1)) x5_1))) = some (r1, r2) := H
                            have A31 := Aside0.mk A310
                            clear A310
                            by_cases c32 : t110 = true
                            · subst c32
                              have H1 : (if 0 ≤ x5_1 then (if x5_1 ≤ x5_2 then (if x5_2 ≤ (a0.size : Int) then (if x4_1.length < 5864062014805 then (lex_Words.l0 k2 a0 (x4_1 ++ [(⟨a0.extract (x5_1 : Int).toNat (x5_2 : Int).toNat, x5_1⟩ : S46)]) x5_2) else (none)) else (none)) else (none)) else (none)) = some (r1, r2) := by rw [if_pos rfl] at H; exact H
                              clear H
                              have H := H1
                              clear H1
                              by_cases c33 : 0 ≤ x5_1
                              · rw [if_pos c33] at H
                                have c33b0 := eq_true c33
                                have c33b1 : decide (0 ≤ x5_1) = true := decide_eq_true c33
                                clear c33
                                by_cases c34 : x5_1 ≤ x5_2
                                · rw [if_pos c34] at H
                                  have c34b0 := eq_true c34
                                  have c34b1 : decide (x5_1 ≤ x5_2) = true := decide_eq_true c34
                                  clear c34
                                  by_cases c35 : x5_2 ≤ (a0.size : Int)
                                  · rw [if_pos c35] at H
                                    have c35b0 := eq_true c35
                                    have c35b1 : decide (x5_2 ≤ (a0.size : Int)) = true := decide_eq_true c35
                                    clear c35
                                    by_cases c36 : x4_1.length < 5864062014805
                                    · rw [if_pos c36] at H
                                      have LMc36 := Aside0.mk c36
                                      clear c36
                                      obtain ⟨y111, hy111⟩ : ∃ y_ : List (S46), y_ = (x4_1 ++ [(⟨a0.extract (x5_1 : Int).toNat (x5_2 : Int).toNat, x5_1⟩ : S46)]) := ⟨_, rfl⟩
                                      replace H : (lex_Words.l0 k2 a0 y111 x5_2) = some (r1, r2) := by first | (rw [hy111]; with_reducible exact H) | (have H2_ := (Option.bind_some _ _).symm.trans H; rw [hy111]; with_reducible exact H2_) | (have H2_ := (Option.bind_some _ _).symm.trans H; with_reducible exact H2_) | with_reducible exact H | (rw [hy111]; exact H) | exact H
                                      have Ny111 := Aside0.mk hy111
                                      clear hy111
                                      have H' := Aside0.mk H
                                      clear H
                                      have p22 : 0 ≤ (x5_2 : Int) := of_decide_eq_true (by first | (with_reducible assumption) | assumption)
                                      have q22 : x5_2 < (a0.size : Int) := of_decide_eq_true (by first | (with_reducible assumption) | assumption)
                                      have hx22 := bt_at a0 x5_2
                                      replace p22 := eq_true p22
                                      replace q22 := eq_true q22
                                      go_wp2_with (first | (go_at_call 23; (with_reducible refine (lex_apart.calls (bt a0 x5_2) false _ A23.out).mono ?_); rintro e w' ⟨rfl, ⟨nd, rfl⟩⟩; (try first | exact ⟨rfl, _, World.drewN_drewN _ _ _⟩ | exact ⟨rfl, _, Eq.trans (World.drewN_drewN _ _ _) (congrArg (World.drewN _) (Nat.add_assoc _ _ _))⟩); have p30 : 0 ≤ (x5_2 : Int) := of_decide_eq_true (by first | (with_reducible assumption) | assumption); have q30 : x5_2 < (a0.size : Int) := of_decide_eq_true (by first | (with_reducible assumption) | assumption); have hx30 := bt_at a0 x5_2; replace p30 := eq_true p30; replace q30 := eq_true q30) | (go_at_call 24; (with_reducible refine (lex_round.calls (bt a0 x5_2) true _ A31.out).mono ?_); rintro e w' ⟨rfl, ⟨nd, rfl⟩⟩; (try first | exact ⟨rfl, _, World.drewN_drewN _ _ _⟩ | exact ⟨rfl, _, Eq.trans (World.drewN_drewN _ _ _) (congrArg (World.drewN _) (Nat.add_assoc _ _ _))⟩)) | ((with_reducible refine gate_builtin (b := .append) (xs := #[.tmp 71, .tmp 78]) rfl ?_); at_builtin; refine Kd.R_append k46 (w0 := w) w.heap.size rfl (.tmp 71) (.tmp 78) 42 46 (.agg #[(.string ⟨#[]⟩), (.int .i64 0)]) 24 rfl Tryd.underlying42 info46 rfl (by decide) (by omega) u4 x4_1 (⟨a0.extract (x5_1 : Int).toNat (x5_2 : Int).toNat, x5_1⟩ : S46) [.string (a0.extract (x5_1 : Int).toNat (x5_2 : Int).toNat), .int .i64 x5_1] (fun _ => True) (fun _ => False) rfl rfl ?aP (fun _ hk => hk.elim) ?aF ?aO ?aB ?aS ?aL ?_; (case aP => exact k46_mkM _ _ _ (⟨a0.extract (x5_1 : Int).toNat (x5_2 : Int).toNat, x5_1⟩ : S46)); (case aB => exact (by repeat (first | (with_reducible first | exact HB.out | apply below_alloc | apply pw_below_drewN | apply below_drew1) | exact HB.out))); (case aF => exact (fun _ _ => trivial)); (case aO => exact (by (with_reducible repeat (first | apply Kd.R_alloc | apply Kd.R_drewN | apply Kd.R_drew)); exact HO_4.out)); (case aS => exact (below_size (by repeat (first | (with_reducible first | exact HB.out | apply below_alloc | apply pw_below_drewN | apply below_drew1) | exact HB.out)))); (case aL => have := LMc36.out; omega); intro v112 w37 ho hb hg hat; rw [← Ny111.out] at ho; have n0_ := Aside0.mk (hb); have n1_ := Aside0.mk (ho); clear HB; clear HO_4; have HB := n0_; have HO113 := n1_; clear n0_ n1_; clear ho hb hg hat))
                                      repeat (go_quiet (first | (go_at_call 23; (with_reducible refine (lex_apart.calls (bt a0 x5_2) false _ A23.out).mono ?_); rintro e w' ⟨rfl, ⟨nd, rfl⟩⟩; (try first | exact ⟨rfl, _, World.drewN_drewN _ _ _⟩ | exact ⟨rfl, _, Eq.trans (World.drewN_drewN _ _ _) (congrArg (World.drewN _) (Nat.add_assoc _ _ _))⟩); have p30 : 0 ≤ (x5_2 : Int) := of_decide_eq_true (by first | (with_reducible assumption) | assumption); have q30 : x5_2 < (a0.size : Int) := of_decide_eq_true (by first | (with_reducible assumption) | assumption); have hx30 := bt_at a0 x5_2; replace p30 := eq_true p30; replace q30 := eq_true q30) | (go_at_call 24; (with_reducible refine (lex_round.calls (bt a0 x5_2) true _ A31.out).mono ?_); rintro e w' ⟨rfl, ⟨nd, rfl⟩⟩; (try first | exact ⟨rfl, _, World.drewN_drewN _ _ _⟩ | exact ⟨rfl, _, Eq.trans (World.drewN_drewN _ _ _) (congrArg (World.drewN _) (Nat.add_assoc _ _ _))⟩)) | ((with_reducible refine gate_builtin (b := .append) (xs := #[.tmp 71, .tmp 78]) rfl ?_); at_builtin; refine Kd.R_append k46 (w0 := w) w.heap.size rfl (.tmp 71) (.tmp 78) 42 46 (.agg #[(.string ⟨#[]⟩), (.int .i64 0)]) 24 rfl Tryd.underlying42 info46 rfl (by decide) (by omega) u4 x4_1 (⟨a0.extract (x5_1 : Int).toNat (x5_2 : Int).toNat, x5_1⟩ : S46) [.string (a0.extract (x5_1 : Int).toNat (x5_2 : Int).toNat), .int .i64 x5_1] (fun _ => True) (fun _ => False) rfl rfl ?aP (fun _ hk => hk.elim) ?aF ?aO ?aB ?aS ?aL ?_; (case aP => exact k46_mkM _ _ _ (⟨a0.extract (x5_1 : Int).toNat (x5_2 : Int).toNat, x5_1⟩ : S46)); (case aB => exact (by repeat (first | (with_reducible first | exact HB.out | apply below_alloc | apply pw_below_drewN | apply below_drew1) | exact HB.out))); (case aF => exact (fun _ _ => trivial)); (case aO => exact (by (with_reducible repeat (first | apply Kd.R_alloc | apply Kd.R_drewN | apply Kd.R_drew)); exact HO_4.out)); (case aS => exact (below_size (by repeat (first | (with_reducible first | exact HB.out | apply below_alloc | apply pw_below_drewN | apply below_drew1) | exact HB.out)))); (case aL => have := LMc36.out; omega); intro v112 w37 ho hb hg hat; rw [← Ny111.out] at ho; have n0_ := Aside0.mk (hb); have n1_ := Aside0.mk (ho); clear HB; clear HO_4; have HB := n0_; have HO113 := n1_; clear n0_ n1_; clear ho hb hg hat)); try go_wp2_with (first | (go_at_call 23; (with_reducible refine (lex_apart.calls (bt a0 x5_2) false _ A23.out).mono ?_); rintro e w' ⟨rfl, ⟨nd, rfl⟩⟩; (try first | exact ⟨rfl, _, World.drewN_drewN _ _ _⟩ | exact ⟨rfl, _, Eq.trans (World.drewN_drewN _ _ _) (congrArg (World.drewN _) (Nat.add_assoc _ _ _))⟩); have p30 : 0 ≤ (x5_2 : Int) := of_decide_eq_true (by first | (with_reducible assumption) | assumption); have q30 : x5_2 < (a0.size : Int) := of_decide_eq_true (by first | (with_reducible assumption) | assumption); have hx30 := bt_at a0 x5_2; replace p30 := eq_true p30; replace q30 := eq_true q30) | (go_at_call 24; (with_reducible refine (lex_round.calls (bt a0 x5_2) true _ A31.out).mono ?_); rintro e w' ⟨rfl, ⟨nd, rfl⟩⟩; (try first | exact ⟨rfl, _, World.drewN_drewN _ _ _⟩ | exact ⟨rfl, _, Eq.trans (World.drewN_drewN _ _ _) (congrArg (World.drewN _) (Nat.add_assoc _ _ _))⟩)) | ((with_reducible refine gate_builtin (b := .append) (xs := #[.tmp 71, .tmp 78]) rfl ?_); at_builtin; refine Kd.R_append k46 (w0 := w) w.heap.size rfl (.tmp 71) (.tmp 78) 42 46 (.agg #[(.string ⟨#[]⟩), (.int .i64 0)]) 24 rfl Tryd.underlying42 info46 rfl (by decide) (by omega) u4 x4_1 (⟨a0.extract (x5_1 : Int).toNat (x5_2 : Int).toNat, x5_1⟩ : S46) [.string (a0.extract (x5_1 : Int).toNat (x5_2 : Int).toNat), .int .i64 x5_1] (fun _ => True) (fun _ => False) rfl rfl ?aP (fun _ hk => hk.elim) ?aF ?aO ?aB ?aS ?aL ?_; (case aP => exact k46_mkM _ _ _ (⟨a0.extract (x5_1 : Int).toNat (x5_2 : Int).toNat, x5_1⟩ : S46)); (case aB => exact (by repeat (first | (with_reducible first | exact HB.out | apply below_alloc | apply pw_below_drewN | apply below_drew1) | exact HB.out))); (case aF => exact (fun _ _ => trivial)); (case aO => exact (by (with_reducible repeat (first | apply Kd.R_alloc | apply Kd.R_drewN | apply Kd.R_drew)); exact HO_4.out)); (case aS => exact (below_size (by repeat (first | (with_reducible first | exact HB.out | apply below_alloc | apply pw_below_drewN | apply below_drew1) | exact HB.out)))); (case aL => have := LMc36.out; omega); intro v112 w37 ho hb hg hat; rw [← Ny111.out] at ho; have n0_ := Aside0.mk (hb); have n1_ := Aside0.mk (ho); clear HB; clear HO_4; have HB := n0_; have HO113 := n1_; clear n0_ n1_; clear ho hb hg hat)))
                                      go_roundg k2
                                      case measure => have := HK1.out; have := HK2.out; omega
                                      case rel => exact ⟨(y111), (x5_2), (by first | rfl | (simp; done) | (simp [*]; done)), H', ⟨by have := HK1.out; have := HK2.out; omega⟩, ⟨by (with_reducible repeat (first | apply Kd.R_alloc | apply Kd.R_drewN | apply Kd.R_drew)); exact HO113.out⟩, ⟨by repeat (first | (with_reducible first | exact HB.out | apply below_alloc | apply pw_below_drewN | apply below_drew1) | exact HB.out)⟩⟩
                                    · rw [if_neg c36] at H
                                      exact absurd H (by simp)
                                  · rw [if_neg c35] at H
                                    exact absurd H (by simp)
                                · rw [if_neg c34] at H
                                  exact absurd H (by simp)
                              · rw [if_neg c33] at H
                                exact absurd H (by simp)
                            · replace c32 := Bool.eq_false_iff.mpr c32
                              subst c32
                              have H1 : (if (bt a0 x5_2) = 59 then (if 0 ≤ x5_1 then (if x5_1 ≤ x5_2 then (if x5_2 ≤ (a0.size : Int) then (if x4_1.length < 5864062014805 then (lex_Words.l0 k2 a0 (x4_1 ++ [(⟨a0.extract (x5_1 : Int).toNat (x5_2 : Int).toNat, x5_1⟩ : S46)]) x5_2) else (none)) else (none)) else (none)) else (none)) else (lex_Words.l2 k2 a0 x4_1 (wrap64 (x5_2 + 1)) x5_1)) = some (r1, r2) := by rw [if_neg (show ¬ (false = true) by decide)] at H; exact H
                              clear H
                              have H := H1
                              clear H1
                              by_cases c39 : (bt a0 x5_2) = 59
                              · rw [if_pos c39] at H
                                have c39b0 : ((bt a0 x5_2) == 59) = true := beq_iff_eq.mpr c39
                                have c39b1 : ((bt a0 x5_2) != 59) = false := bne_eq_false_iff_eq.mpr c39
                                clear c39
                                by_cases c40 : 0 ≤ x5_1
                                · rw [if_pos c40] at H
                                  have c40b0 := eq_true c40
                                  have c40b1 : decide (0 ≤ x5_1) = true := decide_eq_true c40
                                  clear c40
                                  by_cases c41 : x5_1 ≤ x5_2
                                  · rw [if_pos c41] at H
                                    have c41b0 := eq_true c41
                                    have c41b1 : decide (x5_1 ≤ x5_2) = true := decide_eq_true c41
                                    clear c41
                                    by_cases c42 : x5_2 ≤ (a0.size : Int)
                                    · rw [if_pos c42] at H
                                      have c42b0 := eq_true c42
                                      have c42b1 : decide (x5_2 ≤ (a0.size : Int)) = true := decide_eq_true c42
                                      clear c42
                                      by_cases c43 : x4_1.length < 5864062014805
                                      · rw [if_pos c43] at H
                                        have LMc43 := Aside0.mk c43
                                        clear c43
                                        obtain ⟨y114, hy114⟩ : ∃ y_ : List (S46), y_ = (x4_1 ++ [(⟨a0.extract (x5_1 : Int).toNat (x5_2 : Int).toNat, x5_1⟩ : S46)]) := ⟨_, rfl⟩
                                        replace H : (lex_Words.l0 k2 a0 y114 x5_2) = some (r1, r2) := by first | (rw [hy114]; with_reducible exact H) | (have H2_ := (Option.bind_some _ _).symm.trans H; rw [hy114]; with_reducible exact H2_) | (have H2_ := (Option.bind_some _ _).symm.trans H; with_reducible exact H2_) | with_reducible exact H | (rw [hy114]; exact H) | exact H
                                        have Ny114 := Aside0.mk hy114
                                        clear hy114
                                        have H' := Aside0.mk H
                                        clear H
                                        have p22 : 0 ≤ (x5_2 : Int) := of_decide_eq_true (by first | (with_reducible assumption) | assumption)
                                        have q22 : x5_2 < (a0.size : Int) := of_decide_eq_true (by first | (with_reducible assumption) | assumption)
                                        have hx22 := bt_at a0 x5_2
                                        replace p22 := eq_true p22
                                        replace q22 := eq_true q22
                                        go_wp2_with (first | (go_at_call 23; (with_reducible refine (lex_apart.calls (bt a0 x5_2) false _ A23.out).mono ?_); rintro e w' ⟨rfl, ⟨nd, rfl⟩⟩; (try first | exact ⟨rfl, _, World.drewN_drewN _ _ _⟩ | exact ⟨rfl, _, Eq.trans (World.drewN_drewN _ _ _) (congrArg (World.drewN _) (Nat.add_assoc _ _ _))⟩); have p30 : 0 ≤ (x5_2 : Int) := of_decide_eq_true (by first | (with_reducible assumption) | assumption); have q30 : x5_2 < (a0.size : Int) := of_decide_eq_true (by first | (with_reducible assumption) | assumption); have hx30 := bt_at a0 x5_2; replace p30 := eq_true p30; replace q30 := eq_true q30) | (go_at_call 24; (with_reducible refine (lex_round.calls (bt a0 x5_2) false _ A31.out).mono ?_); rintro e w' ⟨rfl, ⟨nd, rfl⟩⟩; (try first | exact ⟨rfl, _, World.drewN_drewN _ _ _⟩ | exact ⟨rfl, _, Eq.trans (World.drewN_drewN _ _ _) (congrArg (World.drewN _) (Nat.add_assoc _ _ _))⟩); have p38 : 0 ≤ (x5_2 : Int) := of_decide_eq_true (by first | (with_reducible assumption) | assumption); have q38 : x5_2 < (a0.size : Int) := of_decide_eq_true (by first | (with_reducible assumption) | assumption); have hx38 := bt_at a0 x5_2; replace p38 := eq_true p38; replace q38 := eq_true q38) | ((with_reducible refine gate_builtin (b := .append) (xs := #[.tmp 71, .tmp 78]) rfl ?_); at_builtin; refine Kd.R_append k46 (w0 := w) w.heap.size rfl (.tmp 71) (.tmp 78) 42 46 (.agg #[(.string ⟨#[]⟩), (.int .i64 0)]) 24 rfl Tryd.underlying42 info46 rfl (by decide) (by omega) u4 x4_1 (⟨a0.extract (x5_1 : Int).toNat (x5_2 : Int).toNat, x5_1⟩ : S46) [.string (a0.extract (x5_1 : Int).toNat (x5_2 : Int).toNat), .int .i64 x5_1] (fun _ => True) (fun _ => False) rfl rfl ?aP (fun _ hk => hk.elim) ?aF ?aO ?aB ?aS ?aL ?_; (case aP => exact k46_mkM _ _ _ (⟨a0.extract (x5_1 : Int).toNat (x5_2 : Int).toNat, x5_1⟩ : S46)); (case aB => exact (by repeat (first | (with_reducible first | exact HB.out | apply below_alloc | apply pw_below_drewN | apply below_drew1) | exact HB.out))); (case aF => exact (fun _ _ => trivial)); (case aO => exact (by (with_reducible repeat (first | apply Kd.R_alloc | apply Kd.R_drewN | apply Kd.R_drew)); exact HO_4.out)); (case aS => exact (below_size (by repeat (first | (with_reducible first | exact HB.out | apply below_alloc | apply pw_below_drewN | apply below_drew1) | exact HB.out)))); (case aL => have := LMc43.out; omega); intro v115 w44 ho hb hg hat; rw [← Ny114.out] at ho; have n0_ := Aside0.mk (hb); have n1_ := Aside0.mk (ho); clear HB; clear HO_4; have HB := n0_; have HO116 := n1_; clear n0_ n1_; clear ho hb hg hat))
                                        repeat (go_quiet (first | (go_at_call 23; (with_reducible refine (lex_apart.calls (bt a0 x5_2) false _ A23.out).mono ?_); rintro e w' ⟨rfl, ⟨nd, rfl⟩⟩; (try first | exact ⟨rfl, _, World.drewN_drewN _ _ _⟩ | exact ⟨rfl, _, Eq.trans (World.drewN_drewN _ _ _) (congrArg (World.drewN _) (Nat.add_assoc _ _ _))⟩); have p30 : 0 ≤ (x5_2 : Int) := of_decide_eq_true (by first | (with_reducible assumption) | assumption); have q30 : x5_2 < (a0.size : Int) := of_decide_eq_true (by first | (with_reducible assumption) | assumption); have hx30 := bt_at a0 x5_2; replace p30 := eq_true p30; replace q30 := eq_true q30) | (go_at_call 24; (with_reducible refine (lex_round.calls (bt a0 x5_2) false _ A31.out).mono ?_); rintro e w' ⟨rfl, ⟨nd, rfl⟩⟩; (try first | exact ⟨rfl, _, World.drewN_drewN _ _ _⟩ | exact ⟨rfl, _, Eq.trans (World.drewN_drewN _ _ _) (congrArg (World.drewN _) (Nat.add_assoc _ _ _))⟩); have p38 : 0 ≤ (x5_2 : Int) := of_decide_eq_true (by first | (with_reducible assumption) | assumption); have q38 : x5_2 < (a0.size : Int) := of_decide_eq_true (by first | (with_reducible assumption) | assumption); have hx38 := bt_at a0 x5_2; replace p38 := eq_true p38; replace q38 := eq_true q38) | ((with_reducible refine gate_builtin (b := .append) (xs := #[.tmp 71, .tmp 78]) rfl ?_); at_builtin; refine Kd.R_append k46 (w0 := w) w.heap.size rfl (.tmp 71) (.tmp 78) 42 46 (.agg #[(.string ⟨#[]⟩), (.int .i64 0)]) 24 rfl Tryd.underlying42 info46 rfl (by decide) (by omega) u4 x4_1 (⟨a0.extract (x5_1 : Int).toNat (x5_2 : Int).toNat, x5_1⟩ : S46) [.string (a0.extract (x5_1 : Int).toNat (x5_2 : Int).toNat), .int .i64 x5_1] (fun _ => True) (fun _ => False) rfl rfl ?aP (fun _ hk => hk.elim) ?aF ?aO ?aB ?aS ?aL ?_; (case aP => exact k46_mkM _ _ _ (⟨a0.extract (x5_1 : Int).toNat (x5_2 : Int).toNat, x5_1⟩ : S46)); (case aB => exact (by repeat (first | (with_reducible first | exact HB.out | apply below_alloc | apply pw_below_drewN | apply below_drew1) | exact HB.out))); (case aF => exact (fun _ _ => trivial)); (case aO => exact (by (with_reducible repeat (first | apply Kd.R_alloc | apply Kd.R_drewN | apply Kd.R_drew)); exact HO_4.out)); (case aS => exact (below_size (by repeat (first | (with_reducible first | exact HB.out | apply below_alloc | apply pw_below_drewN | apply below_drew1) | exact HB.out)))); (case aL => have := LMc43.out; omega); intro v115 w44 ho hb hg hat; rw [← Ny114.out] at ho; have n0_ := Aside0.mk (hb); have n1_ := Aside0.mk (ho); clear HB; clear HO_4; have HB := n0_; have HO116 := n1_; clear n0_ n1_; clear ho hb hg hat)); try go_wp2_with (first | (go_at_call 23; (with_reducible refine (lex_apart.calls (bt a0 x5_2) false _ A23.out).mono ?_); rintro e w' ⟨rfl, ⟨nd, rfl⟩⟩; (try first | exact ⟨rfl, _, World.drewN_drewN _ _ _⟩ | exact ⟨rfl, _, Eq.trans (World.drewN_drewN _ _ _) (congrArg (World.drewN _) (Nat.add_assoc _ _ _))⟩); have p30 : 0 ≤ (x5_2 : Int) := of_decide_eq_true (by first | (with_reducible assumption) | assumption); have q30 : x5_2 < (a0.size : Int) := of_decide_eq_true (by first | (with_reducible assumption) | assumption); have hx30 := bt_at a0 x5_2; replace p30 := eq_true p30; replace q30 := eq_true q30) | (go_at_call 24; (with_reducible refine (lex_round.calls (bt a0 x5_2) false _ A31.out).mono ?_); rintro e w' ⟨rfl, ⟨nd, rfl⟩⟩; (try first | exact ⟨rfl, _, World.drewN_drewN _ _ _⟩ | exact ⟨rfl, _, Eq.trans (World.drewN_drewN _ _ _) (congrArg (World.drewN _) (Nat.add_assoc _ _ _))⟩); have p38 : 0 ≤ (x5_2 : Int) := of_decide_eq_true (by first | (with_reducible assumption) | assumption); have q38 : x5_2 < (a0.size : Int) := of_decide_eq_true (by first | (with_reducible assumption) | assumption); have hx38 := bt_at a0 x5_2; replace p38 := eq_true p38; replace q38 := eq_true q38) | ((with_reducible refine gate_builtin (b := .append) (xs := #[.tmp 71, .tmp 78]) rfl ?_); at_builtin; refine Kd.R_append k46 (w0 := w) w.heap.size rfl (.tmp 71) (.tmp 78) 42 46 (.agg #[(.string ⟨#[]⟩), (.int .i64 0)]) 24 rfl Tryd.underlying42 info46 rfl (by decide) (by omega) u4 x4_1 (⟨a0.extract (x5_1 : Int).toNat (x5_2 : Int).toNat, x5_1⟩ : S46) [.string (a0.extract (x5_1 : Int).toNat (x5_2 : Int).toNat), .int .i64 x5_1] (fun _ => True) (fun _ => False) rfl rfl ?aP (fun _ hk => hk.elim) ?aF ?aO ?aB ?aS ?aL ?_; (case aP => exact k46_mkM _ _ _ (⟨a0.extract (x5_1 : Int).toNat (x5_2 : Int).toNat, x5_1⟩ : S46)); (case aB => exact (by repeat (first | (with_reducible first | exact HB.out | apply below_alloc | apply pw_below_drewN | apply below_drew1) | exact HB.out))); (case aF => exact (fun _ _ => trivial)); (case aO => exact (by (with_reducible repeat (first | apply Kd.R_alloc | apply Kd.R_drewN | apply Kd.R_drew)); exact HO_4.out)); (case aS => exact (below_size (by repeat (first | (with_reducible first | exact HB.out | apply below_alloc | apply pw_below_drewN | apply below_drew1) | exact HB.out)))); (case aL => have := LMc43.out; omega); intro v115 w44 ho hb hg hat; rw [← Ny114.out] at ho; have n0_ := Aside0.mk (hb); have n1_ := Aside0.mk (ho); clear HB; clear HO_4; have HB := n0_; have HO116 := n1_; clear n0_ n1_; clear ho hb hg hat)))
                                        go_roundg k2
                                        case measure => have := HK1.out; have := HK2.out; omega
                                        case rel => exact ⟨(y114), (x5_2), (by first | rfl | (simp; done) | (simp [*]; done)), H', ⟨by have := HK1.out; have := HK2.out; omega⟩, ⟨by (with_reducible repeat (first | apply Kd.R_alloc | apply Kd.R_drewN | apply Kd.R_drew)); exact HO116.out⟩, ⟨by repeat (first | (with_reducible first | exact HB.out | apply below_alloc | apply pw_below_drewN | apply below_drew1) | exact HB.out)⟩⟩
                                      · rw [if_neg c43] at H
                                        exact absurd H (by simp)
                                    · rw [if_neg c42] at H
                                      exact absurd H (by simp)
                                  · rw [if_neg c41] at H
                                    exact absurd H (by simp)
                                · rw [if_neg c40] at H
                                  exact absurd H (by simp)
                              · rw [if_neg c39] at H
                                have c39b0 : ((bt a0 x5_2) == 59) = false := beq_eq_false_iff_ne.mpr c39
                                have c39b1 : ((bt a0 x5_2) != 59) = true := bne_iff_ne.mpr c39
                                have H' := Aside0.mk H
                                clear H
                                have p22 : 0 ≤ (x5_2 : Int) := of_decide_eq_true (by first | (with_reducible assumption) | assumption)
                                have q22 : x5_2 < (a0.size : Int) := of_decide_eq_true (by first | (with_reducible assumption) | assumption)
                                have hx22 := bt_at a0 x5_2
                                replace p22 := eq_true p22
                                replace q22 := eq_true q22
                                go_wp2_with (first | (go_at_call 23; (with_reducible refine (lex_apart.calls (bt a0 x5_2) false _ A23.out).mono ?_); rintro e w' ⟨rfl, ⟨nd, rfl⟩⟩; (try first | exact ⟨rfl, _, World.drewN_drewN _ _ _⟩ | exact ⟨rfl, _, Eq.trans (World.drewN_drewN _ _ _) (congrArg (World.drewN _) (Nat.add_assoc _ _ _))⟩); have p30 : 0 ≤ (x5_2 : Int) := of_decide_eq_true (by first | (with_reducible assumption) | assumption); have q30 : x5_2 < (a0.size : Int) := of_decide_eq_true (by first | (with_reducible assumption) | assumption); have hx30 := bt_at a0 x5_2; replace p30 := eq_true p30; replace q30 := eq_true q30) | (go_at_call 24; (with_reducible refine (lex_round.calls (bt a0 x5_2) false _ A31.out).mono ?_); rintro e w' ⟨rfl, ⟨nd, rfl⟩⟩; (try first | exact ⟨rfl, _, World.drewN_drewN _ _ _⟩ | exact ⟨rfl, _, Eq.trans (World.drewN_drewN _ _ _) (congrArg (World.drewN _) (Nat.add_assoc _ _ _))⟩); have p38 : 0 ≤ (x5_2 : Int) := of_decide_eq_true (by first | (with_reducible assumption) | assumption); have q38 : x5_2 < (a0.size : Int) := of_decide_eq_true (by first | (with_reducible assumption) | assumption); have hx38 := bt_at a0 x5_2; replace p38 := eq_true p38; replace q38 := eq_true q38))
                                repeat (go_quiet (first | (go_at_call 23; (with_reducible refine (lex_apart.calls (bt a0 x5_2) false _ A23.out).mono ?_); rintro e w' ⟨rfl, ⟨nd, rfl⟩⟩; (try first | exact ⟨rfl, _, World.drewN_drewN _ _ _⟩ | exact ⟨rfl, _, Eq.trans (World.drewN_drewN _ _ _) (congrArg (World.drewN _) (Nat.add_assoc _ _ _))⟩); have p30 : 0 ≤ (x5_2 : Int) := of_decide_eq_true (by first | (with_reducible assumption) | assumption); have q30 : x5_2 < (a0.size : Int) := of_decide_eq_true (by first | (with_reducible assumption) | assumption); have hx30 := bt_at a0 x5_2; replace p30 := eq_true p30; replace q30 := eq_true q30) | (go_at_call 24; (with_reducible refine (lex_round.calls (bt a0 x5_2) false _ A31.out).mono ?_); rintro e w' ⟨rfl, ⟨nd, rfl⟩⟩; (try first | exact ⟨rfl, _, World.drewN_drewN _ _ _⟩ | exact ⟨rfl, _, Eq.trans (World.drewN_drewN _ _ _) (congrArg (World.drewN _) (Nat.add_assoc _ _ _))⟩); have p38 : 0 ≤ (x5_2 : Int) := of_decide_eq_true (by first | (with_reducible assumption) | assumption); have q38 : x5_2 < (a0.size : Int) := of_decide_eq_true (by first | (with_reducible assumption) | assumption); have hx38 := bt_at a0 x5_2; replace p38 := eq_true p38; replace q38 := eq_true q38)); try go_wp2_with (first | (go_at_call 23; (with_reducible refine (lex_apart.calls (bt a0 x5_2) false _ A23.out).mono ?_); rintro e w' ⟨rfl, ⟨nd, rfl⟩⟩; (try first | exact ⟨rfl, _, World.drewN_drewN _ _ _⟩ | exact ⟨rfl, _, Eq.trans (World.drewN_drewN _ _ _) (congrArg (World.drewN _) (Nat.add_assoc _ _ _))⟩); have p30 : 0 ≤ (x5_2 : Int) := of_decide_eq_true (by first | (with_reducible assumption) | assumption); have q30 : x5_2 < (a0.size : Int) := of_decide_eq_true (by first | (with_reducible assumption) | assumption); have hx30 := bt_at a0 x5_2; replace p30 := eq_true p30; replace q30 := eq_true q30) | (go_at_call 24; (with_reducible refine (lex_round.calls (bt a0 x5_2) false _ A31.out).mono ?_); rintro e w' ⟨rfl, ⟨nd, rfl⟩⟩; (try first | exact ⟨rfl, _, World.drewN_drewN _ _ _⟩ | exact ⟨rfl, _, Eq.trans (World.drewN_drewN _ _ _) (congrArg (World.drewN _) (Nat.add_assoc _ _ _))⟩); have p38 : 0 ≤ (x5_2 : Int) := of_decide_eq_true (by first | (with_reducible assumption) | assumption); have q38 : x5_2 < (a0.size : Int) := of_decide_eq_true (by first | (with_reducible assumption) | assumption); have hx38 := bt_at a0 x5_2; replace p38 := eq_true p38; replace q38 := eq_true q38)))
                                go_roundg k2
                                case measure => have := HK1.out; have := HK2.out; omega
                                case rel => exact ⟨(wrap64 (x5_2 + 1)), (by first | rfl | (simp; done) | (simp [*]; done)), H', ⟨by have := HK1.out; have := HK2.out; omega⟩, ⟨by (with_reducible repeat (first | apply Kd.R_alloc | apply Kd.R_drewN | apply Kd.R_drew)); exact HO_4.out⟩, ⟨by repeat (first | (with_reducible first | exact HB.out | apply below_alloc | apply pw_below_drewN | apply below_drew1) | exact HB.out)⟩⟩
                        · rw [if_neg c21] at H
                          exact absurd H (by simp)
                      · rw [if_neg c20] at H
                        have c20b0 : decide (x5_2 < (a0.size : Int)) = false := decide_eq_false c20
                        clear c20
                        by_cases c45 : 0 ≤ x5_1
                        · rw [if_pos c45] at H
                          have c45b0 := eq_true c45
                          have c45b1 : decide (0 ≤ x5_1) = true := decide_eq_true c45
                          clear c45
                          by_cases c46 : x5_1 ≤ x5_2
                          · rw [if_pos c46] at H
                            have c46b0 := eq_true c46
                            have c46b1 : decide (x5_1 ≤ x5_2) = true := decide_eq_true c46
                            clear c46
                            by_cases c47 : x5_2 ≤ (a0.size : Int)
                            · rw [if_pos c47] at H
                              have c47b0 := eq_true c47
                              have c47b1 : decide (x5_2 ≤ (a0.size : Int)) = true := decide_eq_true c47
                              clear c47
                              by_cases c48 : x4_1.length < 5864062014805
                              · rw [if_pos c48] at H
                                have LMc48 := Aside0.mk c48
                                clear c48
                                obtain ⟨y117, hy117⟩ : ∃ y_ : List (S46), y_ = (x4_1 ++ [(⟨a0.extract (x5_1 : Int).toNat (x5_2 : Int).toNat, x5_1⟩ : S46)]) := ⟨_, rfl⟩
                                replace H : (lex_Words.l0 k2 a0 y117 x5_2) = some (r1, r2) := by first | (rw [hy117]; with_reducible exact H) | (have H2_ := (Option.bind_some _ _).symm.trans H; rw [hy117]; with_reducible exact H2_) | (have H2_ := (Option.bind_some _ _).symm.trans H; with_reducible exact H2_) | with_reducible exact H | (rw [hy117]; exact H) | exact H
                                have Ny117 := Aside0.mk hy117
                                clear hy117
                                have H' := Aside0.mk H
                                clear H
                                go_wp2_with (first | ((with_reducible refine gate_builtin (b := .append) (xs := #[.tmp 71, .tmp 78]) rfl ?_); at_builtin; refine Kd.R_append k46 (w0 := w) w.heap.size rfl (.tmp 71) (.tmp 78) 42 46 (.agg #[(.string ⟨#[]⟩), (.int .i64 0)]) 24 rfl Tryd.underlying42 info46 rfl (by decide) (by omega) u4 x4_1 (⟨a0.extract (x5_1 : Int).toNat (x5_2 : Int).toNat, x5_1⟩ : S46) [.string (a0.extract (x5_1 : Int).toNat (x5_2 : Int).toNat), .int .i64 x5_1] (fun _ => True) (fun _ => False) rfl rfl ?aP (fun _ hk => hk.elim) ?aF ?aO ?aB ?aS ?aL ?_; (case aP => exact k46_mkM _ _ _ (⟨a0.extract (x5_1 : Int).toNat (x5_2 : Int).toNat, x5_1⟩ : S46)); (case aB => exact (by repeat (first | (with_reducible first | exact HB.out | apply below_alloc | apply pw_below_drewN | apply below_drew1) | exact HB.out))); (case aF => exact (fun _ _ => trivial)); (case aO => exact (by (with_reducible repeat (first | apply Kd.R_alloc | apply Kd.R_drewN | apply Kd.R_drew)); exact HO_4.out)); (case aS => exact (below_size (by repeat (first | (with_reducible first | exact HB.out | apply below_alloc | apply pw_below_drewN | apply below_drew1) | exact HB.out)))); (case aL => have := LMc48.out; omega); intro v118 w49 ho hb hg hat; rw [← Ny117.out] at ho; have n0_ := Aside0.mk (hb); have n1_ := Aside0.mk (ho); clear HB; clear HO_4; have HB := n0_; have HO119 := n1_; clear n0_ n1_; clear ho hb hg hat))
                                repeat (go_quiet (first | ((with_reducible refine gate_builtin (b := .append) (xs := #[.tmp 71, .tmp 78]) rfl ?_); at_builtin; refine Kd.R_append k46 (w0 := w) w.heap.size rfl (.tmp 71) (.tmp 78) 42 46 (.agg #[(.string ⟨#[]⟩), (.int .i64 0)]) 24 rfl Tryd.underlying42 info46 rfl (by decide) (by omega) u4 x4_1 (⟨a0.extract (x5_1 : Int).toNat (x5_2 : Int).toNat, x5_1⟩ : S46) [.string (a0.extract (x5_1 : Int).toNat (x5_2 : Int).toNat), .int .i64 x5_1] (fun _ => True) (fun _ => False) rfl rfl ?aP (fun _ hk => hk.elim) ?aF ?aO ?aB ?aS ?aL ?_; (case aP => exact k46_mkM _ _ _ (⟨a0.extract (x5_1 : Int).toNat (x5_2 : Int).toNat, x5_1⟩ : S46)); (case aB => exact (by repeat (first | (with_reducible first | exact HB.out | apply below_alloc | apply pw_below_drewN | apply below_drew1) | exact HB.out))); (case aF => exact (fun _ _ => trivial)); (case aO => exact (by (with_reducible repeat (first | apply Kd.R_alloc | apply Kd.R_drewN | apply Kd.R_drew)); exact HO_4.out)); (case aS => exact (below_size (by repeat (first | (with_reducible first | exact HB.out | apply below_alloc | apply pw_below_drewN | apply below_drew1) | exact HB.out)))); (case aL => have := LMc48.out; omega); intro v118 w49 ho hb hg hat; rw [← Ny117.out] at ho; have n0_ := Aside0.mk (hb); have n1_ := Aside0.mk (ho); clear HB; clear HO_4; have HB := n0_; have HO119 := n1_; clear n0_ n1_; clear ho hb hg hat)); try go_wp2_with (first | ((with_reducible refine gate_builtin (b := .append) (xs := #[.tmp 71, .tmp 78]) rfl ?_); at_builtin; refine Kd.R_append k46 (w0 := w) w.heap.size rfl (.tmp 71) (.tmp 78) 42 46 (.agg #[(.string ⟨#[]⟩), (.int .i64 0)]) 24 rfl Tryd.underlying42 info46 rfl (by decide) (by omega) u4 x4_1 (⟨a0.extract (x5_1 : Int).toNat (x5_2 : Int).toNat, x5_1⟩ : S46) [.string (a0.extract (x5_1 : Int).toNat (x5_2 : Int).toNat), .int .i64 x5_1] (fun _ => True) (fun _ => False) rfl rfl ?aP (fun _ hk => hk.elim) ?aF ?aO ?aB ?aS ?aL ?_; (case aP => exact k46_mkM _ _ _ (⟨a0.extract (x5_1 : Int).toNat (x5_2 : Int).toNat, x5_1⟩ : S46)); (case aB => exact (by repeat (first | (with_reducible first | exact HB.out | apply below_alloc | apply pw_below_drewN | apply below_drew1) | exact HB.out))); (case aF => exact (fun _ _ => trivial)); (case aO => exact (by (with_reducible repeat (first | apply Kd.R_alloc | apply Kd.R_drewN | apply Kd.R_drew)); exact HO_4.out)); (case aS => exact (below_size (by repeat (first | (with_reducible first | exact HB.out | apply below_alloc | apply pw_below_drewN | apply below_drew1) | exact HB.out)))); (case aL => have := LMc48.out; omega); intro v118 w49 ho hb hg hat; rw [← Ny117.out] at ho; have n0_ := Aside0.mk (hb); have n1_ := Aside0.mk (ho); clear HB; clear HO_4; have HB := n0_; have HO119 := n1_; clear n0_ n1_; clear ho hb hg hat)))
                                go_roundg k2
                                case measure => have := HK1.out; have := HK2.out; omega
                                case rel => exact ⟨(y117), (x5_2), (by first | rfl | (simp; done) | (simp [*]; done)), H', ⟨by have := HK1.out; have := HK2.out; omega⟩, ⟨by (with_reducible repeat (first | apply Kd.R_alloc | apply Kd.R_drewN | apply Kd.R_drew)); exact HO119.out⟩, ⟨by repeat (first | (with_reducible first | exact HB.out | apply below_alloc | apply pw_below_drewN | apply below_drew1) | exact HB.out)⟩⟩
                              · rw [if_neg c48] at H
                                exact absurd H (by simp)
                            · rw [if_neg c47] at H
                              exact absurd H (by simp)
                          · rw [if_neg c46] at H
                            exact absurd H (by simp)
                        · rw [if_neg c45] at H
                          exact absurd H (by simp)
          · rw [if_neg c4] at H
            exact absurd H (by simp)
        · rw [if_neg c3] at H
          have c3b0 : decide (x5_1 < (a0.size : Int)) = false := decide_eq_false c3
          clear c3
          simp only [Option.some.injEq, Prod.mk.injEq] at H
          obtain ⟨rfl, rfl⟩ := H
          go_wp2
          repeat (go_quiet (fail); try go_wp2)
          go_ret2
          exact ⟨_, by first | rfl | (simp [errW_none, errW_some] <;> rfl) | (simp [*, errW_none, errW_some] <;> rfl) | (simp [errW_none, errW_some] <;> (rw [Bool.eq_iff_iff]; simp; done)), by (with_reducible repeat (first | apply Kd.R_alloc | apply Kd.R_drewN | apply Kd.R_drew)); exact HO_4.out, by repeat (first | (with_reducible first | exact HB.out | apply below_alloc | apply pw_below_drewN | apply below_drew1) | exact HB.out)⟩

end Go.Proofs.YthbiofcgaegjkaaDoor.PTreeL
