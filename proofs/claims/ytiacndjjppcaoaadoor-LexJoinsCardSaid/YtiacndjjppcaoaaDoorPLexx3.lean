/- For each Go function that the laws of this group reach: a plain function with the same answers, and the proof that the call comes to them wherever the plain function has an answer. No other condition. (Laid by a program of this session.) -/
import Derived.Test.YtiacndjjppcaoaaDoorPLexx0
import Derived.Test.YtiacndjjppcaoaaDoorPLexx1
namespace Go.Proofs.YtiacndjjppcaoaaDoor.PLex
open Go.RowKit Go.Proofs.YtiacndjjppcaoaaDoorW.PrintWords Go.Proofs.YtiacndjjppcaoaaDoorW.PrintLast Go.Proofs.YtiacndjjppcaoaaDoorW.PrintMore
attribute [local go_sem] max2_int min2_int max_two min_two max_three min_three max_four min_four   -- for this text's walks alone
set_option linter.unusedVariables false
set_option linter.unusedSimpArgs false

/-! ### gristmilllaw3_LexJoins: function 4 -/
mutual
def gristmilllaw3_LexJoins.j0 : Nat → ByteArray → ByteArray → Bool → Bool → Option (Bool)
  | 0, _, _, _, _ => none
  | k + 1, x0, x1, x5, x29 => if x29 = true then (some x5) else ((lex_Words.f k x0).bind fun bt156 => ((lex_Words.f k x1).bind fun bt160 => (if x0.size + 1 ≤ 9223372036854775807 then (if (x0 ++ (⟨#[10]⟩ : ByteArray)).size + x1.size ≤ 9223372036854775807 then ((lex_Words.f k ((x0 ++ (⟨#[10]⟩ : ByteArray)) ++ x1)).bind fun bt164 => (if bt156.2.isNone = true then (if bt160.2.isNone = true then (if bt164.2.isNone = true then (gristmilllaw3_LexJoins.j1 k x0 x1 x5 bt156.1 bt160.1 bt164.1 ((bt164.1.length : Int) != (wrap64 ((bt156.1.length : Int) + (bt160.1.length : Int))))) else (gristmilllaw3_LexJoins.j1 k x0 x1 x5 bt156.1 bt160.1 bt164.1 true)) else (gristmilllaw3_LexJoins.j1 k x0 x1 x5 bt156.1 bt160.1 bt164.1 true)) else (gristmilllaw3_LexJoins.j1 k x0 x1 x5 bt156.1 bt160.1 bt164.1 true))) else (none)) else (none))))
def gristmilllaw3_LexJoins.j1 : Nat → ByteArray → ByteArray → Bool → List (S32) → List (S32) → List (S32) → Bool → Option (Bool)
  | 0, _, _, _, _, _, _, _ => none
  | k + 1, x0, x1, x5, x6, x8, x10, x68 => if x68 = true then (some false) else (gristmilllaw3_LexJoins.l0 k x0 x1 x5 x6 x8 x10 0)
def gristmilllaw3_LexJoins.l0 : Nat → ByteArray → ByteArray → Bool → List (S32) → List (S32) → List (S32) → Int → Option (Bool)
  | 0, _, _, _, _, _, _, _ => none
  | k + 1, x0, x1, x5, x6, x8, x10, x12 => if x12 < (x10.length : Int) then (if x12 < (x6.length : Int) then (if 0 ≤ x12 then (if ((rd_T32 x10 x12).f0).toList = ((rd_T32 x6 x12).f0).toList then (gristmilllaw3_LexJoins.j3 k x0 x1 x5 x6 x8 x10 x12 (((rd_T32 x10 x12).f1) != ((rd_T32 x6 x12).f1))) else (gristmilllaw3_LexJoins.j3 k x0 x1 x5 x6 x8 x10 x12 true)) else (none)) else (if 0 ≤ (wrap64 (x12 - (x6.length : Int))) then (if (wrap64 (x12 - (x6.length : Int))) < (x8.length : Int) then (if 0 ≤ x12 then (if ((rd_T32 x10 x12).f0).toList = ((rd_T32 x8 (wrap64 (x12 - (x6.length : Int)))).f0).toList then (if ((rd_T32 x10 x12).f1) = (wrap64 ((wrap64 (((rd_T32 x8 (wrap64 (x12 - (x6.length : Int)))).f1) + (x0.size : Int))) + 1)) then (gristmilllaw3_LexJoins.l0 k x0 x1 x5 x6 x8 x10 (wrap64 (x12 + 1))) else (some false)) else (some false)) else (none)) else (none)) else (none))) else (if x0.size + 2 ≤ 9223372036854775807 then (if (x0 ++ (⟨#[10, 59]⟩ : ByteArray)).size + x1.size ≤ 9223372036854775807 then ((lex_Words.f k ((x0 ++ (⟨#[10, 59]⟩ : ByteArray)) ++ x1)).bind fun bt179 => (gristmilllaw3_LexJoins.l1 k x1 x5 x6 bt179.1 bt179.2 0)) else (none)) else (none))
def gristmilllaw3_LexJoins.j3 : Nat → ByteArray → ByteArray → Bool → List (S32) → List (S32) → List (S32) → Int → Bool → Option (Bool)
  | 0, _, _, _, _, _, _, _, _ => none
  | k + 1, x0, x1, x5, x6, x8, x10, x12, x102 => if x102 = true then (some false) else (gristmilllaw3_LexJoins.l0 k x0 x1 x5 x6 x8 x10 (wrap64 (x12 + 1)))
def gristmilllaw3_LexJoins.l1 : Nat → ByteArray → Bool → List (S32) → List (S32) → Option Int → Int → Option (Bool)
  | 0, _, _, _, _, _, _ => none
  | k + 1, x1, x5, x6, x14, x15, x16 => if x16 < (x1.size : Int) then (if 0 ≤ x16 then (if (bt x1 x16) = 10 then (if x16 ≤ (x1.size : Int) then ((lex_Words.f k (x1.extract (x16 : Int).toNat x1.size)).bind fun bt183 => (if x5 = true then (if x15.isNone = true then (if bt183.2.isNone = true then (some ((x14.length : Int) == (wrap64 ((x6.length : Int) + (bt183.1.length : Int))))) else (some false)) else (some false)) else (some false))) else (none)) else (gristmilllaw3_LexJoins.l1 k x1 x5 x6 x14 x15 (wrap64 (x16 + 1)))) else (none)) else (if 0 ≤ x16 then (if x16 ≤ (x1.size : Int) then ((lex_Words.f k (x1.extract (x16 : Int).toNat x1.size)).bind fun bt189 => (if x5 = true then (if x15.isNone = true then (if bt189.2.isNone = true then (some ((x14.length : Int) == (wrap64 ((x6.length : Int) + (bt189.1.length : Int))))) else (some false)) else (some false)) else (some false))) else (none)) else (none))
end
def gristmilllaw3_LexJoins.f (k : Nat) (a0 : ByteArray) (a1 : ByteArray) : Option (Bool) := (gristmilllaw3_first.f k).bind fun t155 => (if t155 = true then (if (a0.size : Int) > 200 then (gristmilllaw3_LexJoins.j0 k a0 a1 t155 true) else (gristmilllaw3_LexJoins.j0 k a0 a1 t155 (decide ((a1.size : Int) > 200)))) else (some false))
theorem gristmilllaw3_LexJoins.mono_l : ∀ k, (∀ y0 y1 y2 y3, LeO (gristmilllaw3_LexJoins.j0 k y0 y1 y2 y3) (gristmilllaw3_LexJoins.j0 (k + 1) y0 y1 y2 y3)) ∧ (∀ y0 y1 y2 y3 y4 y5 y6, LeO (gristmilllaw3_LexJoins.j1 k y0 y1 y2 y3 y4 y5 y6) (gristmilllaw3_LexJoins.j1 (k + 1) y0 y1 y2 y3 y4 y5 y6)) ∧ (∀ y0 y1 y2 y3 y4 y5 y6, LeO (gristmilllaw3_LexJoins.l0 k y0 y1 y2 y3 y4 y5 y6) (gristmilllaw3_LexJoins.l0 (k + 1) y0 y1 y2 y3 y4 y5 y6)) ∧ (∀ y0 y1 y2 y3 y4 y5 y6 y7, LeO (gristmilllaw3_LexJoins.j3 k y0 y1 y2 y3 y4 y5 y6 y7) (gristmilllaw3_LexJoins.j3 (k + 1) y0 y1 y2 y3 y4 y5 y6 y7)) ∧ (∀ y0 y1 y2 y3 y4 y5, LeO (gristmilllaw3_LexJoins.l1 k y0 y1 y2 y3 y4 y5) (gristmilllaw3_LexJoins.l1 (k + 1) y0 y1 y2 y3 y4 y5))
  | 0 => ⟨fun _ _ _ _ r h => by simp [gristmilllaw3_LexJoins.j0] at h, fun _ _ _ _ _ _ _ r h => by simp [gristmilllaw3_LexJoins.j1] at h, fun _ _ _ _ _ _ _ r h => by simp [gristmilllaw3_LexJoins.l0] at h, fun _ _ _ _ _ _ _ _ r h => by simp [gristmilllaw3_LexJoins.j3] at h, fun _ _ _ _ _ _ r h => by simp [gristmilllaw3_LexJoins.l1] at h⟩
  | k + 1 => by
    obtain ⟨ih0, ih1, ih2, ih3, ih4⟩ := gristmilllaw3_LexJoins.mono_l k
    refine ⟨?_, ?_, ?_, ?_, ?_⟩
    · intro y0 y1 y2 y3
      unfold gristmilllaw3_LexJoins.j0
      repeat' first
      | (with_reducible exact ih0 _ _ _ _)
      | (with_reducible exact ih1 _ _ _ _ _ _ _)
      | (with_reducible exact ih2 _ _ _ _ _ _ _)
      | (with_reducible exact ih3 _ _ _ _ _ _ _ _)
      | (with_reducible exact ih4 _ _ _ _ _ _)
      | (with_reducible exact gristmilllaw3_first.mono _)
      | (with_reducible exact lex_Words.mono _ _)
      | (with_reducible exact LeO.refl _)
      | (with_reducible exact LeO.none _)
      | (with_reducible refine LeO.ite ?_ ?_)
      | (with_reducible refine LeO.bind ?_ (fun _ => ?_))
      | exact ih0 _ _ _ _
      | exact ih1 _ _ _ _ _ _ _
      | exact ih2 _ _ _ _ _ _ _
      | exact ih3 _ _ _ _ _ _ _ _
      | exact ih4 _ _ _ _ _ _
      | exact gristmilllaw3_first.mono _
      | exact lex_Words.mono _ _
      | exact LeO.none _
      | refine LeO.ite ?_ ?_
      | refine LeO.bind ?_ (fun _ => ?_)
    · intro y0 y1 y2 y3 y4 y5 y6
      unfold gristmilllaw3_LexJoins.j1
      repeat' first
      | (with_reducible exact ih0 _ _ _ _)
      | (with_reducible exact ih1 _ _ _ _ _ _ _)
      | (with_reducible exact ih2 _ _ _ _ _ _ _)
      | (with_reducible exact ih3 _ _ _ _ _ _ _ _)
      | (with_reducible exact ih4 _ _ _ _ _ _)
      | (with_reducible exact gristmilllaw3_first.mono _)
      | (with_reducible exact lex_Words.mono _ _)
      | (with_reducible exact LeO.refl _)
      | (with_reducible exact LeO.none _)
      | (with_reducible refine LeO.ite ?_ ?_)
      | (with_reducible refine LeO.bind ?_ (fun _ => ?_))
      | exact ih0 _ _ _ _
      | exact ih1 _ _ _ _ _ _ _
      | exact ih2 _ _ _ _ _ _ _
      | exact ih3 _ _ _ _ _ _ _ _
      | exact ih4 _ _ _ _ _ _
      | exact gristmilllaw3_first.mono _
      | exact lex_Words.mono _ _
      | exact LeO.none _
      | refine LeO.ite ?_ ?_
      | refine LeO.bind ?_ (fun _ => ?_)
    · intro y0 y1 y2 y3 y4 y5 y6
      unfold gristmilllaw3_LexJoins.l0
      repeat' first
      | (with_reducible exact ih0 _ _ _ _)
      | (with_reducible exact ih1 _ _ _ _ _ _ _)
      | (with_reducible exact ih2 _ _ _ _ _ _ _)
      | (with_reducible exact ih3 _ _ _ _ _ _ _ _)
      | (with_reducible exact ih4 _ _ _ _ _ _)
      | (with_reducible exact gristmilllaw3_first.mono _)
      | (with_reducible exact lex_Words.mono _ _)
      | (with_reducible exact LeO.refl _)
      | (with_reducible exact LeO.none _)
      | (with_reducible refine LeO.ite ?_ ?_)
      | (with_reducible refine LeO.bind ?_ (fun _ => ?_))
      | exact ih0 _ _ _ _
      | exact ih1 _ _ _ _ _ _ _
      | exact ih2 _ _ _ _ _ _ _
      | exact ih3 _ _ _ _ _ _ _ _
      | exact ih4 _ _ _ _ _ _
      | exact gristmilllaw3_first.mono _
      | exact lex_Words.mono _ _
      | exact LeO.none _
      | refine LeO.ite ?_ ?_
      | refine LeO.bind ?_ (fun _ => ?_)
    · intro y0 y1 y2 y3 y4 y5 y6 y7
      unfold gristmilllaw3_LexJoins.j3
      repeat' first
      | (with_reducible exact ih0 _ _ _ _)
      | (with_reducible exact ih1 _ _ _ _ _ _ _)
      | (with_reducible exact ih2 _ _ _ _ _ _ _)
      | (with_reducible exact ih3 _ _ _ _ _ _ _ _)
      | (with_reducible exact ih4 _ _ _ _ _ _)
      | (with_reducible exact gristmilllaw3_first.mono _)
      | (with_reducible exact lex_Words.mono _ _)
      | (with_reducible exact LeO.refl _)
      | (with_reducible exact LeO.none _)
      | (with_reducible refine LeO.ite ?_ ?_)
      | (with_reducible refine LeO.bind ?_ (fun _ => ?_))
      | exact ih0 _ _ _ _
      | exact ih1 _ _ _ _ _ _ _
      | exact ih2 _ _ _ _ _ _ _
      | exact ih3 _ _ _ _ _ _ _ _
      | exact ih4 _ _ _ _ _ _
      | exact gristmilllaw3_first.mono _
      | exact lex_Words.mono _ _
      | exact LeO.none _
      | refine LeO.ite ?_ ?_
      | refine LeO.bind ?_ (fun _ => ?_)
    · intro y0 y1 y2 y3 y4 y5
      unfold gristmilllaw3_LexJoins.l1
      repeat' first
      | (with_reducible exact ih0 _ _ _ _)
      | (with_reducible exact ih1 _ _ _ _ _ _ _)
      | (with_reducible exact ih2 _ _ _ _ _ _ _)
      | (with_reducible exact ih3 _ _ _ _ _ _ _ _)
      | (with_reducible exact ih4 _ _ _ _ _ _)
      | (with_reducible exact gristmilllaw3_first.mono _)
      | (with_reducible exact lex_Words.mono _ _)
      | (with_reducible exact LeO.refl _)
      | (with_reducible exact LeO.none _)
      | (with_reducible refine LeO.ite ?_ ?_)
      | (with_reducible refine LeO.bind ?_ (fun _ => ?_))
      | exact ih0 _ _ _ _
      | exact ih1 _ _ _ _ _ _ _
      | exact ih2 _ _ _ _ _ _ _
      | exact ih3 _ _ _ _ _ _ _ _
      | exact ih4 _ _ _ _ _ _
      | exact gristmilllaw3_first.mono _
      | exact lex_Words.mono _ _
      | exact LeO.none _
      | refine LeO.ite ?_ ?_
      | refine LeO.bind ?_ (fun _ => ?_)
theorem gristmilllaw3_LexJoins.mono : ∀ a0 a1 k, LeO (gristmilllaw3_LexJoins.f k a0 a1) (gristmilllaw3_LexJoins.f (k + 1) a0 a1) := by
  intro a0 a1 k
  obtain ⟨ih0, ih1, ih2, ih3, ih4⟩ := gristmilllaw3_LexJoins.mono_l k
  unfold gristmilllaw3_LexJoins.f
  repeat' first
      | (with_reducible exact ih0 _ _ _ _)
      | (with_reducible exact ih1 _ _ _ _ _ _ _)
      | (with_reducible exact ih2 _ _ _ _ _ _ _)
      | (with_reducible exact ih3 _ _ _ _ _ _ _ _)
      | (with_reducible exact ih4 _ _ _ _ _ _)
      | (with_reducible exact gristmilllaw3_first.mono _)
      | (with_reducible exact lex_Words.mono _ _)
      | (with_reducible exact LeO.refl _)
      | (with_reducible exact LeO.none _)
      | (with_reducible refine LeO.ite ?_ ?_)
      | (with_reducible refine LeO.bind ?_ (fun _ => ?_))
      | exact ih0 _ _ _ _
      | exact ih1 _ _ _ _ _ _ _
      | exact ih2 _ _ _ _ _ _ _
      | exact ih3 _ _ _ _ _ _ _ _
      | exact ih4 _ _ _ _ _ _
      | exact gristmilllaw3_first.mono _
      | exact lex_Words.mono _ _
      | exact LeO.none _
      | refine LeO.ite ?_ ?_
      | refine LeO.bind ?_ (fun _ => ?_)
set_option maxHeartbeats 8000000 in
set_option maxRecDepth 100000 in
theorem gristmilllaw3_LexJoins.calls (k : Nat) (a0 : ByteArray) (a1 : ByteArray) (r : Bool) (w : World) (h : gristmilllaw3_LexJoins.f k a0 a1 = some r) :
    Calls Tryd.prog 4 #[.string a0, .string a1] w fun e w' => e = .returned (.bool r) ∧ Below w.heap.size w w' := by
  have hu32 := Tryd.underlying32
  have hu28 := Tryd.underlying28
  have HB := Aside0.mk (Below.refl w.heap.size w)
  have H : ((gristmilllaw3_first.f k).bind fun t155 => (if t155 = true then (if (a0.size : Int) > 200 then (gristmilllaw3_LexJoins.j0 k a0 a1 t155 true) else (gristmilllaw3_LexJoins.j0 k a0 a1 t155 (decide ((a1.size : Int) > 200)))) else (some false))) = some r := h
  clear h
  replace H := Option.bind_eq_some_iff.mp H
  obtain ⟨t155, A30, H⟩ := H
  replace H : (if t155 = true then (if (a0.size : Int) > 200 then (gristmilllaw3_LexJoins.j0 k a0 a1 t155 true) else (gristmilllaw3_LexJoins.j0 k a0 a1 t155 (decide ((a1.size : Int) > 200)))) else (some false)) = some r := H
  have A3 := Aside0.mk A30
  clear A30
  by_cases c4 : t155 = true
  · subst c4
    have H1 : (if (a0.size : Int) > 200 then (gristmilllaw3_LexJoins.j0 k a0 a1 true true) else (gristmilllaw3_LexJoins.j0 k a0 a1 true (decide ((a1.size : Int) > 200)))) = some r := by rw [if_pos rfl] at H; exact H
    clear H
    have H := H1
    clear H1
    have HC5 := Aside0.mk H
    clear H
    go_enter Tryd.func4, Tryd.ntmps4
    go_upto_region 4 with (first | (go_at_call 8; (with_reducible refine (gristmilllaw3_first.calls k  true _ A3.out).mono ?_); rintro e w6 ⟨rfl, hb⟩; have n0_ := Aside0.mk (below_step (by repeat (first | (with_reducible first | exact HB.out | apply below_alloc | apply pw_below_drewN | apply below_drew1) | exact HB.out)) hb); clear HB; have HB := n0_; clear n0_; (try clear hb); (try clear hb2); (try clear hk); (try clear hi)))
    repeat (go_quiet (first | (go_at_call 8; (with_reducible refine (gristmilllaw3_first.calls k  true _ A3.out).mono ?_); rintro e w6 ⟨rfl, hb⟩; have n0_ := Aside0.mk (below_step (by repeat (first | (with_reducible first | exact HB.out | apply below_alloc | apply pw_below_drewN | apply below_drew1) | exact HB.out)) hb); clear HB; have HB := n0_; clear n0_; (try clear hb); (try clear hb2); (try clear hk); (try clear hi))); go_upto_region 4 with (first | (go_at_call 8; (with_reducible refine (gristmilllaw3_first.calls k  true _ A3.out).mono ?_); rintro e w6 ⟨rfl, hb⟩; have n0_ := Aside0.mk (below_step (by repeat (first | (with_reducible first | exact HB.out | apply below_alloc | apply pw_below_drewN | apply below_drew1) | exact HB.out)) hb); clear HB; have HB := n0_; clear n0_; (try clear hb); (try clear hb2); (try clear hk); (try clear hi))))
    (try simp only [Act.put, List.setIfInBounds_toArray, List.set_cons_zero, List.set_cons_succ])
    go_cut [29] (fun v29 wc => ∃ (kq : Nat) (x29_4 : Bool), v29 = .bool x29_4 ∧ Aside0 (gristmilllaw3_LexJoins.j0 kq a0 a1 true x29_4 = some r) ∧ Aside0 (kq ≤ k) ∧ Aside0 (Below w.heap.size w wc))
    case first =>
      have H := HC5.out
      clear HC5
      by_cases c7 : (a0.size : Int) > 200
      · rw [if_pos c7] at H
        have c7b0 : decide (200 < (a0.size : Int)) = true := decide_eq_true c7
        have c7b1 : decide (200 < a0.size) = true := decide_eq_true (by omega)
        clear c7
        (first | rw [c7b0] | (simp only [i64_w, i32_w]; rw [c7b0]) | skip)
        have H' := Aside0.mk H
        clear H
        go_wp2
        repeat (go_quiet (fail); try go_wp2)
        go_meet
        case rel => exact ⟨_, (true), (by first | rfl | (simp; done) | (simp [*]; done)), H', ⟨by first | omega | exact Nat.le_refl _⟩, ⟨by repeat (first | (with_reducible first | exact HB.out | apply below_alloc | apply pw_below_drewN | apply below_drew1) | exact HB.out)⟩⟩
      · rw [if_neg c7] at H
        have c7b0 : decide (200 < (a0.size : Int)) = false := decide_eq_false c7
        have c7b1 : decide (200 < a0.size) = false := decide_eq_false (by omega)
        clear c7
        (first | rw [c7b0] | (simp only [i64_w, i32_w]; rw [c7b0]) | skip)
        have H' := Aside0.mk H
        clear H
        go_wp2
        repeat (go_quiet (fail); try go_wp2)
        go_meet
        case rel => exact ⟨_, (decide ((a1.size : Int) > 200)), (by first | rfl | (simp; done) | (simp [*]; done)), H', ⟨by first | omega | exact Nat.le_refl _⟩, ⟨by repeat (first | (with_reducible first | exact HB.out | apply below_alloc | apply pw_below_drewN | apply below_drew1) | exact HB.out)⟩⟩
    case rest =>
      clear HC5
      try clear p2
      try clear c4
      try clear c7
      try clear c7b0
      try clear c7b1
      obtain ⟨kq, x29_4, rfl, HA, HJ4, HB⟩ := hcut
      cases kq with
      | zero => exact absurd HA.out (by simp [gristmilllaw3_LexJoins.j0])
      | succ kj4 =>
        have H := HA.out
        clear HA
        simp only [gristmilllaw3_LexJoins.j0] at H
        by_cases c8 : x29_4 = true
        · subst c8
          have H1 : (some true) = some r := by rw [if_pos rfl] at H; exact H
          clear H
          have H := H1
          clear H1
          obtain rfl := Option.some.inj H
          go_wp2
          repeat (go_quiet (fail); try go_wp2)
          go_ret
          exact ⟨by first | rfl | (simp [errW_none, errW_some] <;> rfl) | (simp [*, errW_none, errW_some] <;> rfl), by repeat (first | (with_reducible first | exact HB.out | apply below_alloc | apply pw_below_drewN | apply below_drew1) | exact HB.out)⟩
        · replace c8 := Bool.eq_false_iff.mpr c8
          subst c8
          have H1 : ((lex_Words.f kj4 a0).bind fun bt156 => ((lex_Words.f kj4 a1).bind fun bt160 => (if a0.size + 1 ≤ 9223372036854775807 then (if (a0 ++ (⟨#[10]⟩ : ByteArray)).size + a1.size ≤ 9223372036854775807 then ((lex_Words.f kj4 ((a0 ++ (⟨#[10]⟩ : ByteArray)) ++ a1)).bind fun bt164 => (if bt156.2.isNone = true then (if bt160.2.isNone = true then (if bt164.2.isNone = true then (gristmilllaw3_LexJoins.j1 kj4 a0 a1 true bt156.1 bt160.1 bt164.1 ((bt164.1.length : Int) != (wrap64 ((bt156.1.length : Int) + (bt160.1.length : Int))))) else (gristmilllaw3_LexJoins.j1 kj4 a0 a1 true bt156.1 bt160.1 bt164.1 true)) else (gristmilllaw3_LexJoins.j1 kj4 a0 a1 true bt156.1 bt160.1 bt164.1 true)) else (gristmilllaw3_LexJoins.j1 kj4 a0 a1 true bt156.1 bt160.1 bt164.1 true))) else (none)) else (none)))) = some r := by rw [if_neg (show ¬ (false = true) by decide)] at H; exact H
          clear H
          have H := H1
          clear H1
          replace H := Option.bind_eq_some_iff.mp H
          obtain ⟨⟨t156, t157⟩, A90, H⟩ := H
          replace H : ((lex_Words.f kj4 a1).bind fun bt160 => (if a0.size + 1 ≤ 9223372036854775807 then (if (a0 ++ (⟨#[10]⟩ : ByteArray)).size + a1.size ≤ 9223372036854775807 then ((lex_Words.f kj4 ((a0 ++ (⟨#[10]⟩ : ByteArray)) ++ a1)).bind fun bt164 => (if t157.isNone = true then (if bt160.2.isNone = true then (if bt164.2.isNone = true then (gristmilllaw3_LexJoins.j1 kj4 a0 a1 true t156 bt160.1 bt164.1 ((bt164.1.length : Int) != (wrap64 ((t156.length : Int) + (bt160.1.length : Int))))) else (gristmilllaw3_LexJoins.j1 kj4 a0 a1 true t156 bt160.1 bt164.1 true)) else (gristmilllaw3_LexJoins.j1 kj4 a0 a1 true t156 bt160.1 bt164.1 true)) else (gristmilllaw3_LexJoins.j1 kj4 a0 a1 true t156 bt160.1 bt164.1 true))) else (none)) else (none))) = some r := H
          have A9 := Aside0.mk A90
          clear A90
          replace H := Option.bind_eq_some_iff.mp H
          obtain ⟨⟨t160, t161⟩, A100, H⟩ := H
          replace H : (if a0.size + 1 ≤ 9223372036854775807 then (if (a0 ++ (⟨#[10]⟩ : ByteArray)).size + a1.size ≤ 9223372036854775807 then ((lex_Words.f kj4 ((a0 ++ (⟨#[10]⟩ : ByteArray)) ++ a1)).bind fun bt164 => (if t157.isNone = true then (if t161.isNone = true then (if bt164.2.isNone = true then (gristmilllaw3_LexJoins.j1 kj4 a0 a1 true t156 t160 bt164.1 ((bt164.1.length : Int) != (wrap64 ((t156.length : Int) + (t160.length : Int))))) else (gristmilllaw3_LexJoins.j1 kj4 a0 a1 true t156 t160 bt164.1 true)) else (gristmilllaw3_LexJoins.j1 kj4 a0 a1 true t156 t160 bt164.1 true)) else (gristmilllaw3_LexJoins.j1 kj4 a0 a1 true t156 t160 bt164.1 true))) else (none)) else (none)) = some r := H
          have A10 := Aside0.mk A100
          clear A100
          by_cases c11 : a0.size + 1 ≤ 9223372036854775807
          · rw [if_pos c11] at H
            have c11b0 := eq_true c11
            have c11b1 : decide (a0.size + 1 ≤ 9223372036854775807) = true := decide_eq_true c11
            try have c11b2 : (9223372036854775807 < a0.size + 1) = False := eq_false (Nat.not_lt.2 c11)
            by_cases c12 : (a0 ++ (⟨#[10]⟩ : ByteArray)).size + a1.size ≤ 9223372036854775807
            · rw [if_pos c12] at H
              have c12b0 := eq_true c12
              have c12b1 : decide ((a0 ++ (⟨#[10]⟩ : ByteArray)).size + a1.size ≤ 9223372036854775807) = true := decide_eq_true c12
              try have c12b2 : (9223372036854775807 < (a0 ++ (⟨#[10]⟩ : ByteArray)).size + a1.size) = False := eq_false (Nat.not_lt.2 c12)
              replace H := Option.bind_eq_some_iff.mp H
              obtain ⟨⟨t164, t165⟩, A130, H⟩ := H
              replace H : (if t157.isNone = true then (if t161.isNone = true then (if t165.isNone = true then (gristmilllaw3_LexJoins.j1 kj4 a0 a1 true t156 t160 t164 ((t164.length : Int) != (wrap64 ((t156.length : Int) + (t160.length : Int))))) else (gristmilllaw3_LexJoins.j1 kj4 a0 a1 true t156 t160 t164 true)) else (gristmilllaw3_LexJoins.j1 kj4 a0 a1 true t156 t160 t164 true)) else (gristmilllaw3_LexJoins.j1 kj4 a0 a1 true t156 t160 t164 true)) = some r := H
              have A13 := Aside0.mk A130
              clear A130
              have HC14 := Aside0.mk H
              clear H
              go_upto_region 9 with (first | (go_at_call 10; (with_reducible refine (lex_Words.calls kj4 a0 t156 t157 _ A9.out).mono ?_); rintro e w15 ⟨v158, rfl, ho0, hb⟩; have n0_ := Aside0.mk (Kd.R_lower ho0 (below_size (by repeat (first | (with_reducible first | exact HB.out | apply below_alloc | apply pw_below_drewN | apply below_drew1) | exact HB.out)))); have n1_ := Aside0.mk (below_step (by repeat (first | (with_reducible first | exact HB.out | apply below_alloc | apply pw_below_drewN | apply below_drew1) | exact HB.out)) hb); clear HB; have HO159 := n0_; have HB := n1_; clear n0_ n1_; (try clear hb); (try clear hb2); (try clear hk); (try clear hi); (try clear ho0); (try simp only [errW_none, errW_some])) | (go_at_call 10; (with_reducible refine (lex_Words.calls kj4 a1 t160 t161 _ A10.out).mono ?_); rintro e w16 ⟨v162, rfl, ho0, hb⟩; have n0_ := Aside0.mk (Kd.R_elder' (by (with_reducible repeat (first | apply Kd.R_alloc | apply Kd.R_drewN | apply Kd.R_drew)); exact HO159.out) (Kd.R_base ho0) hb); have n1_ := Aside0.mk (Kd.R_lower (Kd.R_new' ho0 (Kd.R_lt (by (with_reducible repeat (first | apply Kd.R_alloc | apply Kd.R_drewN | apply Kd.R_drew)); exact HO159.out))) (below_size (by repeat (first | (with_reducible first | exact HB.out | apply below_alloc | apply pw_below_drewN | apply below_drew1) | exact HB.out)))); have n2_ := Aside0.mk (below_step (by repeat (first | (with_reducible first | exact HB.out | apply below_alloc | apply pw_below_drewN | apply below_drew1) | exact HB.out)) hb); clear HO159; clear HB; have HO159 := n0_; have HO163 := n1_; have HB := n2_; clear n0_ n1_ n2_; (try clear hb); (try clear hb2); (try clear hk); (try clear hi); (try clear ho0); (try simp only [errW_none, errW_some])) | (go_at_call 10; (with_reducible refine (lex_Words.calls kj4 ((a0 ++ (⟨#[10]⟩ : ByteArray)) ++ a1) t164 t165 _ A13.out).mono ?_); rintro e w17 ⟨v166, rfl, ho0, hb⟩; have n0_ := Aside0.mk (Kd.R_elder' (by (with_reducible repeat (first | apply Kd.R_alloc | apply Kd.R_drewN | apply Kd.R_drew)); exact HO159.out) (Kd.R_base ho0) hb); have n1_ := Aside0.mk (Kd.R_elder' (by (with_reducible repeat (first | apply Kd.R_alloc | apply Kd.R_drewN | apply Kd.R_drew)); exact HO163.out) (Kd.R_base ho0) hb); have n2_ := Aside0.mk (Kd.R_lower (Kd.R_new' (Kd.R_new' ho0 (Kd.R_lt (by (with_reducible repeat (first | apply Kd.R_alloc | apply Kd.R_drewN | apply Kd.R_drew)); exact HO159.out))) (Kd.R_lt (by (with_reducible repeat (first | apply Kd.R_alloc | apply Kd.R_drewN | apply Kd.R_drew)); exact HO163.out))) (below_size (by repeat (first | (with_reducible first | exact HB.out | apply below_alloc | apply pw_below_drewN | apply below_drew1) | exact HB.out)))); have n3_ := Aside0.mk (below_step (by repeat (first | (with_reducible first | exact HB.out | apply below_alloc | apply pw_below_drewN | apply below_drew1) | exact HB.out)) hb); clear HO159; clear HO163; clear HB; have HO159 := n0_; have HO163 := n1_; have HO167 := n2_; have HB := n3_; clear n0_ n1_ n2_ n3_; (try clear hb); (try clear hb2); (try clear hk); (try clear hi); (try clear ho0); (try simp only [errW_none, errW_some])))
              repeat (go_quiet (first | (go_at_call 10; (with_reducible refine (lex_Words.calls kj4 a0 t156 t157 _ A9.out).mono ?_); rintro e w15 ⟨v158, rfl, ho0, hb⟩; have n0_ := Aside0.mk (Kd.R_lower ho0 (below_size (by repeat (first | (with_reducible first | exact HB.out | apply below_alloc | apply pw_below_drewN | apply below_drew1) | exact HB.out)))); have n1_ := Aside0.mk (below_step (by repeat (first | (with_reducible first | exact HB.out | apply below_alloc | apply pw_below_drewN | apply below_drew1) | exact HB.out)) hb); clear HB; have HO159 := n0_; have HB := n1_; clear n0_ n1_; (try clear hb); (try clear hb2); (try clear hk); (try clear hi); (try clear ho0); (try simp only [errW_none, errW_some])) | (go_at_call 10; (with_reducible refine (lex_Words.calls kj4 a1 t160 t161 _ A10.out).mono ?_); rintro e w16 ⟨v162, rfl, ho0, hb⟩; have n0_ := Aside0.mk (Kd.R_elder' (by (with_reducible repeat (first | apply Kd.R_alloc | apply Kd.R_drewN | apply Kd.R_drew)); exact HO159.out) (Kd.R_base ho0) hb); have n1_ := Aside0.mk (Kd.R_lower (Kd.R_new' ho0 (Kd.R_lt (by (with_reducible repeat (first | apply Kd.R_alloc | apply Kd.R_drewN | apply Kd.R_drew)); exact HO159.out))) (below_size (by repeat (first | (with_reducible first | exact HB.out | apply below_alloc | apply pw_below_drewN | apply below_drew1) | exact HB.out)))); have n2_ := Aside0.mk (below_step (by repeat (first | (with_reducible first | exact HB.out | apply below_alloc | apply pw_below_drewN | apply below_drew1) | exact HB.out)) hb); clear HO159; clear HB; have HO159 := n0_; have HO163 := n1_; have HB := n2_; clear n0_ n1_ n2_; (try clear hb); (try clear hb2); (try clear hk); (try clear hi); (try clear ho0); (try simp only [errW_none, errW_some])) | (go_at_call 10; (with_reducible refine (lex_Words.calls kj4 ((a0 ++ (⟨#[10]⟩ : ByteArray)) ++ a1) t164 t165 _ A13.out).mono ?_); rintro e w17 ⟨v166, rfl, ho0, hb⟩; have n0_ := Aside0.mk (Kd.R_elder' (by (with_reducible repeat (first | apply Kd.R_alloc | apply Kd.R_drewN | apply Kd.R_drew)); exact HO159.out) (Kd.R_base ho0) hb); have n1_ := Aside0.mk (Kd.R_elder' (by (with_reducible repeat (first | apply Kd.R_alloc | apply Kd.R_drewN | apply Kd.R_drew)); exact HO163.out) (Kd.R_base ho0) hb); have n2_ := Aside0.mk (Kd.R_lower (Kd.R_new' (Kd.R_new' ho0 (Kd.R_lt (by (with_reducible repeat (first | apply Kd.R_alloc | apply Kd.R_drewN | apply Kd.R_drew)); exact HO159.out))) (Kd.R_lt (by (with_reducible repeat (first | apply Kd.R_alloc | apply Kd.R_drewN | apply Kd.R_drew)); exact HO163.out))) (below_size (by repeat (first | (with_reducible first | exact HB.out | apply below_alloc | apply pw_below_drewN | apply below_drew1) | exact HB.out)))); have n3_ := Aside0.mk (below_step (by repeat (first | (with_reducible first | exact HB.out | apply below_alloc | apply pw_below_drewN | apply below_drew1) | exact HB.out)) hb); clear HO159; clear HO163; clear HB; have HO159 := n0_; have HO163 := n1_; have HO167 := n2_; have HB := n3_; clear n0_ n1_ n2_ n3_; (try clear hb); (try clear hb2); (try clear hk); (try clear hi); (try clear ho0); (try simp only [errW_none, errW_some]))); go_upto_region 9 with (first | (go_at_call 10; (with_reducible refine (lex_Words.calls kj4 a0 t156 t157 _ A9.out).mono ?_); rintro e w15 ⟨v158, rfl, ho0, hb⟩; have n0_ := Aside0.mk (Kd.R_lower ho0 (below_size (by repeat (first | (with_reducible first | exact HB.out | apply below_alloc | apply pw_below_drewN | apply below_drew1) | exact HB.out)))); have n1_ := Aside0.mk (below_step (by repeat (first | (with_reducible first | exact HB.out | apply below_alloc | apply pw_below_drewN | apply below_drew1) | exact HB.out)) hb); clear HB; have HO159 := n0_; have HB := n1_; clear n0_ n1_; (try clear hb); (try clear hb2); (try clear hk); (try clear hi); (try clear ho0); (try simp only [errW_none, errW_some])) | (go_at_call 10; (with_reducible refine (lex_Words.calls kj4 a1 t160 t161 _ A10.out).mono ?_); rintro e w16 ⟨v162, rfl, ho0, hb⟩; have n0_ := Aside0.mk (Kd.R_elder' (by (with_reducible repeat (first | apply Kd.R_alloc | apply Kd.R_drewN | apply Kd.R_drew)); exact HO159.out) (Kd.R_base ho0) hb); have n1_ := Aside0.mk (Kd.R_lower (Kd.R_new' ho0 (Kd.R_lt (by (with_reducible repeat (first | apply Kd.R_alloc | apply Kd.R_drewN | apply Kd.R_drew)); exact HO159.out))) (below_size (by repeat (first | (with_reducible first | exact HB.out | apply below_alloc | apply pw_below_drewN | apply below_drew1) | exact HB.out)))); have n2_ := Aside0.mk (below_step (by repeat (first | (with_reducible first | exact HB.out | apply below_alloc | apply pw_below_drewN | apply below_drew1) | exact HB.out)) hb); clear HO159; clear HB; have HO159 := n0_; have HO163 := n1_; have HB := n2_; clear n0_ n1_ n2_; (try clear hb); (try clear hb2); (try clear hk); (try clear hi); (try clear ho0); (try simp only [errW_none, errW_some])) | (go_at_call 10; (with_reducible refine (lex_Words.calls kj4 ((a0 ++ (⟨#[10]⟩ : ByteArray)) ++ a1) t164 t165 _ A13.out).mono ?_); rintro e w17 ⟨v166, rfl, ho0, hb⟩; have n0_ := Aside0.mk (Kd.R_elder' (by (with_reducible repeat (first | apply Kd.R_alloc | apply Kd.R_drewN | apply Kd.R_drew)); exact HO159.out) (Kd.R_base ho0) hb); have n1_ := Aside0.mk (Kd.R_elder' (by (with_reducible repeat (first | apply Kd.R_alloc | apply Kd.R_drewN | apply Kd.R_drew)); exact HO163.out) (Kd.R_base ho0) hb); have n2_ := Aside0.mk (Kd.R_lower (Kd.R_new' (Kd.R_new' ho0 (Kd.R_lt (by (with_reducible repeat (first | apply Kd.R_alloc | apply Kd.R_drewN | apply Kd.R_drew)); exact HO159.out))) (Kd.R_lt (by (with_reducible repeat (first | apply Kd.R_alloc | apply Kd.R_drewN | apply Kd.R_drew)); exact HO163.out))) (below_size (by repeat (first | (with_reducible first | exact HB.out | apply below_alloc | apply pw_below_drewN | apply below_drew1) | exact HB.out)))); have n3_ := Aside0.mk (below_step (by repeat (first | (with_reducible first | exact HB.out | apply below_alloc | apply pw_below_drewN | apply below_drew1) | exact HB.out)) hb); clear HO159; clear HO163; clear HB; have HO159 := n0_; have HO163 := n1_; have HO167 := n2_; have HB := n3_; clear n0_ n1_ n2_ n3_; (try clear hb); (try clear hb2); (try clear hk); (try clear hi); (try clear ho0); (try simp only [errW_none, errW_some]))))
              (try simp only [Act.put, List.setIfInBounds_toArray, List.set_cons_zero, List.set_cons_succ])
              go_cut [68] (fun v68 wc => ∃ (kq : Nat) (x68_13 : Bool), v68 = .bool x68_13 ∧ Aside0 (gristmilllaw3_LexJoins.j1 kq a0 a1 true t156 t160 t164 x68_13 = some r) ∧ Aside0 (kq ≤ kj4) ∧ Aside0 (Kd.R k32 32 wc w.heap.size (fun k_ => some k_ ≠ (v162 : Value).ownBlock ∧ some k_ ≠ (v166 : Value).ownBlock) v158 t156) ∧ Aside0 (Kd.R k32 32 wc w.heap.size (fun k_ => some k_ ≠ (v158 : Value).ownBlock ∧ some k_ ≠ (v166 : Value).ownBlock) v162 t160) ∧ Aside0 (Kd.R k32 32 wc w.heap.size (fun k_ => some k_ ≠ (v158 : Value).ownBlock ∧ some k_ ≠ (v162 : Value).ownBlock) v166 t164) ∧ Aside0 (Below w.heap.size w wc))
              case first =>
                have H := HC14.out
                clear HC14
                rcases t157 with _ | q168
                · have H1 : (if t161.isNone = true then (if t165.isNone = true then (gristmilllaw3_LexJoins.j1 kj4 a0 a1 true t156 t160 t164 ((t164.length : Int) != (wrap64 ((t156.length : Int) + (t160.length : Int))))) else (gristmilllaw3_LexJoins.j1 kj4 a0 a1 true t156 t160 t164 true)) else (gristmilllaw3_LexJoins.j1 kj4 a0 a1 true t156 t160 t164 true)) = some r := by rw [if_pos (show (none : Option Int).isNone = true by rfl)] at H; exact H
                  clear H
                  have H := H1
                  clear H1
                  try simp only [errW_none, errW_some]
                  rcases t161 with _ | q169
                  · have H1 : (if t165.isNone = true then (gristmilllaw3_LexJoins.j1 kj4 a0 a1 true t156 t160 t164 ((t164.length : Int) != (wrap64 ((t156.length : Int) + (t160.length : Int))))) else (gristmilllaw3_LexJoins.j1 kj4 a0 a1 true t156 t160 t164 true)) = some r := by rw [if_pos (show (none : Option Int).isNone = true by rfl)] at H; exact H
                    clear H
                    have H := H1
                    clear H1
                    try simp only [errW_none, errW_some]
                    rcases t165 with _ | q170
                    · have H1 : (gristmilllaw3_LexJoins.j1 kj4 a0 a1 true t156 t160 t164 ((t164.length : Int) != (wrap64 ((t156.length : Int) + (t160.length : Int))))) = some r := by rw [if_pos (show (none : Option Int).isNone = true by rfl)] at H; exact H
                      clear H
                      have H := H1
                      clear H1
                      try simp only [errW_none, errW_some]
                      have H' := Aside0.mk H
                      clear H
                      obtain ⟨Ao18, co18, eo18⟩ := Kd.R_slice HO167.out
                      subst eo18
                      obtain ⟨Ao19, co19, eo19⟩ := Kd.R_slice HO159.out
                      subst eo19
                      obtain ⟨Ao20, co20, eo20⟩ := Kd.R_slice HO163.out
                      subst eo20
                      go_wp2
                      repeat (go_quiet (fail); try go_wp2)
                      go_meet
                      case rel => exact ⟨_, (((t164.length : Int) != (wrap64 ((t156.length : Int) + (t160.length : Int))))), (by first | rfl | (simp; done) | (simp [*]; done)), H', ⟨by have := HJ4.out; first | omega | exact Nat.le_refl _⟩, ⟨by (with_reducible repeat (first | apply Kd.R_alloc | apply Kd.R_drewN | apply Kd.R_drew)); exact Kd.R_mono HO159.out (fun _ hk => ⟨hk.1.2, hk.2⟩)⟩, ⟨by (with_reducible repeat (first | apply Kd.R_alloc | apply Kd.R_drewN | apply Kd.R_drew)); exact Kd.R_mono HO163.out (fun _ hk => ⟨hk.1.2, hk.2⟩)⟩, ⟨by (with_reducible repeat (first | apply Kd.R_alloc | apply Kd.R_drewN | apply Kd.R_drew)); exact Kd.R_mono HO167.out (fun _ hk => ⟨hk.1.2, hk.2⟩)⟩, ⟨by repeat (first | (with_reducible first | exact HB.out | apply below_alloc | apply pw_below_drewN | apply below_drew1) | exact HB.out)⟩⟩
                    · have H1 : (gristmilllaw3_LexJoins.j1 kj4 a0 a1 true t156 t160 t164 true) = some r := by rw [if_neg (show ¬ (some q170).isNone = true by simp)] at H; exact H
                      clear H
                      have H := H1
                      clear H1
                      try simp only [errW_none, errW_some]
                      have H' := Aside0.mk H
                      clear H
                      go_wp2
                      repeat (go_quiet (fail); try go_wp2)
                      go_meet
                      case rel => exact ⟨_, (true), (by first | rfl | (simp; done) | (simp [*]; done)), H', ⟨by have := HJ4.out; first | omega | exact Nat.le_refl _⟩, ⟨by (with_reducible repeat (first | apply Kd.R_alloc | apply Kd.R_drewN | apply Kd.R_drew)); exact Kd.R_mono HO159.out (fun _ hk => ⟨hk.1.2, hk.2⟩)⟩, ⟨by (with_reducible repeat (first | apply Kd.R_alloc | apply Kd.R_drewN | apply Kd.R_drew)); exact Kd.R_mono HO163.out (fun _ hk => ⟨hk.1.2, hk.2⟩)⟩, ⟨by (with_reducible repeat (first | apply Kd.R_alloc | apply Kd.R_drewN | apply Kd.R_drew)); exact Kd.R_mono HO167.out (fun _ hk => ⟨hk.1.2, hk.2⟩)⟩, ⟨by repeat (first | (with_reducible first | exact HB.out | apply below_alloc | apply pw_below_drewN | apply below_drew1) | exact HB.out)⟩⟩
                  · have H1 : (gristmilllaw3_LexJoins.j1 kj4 a0 a1 true t156 t160 t164 true) = some r := by rw [if_neg (show ¬ (some q169).isNone = true by simp)] at H; exact H
                    clear H
                    have H := H1
                    clear H1
                    try simp only [errW_none, errW_some]
                    have H' := Aside0.mk H
                    clear H
                    go_wp2
                    repeat (go_quiet (fail); try go_wp2)
                    go_meet
                    case rel => exact ⟨_, (true), (by first | rfl | (simp; done) | (simp [*]; done)), H', ⟨by have := HJ4.out; first | omega | exact Nat.le_refl _⟩, ⟨by (with_reducible repeat (first | apply Kd.R_alloc | apply Kd.R_drewN | apply Kd.R_drew)); exact Kd.R_mono HO159.out (fun _ hk => ⟨hk.1.2, hk.2⟩)⟩, ⟨by (with_reducible repeat (first | apply Kd.R_alloc | apply Kd.R_drewN | apply Kd.R_drew)); exact Kd.R_mono HO163.out (fun _ hk => ⟨hk.1.2, hk.2⟩)⟩, ⟨by (with_reducible repeat (first | apply Kd.R_alloc | apply Kd.R_drewN | apply Kd.R_drew)); exact Kd.R_mono HO167.out (fun _ hk => ⟨hk.1.2, hk.2⟩)⟩, ⟨by repeat (first | (with_reducible first | exact HB.out | apply below_alloc | apply pw_below_drewN | apply below_drew1) | exact HB.out)⟩⟩
                · have H1 : (gristmilllaw3_LexJoins.j1 kj4 a0 a1 true t156 t160 t164 true) = some r := by rw [if_neg (show ¬ (some q168).isNone = true by simp)] at H; exact H
                  clear H
                  have H := H1
                  clear H1
                  try simp only [errW_none, errW_some]
                  have H' := Aside0.mk H
                  clear H
                  go_wp2
                  repeat (go_quiet (fail); try go_wp2)
                  go_meet
                  case rel => exact ⟨_, (true), (by first | rfl | (simp; done) | (simp [*]; done)), H', ⟨by have := HJ4.out; first | omega | exact Nat.le_refl _⟩, ⟨by (with_reducible repeat (first | apply Kd.R_alloc | apply Kd.R_drewN | apply Kd.R_drew)); exact Kd.R_mono HO159.out (fun _ hk => ⟨hk.1.2, hk.2⟩)⟩, ⟨by (with_reducible repeat (first | apply Kd.R_alloc | apply Kd.R_drewN | apply Kd.R_drew)); exact Kd.R_mono HO163.out (fun _ hk => ⟨hk.1.2, hk.2⟩)⟩, ⟨by (with_reducible repeat (first | apply Kd.R_alloc | apply Kd.R_drewN | apply Kd.R_drew)); exact Kd.R_mono HO167.out (fun _ hk => ⟨hk.1.2, hk.2⟩)⟩, ⟨by repeat (first | (with_reducible first | exact HB.out | apply below_alloc | apply pw_below_drewN | apply below_drew1) | exact HB.out)⟩⟩
              case rest =>
                clear HC14
                try clear c1
                try clear q1
                try clear p2
                try clear c4
                try clear p6
                try clear c7
                try clear c7b0
                try clear c7b1
                try clear c8
                try clear c11
                try clear c11b0
                try clear c11b1
                try clear c11b2
                try clear c12
                try clear c12b0
                try clear c12b1
                try clear c12b2
                try clear q16
                try clear q17
                try clear p2
                try clear q168
                try clear q169
                try clear q170
                obtain ⟨kq, x68_13, rfl, HA, HJ13, HO_6, HO_8, HO_10, HB⟩ := hcut
                cases kq with
                | zero => exact absurd HA.out (by simp [gristmilllaw3_LexJoins.j1])
                | succ kj13 =>
                  have H := HA.out
                  clear HA
                  simp only [gristmilllaw3_LexJoins.j1] at H
                  by_cases c21 : x68_13 = true
                  · subst c21
                    have H1 : (some false) = some r := by rw [if_pos rfl] at H; exact H
                    clear H
                    have H := H1
                    clear H1
                    obtain rfl := Option.some.inj H
                    go_wp2
                    repeat (go_quiet (fail); try go_wp2)
                    go_ret
                    exact ⟨by first | rfl | (simp [errW_none, errW_some] <;> rfl) | (simp [*, errW_none, errW_some] <;> rfl), by repeat (first | (with_reducible first | exact HB.out | apply below_alloc | apply pw_below_drewN | apply below_drew1) | exact HB.out)⟩
                  · replace c21 := Bool.eq_false_iff.mpr c21
                    subst c21
                    have H1 : (gristmilllaw3_LexJoins.l0 kj13 a0 a1 true t156 t160 t164 0) = some r := by rw [if_neg (show ¬ (false = true) by decide)] at H; exact H
                    clear H
                    have H := H1
                    clear H1
                    have H' := Aside0.mk H
                    clear H
                    go_wp2
                    repeat (go_quiet (fail); try go_wp2)
                    go_loopg [12] kj13 (fun kq v12 w' => ∃ (x12_3 : Int), v12 = .int .i64 x12_3 ∧ Aside0 (gristmilllaw3_LexJoins.l0 kq a0 a1 true t156 t160 t164 x12_3 = some r) ∧ Aside0 (kq ≤ kj13) ∧ Aside0 (Kd.R k32 32 w' w.heap.size (fun k_ => some k_ ≠ (v162 : Value).ownBlock ∧ some k_ ≠ (v166 : Value).ownBlock) v158 t156) ∧ Aside0 (Kd.R k32 32 w' w.heap.size (fun k_ => some k_ ≠ (v158 : Value).ownBlock ∧ some k_ ≠ (v166 : Value).ownBlock) v162 t160) ∧ Aside0 (Kd.R k32 32 w' w.heap.size (fun k_ => some k_ ≠ (v158 : Value).ownBlock ∧ some k_ ≠ (v162 : Value).ownBlock) v166 t164) ∧ Aside0 (Below w.heap.size w w'))
                    case atStart => exact ⟨(0), (by first | rfl | (simp; done) | (simp [*]; done)), H', ⟨Nat.le_refl _⟩, ⟨by (with_reducible repeat (first | apply Kd.R_alloc | apply Kd.R_drewN | apply Kd.R_drew)); exact HO_6.out⟩, ⟨by (with_reducible repeat (first | apply Kd.R_alloc | apply Kd.R_drewN | apply Kd.R_drew)); exact HO_8.out⟩, ⟨by (with_reducible repeat (first | apply Kd.R_alloc | apply Kd.R_drewN | apply Kd.R_drew)); exact HO_10.out⟩, ⟨by repeat (first | (with_reducible first | exact HB.out | apply below_alloc | apply pw_below_drewN | apply below_drew1) | exact HB.out)⟩⟩
                    case round =>
                      clear H'
                      try clear c1
                      try clear q1
                      try clear c2
                      try clear p2
                      try clear c4
                      try clear p6
                      try clear c7
                      try clear c7b0
                      try clear c7b1
                      try clear c8
                      try clear c11
                      try clear c11b0
                      try clear c11b1
                      try clear c11b2
                      try clear c12
                      try clear c12b0
                      try clear c12b1
                      try clear c12b2
                      try clear q16
                      try clear q17
                      try clear c21
                      try clear p2
                      try clear p6
                      try clear q1
                      try clear q16
                      try clear q168
                      try clear q169
                      try clear q17
                      try clear q170
                      obtain ⟨x12_3, rfl, HA, HK3, HO_6, HO_8, HO_10, HB⟩ := hrel
                      cases gk with
                      | zero => exact absurd HA.out (by simp [gristmilllaw3_LexJoins.l0])
                      | succ k3 =>
                        have H := HA.out
                        clear HA
                        simp only [gristmilllaw3_LexJoins.l0] at H
                        by_cases c22 : x12_3 < (t164.length : Int)
                        · rw [if_pos c22] at H
                          have c22b0 : decide (x12_3 < (t164.length : Int)) = true := decide_eq_true c22
                          clear c22
                          by_cases c23 : x12_3 < (t156.length : Int)
                          · rw [if_pos c23] at H
                            have c23b0 : decide (x12_3 < (t156.length : Int)) = true := decide_eq_true c23
                            clear c23
                            have HC24 := Aside0.mk H
                            clear H
                            obtain ⟨Ao25, co25, eo25⟩ := Kd.R_slice HO_10.out
                            subst eo25
                            obtain ⟨Ao26, co26, eo26⟩ := Kd.R_slice HO_6.out
                            subst eo26
                            go_upto_region 15 with (fail)
                            repeat (go_quiet (fail); go_upto_region 15 with (fail))
                            go_cut [102] (fun v102 wc => ∃ (kq : Nat) (x102_23 : Bool), v102 = .bool x102_23 ∧ Aside0 (gristmilllaw3_LexJoins.j3 kq a0 a1 true t156 t160 t164 x12_3 x102_23 = some r) ∧ Aside0 (kq ≤ k3) ∧ Aside0 (Kd.R k32 32 wc w.heap.size (fun k_ => some k_ ≠ (v162 : Value).ownBlock ∧ some k_ ≠ ((.slice Ao25 t164.length co25) : Value).ownBlock) (.slice Ao26 t156.length co26) t156) ∧ Aside0 (Kd.R k32 32 wc w.heap.size (fun k_ => some k_ ≠ ((.slice Ao26 t156.length co26) : Value).ownBlock ∧ some k_ ≠ ((.slice Ao25 t164.length co25) : Value).ownBlock) v162 t160) ∧ Aside0 (Kd.R k32 32 wc w.heap.size (fun k_ => some k_ ≠ ((.slice Ao26 t156.length co26) : Value).ownBlock ∧ some k_ ≠ (v162 : Value).ownBlock) (.slice Ao25 t164.length co25) t164) ∧ Aside0 (Below w.heap.size w wc))
                            case first =>
                              have H := HC24.out
                              clear HC24
                              by_cases c27 : 0 ≤ x12_3
                              · rw [if_pos c27] at H
                                have c27b0 : decide (0 ≤ x12_3) = true := decide_eq_true c27
                                clear c27
                                (first | rw [c27b0] | (simp only [i64_w, i32_w]; rw [c27b0]) | skip)
                                by_cases c28 : ((rd_T32 t164 x12_3).f0).toList = ((rd_T32 t156 x12_3).f0).toList
                                · rw [if_pos c28] at H
                                  have c28b0 : (((rd_T32 t164 x12_3).f0).toList == ((rd_T32 t156 x12_3).f0).toList) = true := beq_iff_eq.mpr c28
                                  have c28b1 : (((rd_T32 t164 x12_3).f0).toList != ((rd_T32 t156 x12_3).f0).toList) = false := bne_eq_false_iff_eq.mpr c28
                                  clear c28
                                  have H' := Aside0.mk H
                                  clear H
                                  have p171 : 0 ≤ (x12_3 : Int) := of_decide_eq_true (by first | (with_reducible assumption) | assumption)
                                  have q171 : x12_3 < (t164.length : Int) := of_decide_eq_true (by first | (with_reducible assumption) | assumption)
                                  obtain ⟨ad171, e171, hx171_0, hx171_1⟩ := at_T32 (Kd.R_reads' HO_10.out).2.2 x12_3 p171 q171
                                  cases e171
                                  replace p171 := eq_true p171
                                  replace q171 := eq_true q171
                                  have p172 : 0 ≤ (x12_3 : Int) := of_decide_eq_true (by first | (with_reducible assumption) | assumption)
                                  have q172 : x12_3 < (t156.length : Int) := of_decide_eq_true (by first | (with_reducible assumption) | assumption)
                                  obtain ⟨ad172, e172, hx172_0, hx172_1⟩ := at_T32 (Kd.R_reads' HO_6.out).2.2 x12_3 p172 q172
                                  cases e172
                                  replace p172 := eq_true p172
                                  replace q172 := eq_true q172
                                  have p173 : 0 ≤ (x12_3 : Int) := of_decide_eq_true (by first | (with_reducible assumption) | assumption)
                                  have q173 : x12_3 < (t164.length : Int) := of_decide_eq_true (by first | (with_reducible assumption) | assumption)
                                  obtain ⟨ad173, e173, hx173_0, hx173_1⟩ := at_T32 (Kd.R_reads' HO_10.out).2.2 x12_3 p173 q173
                                  obtain rfl : ad171 = ad173 := (by injection e173)
                                  replace p173 := eq_true p173
                                  replace q173 := eq_true q173
                                  have p174 : 0 ≤ (x12_3 : Int) := of_decide_eq_true (by first | (with_reducible assumption) | assumption)
                                  have q174 : x12_3 < (t156.length : Int) := of_decide_eq_true (by first | (with_reducible assumption) | assumption)
                                  obtain ⟨ad174, e174, hx174_0, hx174_1⟩ := at_T32 (Kd.R_reads' HO_6.out).2.2 x12_3 p174 q174
                                  obtain rfl : ad172 = ad174 := (by injection e174)
                                  replace p174 := eq_true p174
                                  replace q174 := eq_true q174
                                  go_wp2
                                  repeat (go_quiet (fail); try go_wp2)
                                  go_meet
                                  case rel => exact ⟨_, ((((rd_T32 t164 x12_3).f1) != ((rd_T32 t156 x12_3).f1))), (by first | rfl | (simp; done) | (simp [*]; done)), H', ⟨by have := HJ4.out; have := HJ13.out; have := HK3.out; first | omega | exact Nat.le_refl _⟩, ⟨by (with_reducible repeat (first | apply Kd.R_alloc | apply Kd.R_drewN | apply Kd.R_drew)); exact HO_6.out⟩, ⟨by (with_reducible repeat (first | apply Kd.R_alloc | apply Kd.R_drewN | apply Kd.R_drew)); exact HO_8.out⟩, ⟨by (with_reducible repeat (first | apply Kd.R_alloc | apply Kd.R_drewN | apply Kd.R_drew)); exact HO_10.out⟩, ⟨by repeat (first | (with_reducible first | exact HB.out | apply below_alloc | apply pw_below_drewN | apply below_drew1) | exact HB.out)⟩⟩
                                · rw [if_neg c28] at H
                                  have c28b0 : (((rd_T32 t164 x12_3).f0).toList == ((rd_T32 t156 x12_3).f0).toList) = false := beq_eq_false_iff_ne.mpr c28
                                  have c28b1 : (((rd_T32 t164 x12_3).f0).toList != ((rd_T32 t156 x12_3).f0).toList) = true := bne_iff_ne.mpr c28
                                  have H' := Aside0.mk H
                                  clear H
                                  have p171 : 0 ≤ (x12_3 : Int) := of_decide_eq_true (by first | (with_reducible assumption) | assumption)
                                  have q171 : x12_3 < (t164.length : Int) := of_decide_eq_true (by first | (with_reducible assumption) | assumption)
                                  obtain ⟨ad171, e171, hx171_0, hx171_1⟩ := at_T32 (Kd.R_reads' HO_10.out).2.2 x12_3 p171 q171
                                  cases e171
                                  replace p171 := eq_true p171
                                  replace q171 := eq_true q171
                                  have p172 : 0 ≤ (x12_3 : Int) := of_decide_eq_true (by first | (with_reducible assumption) | assumption)
                                  have q172 : x12_3 < (t156.length : Int) := of_decide_eq_true (by first | (with_reducible assumption) | assumption)
                                  obtain ⟨ad172, e172, hx172_0, hx172_1⟩ := at_T32 (Kd.R_reads' HO_6.out).2.2 x12_3 p172 q172
                                  cases e172
                                  replace p172 := eq_true p172
                                  replace q172 := eq_true q172
                                  go_wp2
                                  repeat (go_quiet (fail); try go_wp2)
                                  go_meet
                                  case rel => exact ⟨_, (true), (by first | rfl | (simp; done) | (simp [*]; done)), H', ⟨by have := HJ4.out; have := HJ13.out; have := HK3.out; first | omega | exact Nat.le_refl _⟩, ⟨by (with_reducible repeat (first | apply Kd.R_alloc | apply Kd.R_drewN | apply Kd.R_drew)); exact HO_6.out⟩, ⟨by (with_reducible repeat (first | apply Kd.R_alloc | apply Kd.R_drewN | apply Kd.R_drew)); exact HO_8.out⟩, ⟨by (with_reducible repeat (first | apply Kd.R_alloc | apply Kd.R_drewN | apply Kd.R_drew)); exact HO_10.out⟩, ⟨by repeat (first | (with_reducible first | exact HB.out | apply below_alloc | apply pw_below_drewN | apply below_drew1) | exact HB.out)⟩⟩
                              · rw [if_neg c27] at H
                                exact absurd H (by simp)
                            case rest =>
                              clear HC24
                              try clear c1
                              try clear p1
                              try clear q1
                              try clear hx1
                              try clear c2
                              try clear p2
                              try clear c4
                              try clear p6
                              try clear c7
                              try clear c7b0
                              try clear c7b1
                              try clear c8
                              try clear c11
                              try clear c11b0
                              try clear c11b1
                              try clear c11b2
                              try clear c12
                              try clear c12b0
                              try clear c12b1
                              try clear c12b2
                              try clear q16
                              try clear p17
                              try clear q17
                              try clear hx17
                              try clear c21
                              try clear c22
                              try clear c22b0
                              try clear c23
                              try clear c23b0
                              try clear c27
                              try clear c27b0
                              try clear c28
                              try clear c28b0
                              try clear c28b1
                              try clear hx171_0
                              try clear hx171_1
                              try clear hx172_0
                              try clear hx172_1
                              try clear hx173_0
                              try clear hx173_1
                              try clear hx174_0
                              try clear hx174_1
                              try clear p171
                              try clear p172
                              try clear p173
                              try clear p174
                              try clear p2
                              try clear p6
                              try clear q1
                              try clear q16
                              try clear q168
                              try clear q169
                              try clear q17
                              try clear q170
                              try clear q171
                              try clear q172
                              try clear q173
                              try clear q174
                              obtain ⟨kq, x102_23, rfl, HA, HJ23, HO_6, HO_8, HO_10, HB⟩ := hcut
                              cases kq with
                              | zero => exact absurd HA.out (by simp [gristmilllaw3_LexJoins.j3])
                              | succ kj23 =>
                                have H := HA.out
                                clear HA
                                simp only [gristmilllaw3_LexJoins.j3] at H
                                by_cases c29 : x102_23 = true
                                · subst c29
                                  have H1 : (some false) = some r := by rw [if_pos rfl] at H; exact H
                                  clear H
                                  have H := H1
                                  clear H1
                                  obtain rfl := Option.some.inj H
                                  go_wp2
                                  repeat (go_quiet (fail); try go_wp2)
                                  go_ret
                                  exact ⟨by first | rfl | (simp [errW_none, errW_some] <;> rfl) | (simp [*, errW_none, errW_some] <;> rfl), by repeat (first | (with_reducible first | exact HB.out | apply below_alloc | apply pw_below_drewN | apply below_drew1) | exact HB.out)⟩
                                · replace c29 := Bool.eq_false_iff.mpr c29
                                  subst c29
                                  have H1 : (gristmilllaw3_LexJoins.l0 kj23 a0 a1 true t156 t160 t164 (wrap64 (x12_3 + 1))) = some r := by rw [if_neg (show ¬ (false = true) by decide)] at H; exact H
                                  clear H
                                  have H := H1
                                  clear H1
                                  have H' := Aside0.mk H
                                  clear H
                                  go_wp2
                                  repeat (go_quiet (fail); try go_wp2)
                                  go_roundg kj23
                                  case measure => have := HJ4.out; have := HJ13.out; have := HK3.out; have := HJ23.out; omega
                                  case rel => exact ⟨(wrap64 (x12_3 + 1)), (by first | rfl | (simp; done) | (simp [*]; done)), H', ⟨by have := HJ4.out; have := HJ13.out; have := HK3.out; have := HJ23.out; omega⟩, ⟨by (with_reducible repeat (first | apply Kd.R_alloc | apply Kd.R_drewN | apply Kd.R_drew)); exact HO_6.out⟩, ⟨by (with_reducible repeat (first | apply Kd.R_alloc | apply Kd.R_drewN | apply Kd.R_drew)); exact HO_8.out⟩, ⟨by (with_reducible repeat (first | apply Kd.R_alloc | apply Kd.R_drewN | apply Kd.R_drew)); exact HO_10.out⟩, ⟨by repeat (first | (with_reducible first | exact HB.out | apply below_alloc | apply pw_below_drewN | apply below_drew1) | exact HB.out)⟩⟩
                          · rw [if_neg c23] at H
                            have c23b0 : decide (x12_3 < (t156.length : Int)) = false := decide_eq_false c23
                            clear c23
                            obtain ⟨ji30, hji30⟩ : ∃ j_ : Int, (wrap64 (x12_3 - (t156.length : Int))) = j_ := ⟨_, rfl⟩
                            replace H : (if 0 ≤ (ji30) then (if (ji30) < (t160.length : Int) then (if 0 ≤ x12_3 then (if ((rd_T32 t164 x12_3).f0).toList = ((rd_T32 t160 (ji30)).f0).toList then (if ((rd_T32 t164 x12_3).f1) = (wrap64 ((wrap64 (((rd_T32 t160 (ji30)).f1) + (a0.size : Int))) + 1)) then (gristmilllaw3_LexJoins.l0 k3 a0 a1 true t156 t160 t164 (wrap64 (x12_3 + 1))) else (some false)) else (some false)) else (none)) else (none)) else (none)) = some r := by first | (rw [hji30] at H; exact H) | (simp only [hji30] at H ⊢; exact H)
                            have hji30w : (IntKind.i64.wrap (x12_3 - (t156.length : Int))) = ji30 := (i64_w _).trans hji30
                            by_cases c31 : 0 ≤ (ji30)
                            · rw [if_pos c31] at H
                              have c31b0 : decide (0 ≤ (ji30)) = true := decide_eq_true c31
                              clear c31
                              by_cases c32 : (ji30) < (t160.length : Int)
                              · rw [if_pos c32] at H
                                have c32b0 : decide ((ji30) < (t160.length : Int)) = true := decide_eq_true c32
                                clear c32
                                by_cases c33 : 0 ≤ x12_3
                                · rw [if_pos c33] at H
                                  have c33b0 : decide (0 ≤ x12_3) = true := decide_eq_true c33
                                  clear c33
                                  by_cases c34 : ((rd_T32 t164 x12_3).f0).toList = ((rd_T32 t160 (ji30)).f0).toList
                                  · rw [if_pos c34] at H
                                    have c34b0 : (((rd_T32 t164 x12_3).f0).toList == ((rd_T32 t160 (ji30)).f0).toList) = true := beq_iff_eq.mpr c34
                                    have c34b1 : (((rd_T32 t164 x12_3).f0).toList != ((rd_T32 t160 (ji30)).f0).toList) = false := bne_eq_false_iff_eq.mpr c34
                                    clear c34
                                    by_cases c35 : ((rd_T32 t164 x12_3).f1) = (wrap64 ((wrap64 (((rd_T32 t160 (ji30)).f1) + (a0.size : Int))) + 1))
                                    · rw [if_pos c35] at H
                                      have c35b0 : (((rd_T32 t164 x12_3).f1) == (wrap64 ((wrap64 (((rd_T32 t160 (ji30)).f1) + (a0.size : Int))) + 1))) = true := beq_iff_eq.mpr c35
                                      have c35b1 : (((rd_T32 t164 x12_3).f1) != (wrap64 ((wrap64 (((rd_T32 t160 (ji30)).f1) + (a0.size : Int))) + 1))) = false := bne_eq_false_iff_eq.mpr c35
                                      clear c35
                                      have H' := Aside0.mk H
                                      clear H
                                      obtain ⟨Ao36, co36, eo36⟩ := Kd.R_slice HO_10.out
                                      subst eo36
                                      obtain ⟨Ao37, co37, eo37⟩ := Kd.R_slice HO_6.out
                                      subst eo37
                                      obtain ⟨Ao38, co38, eo38⟩ := Kd.R_slice HO_8.out
                                      subst eo38
                                      have p175 : 0 ≤ ((ji30) : Int) := of_decide_eq_true (by first | (with_reducible assumption) | assumption)
                                      have q175 : (ji30) < (t160.length : Int) := of_decide_eq_true (by first | (with_reducible assumption) | assumption)
                                      obtain ⟨ad175, e175, hx175_0, hx175_1⟩ := at_T32 (Kd.R_reads' HO_8.out).2.2 (ji30) p175 q175
                                      cases e175
                                      replace p175 := eq_true p175
                                      replace q175 := eq_true q175
                                      go_wp2_with (first | ((with_reducible refine gate_dst (N := 13) rfl ?_); (try (refine gate_guard (by rfl) ?_; dsimp only)); refine box_event ?hg (N := 13) ?hd (cs := #[.string (⟨#[]⟩ : ByteArray), .int .i64 0]) (t := 32) ?hr ?_; (case hd => rfl); (case hg => rfl); (case hr => first | (go_simp; done) | (go_simp; rfl)); intro gb176 hg w39 hbox hb; have n0_ := Aside0.mk (Kd.R_below (Kd.R_elderB (by (with_reducible repeat (first | apply Kd.R_alloc | apply Kd.R_drewN | apply Kd.R_drew)); exact HO_6.out) gb176 (Nat.le_of_eq hg.symm)) hb); have n1_ := Aside0.mk (Kd.R_below (Kd.R_elderB (by (with_reducible repeat (first | apply Kd.R_alloc | apply Kd.R_drewN | apply Kd.R_drew)); exact HO_8.out) gb176 (Nat.le_of_eq hg.symm)) hb); have n2_ := Aside0.mk (Kd.R_below (Kd.R_elderB (by (with_reducible repeat (first | apply Kd.R_alloc | apply Kd.R_drewN | apply Kd.R_drew)); exact HO_10.out) gb176 (Nat.le_of_eq hg.symm)) hb); have n3_ := Aside0.mk (below_step (by repeat (first | (with_reducible first | exact HB.out | apply below_alloc | apply pw_below_drewN | apply below_drew1) | exact HB.out)) hb); have n4_ := Aside0.mk (hbox); have n5_ := Aside0.mk ((by rw [hg]; exact (below_size (by repeat (first | (with_reducible first | exact HB.out | apply below_alloc | apply pw_below_drewN | apply below_drew1) | exact HB.out))) : w.heap.size ≤ gb176)); have n6_ := Aside0.mk ((by rw [hg]; exact (below_size (by repeat (first | (with_reducible first | exact HB.out | apply below_alloc | apply pw_below_drewN | apply below_drew1) | exact HB.out))) : w.heap.size ≤ gb176)); clear HO_6; clear HO_8; clear HO_10; clear HB; have HO_6 := n0_; have HO_8 := n1_; have HO_10 := n2_; have HB := n3_; have BK176 := n4_; have GW176 := n5_; have GE176 := n6_; clear n0_ n1_ n2_ n3_ n4_ n5_ n6_; clear hb hbox hg; have hcz40_0 : w39.cell? ⟨gb176, 0, none⟩ = some (.string (⟨#[]⟩ : ByteArray)) := (blk_cell BK176.out 0).trans rfl; have hcz40_1 : w39.cell? ⟨gb176, 1, none⟩ = some (.int .i64 0) := (blk_cell BK176.out 1).trans rfl; have hfz40_0 := blk_frozen BK176.out 0; have hfz40_1 := blk_frozen BK176.out 1; have p177 : 0 ≤ (x12_3 : Int) := of_decide_eq_true (by first | (with_reducible assumption) | assumption); have q177 : x12_3 < (t164.length : Int) := of_decide_eq_true (by first | (with_reducible assumption) | assumption); obtain ⟨ad177, e177, hx177_0, hx177_1⟩ := at_T32 (Kd.R_reads' HO_10.out).2.2 x12_3 p177 q177; cases e177; have hn177_0 : ad177.block ≠ gb176 := Kd.own_blk (Kd.R_away HO_10.out (fun _ hk => hk.2)); have hn177_1 : ad177.block ≠ gb176 := Kd.own_blk (Kd.R_away HO_10.out (fun _ hk => hk.2)); replace hx177_0 := (cell_far (p := ⟨gb176, 0, none⟩) (by first | (rw [add_block]; exact hn177_0) | (show (Addr.add _ _).block ≠ _; rw [add_block]; exact hn177_0) | exact hn177_0) (.string ((rd_T32 t160 (ji30)).f0))).trans hx177_0; replace hx177_1 := (cell_far (p := ⟨gb176, 0, none⟩) (by first | (rw [add_block]; exact hn177_0) | (show (Addr.add _ _).block ≠ _; rw [add_block]; exact hn177_0) | exact hn177_0) (.string ((rd_T32 t160 (ji30)).f0))).trans hx177_1; replace hx177_0 := (cell_far (p := ⟨gb176, 1, none⟩) (by first | (rw [add_block]; exact hn177_1) | (show (Addr.add _ _).block ≠ _; rw [add_block]; exact hn177_1) | exact hn177_1) (.int .i64 ((rd_T32 t160 (ji30)).f1))).trans hx177_0; replace hx177_1 := (cell_far (p := ⟨gb176, 1, none⟩) (by first | (rw [add_block]; exact hn177_1) | (show (Addr.add _ _).block ≠ _; rw [add_block]; exact hn177_1) | exact hn177_1) (.int .i64 ((rd_T32 t160 (ji30)).f1))).trans hx177_1; (try have hy177_0 := fun (n_ : Nat) => (show ((((w39.drewN n_).setCell ⟨gb176, 0, none⟩ (.string ((rd_T32 t160 (ji30)).f0))).setCell ⟨gb176, 1, none⟩ (.int .i64 ((rd_T32 t160 (ji30)).f1)))).cell? _ = some _ from hx177_0)); (try have hy177_1 := fun (n_ : Nat) => (show ((((w39.drewN n_).setCell ⟨gb176, 0, none⟩ (.string ((rd_T32 t160 (ji30)).f0))).setCell ⟨gb176, 1, none⟩ (.int .i64 ((rd_T32 t160 (ji30)).f1)))).cell? _ = some _ from hx177_1)); clear hn177_0; clear hn177_1; replace p177 := eq_true p177; replace q177 := eq_true q177; have p178 : 0 ≤ (x12_3 : Int) := of_decide_eq_true (by first | (with_reducible assumption) | assumption); have q178 : x12_3 < (t164.length : Int) := of_decide_eq_true (by first | (with_reducible assumption) | assumption); obtain ⟨ad178, e178, hx178_0, hx178_1⟩ := at_T32 (Kd.R_reads' HO_10.out).2.2 x12_3 p178 q178; obtain rfl : ad177 = ad178 := (by injection e178); have hn178_0 : ad177.block ≠ gb176 := Kd.own_blk (Kd.R_away HO_10.out (fun _ hk => hk.2)); have hn178_1 : ad177.block ≠ gb176 := Kd.own_blk (Kd.R_away HO_10.out (fun _ hk => hk.2)); replace hx178_0 := (cell_far (p := ⟨gb176, 0, none⟩) (by first | (rw [add_block]; exact hn178_0) | (show (Addr.add _ _).block ≠ _; rw [add_block]; exact hn178_0) | exact hn178_0) (.string ((rd_T32 t160 (ji30)).f0))).trans hx178_0; replace hx178_1 := (cell_far (p := ⟨gb176, 0, none⟩) (by first | (rw [add_block]; exact hn178_0) | (show (Addr.add _ _).block ≠ _; rw [add_block]; exact hn178_0) | exact hn178_0) (.string ((rd_T32 t160 (ji30)).f0))).trans hx178_1; replace hx178_0 := (cell_far (p := ⟨gb176, 1, none⟩) (by first | (rw [add_block]; exact hn178_1) | (show (Addr.add _ _).block ≠ _; rw [add_block]; exact hn178_1) | exact hn178_1) (.int .i64 ((rd_T32 t160 (ji30)).f1))).trans hx178_0; replace hx178_1 := (cell_far (p := ⟨gb176, 1, none⟩) (by first | (rw [add_block]; exact hn178_1) | (show (Addr.add _ _).block ≠ _; rw [add_block]; exact hn178_1) | exact hn178_1) (.int .i64 ((rd_T32 t160 (ji30)).f1))).trans hx178_1; (try have hy178_0 := fun (n_ : Nat) => (show ((((w39.drewN n_).setCell ⟨gb176, 0, none⟩ (.string ((rd_T32 t160 (ji30)).f0))).setCell ⟨gb176, 1, none⟩ (.int .i64 ((rd_T32 t160 (ji30)).f1)))).cell? _ = some _ from hx178_0)); (try have hy178_1 := fun (n_ : Nat) => (show ((((w39.drewN n_).setCell ⟨gb176, 0, none⟩ (.string ((rd_T32 t160 (ji30)).f0))).setCell ⟨gb176, 1, none⟩ (.int .i64 ((rd_T32 t160 (ji30)).f1)))).cell? _ = some _ from hx178_1)); clear hn178_0; clear hn178_1; replace p178 := eq_true p178; replace q178 := eq_true q178))
                                      repeat (go_quiet (first | ((with_reducible refine gate_dst (N := 13) rfl ?_); (try (refine gate_guard (by rfl) ?_; dsimp only)); refine box_event ?hg (N := 13) ?hd (cs := #[.string (⟨#[]⟩ : ByteArray), .int .i64 0]) (t := 32) ?hr ?_; (case hd => rfl); (case hg => rfl); (case hr => first | (go_simp; done) | (go_simp; rfl)); intro gb176 hg w39 hbox hb; have n0_ := Aside0.mk (Kd.R_below (Kd.R_elderB (by (with_reducible repeat (first | apply Kd.R_alloc | apply Kd.R_drewN | apply Kd.R_drew)); exact HO_6.out) gb176 (Nat.le_of_eq hg.symm)) hb); have n1_ := Aside0.mk (Kd.R_below (Kd.R_elderB (by (with_reducible repeat (first | apply Kd.R_alloc | apply Kd.R_drewN | apply Kd.R_drew)); exact HO_8.out) gb176 (Nat.le_of_eq hg.symm)) hb); have n2_ := Aside0.mk (Kd.R_below (Kd.R_elderB (by (with_reducible repeat (first | apply Kd.R_alloc | apply Kd.R_drewN | apply Kd.R_drew)); exact HO_10.out) gb176 (Nat.le_of_eq hg.symm)) hb); have n3_ := Aside0.mk (below_step (by repeat (first | (with_reducible first | exact HB.out | apply below_alloc | apply pw_below_drewN | apply below_drew1) | exact HB.out)) hb); have n4_ := Aside0.mk (hbox); have n5_ := Aside0.mk ((by rw [hg]; exact (below_size (by repeat (first | (with_reducible first | exact HB.out | apply below_alloc | apply pw_below_drewN | apply below_drew1) | exact HB.out))) : w.heap.size ≤ gb176)); have n6_ := Aside0.mk ((by rw [hg]; exact (below_size (by repeat (first | (with_reducible first | exact HB.out | apply below_alloc | apply pw_below_drewN | apply below_drew1) | exact HB.out))) : w.heap.size ≤ gb176)); clear HO_6; clear HO_8; clear HO_10; clear HB; have HO_6 := n0_; have HO_8 := n1_; have HO_10 := n2_; have HB := n3_; have BK176 := n4_; have GW176 := n5_; have GE176 := n6_; clear n0_ n1_ n2_ n3_ n4_ n5_ n6_; clear hb hbox hg; have hcz40_0 : w39.cell? ⟨gb176, 0, none⟩ = some (.string (⟨#[]⟩ : ByteArray)) := (blk_cell BK176.out 0).trans rfl; have hcz40_1 : w39.cell? ⟨gb176, 1, none⟩ = some (.int .i64 0) := (blk_cell BK176.out 1).trans rfl; have hfz40_0 := blk_frozen BK176.out 0; have hfz40_1 := blk_frozen BK176.out 1; have p177 : 0 ≤ (x12_3 : Int) := of_decide_eq_true (by first | (with_reducible assumption) | assumption); have q177 : x12_3 < (t164.length : Int) := of_decide_eq_true (by first | (with_reducible assumption) | assumption); obtain ⟨ad177, e177, hx177_0, hx177_1⟩ := at_T32 (Kd.R_reads' HO_10.out).2.2 x12_3 p177 q177; cases e177; have hn177_0 : ad177.block ≠ gb176 := Kd.own_blk (Kd.R_away HO_10.out (fun _ hk => hk.2)); have hn177_1 : ad177.block ≠ gb176 := Kd.own_blk (Kd.R_away HO_10.out (fun _ hk => hk.2)); replace hx177_0 := (cell_far (p := ⟨gb176, 0, none⟩) (by first | (rw [add_block]; exact hn177_0) | (show (Addr.add _ _).block ≠ _; rw [add_block]; exact hn177_0) | exact hn177_0) (.string ((rd_T32 t160 (ji30)).f0))).trans hx177_0; replace hx177_1 := (cell_far (p := ⟨gb176, 0, none⟩) (by first | (rw [add_block]; exact hn177_0) | (show (Addr.add _ _).block ≠ _; rw [add_block]; exact hn177_0) | exact hn177_0) (.string ((rd_T32 t160 (ji30)).f0))).trans hx177_1; replace hx177_0 := (cell_far (p := ⟨gb176, 1, none⟩) (by first | (rw [add_block]; exact hn177_1) | (show (Addr.add _ _).block ≠ _; rw [add_block]; exact hn177_1) | exact hn177_1) (.int .i64 ((rd_T32 t160 (ji30)).f1))).trans hx177_0; replace hx177_1 := (cell_far (p := ⟨gb176, 1, none⟩) (by first | (rw [add_block]; exact hn177_1) | (show (Addr.add _ _).block ≠ _; rw [add_block]; exact hn177_1) | exact hn177_1) (.int .i64 ((rd_T32 t160 (ji30)).f1))).trans hx177_1; (try have hy177_0 := fun (n_ : Nat) => (show ((((w39.drewN n_).setCell ⟨gb176, 0, none⟩ (.string ((rd_T32 t160 (ji30)).f0))).setCell ⟨gb176, 1, none⟩ (.int .i64 ((rd_T32 t160 (ji30)).f1)))).cell? _ = some _ from hx177_0)); (try have hy177_1 := fun (n_ : Nat) => (show ((((w39.drewN n_).setCell ⟨gb176, 0, none⟩ (.string ((rd_T32 t160 (ji30)).f0))).setCell ⟨gb176, 1, none⟩ (.int .i64 ((rd_T32 t160 (ji30)).f1)))).cell? _ = some _ from hx177_1)); clear hn177_0; clear hn177_1; replace p177 := eq_true p177; replace q177 := eq_true q177; have p178 : 0 ≤ (x12_3 : Int) := of_decide_eq_true (by first | (with_reducible assumption) | assumption); have q178 : x12_3 < (t164.length : Int) := of_decide_eq_true (by first | (with_reducible assumption) | assumption); obtain ⟨ad178, e178, hx178_0, hx178_1⟩ := at_T32 (Kd.R_reads' HO_10.out).2.2 x12_3 p178 q178; obtain rfl : ad177 = ad178 := (by injection e178); have hn178_0 : ad177.block ≠ gb176 := Kd.own_blk (Kd.R_away HO_10.out (fun _ hk => hk.2)); have hn178_1 : ad177.block ≠ gb176 := Kd.own_blk (Kd.R_away HO_10.out (fun _ hk => hk.2)); replace hx178_0 := (cell_far (p := ⟨gb176, 0, none⟩) (by first | (rw [add_block]; exact hn178_0) | (show (Addr.add _ _).block ≠ _; rw [add_block]; exact hn178_0) | exact hn178_0) (.string ((rd_T32 t160 (ji30)).f0))).trans hx178_0; replace hx178_1 := (cell_far (p := ⟨gb176, 0, none⟩) (by first | (rw [add_block]; exact hn178_0) | (show (Addr.add _ _).block ≠ _; rw [add_block]; exact hn178_0) | exact hn178_0) (.string ((rd_T32 t160 (ji30)).f0))).trans hx178_1; replace hx178_0 := (cell_far (p := ⟨gb176, 1, none⟩) (by first | (rw [add_block]; exact hn178_1) | (show (Addr.add _ _).block ≠ _; rw [add_block]; exact hn178_1) | exact hn178_1) (.int .i64 ((rd_T32 t160 (ji30)).f1))).trans hx178_0; replace hx178_1 := (cell_far (p := ⟨gb176, 1, none⟩) (by first | (rw [add_block]; exact hn178_1) | (show (Addr.add _ _).block ≠ _; rw [add_block]; exact hn178_1) | exact hn178_1) (.int .i64 ((rd_T32 t160 (ji30)).f1))).trans hx178_1; (try have hy178_0 := fun (n_ : Nat) => (show ((((w39.drewN n_).setCell ⟨gb176, 0, none⟩ (.string ((rd_T32 t160 (ji30)).f0))).setCell ⟨gb176, 1, none⟩ (.int .i64 ((rd_T32 t160 (ji30)).f1)))).cell? _ = some _ from hx178_0)); (try have hy178_1 := fun (n_ : Nat) => (show ((((w39.drewN n_).setCell ⟨gb176, 0, none⟩ (.string ((rd_T32 t160 (ji30)).f0))).setCell ⟨gb176, 1, none⟩ (.int .i64 ((rd_T32 t160 (ji30)).f1)))).cell? _ = some _ from hx178_1)); clear hn178_0; clear hn178_1; replace p178 := eq_true p178; replace q178 := eq_true q178)); try go_wp2_with (first | ((with_reducible refine gate_dst (N := 13) rfl ?_); (try (refine gate_guard (by rfl) ?_; dsimp only)); refine box_event ?hg (N := 13) ?hd (cs := #[.string (⟨#[]⟩ : ByteArray), .int .i64 0]) (t := 32) ?hr ?_; (case hd => rfl); (case hg => rfl); (case hr => first | (go_simp; done) | (go_simp; rfl)); intro gb176 hg w39 hbox hb; have n0_ := Aside0.mk (Kd.R_below (Kd.R_elderB (by (with_reducible repeat (first | apply Kd.R_alloc | apply Kd.R_drewN | apply Kd.R_drew)); exact HO_6.out) gb176 (Nat.le_of_eq hg.symm)) hb); have n1_ := Aside0.mk (Kd.R_below (Kd.R_elderB (by (with_reducible repeat (first | apply Kd.R_alloc | apply Kd.R_drewN | apply Kd.R_drew)); exact HO_8.out) gb176 (Nat.le_of_eq hg.symm)) hb); have n2_ := Aside0.mk (Kd.R_below (Kd.R_elderB (by (with_reducible repeat (first | apply Kd.R_alloc | apply Kd.R_drewN | apply Kd.R_drew)); exact HO_10.out) gb176 (Nat.le_of_eq hg.symm)) hb); have n3_ := Aside0.mk (below_step (by repeat (first | (with_reducible first | exact HB.out | apply below_alloc | apply pw_below_drewN | apply below_drew1) | exact HB.out)) hb); have n4_ := Aside0.mk (hbox); have n5_ := Aside0.mk ((by rw [hg]; exact (below_size (by repeat (first | (with_reducible first | exact HB.out | apply below_alloc | apply pw_below_drewN | apply below_drew1) | exact HB.out))) : w.heap.size ≤ gb176)); have n6_ := Aside0.mk ((by rw [hg]; exact (below_size (by repeat (first | (with_reducible first | exact HB.out | apply below_alloc | apply pw_below_drewN | apply below_drew1) | exact HB.out))) : w.heap.size ≤ gb176)); clear HO_6; clear HO_8; clear HO_10; clear HB; have HO_6 := n0_; have HO_8 := n1_; have HO_10 := n2_; have HB := n3_; have BK176 := n4_; have GW176 := n5_; have GE176 := n6_; clear n0_ n1_ n2_ n3_ n4_ n5_ n6_; clear hb hbox hg; have hcz40_0 : w39.cell? ⟨gb176, 0, none⟩ = some (.string (⟨#[]⟩ : ByteArray)) := (blk_cell BK176.out 0).trans rfl; have hcz40_1 : w39.cell? ⟨gb176, 1, none⟩ = some (.int .i64 0) := (blk_cell BK176.out 1).trans rfl; have hfz40_0 := blk_frozen BK176.out 0; have hfz40_1 := blk_frozen BK176.out 1; have p177 : 0 ≤ (x12_3 : Int) := of_decide_eq_true (by first | (with_reducible assumption) | assumption); have q177 : x12_3 < (t164.length : Int) := of_decide_eq_true (by first | (with_reducible assumption) | assumption); obtain ⟨ad177, e177, hx177_0, hx177_1⟩ := at_T32 (Kd.R_reads' HO_10.out).2.2 x12_3 p177 q177; cases e177; have hn177_0 : ad177.block ≠ gb176 := Kd.own_blk (Kd.R_away HO_10.out (fun _ hk => hk.2)); have hn177_1 : ad177.block ≠ gb176 := Kd.own_blk (Kd.R_away HO_10.out (fun _ hk => hk.2)); replace hx177_0 := (cell_far (p := ⟨gb176, 0, none⟩) (by first | (rw [add_block]; exact hn177_0) | (show (Addr.add _ _).block ≠ _; rw [add_block]; exact hn177_0) | exact hn177_0) (.string ((rd_T32 t160 (ji30)).f0))).trans hx177_0; replace hx177_1 := (cell_far (p := ⟨gb176, 0, none⟩) (by first | (rw [add_block]; exact hn177_0) | (show (Addr.add _ _).block ≠ _; rw [add_block]; exact hn177_0) | exact hn177_0) (.string ((rd_T32 t160 (ji30)).f0))).trans hx177_1; replace hx177_0 := (cell_far (p := ⟨gb176, 1, none⟩) (by first | (rw [add_block]; exact hn177_1) | (show (Addr.add _ _).block ≠ _; rw [add_block]; exact hn177_1) | exact hn177_1) (.int .i64 ((rd_T32 t160 (ji30)).f1))).trans hx177_0; replace hx177_1 := (cell_far (p := ⟨gb176, 1, none⟩) (by first | (rw [add_block]; exact hn177_1) | (show (Addr.add _ _).block ≠ _; rw [add_block]; exact hn177_1) | exact hn177_1) (.int .i64 ((rd_T32 t160 (ji30)).f1))).trans hx177_1; (try have hy177_0 := fun (n_ : Nat) => (show ((((w39.drewN n_).setCell ⟨gb176, 0, none⟩ (.string ((rd_T32 t160 (ji30)).f0))).setCell ⟨gb176, 1, none⟩ (.int .i64 ((rd_T32 t160 (ji30)).f1)))).cell? _ = some _ from hx177_0)); (try have hy177_1 := fun (n_ : Nat) => (show ((((w39.drewN n_).setCell ⟨gb176, 0, none⟩ (.string ((rd_T32 t160 (ji30)).f0))).setCell ⟨gb176, 1, none⟩ (.int .i64 ((rd_T32 t160 (ji30)).f1)))).cell? _ = some _ from hx177_1)); clear hn177_0; clear hn177_1; replace p177 := eq_true p177; replace q177 := eq_true q177; have p178 : 0 ≤ (x12_3 : Int) := of_decide_eq_true (by first | (with_reducible assumption) | assumption); have q178 : x12_3 < (t164.length : Int) := of_decide_eq_true (by first | (with_reducible assumption) | assumption); obtain ⟨ad178, e178, hx178_0, hx178_1⟩ := at_T32 (Kd.R_reads' HO_10.out).2.2 x12_3 p178 q178; obtain rfl : ad177 = ad178 := (by injection e178); have hn178_0 : ad177.block ≠ gb176 := Kd.own_blk (Kd.R_away HO_10.out (fun _ hk => hk.2)); have hn178_1 : ad177.block ≠ gb176 := Kd.own_blk (Kd.R_away HO_10.out (fun _ hk => hk.2)); replace hx178_0 := (cell_far (p := ⟨gb176, 0, none⟩) (by first | (rw [add_block]; exact hn178_0) | (show (Addr.add _ _).block ≠ _; rw [add_block]; exact hn178_0) | exact hn178_0) (.string ((rd_T32 t160 (ji30)).f0))).trans hx178_0; replace hx178_1 := (cell_far (p := ⟨gb176, 0, none⟩) (by first | (rw [add_block]; exact hn178_0) | (show (Addr.add _ _).block ≠ _; rw [add_block]; exact hn178_0) | exact hn178_0) (.string ((rd_T32 t160 (ji30)).f0))).trans hx178_1; replace hx178_0 := (cell_far (p := ⟨gb176, 1, none⟩) (by first | (rw [add_block]; exact hn178_1) | (show (Addr.add _ _).block ≠ _; rw [add_block]; exact hn178_1) | exact hn178_1) (.int .i64 ((rd_T32 t160 (ji30)).f1))).trans hx178_0; replace hx178_1 := (cell_far (p := ⟨gb176, 1, none⟩) (by first | (rw [add_block]; exact hn178_1) | (show (Addr.add _ _).block ≠ _; rw [add_block]; exact hn178_1) | exact hn178_1) (.int .i64 ((rd_T32 t160 (ji30)).f1))).trans hx178_1; (try have hy178_0 := fun (n_ : Nat) => (show ((((w39.drewN n_).setCell ⟨gb176, 0, none⟩ (.string ((rd_T32 t160 (ji30)).f0))).setCell ⟨gb176, 1, none⟩ (.int .i64 ((rd_T32 t160 (ji30)).f1)))).cell? _ = some _ from hx178_0)); (try have hy178_1 := fun (n_ : Nat) => (show ((((w39.drewN n_).setCell ⟨gb176, 0, none⟩ (.string ((rd_T32 t160 (ji30)).f0))).setCell ⟨gb176, 1, none⟩ (.int .i64 ((rd_T32 t160 (ji30)).f1)))).cell? _ = some _ from hx178_1)); clear hn178_0; clear hn178_1; replace p178 := eq_true p178; replace q178 := eq_true q178)))
                                      go_roundg k3
                                      case measure => have := HJ4.out; have := HJ13.out; have := HK3.out; omega
                                      case rel => exact ⟨(wrap64 (x12_3 + 1)), (by first | rfl | (simp; done) | (simp [*]; done)), H', ⟨by have := HJ4.out; have := HJ13.out; have := HK3.out; omega⟩, ⟨by (with_reducible repeat (first | apply Kd.R_alloc | apply Kd.R_drewN | apply Kd.R_drew)); exact Kd.R_mono (Kd.R_far (p := ⟨gb176, 1, none⟩) (Kd.R_far (p := ⟨gb176, 0, none⟩) (Kd.R_mono HO_6.out (fun k_ hk => (⟨hk, hk.2⟩ : _ ∧ k_ ≠ gb176))) (fun _ hk => hk.2) (.string ((rd_T32 t160 (ji30)).f0))) (fun _ hk => hk.2) (.int .i64 ((rd_T32 t160 (ji30)).f1))) (fun _ hk => ⟨hk.1.1.1, hk.1.1.2⟩)⟩, ⟨by (with_reducible repeat (first | apply Kd.R_alloc | apply Kd.R_drewN | apply Kd.R_drew)); exact Kd.R_mono (Kd.R_far (p := ⟨gb176, 1, none⟩) (Kd.R_far (p := ⟨gb176, 0, none⟩) (Kd.R_mono HO_8.out (fun k_ hk => (⟨hk, hk.2⟩ : _ ∧ k_ ≠ gb176))) (fun _ hk => hk.2) (.string ((rd_T32 t160 (ji30)).f0))) (fun _ hk => hk.2) (.int .i64 ((rd_T32 t160 (ji30)).f1))) (fun _ hk => ⟨hk.1.1.1, hk.1.1.2⟩)⟩, ⟨by (with_reducible repeat (first | apply Kd.R_alloc | apply Kd.R_drewN | apply Kd.R_drew)); exact Kd.R_mono (Kd.R_far (p := ⟨gb176, 1, none⟩) (Kd.R_far (p := ⟨gb176, 0, none⟩) (Kd.R_mono HO_10.out (fun k_ hk => (⟨hk, hk.2⟩ : _ ∧ k_ ≠ gb176))) (fun _ hk => hk.2) (.string ((rd_T32 t160 (ji30)).f0))) (fun _ hk => hk.2) (.int .i64 ((rd_T32 t160 (ji30)).f1))) (fun _ hk => ⟨hk.1.1.1, hk.1.1.2⟩)⟩, ⟨by repeat (first | (with_reducible first | exact HB.out | apply below_alloc | apply pw_below_drewN | apply below_drew1 | refine below_set ?_ GE176.out) | exact HB.out)⟩⟩
                                    · rw [if_neg c35] at H
                                      have c35b0 : (((rd_T32 t164 x12_3).f1) == (wrap64 ((wrap64 (((rd_T32 t160 (ji30)).f1) + (a0.size : Int))) + 1))) = false := beq_eq_false_iff_ne.mpr c35
                                      have c35b1 : (((rd_T32 t164 x12_3).f1) != (wrap64 ((wrap64 (((rd_T32 t160 (ji30)).f1) + (a0.size : Int))) + 1))) = true := bne_iff_ne.mpr c35
                                      obtain rfl := Option.some.inj H
                                      obtain ⟨Ao41, co41, eo41⟩ := Kd.R_slice HO_10.out
                                      subst eo41
                                      obtain ⟨Ao42, co42, eo42⟩ := Kd.R_slice HO_6.out
                                      subst eo42
                                      obtain ⟨Ao43, co43, eo43⟩ := Kd.R_slice HO_8.out
                                      subst eo43
                                      have p175 : 0 ≤ ((ji30) : Int) := of_decide_eq_true (by first | (with_reducible assumption) | assumption)
                                      have q175 : (ji30) < (t160.length : Int) := of_decide_eq_true (by first | (with_reducible assumption) | assumption)
                                      obtain ⟨ad175, e175, hx175_0, hx175_1⟩ := at_T32 (Kd.R_reads' HO_8.out).2.2 (ji30) p175 q175
                                      cases e175
                                      replace p175 := eq_true p175
                                      replace q175 := eq_true q175
                                      go_wp2_with (first | ((with_reducible refine gate_dst (N := 13) rfl ?_); (try (refine gate_guard (by rfl) ?_; dsimp only)); refine box_event ?hg (N := 13) ?hd (cs := #[.string (⟨#[]⟩ : ByteArray), .int .i64 0]) (t := 32) ?hr ?_; (case hd => rfl); (case hg => rfl); (case hr => first | (go_simp; done) | (go_simp; rfl)); intro gb176 hg w44 hbox hb; have n0_ := Aside0.mk (Kd.R_below (Kd.R_elderB (by (with_reducible repeat (first | apply Kd.R_alloc | apply Kd.R_drewN | apply Kd.R_drew)); exact HO_6.out) gb176 (Nat.le_of_eq hg.symm)) hb); have n1_ := Aside0.mk (Kd.R_below (Kd.R_elderB (by (with_reducible repeat (first | apply Kd.R_alloc | apply Kd.R_drewN | apply Kd.R_drew)); exact HO_8.out) gb176 (Nat.le_of_eq hg.symm)) hb); have n2_ := Aside0.mk (Kd.R_below (Kd.R_elderB (by (with_reducible repeat (first | apply Kd.R_alloc | apply Kd.R_drewN | apply Kd.R_drew)); exact HO_10.out) gb176 (Nat.le_of_eq hg.symm)) hb); have n3_ := Aside0.mk (below_step (by repeat (first | (with_reducible first | exact HB.out | apply below_alloc | apply pw_below_drewN | apply below_drew1) | exact HB.out)) hb); have n4_ := Aside0.mk (hbox); have n5_ := Aside0.mk ((by rw [hg]; exact (below_size (by repeat (first | (with_reducible first | exact HB.out | apply below_alloc | apply pw_below_drewN | apply below_drew1) | exact HB.out))) : w.heap.size ≤ gb176)); have n6_ := Aside0.mk ((by rw [hg]; exact (below_size (by repeat (first | (with_reducible first | exact HB.out | apply below_alloc | apply pw_below_drewN | apply below_drew1) | exact HB.out))) : w.heap.size ≤ gb176)); clear HO_6; clear HO_8; clear HO_10; clear HB; have HO_6 := n0_; have HO_8 := n1_; have HO_10 := n2_; have HB := n3_; have BK176 := n4_; have GW176 := n5_; have GE176 := n6_; clear n0_ n1_ n2_ n3_ n4_ n5_ n6_; clear hb hbox hg; have hcz45_0 : w44.cell? ⟨gb176, 0, none⟩ = some (.string (⟨#[]⟩ : ByteArray)) := (blk_cell BK176.out 0).trans rfl; have hcz45_1 : w44.cell? ⟨gb176, 1, none⟩ = some (.int .i64 0) := (blk_cell BK176.out 1).trans rfl; have hfz45_0 := blk_frozen BK176.out 0; have hfz45_1 := blk_frozen BK176.out 1; have p177 : 0 ≤ (x12_3 : Int) := of_decide_eq_true (by first | (with_reducible assumption) | assumption); have q177 : x12_3 < (t164.length : Int) := of_decide_eq_true (by first | (with_reducible assumption) | assumption); obtain ⟨ad177, e177, hx177_0, hx177_1⟩ := at_T32 (Kd.R_reads' HO_10.out).2.2 x12_3 p177 q177; cases e177; have hn177_0 : ad177.block ≠ gb176 := Kd.own_blk (Kd.R_away HO_10.out (fun _ hk => hk.2)); have hn177_1 : ad177.block ≠ gb176 := Kd.own_blk (Kd.R_away HO_10.out (fun _ hk => hk.2)); replace hx177_0 := (cell_far (p := ⟨gb176, 0, none⟩) (by first | (rw [add_block]; exact hn177_0) | (show (Addr.add _ _).block ≠ _; rw [add_block]; exact hn177_0) | exact hn177_0) (.string ((rd_T32 t160 (ji30)).f0))).trans hx177_0; replace hx177_1 := (cell_far (p := ⟨gb176, 0, none⟩) (by first | (rw [add_block]; exact hn177_0) | (show (Addr.add _ _).block ≠ _; rw [add_block]; exact hn177_0) | exact hn177_0) (.string ((rd_T32 t160 (ji30)).f0))).trans hx177_1; replace hx177_0 := (cell_far (p := ⟨gb176, 1, none⟩) (by first | (rw [add_block]; exact hn177_1) | (show (Addr.add _ _).block ≠ _; rw [add_block]; exact hn177_1) | exact hn177_1) (.int .i64 ((rd_T32 t160 (ji30)).f1))).trans hx177_0; replace hx177_1 := (cell_far (p := ⟨gb176, 1, none⟩) (by first | (rw [add_block]; exact hn177_1) | (show (Addr.add _ _).block ≠ _; rw [add_block]; exact hn177_1) | exact hn177_1) (.int .i64 ((rd_T32 t160 (ji30)).f1))).trans hx177_1; (try have hy177_0 := fun (n_ : Nat) => (show ((((w44.drewN n_).setCell ⟨gb176, 0, none⟩ (.string ((rd_T32 t160 (ji30)).f0))).setCell ⟨gb176, 1, none⟩ (.int .i64 ((rd_T32 t160 (ji30)).f1)))).cell? _ = some _ from hx177_0)); (try have hy177_1 := fun (n_ : Nat) => (show ((((w44.drewN n_).setCell ⟨gb176, 0, none⟩ (.string ((rd_T32 t160 (ji30)).f0))).setCell ⟨gb176, 1, none⟩ (.int .i64 ((rd_T32 t160 (ji30)).f1)))).cell? _ = some _ from hx177_1)); clear hn177_0; clear hn177_1; replace p177 := eq_true p177; replace q177 := eq_true q177; have p178 : 0 ≤ (x12_3 : Int) := of_decide_eq_true (by first | (with_reducible assumption) | assumption); have q178 : x12_3 < (t164.length : Int) := of_decide_eq_true (by first | (with_reducible assumption) | assumption); obtain ⟨ad178, e178, hx178_0, hx178_1⟩ := at_T32 (Kd.R_reads' HO_10.out).2.2 x12_3 p178 q178; obtain rfl : ad177 = ad178 := (by injection e178); have hn178_0 : ad177.block ≠ gb176 := Kd.own_blk (Kd.R_away HO_10.out (fun _ hk => hk.2)); have hn178_1 : ad177.block ≠ gb176 := Kd.own_blk (Kd.R_away HO_10.out (fun _ hk => hk.2)); replace hx178_0 := (cell_far (p := ⟨gb176, 0, none⟩) (by first | (rw [add_block]; exact hn178_0) | (show (Addr.add _ _).block ≠ _; rw [add_block]; exact hn178_0) | exact hn178_0) (.string ((rd_T32 t160 (ji30)).f0))).trans hx178_0; replace hx178_1 := (cell_far (p := ⟨gb176, 0, none⟩) (by first | (rw [add_block]; exact hn178_0) | (show (Addr.add _ _).block ≠ _; rw [add_block]; exact hn178_0) | exact hn178_0) (.string ((rd_T32 t160 (ji30)).f0))).trans hx178_1; replace hx178_0 := (cell_far (p := ⟨gb176, 1, none⟩) (by first | (rw [add_block]; exact hn178_1) | (show (Addr.add _ _).block ≠ _; rw [add_block]; exact hn178_1) | exact hn178_1) (.int .i64 ((rd_T32 t160 (ji30)).f1))).trans hx178_0; replace hx178_1 := (cell_far (p := ⟨gb176, 1, none⟩) (by first | (rw [add_block]; exact hn178_1) | (show (Addr.add _ _).block ≠ _; rw [add_block]; exact hn178_1) | exact hn178_1) (.int .i64 ((rd_T32 t160 (ji30)).f1))).trans hx178_1; (try have hy178_0 := fun (n_ : Nat) => (show ((((w44.drewN n_).setCell ⟨gb176, 0, none⟩ (.string ((rd_T32 t160 (ji30)).f0))).setCell ⟨gb176, 1, none⟩ (.int .i64 ((rd_T32 t160 (ji30)).f1)))).cell? _ = some _ from hx178_0)); (try have hy178_1 := fun (n_ : Nat) => (show ((((w44.drewN n_).setCell ⟨gb176, 0, none⟩ (.string ((rd_T32 t160 (ji30)).f0))).setCell ⟨gb176, 1, none⟩ (.int .i64 ((rd_T32 t160 (ji30)).f1)))).cell? _ = some _ from hx178_1)); clear hn178_0; clear hn178_1; replace p178 := eq_true p178; replace q178 := eq_true q178))
                                      repeat (go_quiet (first | ((with_reducible refine gate_dst (N := 13) rfl ?_); (try (refine gate_guard (by rfl) ?_; dsimp only)); refine box_event ?hg (N := 13) ?hd (cs := #[.string (⟨#[]⟩ : ByteArray), .int .i64 0]) (t := 32) ?hr ?_; (case hd => rfl); (case hg => rfl); (case hr => first | (go_simp; done) | (go_simp; rfl)); intro gb176 hg w44 hbox hb; have n0_ := Aside0.mk (Kd.R_below (Kd.R_elderB (by (with_reducible repeat (first | apply Kd.R_alloc | apply Kd.R_drewN | apply Kd.R_drew)); exact HO_6.out) gb176 (Nat.le_of_eq hg.symm)) hb); have n1_ := Aside0.mk (Kd.R_below (Kd.R_elderB (by (with_reducible repeat (first | apply Kd.R_alloc | apply Kd.R_drewN | apply Kd.R_drew)); exact HO_8.out) gb176 (Nat.le_of_eq hg.symm)) hb); have n2_ := Aside0.mk (Kd.R_below (Kd.R_elderB (by (with_reducible repeat (first | apply Kd.R_alloc | apply Kd.R_drewN | apply Kd.R_drew)); exact HO_10.out) gb176 (Nat.le_of_eq hg.symm)) hb); have n3_ := Aside0.mk (below_step (by repeat (first | (with_reducible first | exact HB.out | apply below_alloc | apply pw_below_drewN | apply below_drew1) | exact HB.out)) hb); have n4_ := Aside0.mk (hbox); have n5_ := Aside0.mk ((by rw [hg]; exact (below_size (by repeat (first | (with_reducible first | exact HB.out | apply below_alloc | apply pw_below_drewN | apply below_drew1) | exact HB.out))) : w.heap.size ≤ gb176)); have n6_ := Aside0.mk ((by rw [hg]; exact (below_size (by repeat (first | (with_reducible first | exact HB.out | apply below_alloc | apply pw_below_drewN | apply below_drew1) | exact HB.out))) : w.heap.size ≤ gb176)); clear HO_6; clear HO_8; clear HO_10; clear HB; have HO_6 := n0_; have HO_8 := n1_; have HO_10 := n2_; have HB := n3_; have BK176 := n4_; have GW176 := n5_; have GE176 := n6_; clear n0_ n1_ n2_ n3_ n4_ n5_ n6_; clear hb hbox hg; have hcz45_0 : w44.cell? ⟨gb176, 0, none⟩ = some (.string (⟨#[]⟩ : ByteArray)) := (blk_cell BK176.out 0).trans rfl; have hcz45_1 : w44.cell? ⟨gb176, 1, none⟩ = some (.int .i64 0) := (blk_cell BK176.out 1).trans rfl; have hfz45_0 := blk_frozen BK176.out 0; have hfz45_1 := blk_frozen BK176.out 1; have p177 : 0 ≤ (x12_3 : Int) := of_decide_eq_true (by first | (with_reducible assumption) | assumption); have q177 : x12_3 < (t164.length : Int) := of_decide_eq_true (by first | (with_reducible assumption) | assumption); obtain ⟨ad177, e177, hx177_0, hx177_1⟩ := at_T32 (Kd.R_reads' HO_10.out).2.2 x12_3 p177 q177; cases e177; have hn177_0 : ad177.block ≠ gb176 := Kd.own_blk (Kd.R_away HO_10.out (fun _ hk => hk.2)); have hn177_1 : ad177.block ≠ gb176 := Kd.own_blk (Kd.R_away HO_10.out (fun _ hk => hk.2)); replace hx177_0 := (cell_far (p := ⟨gb176, 0, none⟩) (by first | (rw [add_block]; exact hn177_0) | (show (Addr.add _ _).block ≠ _; rw [add_block]; exact hn177_0) | exact hn177_0) (.string ((rd_T32 t160 (ji30)).f0))).trans hx177_0; replace hx177_1 := (cell_far (p := ⟨gb176, 0, none⟩) (by first | (rw [add_block]; exact hn177_0) | (show (Addr.add _ _).block ≠ _; rw [add_block]; exact hn177_0) | exact hn177_0) (.string ((rd_T32 t160 (ji30)).f0))).trans hx177_1; replace hx177_0 := (cell_far (p := ⟨gb176, 1, none⟩) (by first | (rw [add_block]; exact hn177_1) | (show (Addr.add _ _).block ≠ _; rw [add_block]; exact hn177_1) | exact hn177_1) (.int .i64 ((rd_T32 t160 (ji30)).f1))).trans hx177_0; replace hx177_1 := (cell_far (p := ⟨gb176, 1, none⟩) (by first | (rw [add_block]; exact hn177_1) | (show (Addr.add _ _).block ≠ _; rw [add_block]; exact hn177_1) | exact hn177_1) (.int .i64 ((rd_T32 t160 (ji30)).f1))).trans hx177_1; (try have hy177_0 := fun (n_ : Nat) => (show ((((w44.drewN n_).setCell ⟨gb176, 0, none⟩ (.string ((rd_T32 t160 (ji30)).f0))).setCell ⟨gb176, 1, none⟩ (.int .i64 ((rd_T32 t160 (ji30)).f1)))).cell? _ = some _ from hx177_0)); (try have hy177_1 := fun (n_ : Nat) => (show ((((w44.drewN n_).setCell ⟨gb176, 0, none⟩ (.string ((rd_T32 t160 (ji30)).f0))).setCell ⟨gb176, 1, none⟩ (.int .i64 ((rd_T32 t160 (ji30)).f1)))).cell? _ = some _ from hx177_1)); clear hn177_0; clear hn177_1; replace p177 := eq_true p177; replace q177 := eq_true q177; have p178 : 0 ≤ (x12_3 : Int) := of_decide_eq_true (by first | (with_reducible assumption) | assumption); have q178 : x12_3 < (t164.length : Int) := of_decide_eq_true (by first | (with_reducible assumption) | assumption); obtain ⟨ad178, e178, hx178_0, hx178_1⟩ := at_T32 (Kd.R_reads' HO_10.out).2.2 x12_3 p178 q178; obtain rfl : ad177 = ad178 := (by injection e178); have hn178_0 : ad177.block ≠ gb176 := Kd.own_blk (Kd.R_away HO_10.out (fun _ hk => hk.2)); have hn178_1 : ad177.block ≠ gb176 := Kd.own_blk (Kd.R_away HO_10.out (fun _ hk => hk.2)); replace hx178_0 := (cell_far (p := ⟨gb176, 0, none⟩) (by first | (rw [add_block]; exact hn178_0) | (show (Addr.add _ _).block ≠ _; rw [add_block]; exact hn178_0) | exact hn178_0) (.string ((rd_T32 t160 (ji30)).f0))).trans hx178_0; replace hx178_1 := (cell_far (p := ⟨gb176, 0, none⟩) (by first | (rw [add_block]; exact hn178_0) | (show (Addr.add _ _).block ≠ _; rw [add_block]; exact hn178_0) | exact hn178_0) (.string ((rd_T32 t160 (ji30)).f0))).trans hx178_1; replace hx178_0 := (cell_far (p := ⟨gb176, 1, none⟩) (by first | (rw [add_block]; exact hn178_1) | (show (Addr.add _ _).block ≠ _; rw [add_block]; exact hn178_1) | exact hn178_1) (.int .i64 ((rd_T32 t160 (ji30)).f1))).trans hx178_0; replace hx178_1 := (cell_far (p := ⟨gb176, 1, none⟩) (by first | (rw [add_block]; exact hn178_1) | (show (Addr.add _ _).block ≠ _; rw [add_block]; exact hn178_1) | exact hn178_1) (.int .i64 ((rd_T32 t160 (ji30)).f1))).trans hx178_1; (try have hy178_0 := fun (n_ : Nat) => (show ((((w44.drewN n_).setCell ⟨gb176, 0, none⟩ (.string ((rd_T32 t160 (ji30)).f0))).setCell ⟨gb176, 1, none⟩ (.int .i64 ((rd_T32 t160 (ji30)).f1)))).cell? _ = some _ from hx178_0)); (try have hy178_1 := fun (n_ : Nat) => (show ((((w44.drewN n_).setCell ⟨gb176, 0, none⟩ (.string ((rd_T32 t160 (ji30)).f0))).setCell ⟨gb176, 1, none⟩ (.int .i64 ((rd_T32 t160 (ji30)).f1)))).cell? _ = some _ from hx178_1)); clear hn178_0; clear hn178_1; replace p178 := eq_true p178; replace q178 := eq_true q178)); try go_wp2_with (first | ((with_reducible refine gate_dst (N := 13) rfl ?_); (try (refine gate_guard (by rfl) ?_; dsimp only)); refine box_event ?hg (N := 13) ?hd (cs := #[.string (⟨#[]⟩ : ByteArray), .int .i64 0]) (t := 32) ?hr ?_; (case hd => rfl); (case hg => rfl); (case hr => first | (go_simp; done) | (go_simp; rfl)); intro gb176 hg w44 hbox hb; have n0_ := Aside0.mk (Kd.R_below (Kd.R_elderB (by (with_reducible repeat (first | apply Kd.R_alloc | apply Kd.R_drewN | apply Kd.R_drew)); exact HO_6.out) gb176 (Nat.le_of_eq hg.symm)) hb); have n1_ := Aside0.mk (Kd.R_below (Kd.R_elderB (by (with_reducible repeat (first | apply Kd.R_alloc | apply Kd.R_drewN | apply Kd.R_drew)); exact HO_8.out) gb176 (Nat.le_of_eq hg.symm)) hb); have n2_ := Aside0.mk (Kd.R_below (Kd.R_elderB (by (with_reducible repeat (first | apply Kd.R_alloc | apply Kd.R_drewN | apply Kd.R_drew)); exact HO_10.out) gb176 (Nat.le_of_eq hg.symm)) hb); have n3_ := Aside0.mk (below_step (by repeat (first | (with_reducible first | exact HB.out | apply below_alloc | apply pw_below_drewN | apply below_drew1) | exact HB.out)) hb); have n4_ := Aside0.mk (hbox); have n5_ := Aside0.mk ((by rw [hg]; exact (below_size (by repeat (first | (with_reducible first | exact HB.out | apply below_alloc | apply pw_below_drewN | apply below_drew1) | exact HB.out))) : w.heap.size ≤ gb176)); have n6_ := Aside0.mk ((by rw [hg]; exact (below_size (by repeat (first | (with_reducible first | exact HB.out | apply below_alloc | apply pw_below_drewN | apply below_drew1) | exact HB.out))) : w.heap.size ≤ gb176)); clear HO_6; clear HO_8; clear HO_10; clear HB; have HO_6 := n0_; have HO_8 := n1_; have HO_10 := n2_; have HB := n3_; have BK176 := n4_; have GW176 := n5_; have GE176 := n6_; clear n0_ n1_ n2_ n3_ n4_ n5_ n6_; clear hb hbox hg; have hcz45_0 : w44.cell? ⟨gb176, 0, none⟩ = some (.string (⟨#[]⟩ : ByteArray)) := (blk_cell BK176.out 0).trans rfl; have hcz45_1 : w44.cell? ⟨gb176, 1, none⟩ = some (.int .i64 0) := (blk_cell BK176.out 1).trans rfl; have hfz45_0 := blk_frozen BK176.out 0; have hfz45_1 := blk_frozen BK176.out 1; have p177 : 0 ≤ (x12_3 : Int) := of_decide_eq_true (by first | (with_reducible assumption) | assumption); have q177 : x12_3 < (t164.length : Int) := of_decide_eq_true (by first | (with_reducible assumption) | assumption); obtain ⟨ad177, e177, hx177_0, hx177_1⟩ := at_T32 (Kd.R_reads' HO_10.out).2.2 x12_3 p177 q177; cases e177; have hn177_0 : ad177.block ≠ gb176 := Kd.own_blk (Kd.R_away HO_10.out (fun _ hk => hk.2)); have hn177_1 : ad177.block ≠ gb176 := Kd.own_blk (Kd.R_away HO_10.out (fun _ hk => hk.2)); replace hx177_0 := (cell_far (p := ⟨gb176, 0, none⟩) (by first | (rw [add_block]; exact hn177_0) | (show (Addr.add _ _).block ≠ _; rw [add_block]; exact hn177_0) | exact hn177_0) (.string ((rd_T32 t160 (ji30)).f0))).trans hx177_0; replace hx177_1 := (cell_far (p := ⟨gb176, 0, none⟩) (by first | (rw [add_block]; exact hn177_0) | (show (Addr.add _ _).block ≠ _; rw [add_block]; exact hn177_0) | exact hn177_0) (.string ((rd_T32 t160 (ji30)).f0))).trans hx177_1; replace hx177_0 := (cell_far (p := ⟨gb176, 1, none⟩) (by first | (rw [add_block]; exact hn177_1) | (show (Addr.add _ _).block ≠ _; rw [add_block]; exact hn177_1) | exact hn177_1) (.int .i64 ((rd_T32 t160 (ji30)).f1))).trans hx177_0; replace hx177_1 := (cell_far (p := ⟨gb176, 1, none⟩) (by first | (rw [add_block]; exact hn177_1) | (show (Addr.add _ _).block ≠ _; rw [add_block]; exact hn177_1) | exact hn177_1) (.int .i64 ((rd_T32 t160 (ji30)).f1))).trans hx177_1; (try have hy177_0 := fun (n_ : Nat) => (show ((((w44.drewN n_).setCell ⟨gb176, 0, none⟩ (.string ((rd_T32 t160 (ji30)).f0))).setCell ⟨gb176, 1, none⟩ (.int .i64 ((rd_T32 t160 (ji30)).f1)))).cell? _ = some _ from hx177_0)); (try have hy177_1 := fun (n_ : Nat) => (show ((((w44.drewN n_).setCell ⟨gb176, 0, none⟩ (.string ((rd_T32 t160 (ji30)).f0))).setCell ⟨gb176, 1, none⟩ (.int .i64 ((rd_T32 t160 (ji30)).f1)))).cell? _ = some _ from hx177_1)); clear hn177_0; clear hn177_1; replace p177 := eq_true p177; replace q177 := eq_true q177; have p178 : 0 ≤ (x12_3 : Int) := of_decide_eq_true (by first | (with_reducible assumption) | assumption); have q178 : x12_3 < (t164.length : Int) := of_decide_eq_true (by first | (with_reducible assumption) | assumption); obtain ⟨ad178, e178, hx178_0, hx178_1⟩ := at_T32 (Kd.R_reads' HO_10.out).2.2 x12_3 p178 q178; obtain rfl : ad177 = ad178 := (by injection e178); have hn178_0 : ad177.block ≠ gb176 := Kd.own_blk (Kd.R_away HO_10.out (fun _ hk => hk.2)); have hn178_1 : ad177.block ≠ gb176 := Kd.own_blk (Kd.R_away HO_10.out (fun _ hk => hk.2)); replace hx178_0 := (cell_far (p := ⟨gb176, 0, none⟩) (by first | (rw [add_block]; exact hn178_0) | (show (Addr.add _ _).block ≠ _; rw [add_block]; exact hn178_0) | exact hn178_0) (.string ((rd_T32 t160 (ji30)).f0))).trans hx178_0; replace hx178_1 := (cell_far (p := ⟨gb176, 0, none⟩) (by first | (rw [add_block]; exact hn178_0) | (show (Addr.add _ _).block ≠ _; rw [add_block]; exact hn178_0) | exact hn178_0) (.string ((rd_T32 t160 (ji30)).f0))).trans hx178_1; replace hx178_0 := (cell_far (p := ⟨gb176, 1, none⟩) (by first | (rw [add_block]; exact hn178_1) | (show (Addr.add _ _).block ≠ _; rw [add_block]; exact hn178_1) | exact hn178_1) (.int .i64 ((rd_T32 t160 (ji30)).f1))).trans hx178_0; replace hx178_1 := (cell_far (p := ⟨gb176, 1, none⟩) (by first | (rw [add_block]; exact hn178_1) | (show (Addr.add _ _).block ≠ _; rw [add_block]; exact hn178_1) | exact hn178_1) (.int .i64 ((rd_T32 t160 (ji30)).f1))).trans hx178_1; (try have hy178_0 := fun (n_ : Nat) => (show ((((w44.drewN n_).setCell ⟨gb176, 0, none⟩ (.string ((rd_T32 t160 (ji30)).f0))).setCell ⟨gb176, 1, none⟩ (.int .i64 ((rd_T32 t160 (ji30)).f1)))).cell? _ = some _ from hx178_0)); (try have hy178_1 := fun (n_ : Nat) => (show ((((w44.drewN n_).setCell ⟨gb176, 0, none⟩ (.string ((rd_T32 t160 (ji30)).f0))).setCell ⟨gb176, 1, none⟩ (.int .i64 ((rd_T32 t160 (ji30)).f1)))).cell? _ = some _ from hx178_1)); clear hn178_0; clear hn178_1; replace p178 := eq_true p178; replace q178 := eq_true q178)))
                                      go_ret
                                      exact ⟨by first | rfl | (simp [errW_none, errW_some] <;> rfl) | (simp only [← hji30]; first | rfl | (simp [errW_none, errW_some] <;> rfl)) | (simp [*, errW_none, errW_some] <;> rfl), by repeat (first | (with_reducible first | exact HB.out | apply below_alloc | apply pw_below_drewN | apply below_drew1 | refine below_set ?_ GE176.out) | exact HB.out)⟩
                                  · rw [if_neg c34] at H
                                    have c34b0 : (((rd_T32 t164 x12_3).f0).toList == ((rd_T32 t160 (ji30)).f0).toList) = false := beq_eq_false_iff_ne.mpr c34
                                    have c34b1 : (((rd_T32 t164 x12_3).f0).toList != ((rd_T32 t160 (ji30)).f0).toList) = true := bne_iff_ne.mpr c34
                                    obtain rfl := Option.some.inj H
                                    obtain ⟨Ao46, co46, eo46⟩ := Kd.R_slice HO_10.out
                                    subst eo46
                                    obtain ⟨Ao47, co47, eo47⟩ := Kd.R_slice HO_6.out
                                    subst eo47
                                    obtain ⟨Ao48, co48, eo48⟩ := Kd.R_slice HO_8.out
                                    subst eo48
                                    have p175 : 0 ≤ ((ji30) : Int) := of_decide_eq_true (by first | (with_reducible assumption) | assumption)
                                    have q175 : (ji30) < (t160.length : Int) := of_decide_eq_true (by first | (with_reducible assumption) | assumption)
                                    obtain ⟨ad175, e175, hx175_0, hx175_1⟩ := at_T32 (Kd.R_reads' HO_8.out).2.2 (ji30) p175 q175
                                    cases e175
                                    replace p175 := eq_true p175
                                    replace q175 := eq_true q175
                                    go_wp2_with (first | ((with_reducible refine gate_dst (N := 13) rfl ?_); (try (refine gate_guard (by rfl) ?_; dsimp only)); refine box_event ?hg (N := 13) ?hd (cs := #[.string (⟨#[]⟩ : ByteArray), .int .i64 0]) (t := 32) ?hr ?_; (case hd => rfl); (case hg => rfl); (case hr => first | (go_simp; done) | (go_simp; rfl)); intro gb176 hg w49 hbox hb; have n0_ := Aside0.mk (Kd.R_below (Kd.R_elderB (by (with_reducible repeat (first | apply Kd.R_alloc | apply Kd.R_drewN | apply Kd.R_drew)); exact HO_6.out) gb176 (Nat.le_of_eq hg.symm)) hb); have n1_ := Aside0.mk (Kd.R_below (Kd.R_elderB (by (with_reducible repeat (first | apply Kd.R_alloc | apply Kd.R_drewN | apply Kd.R_drew)); exact HO_8.out) gb176 (Nat.le_of_eq hg.symm)) hb); have n2_ := Aside0.mk (Kd.R_below (Kd.R_elderB (by (with_reducible repeat (first | apply Kd.R_alloc | apply Kd.R_drewN | apply Kd.R_drew)); exact HO_10.out) gb176 (Nat.le_of_eq hg.symm)) hb); have n3_ := Aside0.mk (below_step (by repeat (first | (with_reducible first | exact HB.out | apply below_alloc | apply pw_below_drewN | apply below_drew1) | exact HB.out)) hb); have n4_ := Aside0.mk (hbox); have n5_ := Aside0.mk ((by rw [hg]; exact (below_size (by repeat (first | (with_reducible first | exact HB.out | apply below_alloc | apply pw_below_drewN | apply below_drew1) | exact HB.out))) : w.heap.size ≤ gb176)); have n6_ := Aside0.mk ((by rw [hg]; exact (below_size (by repeat (first | (with_reducible first | exact HB.out | apply below_alloc | apply pw_below_drewN | apply below_drew1) | exact HB.out))) : w.heap.size ≤ gb176)); clear HO_6; clear HO_8; clear HO_10; clear HB; have HO_6 := n0_; have HO_8 := n1_; have HO_10 := n2_; have HB := n3_; have BK176 := n4_; have GW176 := n5_; have GE176 := n6_; clear n0_ n1_ n2_ n3_ n4_ n5_ n6_; clear hb hbox hg; have hcz50_0 : w49.cell? ⟨gb176, 0, none⟩ = some (.string (⟨#[]⟩ : ByteArray)) := (blk_cell BK176.out 0).trans rfl; have hcz50_1 : w49.cell? ⟨gb176, 1, none⟩ = some (.int .i64 0) := (blk_cell BK176.out 1).trans rfl; have hfz50_0 := blk_frozen BK176.out 0; have hfz50_1 := blk_frozen BK176.out 1; have p177 : 0 ≤ (x12_3 : Int) := of_decide_eq_true (by first | (with_reducible assumption) | assumption); have q177 : x12_3 < (t164.length : Int) := of_decide_eq_true (by first | (with_reducible assumption) | assumption); obtain ⟨ad177, e177, hx177_0, hx177_1⟩ := at_T32 (Kd.R_reads' HO_10.out).2.2 x12_3 p177 q177; cases e177; have hn177_0 : ad177.block ≠ gb176 := Kd.own_blk (Kd.R_away HO_10.out (fun _ hk => hk.2)); have hn177_1 : ad177.block ≠ gb176 := Kd.own_blk (Kd.R_away HO_10.out (fun _ hk => hk.2)); replace hx177_0 := (cell_far (p := ⟨gb176, 0, none⟩) (by first | (rw [add_block]; exact hn177_0) | (show (Addr.add _ _).block ≠ _; rw [add_block]; exact hn177_0) | exact hn177_0) (.string ((rd_T32 t160 (ji30)).f0))).trans hx177_0; replace hx177_1 := (cell_far (p := ⟨gb176, 0, none⟩) (by first | (rw [add_block]; exact hn177_0) | (show (Addr.add _ _).block ≠ _; rw [add_block]; exact hn177_0) | exact hn177_0) (.string ((rd_T32 t160 (ji30)).f0))).trans hx177_1; replace hx177_0 := (cell_far (p := ⟨gb176, 1, none⟩) (by first | (rw [add_block]; exact hn177_1) | (show (Addr.add _ _).block ≠ _; rw [add_block]; exact hn177_1) | exact hn177_1) (.int .i64 ((rd_T32 t160 (ji30)).f1))).trans hx177_0; replace hx177_1 := (cell_far (p := ⟨gb176, 1, none⟩) (by first | (rw [add_block]; exact hn177_1) | (show (Addr.add _ _).block ≠ _; rw [add_block]; exact hn177_1) | exact hn177_1) (.int .i64 ((rd_T32 t160 (ji30)).f1))).trans hx177_1; (try have hy177_0 := fun (n_ : Nat) => (show ((((w49.drewN n_).setCell ⟨gb176, 0, none⟩ (.string ((rd_T32 t160 (ji30)).f0))).setCell ⟨gb176, 1, none⟩ (.int .i64 ((rd_T32 t160 (ji30)).f1)))).cell? _ = some _ from hx177_0)); (try have hy177_1 := fun (n_ : Nat) => (show ((((w49.drewN n_).setCell ⟨gb176, 0, none⟩ (.string ((rd_T32 t160 (ji30)).f0))).setCell ⟨gb176, 1, none⟩ (.int .i64 ((rd_T32 t160 (ji30)).f1)))).cell? _ = some _ from hx177_1)); clear hn177_0; clear hn177_1; replace p177 := eq_true p177; replace q177 := eq_true q177))
                                    repeat (go_quiet (first | ((with_reducible refine gate_dst (N := 13) rfl ?_); (try (refine gate_guard (by rfl) ?_; dsimp only)); refine box_event ?hg (N := 13) ?hd (cs := #[.string (⟨#[]⟩ : ByteArray), .int .i64 0]) (t := 32) ?hr ?_; (case hd => rfl); (case hg => rfl); (case hr => first | (go_simp; done) | (go_simp; rfl)); intro gb176 hg w49 hbox hb; have n0_ := Aside0.mk (Kd.R_below (Kd.R_elderB (by (with_reducible repeat (first | apply Kd.R_alloc | apply Kd.R_drewN | apply Kd.R_drew)); exact HO_6.out) gb176 (Nat.le_of_eq hg.symm)) hb); have n1_ := Aside0.mk (Kd.R_below (Kd.R_elderB (by (with_reducible repeat (first | apply Kd.R_alloc | apply Kd.R_drewN | apply Kd.R_drew)); exact HO_8.out) gb176 (Nat.le_of_eq hg.symm)) hb); have n2_ := Aside0.mk (Kd.R_below (Kd.R_elderB (by (with_reducible repeat (first | apply Kd.R_alloc | apply Kd.R_drewN | apply Kd.R_drew)); exact HO_10.out) gb176 (Nat.le_of_eq hg.symm)) hb); have n3_ := Aside0.mk (below_step (by repeat (first | (with_reducible first | exact HB.out | apply below_alloc | apply pw_below_drewN | apply below_drew1) | exact HB.out)) hb); have n4_ := Aside0.mk (hbox); have n5_ := Aside0.mk ((by rw [hg]; exact (below_size (by repeat (first | (with_reducible first | exact HB.out | apply below_alloc | apply pw_below_drewN | apply below_drew1) | exact HB.out))) : w.heap.size ≤ gb176)); have n6_ := Aside0.mk ((by rw [hg]; exact (below_size (by repeat (first | (with_reducible first | exact HB.out | apply below_alloc | apply pw_below_drewN | apply below_drew1) | exact HB.out))) : w.heap.size ≤ gb176)); clear HO_6; clear HO_8; clear HO_10; clear HB; have HO_6 := n0_; have HO_8 := n1_; have HO_10 := n2_; have HB := n3_; have BK176 := n4_; have GW176 := n5_; have GE176 := n6_; clear n0_ n1_ n2_ n3_ n4_ n5_ n6_; clear hb hbox hg; have hcz50_0 : w49.cell? ⟨gb176, 0, none⟩ = some (.string (⟨#[]⟩ : ByteArray)) := (blk_cell BK176.out 0).trans rfl; have hcz50_1 : w49.cell? ⟨gb176, 1, none⟩ = some (.int .i64 0) := (blk_cell BK176.out 1).trans rfl; have hfz50_0 := blk_frozen BK176.out 0; have hfz50_1 := blk_frozen BK176.out 1; have p177 : 0 ≤ (x12_3 : Int) := of_decide_eq_true (by first | (with_reducible assumption) | assumption); have q177 : x12_3 < (t164.length : Int) := of_decide_eq_true (by first | (with_reducible assumption) | assumption); obtain ⟨ad177, e177, hx177_0, hx177_1⟩ := at_T32 (Kd.R_reads' HO_10.out).2.2 x12_3 p177 q177; cases e177; have hn177_0 : ad177.block ≠ gb176 := Kd.own_blk (Kd.R_away HO_10.out (fun _ hk => hk.2)); have hn177_1 : ad177.block ≠ gb176 := Kd.own_blk (Kd.R_away HO_10.out (fun _ hk => hk.2)); replace hx177_0 := (cell_far (p := ⟨gb176, 0, none⟩) (by first | (rw [add_block]; exact hn177_0) | (show (Addr.add _ _).block ≠ _; rw [add_block]; exact hn177_0) | exact hn177_0) (.string ((rd_T32 t160 (ji30)).f0))).trans hx177_0; replace hx177_1 := (cell_far (p := ⟨gb176, 0, none⟩) (by first | (rw [add_block]; exact hn177_0) | (show (Addr.add _ _).block ≠ _; rw [add_block]; exact hn177_0) | exact hn177_0) (.string ((rd_T32 t160 (ji30)).f0))).trans hx177_1; replace hx177_0 := (cell_far (p := ⟨gb176, 1, none⟩) (by first | (rw [add_block]; exact hn177_1) | (show (Addr.add _ _).block ≠ _; rw [add_block]; exact hn177_1) | exact hn177_1) (.int .i64 ((rd_T32 t160 (ji30)).f1))).trans hx177_0; replace hx177_1 := (cell_far (p := ⟨gb176, 1, none⟩) (by first | (rw [add_block]; exact hn177_1) | (show (Addr.add _ _).block ≠ _; rw [add_block]; exact hn177_1) | exact hn177_1) (.int .i64 ((rd_T32 t160 (ji30)).f1))).trans hx177_1; (try have hy177_0 := fun (n_ : Nat) => (show ((((w49.drewN n_).setCell ⟨gb176, 0, none⟩ (.string ((rd_T32 t160 (ji30)).f0))).setCell ⟨gb176, 1, none⟩ (.int .i64 ((rd_T32 t160 (ji30)).f1)))).cell? _ = some _ from hx177_0)); (try have hy177_1 := fun (n_ : Nat) => (show ((((w49.drewN n_).setCell ⟨gb176, 0, none⟩ (.string ((rd_T32 t160 (ji30)).f0))).setCell ⟨gb176, 1, none⟩ (.int .i64 ((rd_T32 t160 (ji30)).f1)))).cell? _ = some _ from hx177_1)); clear hn177_0; clear hn177_1; replace p177 := eq_true p177; replace q177 := eq_true q177)); try go_wp2_with (first | ((with_reducible refine gate_dst (N := 13) rfl ?_); (try (refine gate_guard (by rfl) ?_; dsimp only)); refine box_event ?hg (N := 13) ?hd (cs := #[.string (⟨#[]⟩ : ByteArray), .int .i64 0]) (t := 32) ?hr ?_; (case hd => rfl); (case hg => rfl); (case hr => first | (go_simp; done) | (go_simp; rfl)); intro gb176 hg w49 hbox hb; have n0_ := Aside0.mk (Kd.R_below (Kd.R_elderB (by (with_reducible repeat (first | apply Kd.R_alloc | apply Kd.R_drewN | apply Kd.R_drew)); exact HO_6.out) gb176 (Nat.le_of_eq hg.symm)) hb); have n1_ := Aside0.mk (Kd.R_below (Kd.R_elderB (by (with_reducible repeat (first | apply Kd.R_alloc | apply Kd.R_drewN | apply Kd.R_drew)); exact HO_8.out) gb176 (Nat.le_of_eq hg.symm)) hb); have n2_ := Aside0.mk (Kd.R_below (Kd.R_elderB (by (with_reducible repeat (first | apply Kd.R_alloc | apply Kd.R_drewN | apply Kd.R_drew)); exact HO_10.out) gb176 (Nat.le_of_eq hg.symm)) hb); have n3_ := Aside0.mk (below_step (by repeat (first | (with_reducible first | exact HB.out | apply below_alloc | apply pw_below_drewN | apply below_drew1) | exact HB.out)) hb); have n4_ := Aside0.mk (hbox); have n5_ := Aside0.mk ((by rw [hg]; exact (below_size (by repeat (first | (with_reducible first | exact HB.out | apply below_alloc | apply pw_below_drewN | apply below_drew1) | exact HB.out))) : w.heap.size ≤ gb176)); have n6_ := Aside0.mk ((by rw [hg]; exact (below_size (by repeat (first | (with_reducible first | exact HB.out | apply below_alloc | apply pw_below_drewN | apply below_drew1) | exact HB.out))) : w.heap.size ≤ gb176)); clear HO_6; clear HO_8; clear HO_10; clear HB; have HO_6 := n0_; have HO_8 := n1_; have HO_10 := n2_; have HB := n3_; have BK176 := n4_; have GW176 := n5_; have GE176 := n6_; clear n0_ n1_ n2_ n3_ n4_ n5_ n6_; clear hb hbox hg; have hcz50_0 : w49.cell? ⟨gb176, 0, none⟩ = some (.string (⟨#[]⟩ : ByteArray)) := (blk_cell BK176.out 0).trans rfl; have hcz50_1 : w49.cell? ⟨gb176, 1, none⟩ = some (.int .i64 0) := (blk_cell BK176.out 1).trans rfl; have hfz50_0 := blk_frozen BK176.out 0; have hfz50_1 := blk_frozen BK176.out 1; have p177 : 0 ≤ (x12_3 : Int) := of_decide_eq_true (by first | (with_reducible assumption) | assumption); have q177 : x12_3 < (t164.length : Int) := of_decide_eq_true (by first | (with_reducible assumption) | assumption); obtain ⟨ad177, e177, hx177_0, hx177_1⟩ := at_T32 (Kd.R_reads' HO_10.out).2.2 x12_3 p177 q177; cases e177; have hn177_0 : ad177.block ≠ gb176 := Kd.own_blk (Kd.R_away HO_10.out (fun _ hk => hk.2)); have hn177_1 : ad177.block ≠ gb176 := Kd.own_blk (Kd.R_away HO_10.out (fun _ hk => hk.2)); replace hx177_0 := (cell_far (p := ⟨gb176, 0, none⟩) (by first | (rw [add_block]; exact hn177_0) | (show (Addr.add _ _).block ≠ _; rw [add_block]; exact hn177_0) | exact hn177_0) (.string ((rd_T32 t160 (ji30)).f0))).trans hx177_0; replace hx177_1 := (cell_far (p := ⟨gb176, 0, none⟩) (by first | (rw [add_block]; exact hn177_0) | (show (Addr.add _ _).block ≠ _; rw [add_block]; exact hn177_0) | exact hn177_0) (.string ((rd_T32 t160 (ji30)).f0))).trans hx177_1; replace hx177_0 := (cell_far (p := ⟨gb176, 1, none⟩) (by first | (rw [add_block]; exact hn177_1) | (show (Addr.add _ _).block ≠ _; rw [add_block]; exact hn177_1) | exact hn177_1) (.int .i64 ((rd_T32 t160 (ji30)).f1))).trans hx177_0; replace hx177_1 := (cell_far (p := ⟨gb176, 1, none⟩) (by first | (rw [add_block]; exact hn177_1) | (show (Addr.add _ _).block ≠ _; rw [add_block]; exact hn177_1) | exact hn177_1) (.int .i64 ((rd_T32 t160 (ji30)).f1))).trans hx177_1; (try have hy177_0 := fun (n_ : Nat) => (show ((((w49.drewN n_).setCell ⟨gb176, 0, none⟩ (.string ((rd_T32 t160 (ji30)).f0))).setCell ⟨gb176, 1, none⟩ (.int .i64 ((rd_T32 t160 (ji30)).f1)))).cell? _ = some _ from hx177_0)); (try have hy177_1 := fun (n_ : Nat) => (show ((((w49.drewN n_).setCell ⟨gb176, 0, none⟩ (.string ((rd_T32 t160 (ji30)).f0))).setCell ⟨gb176, 1, none⟩ (.int .i64 ((rd_T32 t160 (ji30)).f1)))).cell? _ = some _ from hx177_1)); clear hn177_0; clear hn177_1; replace p177 := eq_true p177; replace q177 := eq_true q177)))
                                    go_ret
                                    exact ⟨by first | rfl | (simp [errW_none, errW_some] <;> rfl) | (simp only [← hji30]; first | rfl | (simp [errW_none, errW_some] <;> rfl)) | (simp [*, errW_none, errW_some] <;> rfl), by repeat (first | (with_reducible first | exact HB.out | apply below_alloc | apply pw_below_drewN | apply below_drew1 | refine below_set ?_ GE176.out) | exact HB.out)⟩
                                · rw [if_neg c33] at H
                                  exact absurd H (by simp)
                              · rw [if_neg c32] at H
                                exact absurd H (by simp)
                            · rw [if_neg c31] at H
                              exact absurd H (by simp)
                        · rw [if_neg c22] at H
                          have c22b0 : decide (x12_3 < (t164.length : Int)) = false := decide_eq_false c22
                          clear c22
                          by_cases c51 : a0.size + 2 ≤ 9223372036854775807
                          · rw [if_pos c51] at H
                            have c51b0 := eq_true c51
                            have c51b1 : decide (a0.size + 2 ≤ 9223372036854775807) = true := decide_eq_true c51
                            try have c51b2 : (9223372036854775807 < a0.size + 2) = False := eq_false (Nat.not_lt.2 c51)
                            by_cases c52 : (a0 ++ (⟨#[10, 59]⟩ : ByteArray)).size + a1.size ≤ 9223372036854775807
                            · rw [if_pos c52] at H
                              have c52b0 := eq_true c52
                              have c52b1 : decide ((a0 ++ (⟨#[10, 59]⟩ : ByteArray)).size + a1.size ≤ 9223372036854775807) = true := decide_eq_true c52
                              try have c52b2 : (9223372036854775807 < (a0 ++ (⟨#[10, 59]⟩ : ByteArray)).size + a1.size) = False := eq_false (Nat.not_lt.2 c52)
                              replace H := Option.bind_eq_some_iff.mp H
                              obtain ⟨⟨t179, t180⟩, A530, H⟩ := H
                              replace H : (gristmilllaw3_LexJoins.l1 k3 a1 true t156 t179 t180 0) = some r := H
                              have A53 := Aside0.mk A530
                              clear A530
                              have H' := Aside0.mk H
                              clear H
                              obtain ⟨Ao54, co54, eo54⟩ := Kd.R_slice HO_10.out
                              subst eo54
                              go_wp2_with (first | (go_at_call 10; (with_reducible refine (lex_Words.calls k3 ((a0 ++ (⟨#[10, 59]⟩ : ByteArray)) ++ a1) t179 t180 _ A53.out).mono ?_); rintro e w55 ⟨v181, rfl, ho0, hb⟩; have n0_ := Aside0.mk (Kd.R_elder' (by (with_reducible repeat (first | apply Kd.R_alloc | apply Kd.R_drewN | apply Kd.R_drew)); exact HO_6.out) (Kd.R_base ho0) hb); have n1_ := Aside0.mk (Kd.R_elder' (by (with_reducible repeat (first | apply Kd.R_alloc | apply Kd.R_drewN | apply Kd.R_drew)); exact HO_8.out) (Kd.R_base ho0) hb); have n2_ := Aside0.mk (Kd.R_elder' (by (with_reducible repeat (first | apply Kd.R_alloc | apply Kd.R_drewN | apply Kd.R_drew)); exact HO_10.out) (Kd.R_base ho0) hb); have n3_ := Aside0.mk (Kd.R_lower (Kd.R_new' (Kd.R_new' (Kd.R_new' ho0 (Kd.R_lt (by (with_reducible repeat (first | apply Kd.R_alloc | apply Kd.R_drewN | apply Kd.R_drew)); exact HO_6.out))) (Kd.R_lt (by (with_reducible repeat (first | apply Kd.R_alloc | apply Kd.R_drewN | apply Kd.R_drew)); exact HO_8.out))) (Kd.R_lt (by (with_reducible repeat (first | apply Kd.R_alloc | apply Kd.R_drewN | apply Kd.R_drew)); exact HO_10.out))) (below_size (by repeat (first | (with_reducible first | exact HB.out | apply below_alloc | apply pw_below_drewN | apply below_drew1) | exact HB.out)))); have n4_ := Aside0.mk (below_step (by repeat (first | (with_reducible first | exact HB.out | apply below_alloc | apply pw_below_drewN | apply below_drew1) | exact HB.out)) hb); clear HO_6; clear HO_8; clear HO_10; clear HB; have HO_6 := n0_; have HO_8 := n1_; have HO_10 := n2_; have HO182 := n3_; have HB := n4_; clear n0_ n1_ n2_ n3_ n4_; (try clear hb); (try clear hb2); (try clear hk); (try clear hi); (try clear ho0); (try simp only [errW_none, errW_some])))
                              repeat (go_quiet (first | (go_at_call 10; (with_reducible refine (lex_Words.calls k3 ((a0 ++ (⟨#[10, 59]⟩ : ByteArray)) ++ a1) t179 t180 _ A53.out).mono ?_); rintro e w55 ⟨v181, rfl, ho0, hb⟩; have n0_ := Aside0.mk (Kd.R_elder' (by (with_reducible repeat (first | apply Kd.R_alloc | apply Kd.R_drewN | apply Kd.R_drew)); exact HO_6.out) (Kd.R_base ho0) hb); have n1_ := Aside0.mk (Kd.R_elder' (by (with_reducible repeat (first | apply Kd.R_alloc | apply Kd.R_drewN | apply Kd.R_drew)); exact HO_8.out) (Kd.R_base ho0) hb); have n2_ := Aside0.mk (Kd.R_elder' (by (with_reducible repeat (first | apply Kd.R_alloc | apply Kd.R_drewN | apply Kd.R_drew)); exact HO_10.out) (Kd.R_base ho0) hb); have n3_ := Aside0.mk (Kd.R_lower (Kd.R_new' (Kd.R_new' (Kd.R_new' ho0 (Kd.R_lt (by (with_reducible repeat (first | apply Kd.R_alloc | apply Kd.R_drewN | apply Kd.R_drew)); exact HO_6.out))) (Kd.R_lt (by (with_reducible repeat (first | apply Kd.R_alloc | apply Kd.R_drewN | apply Kd.R_drew)); exact HO_8.out))) (Kd.R_lt (by (with_reducible repeat (first | apply Kd.R_alloc | apply Kd.R_drewN | apply Kd.R_drew)); exact HO_10.out))) (below_size (by repeat (first | (with_reducible first | exact HB.out | apply below_alloc | apply pw_below_drewN | apply below_drew1) | exact HB.out)))); have n4_ := Aside0.mk (below_step (by repeat (first | (with_reducible first | exact HB.out | apply below_alloc | apply pw_below_drewN | apply below_drew1) | exact HB.out)) hb); clear HO_6; clear HO_8; clear HO_10; clear HB; have HO_6 := n0_; have HO_8 := n1_; have HO_10 := n2_; have HO182 := n3_; have HB := n4_; clear n0_ n1_ n2_ n3_ n4_; (try clear hb); (try clear hb2); (try clear hk); (try clear hi); (try clear ho0); (try simp only [errW_none, errW_some]))); try go_wp2_with (first | (go_at_call 10; (with_reducible refine (lex_Words.calls k3 ((a0 ++ (⟨#[10, 59]⟩ : ByteArray)) ++ a1) t179 t180 _ A53.out).mono ?_); rintro e w55 ⟨v181, rfl, ho0, hb⟩; have n0_ := Aside0.mk (Kd.R_elder' (by (with_reducible repeat (first | apply Kd.R_alloc | apply Kd.R_drewN | apply Kd.R_drew)); exact HO_6.out) (Kd.R_base ho0) hb); have n1_ := Aside0.mk (Kd.R_elder' (by (with_reducible repeat (first | apply Kd.R_alloc | apply Kd.R_drewN | apply Kd.R_drew)); exact HO_8.out) (Kd.R_base ho0) hb); have n2_ := Aside0.mk (Kd.R_elder' (by (with_reducible repeat (first | apply Kd.R_alloc | apply Kd.R_drewN | apply Kd.R_drew)); exact HO_10.out) (Kd.R_base ho0) hb); have n3_ := Aside0.mk (Kd.R_lower (Kd.R_new' (Kd.R_new' (Kd.R_new' ho0 (Kd.R_lt (by (with_reducible repeat (first | apply Kd.R_alloc | apply Kd.R_drewN | apply Kd.R_drew)); exact HO_6.out))) (Kd.R_lt (by (with_reducible repeat (first | apply Kd.R_alloc | apply Kd.R_drewN | apply Kd.R_drew)); exact HO_8.out))) (Kd.R_lt (by (with_reducible repeat (first | apply Kd.R_alloc | apply Kd.R_drewN | apply Kd.R_drew)); exact HO_10.out))) (below_size (by repeat (first | (with_reducible first | exact HB.out | apply below_alloc | apply pw_below_drewN | apply below_drew1) | exact HB.out)))); have n4_ := Aside0.mk (below_step (by repeat (first | (with_reducible first | exact HB.out | apply below_alloc | apply pw_below_drewN | apply below_drew1) | exact HB.out)) hb); clear HO_6; clear HO_8; clear HO_10; clear HB; have HO_6 := n0_; have HO_8 := n1_; have HO_10 := n2_; have HO182 := n3_; have HB := n4_; clear n0_ n1_ n2_ n3_ n4_; (try clear hb); (try clear hb2); (try clear hk); (try clear hi); (try clear ho0); (try simp only [errW_none, errW_some]))))
                              go_loopg [16] k3 (fun kq v16 w' => ∃ (x16_4 : Int), v16 = .int .i64 x16_4 ∧ Aside0 (gristmilllaw3_LexJoins.l1 kq a1 true t156 t179 t180 x16_4 = some r) ∧ Aside0 (kq ≤ k3) ∧ Aside0 (Kd.R k32 32 w' w.heap.size (fun k_ => some k_ ≠ (v181 : Value).ownBlock) v158 t156) ∧ Aside0 (Kd.R k32 32 w' w.heap.size (fun k_ => some k_ ≠ (v158 : Value).ownBlock) v181 t179) ∧ Aside0 (Below w.heap.size w w'))
                              case atStart => exact ⟨(0), (by first | rfl | (simp; done) | (simp [*]; done)), H', ⟨Nat.le_refl _⟩, ⟨by (with_reducible repeat (first | apply Kd.R_alloc | apply Kd.R_drewN | apply Kd.R_drew)); exact Kd.R_mono HO_6.out (fun _ hk => hk.2)⟩, ⟨by (with_reducible repeat (first | apply Kd.R_alloc | apply Kd.R_drewN | apply Kd.R_drew)); exact Kd.R_mono HO182.out (fun _ hk => hk.1.1.2)⟩, ⟨by repeat (first | (with_reducible first | exact HB.out | apply below_alloc | apply pw_below_drewN | apply below_drew1) | exact HB.out)⟩⟩
                              case round =>
                                clear H'
                                try clear c1
                                try clear p1
                                try clear q1
                                try clear hx1
                                try clear c2
                                try clear p2
                                try clear c3
                                try clear c4
                                try clear c5
                                try clear p6
                                try clear c7
                                try clear c7b0
                                try clear c7b1
                                try clear c8
                                try clear c11
                                try clear c11b0
                                try clear c11b1
                                try clear c11b2
                                try clear c12
                                try clear c12b0
                                try clear c12b1
                                try clear c12b2
                                try clear q16
                                try clear p17
                                try clear q17
                                try clear hx17
                                try clear c21
                                try clear c22
                                try clear c22b0
                                try clear c23
                                try clear c23b0
                                try clear c27
                                try clear c27b0
                                try clear c28
                                try clear c28b0
                                try clear c28b1
                                try clear c29
                                try clear c31
                                try clear c31b0
                                try clear c32
                                try clear c32b0
                                try clear c33
                                try clear c33b0
                                try clear c34
                                try clear c34b0
                                try clear c34b1
                                try clear c35
                                try clear c35b0
                                try clear c35b1
                                try clear c51
                                try clear c51b0
                                try clear c51b1
                                try clear c51b2
                                try clear c52
                                try clear c52b0
                                try clear c52b1
                                try clear c52b2
                                try clear hcz40_0
                                try clear hcz40_1
                                try clear hcz45_0
                                try clear hcz45_1
                                try clear hcz50_0
                                try clear hcz50_1
                                try clear hfz40_0
                                try clear hfz40_1
                                try clear hfz45_0
                                try clear hfz45_1
                                try clear hfz50_0
                                try clear hfz50_1
                                try clear hx171_0
                                try clear hx171_1
                                try clear hx172_0
                                try clear hx172_1
                                try clear hx173_0
                                try clear hx173_1
                                try clear hx174_0
                                try clear hx174_1
                                try clear hx175_0
                                try clear hx175_1
                                try clear hx177_0
                                try clear hx177_1
                                try clear hx178_0
                                try clear hx178_1
                                try clear p1
                                try clear p17
                                try clear p171
                                try clear p172
                                try clear p173
                                try clear p174
                                try clear p175
                                try clear p177
                                try clear p178
                                try clear p2
                                try clear p6
                                try clear q1
                                try clear q16
                                try clear q168
                                try clear q169
                                try clear q17
                                try clear q170
                                try clear q171
                                try clear q172
                                try clear q173
                                try clear q174
                                try clear q175
                                try clear q177
                                try clear q178
                                obtain ⟨x16_4, rfl, HA, HK4, HO_6, HO_14, HB⟩ := hrel
                                cases gk with
                                | zero => exact absurd HA.out (by simp [gristmilllaw3_LexJoins.l1])
                                | succ k4 =>
                                  have H := HA.out
                                  clear HA
                                  simp only [gristmilllaw3_LexJoins.l1] at H
                                  by_cases c56 : x16_4 < (a1.size : Int)
                                  · rw [if_pos c56] at H
                                    have c56b0 : decide (x16_4 < (a1.size : Int)) = true := decide_eq_true c56
                                    clear c56
                                    by_cases c57 : 0 ≤ x16_4
                                    · rw [if_pos c57] at H
                                      have c57b0 : decide (0 ≤ x16_4) = true := decide_eq_true c57
                                      clear c57
                                      by_cases c59 : (bt a1 x16_4) = 10
                                      · rw [if_pos c59] at H
                                        have c59b0 : ((bt a1 x16_4) == 10) = true := beq_iff_eq.mpr c59
                                        have c59b1 : ((bt a1 x16_4) != 10) = false := bne_eq_false_iff_eq.mpr c59
                                        clear c59
                                        have c60b0 := eq_true (of_decide_eq_true (by first | (with_reducible assumption) | assumption) : 0 ≤ x16_4)
                                        by_cases c61 : x16_4 ≤ (a1.size : Int)
                                        · rw [if_pos c61] at H
                                          have c61b0 := eq_true c61
                                          have c61b1 : decide (x16_4 ≤ (a1.size : Int)) = true := decide_eq_true c61
                                          clear c61
                                          replace H := Option.bind_eq_some_iff.mp H
                                          obtain ⟨⟨t183, t184⟩, A620, H⟩ := H
                                          replace H : (if true = true then (if t180.isNone = true then (if t184.isNone = true then (some ((t179.length : Int) == (wrap64 ((t156.length : Int) + (t183.length : Int))))) else (some false)) else (some false)) else (some false)) = some r := H
                                          have A62 := Aside0.mk A620
                                          clear A620
                                          have H1 : (if t180.isNone = true then (if t184.isNone = true then (some ((t179.length : Int) == (wrap64 ((t156.length : Int) + (t183.length : Int))))) else (some false)) else (some false)) = some r := by first | exact H | (rw [if_pos rfl] at H; exact H)
                                          clear H
                                          have H := H1
                                          clear H1
                                          rcases t180 with _ | q187
                                          · have H1 : (if t184.isNone = true then (some ((t179.length : Int) == (wrap64 ((t156.length : Int) + (t183.length : Int))))) else (some false)) = some r := by rw [if_pos (show (none : Option Int).isNone = true by rfl)] at H; exact H
                                            clear H
                                            have H := H1
                                            clear H1
                                            try simp only [errW_none, errW_some]
                                            rcases t184 with _ | q188
                                            · have H1 : (some ((t179.length : Int) == (wrap64 ((t156.length : Int) + (t183.length : Int))))) = some r := by rw [if_pos (show (none : Option Int).isNone = true by rfl)] at H; exact H
                                              clear H
                                              have H := H1
                                              clear H1
                                              try simp only [errW_none, errW_some]
                                              obtain rfl := Option.some.inj H
                                              have p58 : 0 ≤ (x16_4 : Int) := of_decide_eq_true (by first | (with_reducible assumption) | assumption)
                                              have q58 : x16_4 < (a1.size : Int) := of_decide_eq_true (by first | (with_reducible assumption) | assumption)
                                              have hx58 := bt_at a1 x16_4
                                              replace p58 := eq_true p58
                                              replace q58 := eq_true q58
                                              go_wp2_with (first | (go_at_call 10; (with_reducible refine (lex_Words.calls k4 (a1.extract (x16_4 : Int).toNat a1.size) t183 none _ A62.out).mono ?_); rintro e w63 ⟨v185, rfl, ho0, hb⟩; have n0_ := Aside0.mk (Kd.R_elder' (by (with_reducible repeat (first | apply Kd.R_alloc | apply Kd.R_drewN | apply Kd.R_drew)); exact HO_6.out) (Kd.R_base ho0) hb); have n1_ := Aside0.mk (Kd.R_elder' (by (with_reducible repeat (first | apply Kd.R_alloc | apply Kd.R_drewN | apply Kd.R_drew)); exact HO_14.out) (Kd.R_base ho0) hb); have n2_ := Aside0.mk (Kd.R_lower (Kd.R_new' (Kd.R_new' ho0 (Kd.R_lt (by (with_reducible repeat (first | apply Kd.R_alloc | apply Kd.R_drewN | apply Kd.R_drew)); exact HO_6.out))) (Kd.R_lt (by (with_reducible repeat (first | apply Kd.R_alloc | apply Kd.R_drewN | apply Kd.R_drew)); exact HO_14.out))) (below_size (by repeat (first | (with_reducible first | exact HB.out | apply below_alloc | apply pw_below_drewN | apply below_drew1) | exact HB.out)))); have n3_ := Aside0.mk (below_step (by repeat (first | (with_reducible first | exact HB.out | apply below_alloc | apply pw_below_drewN | apply below_drew1) | exact HB.out)) hb); clear HO_6; clear HO_14; clear HB; have HO_6 := n0_; have HO_14 := n1_; have HO186 := n2_; have HB := n3_; clear n0_ n1_ n2_ n3_; (try clear hb); (try clear hb2); (try clear hk); (try clear hi); (try clear ho0); (try simp only [errW_none, errW_some]); obtain ⟨Ao64, co64, eo64⟩ := Kd.R_slice HO_14.out; subst eo64; obtain ⟨Ao65, co65, eo65⟩ := Kd.R_slice HO_6.out; subst eo65; obtain ⟨Ao66, co66, eo66⟩ := Kd.R_slice HO186.out; subst eo66))
                                              repeat (go_quiet (first | (go_at_call 10; (with_reducible refine (lex_Words.calls k4 (a1.extract (x16_4 : Int).toNat a1.size) t183 none _ A62.out).mono ?_); rintro e w63 ⟨v185, rfl, ho0, hb⟩; have n0_ := Aside0.mk (Kd.R_elder' (by (with_reducible repeat (first | apply Kd.R_alloc | apply Kd.R_drewN | apply Kd.R_drew)); exact HO_6.out) (Kd.R_base ho0) hb); have n1_ := Aside0.mk (Kd.R_elder' (by (with_reducible repeat (first | apply Kd.R_alloc | apply Kd.R_drewN | apply Kd.R_drew)); exact HO_14.out) (Kd.R_base ho0) hb); have n2_ := Aside0.mk (Kd.R_lower (Kd.R_new' (Kd.R_new' ho0 (Kd.R_lt (by (with_reducible repeat (first | apply Kd.R_alloc | apply Kd.R_drewN | apply Kd.R_drew)); exact HO_6.out))) (Kd.R_lt (by (with_reducible repeat (first | apply Kd.R_alloc | apply Kd.R_drewN | apply Kd.R_drew)); exact HO_14.out))) (below_size (by repeat (first | (with_reducible first | exact HB.out | apply below_alloc | apply pw_below_drewN | apply below_drew1) | exact HB.out)))); have n3_ := Aside0.mk (below_step (by repeat (first | (with_reducible first | exact HB.out | apply below_alloc | apply pw_below_drewN | apply below_drew1) | exact HB.out)) hb); clear HO_6; clear HO_14; clear HB; have HO_6 := n0_; have HO_14 := n1_; have HO186 := n2_; have HB := n3_; clear n0_ n1_ n2_ n3_; (try clear hb); (try clear hb2); (try clear hk); (try clear hi); (try clear ho0); (try simp only [errW_none, errW_some]); obtain ⟨Ao64, co64, eo64⟩ := Kd.R_slice HO_14.out; subst eo64; obtain ⟨Ao65, co65, eo65⟩ := Kd.R_slice HO_6.out; subst eo65; obtain ⟨Ao66, co66, eo66⟩ := Kd.R_slice HO186.out; subst eo66)); try go_wp2_with (first | (go_at_call 10; (with_reducible refine (lex_Words.calls k4 (a1.extract (x16_4 : Int).toNat a1.size) t183 none _ A62.out).mono ?_); rintro e w63 ⟨v185, rfl, ho0, hb⟩; have n0_ := Aside0.mk (Kd.R_elder' (by (with_reducible repeat (first | apply Kd.R_alloc | apply Kd.R_drewN | apply Kd.R_drew)); exact HO_6.out) (Kd.R_base ho0) hb); have n1_ := Aside0.mk (Kd.R_elder' (by (with_reducible repeat (first | apply Kd.R_alloc | apply Kd.R_drewN | apply Kd.R_drew)); exact HO_14.out) (Kd.R_base ho0) hb); have n2_ := Aside0.mk (Kd.R_lower (Kd.R_new' (Kd.R_new' ho0 (Kd.R_lt (by (with_reducible repeat (first | apply Kd.R_alloc | apply Kd.R_drewN | apply Kd.R_drew)); exact HO_6.out))) (Kd.R_lt (by (with_reducible repeat (first | apply Kd.R_alloc | apply Kd.R_drewN | apply Kd.R_drew)); exact HO_14.out))) (below_size (by repeat (first | (with_reducible first | exact HB.out | apply below_alloc | apply pw_below_drewN | apply below_drew1) | exact HB.out)))); have n3_ := Aside0.mk (below_step (by repeat (first | (with_reducible first | exact HB.out | apply below_alloc | apply pw_below_drewN | apply below_drew1) | exact HB.out)) hb); clear HO_6; clear HO_14; clear HB; have HO_6 := n0_; have HO_14 := n1_; have HO186 := n2_; have HB := n3_; clear n0_ n1_ n2_ n3_; (try clear hb); (try clear hb2); (try clear hk); (try clear hi); (try clear ho0); (try simp only [errW_none, errW_some]); obtain ⟨Ao64, co64, eo64⟩ := Kd.R_slice HO_14.out; subst eo64; obtain ⟨Ao65, co65, eo65⟩ := Kd.R_slice HO_6.out; subst eo65; obtain ⟨Ao66, co66, eo66⟩ := Kd.R_slice HO186.out; subst eo66)))
                                              go_ret
                                              exact ⟨by first | rfl | (simp [errW_none, errW_some] <;> rfl) | (simp [*, errW_none, errW_some] <;> rfl), by repeat (first | (with_reducible first | exact HB.out | apply below_alloc | apply pw_below_drewN | apply below_drew1) | exact HB.out)⟩
                                            · have H1 : (some false) = some r := by rw [if_neg (show ¬ (some q188).isNone = true by simp)] at H; exact H
                                              clear H
                                              have H := H1
                                              clear H1
                                              try simp only [errW_none, errW_some]
                                              obtain rfl := Option.some.inj H
                                              have p58 : 0 ≤ (x16_4 : Int) := of_decide_eq_true (by first | (with_reducible assumption) | assumption)
                                              have q58 : x16_4 < (a1.size : Int) := of_decide_eq_true (by first | (with_reducible assumption) | assumption)
                                              have hx58 := bt_at a1 x16_4
                                              replace p58 := eq_true p58
                                              replace q58 := eq_true q58
                                              go_wp2_with (first | (go_at_call 10; (with_reducible refine (lex_Words.calls k4 (a1.extract (x16_4 : Int).toNat a1.size) t183 (some q188) _ A62.out).mono ?_); rintro e w67 ⟨v185, rfl, ho0, hb⟩; have n0_ := Aside0.mk (Kd.R_elder' (by (with_reducible repeat (first | apply Kd.R_alloc | apply Kd.R_drewN | apply Kd.R_drew)); exact HO_6.out) (Kd.R_base ho0) hb); have n1_ := Aside0.mk (Kd.R_elder' (by (with_reducible repeat (first | apply Kd.R_alloc | apply Kd.R_drewN | apply Kd.R_drew)); exact HO_14.out) (Kd.R_base ho0) hb); have n2_ := Aside0.mk (Kd.R_lower (Kd.R_new' (Kd.R_new' ho0 (Kd.R_lt (by (with_reducible repeat (first | apply Kd.R_alloc | apply Kd.R_drewN | apply Kd.R_drew)); exact HO_6.out))) (Kd.R_lt (by (with_reducible repeat (first | apply Kd.R_alloc | apply Kd.R_drewN | apply Kd.R_drew)); exact HO_14.out))) (below_size (by repeat (first | (with_reducible first | exact HB.out | apply below_alloc | apply pw_below_drewN | apply below_drew1) | exact HB.out)))); have n3_ := Aside0.mk (below_step (by repeat (first | (with_reducible first | exact HB.out | apply below_alloc | apply pw_below_drewN | apply below_drew1) | exact HB.out)) hb); clear HO_6; clear HO_14; clear HB; have HO_6 := n0_; have HO_14 := n1_; have HO186 := n2_; have HB := n3_; clear n0_ n1_ n2_ n3_; (try clear hb); (try clear hb2); (try clear hk); (try clear hi); (try clear ho0); (try simp only [errW_none, errW_some])))
                                              repeat (go_quiet (first | (go_at_call 10; (with_reducible refine (lex_Words.calls k4 (a1.extract (x16_4 : Int).toNat a1.size) t183 (some q188) _ A62.out).mono ?_); rintro e w67 ⟨v185, rfl, ho0, hb⟩; have n0_ := Aside0.mk (Kd.R_elder' (by (with_reducible repeat (first | apply Kd.R_alloc | apply Kd.R_drewN | apply Kd.R_drew)); exact HO_6.out) (Kd.R_base ho0) hb); have n1_ := Aside0.mk (Kd.R_elder' (by (with_reducible repeat (first | apply Kd.R_alloc | apply Kd.R_drewN | apply Kd.R_drew)); exact HO_14.out) (Kd.R_base ho0) hb); have n2_ := Aside0.mk (Kd.R_lower (Kd.R_new' (Kd.R_new' ho0 (Kd.R_lt (by (with_reducible repeat (first | apply Kd.R_alloc | apply Kd.R_drewN | apply Kd.R_drew)); exact HO_6.out))) (Kd.R_lt (by (with_reducible repeat (first | apply Kd.R_alloc | apply Kd.R_drewN | apply Kd.R_drew)); exact HO_14.out))) (below_size (by repeat (first | (with_reducible first | exact HB.out | apply below_alloc | apply pw_below_drewN | apply below_drew1) | exact HB.out)))); have n3_ := Aside0.mk (below_step (by repeat (first | (with_reducible first | exact HB.out | apply below_alloc | apply pw_below_drewN | apply below_drew1) | exact HB.out)) hb); clear HO_6; clear HO_14; clear HB; have HO_6 := n0_; have HO_14 := n1_; have HO186 := n2_; have HB := n3_; clear n0_ n1_ n2_ n3_; (try clear hb); (try clear hb2); (try clear hk); (try clear hi); (try clear ho0); (try simp only [errW_none, errW_some]))); try go_wp2_with (first | (go_at_call 10; (with_reducible refine (lex_Words.calls k4 (a1.extract (x16_4 : Int).toNat a1.size) t183 (some q188) _ A62.out).mono ?_); rintro e w67 ⟨v185, rfl, ho0, hb⟩; have n0_ := Aside0.mk (Kd.R_elder' (by (with_reducible repeat (first | apply Kd.R_alloc | apply Kd.R_drewN | apply Kd.R_drew)); exact HO_6.out) (Kd.R_base ho0) hb); have n1_ := Aside0.mk (Kd.R_elder' (by (with_reducible repeat (first | apply Kd.R_alloc | apply Kd.R_drewN | apply Kd.R_drew)); exact HO_14.out) (Kd.R_base ho0) hb); have n2_ := Aside0.mk (Kd.R_lower (Kd.R_new' (Kd.R_new' ho0 (Kd.R_lt (by (with_reducible repeat (first | apply Kd.R_alloc | apply Kd.R_drewN | apply Kd.R_drew)); exact HO_6.out))) (Kd.R_lt (by (with_reducible repeat (first | apply Kd.R_alloc | apply Kd.R_drewN | apply Kd.R_drew)); exact HO_14.out))) (below_size (by repeat (first | (with_reducible first | exact HB.out | apply below_alloc | apply pw_below_drewN | apply below_drew1) | exact HB.out)))); have n3_ := Aside0.mk (below_step (by repeat (first | (with_reducible first | exact HB.out | apply below_alloc | apply pw_below_drewN | apply below_drew1) | exact HB.out)) hb); clear HO_6; clear HO_14; clear HB; have HO_6 := n0_; have HO_14 := n1_; have HO186 := n2_; have HB := n3_; clear n0_ n1_ n2_ n3_; (try clear hb); (try clear hb2); (try clear hk); (try clear hi); (try clear ho0); (try simp only [errW_none, errW_some]))))
                                              go_ret
                                              exact ⟨by first | rfl | (simp [errW_none, errW_some] <;> rfl) | (simp [*, errW_none, errW_some] <;> rfl), by repeat (first | (with_reducible first | exact HB.out | apply below_alloc | apply pw_below_drewN | apply below_drew1) | exact HB.out)⟩
                                          · have H1 : (some false) = some r := by rw [if_neg (show ¬ (some q187).isNone = true by simp)] at H; exact H
                                            clear H
                                            have H := H1
                                            clear H1
                                            try simp only [errW_none, errW_some]
                                            obtain rfl := Option.some.inj H
                                            have p58 : 0 ≤ (x16_4 : Int) := of_decide_eq_true (by first | (with_reducible assumption) | assumption)
                                            have q58 : x16_4 < (a1.size : Int) := of_decide_eq_true (by first | (with_reducible assumption) | assumption)
                                            have hx58 := bt_at a1 x16_4
                                            replace p58 := eq_true p58
                                            replace q58 := eq_true q58
                                            go_wp2_with (first | (go_at_call 10; (with_reducible refine (lex_Words.calls k4 (a1.extract (x16_4 : Int).toNat a1.size) t183 t184 _ A62.out).mono ?_); rintro e w68 ⟨v185, rfl, ho0, hb⟩; have n0_ := Aside0.mk (Kd.R_elder' (by (with_reducible repeat (first | apply Kd.R_alloc | apply Kd.R_drewN | apply Kd.R_drew)); exact HO_6.out) (Kd.R_base ho0) hb); have n1_ := Aside0.mk (Kd.R_elder' (by (with_reducible repeat (first | apply Kd.R_alloc | apply Kd.R_drewN | apply Kd.R_drew)); exact HO_14.out) (Kd.R_base ho0) hb); have n2_ := Aside0.mk (Kd.R_lower (Kd.R_new' (Kd.R_new' ho0 (Kd.R_lt (by (with_reducible repeat (first | apply Kd.R_alloc | apply Kd.R_drewN | apply Kd.R_drew)); exact HO_6.out))) (Kd.R_lt (by (with_reducible repeat (first | apply Kd.R_alloc | apply Kd.R_drewN | apply Kd.R_drew)); exact HO_14.out))) (below_size (by repeat (first | (with_reducible first | exact HB.out | apply below_alloc | apply pw_below_drewN | apply below_drew1) | exact HB.out)))); have n3_ := Aside0.mk (below_step (by repeat (first | (with_reducible first | exact HB.out | apply below_alloc | apply pw_below_drewN | apply below_drew1) | exact HB.out)) hb); clear HO_6; clear HO_14; clear HB; have HO_6 := n0_; have HO_14 := n1_; have HO186 := n2_; have HB := n3_; clear n0_ n1_ n2_ n3_; (try clear hb); (try clear hb2); (try clear hk); (try clear hi); (try clear ho0); (try simp only [errW_none, errW_some])))
                                            repeat (go_quiet (first | (go_at_call 10; (with_reducible refine (lex_Words.calls k4 (a1.extract (x16_4 : Int).toNat a1.size) t183 t184 _ A62.out).mono ?_); rintro e w68 ⟨v185, rfl, ho0, hb⟩; have n0_ := Aside0.mk (Kd.R_elder' (by (with_reducible repeat (first | apply Kd.R_alloc | apply Kd.R_drewN | apply Kd.R_drew)); exact HO_6.out) (Kd.R_base ho0) hb); have n1_ := Aside0.mk (Kd.R_elder' (by (with_reducible repeat (first | apply Kd.R_alloc | apply Kd.R_drewN | apply Kd.R_drew)); exact HO_14.out) (Kd.R_base ho0) hb); have n2_ := Aside0.mk (Kd.R_lower (Kd.R_new' (Kd.R_new' ho0 (Kd.R_lt (by (with_reducible repeat (first | apply Kd.R_alloc | apply Kd.R_drewN | apply Kd.R_drew)); exact HO_6.out))) (Kd.R_lt (by (with_reducible repeat (first | apply Kd.R_alloc | apply Kd.R_drewN | apply Kd.R_drew)); exact HO_14.out))) (below_size (by repeat (first | (with_reducible first | exact HB.out | apply below_alloc | apply pw_below_drewN | apply below_drew1) | exact HB.out)))); have n3_ := Aside0.mk (below_step (by repeat (first | (with_reducible first | exact HB.out | apply below_alloc | apply pw_below_drewN | apply below_drew1) | exact HB.out)) hb); clear HO_6; clear HO_14; clear HB; have HO_6 := n0_; have HO_14 := n1_; have HO186 := n2_; have HB := n3_; clear n0_ n1_ n2_ n3_; (try clear hb); (try clear hb2); (try clear hk); (try clear hi); (try clear ho0); (try simp only [errW_none, errW_some]))); try go_wp2_with (first | (go_at_call 10; (with_reducible refine (lex_Words.calls k4 (a1.extract (x16_4 : Int).toNat a1.size) t183 t184 _ A62.out).mono ?_); rintro e w68 ⟨v185, rfl, ho0, hb⟩; have n0_ := Aside0.mk (Kd.R_elder' (by (with_reducible repeat (first | apply Kd.R_alloc | apply Kd.R_drewN | apply Kd.R_drew)); exact HO_6.out) (Kd.R_base ho0) hb); have n1_ := Aside0.mk (Kd.R_elder' (by (with_reducible repeat (first | apply Kd.R_alloc | apply Kd.R_drewN | apply Kd.R_drew)); exact HO_14.out) (Kd.R_base ho0) hb); have n2_ := Aside0.mk (Kd.R_lower (Kd.R_new' (Kd.R_new' ho0 (Kd.R_lt (by (with_reducible repeat (first | apply Kd.R_alloc | apply Kd.R_drewN | apply Kd.R_drew)); exact HO_6.out))) (Kd.R_lt (by (with_reducible repeat (first | apply Kd.R_alloc | apply Kd.R_drewN | apply Kd.R_drew)); exact HO_14.out))) (below_size (by repeat (first | (with_reducible first | exact HB.out | apply below_alloc | apply pw_below_drewN | apply below_drew1) | exact HB.out)))); have n3_ := Aside0.mk (below_step (by repeat (first | (with_reducible first | exact HB.out | apply below_alloc | apply pw_below_drewN | apply below_drew1) | exact HB.out)) hb); clear HO_6; clear HO_14; clear HB; have HO_6 := n0_; have HO_14 := n1_; have HO186 := n2_; have HB := n3_; clear n0_ n1_ n2_ n3_; (try clear hb); (try clear hb2); (try clear hk); (try clear hi); (try clear ho0); (try simp only [errW_none, errW_some]))))
                                            go_ret
                                            exact ⟨by first | rfl | (simp [errW_none, errW_some] <;> rfl) | (simp [*, errW_none, errW_some] <;> rfl), by repeat (first | (with_reducible first | exact HB.out | apply below_alloc | apply pw_below_drewN | apply below_drew1) | exact HB.out)⟩
                                        · rw [if_neg c61] at H
                                          exact absurd H (by simp)
                                      · rw [if_neg c59] at H
                                        have c59b0 : ((bt a1 x16_4) == 10) = false := beq_eq_false_iff_ne.mpr c59
                                        have c59b1 : ((bt a1 x16_4) != 10) = true := bne_iff_ne.mpr c59
                                        have H' := Aside0.mk H
                                        clear H
                                        have p58 : 0 ≤ (x16_4 : Int) := of_decide_eq_true (by first | (with_reducible assumption) | assumption)
                                        have q58 : x16_4 < (a1.size : Int) := of_decide_eq_true (by first | (with_reducible assumption) | assumption)
                                        have hx58 := bt_at a1 x16_4
                                        replace p58 := eq_true p58
                                        replace q58 := eq_true q58
                                        go_wp2
                                        repeat (go_quiet (fail); try go_wp2)
                                        go_roundg k4
                                        case measure => have := HJ4.out; have := HJ13.out; have := HK3.out; have := HK4.out; omega
                                        case rel => exact ⟨(wrap64 (x16_4 + 1)), (by first | rfl | (simp; done) | (simp [*]; done)), H', ⟨by have := HJ4.out; have := HJ13.out; have := HK3.out; have := HK4.out; omega⟩, ⟨by (with_reducible repeat (first | apply Kd.R_alloc | apply Kd.R_drewN | apply Kd.R_drew)); exact HO_6.out⟩, ⟨by (with_reducible repeat (first | apply Kd.R_alloc | apply Kd.R_drewN | apply Kd.R_drew)); exact HO_14.out⟩, ⟨by repeat (first | (with_reducible first | exact HB.out | apply below_alloc | apply pw_below_drewN | apply below_drew1) | exact HB.out)⟩⟩
                                    · rw [if_neg c57] at H
                                      exact absurd H (by simp)
                                  · rw [if_neg c56] at H
                                    have c56b0 : decide (x16_4 < (a1.size : Int)) = false := decide_eq_false c56
                                    clear c56
                                    by_cases c69 : 0 ≤ x16_4
                                    · rw [if_pos c69] at H
                                      have c69b0 := eq_true c69
                                      have c69b1 : decide (0 ≤ x16_4) = true := decide_eq_true c69
                                      clear c69
                                      by_cases c70 : x16_4 ≤ (a1.size : Int)
                                      · rw [if_pos c70] at H
                                        have c70b0 := eq_true c70
                                        have c70b1 : decide (x16_4 ≤ (a1.size : Int)) = true := decide_eq_true c70
                                        clear c70
                                        replace H := Option.bind_eq_some_iff.mp H
                                        obtain ⟨⟨t189, t190⟩, A710, H⟩ := H
                                        replace H : (if true = true then (if t180.isNone = true then (if t190.isNone = true then (some ((t179.length : Int) == (wrap64 ((t156.length : Int) + (t189.length : Int))))) else (some false)) else (some false)) else (some false)) = some r := H
                                        have A71 := Aside0.mk A710
                                        clear A710
                                        have H1 : (if t180.isNone = true then (if t190.isNone = true then (some ((t179.length : Int) == (wrap64 ((t156.length : Int) + (t189.length : Int))))) else (some false)) else (some false)) = some r := by first | exact H | (rw [if_pos rfl] at H; exact H)
                                        clear H
                                        have H := H1
                                        clear H1
                                        rcases t180 with _ | q193
                                        · have H1 : (if t190.isNone = true then (some ((t179.length : Int) == (wrap64 ((t156.length : Int) + (t189.length : Int))))) else (some false)) = some r := by rw [if_pos (show (none : Option Int).isNone = true by rfl)] at H; exact H
                                          clear H
                                          have H := H1
                                          clear H1
                                          try simp only [errW_none, errW_some]
                                          rcases t190 with _ | q194
                                          · have H1 : (some ((t179.length : Int) == (wrap64 ((t156.length : Int) + (t189.length : Int))))) = some r := by rw [if_pos (show (none : Option Int).isNone = true by rfl)] at H; exact H
                                            clear H
                                            have H := H1
                                            clear H1
                                            try simp only [errW_none, errW_some]
                                            obtain rfl := Option.some.inj H
                                            go_wp2_with (first | (go_at_call 10; (with_reducible refine (lex_Words.calls k4 (a1.extract (x16_4 : Int).toNat a1.size) t189 none _ A71.out).mono ?_); rintro e w72 ⟨v191, rfl, ho0, hb⟩; have n0_ := Aside0.mk (Kd.R_elder' (by (with_reducible repeat (first | apply Kd.R_alloc | apply Kd.R_drewN | apply Kd.R_drew)); exact HO_6.out) (Kd.R_base ho0) hb); have n1_ := Aside0.mk (Kd.R_elder' (by (with_reducible repeat (first | apply Kd.R_alloc | apply Kd.R_drewN | apply Kd.R_drew)); exact HO_14.out) (Kd.R_base ho0) hb); have n2_ := Aside0.mk (Kd.R_lower (Kd.R_new' (Kd.R_new' ho0 (Kd.R_lt (by (with_reducible repeat (first | apply Kd.R_alloc | apply Kd.R_drewN | apply Kd.R_drew)); exact HO_6.out))) (Kd.R_lt (by (with_reducible repeat (first | apply Kd.R_alloc | apply Kd.R_drewN | apply Kd.R_drew)); exact HO_14.out))) (below_size (by repeat (first | (with_reducible first | exact HB.out | apply below_alloc | apply pw_below_drewN | apply below_drew1) | exact HB.out)))); have n3_ := Aside0.mk (below_step (by repeat (first | (with_reducible first | exact HB.out | apply below_alloc | apply pw_below_drewN | apply below_drew1) | exact HB.out)) hb); clear HO_6; clear HO_14; clear HB; have HO_6 := n0_; have HO_14 := n1_; have HO192 := n2_; have HB := n3_; clear n0_ n1_ n2_ n3_; (try clear hb); (try clear hb2); (try clear hk); (try clear hi); (try clear ho0); (try simp only [errW_none, errW_some]); obtain ⟨Ao73, co73, eo73⟩ := Kd.R_slice HO_14.out; subst eo73; obtain ⟨Ao74, co74, eo74⟩ := Kd.R_slice HO_6.out; subst eo74; obtain ⟨Ao75, co75, eo75⟩ := Kd.R_slice HO192.out; subst eo75))
                                            repeat (go_quiet (first | (go_at_call 10; (with_reducible refine (lex_Words.calls k4 (a1.extract (x16_4 : Int).toNat a1.size) t189 none _ A71.out).mono ?_); rintro e w72 ⟨v191, rfl, ho0, hb⟩; have n0_ := Aside0.mk (Kd.R_elder' (by (with_reducible repeat (first | apply Kd.R_alloc | apply Kd.R_drewN | apply Kd.R_drew)); exact HO_6.out) (Kd.R_base ho0) hb); have n1_ := Aside0.mk (Kd.R_elder' (by (with_reducible repeat (first | apply Kd.R_alloc | apply Kd.R_drewN | apply Kd.R_drew)); exact HO_14.out) (Kd.R_base ho0) hb); have n2_ := Aside0.mk (Kd.R_lower (Kd.R_new' (Kd.R_new' ho0 (Kd.R_lt (by (with_reducible repeat (first | apply Kd.R_alloc | apply Kd.R_drewN | apply Kd.R_drew)); exact HO_6.out))) (Kd.R_lt (by (with_reducible repeat (first | apply Kd.R_alloc | apply Kd.R_drewN | apply Kd.R_drew)); exact HO_14.out))) (below_size (by repeat (first | (with_reducible first | exact HB.out | apply below_alloc | apply pw_below_drewN | apply below_drew1) | exact HB.out)))); have n3_ := Aside0.mk (below_step (by repeat (first | (with_reducible first | exact HB.out | apply below_alloc | apply pw_below_drewN | apply below_drew1) | exact HB.out)) hb); clear HO_6; clear HO_14; clear HB; have HO_6 := n0_; have HO_14 := n1_; have HO192 := n2_; have HB := n3_; clear n0_ n1_ n2_ n3_; (try clear hb); (try clear hb2); (try clear hk); (try clear hi); (try clear ho0); (try simp only [errW_none, errW_some]); obtain ⟨Ao73, co73, eo73⟩ := Kd.R_slice HO_14.out; subst eo73; obtain ⟨Ao74, co74, eo74⟩ := Kd.R_slice HO_6.out; subst eo74; obtain ⟨Ao75, co75, eo75⟩ := Kd.R_slice HO192.out; subst eo75)); try go_wp2_with (first | (go_at_call 10; (with_reducible refine (lex_Words.calls k4 (a1.extract (x16_4 : Int).toNat a1.size) t189 none _ A71.out).mono ?_); rintro e w72 ⟨v191, rfl, ho0, hb⟩; have n0_ := Aside0.mk (Kd.R_elder' (by (with_reducible repeat (first | apply Kd.R_alloc | apply Kd.R_drewN | apply Kd.R_drew)); exact HO_6.out) (Kd.R_base ho0) hb); have n1_ := Aside0.mk (Kd.R_elder' (by (with_reducible repeat (first | apply Kd.R_alloc | apply Kd.R_drewN | apply Kd.R_drew)); exact HO_14.out) (Kd.R_base ho0) hb); have n2_ := Aside0.mk (Kd.R_lower (Kd.R_new' (Kd.R_new' ho0 (Kd.R_lt (by (with_reducible repeat (first | apply Kd.R_alloc | apply Kd.R_drewN | apply Kd.R_drew)); exact HO_6.out))) (Kd.R_lt (by (with_reducible repeat (first | apply Kd.R_alloc | apply Kd.R_drewN | apply Kd.R_drew)); exact HO_14.out))) (below_size (by repeat (first | (with_reducible first | exact HB.out | apply below_alloc | apply pw_below_drewN | apply below_drew1) | exact HB.out)))); have n3_ := Aside0.mk (below_step (by repeat (first | (with_reducible first | exact HB.out | apply below_alloc | apply pw_below_drewN | apply below_drew1) | exact HB.out)) hb); clear HO_6; clear HO_14; clear HB; have HO_6 := n0_; have HO_14 := n1_; have HO192 := n2_; have HB := n3_; clear n0_ n1_ n2_ n3_; (try clear hb); (try clear hb2); (try clear hk); (try clear hi); (try clear ho0); (try simp only [errW_none, errW_some]); obtain ⟨Ao73, co73, eo73⟩ := Kd.R_slice HO_14.out; subst eo73; obtain ⟨Ao74, co74, eo74⟩ := Kd.R_slice HO_6.out; subst eo74; obtain ⟨Ao75, co75, eo75⟩ := Kd.R_slice HO192.out; subst eo75)))
                                            go_ret
                                            exact ⟨by first | rfl | (simp [errW_none, errW_some] <;> rfl) | (simp [*, errW_none, errW_some] <;> rfl), by repeat (first | (with_reducible first | exact HB.out | apply below_alloc | apply pw_below_drewN | apply below_drew1) | exact HB.out)⟩
                                          · have H1 : (some false) = some r := by rw [if_neg (show ¬ (some q194).isNone = true by simp)] at H; exact H
                                            clear H
                                            have H := H1
                                            clear H1
                                            try simp only [errW_none, errW_some]
                                            obtain rfl := Option.some.inj H
                                            go_wp2_with (first | (go_at_call 10; (with_reducible refine (lex_Words.calls k4 (a1.extract (x16_4 : Int).toNat a1.size) t189 (some q194) _ A71.out).mono ?_); rintro e w76 ⟨v191, rfl, ho0, hb⟩; have n0_ := Aside0.mk (Kd.R_elder' (by (with_reducible repeat (first | apply Kd.R_alloc | apply Kd.R_drewN | apply Kd.R_drew)); exact HO_6.out) (Kd.R_base ho0) hb); have n1_ := Aside0.mk (Kd.R_elder' (by (with_reducible repeat (first | apply Kd.R_alloc | apply Kd.R_drewN | apply Kd.R_drew)); exact HO_14.out) (Kd.R_base ho0) hb); have n2_ := Aside0.mk (Kd.R_lower (Kd.R_new' (Kd.R_new' ho0 (Kd.R_lt (by (with_reducible repeat (first | apply Kd.R_alloc | apply Kd.R_drewN | apply Kd.R_drew)); exact HO_6.out))) (Kd.R_lt (by (with_reducible repeat (first | apply Kd.R_alloc | apply Kd.R_drewN | apply Kd.R_drew)); exact HO_14.out))) (below_size (by repeat (first | (with_reducible first | exact HB.out | apply below_alloc | apply pw_below_drewN | apply below_drew1) | exact HB.out)))); have n3_ := Aside0.mk (below_step (by repeat (first | (with_reducible first | exact HB.out | apply below_alloc | apply pw_below_drewN | apply below_drew1) | exact HB.out)) hb); clear HO_6; clear HO_14; clear HB; have HO_6 := n0_; have HO_14 := n1_; have HO192 := n2_; have HB := n3_; clear n0_ n1_ n2_ n3_; (try clear hb); (try clear hb2); (try clear hk); (try clear hi); (try clear ho0); (try simp only [errW_none, errW_some])))
                                            repeat (go_quiet (first | (go_at_call 10; (with_reducible refine (lex_Words.calls k4 (a1.extract (x16_4 : Int).toNat a1.size) t189 (some q194) _ A71.out).mono ?_); rintro e w76 ⟨v191, rfl, ho0, hb⟩; have n0_ := Aside0.mk (Kd.R_elder' (by (with_reducible repeat (first | apply Kd.R_alloc | apply Kd.R_drewN | apply Kd.R_drew)); exact HO_6.out) (Kd.R_base ho0) hb); have n1_ := Aside0.mk (Kd.R_elder' (by (with_reducible repeat (first | apply Kd.R_alloc | apply Kd.R_drewN | apply Kd.R_drew)); exact HO_14.out) (Kd.R_base ho0) hb); have n2_ := Aside0.mk (Kd.R_lower (Kd.R_new' (Kd.R_new' ho0 (Kd.R_lt (by (with_reducible repeat (first | apply Kd.R_alloc | apply Kd.R_drewN | apply Kd.R_drew)); exact HO_6.out))) (Kd.R_lt (by (with_reducible repeat (first | apply Kd.R_alloc | apply Kd.R_drewN | apply Kd.R_drew)); exact HO_14.out))) (below_size (by repeat (first | (with_reducible first | exact HB.out | apply below_alloc | apply pw_below_drewN | apply below_drew1) | exact HB.out)))); have n3_ := Aside0.mk (below_step (by repeat (first | (with_reducible first | exact HB.out | apply below_alloc | apply pw_below_drewN | apply below_drew1) | exact HB.out)) hb); clear HO_6; clear HO_14; clear HB; have HO_6 := n0_; have HO_14 := n1_; have HO192 := n2_; have HB := n3_; clear n0_ n1_ n2_ n3_; (try clear hb); (try clear hb2); (try clear hk); (try clear hi); (try clear ho0); (try simp only [errW_none, errW_some]))); try go_wp2_with (first | (go_at_call 10; (with_reducible refine (lex_Words.calls k4 (a1.extract (x16_4 : Int).toNat a1.size) t189 (some q194) _ A71.out).mono ?_); rintro e w76 ⟨v191, rfl, ho0, hb⟩; have n0_ := Aside0.mk (Kd.R_elder' (by (with_reducible repeat (first | apply Kd.R_alloc | apply Kd.R_drewN | apply Kd.R_drew)); exact HO_6.out) (Kd.R_base ho0) hb); have n1_ := Aside0.mk (Kd.R_elder' (by (with_reducible repeat (first | apply Kd.R_alloc | apply Kd.R_drewN | apply Kd.R_drew)); exact HO_14.out) (Kd.R_base ho0) hb); have n2_ := Aside0.mk (Kd.R_lower (Kd.R_new' (Kd.R_new' ho0 (Kd.R_lt (by (with_reducible repeat (first | apply Kd.R_alloc | apply Kd.R_drewN | apply Kd.R_drew)); exact HO_6.out))) (Kd.R_lt (by (with_reducible repeat (first | apply Kd.R_alloc | apply Kd.R_drewN | apply Kd.R_drew)); exact HO_14.out))) (below_size (by repeat (first | (with_reducible first | exact HB.out | apply below_alloc | apply pw_below_drewN | apply below_drew1) | exact HB.out)))); have n3_ := Aside0.mk (below_step (by repeat (first | (with_reducible first | exact HB.out | apply below_alloc | apply pw_below_drewN | apply below_drew1) | exact HB.out)) hb); clear HO_6; clear HO_14; clear HB; have HO_6 := n0_; have HO_14 := n1_; have HO192 := n2_; have HB := n3_; clear n0_ n1_ n2_ n3_; (try clear hb); (try clear hb2); (try clear hk); (try clear hi); (try clear ho0); (try simp only [errW_none, errW_some]))))
                                            go_ret
                                            exact ⟨by first | rfl | (simp [errW_none, errW_some] <;> rfl) | (simp [*, errW_none, errW_some] <;> rfl), by repeat (first | (with_reducible first | exact HB.out | apply below_alloc | apply pw_below_drewN | apply below_drew1) | exact HB.out)⟩
                                        · have H1 : (some false) = some r := by rw [if_neg (show ¬ (some q193).isNone = true by simp)] at H; exact H
                                          clear H
                                          have H := H1
                                          clear H1
                                          try simp only [errW_none, errW_some]
                                          obtain rfl := Option.some.inj H
                                          go_wp2_with (first | (go_at_call 10; (with_reducible refine (lex_Words.calls k4 (a1.extract (x16_4 : Int).toNat a1.size) t189 t190 _ A71.out).mono ?_); rintro e w77 ⟨v191, rfl, ho0, hb⟩; have n0_ := Aside0.mk (Kd.R_elder' (by (with_reducible repeat (first | apply Kd.R_alloc | apply Kd.R_drewN | apply Kd.R_drew)); exact HO_6.out) (Kd.R_base ho0) hb); have n1_ := Aside0.mk (Kd.R_elder' (by (with_reducible repeat (first | apply Kd.R_alloc | apply Kd.R_drewN | apply Kd.R_drew)); exact HO_14.out) (Kd.R_base ho0) hb); have n2_ := Aside0.mk (Kd.R_lower (Kd.R_new' (Kd.R_new' ho0 (Kd.R_lt (by (with_reducible repeat (first | apply Kd.R_alloc | apply Kd.R_drewN | apply Kd.R_drew)); exact HO_6.out))) (Kd.R_lt (by (with_reducible repeat (first | apply Kd.R_alloc | apply Kd.R_drewN | apply Kd.R_drew)); exact HO_14.out))) (below_size (by repeat (first | (with_reducible first | exact HB.out | apply below_alloc | apply pw_below_drewN | apply below_drew1) | exact HB.out)))); have n3_ := Aside0.mk (below_step (by repeat (first | (with_reducible first | exact HB.out | apply below_alloc | apply pw_below_drewN | apply below_drew1) | exact HB.out)) hb); clear HO_6; clear HO_14; clear HB; have HO_6 := n0_; have HO_14 := n1_; have HO192 := n2_; have HB := n3_; clear n0_ n1_ n2_ n3_; (try clear hb); (try clear hb2); (try clear hk); (try clear hi); (try clear ho0); (try simp only [errW_none, errW_some])))
                                          repeat (go_quiet (first | (go_at_call 10; (with_reducible refine (lex_Words.calls k4 (a1.extract (x16_4 : Int).toNat a1.size) t189 t190 _ A71.out).mono ?_); rintro e w77 ⟨v191, rfl, ho0, hb⟩; have n0_ := Aside0.mk (Kd.R_elder' (by (with_reducible repeat (first | apply Kd.R_alloc | apply Kd.R_drewN | apply Kd.R_drew)); exact HO_6.out) (Kd.R_base ho0) hb); have n1_ := Aside0.mk (Kd.R_elder' (by (with_reducible repeat (first | apply Kd.R_alloc | apply Kd.R_drewN | apply Kd.R_drew)); exact HO_14.out) (Kd.R_base ho0) hb); have n2_ := Aside0.mk (Kd.R_lower (Kd.R_new' (Kd.R_new' ho0 (Kd.R_lt (by (with_reducible repeat (first | apply Kd.R_alloc | apply Kd.R_drewN | apply Kd.R_drew)); exact HO_6.out))) (Kd.R_lt (by (with_reducible repeat (first | apply Kd.R_alloc | apply Kd.R_drewN | apply Kd.R_drew)); exact HO_14.out))) (below_size (by repeat (first | (with_reducible first | exact HB.out | apply below_alloc | apply pw_below_drewN | apply below_drew1) | exact HB.out)))); have n3_ := Aside0.mk (below_step (by repeat (first | (with_reducible first | exact HB.out | apply below_alloc | apply pw_below_drewN | apply below_drew1) | exact HB.out)) hb); clear HO_6; clear HO_14; clear HB; have HO_6 := n0_; have HO_14 := n1_; have HO192 := n2_; have HB := n3_; clear n0_ n1_ n2_ n3_; (try clear hb); (try clear hb2); (try clear hk); (try clear hi); (try clear ho0); (try simp only [errW_none, errW_some]))); try go_wp2_with (first | (go_at_call 10; (with_reducible refine (lex_Words.calls k4 (a1.extract (x16_4 : Int).toNat a1.size) t189 t190 _ A71.out).mono ?_); rintro e w77 ⟨v191, rfl, ho0, hb⟩; have n0_ := Aside0.mk (Kd.R_elder' (by (with_reducible repeat (first | apply Kd.R_alloc | apply Kd.R_drewN | apply Kd.R_drew)); exact HO_6.out) (Kd.R_base ho0) hb); have n1_ := Aside0.mk (Kd.R_elder' (by (with_reducible repeat (first | apply Kd.R_alloc | apply Kd.R_drewN | apply Kd.R_drew)); exact HO_14.out) (Kd.R_base ho0) hb); have n2_ := Aside0.mk (Kd.R_lower (Kd.R_new' (Kd.R_new' ho0 (Kd.R_lt (by (with_reducible repeat (first | apply Kd.R_alloc | apply Kd.R_drewN | apply Kd.R_drew)); exact HO_6.out))) (Kd.R_lt (by (with_reducible repeat (first | apply Kd.R_alloc | apply Kd.R_drewN | apply Kd.R_drew)); exact HO_14.out))) (below_size (by repeat (first | (with_reducible first | exact HB.out | apply below_alloc | apply pw_below_drewN | apply below_drew1) | exact HB.out)))); have n3_ := Aside0.mk (below_step (by repeat (first | (with_reducible first | exact HB.out | apply below_alloc | apply pw_below_drewN | apply below_drew1) | exact HB.out)) hb); clear HO_6; clear HO_14; clear HB; have HO_6 := n0_; have HO_14 := n1_; have HO192 := n2_; have HB := n3_; clear n0_ n1_ n2_ n3_; (try clear hb); (try clear hb2); (try clear hk); (try clear hi); (try clear ho0); (try simp only [errW_none, errW_some]))))
                                          go_ret
                                          exact ⟨by first | rfl | (simp [errW_none, errW_some] <;> rfl) | (simp [*, errW_none, errW_some] <;> rfl), by repeat (first | (with_reducible first | exact HB.out | apply below_alloc | apply pw_below_drewN | apply below_drew1) | exact HB.out)⟩
                                      · rw [if_neg c70] at H
                                        exact absurd H (by simp)
                                    · rw [if_neg c69] at H
                                      exact absurd H (by simp)
                            · rw [if_neg c52] at H
                              exact absurd H (by simp)
                          · rw [if_neg c51] at H
                            exact absurd H (by simp)
            · rw [if_neg c12] at H
              exact absurd H (by simp)
          · rw [if_neg c11] at H
            exact absurd H (by simp)
  · replace c4 := Bool.eq_false_iff.mpr c4
    subst c4
    have H1 : (some false) = some r := by rw [if_neg (show ¬ (false = true) by decide)] at H; exact H
    clear H
    have H := H1
    clear H1
    obtain rfl := Option.some.inj H
    go_enter Tryd.func4, Tryd.ntmps4
    go_wp2_with (first | (go_at_call 8; (with_reducible refine (gristmilllaw3_first.calls k  false _ A3.out).mono ?_); rintro e w78 ⟨rfl, hb⟩; have n0_ := Aside0.mk (below_step (by repeat (first | (with_reducible first | exact HB.out | apply below_alloc | apply pw_below_drewN | apply below_drew1) | exact HB.out)) hb); clear HB; have HB := n0_; clear n0_; (try clear hb); (try clear hb2); (try clear hk); (try clear hi)))
    repeat (go_quiet (first | (go_at_call 8; (with_reducible refine (gristmilllaw3_first.calls k  false _ A3.out).mono ?_); rintro e w78 ⟨rfl, hb⟩; have n0_ := Aside0.mk (below_step (by repeat (first | (with_reducible first | exact HB.out | apply below_alloc | apply pw_below_drewN | apply below_drew1) | exact HB.out)) hb); clear HB; have HB := n0_; clear n0_; (try clear hb); (try clear hb2); (try clear hk); (try clear hi))); try go_wp2_with (first | (go_at_call 8; (with_reducible refine (gristmilllaw3_first.calls k  false _ A3.out).mono ?_); rintro e w78 ⟨rfl, hb⟩; have n0_ := Aside0.mk (below_step (by repeat (first | (with_reducible first | exact HB.out | apply below_alloc | apply pw_below_drewN | apply below_drew1) | exact HB.out)) hb); clear HB; have HB := n0_; clear n0_; (try clear hb); (try clear hb2); (try clear hk); (try clear hi))))
    go_ret
    exact ⟨by first | rfl | (simp [errW_none, errW_some] <;> rfl) | (simp [*, errW_none, errW_some] <;> rfl), by repeat (first | (with_reducible first | exact HB.out | apply below_alloc | apply pw_below_drewN | apply below_drew1) | exact HB.out)⟩

/-- THE ONE PURE STATEMENT of gristmilllaw3_LexJoins: yours. -/
def gristmilllaw3_LexJoins.Pure : Prop := ∀ (a0 : ByteArray) (a1 : ByteArray), a0.size ≤ 140737488351232 → a1.size ≤ 140737488351232 → ∃ k, gristmilllaw3_LexJoins.f k a0 a1 = some true
theorem gristmilllaw3_LexJoins.walk (P : gristmilllaw3_LexJoins.Pure) (a0 : ByteArray) (a1 : ByteArray) (w : World) (w0 : a0.size ≤ 140737488351232) (w1 : a1.size ≤ 140737488351232) :
    Calls Tryd.prog 4 #[.string a0, .string a1] w fun e w' => e = .returned (.bool true) ∧ Below w.heap.size w w' := by
  obtain ⟨k, h⟩ := P a0 a1 w0 w1
  refine (gristmilllaw3_LexJoins.calls k a0 a1 true w h).mono ?_
  rintro e w' ⟨rfl, hd⟩
  exact ⟨rfl, hd⟩

end Go.Proofs.YtiacndjjppcaoaaDoor.PLex
