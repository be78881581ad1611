/- For each Go function that the laws of this group reach: a plain function with the same answers, and the proof that the call comes to them wherever the plain function has an answer. No other condition. (Laid by a program of this session.) -/
import Derived.Test.YtkikfkhonjobcaaDoorPNumBx0
import Derived.Test.YtkikfkhonjobcaaDoorExtE
namespace Go.Proofs.YtkikfkhonjobcaaDoor.PNumB
open Go.RowKit Go.Proofs.YtkikfkhonjobcaaDoorW.PrintWords Go.Proofs.YtkikfkhonjobcaaDoorW.PrintLast Go.Proofs.YtkikfkhonjobcaaDoorW.PrintMore Go.Proofs.YtkikfkhonjobcaaDoor.ExtE
attribute [local go_sem] max2_int min2_int max_two min_two max_three min_three max_four min_four   -- for this text's walks alone
set_option linter.unusedVariables false
set_option linter.unusedSimpArgs false

variable {ad : Int → Addr}
/-! ### num_one: function 24 -/
def num_one.f (a0 : Bool) : Option (Int) := if a0 = true then (some 1) else (some 0)
set_option maxHeartbeats 8000000 in
set_option maxRecDepth 100000 in
theorem num_one.calls (a0 : Bool) (r : Int) (w : World) (h : num_one.f a0 = some r) :
    Calls Tryd.prog 24 #[.bool a0] w fun e w' => e = .returned (.int .i64 r) ∧ Drawn0 w w' := by
  have H : (if a0 = true then (some 1) else (some 0)) = some r := h
  clear h
  by_cases c2 : a0 = true
  · subst c2
    have H1 : (some 1) = some r := by rw [if_pos rfl] at H; exact H
    clear H
    have H := H1
    clear H1
    obtain rfl := Option.some.inj H
    go_enter Tryd.func24, Tryd.ntmps24
    go_wp2
    go_ret
    exact ⟨by first | rfl | (simp; done) | (simp [*]; done), by repeat (first | exact Drawn0.refl _ | apply Drawn0.step)⟩
  · replace c2 := Bool.eq_false_iff.mpr c2
    subst c2
    have H1 : (some 0) = some r := by rw [if_neg (show ¬ (false = true) by decide)] at H; exact H
    clear H
    have H := H1
    clear H1
    obtain rfl := Option.some.inj H
    go_enter Tryd.func24, Tryd.ntmps24
    go_wp2
    go_ret
    exact ⟨by first | rfl | (simp; done) | (simp [*]; done), by repeat (first | exact Drawn0.refl _ | apply Drawn0.step)⟩

/-! ### num_Do: function 9 -/
def num_Do.j0 : Nat → ByteArray → Int → Int → Bool → Option (Int × Int × Bool)
  | 0, _, _, _, _ => none
  | k + 1, x0, x1, x2, x37 => if x37 = true then ((num_divide.f x0 x1 x2).bind fun bt103 => (some (bt103.1, bt103.2.1, bt103.2.2))) else (some (0, 0, false))
def num_Do.f (k : Nat) (a0 : ByteArray) (a1 : Int) (a2 : Int) : Option (Int × Int × Bool) := if a0.toList = ([43] : List UInt8) then (some (wrap64 (a1 + a2), 0, true)) else (if a0.toList = ([45] : List UInt8) then (some (wrap64 (a1 - a2), 0, true)) else (if a0.toList = ([42] : List UInt8) then (some (wrap64 (a1 * a2), 0, true)) else (if a0.toList = ([60] : List UInt8) then ((num_one.f (decide (a1 < a2))).bind fun t101 => (some (t101, 0, true))) else (if a0.toList = ([61] : List UInt8) then ((num_one.f (a1 == a2)).bind fun t102 => (some (t102, 0, true))) else (if a0.toList = ([100, 105, 118] : List UInt8) then (num_Do.j0 k a0 a1 a2 (a0.toList == ([100, 105, 118] : List UInt8))) else (num_Do.j0 k a0 a1 a2 (a0.toList == ([109, 111, 100] : List UInt8))))))))
theorem num_Do.mono_l : ∀ k, (∀ y0 y1 y2 y3, LeO (num_Do.j0 k y0 y1 y2 y3) (num_Do.j0 (k + 1) y0 y1 y2 y3))
  | 0 => fun _ _ _ _ r h => by simp [num_Do.j0] at h
  | k + 1 => by
    have ih0 := num_Do.mono_l k
    · intro y0 y1 y2 y3
      unfold num_Do.j0
      repeat' first
      | (with_reducible exact ih0 _ _ _ _)
      | (with_reducible exact LeO.refl _)
      | (with_reducible exact LeO.none _)
      | (with_reducible refine LeO.ite ?_ ?_)
      | (with_reducible refine LeO.bind ?_ (fun _ => ?_))
      | exact ih0 _ _ _ _
      | exact LeO.none _
      | refine LeO.ite ?_ ?_
      | refine LeO.bind ?_ (fun _ => ?_)
theorem num_Do.mono : ∀ a0 a1 a2 k, LeO (num_Do.f k a0 a1 a2) (num_Do.f (k + 1) a0 a1 a2) := by
  intro a0 a1 a2 k
  have ih0 := num_Do.mono_l k
  unfold num_Do.f
  repeat' first
      | (with_reducible exact ih0 _ _ _ _)
      | (with_reducible exact LeO.refl _)
      | (with_reducible exact LeO.none _)
      | (with_reducible refine LeO.ite ?_ ?_)
      | (with_reducible refine LeO.bind ?_ (fun _ => ?_))
      | exact ih0 _ _ _ _
      | exact LeO.none _
      | refine LeO.ite ?_ ?_
      | refine LeO.bind ?_ (fun _ => ?_)
set_option maxHeartbeats 8000000 in
set_option maxRecDepth 100000 in
theorem num_Do.calls (k : Nat) (a0 : ByteArray) (a1 : Int) (a2 : Int) (r1 : Int) (r2 : Int) (r3 : Bool) (w : World) (h : num_Do.f k a0 a1 a2 = some (r1, r2, r3)) :
    Calls Tryd.prog 9 #[.string a0, .int .i64 a1, .int .i64 a2] w fun e w' => e = .returned (.tuple #[.int .i64 r1, .int .i64 r2, .bool r3]) ∧ Below w.heap.size w w' := by
  have HB := Aside0.mk (Below.refl w.heap.size w)
  have H : (if a0.toList = ([43] : List UInt8) then (some (wrap64 (a1 + a2), 0, true)) else (if a0.toList = ([45] : List UInt8) then (some (wrap64 (a1 - a2), 0, true)) else (if a0.toList = ([42] : List UInt8) then (some (wrap64 (a1 * a2), 0, true)) else (if a0.toList = ([60] : List UInt8) then ((num_one.f (decide (a1 < a2))).bind fun t101 => (some (t101, 0, true))) else (if a0.toList = ([61] : List UInt8) then ((num_one.f (a1 == a2)).bind fun t102 => (some (t102, 0, true))) else (if a0.toList = ([100, 105, 118] : List UInt8) then (num_Do.j0 k a0 a1 a2 (a0.toList == ([100, 105, 118] : List UInt8))) else (num_Do.j0 k a0 a1 a2 (a0.toList == ([109, 111, 100] : List UInt8))))))))) = some (r1, r2, r3) := h
  clear h
  by_cases c4 : a0.toList = ([43] : List UInt8)
  · rw [if_pos c4] at H
    have c4b0 : (a0.toList == ([43] : List UInt8)) = true := beq_iff_eq.mpr c4
    have c4b1 : (a0.toList != ([43] : List UInt8)) = false := bne_eq_false_iff_eq.mpr c4
    clear c4
    simp only [Option.some.injEq, Prod.mk.injEq] at H
    obtain ⟨rfl, rfl, rfl⟩ := H
    go_enter Tryd.func9, Tryd.ntmps9
    go_wp2
    go_ret3
    exact ⟨by first | rfl | (simp [errW_none, errW_some] <;> rfl) | (simp [*, errW_none, errW_some] <;> rfl) | (simp [errW_none, errW_some] <;> (rw [Bool.eq_iff_iff]; simp; done)), by repeat (first | (with_reducible first | exact HB.out | apply below_alloc | apply pw_below_drewN | apply below_drew1) | exact HB.out)⟩
  · rw [if_neg c4] at H
    have c4b0 : (a0.toList == ([43] : List UInt8)) = false := beq_eq_false_iff_ne.mpr c4
    have c4b1 : (a0.toList != ([43] : List UInt8)) = true := bne_iff_ne.mpr c4
    by_cases c5 : a0.toList = ([45] : List UInt8)
    · rw [if_pos c5] at H
      have c5b0 : (a0.toList == ([45] : List UInt8)) = true := beq_iff_eq.mpr c5
      have c5b1 : (a0.toList != ([45] : List UInt8)) = false := bne_eq_false_iff_eq.mpr c5
      clear c5
      simp only [Option.some.injEq, Prod.mk.injEq] at H
      obtain ⟨rfl, rfl, rfl⟩ := H
      go_enter Tryd.func9, Tryd.ntmps9
      go_wp2
      go_ret3
      exact ⟨by first | rfl | (simp [errW_none, errW_some] <;> rfl) | (simp [*, errW_none, errW_some] <;> rfl) | (simp [errW_none, errW_some] <;> (rw [Bool.eq_iff_iff]; simp; done)), by repeat (first | (with_reducible first | exact HB.out | apply below_alloc | apply pw_below_drewN | apply below_drew1) | exact HB.out)⟩
    · rw [if_neg c5] at H
      have c5b0 : (a0.toList == ([45] : List UInt8)) = false := beq_eq_false_iff_ne.mpr c5
      have c5b1 : (a0.toList != ([45] : List UInt8)) = true := bne_iff_ne.mpr c5
      by_cases c6 : a0.toList = ([42] : List UInt8)
      · rw [if_pos c6] at H
        have c6b0 : (a0.toList == ([42] : List UInt8)) = true := beq_iff_eq.mpr c6
        have c6b1 : (a0.toList != ([42] : List UInt8)) = false := bne_eq_false_iff_eq.mpr c6
        clear c6
        simp only [Option.some.injEq, Prod.mk.injEq] at H
        obtain ⟨rfl, rfl, rfl⟩ := H
        go_enter Tryd.func9, Tryd.ntmps9
        go_wp2
        go_ret3
        exact ⟨by first | rfl | (simp [errW_none, errW_some] <;> rfl) | (simp [*, errW_none, errW_some] <;> rfl) | (simp [errW_none, errW_some] <;> (rw [Bool.eq_iff_iff]; simp; done)), by repeat (first | (with_reducible first | exact HB.out | apply below_alloc | apply pw_below_drewN | apply below_drew1) | exact HB.out)⟩
      · rw [if_neg c6] at H
        have c6b0 : (a0.toList == ([42] : List UInt8)) = false := beq_eq_false_iff_ne.mpr c6
        have c6b1 : (a0.toList != ([42] : List UInt8)) = true := bne_iff_ne.mpr c6
        by_cases c7 : a0.toList = ([60] : List UInt8)
        · rw [if_pos c7] at H
          have c7b0 : (a0.toList == ([60] : List UInt8)) = true := beq_iff_eq.mpr c7
          have c7b1 : (a0.toList != ([60] : List UInt8)) = false := bne_eq_false_iff_eq.mpr c7
          clear c7
          replace H := Option.bind_eq_some_iff.mp H
          obtain ⟨t101, A80, H⟩ := H
          replace H : (some (t101, 0, true)) = some (r1, r2, r3) := H
          have A8 := Aside0.mk A80
          clear A80
          simp only [Option.some.injEq, Prod.mk.injEq] at H
          obtain ⟨rfl, rfl, rfl⟩ := H
          go_enter Tryd.func9, Tryd.ntmps9
          go_wp2_with (first | ((with_reducible refine gate_callee (f := 24) rfl ?_); refine goesL_ (some 30) rfl rfl Tryd.func24 (by kernel_rfl) rfl #[.bool (decide (a1 < a2))] rfl (by (try simp only [List.map_toArray, List.map_cons, List.map_nil]); first | done | rfl | (simp only [List.length_drop, List.length_take]; rfl)) ?_; (with_reducible refine (num_one.calls (decide (a1 < a2)) t101 _ A8.out).mono ?_); rintro e w' ⟨rfl, ⟨nd, rfl⟩⟩; refine ⟨_, rfl, ?_⟩))
          go_ret3
          exact ⟨by first | rfl | (simp [errW_none, errW_some] <;> rfl) | (simp [*, errW_none, errW_some] <;> rfl) | (simp [errW_none, errW_some] <;> (rw [Bool.eq_iff_iff]; simp; done)), by repeat (first | (with_reducible first | exact HB.out | apply below_alloc | apply pw_below_drewN | apply below_drew1) | exact HB.out)⟩
        · rw [if_neg c7] at H
          have c7b0 : (a0.toList == ([60] : List UInt8)) = false := beq_eq_false_iff_ne.mpr c7
          have c7b1 : (a0.toList != ([60] : List UInt8)) = true := bne_iff_ne.mpr c7
          by_cases c9 : a0.toList = ([61] : List UInt8)
          · rw [if_pos c9] at H
            have c9b0 : (a0.toList == ([61] : List UInt8)) = true := beq_iff_eq.mpr c9
            have c9b1 : (a0.toList != ([61] : List UInt8)) = false := bne_eq_false_iff_eq.mpr c9
            clear c9
            replace H := Option.bind_eq_some_iff.mp H
            obtain ⟨t102, A100, H⟩ := H
            replace H : (some (t102, 0, true)) = some (r1, r2, r3) := H
            have A10 := Aside0.mk A100
            clear A100
            simp only [Option.some.injEq, Prod.mk.injEq] at H
            obtain ⟨rfl, rfl, rfl⟩ := H
            go_enter Tryd.func9, Tryd.ntmps9
            go_wp2_with (first | ((with_reducible refine gate_callee (f := 24) rfl ?_); refine goesL_ (some 36) rfl rfl Tryd.func24 (by kernel_rfl) rfl #[.bool (a1 == a2)] rfl (by (try simp only [List.map_toArray, List.map_cons, List.map_nil]); first | done | rfl | (simp only [List.length_drop, List.length_take]; rfl)) ?_; (with_reducible refine (num_one.calls (a1 == a2) t102 _ A10.out).mono ?_); rintro e w' ⟨rfl, ⟨nd, rfl⟩⟩; refine ⟨_, rfl, ?_⟩))
            go_ret3
            exact ⟨by first | rfl | (simp [errW_none, errW_some] <;> rfl) | (simp [*, errW_none, errW_some] <;> rfl) | (simp [errW_none, errW_some] <;> (rw [Bool.eq_iff_iff]; simp; done)), by repeat (first | (with_reducible first | exact HB.out | apply below_alloc | apply pw_below_drewN | apply below_drew1) | exact HB.out)⟩
          · rw [if_neg c9] at H
            have c9b0 : (a0.toList == ([61] : List UInt8)) = false := beq_eq_false_iff_ne.mpr c9
            have c9b1 : (a0.toList != ([61] : List UInt8)) = true := bne_iff_ne.mpr c9
            have HC11 := Aside0.mk H
            clear H
            go_enter Tryd.func9, Tryd.ntmps9
            go_upto_if 37 with (fail)
            go_cut [37] (fun v37 wc => ∃ (kq : Nat) (x37_10 : Bool), v37 = .bool x37_10 ∧ Aside0 (num_Do.j0 kq a0 a1 a2 x37_10 = some (r1, r2, r3)) ∧ Aside0 (kq ≤ k) ∧ Aside0 (Below w.heap.size w wc))
            case first => as_aux_lemma =>
              have H := HC11.out
              clear HC11
              by_cases c12 : a0.toList = ([100, 105, 118] : List UInt8)
              · rw [if_pos c12] at H
                have c12b0 : (a0.toList == ([100, 105, 118] : List UInt8)) = true := beq_iff_eq.mpr c12
                have c12b1 : (a0.toList != ([100, 105, 118] : List UInt8)) = false := bne_eq_false_iff_eq.mpr c12
                clear c12
                (first | rw [c12b0] | (simp only [i64_w, i32_w]; rw [c12b0]) | skip)
                have H' := Aside0.mk H
                clear H
                go_wp2
                go_meet
                case rel => exact ⟨_, ((a0.toList == ([100, 105, 118] : List UInt8))), (by first | rfl | (simp; done) | (simp [*]; done)), H', ⟨by first | omega | exact Nat.le_refl _⟩, ⟨by repeat (first | (with_reducible first | exact HB.out | apply below_alloc | apply pw_below_drewN | apply below_drew1) | exact HB.out)⟩⟩
              · rw [if_neg c12] at H
                have c12b0 : (a0.toList == ([100, 105, 118] : List UInt8)) = false := beq_eq_false_iff_ne.mpr c12
                have c12b1 : (a0.toList != ([100, 105, 118] : List UInt8)) = true := bne_iff_ne.mpr c12
                (first | rw [c12b0] | (simp only [i64_w, i32_w]; rw [c12b0]) | skip)
                have H' := Aside0.mk H
                clear H
                go_wp2
                go_meet
                case rel => exact ⟨_, ((a0.toList == ([109, 111, 100] : List UInt8))), (by first | rfl | (simp; done) | (simp [*]; done)), H', ⟨by first | omega | exact Nat.le_refl _⟩, ⟨by repeat (first | (with_reducible first | exact HB.out | apply below_alloc | apply pw_below_drewN | apply below_drew1) | exact HB.out)⟩⟩
            case rest =>
              clear HC11
              try clear c1
              try clear c2
              try clear p2
              try clear c4
              try clear c4b0
              try clear c4b1
              try clear c5
              try clear c5b0
              try clear c5b1
              try clear c6
              try clear c6b0
              try clear c6b1
              try clear p6
              try clear c7
              try clear c7b0
              try clear c7b1
              try clear c9
              try clear c9b0
              try clear c9b1
              try clear c12
              try clear c12b0
              try clear c12b1
              obtain ⟨kq, x37_10, rfl, HA, HJ10, HB⟩ := hcut
              cases kq with
              | zero => exact absurd HA.out (by simp [num_Do.j0])
              | succ kj10 =>
                have H := HA.out
                clear HA
                simp only [num_Do.j0] at H
                by_cases c13 : x37_10 = true
                · subst c13
                  have H1 : ((num_divide.f a0 a1 a2).bind fun bt103 => (some (bt103.1, bt103.2.1, bt103.2.2))) = some (r1, r2, r3) := by rw [if_pos rfl] at H; exact H
                  clear H
                  have H := H1
                  clear H1
                  replace H := Option.bind_eq_some_iff.mp H
                  obtain ⟨⟨t103, t104, t105⟩, A140, H⟩ := H
                  replace H : (some (t103, t104, t105)) = some (r1, r2, r3) := H
                  have A14 := Aside0.mk A140
                  clear A140
                  simp only [Option.some.injEq, Prod.mk.injEq] at H
                  obtain ⟨rfl, rfl, rfl⟩ := H
                  go_wp2_with (first | ((with_reducible refine gate_callee (f := 25) rfl ?_); refine goesL_ (some 43) rfl rfl Tryd.func25 (by kernel_rfl) rfl #[.string a0, .int .i64 a1, .int .i64 a2] rfl (by (try simp only [List.map_toArray, List.map_cons, List.map_nil]); first | done | rfl | (simp only [List.length_drop, List.length_take]; rfl)) ?_; (with_reducible refine (num_divide.calls a0 a1 a2 t103 t104 t105 _ A14.out).mono ?_); rintro e w15 ⟨rfl, hb⟩; refine ⟨_, rfl, ?_⟩; have n0_ := Aside0.mk (below_step (by repeat (first | (with_reducible first | exact HB.out | apply below_alloc | apply pw_below_drewN | apply below_drew1) | exact HB.out)) hb); clear HB; have HB := n0_; clear n0_; (try clear hb); (try clear hb2); (try clear hk); (try clear hi)))
                  go_ret3
                  exact ⟨by first | rfl | (simp [errW_none, errW_some] <;> rfl) | (simp [*, errW_none, errW_some] <;> rfl) | (simp [errW_none, errW_some] <;> (rw [Bool.eq_iff_iff]; simp; done)), by repeat (first | (with_reducible first | exact HB.out | apply below_alloc | apply pw_below_drewN | apply below_drew1) | exact HB.out)⟩
                · replace c13 := Bool.eq_false_iff.mpr c13
                  subst c13
                  have H1 : (some (0, 0, false)) = some (r1, r2, r3) := by rw [if_neg (show ¬ (false = true) by decide)] at H; exact H
                  clear H
                  have H := H1
                  clear H1
                  simp only [Option.some.injEq, Prod.mk.injEq] at H
                  obtain ⟨rfl, rfl, rfl⟩ := H
                  go_wp2
                  go_ret3
                  exact ⟨by first | rfl | (simp [errW_none, errW_some] <;> rfl) | (simp [*, errW_none, errW_some] <;> rfl) | (simp [errW_none, errW_some] <;> (rw [Bool.eq_iff_iff]; simp; done)), by repeat (first | (with_reducible first | exact HB.out | apply below_alloc | apply pw_below_drewN | apply below_drew1) | exact HB.out)⟩

/-! ### gristmilllaw2_first: function 8 -/
def gristmilllaw2_first.j0 : Nat → Bool → Option (Bool)
  | 0, _ => none
  | k + 1, x0 => some x0
def gristmilllaw2_first.f (k : Nat)  : Option (Bool) := (num_Do.f k (⟨#[100, 105, 118]⟩ : ByteArray) 1 0).bind fun bt106 => (if bt106.2.2 = true then (if bt106.1 = 0 then (if bt106.2.1 = (-2) then ((num_Text.f (-5)).bind fun t109 => (gristmilllaw2_first.j0 k (t109.toList == ([45, 53] : List UInt8)))) else (gristmilllaw2_first.j0 k false)) else (gristmilllaw2_first.j0 k false)) else (gristmilllaw2_first.j0 k false))
theorem gristmilllaw2_first.mono_l : ∀ k, (∀ y0, LeO (gristmilllaw2_first.j0 k y0) (gristmilllaw2_first.j0 (k + 1) y0))
  | 0 => fun _ r h => by simp [gristmilllaw2_first.j0] at h
  | k + 1 => by
    have ih0 := gristmilllaw2_first.mono_l k
    · intro y0
      unfold gristmilllaw2_first.j0
      repeat' first
      | (with_reducible exact ih0 _)
      | (with_reducible exact num_Do.mono _ _ _ _)
      | (with_reducible exact LeO.refl _)
      | (with_reducible exact LeO.none _)
      | (with_reducible refine LeO.ite ?_ ?_)
      | (with_reducible refine LeO.bind ?_ (fun _ => ?_))
      | exact ih0 _
      | exact num_Do.mono _ _ _ _
      | exact LeO.none _
      | refine LeO.ite ?_ ?_
      | refine LeO.bind ?_ (fun _ => ?_)
theorem gristmilllaw2_first.mono : ∀ k, LeO (gristmilllaw2_first.f k ) (gristmilllaw2_first.f (k + 1) ) := by
  intro  k
  have ih0 := gristmilllaw2_first.mono_l k
  unfold gristmilllaw2_first.f
  repeat' first
      | (with_reducible exact ih0 _)
      | (with_reducible exact num_Do.mono _ _ _ _)
      | (with_reducible exact LeO.refl _)
      | (with_reducible exact LeO.none _)
      | (with_reducible refine LeO.ite ?_ ?_)
      | (with_reducible refine LeO.bind ?_ (fun _ => ?_))
      | exact ih0 _
      | exact num_Do.mono _ _ _ _
      | exact LeO.none _
      | refine LeO.ite ?_ ?_
      | refine LeO.bind ?_ (fun _ => ?_)
set_option maxHeartbeats 8000000 in
set_option maxRecDepth 100000 in
theorem gristmilllaw2_first.calls (k : Nat)  (r : Bool) (w : World) (hGG : GG ad w) (h : gristmilllaw2_first.f k  = some r) :
    Calls Tryd.prog 8 #[] w fun e w' => e = .returned (.bool r) ∧ Below w.heap.size w w' := by
  have HB := Aside0.mk (Below.refl w.heap.size w)
  have H : ((num_Do.f k (⟨#[100, 105, 118]⟩ : ByteArray) 1 0).bind fun bt106 => (if bt106.2.2 = true then (if bt106.1 = 0 then (if bt106.2.1 = (-2) then ((num_Text.f (-5)).bind fun t109 => (gristmilllaw2_first.j0 k (t109.toList == ([45, 53] : List UInt8)))) else (gristmilllaw2_first.j0 k false)) else (gristmilllaw2_first.j0 k false)) else (gristmilllaw2_first.j0 k false))) = some r := h
  clear h
  replace H := Option.bind_eq_some_iff.mp H
  obtain ⟨⟨t106, t107, t108⟩, A10, H⟩ := H
  replace H : (if t108 = true then (if t106 = 0 then (if t107 = (-2) then ((num_Text.f (-5)).bind fun t109 => (gristmilllaw2_first.j0 k (t109.toList == ([45, 53] : List UInt8)))) else (gristmilllaw2_first.j0 k false)) else (gristmilllaw2_first.j0 k false)) else (gristmilllaw2_first.j0 k false)) = some r := H
  have A1 := Aside0.mk A10
  clear A10
  have HC2 := Aside0.mk H
  clear H
  go_enter Tryd.func8, Tryd.ntmps8
  go_upto_region 2 with (first | ((with_reducible refine gate_callee (f := 9) rfl ?_); refine goesL_ (some 5) rfl rfl Tryd.func9 (by kernel_rfl) rfl #[.string (⟨#[100, 105, 118]⟩ : ByteArray), .int .i64 1, .int .i64 0] rfl (by (try simp only [List.map_toArray, List.map_cons, List.map_nil]); first | done | rfl | (simp only [List.length_drop, List.length_take]; rfl)) ?_; (with_reducible refine (num_Do.calls k (⟨#[100, 105, 118]⟩ : ByteArray) 1 0 t106 t107 t108 _ A1.out).mono ?_); rintro e w3 ⟨rfl, hb⟩; refine ⟨_, rfl, ?_⟩; have n0_ := Aside0.mk (below_step (by repeat (first | (with_reducible first | exact HB.out | apply below_alloc | apply pw_below_drewN | apply below_drew1) | exact HB.out)) hb); clear HB; have HB := n0_; clear n0_; (try clear hb); (try clear hb2); (try clear hk); (try clear hi)))
  (try simp only [Act.put, List.setIfInBounds_toArray, List.set_cons_zero, List.set_cons_succ])
  go_cut [0] (fun v0 wc => ∃ (kq : Nat) (x0_1 : Bool), v0 = .bool x0_1 ∧ Aside0 (gristmilllaw2_first.j0 kq x0_1 = some r) ∧ Aside0 (kq ≤ k) ∧ Aside0 (Below w.heap.size w wc))
  case first => as_aux_lemma =>
    have H := HC2.out
    clear HC2
    by_cases c4 : t108 = true
    · subst c4
      have H1 : (if t106 = 0 then (if t107 = (-2) then ((num_Text.f (-5)).bind fun t109 => (gristmilllaw2_first.j0 k (t109.toList == ([45, 53] : List UInt8)))) else (gristmilllaw2_first.j0 k false)) else (gristmilllaw2_first.j0 k false)) = some r := by rw [if_pos rfl] at H; exact H
      clear H
      have H := H1
      clear H1
      by_cases c5 : t106 = 0
      · rw [if_pos c5] at H
        have c5b0 : (t106 == 0) = true := beq_iff_eq.mpr c5
        have c5b1 : (t106 != 0) = false := bne_eq_false_iff_eq.mpr c5
        clear c5
        (first | rw [c5b0] | (simp only [i64_w, i32_w]; rw [c5b0]) | skip)
        by_cases c6 : t107 = (-2)
        · rw [if_pos c6] at H
          have c6b0 : (t107 == (-2)) = true := beq_iff_eq.mpr c6
          have c6b1 : (t107 != (-2)) = false := bne_eq_false_iff_eq.mpr c6
          clear c6
          replace H := Option.bind_eq_some_iff.mp H
          obtain ⟨t109, A70, H⟩ := H
          replace H : (gristmilllaw2_first.j0 k (t109.toList == ([45, 53] : List UInt8))) = some r := H
          have A7 := Aside0.mk A70
          clear A70
          have H' := Aside0.mk H
          clear H
          go_wp2_with (first | (go_at_call 15; (with_reducible refine (num_Text.calls (ad := ad) (-5) t109 _ ?side1 A7.out).mono ?_); (case side1 => exact GG.below hGG (by repeat (first | (with_reducible first | exact HB.out | apply below_alloc | apply pw_below_drewN | apply below_drew1) | exact HB.out))); rintro e w8 ⟨rfl, hb⟩; have n0_ := Aside0.mk (below_step (by repeat (first | (with_reducible first | exact HB.out | apply below_alloc | apply pw_below_drewN | apply below_drew1) | exact HB.out)) hb); clear HB; have HB := n0_; clear n0_; (try clear hb); (try clear hb2); (try clear hk); (try clear hi)))
          go_meet
          case rel => exact ⟨_, ((t109.toList == ([45, 53] : List UInt8))), (by first | rfl | (simp; done) | (simp [*]; done)), H', ⟨by first | omega | exact Nat.le_refl _⟩, ⟨by repeat (first | (with_reducible first | exact HB.out | apply below_alloc | apply pw_below_drewN | apply below_drew1) | exact HB.out)⟩⟩
        · rw [if_neg c6] at H
          have c6b0 : (t107 == (-2)) = false := beq_eq_false_iff_ne.mpr c6
          have c6b1 : (t107 != (-2)) = true := bne_iff_ne.mpr c6
          have H' := Aside0.mk H
          clear H
          go_wp2
          go_meet
          case rel => exact ⟨_, (false), (by first | rfl | (simp; done) | (simp [*]; done)), H', ⟨by first | omega | exact Nat.le_refl _⟩, ⟨by repeat (first | (with_reducible first | exact HB.out | apply below_alloc | apply pw_below_drewN | apply below_drew1) | exact HB.out)⟩⟩
      · rw [if_neg c5] at H
        have c5b0 : (t106 == 0) = false := beq_eq_false_iff_ne.mpr c5
        have c5b1 : (t106 != 0) = true := bne_iff_ne.mpr c5
        (first | rw [c5b0] | (simp only [i64_w, i32_w]; rw [c5b0]) | skip)
        have H' := Aside0.mk H
        clear H
        go_wp2
        go_meet
        case rel => exact ⟨_, (false), (by first | rfl | (simp; done) | (simp [*]; done)), H', ⟨by first | omega | exact Nat.le_refl _⟩, ⟨by repeat (first | (with_reducible first | exact HB.out | apply below_alloc | apply pw_below_drewN | apply below_drew1) | exact HB.out)⟩⟩
    · replace c4 := Bool.eq_false_iff.mpr c4
      subst c4
      have H1 : (gristmilllaw2_first.j0 k false) = some r := by rw [if_neg (show ¬ (false = true) by decide)] at H; exact H
      clear H
      have H := H1
      clear H1
      have H' := Aside0.mk H
      clear H
      go_wp2
      go_meet
      case rel => exact ⟨_, (false), (by first | rfl | (simp; done) | (simp [*]; done)), H', ⟨by first | omega | exact Nat.le_refl _⟩, ⟨by repeat (first | (with_reducible first | exact HB.out | apply below_alloc | apply pw_below_drewN | apply below_drew1) | exact HB.out)⟩⟩
  case rest =>
    clear HC2
    try clear p2
    try clear c4
    try clear c5
    try clear c5b0
    try clear c5b1
    try clear c6
    try clear c6b0
    try clear c6b1
    try clear c8
    obtain ⟨kq, x0_1, rfl, HA, HJ1, HB⟩ := hcut
    cases kq with
    | zero => exact absurd HA.out (by simp [gristmilllaw2_first.j0])
    | succ kj1 =>
      have H := HA.out
      clear HA
      simp only [gristmilllaw2_first.j0] at H
      obtain rfl := Option.some.inj H
      go_wp2
      go_ret
      exact ⟨by first | rfl | (simp [errW_none, errW_some] <;> rfl) | (simp [*, errW_none, errW_some] <;> rfl) | (simp [errW_none, errW_some] <;> (rw [Bool.eq_iff_iff]; simp; done)), by repeat (first | (with_reducible first | exact HB.out | apply below_alloc | apply pw_below_drewN | apply below_drew1) | exact HB.out)⟩

/-! ### gristmilllaw2_NumBack: function 6 -/
def gristmilllaw2_NumBack.j0 : Nat → Bool → Option (Bool)
  | 0, _ => none
  | k + 1, x4 => some x4
def gristmilllaw2_NumBack.f (k : Nat) (a0 : Int) (a1 : Int) : Option (Bool) := (gristmilllaw2_first.f k).bind fun t110 => (if t110 = true then ((num_Text.f a0).bind fun t111 => ((num_Parse.f t111).bind fun bt112 => ((num_Text.f a0).bind fun t114 => (if 1 + t114.size ≤ 9223372036854775807 then ((num_Parse.f ((⟨#[48]⟩ : ByteArray) ++ t114)).bind fun bt115 => ((num_Text.f a0).bind fun t117 => (if 2 + t117.size ≤ 9223372036854775807 then ((num_Parse.f ((⟨#[45, 45]⟩ : ByteArray) ++ t117)).bind fun bt118 => ((num_Text.f 9223372036854775807).bind fun t120 => (if t120.size + 1 ≤ 9223372036854775807 then ((num_Parse.f (t120 ++ (⟨#[48]⟩ : ByteArray))).bind fun bt121 => ((num_Parse.f (⟨#[57, 50, 50, 51, 51, 55, 50, 48, 51, 54, 56, 53, 52, 55, 55, 53, 56, 48, 56]⟩ : ByteArray)).bind fun bt123 => ((num_Parse.f (⟨#[45, 57, 50, 50, 51, 51, 55, 50, 48, 51, 54, 56, 53, 52, 55, 55, 53, 56, 48, 56]⟩ : ByteArray)).bind fun bt125 => (if bt112.2.isNone = true then (if bt112.1 = a0 then (if bt115.2.isNone = true then (gristmilllaw2_NumBack.j0 k false) else (if bt118.2.isNone = true then (gristmilllaw2_NumBack.j0 k false) else (if bt121.2.isNone = true then (gristmilllaw2_NumBack.j0 k false) else (if bt123.2.isNone = true then (gristmilllaw2_NumBack.j0 k false) else (if bt125.2.isNone = true then (if bt125.1 = (-9223372036854775808) then ((num_Text.f a0).bind fun t133 => ((num_Text.f a1).bind fun t134 => (gristmilllaw2_NumBack.j0 k ((t133.toList == t134.toList) == (a0 == a1))))) else (gristmilllaw2_NumBack.j0 k false)) else (gristmilllaw2_NumBack.j0 k false)))))) else (gristmilllaw2_NumBack.j0 k false)) else (gristmilllaw2_NumBack.j0 k false))))) else (none)))) else (none)))) else (none))))) else (some false))
theorem gristmilllaw2_NumBack.mono_l : ∀ k, (∀ y0, LeO (gristmilllaw2_NumBack.j0 k y0) (gristmilllaw2_NumBack.j0 (k + 1) y0))
  | 0 => fun _ r h => by simp [gristmilllaw2_NumBack.j0] at h
  | k + 1 => by
    have ih0 := gristmilllaw2_NumBack.mono_l k
    · intro y0
      unfold gristmilllaw2_NumBack.j0
      repeat' first
      | (with_reducible exact ih0 _)
      | (with_reducible exact gristmilllaw2_first.mono _)
      | (with_reducible exact LeO.refl _)
      | (with_reducible exact LeO.none _)
      | (with_reducible refine LeO.ite ?_ ?_)
      | (with_reducible refine LeO.bind ?_ (fun _ => ?_))
      | exact ih0 _
      | exact gristmilllaw2_first.mono _
      | exact LeO.none _
      | refine LeO.ite ?_ ?_
      | refine LeO.bind ?_ (fun _ => ?_)
theorem gristmilllaw2_NumBack.mono : ∀ a0 a1 k, LeO (gristmilllaw2_NumBack.f k a0 a1) (gristmilllaw2_NumBack.f (k + 1) a0 a1) := by
  intro a0 a1 k
  have ih0 := gristmilllaw2_NumBack.mono_l k
  unfold gristmilllaw2_NumBack.f
  repeat' first
      | (with_reducible exact ih0 _)
      | (with_reducible exact gristmilllaw2_first.mono _)
      | (with_reducible exact LeO.refl _)
      | (with_reducible exact LeO.none _)
      | (with_reducible refine LeO.ite ?_ ?_)
      | (with_reducible refine LeO.bind ?_ (fun _ => ?_))
      | exact ih0 _
      | exact gristmilllaw2_first.mono _
      | exact LeO.none _
      | refine LeO.ite ?_ ?_
      | refine LeO.bind ?_ (fun _ => ?_)
set_option maxHeartbeats 8000000 in
set_option maxRecDepth 100000 in
theorem gristmilllaw2_NumBack.calls (k : Nat) (a0 : Int) (a1 : Int) (r : Bool) (w : World) (hGG : GG ad w) (h : gristmilllaw2_NumBack.f k a0 a1 = some r) :
    Calls Tryd.prog 6 #[.int .i64 a0, .int .i64 a1] w fun e w' => e = .returned (.bool r) ∧ Below w.heap.size w w' := by
  have hu34 := Tryd.underlying34
  have HB := Aside0.mk (Below.refl w.heap.size w)
  have H : ((gristmilllaw2_first.f k).bind fun t110 => (if t110 = true then ((num_Text.f a0).bind fun t111 => ((num_Parse.f t111).bind fun bt112 => ((num_Text.f a0).bind fun t114 => (if 1 + t114.size ≤ 9223372036854775807 then ((num_Parse.f ((⟨#[48]⟩ : ByteArray) ++ t114)).bind fun bt115 => ((num_Text.f a0).bind fun t117 => (if 2 + t117.size ≤ 9223372036854775807 then ((num_Parse.f ((⟨#[45, 45]⟩ : ByteArray) ++ t117)).bind fun bt118 => ((num_Text.f 9223372036854775807).bind fun t120 => (if t120.size + 1 ≤ 9223372036854775807 then ((num_Parse.f (t120 ++ (⟨#[48]⟩ : ByteArray))).bind fun bt121 => ((num_Parse.f (⟨#[57, 50, 50, 51, 51, 55, 50, 48, 51, 54, 56, 53, 52, 55, 55, 53, 56, 48, 56]⟩ : ByteArray)).bind fun bt123 => ((num_Parse.f (⟨#[45, 57, 50, 50, 51, 51, 55, 50, 48, 51, 54, 56, 53, 52, 55, 55, 53, 56, 48, 56]⟩ : ByteArray)).bind fun bt125 => (if bt112.2.isNone = true then (if bt112.1 = a0 then (if bt115.2.isNone = true then (gristmilllaw2_NumBack.j0 k false) else (if bt118.2.isNone = true then (gristmilllaw2_NumBack.j0 k false) else (if bt121.2.isNone = true then (gristmilllaw2_NumBack.j0 k false) else (if bt123.2.isNone = true then (gristmilllaw2_NumBack.j0 k false) else (if bt125.2.isNone = true then (if bt125.1 = (-9223372036854775808) then ((num_Text.f a0).bind fun t133 => ((num_Text.f a1).bind fun t134 => (gristmilllaw2_NumBack.j0 k ((t133.toList == t134.toList) == (a0 == a1))))) else (gristmilllaw2_NumBack.j0 k false)) else (gristmilllaw2_NumBack.j0 k false)))))) else (gristmilllaw2_NumBack.j0 k false)) else (gristmilllaw2_NumBack.j0 k false))))) else (none)))) else (none)))) else (none))))) else (some false))) = some r := h
  clear h
  replace H := Option.bind_eq_some_iff.mp H
  obtain ⟨t110, A30, H⟩ := H
  replace H : (if t110 = true then ((num_Text.f a0).bind fun t111 => ((num_Parse.f t111).bind fun bt112 => ((num_Text.f a0).bind fun t114 => (if 1 + t114.size ≤ 9223372036854775807 then ((num_Parse.f ((⟨#[48]⟩ : ByteArray) ++ t114)).bind fun bt115 => ((num_Text.f a0).bind fun t117 => (if 2 + t117.size ≤ 9223372036854775807 then ((num_Parse.f ((⟨#[45, 45]⟩ : ByteArray) ++ t117)).bind fun bt118 => ((num_Text.f 9223372036854775807).bind fun t120 => (if t120.size + 1 ≤ 9223372036854775807 then ((num_Parse.f (t120 ++ (⟨#[48]⟩ : ByteArray))).bind fun bt121 => ((num_Parse.f (⟨#[57, 50, 50, 51, 51, 55, 50, 48, 51, 54, 56, 53, 52, 55, 55, 53, 56, 48, 56]⟩ : ByteArray)).bind fun bt123 => ((num_Parse.f (⟨#[45, 57, 50, 50, 51, 51, 55, 50, 48, 51, 54, 56, 53, 52, 55, 55, 53, 56, 48, 56]⟩ : ByteArray)).bind fun bt125 => (if bt112.2.isNone = true then (if bt112.1 = a0 then (if bt115.2.isNone = true then (gristmilllaw2_NumBack.j0 k false) else (if bt118.2.isNone = true then (gristmilllaw2_NumBack.j0 k false) else (if bt121.2.isNone = true then (gristmilllaw2_NumBack.j0 k false) else (if bt123.2.isNone = true then (gristmilllaw2_NumBack.j0 k false) else (if bt125.2.isNone = true then (if bt125.1 = (-9223372036854775808) then ((num_Text.f a0).bind fun t133 => ((num_Text.f a1).bind fun t134 => (gristmilllaw2_NumBack.j0 k ((t133.toList == t134.toList) == (a0 == a1))))) else (gristmilllaw2_NumBack.j0 k false)) else (gristmilllaw2_NumBack.j0 k false)))))) else (gristmilllaw2_NumBack.j0 k false)) else (gristmilllaw2_NumBack.j0 k false))))) else (none)))) else (none)))) else (none))))) else (some false)) = some r := H
  have A3 := Aside0.mk A30
  clear A30
  by_cases c4 : t110 = true
  · subst c4
    have H1 : ((num_Text.f a0).bind fun t111 => ((num_Parse.f t111).bind fun bt112 => ((num_Text.f a0).bind fun t114 => (if 1 + t114.size ≤ 9223372036854775807 then ((num_Parse.f ((⟨#[48]⟩ : ByteArray) ++ t114)).bind fun bt115 => ((num_Text.f a0).bind fun t117 => (if 2 + t117.size ≤ 9223372036854775807 then ((num_Parse.f ((⟨#[45, 45]⟩ : ByteArray) ++ t117)).bind fun bt118 => ((num_Text.f 9223372036854775807).bind fun t120 => (if t120.size + 1 ≤ 9223372036854775807 then ((num_Parse.f (t120 ++ (⟨#[48]⟩ : ByteArray))).bind fun bt121 => ((num_Parse.f (⟨#[57, 50, 50, 51, 51, 55, 50, 48, 51, 54, 56, 53, 52, 55, 55, 53, 56, 48, 56]⟩ : ByteArray)).bind fun bt123 => ((num_Parse.f (⟨#[45, 57, 50, 50, 51, 51, 55, 50, 48, 51, 54, 56, 53, 52, 55, 55, 53, 56, 48, 56]⟩ : ByteArray)).bind fun bt125 => (if bt112.2.isNone = true then (if bt112.1 = a0 then (if bt115.2.isNone = true then (gristmilllaw2_NumBack.j0 k false) else (if bt118.2.isNone = true then (gristmilllaw2_NumBack.j0 k false) else (if bt121.2.isNone = true then (gristmilllaw2_NumBack.j0 k false) else (if bt123.2.isNone = true then (gristmilllaw2_NumBack.j0 k false) else (if bt125.2.isNone = true then (if bt125.1 = (-9223372036854775808) then ((num_Text.f a0).bind fun t133 => ((num_Text.f a1).bind fun t134 => (gristmilllaw2_NumBack.j0 k ((t133.toList == t134.toList) == (a0 == a1))))) else (gristmilllaw2_NumBack.j0 k false)) else (gristmilllaw2_NumBack.j0 k false)))))) else (gristmilllaw2_NumBack.j0 k false)) else (gristmilllaw2_NumBack.j0 k false))))) else (none)))) else (none)))) else (none))))) = some r := by rw [if_pos rfl] at H; exact H
    clear H
    have H := H1
    clear H1
    replace H := Option.bind_eq_some_iff.mp H
    obtain ⟨t111, A50, H⟩ := H
    replace H : ((num_Parse.f t111).bind fun bt112 => ((num_Text.f a0).bind fun t114 => (if 1 + t114.size ≤ 9223372036854775807 then ((num_Parse.f ((⟨#[48]⟩ : ByteArray) ++ t114)).bind fun bt115 => ((num_Text.f a0).bind fun t117 => (if 2 + t117.size ≤ 9223372036854775807 then ((num_Parse.f ((⟨#[45, 45]⟩ : ByteArray) ++ t117)).bind fun bt118 => ((num_Text.f 9223372036854775807).bind fun t120 => (if t120.size + 1 ≤ 9223372036854775807 then ((num_Parse.f (t120 ++ (⟨#[48]⟩ : ByteArray))).bind fun bt121 => ((num_Parse.f (⟨#[57, 50, 50, 51, 51, 55, 50, 48, 51, 54, 56, 53, 52, 55, 55, 53, 56, 48, 56]⟩ : ByteArray)).bind fun bt123 => ((num_Parse.f (⟨#[45, 57, 50, 50, 51, 51, 55, 50, 48, 51, 54, 56, 53, 52, 55, 55, 53, 56, 48, 56]⟩ : ByteArray)).bind fun bt125 => (if bt112.2.isNone = true then (if bt112.1 = a0 then (if bt115.2.isNone = true then (gristmilllaw2_NumBack.j0 k false) else (if bt118.2.isNone = true then (gristmilllaw2_NumBack.j0 k false) else (if bt121.2.isNone = true then (gristmilllaw2_NumBack.j0 k false) else (if bt123.2.isNone = true then (gristmilllaw2_NumBack.j0 k false) else (if bt125.2.isNone = true then (if bt125.1 = (-9223372036854775808) then ((num_Text.f a0).bind fun t133 => ((num_Text.f a1).bind fun t134 => (gristmilllaw2_NumBack.j0 k ((t133.toList == t134.toList) == (a0 == a1))))) else (gristmilllaw2_NumBack.j0 k false)) else (gristmilllaw2_NumBack.j0 k false)))))) else (gristmilllaw2_NumBack.j0 k false)) else (gristmilllaw2_NumBack.j0 k false))))) else (none)))) else (none)))) else (none)))) = some r := H
    have A5 := Aside0.mk A50
    clear A50
    replace H := Option.bind_eq_some_iff.mp H
    obtain ⟨⟨t112, t113⟩, A60, H⟩ := H
    replace H : ((num_Text.f a0).bind fun t114 => (if 1 + t114.size ≤ 9223372036854775807 then ((num_Parse.f ((⟨#[48]⟩ : ByteArray) ++ t114)).bind fun bt115 => ((num_Text.f a0).bind fun t117 => (if 2 + t117.size ≤ 9223372036854775807 then ((num_Parse.f ((⟨#[45, 45]⟩ : ByteArray) ++ t117)).bind fun bt118 => ((num_Text.f 9223372036854775807).bind fun t120 => (if t120.size + 1 ≤ 9223372036854775807 then ((num_Parse.f (t120 ++ (⟨#[48]⟩ : ByteArray))).bind fun bt121 => ((num_Parse.f (⟨#[57, 50, 50, 51, 51, 55, 50, 48, 51, 54, 56, 53, 52, 55, 55, 53, 56, 48, 56]⟩ : ByteArray)).bind fun bt123 => ((num_Parse.f (⟨#[45, 57, 50, 50, 51, 51, 55, 50, 48, 51, 54, 56, 53, 52, 55, 55, 53, 56, 48, 56]⟩ : ByteArray)).bind fun bt125 => (if t113.isNone = true then (if t112 = a0 then (if bt115.2.isNone = true then (gristmilllaw2_NumBack.j0 k false) else (if bt118.2.isNone = true then (gristmilllaw2_NumBack.j0 k false) else (if bt121.2.isNone = true then (gristmilllaw2_NumBack.j0 k false) else (if bt123.2.isNone = true then (gristmilllaw2_NumBack.j0 k false) else (if bt125.2.isNone = true then (if bt125.1 = (-9223372036854775808) then ((num_Text.f a0).bind fun t133 => ((num_Text.f a1).bind fun t134 => (gristmilllaw2_NumBack.j0 k ((t133.toList == t134.toList) == (a0 == a1))))) else (gristmilllaw2_NumBack.j0 k false)) else (gristmilllaw2_NumBack.j0 k false)))))) else (gristmilllaw2_NumBack.j0 k false)) else (gristmilllaw2_NumBack.j0 k false))))) else (none)))) else (none)))) else (none))) = some r := H
    have A6 := Aside0.mk A60
    clear A60
    replace H := Option.bind_eq_some_iff.mp H
    obtain ⟨t114, A70, H⟩ := H
    replace H : (if 1 + t114.size ≤ 9223372036854775807 then ((num_Parse.f ((⟨#[48]⟩ : ByteArray) ++ t114)).bind fun bt115 => ((num_Text.f a0).bind fun t117 => (if 2 + t117.size ≤ 9223372036854775807 then ((num_Parse.f ((⟨#[45, 45]⟩ : ByteArray) ++ t117)).bind fun bt118 => ((num_Text.f 9223372036854775807).bind fun t120 => (if t120.size + 1 ≤ 9223372036854775807 then ((num_Parse.f (t120 ++ (⟨#[48]⟩ : ByteArray))).bind fun bt121 => ((num_Parse.f (⟨#[57, 50, 50, 51, 51, 55, 50, 48, 51, 54, 56, 53, 52, 55, 55, 53, 56, 48, 56]⟩ : ByteArray)).bind fun bt123 => ((num_Parse.f (⟨#[45, 57, 50, 50, 51, 51, 55, 50, 48, 51, 54, 56, 53, 52, 55, 55, 53, 56, 48, 56]⟩ : ByteArray)).bind fun bt125 => (if t113.isNone = true then (if t112 = a0 then (if bt115.2.isNone = true then (gristmilllaw2_NumBack.j0 k false) else (if bt118.2.isNone = true then (gristmilllaw2_NumBack.j0 k false) else (if bt121.2.isNone = true then (gristmilllaw2_NumBack.j0 k false) else (if bt123.2.isNone = true then (gristmilllaw2_NumBack.j0 k false) else (if bt125.2.isNone = true then (if bt125.1 = (-9223372036854775808) then ((num_Text.f a0).bind fun t133 => ((num_Text.f a1).bind fun t134 => (gristmilllaw2_NumBack.j0 k ((t133.toList == t134.toList) == (a0 == a1))))) else (gristmilllaw2_NumBack.j0 k false)) else (gristmilllaw2_NumBack.j0 k false)))))) else (gristmilllaw2_NumBack.j0 k false)) else (gristmilllaw2_NumBack.j0 k false))))) else (none)))) else (none)))) else (none)) = some r := H
    have A7 := Aside0.mk A70
    clear A70
    by_cases c8 : 1 + t114.size ≤ 9223372036854775807
    · rw [if_pos c8] at H
      have c8b0 := eq_true c8
      have c8b1 : decide (1 + t114.size ≤ 9223372036854775807) = true := decide_eq_true c8
      try have c8b2 : (9223372036854775807 < 1 + t114.size) = False := eq_false (Nat.not_lt.2 c8)
      replace H := Option.bind_eq_some_iff.mp H
      obtain ⟨⟨t115, t116⟩, A90, H⟩ := H
      replace H : ((num_Text.f a0).bind fun t117 => (if 2 + t117.size ≤ 9223372036854775807 then ((num_Parse.f ((⟨#[45, 45]⟩ : ByteArray) ++ t117)).bind fun bt118 => ((num_Text.f 9223372036854775807).bind fun t120 => (if t120.size + 1 ≤ 9223372036854775807 then ((num_Parse.f (t120 ++ (⟨#[48]⟩ : ByteArray))).bind fun bt121 => ((num_Parse.f (⟨#[57, 50, 50, 51, 51, 55, 50, 48, 51, 54, 56, 53, 52, 55, 55, 53, 56, 48, 56]⟩ : ByteArray)).bind fun bt123 => ((num_Parse.f (⟨#[45, 57, 50, 50, 51, 51, 55, 50, 48, 51, 54, 56, 53, 52, 55, 55, 53, 56, 48, 56]⟩ : ByteArray)).bind fun bt125 => (if t113.isNone = true then (if t112 = a0 then (if t116.isNone = true then (gristmilllaw2_NumBack.j0 k false) else (if bt118.2.isNone = true then (gristmilllaw2_NumBack.j0 k false) else (if bt121.2.isNone = true then (gristmilllaw2_NumBack.j0 k false) else (if bt123.2.isNone = true then (gristmilllaw2_NumBack.j0 k false) else (if bt125.2.isNone = true then (if bt125.1 = (-9223372036854775808) then ((num_Text.f a0).bind fun t133 => ((num_Text.f a1).bind fun t134 => (gristmilllaw2_NumBack.j0 k ((t133.toList == t134.toList) == (a0 == a1))))) else (gristmilllaw2_NumBack.j0 k false)) else (gristmilllaw2_NumBack.j0 k false)))))) else (gristmilllaw2_NumBack.j0 k false)) else (gristmilllaw2_NumBack.j0 k false))))) else (none)))) else (none))) = some r := H
      have A9 := Aside0.mk A90
      clear A90
      replace H := Option.bind_eq_some_iff.mp H
      obtain ⟨t117, A100, H⟩ := H
      replace H : (if 2 + t117.size ≤ 9223372036854775807 then ((num_Parse.f ((⟨#[45, 45]⟩ : ByteArray) ++ t117)).bind fun bt118 => ((num_Text.f 9223372036854775807).bind fun t120 => (if t120.size + 1 ≤ 9223372036854775807 then ((num_Parse.f (t120 ++ (⟨#[48]⟩ : ByteArray))).bind fun bt121 => ((num_Parse.f (⟨#[57, 50, 50, 51, 51, 55, 50, 48, 51, 54, 56, 53, 52, 55, 55, 53, 56, 48, 56]⟩ : ByteArray)).bind fun bt123 => ((num_Parse.f (⟨#[45, 57, 50, 50, 51, 51, 55, 50, 48, 51, 54, 56, 53, 52, 55, 55, 53, 56, 48, 56]⟩ : ByteArray)).bind fun bt125 => (if t113.isNone = true then (if t112 = a0 then (if t116.isNone = true then (gristmilllaw2_NumBack.j0 k false) else (if bt118.2.isNone = true then (gristmilllaw2_NumBack.j0 k false) else (if bt121.2.isNone = true then (gristmilllaw2_NumBack.j0 k false) else (if bt123.2.isNone = true then (gristmilllaw2_NumBack.j0 k false) else (if bt125.2.isNone = true then (if bt125.1 = (-9223372036854775808) then ((num_Text.f a0).bind fun t133 => ((num_Text.f a1).bind fun t134 => (gristmilllaw2_NumBack.j0 k ((t133.toList == t134.toList) == (a0 == a1))))) else (gristmilllaw2_NumBack.j0 k false)) else (gristmilllaw2_NumBack.j0 k false)))))) else (gristmilllaw2_NumBack.j0 k false)) else (gristmilllaw2_NumBack.j0 k false))))) else (none)))) else (none)) = some r := H
      have A10 := Aside0.mk A100
      clear A100
      by_cases c11 : 2 + t117.size ≤ 9223372036854775807
      · rw [if_pos c11] at H
        have c11b0 := eq_true c11
        have c11b1 : decide (2 + t117.size ≤ 9223372036854775807) = true := decide_eq_true c11
        try have c11b2 : (9223372036854775807 < 2 + t117.size) = False := eq_false (Nat.not_lt.2 c11)
        replace H := Option.bind_eq_some_iff.mp H
        obtain ⟨⟨t118, t119⟩, A120, H⟩ := H
        replace H : ((num_Text.f 9223372036854775807).bind fun t120 => (if t120.size + 1 ≤ 9223372036854775807 then ((num_Parse.f (t120 ++ (⟨#[48]⟩ : ByteArray))).bind fun bt121 => ((num_Parse.f (⟨#[57, 50, 50, 51, 51, 55, 50, 48, 51, 54, 56, 53, 52, 55, 55, 53, 56, 48, 56]⟩ : ByteArray)).bind fun bt123 => ((num_Parse.f (⟨#[45, 57, 50, 50, 51, 51, 55, 50, 48, 51, 54, 56, 53, 52, 55, 55, 53, 56, 48, 56]⟩ : ByteArray)).bind fun bt125 => (if t113.isNone = true then (if t112 = a0 then (if t116.isNone = true then (gristmilllaw2_NumBack.j0 k false) else (if t119.isNone = true then (gristmilllaw2_NumBack.j0 k false) else (if bt121.2.isNone = true then (gristmilllaw2_NumBack.j0 k false) else (if bt123.2.isNone = true then (gristmilllaw2_NumBack.j0 k false) else (if bt125.2.isNone = true then (if bt125.1 = (-9223372036854775808) then ((num_Text.f a0).bind fun t133 => ((num_Text.f a1).bind fun t134 => (gristmilllaw2_NumBack.j0 k ((t133.toList == t134.toList) == (a0 == a1))))) else (gristmilllaw2_NumBack.j0 k false)) else (gristmilllaw2_NumBack.j0 k false)))))) else (gristmilllaw2_NumBack.j0 k false)) else (gristmilllaw2_NumBack.j0 k false))))) else (none))) = some r := H
        have A12 := Aside0.mk A120
        clear A120
        replace H := Option.bind_eq_some_iff.mp H
        obtain ⟨t120, A130, H⟩ := H
        replace H : (if t120.size + 1 ≤ 9223372036854775807 then ((num_Parse.f (t120 ++ (⟨#[48]⟩ : ByteArray))).bind fun bt121 => ((num_Parse.f (⟨#[57, 50, 50, 51, 51, 55, 50, 48, 51, 54, 56, 53, 52, 55, 55, 53, 56, 48, 56]⟩ : ByteArray)).bind fun bt123 => ((num_Parse.f (⟨#[45, 57, 50, 50, 51, 51, 55, 50, 48, 51, 54, 56, 53, 52, 55, 55, 53, 56, 48, 56]⟩ : ByteArray)).bind fun bt125 => (if t113.isNone = true then (if t112 = a0 then (if t116.isNone = true then (gristmilllaw2_NumBack.j0 k false) else (if t119.isNone = true then (gristmilllaw2_NumBack.j0 k false) else (if bt121.2.isNone = true then (gristmilllaw2_NumBack.j0 k false) else (if bt123.2.isNone = true then (gristmilllaw2_NumBack.j0 k false) else (if bt125.2.isNone = true then (if bt125.1 = (-9223372036854775808) then ((num_Text.f a0).bind fun t133 => ((num_Text.f a1).bind fun t134 => (gristmilllaw2_NumBack.j0 k ((t133.toList == t134.toList) == (a0 == a1))))) else (gristmilllaw2_NumBack.j0 k false)) else (gristmilllaw2_NumBack.j0 k false)))))) else (gristmilllaw2_NumBack.j0 k false)) else (gristmilllaw2_NumBack.j0 k false))))) else (none)) = some r := H
        have A13 := Aside0.mk A130
        clear A130
        by_cases c14 : t120.size + 1 ≤ 9223372036854775807
        · rw [if_pos c14] at H
          have c14b0 := eq_true c14
          have c14b1 : decide (t120.size + 1 ≤ 9223372036854775807) = true := decide_eq_true c14
          try have c14b2 : (9223372036854775807 < t120.size + 1) = False := eq_false (Nat.not_lt.2 c14)
          replace H := Option.bind_eq_some_iff.mp H
          obtain ⟨⟨t121, t122⟩, A150, H⟩ := H
          replace H : ((num_Parse.f (⟨#[57, 50, 50, 51, 51, 55, 50, 48, 51, 54, 56, 53, 52, 55, 55, 53, 56, 48, 56]⟩ : ByteArray)).bind fun bt123 => ((num_Parse.f (⟨#[45, 57, 50, 50, 51, 51, 55, 50, 48, 51, 54, 56, 53, 52, 55, 55, 53, 56, 48, 56]⟩ : ByteArray)).bind fun bt125 => (if t113.isNone = true then (if t112 = a0 then (if t116.isNone = true then (gristmilllaw2_NumBack.j0 k false) else (if t119.isNone = true then (gristmilllaw2_NumBack.j0 k false) else (if t122.isNone = true then (gristmilllaw2_NumBack.j0 k false) else (if bt123.2.isNone = true then (gristmilllaw2_NumBack.j0 k false) else (if bt125.2.isNone = true then (if bt125.1 = (-9223372036854775808) then ((num_Text.f a0).bind fun t133 => ((num_Text.f a1).bind fun t134 => (gristmilllaw2_NumBack.j0 k ((t133.toList == t134.toList) == (a0 == a1))))) else (gristmilllaw2_NumBack.j0 k false)) else (gristmilllaw2_NumBack.j0 k false)))))) else (gristmilllaw2_NumBack.j0 k false)) else (gristmilllaw2_NumBack.j0 k false)))) = some r := H
          have A15 := Aside0.mk A150
          clear A150
          replace H := Option.bind_eq_some_iff.mp H
          obtain ⟨⟨t123, t124⟩, A160, H⟩ := H
          replace H : ((num_Parse.f (⟨#[45, 57, 50, 50, 51, 51, 55, 50, 48, 51, 54, 56, 53, 52, 55, 55, 53, 56, 48, 56]⟩ : ByteArray)).bind fun bt125 => (if t113.isNone = true then (if t112 = a0 then (if t116.isNone = true then (gristmilllaw2_NumBack.j0 k false) else (if t119.isNone = true then (gristmilllaw2_NumBack.j0 k false) else (if t122.isNone = true then (gristmilllaw2_NumBack.j0 k false) else (if t124.isNone = true then (gristmilllaw2_NumBack.j0 k false) else (if bt125.2.isNone = true then (if bt125.1 = (-9223372036854775808) then ((num_Text.f a0).bind fun t133 => ((num_Text.f a1).bind fun t134 => (gristmilllaw2_NumBack.j0 k ((t133.toList == t134.toList) == (a0 == a1))))) else (gristmilllaw2_NumBack.j0 k false)) else (gristmilllaw2_NumBack.j0 k false)))))) else (gristmilllaw2_NumBack.j0 k false)) else (gristmilllaw2_NumBack.j0 k false))) = some r := H
          have A16 := Aside0.mk A160
          clear A160
          replace H := Option.bind_eq_some_iff.mp H
          obtain ⟨⟨t125, t126⟩, A170, H⟩ := H
          replace H : (if t113.isNone = true then (if t112 = a0 then (if t116.isNone = true then (gristmilllaw2_NumBack.j0 k false) else (if t119.isNone = true then (gristmilllaw2_NumBack.j0 k false) else (if t122.isNone = true then (gristmilllaw2_NumBack.j0 k false) else (if t124.isNone = true then (gristmilllaw2_NumBack.j0 k false) else (if t126.isNone = true then (if t125 = (-9223372036854775808) then ((num_Text.f a0).bind fun t133 => ((num_Text.f a1).bind fun t134 => (gristmilllaw2_NumBack.j0 k ((t133.toList == t134.toList) == (a0 == a1))))) else (gristmilllaw2_NumBack.j0 k false)) else (gristmilllaw2_NumBack.j0 k false)))))) else (gristmilllaw2_NumBack.j0 k false)) else (gristmilllaw2_NumBack.j0 k false)) = some r := H
          have A17 := Aside0.mk A170
          clear A170
          have HC18 := Aside0.mk H
          clear H
          go_enter Tryd.func6, Tryd.ntmps6
          go_upto_region 10 with (first | ((with_reducible refine gate_callee (f := 8) rfl ?_); refine goesL_ (some 18) rfl rfl Tryd.func8 (by kernel_rfl) rfl #[] rfl (by (try simp only [List.map_toArray, List.map_cons, List.map_nil]); first | done | rfl | (simp only [List.length_drop, List.length_take]; rfl)) ?_; (with_reducible refine (gristmilllaw2_first.calls (ad := ad) k  true _ ?side1 A3.out).mono ?_); (case side1 => exact GG.below hGG (by repeat (first | (with_reducible first | exact HB.out | apply below_alloc | apply pw_below_drewN | apply below_drew1) | exact HB.out))); rintro e w19 ⟨rfl, hb⟩; refine ⟨_, rfl, ?_⟩; have n0_ := Aside0.mk (below_step (by repeat (first | (with_reducible first | exact HB.out | apply below_alloc | apply pw_below_drewN | apply below_drew1) | exact HB.out)) hb); clear HB; have HB := n0_; clear n0_; (try clear hb); (try clear hb2); (try clear hk); (try clear hi)) | ((with_reducible refine gate_callee (f := 15) rfl ?_); refine goesL_ (some 23) rfl rfl Tryd.func15 (by kernel_rfl) rfl #[.int .i64 a0] rfl (by (try simp only [List.map_toArray, List.map_cons, List.map_nil]); first | done | rfl | (simp only [List.length_drop, List.length_take]; rfl)) ?_; (with_reducible refine (num_Text.calls (ad := ad) a0 t111 _ ?side1 A5.out).mono ?_); (case side1 => exact GG.below hGG (by repeat (first | (with_reducible first | exact HB.out | apply below_alloc | apply pw_below_drewN | apply below_drew1) | exact HB.out))); rintro e w20 ⟨rfl, hb⟩; refine ⟨_, rfl, ?_⟩; have n0_ := Aside0.mk (below_step (by repeat (first | (with_reducible first | exact HB.out | apply below_alloc | apply pw_below_drewN | apply below_drew1) | exact HB.out)) hb); clear HB; have HB := n0_; clear n0_; (try clear hb); (try clear hb2); (try clear hk); (try clear hi)) | ((with_reducible refine gate_callee (f := 14) rfl ?_); refine goesL_ (some 24) rfl rfl Tryd.func14 (by kernel_rfl) rfl #[.string t111] rfl (by (try simp only [List.map_toArray, List.map_cons, List.map_nil]); first | done | rfl | (simp only [List.length_drop, List.length_take]; rfl)) ?_; (with_reducible refine (num_Parse.calls (ad := ad) t111 t112 t113 _ ?side1 A6.out).mono ?_); (case side1 => exact GG.below hGG (by repeat (first | (with_reducible first | exact HB.out | apply below_alloc | apply pw_below_drewN | apply below_drew1) | exact HB.out))); rintro e w21 ⟨rfl, hb⟩; refine ⟨_, rfl, ?_⟩; have n0_ := Aside0.mk (below_step (by repeat (first | (with_reducible first | exact HB.out | apply below_alloc | apply pw_below_drewN | apply below_drew1) | exact HB.out)) hb); clear HB; have HB := n0_; clear n0_; (try clear hb); (try clear hb2); (try clear hk); (try clear hi); (try simp only [errW_none, errW_some])) | ((with_reducible refine gate_callee (f := 15) rfl ?_); refine goesL_ (some 29) rfl rfl Tryd.func15 (by kernel_rfl) rfl #[.int .i64 a0] rfl (by (try simp only [List.map_toArray, List.map_cons, List.map_nil]); first | done | rfl | (simp only [List.length_drop, List.length_take]; rfl)) ?_; (with_reducible refine (num_Text.calls (ad := ad) a0 t114 _ ?side1 A7.out).mono ?_); (case side1 => exact GG.below hGG (by repeat (first | (with_reducible first | exact HB.out | apply below_alloc | apply pw_below_drewN | apply below_drew1) | exact HB.out))); rintro e w22 ⟨rfl, hb⟩; refine ⟨_, rfl, ?_⟩; have n0_ := Aside0.mk (below_step (by repeat (first | (with_reducible first | exact HB.out | apply below_alloc | apply pw_below_drewN | apply below_drew1) | exact HB.out)) hb); clear HB; have HB := n0_; clear n0_; (try clear hb); (try clear hb2); (try clear hk); (try clear hi)) | ((with_reducible refine gate_callee (f := 14) rfl ?_); refine goesL_ (some 31) rfl rfl Tryd.func14 (by kernel_rfl) rfl #[.string ((⟨#[48]⟩ : ByteArray) ++ t114)] rfl (by (try simp only [List.map_toArray, List.map_cons, List.map_nil]); first | done | rfl | (simp only [List.length_drop, List.length_take]; rfl)) ?_; (with_reducible refine (num_Parse.calls (ad := ad) ((⟨#[48]⟩ : ByteArray) ++ t114) t115 t116 _ ?side1 A9.out).mono ?_); (case side1 => exact GG.below hGG (by repeat (first | (with_reducible first | exact HB.out | apply below_alloc | apply pw_below_drewN | apply below_drew1) | exact HB.out))); rintro e w23 ⟨rfl, hb⟩; refine ⟨_, rfl, ?_⟩; have n0_ := Aside0.mk (below_step (by repeat (first | (with_reducible first | exact HB.out | apply below_alloc | apply pw_below_drewN | apply below_drew1) | exact HB.out)) hb); clear HB; have HB := n0_; clear n0_; (try clear hb); (try clear hb2); (try clear hk); (try clear hi); (try simp only [errW_none, errW_some])) | ((with_reducible refine gate_callee (f := 15) rfl ?_); refine goesL_ (some 36) rfl rfl Tryd.func15 (by kernel_rfl) rfl #[.int .i64 a0] rfl (by (try simp only [List.map_toArray, List.map_cons, List.map_nil]); first | done | rfl | (simp only [List.length_drop, List.length_take]; rfl)) ?_; (with_reducible refine (num_Text.calls (ad := ad) a0 t117 _ ?side1 A10.out).mono ?_); (case side1 => exact GG.below hGG (by repeat (first | (with_reducible first | exact HB.out | apply below_alloc | apply pw_below_drewN | apply below_drew1) | exact HB.out))); rintro e w24 ⟨rfl, hb⟩; refine ⟨_, rfl, ?_⟩; have n0_ := Aside0.mk (below_step (by repeat (first | (with_reducible first | exact HB.out | apply below_alloc | apply pw_below_drewN | apply below_drew1) | exact HB.out)) hb); clear HB; have HB := n0_; clear n0_; (try clear hb); (try clear hb2); (try clear hk); (try clear hi)) | ((with_reducible refine gate_callee (f := 14) rfl ?_); refine goesL_ (some 38) rfl rfl Tryd.func14 (by kernel_rfl) rfl #[.string ((⟨#[45, 45]⟩ : ByteArray) ++ t117)] rfl (by (try simp only [List.map_toArray, List.map_cons, List.map_nil]); first | done | rfl | (simp only [List.length_drop, List.length_take]; rfl)) ?_; (with_reducible refine (num_Parse.calls (ad := ad) ((⟨#[45, 45]⟩ : ByteArray) ++ t117) t118 t119 _ ?side1 A12.out).mono ?_); (case side1 => exact GG.below hGG (by repeat (first | (with_reducible first | exact HB.out | apply below_alloc | apply pw_below_drewN | apply below_drew1) | exact HB.out))); rintro e w25 ⟨rfl, hb⟩; refine ⟨_, rfl, ?_⟩; have n0_ := Aside0.mk (below_step (by repeat (first | (with_reducible first | exact HB.out | apply below_alloc | apply pw_below_drewN | apply below_drew1) | exact HB.out)) hb); clear HB; have HB := n0_; clear n0_; (try clear hb); (try clear hb2); (try clear hk); (try clear hi); (try simp only [errW_none, errW_some])) | ((with_reducible refine gate_callee (f := 15) rfl ?_); refine goesL_ (some 42) rfl rfl Tryd.func15 (by kernel_rfl) rfl #[.int .i64 9223372036854775807] rfl (by (try simp only [List.map_toArray, List.map_cons, List.map_nil]); first | done | rfl | (simp only [List.length_drop, List.length_take]; rfl)) ?_; (with_reducible refine (num_Text.calls (ad := ad) 9223372036854775807 t120 _ ?side1 A13.out).mono ?_); (case side1 => exact GG.below hGG (by repeat (first | (with_reducible first | exact HB.out | apply below_alloc | apply pw_below_drewN | apply below_drew1) | exact HB.out))); rintro e w26 ⟨rfl, hb⟩; refine ⟨_, rfl, ?_⟩; have n0_ := Aside0.mk (below_step (by repeat (first | (with_reducible first | exact HB.out | apply below_alloc | apply pw_below_drewN | apply below_drew1) | exact HB.out)) hb); clear HB; have HB := n0_; clear n0_; (try clear hb); (try clear hb2); (try clear hk); (try clear hi)) | ((with_reducible refine gate_callee (f := 14) rfl ?_); refine goesL_ (some 44) rfl rfl Tryd.func14 (by kernel_rfl) rfl #[.string (t120 ++ (⟨#[48]⟩ : ByteArray))] rfl (by (try simp only [List.map_toArray, List.map_cons, List.map_nil]); first | done | rfl | (simp only [List.length_drop, List.length_take]; rfl)) ?_; (with_reducible refine (num_Parse.calls (ad := ad) (t120 ++ (⟨#[48]⟩ : ByteArray)) t121 t122 _ ?side1 A15.out).mono ?_); (case side1 => exact GG.below hGG (by repeat (first | (with_reducible first | exact HB.out | apply below_alloc | apply pw_below_drewN | apply below_drew1) | exact HB.out))); rintro e w27 ⟨rfl, hb⟩; refine ⟨_, rfl, ?_⟩; have n0_ := Aside0.mk (below_step (by repeat (first | (with_reducible first | exact HB.out | apply below_alloc | apply pw_below_drewN | apply below_drew1) | exact HB.out)) hb); clear HB; have HB := n0_; clear n0_; (try clear hb); (try clear hb2); (try clear hk); (try clear hi); (try simp only [errW_none, errW_some])) | ((with_reducible refine gate_callee (f := 14) rfl ?_); refine goesL_ (some 48) rfl rfl Tryd.func14 (by kernel_rfl) rfl #[.string (⟨#[57, 50, 50, 51, 51, 55, 50, 48, 51, 54, 56, 53, 52, 55, 55, 53, 56, 48, 56]⟩ : ByteArray)] rfl (by (try simp only [List.map_toArray, List.map_cons, List.map_nil]); first | done | rfl | (simp only [List.length_drop, List.length_take]; rfl)) ?_; (with_reducible refine (num_Parse.calls (ad := ad) (⟨#[57, 50, 50, 51, 51, 55, 50, 48, 51, 54, 56, 53, 52, 55, 55, 53, 56, 48, 56]⟩ : ByteArray) t123 t124 _ ?side1 A16.out).mono ?_); (case side1 => exact GG.below hGG (by repeat (first | (with_reducible first | exact HB.out | apply below_alloc | apply pw_below_drewN | apply below_drew1) | exact HB.out))); rintro e w28 ⟨rfl, hb⟩; refine ⟨_, rfl, ?_⟩; have n0_ := Aside0.mk (below_step (by repeat (first | (with_reducible first | exact HB.out | apply below_alloc | apply pw_below_drewN | apply below_drew1) | exact HB.out)) hb); clear HB; have HB := n0_; clear n0_; (try clear hb); (try clear hb2); (try clear hk); (try clear hi); (try simp only [errW_none, errW_some])) | ((with_reducible refine gate_callee (f := 14) rfl ?_); refine goesL_ (some 52) rfl rfl Tryd.func14 (by kernel_rfl) rfl #[.string (⟨#[45, 57, 50, 50, 51, 51, 55, 50, 48, 51, 54, 56, 53, 52, 55, 55, 53, 56, 48, 56]⟩ : ByteArray)] rfl (by (try simp only [List.map_toArray, List.map_cons, List.map_nil]); first | done | rfl | (simp only [List.length_drop, List.length_take]; rfl)) ?_; (with_reducible refine (num_Parse.calls (ad := ad) (⟨#[45, 57, 50, 50, 51, 51, 55, 50, 48, 51, 54, 56, 53, 52, 55, 55, 53, 56, 48, 56]⟩ : ByteArray) t125 t126 _ ?side1 A17.out).mono ?_); (case side1 => exact GG.below hGG (by repeat (first | (with_reducible first | exact HB.out | apply below_alloc | apply pw_below_drewN | apply below_drew1) | exact HB.out))); rintro e w29 ⟨rfl, hb⟩; refine ⟨_, rfl, ?_⟩; have n0_ := Aside0.mk (below_step (by repeat (first | (with_reducible first | exact HB.out | apply below_alloc | apply pw_below_drewN | apply below_drew1) | exact HB.out)) hb); clear HB; have HB := n0_; clear n0_; (try clear hb); (try clear hb2); (try clear hk); (try clear hi); (try simp only [errW_none, errW_some])))
          (try simp only [Act.put, List.setIfInBounds_toArray, List.set_cons_zero, List.set_cons_succ])
          go_cut [4] (fun v4 wc => ∃ (kq : Nat) (x4_17 : Bool), v4 = .bool x4_17 ∧ Aside0 (gristmilllaw2_NumBack.j0 kq x4_17 = some r) ∧ Aside0 (kq ≤ k) ∧ Aside0 (Below w.heap.size w wc))
          case first => as_aux_lemma =>
            have H := HC18.out
            clear HC18
            rcases t113 with _ | q127
            · have H1 : (if t112 = a0 then (if t116.isNone = true then (gristmilllaw2_NumBack.j0 k false) else (if t119.isNone = true then (gristmilllaw2_NumBack.j0 k false) else (if t122.isNone = true then (gristmilllaw2_NumBack.j0 k false) else (if t124.isNone = true then (gristmilllaw2_NumBack.j0 k false) else (if t126.isNone = true then (if t125 = (-9223372036854775808) then ((num_Text.f a0).bind fun t133 => ((num_Text.f a1).bind fun t134 => (gristmilllaw2_NumBack.j0 k ((t133.toList == t134.toList) == (a0 == a1))))) else (gristmilllaw2_NumBack.j0 k false)) else (gristmilllaw2_NumBack.j0 k false)))))) else (gristmilllaw2_NumBack.j0 k false)) = some r := by rw [if_pos (show (none : Option Int).isNone = true by rfl)] at H; exact H
              clear H
              have H := H1
              clear H1
              try simp only [errW_none, errW_some]
              by_cases c30 : t112 = a0
              · rw [if_pos c30] at H
                have c30b0 : (t112 == a0) = true := beq_iff_eq.mpr c30
                have c30b1 : (t112 != a0) = false := bne_eq_false_iff_eq.mpr c30
                clear c30
                (first | rw [c30b0] | (simp only [i64_w, i32_w]; rw [c30b0]) | skip)
                rcases t116 with _ | q128
                · have H1 : (gristmilllaw2_NumBack.j0 k false) = some r := by rw [if_pos (show (none : Option Int).isNone = true by rfl)] at H; exact H
                  clear H
                  have H := H1
                  clear H1
                  try simp only [errW_none, errW_some]
                  have H' := Aside0.mk H
                  clear H
                  go_wp2
                  go_meet
                  case rel => exact ⟨_, (false), (by first | rfl | (simp; done) | (simp [*]; done)), H', ⟨by first | omega | exact Nat.le_refl _⟩, ⟨by repeat (first | (with_reducible first | exact HB.out | apply below_alloc | apply pw_below_drewN | apply below_drew1) | exact HB.out)⟩⟩
                · have H1 : (if t119.isNone = true then (gristmilllaw2_NumBack.j0 k false) else (if t122.isNone = true then (gristmilllaw2_NumBack.j0 k false) else (if t124.isNone = true then (gristmilllaw2_NumBack.j0 k false) else (if t126.isNone = true then (if t125 = (-9223372036854775808) then ((num_Text.f a0).bind fun t133 => ((num_Text.f a1).bind fun t134 => (gristmilllaw2_NumBack.j0 k ((t133.toList == t134.toList) == (a0 == a1))))) else (gristmilllaw2_NumBack.j0 k false)) else (gristmilllaw2_NumBack.j0 k false))))) = some r := by rw [if_neg (show ¬ (some q128).isNone = true by simp)] at H; exact H
                  clear H
                  have H := H1
                  clear H1
                  try simp only [errW_none, errW_some]
                  rcases t119 with _ | q129
                  · have H1 : (gristmilllaw2_NumBack.j0 k false) = some r := by rw [if_pos (show (none : Option Int).isNone = true by rfl)] at H; exact H
                    clear H
                    have H := H1
                    clear H1
                    try simp only [errW_none, errW_some]
                    have H' := Aside0.mk H
                    clear H
                    go_wp2
                    go_meet
                    case rel => exact ⟨_, (false), (by first | rfl | (simp; done) | (simp [*]; done)), H', ⟨by first | omega | exact Nat.le_refl _⟩, ⟨by repeat (first | (with_reducible first | exact HB.out | apply below_alloc | apply pw_below_drewN | apply below_drew1) | exact HB.out)⟩⟩
                  · have H1 : (if t122.isNone = true then (gristmilllaw2_NumBack.j0 k false) else (if t124.isNone = true then (gristmilllaw2_NumBack.j0 k false) else (if t126.isNone = true then (if t125 = (-9223372036854775808) then ((num_Text.f a0).bind fun t133 => ((num_Text.f a1).bind fun t134 => (gristmilllaw2_NumBack.j0 k ((t133.toList == t134.toList) == (a0 == a1))))) else (gristmilllaw2_NumBack.j0 k false)) else (gristmilllaw2_NumBack.j0 k false)))) = some r := by rw [if_neg (show ¬ (some q129).isNone = true by simp)] at H; exact H
                    clear H
                    have H := H1
                    clear H1
                    try simp only [errW_none, errW_some]
                    rcases t122 with _ | q130
                    · have H1 : (gristmilllaw2_NumBack.j0 k false) = some r := by rw [if_pos (show (none : Option Int).isNone = true by rfl)] at H; exact H
                      clear H
                      have H := H1
                      clear H1
                      try simp only [errW_none, errW_some]
                      have H' := Aside0.mk H
                      clear H
                      go_wp2
                      go_meet
                      case rel => exact ⟨_, (false), (by first | rfl | (simp; done) | (simp [*]; done)), H', ⟨by first | omega | exact Nat.le_refl _⟩, ⟨by repeat (first | (with_reducible first | exact HB.out | apply below_alloc | apply pw_below_drewN | apply below_drew1) | exact HB.out)⟩⟩
                    · have H1 : (if t124.isNone = true then (gristmilllaw2_NumBack.j0 k false) else (if t126.isNone = true then (if t125 = (-9223372036854775808) then ((num_Text.f a0).bind fun t133 => ((num_Text.f a1).bind fun t134 => (gristmilllaw2_NumBack.j0 k ((t133.toList == t134.toList) == (a0 == a1))))) else (gristmilllaw2_NumBack.j0 k false)) else (gristmilllaw2_NumBack.j0 k false))) = some r := by rw [if_neg (show ¬ (some q130).isNone = true by simp)] at H; exact H
                      clear H
                      have H := H1
                      clear H1
                      try simp only [errW_none, errW_some]
                      rcases t124 with _ | q131
                      · have H1 : (gristmilllaw2_NumBack.j0 k false) = some r := by rw [if_pos (show (none : Option Int).isNone = true by rfl)] at H; exact H
                        clear H
                        have H := H1
                        clear H1
                        try simp only [errW_none, errW_some]
                        have H' := Aside0.mk H
                        clear H
                        go_wp2
                        go_meet
                        case rel => exact ⟨_, (false), (by first | rfl | (simp; done) | (simp [*]; done)), H', ⟨by first | omega | exact Nat.le_refl _⟩, ⟨by repeat (first | (with_reducible first | exact HB.out | apply below_alloc | apply pw_below_drewN | apply below_drew1) | exact HB.out)⟩⟩
                      · have H1 : (if t126.isNone = true then (if t125 = (-9223372036854775808) then ((num_Text.f a0).bind fun t133 => ((num_Text.f a1).bind fun t134 => (gristmilllaw2_NumBack.j0 k ((t133.toList == t134.toList) == (a0 == a1))))) else (gristmilllaw2_NumBack.j0 k false)) else (gristmilllaw2_NumBack.j0 k false)) = some r := by rw [if_neg (show ¬ (some q131).isNone = true by simp)] at H; exact H
                        clear H
                        have H := H1
                        clear H1
                        try simp only [errW_none, errW_some]
                        rcases t126 with _ | q132
                        · have H1 : (if t125 = (-9223372036854775808) then ((num_Text.f a0).bind fun t133 => ((num_Text.f a1).bind fun t134 => (gristmilllaw2_NumBack.j0 k ((t133.toList == t134.toList) == (a0 == a1))))) else (gristmilllaw2_NumBack.j0 k false)) = some r := by rw [if_pos (show (none : Option Int).isNone = true by rfl)] at H; exact H
                          clear H
                          have H := H1
                          clear H1
                          try simp only [errW_none, errW_some]
                          by_cases c31 : t125 = (-9223372036854775808)
                          · rw [if_pos c31] at H
                            have c31b0 : (t125 == (-9223372036854775808)) = true := beq_iff_eq.mpr c31
                            have c31b1 : (t125 != (-9223372036854775808)) = false := bne_eq_false_iff_eq.mpr c31
                            clear c31
                            replace H := Option.bind_eq_some_iff.mp H
                            obtain ⟨t133, A320, H⟩ := H
                            replace H : ((num_Text.f a1).bind fun t134 => (gristmilllaw2_NumBack.j0 k ((t133.toList == t134.toList) == (a0 == a1)))) = some r := H
                            have A32 := Aside0.mk A320
                            clear A320
                            replace H := Option.bind_eq_some_iff.mp H
                            obtain ⟨t134, A330, H⟩ := H
                            replace H : (gristmilllaw2_NumBack.j0 k ((t133.toList == t134.toList) == (a0 == a1))) = some r := H
                            have A33 := Aside0.mk A330
                            clear A330
                            have H' := Aside0.mk H
                            clear H
                            go_wp2_with (first | (go_at_call 15; (with_reducible refine (num_Text.calls (ad := ad) a0 t133 _ ?side1 A32.out).mono ?_); (case side1 => exact GG.below hGG (by repeat (first | (with_reducible first | exact HB.out | apply below_alloc | apply pw_below_drewN | apply below_drew1) | exact HB.out))); rintro e w34 ⟨rfl, hb⟩; have n0_ := Aside0.mk (below_step (by repeat (first | (with_reducible first | exact HB.out | apply below_alloc | apply pw_below_drewN | apply below_drew1) | exact HB.out)) hb); clear HB; have HB := n0_; clear n0_; (try clear hb); (try clear hb2); (try clear hk); (try clear hi)) | (go_at_call 15; (with_reducible refine (num_Text.calls (ad := ad) a1 t134 _ ?side1 A33.out).mono ?_); (case side1 => exact GG.below hGG (by repeat (first | (with_reducible first | exact HB.out | apply below_alloc | apply pw_below_drewN | apply below_drew1) | exact HB.out))); rintro e w35 ⟨rfl, hb⟩; have n0_ := Aside0.mk (below_step (by repeat (first | (with_reducible first | exact HB.out | apply below_alloc | apply pw_below_drewN | apply below_drew1) | exact HB.out)) hb); clear HB; have HB := n0_; clear n0_; (try clear hb); (try clear hb2); (try clear hk); (try clear hi)))
                            go_meet
                            case rel => exact ⟨_, (((t133.toList == t134.toList) == (a0 == a1))), (by first | rfl | (simp; done) | (simp [*]; done)), H', ⟨by first | omega | exact Nat.le_refl _⟩, ⟨by repeat (first | (with_reducible first | exact HB.out | apply below_alloc | apply pw_below_drewN | apply below_drew1) | exact HB.out)⟩⟩
                          · rw [if_neg c31] at H
                            have c31b0 : (t125 == (-9223372036854775808)) = false := beq_eq_false_iff_ne.mpr c31
                            have c31b1 : (t125 != (-9223372036854775808)) = true := bne_iff_ne.mpr c31
                            have H' := Aside0.mk H
                            clear H
                            go_wp2
                            go_meet
                            case rel => exact ⟨_, (false), (by first | rfl | (simp; done) | (simp [*]; done)), H', ⟨by first | omega | exact Nat.le_refl _⟩, ⟨by repeat (first | (with_reducible first | exact HB.out | apply below_alloc | apply pw_below_drewN | apply below_drew1) | exact HB.out)⟩⟩
                        · have H1 : (gristmilllaw2_NumBack.j0 k false) = some r := by rw [if_neg (show ¬ (some q132).isNone = true by simp)] at H; exact H
                          clear H
                          have H := H1
                          clear H1
                          try simp only [errW_none, errW_some]
                          have H' := Aside0.mk H
                          clear H
                          go_wp2
                          go_meet
                          case rel => exact ⟨_, (false), (by first | rfl | (simp; done) | (simp [*]; done)), H', ⟨by first | omega | exact Nat.le_refl _⟩, ⟨by repeat (first | (with_reducible first | exact HB.out | apply below_alloc | apply pw_below_drewN | apply below_drew1) | exact HB.out)⟩⟩
              · rw [if_neg c30] at H
                have c30b0 : (t112 == a0) = false := beq_eq_false_iff_ne.mpr c30
                have c30b1 : (t112 != a0) = true := bne_iff_ne.mpr c30
                (first | rw [c30b0] | (simp only [i64_w, i32_w]; rw [c30b0]) | skip)
                have H' := Aside0.mk H
                clear H
                go_wp2
                go_meet
                case rel => exact ⟨_, (false), (by first | rfl | (simp; done) | (simp [*]; done)), H', ⟨by first | omega | exact Nat.le_refl _⟩, ⟨by repeat (first | (with_reducible first | exact HB.out | apply below_alloc | apply pw_below_drewN | apply below_drew1) | exact HB.out)⟩⟩
            · have H1 : (gristmilllaw2_NumBack.j0 k false) = some r := by rw [if_neg (show ¬ (some q127).isNone = true by simp)] at H; exact H
              clear H
              have H := H1
              clear H1
              try simp only [errW_none, errW_some]
              have H' := Aside0.mk H
              clear H
              go_wp2
              go_meet
              case rel => exact ⟨_, (false), (by first | rfl | (simp; done) | (simp [*]; done)), H', ⟨by first | omega | exact Nat.le_refl _⟩, ⟨by repeat (first | (with_reducible first | exact HB.out | apply below_alloc | apply pw_below_drewN | apply below_drew1) | exact HB.out)⟩⟩
          case rest =>
            clear HC18
            try clear c1
            try clear q1
            try clear p2
            try clear c3
            try clear c4
            try clear c6
            try clear c8
            try clear c8b0
            try clear c8b1
            try clear c8b2
            try clear c11
            try clear c11b0
            try clear c11b1
            try clear c11b2
            try clear q12
            try clear q13
            try clear c14
            try clear c14b0
            try clear c14b1
            try clear c14b2
            try clear c15
            try clear c30
            try clear c30b0
            try clear c30b1
            try clear c31
            try clear c31b0
            try clear c31b1
            try clear q127
            try clear q128
            try clear q129
            try clear q130
            try clear q131
            try clear q132
            obtain ⟨kq, x4_17, rfl, HA, HJ17, HB⟩ := hcut
            cases kq with
            | zero => exact absurd HA.out (by simp [gristmilllaw2_NumBack.j0])
            | succ kj17 =>
              have H := HA.out
              clear HA
              simp only [gristmilllaw2_NumBack.j0] at H
              obtain rfl := Option.some.inj H
              go_wp2
              go_ret
              exact ⟨by first | rfl | (simp [errW_none, errW_some] <;> rfl) | (simp [*, errW_none, errW_some] <;> rfl) | (simp [errW_none, errW_some] <;> (rw [Bool.eq_iff_iff]; simp; done)), by repeat (first | (with_reducible first | exact HB.out | apply below_alloc | apply pw_below_drewN | apply below_drew1) | exact HB.out)⟩
        · rw [if_neg c14] at H
          exact absurd H (by simp)
      · rw [if_neg c11] at H
        exact absurd H (by simp)
    · rw [if_neg c8] at H
      exact absurd H (by simp)
  · replace c4 := Bool.eq_false_iff.mpr c4
    subst c4
    have H1 : (some false) = some r := by rw [if_neg (show ¬ (false = true) by decide)] at H; exact H
    clear H
    have H := H1
    clear H1
    obtain rfl := Option.some.inj H
    go_enter Tryd.func6, Tryd.ntmps6
    go_wp2_with (first | ((with_reducible refine gate_callee (f := 8) rfl ?_); refine goesL_ (some 18) rfl rfl Tryd.func8 (by kernel_rfl) rfl #[] rfl (by (try simp only [List.map_toArray, List.map_cons, List.map_nil]); first | done | rfl | (simp only [List.length_drop, List.length_take]; rfl)) ?_; (with_reducible refine (gristmilllaw2_first.calls (ad := ad) k  false _ ?side1 A3.out).mono ?_); (case side1 => exact GG.below hGG (by repeat (first | (with_reducible first | exact HB.out | apply below_alloc | apply pw_below_drewN | apply below_drew1) | exact HB.out))); rintro e w36 ⟨rfl, hb⟩; refine ⟨_, rfl, ?_⟩; have n0_ := Aside0.mk (below_step (by repeat (first | (with_reducible first | exact HB.out | apply below_alloc | apply pw_below_drewN | apply below_drew1) | exact HB.out)) hb); clear HB; have HB := n0_; clear n0_; (try clear hb); (try clear hb2); (try clear hk); (try clear hi)))
    go_ret
    exact ⟨by first | rfl | (simp [errW_none, errW_some] <;> rfl) | (simp [*, errW_none, errW_some] <;> rfl) | (simp [errW_none, errW_some] <;> (rw [Bool.eq_iff_iff]; simp; done)), by repeat (first | (with_reducible first | exact HB.out | apply below_alloc | apply pw_below_drewN | apply below_drew1) | exact HB.out)⟩

/-- THE ONE PURE STATEMENT of gristmilllaw2_NumBack: yours. -/
def gristmilllaw2_NumBack.Pure : Prop := ∀ (a0 : Int) (a1 : Int), (Lit.int .i64 a0).wf = true → (Lit.int .i64 a1).wf = true → ∃ k, gristmilllaw2_NumBack.f k a0 a1 = some true
theorem gristmilllaw2_NumBack.walk (P : gristmilllaw2_NumBack.Pure) (a0 : Int) (a1 : Int) (w : World) (w0 : (Lit.int .i64 a0).wf = true) (w1 : (Lit.int .i64 a1).wf = true) (hGG : GG ad w) :
    Calls Tryd.prog 6 #[.int .i64 a0, .int .i64 a1] w fun e w' => e = .returned (.bool true) ∧ Below w.heap.size w w' := by
  obtain ⟨k, h⟩ := P a0 a1 w0 w1
  refine (gristmilllaw2_NumBack.calls k a0 a1 true w hGG h).mono ?_
  rintro e w' ⟨rfl, hd⟩
  exact ⟨rfl, hd⟩

end Go.Proofs.YtkikfkhonjobcaaDoor.PNumB
