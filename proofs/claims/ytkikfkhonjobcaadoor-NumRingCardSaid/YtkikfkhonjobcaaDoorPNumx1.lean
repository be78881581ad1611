/- For each Go function that the laws of this group reach: a plain function with the same answers, and the proof that the call comes to them wherever the plain function has an answer. No other condition. (Laid by a program of this session.) -/
import Derived.Test.YtkikfkhonjobcaaDoorPNumx0
import Derived.Test.YtkikfkhonjobcaaDoorExt
namespace Go.Proofs.YtkikfkhonjobcaaDoor.PNum
open Go.RowKit Go.Proofs.YtkikfkhonjobcaaDoorW.PrintWords Go.Proofs.YtkikfkhonjobcaaDoorW.PrintLast Go.Proofs.YtkikfkhonjobcaaDoorW.PrintMore
attribute [local go_sem] max2_int min2_int max_two min_two max_three min_three max_four min_four   -- for this text's walks alone
set_option linter.unusedVariables false
set_option linter.unusedSimpArgs false

/-! ### num_one: function 24 -/
def num_one.f (a0 : Bool) : Option (Int) := if a0 = true then (some 1) else (some 0)
set_option maxHeartbeats 8000000 in
set_option maxRecDepth 100000 in
theorem num_one.calls (a0 : Bool) (r : Int) (w : World) (h : num_one.f a0 = some r) :
    Calls Tryd.prog 24 #[.bool a0] w fun e w' => e = .returned (.int .i64 r) ∧ Drawn0 w w' := by
  have H : (if a0 = true then (some 1) else (some 0)) = some r := h
  clear h
  by_cases c2 : a0 = true
  · subst c2
    have H1 : (some 1) = some r := by rw [if_pos rfl] at H; exact H
    clear H
    have H := H1
    clear H1
    obtain rfl := Option.some.inj H
    go_enter Tryd.func24, Tryd.ntmps24
    go_wp2
    go_ret
    exact ⟨by first | rfl | (simp; done) | (simp [*]; done), by repeat (first | exact Drawn0.refl _ | apply Drawn0.step)⟩
  · replace c2 := Bool.eq_false_iff.mpr c2
    subst c2
    have H1 : (some 0) = some r := by rw [if_neg (show ¬ (false = true) by decide)] at H; exact H
    clear H
    have H := H1
    clear H1
    obtain rfl := Option.some.inj H
    go_enter Tryd.func24, Tryd.ntmps24
    go_wp2
    go_ret
    exact ⟨by first | rfl | (simp; done) | (simp [*]; done), by repeat (first | exact Drawn0.refl _ | apply Drawn0.step)⟩

/-! ### num_Do: function 9 -/
def num_Do.f (a0 : ByteArray) (a1 : Int) (a2 : Int) : Option (Int × Int × Bool) := if a0.toList = ([43] : List UInt8) then (some (wrap64 (a1 + a2), 0, true)) else (if a0.toList = ([45] : List UInt8) then (some (wrap64 (a1 - a2), 0, true)) else (if a0.toList = ([42] : List UInt8) then (some (wrap64 (a1 * a2), 0, true)) else (if a0.toList = ([60] : List UInt8) then ((num_one.f (decide (a1 < a2))).bind fun t101 => (some (t101, 0, true))) else (if a0.toList = ([61] : List UInt8) then ((num_one.f (a1 == a2)).bind fun t102 => (some (t102, 0, true))) else (if a0.toList = ([100, 105, 118] : List UInt8) then ((num_divide.f a0 a1 a2).bind fun bt103 => (some (bt103.1, bt103.2.1, bt103.2.2))) else (if a0.toList = ([109, 111, 100] : List UInt8) then ((num_divide.f a0 a1 a2).bind fun bt106 => (some (bt106.1, bt106.2.1, bt106.2.2))) else (some (0, 0, false))))))))
set_option maxHeartbeats 8000000 in
set_option maxRecDepth 100000 in
theorem num_Do.calls (a0 : ByteArray) (a1 : Int) (a2 : Int) (r1 : Int) (r2 : Int) (r3 : Bool) (w : World) (h : num_Do.f a0 a1 a2 = some (r1, r2, r3)) :
    Calls Tryd.prog 9 #[.string a0, .int .i64 a1, .int .i64 a2] w fun e w' => e = .returned (.tuple #[.int .i64 r1, .int .i64 r2, .bool r3]) ∧ Below w.heap.size w w' := by
  have HB := Aside0.mk (Below.refl w.heap.size w)
  have H : (if a0.toList = ([43] : List UInt8) then (some (wrap64 (a1 + a2), 0, true)) else (if a0.toList = ([45] : List UInt8) then (some (wrap64 (a1 - a2), 0, true)) else (if a0.toList = ([42] : List UInt8) then (some (wrap64 (a1 * a2), 0, true)) else (if a0.toList = ([60] : List UInt8) then ((num_one.f (decide (a1 < a2))).bind fun t101 => (some (t101, 0, true))) else (if a0.toList = ([61] : List UInt8) then ((num_one.f (a1 == a2)).bind fun t102 => (some (t102, 0, true))) else (if a0.toList = ([100, 105, 118] : List UInt8) then ((num_divide.f a0 a1 a2).bind fun bt103 => (some (bt103.1, bt103.2.1, bt103.2.2))) else (if a0.toList = ([109, 111, 100] : List UInt8) then ((num_divide.f a0 a1 a2).bind fun bt106 => (some (bt106.1, bt106.2.1, bt106.2.2))) else (some (0, 0, false))))))))) = some (r1, r2, r3) := h
  clear h
  by_cases c4 : a0.toList = ([43] : List UInt8)
  · rw [if_pos c4] at H
    have c4b0 : (a0.toList == ([43] : List UInt8)) = true := beq_iff_eq.mpr c4
    have c4b1 : (a0.toList != ([43] : List UInt8)) = false := bne_eq_false_iff_eq.mpr c4
    clear c4
    simp only [Option.some.injEq, Prod.mk.injEq] at H
    obtain ⟨rfl, rfl, rfl⟩ := H
    go_enter Tryd.func9, Tryd.ntmps9
    go_wp2
    go_ret3
    exact ⟨by first | rfl | (simp [errW_none, errW_some] <;> rfl) | (simp [*, errW_none, errW_some] <;> rfl), by repeat (first | (with_reducible first | exact HB.out | apply below_alloc | apply pw_below_drewN | apply below_drew1) | exact HB.out)⟩
  · rw [if_neg c4] at H
    have c4b0 : (a0.toList == ([43] : List UInt8)) = false := beq_eq_false_iff_ne.mpr c4
    have c4b1 : (a0.toList != ([43] : List UInt8)) = true := bne_iff_ne.mpr c4
    by_cases c5 : a0.toList = ([45] : List UInt8)
    · rw [if_pos c5] at H
      have c5b0 : (a0.toList == ([45] : List UInt8)) = true := beq_iff_eq.mpr c5
      have c5b1 : (a0.toList != ([45] : List UInt8)) = false := bne_eq_false_iff_eq.mpr c5
      clear c5
      simp only [Option.some.injEq, Prod.mk.injEq] at H
      obtain ⟨rfl, rfl, rfl⟩ := H
      go_enter Tryd.func9, Tryd.ntmps9
      go_wp2
      go_ret3
      exact ⟨by first | rfl | (simp [errW_none, errW_some] <;> rfl) | (simp [*, errW_none, errW_some] <;> rfl), by repeat (first | (with_reducible first | exact HB.out | apply below_alloc | apply pw_below_drewN | apply below_drew1) | exact HB.out)⟩
    · rw [if_neg c5] at H
      have c5b0 : (a0.toList == ([45] : List UInt8)) = false := beq_eq_false_iff_ne.mpr c5
      have c5b1 : (a0.toList != ([45] : List UInt8)) = true := bne_iff_ne.mpr c5
      by_cases c6 : a0.toList = ([42] : List UInt8)
      · rw [if_pos c6] at H
        have c6b0 : (a0.toList == ([42] : List UInt8)) = true := beq_iff_eq.mpr c6
        have c6b1 : (a0.toList != ([42] : List UInt8)) = false := bne_eq_false_iff_eq.mpr c6
        clear c6
        simp only [Option.some.injEq, Prod.mk.injEq] at H
        obtain ⟨rfl, rfl, rfl⟩ := H
        go_enter Tryd.func9, Tryd.ntmps9
        go_wp2
        go_ret3
        exact ⟨by first | rfl | (simp [errW_none, errW_some] <;> rfl) | (simp [*, errW_none, errW_some] <;> rfl), by repeat (first | (with_reducible first | exact HB.out | apply below_alloc | apply pw_below_drewN | apply below_drew1) | exact HB.out)⟩
      · rw [if_neg c6] at H
        have c6b0 : (a0.toList == ([42] : List UInt8)) = false := beq_eq_false_iff_ne.mpr c6
        have c6b1 : (a0.toList != ([42] : List UInt8)) = true := bne_iff_ne.mpr c6
        by_cases c7 : a0.toList = ([60] : List UInt8)
        · rw [if_pos c7] at H
          have c7b0 : (a0.toList == ([60] : List UInt8)) = true := beq_iff_eq.mpr c7
          have c7b1 : (a0.toList != ([60] : List UInt8)) = false := bne_eq_false_iff_eq.mpr c7
          clear c7
          replace H := Option.bind_eq_some_iff.mp H
          obtain ⟨t101, A80, H⟩ := H
          replace H : (some (t101, 0, true)) = some (r1, r2, r3) := H
          have A8 := Aside0.mk A80
          clear A80
          simp only [Option.some.injEq, Prod.mk.injEq] at H
          obtain ⟨rfl, rfl, rfl⟩ := H
          go_enter Tryd.func9, Tryd.ntmps9
          go_wp2_with (first | ((with_reducible refine gate_callee (f := 24) rfl ?_); refine goesL_ (some 30) rfl rfl Tryd.func24 (by kernel_rfl) rfl #[.bool (decide (a1 < a2))] rfl (by (try simp only [List.map_toArray, List.map_cons, List.map_nil]); first | done | rfl | (simp only [List.length_drop, List.length_take]; rfl)) ?_; (with_reducible refine (num_one.calls (decide (a1 < a2)) t101 _ A8.out).mono ?_); rintro e w' ⟨rfl, ⟨nd, rfl⟩⟩; refine ⟨_, rfl, ?_⟩))
          go_ret3
          exact ⟨by first | rfl | (simp [errW_none, errW_some] <;> rfl) | (simp [*, errW_none, errW_some] <;> rfl), by repeat (first | (with_reducible first | exact HB.out | apply below_alloc | apply pw_below_drewN | apply below_drew1) | exact HB.out)⟩
        · rw [if_neg c7] at H
          have c7b0 : (a0.toList == ([60] : List UInt8)) = false := beq_eq_false_iff_ne.mpr c7
          have c7b1 : (a0.toList != ([60] : List UInt8)) = true := bne_iff_ne.mpr c7
          by_cases c9 : a0.toList = ([61] : List UInt8)
          · rw [if_pos c9] at H
            have c9b0 : (a0.toList == ([61] : List UInt8)) = true := beq_iff_eq.mpr c9
            have c9b1 : (a0.toList != ([61] : List UInt8)) = false := bne_eq_false_iff_eq.mpr c9
            clear c9
            replace H := Option.bind_eq_some_iff.mp H
            obtain ⟨t102, A100, H⟩ := H
            replace H : (some (t102, 0, true)) = some (r1, r2, r3) := H
            have A10 := Aside0.mk A100
            clear A100
            simp only [Option.some.injEq, Prod.mk.injEq] at H
            obtain ⟨rfl, rfl, rfl⟩ := H
            go_enter Tryd.func9, Tryd.ntmps9
            go_wp2_with (first | ((with_reducible refine gate_callee (f := 24) rfl ?_); refine goesL_ (some 36) rfl rfl Tryd.func24 (by kernel_rfl) rfl #[.bool (a1 == a2)] rfl (by (try simp only [List.map_toArray, List.map_cons, List.map_nil]); first | done | rfl | (simp only [List.length_drop, List.length_take]; rfl)) ?_; (with_reducible refine (num_one.calls (a1 == a2) t102 _ A10.out).mono ?_); rintro e w' ⟨rfl, ⟨nd, rfl⟩⟩; refine ⟨_, rfl, ?_⟩))
            go_ret3
            exact ⟨by first | rfl | (simp [errW_none, errW_some] <;> rfl) | (simp [*, errW_none, errW_some] <;> rfl), by repeat (first | (with_reducible first | exact HB.out | apply below_alloc | apply pw_below_drewN | apply below_drew1) | exact HB.out)⟩
          · rw [if_neg c9] at H
            have c9b0 : (a0.toList == ([61] : List UInt8)) = false := beq_eq_false_iff_ne.mpr c9
            have c9b1 : (a0.toList != ([61] : List UInt8)) = true := bne_iff_ne.mpr c9
            by_cases c11 : a0.toList = ([100, 105, 118] : List UInt8)
            · rw [if_pos c11] at H
              have c11b0 : (a0.toList == ([100, 105, 118] : List UInt8)) = true := beq_iff_eq.mpr c11
              have c11b1 : (a0.toList != ([100, 105, 118] : List UInt8)) = false := bne_eq_false_iff_eq.mpr c11
              clear c11
              replace H := Option.bind_eq_some_iff.mp H
              obtain ⟨⟨t103, t104, t105⟩, A120, H⟩ := H
              replace H : (some (t103, t104, t105)) = some (r1, r2, r3) := H
              have A12 := Aside0.mk A120
              clear A120
              simp only [Option.some.injEq, Prod.mk.injEq] at H
              obtain ⟨rfl, rfl, rfl⟩ := H
              go_enter Tryd.func9, Tryd.ntmps9
              go_wp2_with (first | ((with_reducible refine gate_callee (f := 25) rfl ?_); refine goesL_ (some 43) rfl rfl Tryd.func25 (by kernel_rfl) rfl #[.string a0, .int .i64 a1, .int .i64 a2] rfl (by (try simp only [List.map_toArray, List.map_cons, List.map_nil]); first | done | rfl | (simp only [List.length_drop, List.length_take]; rfl)) ?_; (with_reducible refine (num_divide.calls a0 a1 a2 t103 t104 t105 _ A12.out).mono ?_); rintro e w13 ⟨rfl, hb⟩; refine ⟨_, rfl, ?_⟩; have n0_ := Aside0.mk (below_step (by repeat (first | (with_reducible first | exact HB.out | apply below_alloc | apply pw_below_drewN | apply below_drew1) | exact HB.out)) hb); clear HB; have HB := n0_; clear n0_; (try clear hb); (try clear hb2); (try clear hk); (try clear hi)))
              go_ret3
              exact ⟨by first | rfl | (simp [errW_none, errW_some] <;> rfl) | (simp [*, errW_none, errW_some] <;> rfl), by repeat (first | (with_reducible first | exact HB.out | apply below_alloc | apply pw_below_drewN | apply below_drew1) | exact HB.out)⟩
            · rw [if_neg c11] at H
              have c11b0 : (a0.toList == ([100, 105, 118] : List UInt8)) = false := beq_eq_false_iff_ne.mpr c11
              have c11b1 : (a0.toList != ([100, 105, 118] : List UInt8)) = true := bne_iff_ne.mpr c11
              by_cases c14 : a0.toList = ([109, 111, 100] : List UInt8)
              · rw [if_pos c14] at H
                have c14b0 : (a0.toList == ([109, 111, 100] : List UInt8)) = true := beq_iff_eq.mpr c14
                have c14b1 : (a0.toList != ([109, 111, 100] : List UInt8)) = false := bne_eq_false_iff_eq.mpr c14
                clear c14
                replace H := Option.bind_eq_some_iff.mp H
                obtain ⟨⟨t106, t107, t108⟩, A150, H⟩ := H
                replace H : (some (t106, t107, t108)) = some (r1, r2, r3) := H
                have A15 := Aside0.mk A150
                clear A150
                simp only [Option.some.injEq, Prod.mk.injEq] at H
                obtain ⟨rfl, rfl, rfl⟩ := H
                go_enter Tryd.func9, Tryd.ntmps9
                go_wp2_with (first | ((with_reducible refine gate_callee (f := 25) rfl ?_); refine goesL_ (some 43) rfl rfl Tryd.func25 (by kernel_rfl) rfl #[.string a0, .int .i64 a1, .int .i64 a2] rfl (by (try simp only [List.map_toArray, List.map_cons, List.map_nil]); first | done | rfl | (simp only [List.length_drop, List.length_take]; rfl)) ?_; (with_reducible refine (num_divide.calls a0 a1 a2 t106 t107 t108 _ A15.out).mono ?_); rintro e w16 ⟨rfl, hb⟩; refine ⟨_, rfl, ?_⟩; have n0_ := Aside0.mk (below_step (by repeat (first | (with_reducible first | exact HB.out | apply below_alloc | apply pw_below_drewN | apply below_drew1) | exact HB.out)) hb); clear HB; have HB := n0_; clear n0_; (try clear hb); (try clear hb2); (try clear hk); (try clear hi)))
                go_ret3
                exact ⟨by first | rfl | (simp [errW_none, errW_some] <;> rfl) | (simp [*, errW_none, errW_some] <;> rfl), by repeat (first | (with_reducible first | exact HB.out | apply below_alloc | apply pw_below_drewN | apply below_drew1) | exact HB.out)⟩
              · rw [if_neg c14] at H
                have c14b0 : (a0.toList == ([109, 111, 100] : List UInt8)) = false := beq_eq_false_iff_ne.mpr c14
                have c14b1 : (a0.toList != ([109, 111, 100] : List UInt8)) = true := bne_iff_ne.mpr c14
                simp only [Option.some.injEq, Prod.mk.injEq] at H
                obtain ⟨rfl, rfl, rfl⟩ := H
                go_enter Tryd.func9, Tryd.ntmps9
                go_wp2
                go_ret3
                exact ⟨by first | rfl | (simp [errW_none, errW_some] <;> rfl) | (simp [*, errW_none, errW_some] <;> rfl), by repeat (first | (with_reducible first | exact HB.out | apply below_alloc | apply pw_below_drewN | apply below_drew1) | exact HB.out)⟩

/-! ### num_Text: function 15 -/
def num_Text.f (a0 : Int) : Option (ByteArray) := (strconv_FormatInt.f a0 10).bind fun t109 => (some t109)
set_option maxHeartbeats 8000000 in
set_option maxRecDepth 100000 in
theorem num_Text.calls (a0 : Int) (r : ByteArray) (w : World) (hGG : GG w) (h : num_Text.f a0 = some r) :
    Calls Tryd.prog 15 #[.int .i64 a0] w fun e w' => e = .returned (.string r) ∧ Below w.heap.size w w' := by
  have HB := Aside0.mk (Below.refl w.heap.size w)
  have H : ((strconv_FormatInt.f a0 10).bind fun t109 => (some t109)) = some r := h
  clear h
  replace H := Option.bind_eq_some_iff.mp H
  obtain ⟨t109, A20, H⟩ := H
  replace H : (some t109) = some r := H
  have A2 := Aside0.mk A20
  clear A20
  obtain rfl := Option.some.inj H
  go_enter Tryd.func15, Tryd.ntmps15
  go_wp2_with (first | ((with_reducible refine gate_callee (f := 29) rfl ?_); refine goesL_ (some 4) rfl rfl Tryd.func29 (by kernel_rfl) rfl #[.int .i64 a0, .int .i64 10] rfl (by (try simp only [List.map_toArray, List.map_cons, List.map_nil]); first | done | rfl | (simp only [List.length_drop, List.length_take]; rfl)) ?_; (with_reducible refine (strconv_FormatInt.calls a0 10 t109 _ ?side1 A2.out).mono ?_); (case side1 => exact GG.below hGG (by repeat (first | (with_reducible first | exact HB.out | apply below_alloc | apply pw_below_drewN | apply below_drew1) | exact HB.out))); rintro e w3 ⟨rfl, hb⟩; refine ⟨_, rfl, ?_⟩; have n0_ := Aside0.mk (below_step (by repeat (first | (with_reducible first | exact HB.out | apply below_alloc | apply pw_below_drewN | apply below_drew1) | exact HB.out)) hb); clear HB; have HB := n0_; clear n0_; (try clear hb); (try clear hb2); (try clear hk); (try clear hi)))
  go_ret
  exact ⟨by first | rfl | (simp [errW_none, errW_some] <;> rfl) | (simp [*, errW_none, errW_some] <;> rfl), by repeat (first | (with_reducible first | exact HB.out | apply below_alloc | apply pw_below_drewN | apply below_drew1) | exact HB.out)⟩

/-! ### gristmilllaw2_first: function 8 -/
def gristmilllaw2_first.f  : Option (Bool) := (num_Do.f (⟨#[100, 105, 118]⟩ : ByteArray) 1 0).bind fun bt110 => (if bt110.2.2 = true then (if bt110.1 = 0 then (if bt110.2.1 = (-2) then ((num_Text.f (-5)).bind fun t113 => (some (t113.toList == ([45, 53] : List UInt8)))) else (some false)) else (some false)) else (some false))
set_option maxHeartbeats 8000000 in
set_option maxRecDepth 100000 in
theorem gristmilllaw2_first.calls  (r : Bool) (w : World) (hGG : GG w) (h : gristmilllaw2_first.f  = some r) :
    Calls Tryd.prog 8 #[] w fun e w' => e = .returned (.bool r) ∧ Below w.heap.size w w' := by
  have HB := Aside0.mk (Below.refl w.heap.size w)
  have H : ((num_Do.f (⟨#[100, 105, 118]⟩ : ByteArray) 1 0).bind fun bt110 => (if bt110.2.2 = true then (if bt110.1 = 0 then (if bt110.2.1 = (-2) then ((num_Text.f (-5)).bind fun t113 => (some (t113.toList == ([45, 53] : List UInt8)))) else (some false)) else (some false)) else (some false))) = some r := h
  clear h
  replace H := Option.bind_eq_some_iff.mp H
  obtain ⟨⟨t110, t111, t112⟩, A10, H⟩ := H
  replace H : (if t112 = true then (if t110 = 0 then (if t111 = (-2) then ((num_Text.f (-5)).bind fun t113 => (some (t113.toList == ([45, 53] : List UInt8)))) else (some false)) else (some false)) else (some false)) = some r := H
  have A1 := Aside0.mk A10
  clear A10
  by_cases c2 : t112 = true
  · subst c2
    have H1 : (if t110 = 0 then (if t111 = (-2) then ((num_Text.f (-5)).bind fun t113 => (some (t113.toList == ([45, 53] : List UInt8)))) else (some false)) else (some false)) = some r := by rw [if_pos rfl] at H; exact H
    clear H
    have H := H1
    clear H1
    by_cases c3 : t110 = 0
    · rw [if_pos c3] at H
      have c3b0 : (t110 == 0) = true := beq_iff_eq.mpr c3
      have c3b1 : (t110 != 0) = false := bne_eq_false_iff_eq.mpr c3
      clear c3
      by_cases c4 : t111 = (-2)
      · rw [if_pos c4] at H
        have c4b0 : (t111 == (-2)) = true := beq_iff_eq.mpr c4
        have c4b1 : (t111 != (-2)) = false := bne_eq_false_iff_eq.mpr c4
        clear c4
        replace H := Option.bind_eq_some_iff.mp H
        obtain ⟨t113, A50, H⟩ := H
        replace H : (some (t113.toList == ([45, 53] : List UInt8))) = some r := H
        have A5 := Aside0.mk A50
        clear A50
        obtain rfl := Option.some.inj H
        go_enter Tryd.func8, Tryd.ntmps8
        go_wp2_with (first | ((with_reducible refine gate_callee (f := 9) rfl ?_); refine goesL_ (some 5) rfl rfl Tryd.func9 (by kernel_rfl) rfl #[.string (⟨#[100, 105, 118]⟩ : ByteArray), .int .i64 1, .int .i64 0] rfl (by (try simp only [List.map_toArray, List.map_cons, List.map_nil]); first | done | rfl | (simp only [List.length_drop, List.length_take]; rfl)) ?_; (with_reducible refine (num_Do.calls (⟨#[100, 105, 118]⟩ : ByteArray) 1 0 t110 t111 true _ A1.out).mono ?_); rintro e w6 ⟨rfl, hb⟩; refine ⟨_, rfl, ?_⟩; have n0_ := Aside0.mk (below_step (by repeat (first | (with_reducible first | exact HB.out | apply below_alloc | apply pw_below_drewN | apply below_drew1) | exact HB.out)) hb); clear HB; have HB := n0_; clear n0_; (try clear hb); (try clear hb2); (try clear hk); (try clear hi)) | (go_at_call 15; (with_reducible refine (num_Text.calls (-5) t113 _ ?side1 A5.out).mono ?_); (case side1 => exact GG.below hGG (by repeat (first | (with_reducible first | exact HB.out | apply below_alloc | apply pw_below_drewN | apply below_drew1) | exact HB.out))); rintro e w7 ⟨rfl, hb⟩; have n0_ := Aside0.mk (below_step (by repeat (first | (with_reducible first | exact HB.out | apply below_alloc | apply pw_below_drewN | apply below_drew1) | exact HB.out)) hb); clear HB; have HB := n0_; clear n0_; (try clear hb); (try clear hb2); (try clear hk); (try clear hi)))
        go_ret
        exact ⟨by first | rfl | (simp [errW_none, errW_some] <;> rfl) | (simp [*, errW_none, errW_some] <;> rfl), by repeat (first | (with_reducible first | exact HB.out | apply below_alloc | apply pw_below_drewN | apply below_drew1) | exact HB.out)⟩
      · rw [if_neg c4] at H
        have c4b0 : (t111 == (-2)) = false := beq_eq_false_iff_ne.mpr c4
        have c4b1 : (t111 != (-2)) = true := bne_iff_ne.mpr c4
        obtain rfl := Option.some.inj H
        go_enter Tryd.func8, Tryd.ntmps8
        go_wp2_with (first | ((with_reducible refine gate_callee (f := 9) rfl ?_); refine goesL_ (some 5) rfl rfl Tryd.func9 (by kernel_rfl) rfl #[.string (⟨#[100, 105, 118]⟩ : ByteArray), .int .i64 1, .int .i64 0] rfl (by (try simp only [List.map_toArray, List.map_cons, List.map_nil]); first | done | rfl | (simp only [List.length_drop, List.length_take]; rfl)) ?_; (with_reducible refine (num_Do.calls (⟨#[100, 105, 118]⟩ : ByteArray) 1 0 t110 t111 true _ A1.out).mono ?_); rintro e w8 ⟨rfl, hb⟩; refine ⟨_, rfl, ?_⟩; have n0_ := Aside0.mk (below_step (by repeat (first | (with_reducible first | exact HB.out | apply below_alloc | apply pw_below_drewN | apply below_drew1) | exact HB.out)) hb); clear HB; have HB := n0_; clear n0_; (try clear hb); (try clear hb2); (try clear hk); (try clear hi)))
        go_ret
        exact ⟨by first | rfl | (simp [errW_none, errW_some] <;> rfl) | (simp [*, errW_none, errW_some] <;> rfl), by repeat (first | (with_reducible first | exact HB.out | apply below_alloc | apply pw_below_drewN | apply below_drew1) | exact HB.out)⟩
    · rw [if_neg c3] at H
      have c3b0 : (t110 == 0) = false := beq_eq_false_iff_ne.mpr c3
      have c3b1 : (t110 != 0) = true := bne_iff_ne.mpr c3
      obtain rfl := Option.some.inj H
      go_enter Tryd.func8, Tryd.ntmps8
      go_wp2_with (first | ((with_reducible refine gate_callee (f := 9) rfl ?_); refine goesL_ (some 5) rfl rfl Tryd.func9 (by kernel_rfl) rfl #[.string (⟨#[100, 105, 118]⟩ : ByteArray), .int .i64 1, .int .i64 0] rfl (by (try simp only [List.map_toArray, List.map_cons, List.map_nil]); first | done | rfl | (simp only [List.length_drop, List.length_take]; rfl)) ?_; (with_reducible refine (num_Do.calls (⟨#[100, 105, 118]⟩ : ByteArray) 1 0 t110 t111 true _ A1.out).mono ?_); rintro e w9 ⟨rfl, hb⟩; refine ⟨_, rfl, ?_⟩; have n0_ := Aside0.mk (below_step (by repeat (first | (with_reducible first | exact HB.out | apply below_alloc | apply pw_below_drewN | apply below_drew1) | exact HB.out)) hb); clear HB; have HB := n0_; clear n0_; (try clear hb); (try clear hb2); (try clear hk); (try clear hi)))
      go_ret
      exact ⟨by first | rfl | (simp [errW_none, errW_some] <;> rfl) | (simp [*, errW_none, errW_some] <;> rfl), by repeat (first | (with_reducible first | exact HB.out | apply below_alloc | apply pw_below_drewN | apply below_drew1) | exact HB.out)⟩
  · replace c2 := Bool.eq_false_iff.mpr c2
    subst c2
    have H1 : (some false) = some r := by rw [if_neg (show ¬ (false = true) by decide)] at H; exact H
    clear H
    have H := H1
    clear H1
    obtain rfl := Option.some.inj H
    go_enter Tryd.func8, Tryd.ntmps8
    go_wp2_with (first | ((with_reducible refine gate_callee (f := 9) rfl ?_); refine goesL_ (some 5) rfl rfl Tryd.func9 (by kernel_rfl) rfl #[.string (⟨#[100, 105, 118]⟩ : ByteArray), .int .i64 1, .int .i64 0] rfl (by (try simp only [List.map_toArray, List.map_cons, List.map_nil]); first | done | rfl | (simp only [List.length_drop, List.length_take]; rfl)) ?_; (with_reducible refine (num_Do.calls (⟨#[100, 105, 118]⟩ : ByteArray) 1 0 t110 t111 false _ A1.out).mono ?_); rintro e w10 ⟨rfl, hb⟩; refine ⟨_, rfl, ?_⟩; have n0_ := Aside0.mk (below_step (by repeat (first | (with_reducible first | exact HB.out | apply below_alloc | apply pw_below_drewN | apply below_drew1) | exact HB.out)) hb); clear HB; have HB := n0_; clear n0_; (try clear hb); (try clear hb2); (try clear hk); (try clear hi)))
    go_ret
    exact ⟨by first | rfl | (simp [errW_none, errW_some] <;> rfl) | (simp [*, errW_none, errW_some] <;> rfl), by repeat (first | (with_reducible first | exact HB.out | apply below_alloc | apply pw_below_drewN | apply below_drew1) | exact HB.out)⟩

-- NOT PRINTED: function 3 (gristmilllaw2_NumDivides)

/-! ### gristmilllaw2_NumRing: function 4 -/
def gristmilllaw2_NumRing.f (a0 : Int) (a1 : Int) (a2 : Int) : Option (Bool) := (gristmilllaw2_first.f).bind fun t136 => (if t136 = true then ((num_Do.f (⟨#[43]⟩ : ByteArray) a0 a1).bind fun bt137 => ((num_Do.f (⟨#[43]⟩ : ByteArray) a1 a0).bind fun bt140 => ((num_Do.f (⟨#[43]⟩ : ByteArray) bt137.1 a2).bind fun bt143 => ((num_Do.f (⟨#[43]⟩ : ByteArray) a1 a2).bind fun bt146 => ((num_Do.f (⟨#[43]⟩ : ByteArray) a0 bt146.1).bind fun bt149 => ((num_Do.f (⟨#[42]⟩ : ByteArray) bt137.1 a2).bind fun bt152 => ((num_Do.f (⟨#[42]⟩ : ByteArray) a0 a2).bind fun bt155 => ((num_Do.f (⟨#[42]⟩ : ByteArray) a1 a2).bind fun bt158 => ((num_Do.f (⟨#[43]⟩ : ByteArray) bt155.1 bt158.1).bind fun bt161 => ((num_Do.f (⟨#[45]⟩ : ByteArray) bt137.1 a1).bind fun bt164 => ((num_Do.f (⟨#[42]⟩ : ByteArray) a2 bt137.1).bind fun bt167 => (if bt137.1 = bt140.1 then (if bt143.1 = bt149.1 then (if bt152.1 = bt161.1 then (if bt164.1 = a0 then (some (bt167.1 == bt152.1)) else (some false)) else (some false)) else (some false)) else (some false))))))))))))) else (some false))
set_option maxHeartbeats 8000000 in
set_option maxRecDepth 100000 in
theorem gristmilllaw2_NumRing.calls (a0 : Int) (a1 : Int) (a2 : Int) (r : Bool) (w : World) (hGG : GG w) (h : gristmilllaw2_NumRing.f a0 a1 a2 = some r) :
    Calls Tryd.prog 4 #[.int .i64 a0, .int .i64 a1, .int .i64 a2] w fun e w' => e = .returned (.bool r) ∧ Below w.heap.size w w' := by
  have HB := Aside0.mk (Below.refl w.heap.size w)
  have H : ((gristmilllaw2_first.f).bind fun t136 => (if t136 = true then ((num_Do.f (⟨#[43]⟩ : ByteArray) a0 a1).bind fun bt137 => ((num_Do.f (⟨#[43]⟩ : ByteArray) a1 a0).bind fun bt140 => ((num_Do.f (⟨#[43]⟩ : ByteArray) bt137.1 a2).bind fun bt143 => ((num_Do.f (⟨#[43]⟩ : ByteArray) a1 a2).bind fun bt146 => ((num_Do.f (⟨#[43]⟩ : ByteArray) a0 bt146.1).bind fun bt149 => ((num_Do.f (⟨#[42]⟩ : ByteArray) bt137.1 a2).bind fun bt152 => ((num_Do.f (⟨#[42]⟩ : ByteArray) a0 a2).bind fun bt155 => ((num_Do.f (⟨#[42]⟩ : ByteArray) a1 a2).bind fun bt158 => ((num_Do.f (⟨#[43]⟩ : ByteArray) bt155.1 bt158.1).bind fun bt161 => ((num_Do.f (⟨#[45]⟩ : ByteArray) bt137.1 a1).bind fun bt164 => ((num_Do.f (⟨#[42]⟩ : ByteArray) a2 bt137.1).bind fun bt167 => (if bt137.1 = bt140.1 then (if bt143.1 = bt149.1 then (if bt152.1 = bt161.1 then (if bt164.1 = a0 then (some (bt167.1 == bt152.1)) else (some false)) else (some false)) else (some false)) else (some false))))))))))))) else (some false))) = some r := h
  clear h
  replace H := Option.bind_eq_some_iff.mp H
  obtain ⟨t136, A40, H⟩ := H
  replace H : (if t136 = true then ((num_Do.f (⟨#[43]⟩ : ByteArray) a0 a1).bind fun bt137 => ((num_Do.f (⟨#[43]⟩ : ByteArray) a1 a0).bind fun bt140 => ((num_Do.f (⟨#[43]⟩ : ByteArray) bt137.1 a2).bind fun bt143 => ((num_Do.f (⟨#[43]⟩ : ByteArray) a1 a2).bind fun bt146 => ((num_Do.f (⟨#[43]⟩ : ByteArray) a0 bt146.1).bind fun bt149 => ((num_Do.f (⟨#[42]⟩ : ByteArray) bt137.1 a2).bind fun bt152 => ((num_Do.f (⟨#[42]⟩ : ByteArray) a0 a2).bind fun bt155 => ((num_Do.f (⟨#[42]⟩ : ByteArray) a1 a2).bind fun bt158 => ((num_Do.f (⟨#[43]⟩ : ByteArray) bt155.1 bt158.1).bind fun bt161 => ((num_Do.f (⟨#[45]⟩ : ByteArray) bt137.1 a1).bind fun bt164 => ((num_Do.f (⟨#[42]⟩ : ByteArray) a2 bt137.1).bind fun bt167 => (if bt137.1 = bt140.1 then (if bt143.1 = bt149.1 then (if bt152.1 = bt161.1 then (if bt164.1 = a0 then (some (bt167.1 == bt152.1)) else (some false)) else (some false)) else (some false)) else (some false))))))))))))) else (some false)) = some r := H
  have A4 := Aside0.mk A40
  clear A40
  by_cases c5 : t136 = true
  · subst c5
    have H1 : ((num_Do.f (⟨#[43]⟩ : ByteArray) a0 a1).bind fun bt137 => ((num_Do.f (⟨#[43]⟩ : ByteArray) a1 a0).bind fun bt140 => ((num_Do.f (⟨#[43]⟩ : ByteArray) bt137.1 a2).bind fun bt143 => ((num_Do.f (⟨#[43]⟩ : ByteArray) a1 a2).bind fun bt146 => ((num_Do.f (⟨#[43]⟩ : ByteArray) a0 bt146.1).bind fun bt149 => ((num_Do.f (⟨#[42]⟩ : ByteArray) bt137.1 a2).bind fun bt152 => ((num_Do.f (⟨#[42]⟩ : ByteArray) a0 a2).bind fun bt155 => ((num_Do.f (⟨#[42]⟩ : ByteArray) a1 a2).bind fun bt158 => ((num_Do.f (⟨#[43]⟩ : ByteArray) bt155.1 bt158.1).bind fun bt161 => ((num_Do.f (⟨#[45]⟩ : ByteArray) bt137.1 a1).bind fun bt164 => ((num_Do.f (⟨#[42]⟩ : ByteArray) a2 bt137.1).bind fun bt167 => (if bt137.1 = bt140.1 then (if bt143.1 = bt149.1 then (if bt152.1 = bt161.1 then (if bt164.1 = a0 then (some (bt167.1 == bt152.1)) else (some false)) else (some false)) else (some false)) else (some false))))))))))))) = some r := by rw [if_pos rfl] at H; exact H
    clear H
    have H := H1
    clear H1
    replace H := Option.bind_eq_some_iff.mp H
    obtain ⟨⟨t137, t138, t139⟩, A60, H⟩ := H
    replace H : ((num_Do.f (⟨#[43]⟩ : ByteArray) a1 a0).bind fun bt140 => ((num_Do.f (⟨#[43]⟩ : ByteArray) t137 a2).bind fun bt143 => ((num_Do.f (⟨#[43]⟩ : ByteArray) a1 a2).bind fun bt146 => ((num_Do.f (⟨#[43]⟩ : ByteArray) a0 bt146.1).bind fun bt149 => ((num_Do.f (⟨#[42]⟩ : ByteArray) t137 a2).bind fun bt152 => ((num_Do.f (⟨#[42]⟩ : ByteArray) a0 a2).bind fun bt155 => ((num_Do.f (⟨#[42]⟩ : ByteArray) a1 a2).bind fun bt158 => ((num_Do.f (⟨#[43]⟩ : ByteArray) bt155.1 bt158.1).bind fun bt161 => ((num_Do.f (⟨#[45]⟩ : ByteArray) t137 a1).bind fun bt164 => ((num_Do.f (⟨#[42]⟩ : ByteArray) a2 t137).bind fun bt167 => (if t137 = bt140.1 then (if bt143.1 = bt149.1 then (if bt152.1 = bt161.1 then (if bt164.1 = a0 then (some (bt167.1 == bt152.1)) else (some false)) else (some false)) else (some false)) else (some false)))))))))))) = some r := H
    have A6 := Aside0.mk A60
    clear A60
    replace H := Option.bind_eq_some_iff.mp H
    obtain ⟨⟨t140, t141, t142⟩, A70, H⟩ := H
    replace H : ((num_Do.f (⟨#[43]⟩ : ByteArray) t137 a2).bind fun bt143 => ((num_Do.f (⟨#[43]⟩ : ByteArray) a1 a2).bind fun bt146 => ((num_Do.f (⟨#[43]⟩ : ByteArray) a0 bt146.1).bind fun bt149 => ((num_Do.f (⟨#[42]⟩ : ByteArray) t137 a2).bind fun bt152 => ((num_Do.f (⟨#[42]⟩ : ByteArray) a0 a2).bind fun bt155 => ((num_Do.f (⟨#[42]⟩ : ByteArray) a1 a2).bind fun bt158 => ((num_Do.f (⟨#[43]⟩ : ByteArray) bt155.1 bt158.1).bind fun bt161 => ((num_Do.f (⟨#[45]⟩ : ByteArray) t137 a1).bind fun bt164 => ((num_Do.f (⟨#[42]⟩ : ByteArray) a2 t137).bind fun bt167 => (if t137 = t140 then (if bt143.1 = bt149.1 then (if bt152.1 = bt161.1 then (if bt164.1 = a0 then (some (bt167.1 == bt152.1)) else (some false)) else (some false)) else (some false)) else (some false))))))))))) = some r := H
    have A7 := Aside0.mk A70
    clear A70
    replace H := Option.bind_eq_some_iff.mp H
    obtain ⟨⟨t143, t144, t145⟩, A80, H⟩ := H
    replace H : ((num_Do.f (⟨#[43]⟩ : ByteArray) a1 a2).bind fun bt146 => ((num_Do.f (⟨#[43]⟩ : ByteArray) a0 bt146.1).bind fun bt149 => ((num_Do.f (⟨#[42]⟩ : ByteArray) t137 a2).bind fun bt152 => ((num_Do.f (⟨#[42]⟩ : ByteArray) a0 a2).bind fun bt155 => ((num_Do.f (⟨#[42]⟩ : ByteArray) a1 a2).bind fun bt158 => ((num_Do.f (⟨#[43]⟩ : ByteArray) bt155.1 bt158.1).bind fun bt161 => ((num_Do.f (⟨#[45]⟩ : ByteArray) t137 a1).bind fun bt164 => ((num_Do.f (⟨#[42]⟩ : ByteArray) a2 t137).bind fun bt167 => (if t137 = t140 then (if t143 = bt149.1 then (if bt152.1 = bt161.1 then (if bt164.1 = a0 then (some (bt167.1 == bt152.1)) else (some false)) else (some false)) else (some false)) else (some false)))))))))) = some r := H
    have A8 := Aside0.mk A80
    clear A80
    replace H := Option.bind_eq_some_iff.mp H
    obtain ⟨⟨t146, t147, t148⟩, A90, H⟩ := H
    replace H : ((num_Do.f (⟨#[43]⟩ : ByteArray) a0 t146).bind fun bt149 => ((num_Do.f (⟨#[42]⟩ : ByteArray) t137 a2).bind fun bt152 => ((num_Do.f (⟨#[42]⟩ : ByteArray) a0 a2).bind fun bt155 => ((num_Do.f (⟨#[42]⟩ : ByteArray) a1 a2).bind fun bt158 => ((num_Do.f (⟨#[43]⟩ : ByteArray) bt155.1 bt158.1).bind fun bt161 => ((num_Do.f (⟨#[45]⟩ : ByteArray) t137 a1).bind fun bt164 => ((num_Do.f (⟨#[42]⟩ : ByteArray) a2 t137).bind fun bt167 => (if t137 = t140 then (if t143 = bt149.1 then (if bt152.1 = bt161.1 then (if bt164.1 = a0 then (some (bt167.1 == bt152.1)) else (some false)) else (some false)) else (some false)) else (some false))))))))) = some r := H
    have A9 := Aside0.mk A90
    clear A90
    replace H := Option.bind_eq_some_iff.mp H
    obtain ⟨⟨t149, t150, t151⟩, A100, H⟩ := H
    replace H : ((num_Do.f (⟨#[42]⟩ : ByteArray) t137 a2).bind fun bt152 => ((num_Do.f (⟨#[42]⟩ : ByteArray) a0 a2).bind fun bt155 => ((num_Do.f (⟨#[42]⟩ : ByteArray) a1 a2).bind fun bt158 => ((num_Do.f (⟨#[43]⟩ : ByteArray) bt155.1 bt158.1).bind fun bt161 => ((num_Do.f (⟨#[45]⟩ : ByteArray) t137 a1).bind fun bt164 => ((num_Do.f (⟨#[42]⟩ : ByteArray) a2 t137).bind fun bt167 => (if t137 = t140 then (if t143 = t149 then (if bt152.1 = bt161.1 then (if bt164.1 = a0 then (some (bt167.1 == bt152.1)) else (some false)) else (some false)) else (some false)) else (some false)))))))) = some r := H
    have A10 := Aside0.mk A100
    clear A100
    replace H := Option.bind_eq_some_iff.mp H
    obtain ⟨⟨t152, t153, t154⟩, A110, H⟩ := H
    replace H : ((num_Do.f (⟨#[42]⟩ : ByteArray) a0 a2).bind fun bt155 => ((num_Do.f (⟨#[42]⟩ : ByteArray) a1 a2).bind fun bt158 => ((num_Do.f (⟨#[43]⟩ : ByteArray) bt155.1 bt158.1).bind fun bt161 => ((num_Do.f (⟨#[45]⟩ : ByteArray) t137 a1).bind fun bt164 => ((num_Do.f (⟨#[42]⟩ : ByteArray) a2 t137).bind fun bt167 => (if t137 = t140 then (if t143 = t149 then (if t152 = bt161.1 then (if bt164.1 = a0 then (some (bt167.1 == t152)) else (some false)) else (some false)) else (some false)) else (some false))))))) = some r := H
    have A11 := Aside0.mk A110
    clear A110
    replace H := Option.bind_eq_some_iff.mp H
    obtain ⟨⟨t155, t156, t157⟩, A120, H⟩ := H
    replace H : ((num_Do.f (⟨#[42]⟩ : ByteArray) a1 a2).bind fun bt158 => ((num_Do.f (⟨#[43]⟩ : ByteArray) t155 bt158.1).bind fun bt161 => ((num_Do.f (⟨#[45]⟩ : ByteArray) t137 a1).bind fun bt164 => ((num_Do.f (⟨#[42]⟩ : ByteArray) a2 t137).bind fun bt167 => (if t137 = t140 then (if t143 = t149 then (if t152 = bt161.1 then (if bt164.1 = a0 then (some (bt167.1 == t152)) else (some false)) else (some false)) else (some false)) else (some false)))))) = some r := H
    have A12 := Aside0.mk A120
    clear A120
    replace H := Option.bind_eq_some_iff.mp H
    obtain ⟨⟨t158, t159, t160⟩, A130, H⟩ := H
    replace H : ((num_Do.f (⟨#[43]⟩ : ByteArray) t155 t158).bind fun bt161 => ((num_Do.f (⟨#[45]⟩ : ByteArray) t137 a1).bind fun bt164 => ((num_Do.f (⟨#[42]⟩ : ByteArray) a2 t137).bind fun bt167 => (if t137 = t140 then (if t143 = t149 then (if t152 = bt161.1 then (if bt164.1 = a0 then (some (bt167.1 == t152)) else (some false)) else (some false)) else (some false)) else (some false))))) = some r := H
    have A13 := Aside0.mk A130
    clear A130
    replace H := Option.bind_eq_some_iff.mp H
    obtain ⟨⟨t161, t162, t163⟩, A140, H⟩ := H
    replace H : ((num_Do.f (⟨#[45]⟩ : ByteArray) t137 a1).bind fun bt164 => ((num_Do.f (⟨#[42]⟩ : ByteArray) a2 t137).bind fun bt167 => (if t137 = t140 then (if t143 = t149 then (if t152 = t161 then (if bt164.1 = a0 then (some (bt167.1 == t152)) else (some false)) else (some false)) else (some false)) else (some false)))) = some r := H
    have A14 := Aside0.mk A140
    clear A140
    replace H := Option.bind_eq_some_iff.mp H
    obtain ⟨⟨t164, t165, t166⟩, A150, H⟩ := H
    replace H : ((num_Do.f (⟨#[42]⟩ : ByteArray) a2 t137).bind fun bt167 => (if t137 = t140 then (if t143 = t149 then (if t152 = t161 then (if t164 = a0 then (some (bt167.1 == t152)) else (some false)) else (some false)) else (some false)) else (some false))) = some r := H
    have A15 := Aside0.mk A150
    clear A150
    replace H := Option.bind_eq_some_iff.mp H
    obtain ⟨⟨t167, t168, t169⟩, A160, H⟩ := H
    replace H : (if t137 = t140 then (if t143 = t149 then (if t152 = t161 then (if t164 = a0 then (some (t167 == t152)) else (some false)) else (some false)) else (some false)) else (some false)) = some r := H
    have A16 := Aside0.mk A160
    clear A160
    by_cases c17 : t137 = t140
    · rw [if_pos c17] at H
      have c17b0 : (t137 == t140) = true := beq_iff_eq.mpr c17
      have c17b1 : (t137 != t140) = false := bne_eq_false_iff_eq.mpr c17
      clear c17
      by_cases c18 : t143 = t149
      · rw [if_pos c18] at H
        have c18b0 : (t143 == t149) = true := beq_iff_eq.mpr c18
        have c18b1 : (t143 != t149) = false := bne_eq_false_iff_eq.mpr c18
        clear c18
        by_cases c19 : t152 = t161
        · rw [if_pos c19] at H
          have c19b0 : (t152 == t161) = true := beq_iff_eq.mpr c19
          have c19b1 : (t152 != t161) = false := bne_eq_false_iff_eq.mpr c19
          clear c19
          by_cases c20 : t164 = a0
          · rw [if_pos c20] at H
            have c20b0 : (t164 == a0) = true := beq_iff_eq.mpr c20
            have c20b1 : (t164 != a0) = false := bne_eq_false_iff_eq.mpr c20
            clear c20
            obtain rfl := Option.some.inj H
            go_enter Tryd.func4, Tryd.ntmps4
            go_wp2_with (first | ((with_reducible refine gate_callee (f := 8) rfl ?_); refine goesL_ (some 41) rfl rfl Tryd.func8 (by kernel_rfl) rfl #[] rfl (by (try simp only [List.map_toArray, List.map_cons, List.map_nil]); first | done | rfl | (simp only [List.length_drop, List.length_take]; rfl)) ?_; (with_reducible refine (gristmilllaw2_first.calls  true _ ?side1 A4.out).mono ?_); (case side1 => exact GG.below hGG (by repeat (first | (with_reducible first | exact HB.out | apply below_alloc | apply pw_below_drewN | apply below_drew1) | exact HB.out))); rintro e w21 ⟨rfl, hb⟩; refine ⟨_, rfl, ?_⟩; have n0_ := Aside0.mk (below_step (by repeat (first | (with_reducible first | exact HB.out | apply below_alloc | apply pw_below_drewN | apply below_drew1) | exact HB.out)) hb); clear HB; have HB := n0_; clear n0_; (try clear hb); (try clear hb2); (try clear hk); (try clear hi)) | ((with_reducible refine gate_callee (f := 9) rfl ?_); refine goesL_ (some 47) rfl rfl Tryd.func9 (by kernel_rfl) rfl #[.string (⟨#[43]⟩ : ByteArray), .int .i64 a0, .int .i64 a1] rfl (by (try simp only [List.map_toArray, List.map_cons, List.map_nil]); first | done | rfl | (simp only [List.length_drop, List.length_take]; rfl)) ?_; (with_reducible refine (num_Do.calls (⟨#[43]⟩ : ByteArray) a0 a1 t137 t138 t139 _ A6.out).mono ?_); rintro e w22 ⟨rfl, hb⟩; refine ⟨_, rfl, ?_⟩; have n0_ := Aside0.mk (below_step (by repeat (first | (with_reducible first | exact HB.out | apply below_alloc | apply pw_below_drewN | apply below_drew1) | exact HB.out)) hb); clear HB; have HB := n0_; clear n0_; (try clear hb); (try clear hb2); (try clear hk); (try clear hi)) | ((with_reducible refine gate_callee (f := 9) rfl ?_); refine goesL_ (some 54) rfl rfl Tryd.func9 (by kernel_rfl) rfl #[.string (⟨#[43]⟩ : ByteArray), .int .i64 a1, .int .i64 a0] rfl (by (try simp only [List.map_toArray, List.map_cons, List.map_nil]); first | done | rfl | (simp only [List.length_drop, List.length_take]; rfl)) ?_; (with_reducible refine (num_Do.calls (⟨#[43]⟩ : ByteArray) a1 a0 t140 t141 t142 _ A7.out).mono ?_); rintro e w23 ⟨rfl, hb⟩; refine ⟨_, rfl, ?_⟩; have n0_ := Aside0.mk (below_step (by repeat (first | (with_reducible first | exact HB.out | apply below_alloc | apply pw_below_drewN | apply below_drew1) | exact HB.out)) hb); clear HB; have HB := n0_; clear n0_; (try clear hb); (try clear hb2); (try clear hk); (try clear hi)) | ((with_reducible refine gate_callee (f := 9) rfl ?_); refine goesL_ (some 61) rfl rfl Tryd.func9 (by kernel_rfl) rfl #[.string (⟨#[43]⟩ : ByteArray), .int .i64 t137, .int .i64 a2] rfl (by (try simp only [List.map_toArray, List.map_cons, List.map_nil]); first | done | rfl | (simp only [List.length_drop, List.length_take]; rfl)) ?_; (with_reducible refine (num_Do.calls (⟨#[43]⟩ : ByteArray) t137 a2 t143 t144 t145 _ A8.out).mono ?_); rintro e w24 ⟨rfl, hb⟩; refine ⟨_, rfl, ?_⟩; have n0_ := Aside0.mk (below_step (by repeat (first | (with_reducible first | exact HB.out | apply below_alloc | apply pw_below_drewN | apply below_drew1) | exact HB.out)) hb); clear HB; have HB := n0_; clear n0_; (try clear hb); (try clear hb2); (try clear hk); (try clear hi)) | ((with_reducible refine gate_callee (f := 9) rfl ?_); refine goesL_ (some 68) rfl rfl Tryd.func9 (by kernel_rfl) rfl #[.string (⟨#[43]⟩ : ByteArray), .int .i64 a1, .int .i64 a2] rfl (by (try simp only [List.map_toArray, List.map_cons, List.map_nil]); first | done | rfl | (simp only [List.length_drop, List.length_take]; rfl)) ?_; (with_reducible refine (num_Do.calls (⟨#[43]⟩ : ByteArray) a1 a2 t146 t147 t148 _ A9.out).mono ?_); rintro e w25 ⟨rfl, hb⟩; refine ⟨_, rfl, ?_⟩; have n0_ := Aside0.mk (below_step (by repeat (first | (with_reducible first | exact HB.out | apply below_alloc | apply pw_below_drewN | apply below_drew1) | exact HB.out)) hb); clear HB; have HB := n0_; clear n0_; (try clear hb); (try clear hb2); (try clear hk); (try clear hi)) | ((with_reducible refine gate_callee (f := 9) rfl ?_); refine goesL_ (some 75) rfl rfl Tryd.func9 (by kernel_rfl) rfl #[.string (⟨#[43]⟩ : ByteArray), .int .i64 a0, .int .i64 t146] rfl (by (try simp only [List.map_toArray, List.map_cons, List.map_nil]); first | done | rfl | (simp only [List.length_drop, List.length_take]; rfl)) ?_; (with_reducible refine (num_Do.calls (⟨#[43]⟩ : ByteArray) a0 t146 t149 t150 t151 _ A10.out).mono ?_); rintro e w26 ⟨rfl, hb⟩; refine ⟨_, rfl, ?_⟩; have n0_ := Aside0.mk (below_step (by repeat (first | (with_reducible first | exact HB.out | apply below_alloc | apply pw_below_drewN | apply below_drew1) | exact HB.out)) hb); clear HB; have HB := n0_; clear n0_; (try clear hb); (try clear hb2); (try clear hk); (try clear hi)) | ((with_reducible refine gate_callee (f := 9) rfl ?_); refine goesL_ (some 82) rfl rfl Tryd.func9 (by kernel_rfl) rfl #[.string (⟨#[42]⟩ : ByteArray), .int .i64 t137, .int .i64 a2] rfl (by (try simp only [List.map_toArray, List.map_cons, List.map_nil]); first | done | rfl | (simp only [List.length_drop, List.length_take]; rfl)) ?_; (with_reducible refine (num_Do.calls (⟨#[42]⟩ : ByteArray) t137 a2 t152 t153 t154 _ A11.out).mono ?_); rintro e w27 ⟨rfl, hb⟩; refine ⟨_, rfl, ?_⟩; have n0_ := Aside0.mk (below_step (by repeat (first | (with_reducible first | exact HB.out | apply below_alloc | apply pw_below_drewN | apply below_drew1) | exact HB.out)) hb); clear HB; have HB := n0_; clear n0_; (try clear hb); (try clear hb2); (try clear hk); (try clear hi)) | ((with_reducible refine gate_callee (f := 9) rfl ?_); refine goesL_ (some 89) rfl rfl Tryd.func9 (by kernel_rfl) rfl #[.string (⟨#[42]⟩ : ByteArray), .int .i64 a0, .int .i64 a2] rfl (by (try simp only [List.map_toArray, List.map_cons, List.map_nil]); first | done | rfl | (simp only [List.length_drop, List.length_take]; rfl)) ?_; (with_reducible refine (num_Do.calls (⟨#[42]⟩ : ByteArray) a0 a2 t155 t156 t157 _ A12.out).mono ?_); rintro e w28 ⟨rfl, hb⟩; refine ⟨_, rfl, ?_⟩; have n0_ := Aside0.mk (below_step (by repeat (first | (with_reducible first | exact HB.out | apply below_alloc | apply pw_below_drewN | apply below_drew1) | exact HB.out)) hb); clear HB; have HB := n0_; clear n0_; (try clear hb); (try clear hb2); (try clear hk); (try clear hi)) | ((with_reducible refine gate_callee (f := 9) rfl ?_); refine goesL_ (some 96) rfl rfl Tryd.func9 (by kernel_rfl) rfl #[.string (⟨#[42]⟩ : ByteArray), .int .i64 a1, .int .i64 a2] rfl (by (try simp only [List.map_toArray, List.map_cons, List.map_nil]); first | done | rfl | (simp only [List.length_drop, List.length_take]; rfl)) ?_; (with_reducible refine (num_Do.calls (⟨#[42]⟩ : ByteArray) a1 a2 t158 t159 t160 _ A13.out).mono ?_); rintro e w29 ⟨rfl, hb⟩; refine ⟨_, rfl, ?_⟩; have n0_ := Aside0.mk (below_step (by repeat (first | (with_reducible first | exact HB.out | apply below_alloc | apply pw_below_drewN | apply below_drew1) | exact HB.out)) hb); clear HB; have HB := n0_; clear n0_; (try clear hb); (try clear hb2); (try clear hk); (try clear hi)) | ((with_reducible refine gate_callee (f := 9) rfl ?_); refine goesL_ (some 103) rfl rfl Tryd.func9 (by kernel_rfl) rfl #[.string (⟨#[43]⟩ : ByteArray), .int .i64 t155, .int .i64 t158] rfl (by (try simp only [List.map_toArray, List.map_cons, List.map_nil]); first | done | rfl | (simp only [List.length_drop, List.length_take]; rfl)) ?_; (with_reducible refine (num_Do.calls (⟨#[43]⟩ : ByteArray) t155 t158 t161 t162 t163 _ A14.out).mono ?_); rintro e w30 ⟨rfl, hb⟩; refine ⟨_, rfl, ?_⟩; have n0_ := Aside0.mk (below_step (by repeat (first | (with_reducible first | exact HB.out | apply below_alloc | apply pw_below_drewN | apply below_drew1) | exact HB.out)) hb); clear HB; have HB := n0_; clear n0_; (try clear hb); (try clear hb2); (try clear hk); (try clear hi)) | ((with_reducible refine gate_callee (f := 9) rfl ?_); refine goesL_ (some 110) rfl rfl Tryd.func9 (by kernel_rfl) rfl #[.string (⟨#[45]⟩ : ByteArray), .int .i64 t137, .int .i64 a1] rfl (by (try simp only [List.map_toArray, List.map_cons, List.map_nil]); first | done | rfl | (simp only [List.length_drop, List.length_take]; rfl)) ?_; (with_reducible refine (num_Do.calls (⟨#[45]⟩ : ByteArray) t137 a1 t164 t165 t166 _ A15.out).mono ?_); rintro e w31 ⟨rfl, hb⟩; refine ⟨_, rfl, ?_⟩; have n0_ := Aside0.mk (below_step (by repeat (first | (with_reducible first | exact HB.out | apply below_alloc | apply pw_below_drewN | apply below_drew1) | exact HB.out)) hb); clear HB; have HB := n0_; clear n0_; (try clear hb); (try clear hb2); (try clear hk); (try clear hi)) | ((with_reducible refine gate_callee (f := 9) rfl ?_); refine goesL_ (some 117) rfl rfl Tryd.func9 (by kernel_rfl) rfl #[.string (⟨#[42]⟩ : ByteArray), .int .i64 a2, .int .i64 t137] rfl (by (try simp only [List.map_toArray, List.map_cons, List.map_nil]); first | done | rfl | (simp only [List.length_drop, List.length_take]; rfl)) ?_; (with_reducible refine (num_Do.calls (⟨#[42]⟩ : ByteArray) a2 t137 t167 t168 t169 _ A16.out).mono ?_); rintro e w32 ⟨rfl, hb⟩; refine ⟨_, rfl, ?_⟩; have n0_ := Aside0.mk (below_step (by repeat (first | (with_reducible first | exact HB.out | apply below_alloc | apply pw_below_drewN | apply below_drew1) | exact HB.out)) hb); clear HB; have HB := n0_; clear n0_; (try clear hb); (try clear hb2); (try clear hk); (try clear hi)))
            go_ret
            exact ⟨by first | rfl | (simp [errW_none, errW_some] <;> rfl) | (simp [*, errW_none, errW_some] <;> rfl), by repeat (first | (with_reducible first | exact HB.out | apply below_alloc | apply pw_below_drewN | apply below_drew1) | exact HB.out)⟩
          · rw [if_neg c20] at H
            have c20b0 : (t164 == a0) = false := beq_eq_false_iff_ne.mpr c20
            have c20b1 : (t164 != a0) = true := bne_iff_ne.mpr c20
            obtain rfl := Option.some.inj H
            go_enter Tryd.func4, Tryd.ntmps4
            go_wp2_with (first | ((with_reducible refine gate_callee (f := 8) rfl ?_); refine goesL_ (some 41) rfl rfl Tryd.func8 (by kernel_rfl) rfl #[] rfl (by (try simp only [List.map_toArray, List.map_cons, List.map_nil]); first | done | rfl | (simp only [List.length_drop, List.length_take]; rfl)) ?_; (with_reducible refine (gristmilllaw2_first.calls  true _ ?side1 A4.out).mono ?_); (case side1 => exact GG.below hGG (by repeat (first | (with_reducible first | exact HB.out | apply below_alloc | apply pw_below_drewN | apply below_drew1) | exact HB.out))); rintro e w33 ⟨rfl, hb⟩; refine ⟨_, rfl, ?_⟩; have n0_ := Aside0.mk (below_step (by repeat (first | (with_reducible first | exact HB.out | apply below_alloc | apply pw_below_drewN | apply below_drew1) | exact HB.out)) hb); clear HB; have HB := n0_; clear n0_; (try clear hb); (try clear hb2); (try clear hk); (try clear hi)) | ((with_reducible refine gate_callee (f := 9) rfl ?_); refine goesL_ (some 47) rfl rfl Tryd.func9 (by kernel_rfl) rfl #[.string (⟨#[43]⟩ : ByteArray), .int .i64 a0, .int .i64 a1] rfl (by (try simp only [List.map_toArray, List.map_cons, List.map_nil]); first | done | rfl | (simp only [List.length_drop, List.length_take]; rfl)) ?_; (with_reducible refine (num_Do.calls (⟨#[43]⟩ : ByteArray) a0 a1 t137 t138 t139 _ A6.out).mono ?_); rintro e w34 ⟨rfl, hb⟩; refine ⟨_, rfl, ?_⟩; have n0_ := Aside0.mk (below_step (by repeat (first | (with_reducible first | exact HB.out | apply below_alloc | apply pw_below_drewN | apply below_drew1) | exact HB.out)) hb); clear HB; have HB := n0_; clear n0_; (try clear hb); (try clear hb2); (try clear hk); (try clear hi)) | ((with_reducible refine gate_callee (f := 9) rfl ?_); refine goesL_ (some 54) rfl rfl Tryd.func9 (by kernel_rfl) rfl #[.string (⟨#[43]⟩ : ByteArray), .int .i64 a1, .int .i64 a0] rfl (by (try simp only [List.map_toArray, List.map_cons, List.map_nil]); first | done | rfl | (simp only [List.length_drop, List.length_take]; rfl)) ?_; (with_reducible refine (num_Do.calls (⟨#[43]⟩ : ByteArray) a1 a0 t140 t141 t142 _ A7.out).mono ?_); rintro e w35 ⟨rfl, hb⟩; refine ⟨_, rfl, ?_⟩; have n0_ := Aside0.mk (below_step (by repeat (first | (with_reducible first | exact HB.out | apply below_alloc | apply pw_below_drewN | apply below_drew1) | exact HB.out)) hb); clear HB; have HB := n0_; clear n0_; (try clear hb); (try clear hb2); (try clear hk); (try clear hi)) | ((with_reducible refine gate_callee (f := 9) rfl ?_); refine goesL_ (some 61) rfl rfl Tryd.func9 (by kernel_rfl) rfl #[.string (⟨#[43]⟩ : ByteArray), .int .i64 t137, .int .i64 a2] rfl (by (try simp only [List.map_toArray, List.map_cons, List.map_nil]); first | done | rfl | (simp only [List.length_drop, List.length_take]; rfl)) ?_; (with_reducible refine (num_Do.calls (⟨#[43]⟩ : ByteArray) t137 a2 t143 t144 t145 _ A8.out).mono ?_); rintro e w36 ⟨rfl, hb⟩; refine ⟨_, rfl, ?_⟩; have n0_ := Aside0.mk (below_step (by repeat (first | (with_reducible first | exact HB.out | apply below_alloc | apply pw_below_drewN | apply below_drew1) | exact HB.out)) hb); clear HB; have HB := n0_; clear n0_; (try clear hb); (try clear hb2); (try clear hk); (try clear hi)) | ((with_reducible refine gate_callee (f := 9) rfl ?_); refine goesL_ (some 68) rfl rfl Tryd.func9 (by kernel_rfl) rfl #[.string (⟨#[43]⟩ : ByteArray), .int .i64 a1, .int .i64 a2] rfl (by (try simp only [List.map_toArray, List.map_cons, List.map_nil]); first | done | rfl | (simp only [List.length_drop, List.length_take]; rfl)) ?_; (with_reducible refine (num_Do.calls (⟨#[43]⟩ : ByteArray) a1 a2 t146 t147 t148 _ A9.out).mono ?_); rintro e w37 ⟨rfl, hb⟩; refine ⟨_, rfl, ?_⟩; have n0_ := Aside0.mk (below_step (by repeat (first | (with_reducible first | exact HB.out | apply below_alloc | apply pw_below_drewN | apply below_drew1) | exact HB.out)) hb); clear HB; have HB := n0_; clear n0_; (try clear hb); (try clear hb2); (try clear hk); (try clear hi)) | ((with_reducible refine gate_callee (f := 9) rfl ?_); refine goesL_ (some 75) rfl rfl Tryd.func9 (by kernel_rfl) rfl #[.string (⟨#[43]⟩ : ByteArray), .int .i64 a0, .int .i64 t146] rfl (by (try simp only [List.map_toArray, List.map_cons, List.map_nil]); first | done | rfl | (simp only [List.length_drop, List.length_take]; rfl)) ?_; (with_reducible refine (num_Do.calls (⟨#[43]⟩ : ByteArray) a0 t146 t149 t150 t151 _ A10.out).mono ?_); rintro e w38 ⟨rfl, hb⟩; refine ⟨_, rfl, ?_⟩; have n0_ := Aside0.mk (below_step (by repeat (first | (with_reducible first | exact HB.out | apply below_alloc | apply pw_below_drewN | apply below_drew1) | exact HB.out)) hb); clear HB; have HB := n0_; clear n0_; (try clear hb); (try clear hb2); (try clear hk); (try clear hi)) | ((with_reducible refine gate_callee (f := 9) rfl ?_); refine goesL_ (some 82) rfl rfl Tryd.func9 (by kernel_rfl) rfl #[.string (⟨#[42]⟩ : ByteArray), .int .i64 t137, .int .i64 a2] rfl (by (try simp only [List.map_toArray, List.map_cons, List.map_nil]); first | done | rfl | (simp only [List.length_drop, List.length_take]; rfl)) ?_; (with_reducible refine (num_Do.calls (⟨#[42]⟩ : ByteArray) t137 a2 t152 t153 t154 _ A11.out).mono ?_); rintro e w39 ⟨rfl, hb⟩; refine ⟨_, rfl, ?_⟩; have n0_ := Aside0.mk (below_step (by repeat (first | (with_reducible first | exact HB.out | apply below_alloc | apply pw_below_drewN | apply below_drew1) | exact HB.out)) hb); clear HB; have HB := n0_; clear n0_; (try clear hb); (try clear hb2); (try clear hk); (try clear hi)) | ((with_reducible refine gate_callee (f := 9) rfl ?_); refine goesL_ (some 89) rfl rfl Tryd.func9 (by kernel_rfl) rfl #[.string (⟨#[42]⟩ : ByteArray), .int .i64 a0, .int .i64 a2] rfl (by (try simp only [List.map_toArray, List.map_cons, List.map_nil]); first | done | rfl | (simp only [List.length_drop, List.length_take]; rfl)) ?_; (with_reducible refine (num_Do.calls (⟨#[42]⟩ : ByteArray) a0 a2 t155 t156 t157 _ A12.out).mono ?_); rintro e w40 ⟨rfl, hb⟩; refine ⟨_, rfl, ?_⟩; have n0_ := Aside0.mk (below_step (by repeat (first | (with_reducible first | exact HB.out | apply below_alloc | apply pw_below_drewN | apply below_drew1) | exact HB.out)) hb); clear HB; have HB := n0_; clear n0_; (try clear hb); (try clear hb2); (try clear hk); (try clear hi)) | ((with_reducible refine gate_callee (f := 9) rfl ?_); refine goesL_ (some 96) rfl rfl Tryd.func9 (by kernel_rfl) rfl #[.string (⟨#[42]⟩ : ByteArray), .int .i64 a1, .int .i64 a2] rfl (by (try simp only [List.map_toArray, List.map_cons, List.map_nil]); first | done | rfl | (simp only [List.length_drop, List.length_take]; rfl)) ?_; (with_reducible refine (num_Do.calls (⟨#[42]⟩ : ByteArray) a1 a2 t158 t159 t160 _ A13.out).mono ?_); rintro e w41 ⟨rfl, hb⟩; refine ⟨_, rfl, ?_⟩; have n0_ := Aside0.mk (below_step (by repeat (first | (with_reducible first | exact HB.out | apply below_alloc | apply pw_below_drewN | apply below_drew1) | exact HB.out)) hb); clear HB; have HB := n0_; clear n0_; (try clear hb); (try clear hb2); (try clear hk); (try clear hi)) | ((with_reducible refine gate_callee (f := 9) rfl ?_); refine goesL_ (some 103) rfl rfl Tryd.func9 (by kernel_rfl) rfl #[.string (⟨#[43]⟩ : ByteArray), .int .i64 t155, .int .i64 t158] rfl (by (try simp only [List.map_toArray, List.map_cons, List.map_nil]); first | done | rfl | (simp only [List.length_drop, List.length_take]; rfl)) ?_; (with_reducible refine (num_Do.calls (⟨#[43]⟩ : ByteArray) t155 t158 t161 t162 t163 _ A14.out).mono ?_); rintro e w42 ⟨rfl, hb⟩; refine ⟨_, rfl, ?_⟩; have n0_ := Aside0.mk (below_step (by repeat (first | (with_reducible first | exact HB.out | apply below_alloc | apply pw_below_drewN | apply below_drew1) | exact HB.out)) hb); clear HB; have HB := n0_; clear n0_; (try clear hb); (try clear hb2); (try clear hk); (try clear hi)) | ((with_reducible refine gate_callee (f := 9) rfl ?_); refine goesL_ (some 110) rfl rfl Tryd.func9 (by kernel_rfl) rfl #[.string (⟨#[45]⟩ : ByteArray), .int .i64 t137, .int .i64 a1] rfl (by (try simp only [List.map_toArray, List.map_cons, List.map_nil]); first | done | rfl | (simp only [List.length_drop, List.length_take]; rfl)) ?_; (with_reducible refine (num_Do.calls (⟨#[45]⟩ : ByteArray) t137 a1 t164 t165 t166 _ A15.out).mono ?_); rintro e w43 ⟨rfl, hb⟩; refine ⟨_, rfl, ?_⟩; have n0_ := Aside0.mk (below_step (by repeat (first | (with_reducible first | exact HB.out | apply below_alloc | apply pw_below_drewN | apply below_drew1) | exact HB.out)) hb); clear HB; have HB := n0_; clear n0_; (try clear hb); (try clear hb2); (try clear hk); (try clear hi)) | ((with_reducible refine gate_callee (f := 9) rfl ?_); refine goesL_ (some 117) rfl rfl Tryd.func9 (by kernel_rfl) rfl #[.string (⟨#[42]⟩ : ByteArray), .int .i64 a2, .int .i64 t137] rfl (by (try simp only [List.map_toArray, List.map_cons, List.map_nil]); first | done | rfl | (simp only [List.length_drop, List.length_take]; rfl)) ?_; (with_reducible refine (num_Do.calls (⟨#[42]⟩ : ByteArray) a2 t137 t167 t168 t169 _ A16.out).mono ?_); rintro e w44 ⟨rfl, hb⟩; refine ⟨_, rfl, ?_⟩; have n0_ := Aside0.mk (below_step (by repeat (first | (with_reducible first | exact HB.out | apply below_alloc | apply pw_below_drewN | apply below_drew1) | exact HB.out)) hb); clear HB; have HB := n0_; clear n0_; (try clear hb); (try clear hb2); (try clear hk); (try clear hi)))
            go_ret
            exact ⟨by first | rfl | (simp [errW_none, errW_some] <;> rfl) | (simp [*, errW_none, errW_some] <;> rfl), by repeat (first | (with_reducible first | exact HB.out | apply below_alloc | apply pw_below_drewN | apply below_drew1) | exact HB.out)⟩
        · rw [if_neg c19] at H
          have c19b0 : (t152 == t161) = false := beq_eq_false_iff_ne.mpr c19
          have c19b1 : (t152 != t161) = true := bne_iff_ne.mpr c19
          obtain rfl := Option.some.inj H
          go_enter Tryd.func4, Tryd.ntmps4
          go_wp2_with (first | ((with_reducible refine gate_callee (f := 8) rfl ?_); refine goesL_ (some 41) rfl rfl Tryd.func8 (by kernel_rfl) rfl #[] rfl (by (try simp only [List.map_toArray, List.map_cons, List.map_nil]); first | done | rfl | (simp only [List.length_drop, List.length_take]; rfl)) ?_; (with_reducible refine (gristmilllaw2_first.calls  true _ ?side1 A4.out).mono ?_); (case side1 => exact GG.below hGG (by repeat (first | (with_reducible first | exact HB.out | apply below_alloc | apply pw_below_drewN | apply below_drew1) | exact HB.out))); rintro e w45 ⟨rfl, hb⟩; refine ⟨_, rfl, ?_⟩; have n0_ := Aside0.mk (below_step (by repeat (first | (with_reducible first | exact HB.out | apply below_alloc | apply pw_below_drewN | apply below_drew1) | exact HB.out)) hb); clear HB; have HB := n0_; clear n0_; (try clear hb); (try clear hb2); (try clear hk); (try clear hi)) | ((with_reducible refine gate_callee (f := 9) rfl ?_); refine goesL_ (some 47) rfl rfl Tryd.func9 (by kernel_rfl) rfl #[.string (⟨#[43]⟩ : ByteArray), .int .i64 a0, .int .i64 a1] rfl (by (try simp only [List.map_toArray, List.map_cons, List.map_nil]); first | done | rfl | (simp only [List.length_drop, List.length_take]; rfl)) ?_; (with_reducible refine (num_Do.calls (⟨#[43]⟩ : ByteArray) a0 a1 t137 t138 t139 _ A6.out).mono ?_); rintro e w46 ⟨rfl, hb⟩; refine ⟨_, rfl, ?_⟩; have n0_ := Aside0.mk (below_step (by repeat (first | (with_reducible first | exact HB.out | apply below_alloc | apply pw_below_drewN | apply below_drew1) | exact HB.out)) hb); clear HB; have HB := n0_; clear n0_; (try clear hb); (try clear hb2); (try clear hk); (try clear hi)) | ((with_reducible refine gate_callee (f := 9) rfl ?_); refine goesL_ (some 54) rfl rfl Tryd.func9 (by kernel_rfl) rfl #[.string (⟨#[43]⟩ : ByteArray), .int .i64 a1, .int .i64 a0] rfl (by (try simp only [List.map_toArray, List.map_cons, List.map_nil]); first | done | rfl | (simp only [List.length_drop, List.length_take]; rfl)) ?_; (with_reducible refine (num_Do.calls (⟨#[43]⟩ : ByteArray) a1 a0 t140 t141 t142 _ A7.out).mono ?_); rintro e w47 ⟨rfl, hb⟩; refine ⟨_, rfl, ?_⟩; have n0_ := Aside0.mk (below_step (by repeat (first | (with_reducible first | exact HB.out | apply below_alloc | apply pw_below_drewN | apply below_drew1) | exact HB.out)) hb); clear HB; have HB := n0_; clear n0_; (try clear hb); (try clear hb2); (try clear hk); (try clear hi)) | ((with_reducible refine gate_callee (f := 9) rfl ?_); refine goesL_ (some 61) rfl rfl Tryd.func9 (by kernel_rfl) rfl #[.string (⟨#[43]⟩ : ByteArray), .int .i64 t137, .int .i64 a2] rfl (by (try simp only [List.map_toArray, List.map_cons, List.map_nil]); first | done | rfl | (simp only [List.length_drop, List.length_take]; rfl)) ?_; (with_reducible refine (num_Do.calls (⟨#[43]⟩ : ByteArray) t137 a2 t143 t144 t145 _ A8.out).mono ?_); rintro e w48 ⟨rfl, hb⟩; refine ⟨_, rfl, ?_⟩; have n0_ := Aside0.mk (below_step (by repeat (first | (with_reducible first | exact HB.out | apply below_alloc | apply pw_below_drewN | apply below_drew1) | exact HB.out)) hb); clear HB; have HB := n0_; clear n0_; (try clear hb); (try clear hb2); (try clear hk); (try clear hi)) | ((with_reducible refine gate_callee (f := 9) rfl ?_); refine goesL_ (some 68) rfl rfl Tryd.func9 (by kernel_rfl) rfl #[.string (⟨#[43]⟩ : ByteArray), .int .i64 a1, .int .i64 a2] rfl (by (try simp only [List.map_toArray, List.map_cons, List.map_nil]); first | done | rfl | (simp only [List.length_drop, List.length_take]; rfl)) ?_; (with_reducible refine (num_Do.calls (⟨#[43]⟩ : ByteArray) a1 a2 t146 t147 t148 _ A9.out).mono ?_); rintro e w49 ⟨rfl, hb⟩; refine ⟨_, rfl, ?_⟩; have n0_ := Aside0.mk (below_step (by repeat (first | (with_reducible first | exact HB.out | apply below_alloc | apply pw_below_drewN | apply below_drew1) | exact HB.out)) hb); clear HB; have HB := n0_; clear n0_; (try clear hb); (try clear hb2); (try clear hk); (try clear hi)) | ((with_reducible refine gate_callee (f := 9) rfl ?_); refine goesL_ (some 75) rfl rfl Tryd.func9 (by kernel_rfl) rfl #[.string (⟨#[43]⟩ : ByteArray), .int .i64 a0, .int .i64 t146] rfl (by (try simp only [List.map_toArray, List.map_cons, List.map_nil]); first | done | rfl | (simp only [List.length_drop, List.length_take]; rfl)) ?_; (with_reducible refine (num_Do.calls (⟨#[43]⟩ : ByteArray) a0 t146 t149 t150 t151 _ A10.out).mono ?_); rintro e w50 ⟨rfl, hb⟩; refine ⟨_, rfl, ?_⟩; have n0_ := Aside0.mk (below_step (by repeat (first | (with_reducible first | exact HB.out | apply below_alloc | apply pw_below_drewN | apply below_drew1) | exact HB.out)) hb); clear HB; have HB := n0_; clear n0_; (try clear hb); (try clear hb2); (try clear hk); (try clear hi)) | ((with_reducible refine gate_callee (f := 9) rfl ?_); refine goesL_ (some 82) rfl rfl Tryd.func9 (by kernel_rfl) rfl #[.string (⟨#[42]⟩ : ByteArray), .int .i64 t137, .int .i64 a2] rfl (by (try simp only [List.map_toArray, List.map_cons, List.map_nil]); first | done | rfl | (simp only [List.length_drop, List.length_take]; rfl)) ?_; (with_reducible refine (num_Do.calls (⟨#[42]⟩ : ByteArray) t137 a2 t152 t153 t154 _ A11.out).mono ?_); rintro e w51 ⟨rfl, hb⟩; refine ⟨_, rfl, ?_⟩; have n0_ := Aside0.mk (below_step (by repeat (first | (with_reducible first | exact HB.out | apply below_alloc | apply pw_below_drewN | apply below_drew1) | exact HB.out)) hb); clear HB; have HB := n0_; clear n0_; (try clear hb); (try clear hb2); (try clear hk); (try clear hi)) | ((with_reducible refine gate_callee (f := 9) rfl ?_); refine goesL_ (some 89) rfl rfl Tryd.func9 (by kernel_rfl) rfl #[.string (⟨#[42]⟩ : ByteArray), .int .i64 a0, .int .i64 a2] rfl (by (try simp only [List.map_toArray, List.map_cons, List.map_nil]); first | done | rfl | (simp only [List.length_drop, List.length_take]; rfl)) ?_; (with_reducible refine (num_Do.calls (⟨#[42]⟩ : ByteArray) a0 a2 t155 t156 t157 _ A12.out).mono ?_); rintro e w52 ⟨rfl, hb⟩; refine ⟨_, rfl, ?_⟩; have n0_ := Aside0.mk (below_step (by repeat (first | (with_reducible first | exact HB.out | apply below_alloc | apply pw_below_drewN | apply below_drew1) | exact HB.out)) hb); clear HB; have HB := n0_; clear n0_; (try clear hb); (try clear hb2); (try clear hk); (try clear hi)) | ((with_reducible refine gate_callee (f := 9) rfl ?_); refine goesL_ (some 96) rfl rfl Tryd.func9 (by kernel_rfl) rfl #[.string (⟨#[42]⟩ : ByteArray), .int .i64 a1, .int .i64 a2] rfl (by (try simp only [List.map_toArray, List.map_cons, List.map_nil]); first | done | rfl | (simp only [List.length_drop, List.length_take]; rfl)) ?_; (with_reducible refine (num_Do.calls (⟨#[42]⟩ : ByteArray) a1 a2 t158 t159 t160 _ A13.out).mono ?_); rintro e w53 ⟨rfl, hb⟩; refine ⟨_, rfl, ?_⟩; have n0_ := Aside0.mk (below_step (by repeat (first | (with_reducible first | exact HB.out | apply below_alloc | apply pw_below_drewN | apply below_drew1) | exact HB.out)) hb); clear HB; have HB := n0_; clear n0_; (try clear hb); (try clear hb2); (try clear hk); (try clear hi)) | ((with_reducible refine gate_callee (f := 9) rfl ?_); refine goesL_ (some 103) rfl rfl Tryd.func9 (by kernel_rfl) rfl #[.string (⟨#[43]⟩ : ByteArray), .int .i64 t155, .int .i64 t158] rfl (by (try simp only [List.map_toArray, List.map_cons, List.map_nil]); first | done | rfl | (simp only [List.length_drop, List.length_take]; rfl)) ?_; (with_reducible refine (num_Do.calls (⟨#[43]⟩ : ByteArray) t155 t158 t161 t162 t163 _ A14.out).mono ?_); rintro e w54 ⟨rfl, hb⟩; refine ⟨_, rfl, ?_⟩; have n0_ := Aside0.mk (below_step (by repeat (first | (with_reducible first | exact HB.out | apply below_alloc | apply pw_below_drewN | apply below_drew1) | exact HB.out)) hb); clear HB; have HB := n0_; clear n0_; (try clear hb); (try clear hb2); (try clear hk); (try clear hi)) | ((with_reducible refine gate_callee (f := 9) rfl ?_); refine goesL_ (some 110) rfl rfl Tryd.func9 (by kernel_rfl) rfl #[.string (⟨#[45]⟩ : ByteArray), .int .i64 t137, .int .i64 a1] rfl (by (try simp only [List.map_toArray, List.map_cons, List.map_nil]); first | done | rfl | (simp only [List.length_drop, List.length_take]; rfl)) ?_; (with_reducible refine (num_Do.calls (⟨#[45]⟩ : ByteArray) t137 a1 t164 t165 t166 _ A15.out).mono ?_); rintro e w55 ⟨rfl, hb⟩; refine ⟨_, rfl, ?_⟩; have n0_ := Aside0.mk (below_step (by repeat (first | (with_reducible first | exact HB.out | apply below_alloc | apply pw_below_drewN | apply below_drew1) | exact HB.out)) hb); clear HB; have HB := n0_; clear n0_; (try clear hb); (try clear hb2); (try clear hk); (try clear hi)) | ((with_reducible refine gate_callee (f := 9) rfl ?_); refine goesL_ (some 117) rfl rfl Tryd.func9 (by kernel_rfl) rfl #[.string (⟨#[42]⟩ : ByteArray), .int .i64 a2, .int .i64 t137] rfl (by (try simp only [List.map_toArray, List.map_cons, List.map_nil]); first | done | rfl | (simp only [List.length_drop, List.length_take]; rfl)) ?_; (with_reducible refine (num_Do.calls (⟨#[42]⟩ : ByteArray) a2 t137 t167 t168 t169 _ A16.out).mono ?_); rintro e w56 ⟨rfl, hb⟩; refine ⟨_, rfl, ?_⟩; have n0_ := Aside0.mk (below_step (by repeat (first | (with_reducible first | exact HB.out | apply below_alloc | apply pw_below_drewN | apply below_drew1) | exact HB.out)) hb); clear HB; have HB := n0_; clear n0_; (try clear hb); (try clear hb2); (try clear hk); (try clear hi)))
          go_ret
          exact ⟨by first | rfl | (simp [errW_none, errW_some] <;> rfl) | (simp [*, errW_none, errW_some] <;> rfl), by repeat (first | (with_reducible first | exact HB.out | apply below_alloc | apply pw_below_drewN | apply below_drew1) | exact HB.out)⟩
      · rw [if_neg c18] at H
        have c18b0 : (t143 == t149) = false := beq_eq_false_iff_ne.mpr c18
        have c18b1 : (t143 != t149) = true := bne_iff_ne.mpr c18
        obtain rfl := Option.some.inj H
        go_enter Tryd.func4, Tryd.ntmps4
        go_wp2_with (first | ((with_reducible refine gate_callee (f := 8) rfl ?_); refine goesL_ (some 41) rfl rfl Tryd.func8 (by kernel_rfl) rfl #[] rfl (by (try simp only [List.map_toArray, List.map_cons, List.map_nil]); first | done | rfl | (simp only [List.length_drop, List.length_take]; rfl)) ?_; (with_reducible refine (gristmilllaw2_first.calls  true _ ?side1 A4.out).mono ?_); (case side1 => exact GG.below hGG (by repeat (first | (with_reducible first | exact HB.out | apply below_alloc | apply pw_below_drewN | apply below_drew1) | exact HB.out))); rintro e w57 ⟨rfl, hb⟩; refine ⟨_, rfl, ?_⟩; have n0_ := Aside0.mk (below_step (by repeat (first | (with_reducible first | exact HB.out | apply below_alloc | apply pw_below_drewN | apply below_drew1) | exact HB.out)) hb); clear HB; have HB := n0_; clear n0_; (try clear hb); (try clear hb2); (try clear hk); (try clear hi)) | ((with_reducible refine gate_callee (f := 9) rfl ?_); refine goesL_ (some 47) rfl rfl Tryd.func9 (by kernel_rfl) rfl #[.string (⟨#[43]⟩ : ByteArray), .int .i64 a0, .int .i64 a1] rfl (by (try simp only [List.map_toArray, List.map_cons, List.map_nil]); first | done | rfl | (simp only [List.length_drop, List.length_take]; rfl)) ?_; (with_reducible refine (num_Do.calls (⟨#[43]⟩ : ByteArray) a0 a1 t137 t138 t139 _ A6.out).mono ?_); rintro e w58 ⟨rfl, hb⟩; refine ⟨_, rfl, ?_⟩; have n0_ := Aside0.mk (below_step (by repeat (first | (with_reducible first | exact HB.out | apply below_alloc | apply pw_below_drewN | apply below_drew1) | exact HB.out)) hb); clear HB; have HB := n0_; clear n0_; (try clear hb); (try clear hb2); (try clear hk); (try clear hi)) | ((with_reducible refine gate_callee (f := 9) rfl ?_); refine goesL_ (some 54) rfl rfl Tryd.func9 (by kernel_rfl) rfl #[.string (⟨#[43]⟩ : ByteArray), .int .i64 a1, .int .i64 a0] rfl (by (try simp only [List.map_toArray, List.map_cons, List.map_nil]); first | done | rfl | (simp only [List.length_drop, List.length_take]; rfl)) ?_; (with_reducible refine (num_Do.calls (⟨#[43]⟩ : ByteArray) a1 a0 t140 t141 t142 _ A7.out).mono ?_); rintro e w59 ⟨rfl, hb⟩; refine ⟨_, rfl, ?_⟩; have n0_ := Aside0.mk (below_step (by repeat (first | (with_reducible first | exact HB.out | apply below_alloc | apply pw_below_drewN | apply below_drew1) | exact HB.out)) hb); clear HB; have HB := n0_; clear n0_; (try clear hb); (try clear hb2); (try clear hk); (try clear hi)) | ((with_reducible refine gate_callee (f := 9) rfl ?_); refine goesL_ (some 61) rfl rfl Tryd.func9 (by kernel_rfl) rfl #[.string (⟨#[43]⟩ : ByteArray), .int .i64 t137, .int .i64 a2] rfl (by (try simp only [List.map_toArray, List.map_cons, List.map_nil]); first | done | rfl | (simp only [List.length_drop, List.length_take]; rfl)) ?_; (with_reducible refine (num_Do.calls (⟨#[43]⟩ : ByteArray) t137 a2 t143 t144 t145 _ A8.out).mono ?_); rintro e w60 ⟨rfl, hb⟩; refine ⟨_, rfl, ?_⟩; have n0_ := Aside0.mk (below_step (by repeat (first | (with_reducible first | exact HB.out | apply below_alloc | apply pw_below_drewN | apply below_drew1) | exact HB.out)) hb); clear HB; have HB := n0_; clear n0_; (try clear hb); (try clear hb2); (try clear hk); (try clear hi)) | ((with_reducible refine gate_callee (f := 9) rfl ?_); refine goesL_ (some 68) rfl rfl Tryd.func9 (by kernel_rfl) rfl #[.string (⟨#[43]⟩ : ByteArray), .int .i64 a1, .int .i64 a2] rfl (by (try simp only [List.map_toArray, List.map_cons, List.map_nil]); first | done | rfl | (simp only [List.length_drop, List.length_take]; rfl)) ?_; (with_reducible refine (num_Do.calls (⟨#[43]⟩ : ByteArray) a1 a2 t146 t147 t148 _ A9.out).mono ?_); rintro e w61 ⟨rfl, hb⟩; refine ⟨_, rfl, ?_⟩; have n0_ := Aside0.mk (below_step (by repeat (first | (with_reducible first | exact HB.out | apply below_alloc | apply pw_below_drewN | apply below_drew1) | exact HB.out)) hb); clear HB; have HB := n0_; clear n0_; (try clear hb); (try clear hb2); (try clear hk); (try clear hi)) | ((with_reducible refine gate_callee (f := 9) rfl ?_); refine goesL_ (some 75) rfl rfl Tryd.func9 (by kernel_rfl) rfl #[.string (⟨#[43]⟩ : ByteArray), .int .i64 a0, .int .i64 t146] rfl (by (try simp only [List.map_toArray, List.map_cons, List.map_nil]); first | done | rfl | (simp only [List.length_drop, List.length_take]; rfl)) ?_; (with_reducible refine (num_Do.calls (⟨#[43]⟩ : ByteArray) a0 t146 t149 t150 t151 _ A10.out).mono ?_); rintro e w62 ⟨rfl, hb⟩; refine ⟨_, rfl, ?_⟩; have n0_ := Aside0.mk (below_step (by repeat (first | (with_reducible first | exact HB.out | apply below_alloc | apply pw_below_drewN | apply below_drew1) | exact HB.out)) hb); clear HB; have HB := n0_; clear n0_; (try clear hb); (try clear hb2); (try clear hk); (try clear hi)) | ((with_reducible refine gate_callee (f := 9) rfl ?_); refine goesL_ (some 82) rfl rfl Tryd.func9 (by kernel_rfl) rfl #[.string (⟨#[42]⟩ : ByteArray), .int .i64 t137, .int .i64 a2] rfl (by (try simp only [List.map_toArray, List.map_cons, List.map_nil]); first | done | rfl | (simp only [List.length_drop, List.length_take]; rfl)) ?_; (with_reducible refine (num_Do.calls (⟨#[42]⟩ : ByteArray) t137 a2 t152 t153 t154 _ A11.out).mono ?_); rintro e w63 ⟨rfl, hb⟩; refine ⟨_, rfl, ?_⟩; have n0_ := Aside0.mk (below_step (by repeat (first | (with_reducible first | exact HB.out | apply below_alloc | apply pw_below_drewN | apply below_drew1) | exact HB.out)) hb); clear HB; have HB := n0_; clear n0_; (try clear hb); (try clear hb2); (try clear hk); (try clear hi)) | ((with_reducible refine gate_callee (f := 9) rfl ?_); refine goesL_ (some 89) rfl rfl Tryd.func9 (by kernel_rfl) rfl #[.string (⟨#[42]⟩ : ByteArray), .int .i64 a0, .int .i64 a2] rfl (by (try simp only [List.map_toArray, List.map_cons, List.map_nil]); first | done | rfl | (simp only [List.length_drop, List.length_take]; rfl)) ?_; (with_reducible refine (num_Do.calls (⟨#[42]⟩ : ByteArray) a0 a2 t155 t156 t157 _ A12.out).mono ?_); rintro e w64 ⟨rfl, hb⟩; refine ⟨_, rfl, ?_⟩; have n0_ := Aside0.mk (below_step (by repeat (first | (with_reducible first | exact HB.out | apply below_alloc | apply pw_below_drewN | apply below_drew1) | exact HB.out)) hb); clear HB; have HB := n0_; clear n0_; (try clear hb); (try clear hb2); (try clear hk); (try clear hi)) | ((with_reducible refine gate_callee (f := 9) rfl ?_); refine goesL_ (some 96) rfl rfl Tryd.func9 (by kernel_rfl) rfl #[.string (⟨#[42]⟩ : ByteArray), .int .i64 a1, .int .i64 a2] rfl (by (try simp only [List.map_toArray, List.map_cons, List.map_nil]); first | done | rfl | (simp only [List.length_drop, List.length_take]; rfl)) ?_; (with_reducible refine (num_Do.calls (⟨#[42]⟩ : ByteArray) a1 a2 t158 t159 t160 _ A13.out).mono ?_); rintro e w65 ⟨rfl, hb⟩; refine ⟨_, rfl, ?_⟩; have n0_ := Aside0.mk (below_step (by repeat (first | (with_reducible first | exact HB.out | apply below_alloc | apply pw_below_drewN | apply below_drew1) | exact HB.out)) hb); clear HB; have HB := n0_; clear n0_; (try clear hb); (try clear hb2); (try clear hk); (try clear hi)) | ((with_reducible refine gate_callee (f := 9) rfl ?_); refine goesL_ (some 103) rfl rfl Tryd.func9 (by kernel_rfl) rfl #[.string (⟨#[43]⟩ : ByteArray), .int .i64 t155, .int .i64 t158] rfl (by (try simp only [List.map_toArray, List.map_cons, List.map_nil]); first | done | rfl | (simp only [List.length_drop, List.length_take]; rfl)) ?_; (with_reducible refine (num_Do.calls (⟨#[43]⟩ : ByteArray) t155 t158 t161 t162 t163 _ A14.out).mono ?_); rintro e w66 ⟨rfl, hb⟩; refine ⟨_, rfl, ?_⟩; have n0_ := Aside0.mk (below_step (by repeat (first | (with_reducible first | exact HB.out | apply below_alloc | apply pw_below_drewN | apply below_drew1) | exact HB.out)) hb); clear HB; have HB := n0_; clear n0_; (try clear hb); (try clear hb2); (try clear hk); (try clear hi)) | ((with_reducible refine gate_callee (f := 9) rfl ?_); refine goesL_ (some 110) rfl rfl Tryd.func9 (by kernel_rfl) rfl #[.string (⟨#[45]⟩ : ByteArray), .int .i64 t137, .int .i64 a1] rfl (by (try simp only [List.map_toArray, List.map_cons, List.map_nil]); first | done | rfl | (simp only [List.length_drop, List.length_take]; rfl)) ?_; (with_reducible refine (num_Do.calls (⟨#[45]⟩ : ByteArray) t137 a1 t164 t165 t166 _ A15.out).mono ?_); rintro e w67 ⟨rfl, hb⟩; refine ⟨_, rfl, ?_⟩; have n0_ := Aside0.mk (below_step (by repeat (first | (with_reducible first | exact HB.out | apply below_alloc | apply pw_below_drewN | apply below_drew1) | exact HB.out)) hb); clear HB; have HB := n0_; clear n0_; (try clear hb); (try clear hb2); (try clear hk); (try clear hi)) | ((with_reducible refine gate_callee (f := 9) rfl ?_); refine goesL_ (some 117) rfl rfl Tryd.func9 (by kernel_rfl) rfl #[.string (⟨#[42]⟩ : ByteArray), .int .i64 a2, .int .i64 t137] rfl (by (try simp only [List.map_toArray, List.map_cons, List.map_nil]); first | done | rfl | (simp only [List.length_drop, List.length_take]; rfl)) ?_; (with_reducible refine (num_Do.calls (⟨#[42]⟩ : ByteArray) a2 t137 t167 t168 t169 _ A16.out).mono ?_); rintro e w68 ⟨rfl, hb⟩; refine ⟨_, rfl, ?_⟩; have n0_ := Aside0.mk (below_step (by repeat (first | (with_reducible first | exact HB.out | apply below_alloc | apply pw_below_drewN | apply below_drew1) | exact HB.out)) hb); clear HB; have HB := n0_; clear n0_; (try clear hb); (try clear hb2); (try clear hk); (try clear hi)))
        go_ret
        exact ⟨by first | rfl | (simp [errW_none, errW_some] <;> rfl) | (simp [*, errW_none, errW_some] <;> rfl), by repeat (first | (with_reducible first | exact HB.out | apply below_alloc | apply pw_below_drewN | apply below_drew1) | exact HB.out)⟩
    · rw [if_neg c17] at H
      have c17b0 : (t137 == t140) = false := beq_eq_false_iff_ne.mpr c17
      have c17b1 : (t137 != t140) = true := bne_iff_ne.mpr c17
      obtain rfl := Option.some.inj H
      go_enter Tryd.func4, Tryd.ntmps4
      go_wp2_with (first | ((with_reducible refine gate_callee (f := 8) rfl ?_); refine goesL_ (some 41) rfl rfl Tryd.func8 (by kernel_rfl) rfl #[] rfl (by (try simp only [List.map_toArray, List.map_cons, List.map_nil]); first | done | rfl | (simp only [List.length_drop, List.length_take]; rfl)) ?_; (with_reducible refine (gristmilllaw2_first.calls  true _ ?side1 A4.out).mono ?_); (case side1 => exact GG.below hGG (by repeat (first | (with_reducible first | exact HB.out | apply below_alloc | apply pw_below_drewN | apply below_drew1) | exact HB.out))); rintro e w69 ⟨rfl, hb⟩; refine ⟨_, rfl, ?_⟩; have n0_ := Aside0.mk (below_step (by repeat (first | (with_reducible first | exact HB.out | apply below_alloc | apply pw_below_drewN | apply below_drew1) | exact HB.out)) hb); clear HB; have HB := n0_; clear n0_; (try clear hb); (try clear hb2); (try clear hk); (try clear hi)) | ((with_reducible refine gate_callee (f := 9) rfl ?_); refine goesL_ (some 47) rfl rfl Tryd.func9 (by kernel_rfl) rfl #[.string (⟨#[43]⟩ : ByteArray), .int .i64 a0, .int .i64 a1] rfl (by (try simp only [List.map_toArray, List.map_cons, List.map_nil]); first | done | rfl | (simp only [List.length_drop, List.length_take]; rfl)) ?_; (with_reducible refine (num_Do.calls (⟨#[43]⟩ : ByteArray) a0 a1 t137 t138 t139 _ A6.out).mono ?_); rintro e w70 ⟨rfl, hb⟩; refine ⟨_, rfl, ?_⟩; have n0_ := Aside0.mk (below_step (by repeat (first | (with_reducible first | exact HB.out | apply below_alloc | apply pw_below_drewN | apply below_drew1) | exact HB.out)) hb); clear HB; have HB := n0_; clear n0_; (try clear hb); (try clear hb2); (try clear hk); (try clear hi)) | ((with_reducible refine gate_callee (f := 9) rfl ?_); refine goesL_ (some 54) rfl rfl Tryd.func9 (by kernel_rfl) rfl #[.string (⟨#[43]⟩ : ByteArray), .int .i64 a1, .int .i64 a0] rfl (by (try simp only [List.map_toArray, List.map_cons, List.map_nil]); first | done | rfl | (simp only [List.length_drop, List.length_take]; rfl)) ?_; (with_reducible refine (num_Do.calls (⟨#[43]⟩ : ByteArray) a1 a0 t140 t141 t142 _ A7.out).mono ?_); rintro e w71 ⟨rfl, hb⟩; refine ⟨_, rfl, ?_⟩; have n0_ := Aside0.mk (below_step (by repeat (first | (with_reducible first | exact HB.out | apply below_alloc | apply pw_below_drewN | apply below_drew1) | exact HB.out)) hb); clear HB; have HB := n0_; clear n0_; (try clear hb); (try clear hb2); (try clear hk); (try clear hi)) | ((with_reducible refine gate_callee (f := 9) rfl ?_); refine goesL_ (some 61) rfl rfl Tryd.func9 (by kernel_rfl) rfl #[.string (⟨#[43]⟩ : ByteArray), .int .i64 t137, .int .i64 a2] rfl (by (try simp only [List.map_toArray, List.map_cons, List.map_nil]); first | done | rfl | (simp only [List.length_drop, List.length_take]; rfl)) ?_; (with_reducible refine (num_Do.calls (⟨#[43]⟩ : ByteArray) t137 a2 t143 t144 t145 _ A8.out).mono ?_); rintro e w72 ⟨rfl, hb⟩; refine ⟨_, rfl, ?_⟩; have n0_ := Aside0.mk (below_step (by repeat (first | (with_reducible first | exact HB.out | apply below_alloc | apply pw_below_drewN | apply below_drew1) | exact HB.out)) hb); clear HB; have HB := n0_; clear n0_; (try clear hb); (try clear hb2); (try clear hk); (try clear hi)) | ((with_reducible refine gate_callee (f := 9) rfl ?_); refine goesL_ (some 68) rfl rfl Tryd.func9 (by kernel_rfl) rfl #[.string (⟨#[43]⟩ : ByteArray), .int .i64 a1, .int .i64 a2] rfl (by (try simp only [List.map_toArray, List.map_cons, List.map_nil]); first | done | rfl | (simp only [List.length_drop, List.length_take]; rfl)) ?_; (with_reducible refine (num_Do.calls (⟨#[43]⟩ : ByteArray) a1 a2 t146 t147 t148 _ A9.out).mono ?_); rintro e w73 ⟨rfl, hb⟩; refine ⟨_, rfl, ?_⟩; have n0_ := Aside0.mk (below_step (by repeat (first | (with_reducible first | exact HB.out | apply below_alloc | apply pw_below_drewN | apply below_drew1) | exact HB.out)) hb); clear HB; have HB := n0_; clear n0_; (try clear hb); (try clear hb2); (try clear hk); (try clear hi)) | ((with_reducible refine gate_callee (f := 9) rfl ?_); refine goesL_ (some 75) rfl rfl Tryd.func9 (by kernel_rfl) rfl #[.string (⟨#[43]⟩ : ByteArray), .int .i64 a0, .int .i64 t146] rfl (by (try simp only [List.map_toArray, List.map_cons, List.map_nil]); first | done | rfl | (simp only [List.length_drop, List.length_take]; rfl)) ?_; (with_reducible refine (num_Do.calls (⟨#[43]⟩ : ByteArray) a0 t146 t149 t150 t151 _ A10.out).mono ?_); rintro e w74 ⟨rfl, hb⟩; refine ⟨_, rfl, ?_⟩; have n0_ := Aside0.mk (below_step (by repeat (first | (with_reducible first | exact HB.out | apply below_alloc | apply pw_below_drewN | apply below_drew1) | exact HB.out)) hb); clear HB; have HB := n0_; clear n0_; (try clear hb); (try clear hb2); (try clear hk); (try clear hi)) | ((with_reducible refine gate_callee (f := 9) rfl ?_); refine goesL_ (some 82) rfl rfl Tryd.func9 (by kernel_rfl) rfl #[.string (⟨#[42]⟩ : ByteArray), .int .i64 t137, .int .i64 a2] rfl (by (try simp only [List.map_toArray, List.map_cons, List.map_nil]); first | done | rfl | (simp only [List.length_drop, List.length_take]; rfl)) ?_; (with_reducible refine (num_Do.calls (⟨#[42]⟩ : ByteArray) t137 a2 t152 t153 t154 _ A11.out).mono ?_); rintro e w75 ⟨rfl, hb⟩; refine ⟨_, rfl, ?_⟩; have n0_ := Aside0.mk (below_step (by repeat (first | (with_reducible first | exact HB.out | apply below_alloc | apply pw_below_drewN | apply below_drew1) | exact HB.out)) hb); clear HB; have HB := n0_; clear n0_; (try clear hb); (try clear hb2); (try clear hk); (try clear hi)) | ((with_reducible refine gate_callee (f := 9) rfl ?_); refine goesL_ (some 89) rfl rfl Tryd.func9 (by kernel_rfl) rfl #[.string (⟨#[42]⟩ : ByteArray), .int .i64 a0, .int .i64 a2] rfl (by (try simp only [List.map_toArray, List.map_cons, List.map_nil]); first | done | rfl | (simp only [List.length_drop, List.length_take]; rfl)) ?_; (with_reducible refine (num_Do.calls (⟨#[42]⟩ : ByteArray) a0 a2 t155 t156 t157 _ A12.out).mono ?_); rintro e w76 ⟨rfl, hb⟩; refine ⟨_, rfl, ?_⟩; have n0_ := Aside0.mk (below_step (by repeat (first | (with_reducible first | exact HB.out | apply below_alloc | apply pw_below_drewN | apply below_drew1) | exact HB.out)) hb); clear HB; have HB := n0_; clear n0_; (try clear hb); (try clear hb2); (try clear hk); (try clear hi)) | ((with_reducible refine gate_callee (f := 9) rfl ?_); refine goesL_ (some 96) rfl rfl Tryd.func9 (by kernel_rfl) rfl #[.string (⟨#[42]⟩ : ByteArray), .int .i64 a1, .int .i64 a2] rfl (by (try simp only [List.map_toArray, List.map_cons, List.map_nil]); first | done | rfl | (simp only [List.length_drop, List.length_take]; rfl)) ?_; (with_reducible refine (num_Do.calls (⟨#[42]⟩ : ByteArray) a1 a2 t158 t159 t160 _ A13.out).mono ?_); rintro e w77 ⟨rfl, hb⟩; refine ⟨_, rfl, ?_⟩; have n0_ := Aside0.mk (below_step (by repeat (first | (with_reducible first | exact HB.out | apply below_alloc | apply pw_below_drewN | apply below_drew1) | exact HB.out)) hb); clear HB; have HB := n0_; clear n0_; (try clear hb); (try clear hb2); (try clear hk); (try clear hi)) | ((with_reducible refine gate_callee (f := 9) rfl ?_); refine goesL_ (some 103) rfl rfl Tryd.func9 (by kernel_rfl) rfl #[.string (⟨#[43]⟩ : ByteArray), .int .i64 t155, .int .i64 t158] rfl (by (try simp only [List.map_toArray, List.map_cons, List.map_nil]); first | done | rfl | (simp only [List.length_drop, List.length_take]; rfl)) ?_; (with_reducible refine (num_Do.calls (⟨#[43]⟩ : ByteArray) t155 t158 t161 t162 t163 _ A14.out).mono ?_); rintro e w78 ⟨rfl, hb⟩; refine ⟨_, rfl, ?_⟩; have n0_ := Aside0.mk (below_step (by repeat (first | (with_reducible first | exact HB.out | apply below_alloc | apply pw_below_drewN | apply below_drew1) | exact HB.out)) hb); clear HB; have HB := n0_; clear n0_; (try clear hb); (try clear hb2); (try clear hk); (try clear hi)) | ((with_reducible refine gate_callee (f := 9) rfl ?_); refine goesL_ (some 110) rfl rfl Tryd.func9 (by kernel_rfl) rfl #[.string (⟨#[45]⟩ : ByteArray), .int .i64 t137, .int .i64 a1] rfl (by (try simp only [List.map_toArray, List.map_cons, List.map_nil]); first | done | rfl | (simp only [List.length_drop, List.length_take]; rfl)) ?_; (with_reducible refine (num_Do.calls (⟨#[45]⟩ : ByteArray) t137 a1 t164 t165 t166 _ A15.out).mono ?_); rintro e w79 ⟨rfl, hb⟩; refine ⟨_, rfl, ?_⟩; have n0_ := Aside0.mk (below_step (by repeat (first | (with_reducible first | exact HB.out | apply below_alloc | apply pw_below_drewN | apply below_drew1) | exact HB.out)) hb); clear HB; have HB := n0_; clear n0_; (try clear hb); (try clear hb2); (try clear hk); (try clear hi)) | ((with_reducible refine gate_callee (f := 9) rfl ?_); refine goesL_ (some 117) rfl rfl Tryd.func9 (by kernel_rfl) rfl #[.string (⟨#[42]⟩ : ByteArray), .int .i64 a2, .int .i64 t137] rfl (by (try simp only [List.map_toArray, List.map_cons, List.map_nil]); first | done | rfl | (simp only [List.length_drop, List.length_take]; rfl)) ?_; (with_reducible refine (num_Do.calls (⟨#[42]⟩ : ByteArray) a2 t137 t167 t168 t169 _ A16.out).mono ?_); rintro e w80 ⟨rfl, hb⟩; refine ⟨_, rfl, ?_⟩; have n0_ := Aside0.mk (below_step (by repeat (first | (with_reducible first | exact HB.out | apply below_alloc | apply pw_below_drewN | apply below_drew1) | exact HB.out)) hb); clear HB; have HB := n0_; clear n0_; (try clear hb); (try clear hb2); (try clear hk); (try clear hi)))
      go_ret
      exact ⟨by first | rfl | (simp [errW_none, errW_some] <;> rfl) | (simp [*, errW_none, errW_some] <;> rfl), by repeat (first | (with_reducible first | exact HB.out | apply below_alloc | apply pw_below_drewN | apply below_drew1) | exact HB.out)⟩
  · replace c5 := Bool.eq_false_iff.mpr c5
    subst c5
    have H1 : (some false) = some r := by rw [if_neg (show ¬ (false = true) by decide)] at H; exact H
    clear H
    have H := H1
    clear H1
    obtain rfl := Option.some.inj H
    go_enter Tryd.func4, Tryd.ntmps4
    go_wp2_with (first | ((with_reducible refine gate_callee (f := 8) rfl ?_); refine goesL_ (some 41) rfl rfl Tryd.func8 (by kernel_rfl) rfl #[] rfl (by (try simp only [List.map_toArray, List.map_cons, List.map_nil]); first | done | rfl | (simp only [List.length_drop, List.length_take]; rfl)) ?_; (with_reducible refine (gristmilllaw2_first.calls  false _ ?side1 A4.out).mono ?_); (case side1 => exact GG.below hGG (by repeat (first | (with_reducible first | exact HB.out | apply below_alloc | apply pw_below_drewN | apply below_drew1) | exact HB.out))); rintro e w81 ⟨rfl, hb⟩; refine ⟨_, rfl, ?_⟩; have n0_ := Aside0.mk (below_step (by repeat (first | (with_reducible first | exact HB.out | apply below_alloc | apply pw_below_drewN | apply below_drew1) | exact HB.out)) hb); clear HB; have HB := n0_; clear n0_; (try clear hb); (try clear hb2); (try clear hk); (try clear hi)))
    go_ret
    exact ⟨by first | rfl | (simp [errW_none, errW_some] <;> rfl) | (simp [*, errW_none, errW_some] <;> rfl), by repeat (first | (with_reducible first | exact HB.out | apply below_alloc | apply pw_below_drewN | apply below_drew1) | exact HB.out)⟩

/-- THE ONE PURE STATEMENT of gristmilllaw2_NumRing: yours. -/
def gristmilllaw2_NumRing.Pure : Prop := ∀ (a0 : Int) (a1 : Int) (a2 : Int), (Lit.int .i64 a0).wf = true → (Lit.int .i64 a1).wf = true → (Lit.int .i64 a2).wf = true → gristmilllaw2_NumRing.f a0 a1 a2 = some true
theorem gristmilllaw2_NumRing.walk (P : gristmilllaw2_NumRing.Pure) (a0 : Int) (a1 : Int) (a2 : Int) (w : World) (w0 : (Lit.int .i64 a0).wf = true) (w1 : (Lit.int .i64 a1).wf = true) (w2 : (Lit.int .i64 a2).wf = true) (hGG : GG w) :
    Calls Tryd.prog 4 #[.int .i64 a0, .int .i64 a1, .int .i64 a2] w fun e w' => e = .returned (.bool true) ∧ Below w.heap.size w w' := by
  have h := P a0 a1 a2 w0 w1 w2
  refine (gristmilllaw2_NumRing.calls a0 a1 a2 true w hGG h).mono ?_
  rintro e w' ⟨rfl, hd⟩
  exact ⟨rfl, hd⟩

/-! ### num_Prims: function 10 -/
def num_Prims.f  : Option (List ByteArray) := some (([(⟨#[43]⟩ : ByteArray), (⟨#[45]⟩ : ByteArray), (⟨#[42]⟩ : ByteArray), (⟨#[100, 105, 118]⟩ : ByteArray), (⟨#[109, 111, 100]⟩ : ByteArray), (⟨#[60]⟩ : ByteArray), (⟨#[61]⟩ : ByteArray), (⟨#[102, 43]⟩ : ByteArray), (⟨#[102, 45]⟩ : ByteArray), (⟨#[102, 42]⟩ : ByteArray), (⟨#[102, 47]⟩ : ByteArray), (⟨#[102, 60]⟩ : ByteArray), (⟨#[102, 61]⟩ : ByteArray), (⟨#[102, 108, 111, 97, 116]⟩ : ByteArray), (⟨#[119, 104, 111, 108, 101]⟩ : ByteArray), (⟨#[115, 101, 113]⟩ : ByteArray)] : List ByteArray))
set_option maxHeartbeats 8000000 in
set_option maxRecDepth 100000 in
theorem num_Prims.calls  (r : List ByteArray) (w : World) (h : num_Prims.f  = some r) :
    Calls Tryd.prog 10 #[] w fun e w' => ∃ v0_ : Value, e = .returned (v0_) ∧ Kd.R Kd.string 9 w' w.heap.size (fun _ => True) v0_ r ∧ Below w.heap.size w w' := by
  have HB := Aside0.mk (Below.refl w.heap.size w)
  have H : (some (([(⟨#[43]⟩ : ByteArray), (⟨#[45]⟩ : ByteArray), (⟨#[42]⟩ : ByteArray), (⟨#[100, 105, 118]⟩ : ByteArray), (⟨#[109, 111, 100]⟩ : ByteArray), (⟨#[60]⟩ : ByteArray), (⟨#[61]⟩ : ByteArray), (⟨#[102, 43]⟩ : ByteArray), (⟨#[102, 45]⟩ : ByteArray), (⟨#[102, 42]⟩ : ByteArray), (⟨#[102, 47]⟩ : ByteArray), (⟨#[102, 60]⟩ : ByteArray), (⟨#[102, 61]⟩ : ByteArray), (⟨#[102, 108, 111, 97, 116]⟩ : ByteArray), (⟨#[119, 104, 111, 108, 101]⟩ : ByteArray), (⟨#[115, 101, 113]⟩ : ByteArray)] : List ByteArray))) = some r := h
  clear h
  obtain ⟨y170, hy170⟩ : ∃ y_ : List ByteArray, y_ = (([(⟨#[43]⟩ : ByteArray), (⟨#[45]⟩ : ByteArray), (⟨#[42]⟩ : ByteArray), (⟨#[100, 105, 118]⟩ : ByteArray), (⟨#[109, 111, 100]⟩ : ByteArray), (⟨#[60]⟩ : ByteArray), (⟨#[61]⟩ : ByteArray), (⟨#[102, 43]⟩ : ByteArray), (⟨#[102, 45]⟩ : ByteArray), (⟨#[102, 42]⟩ : ByteArray), (⟨#[102, 47]⟩ : ByteArray), (⟨#[102, 60]⟩ : ByteArray), (⟨#[102, 61]⟩ : ByteArray), (⟨#[102, 108, 111, 97, 116]⟩ : ByteArray), (⟨#[119, 104, 111, 108, 101]⟩ : ByteArray), (⟨#[115, 101, 113]⟩ : ByteArray)] : List ByteArray)) := ⟨_, rfl⟩
  replace H : (some y170) = some r := by first | (rw [hy170]; with_reducible exact H) | (have H2_ := (Option.bind_some _ _).symm.trans H; rw [hy170]; with_reducible exact H2_) | (have H2_ := (Option.bind_some _ _).symm.trans H; with_reducible exact H2_) | with_reducible exact H | (rw [hy170]; exact H) | exact H
  have Ny170 := Aside0.mk hy170
  clear hy170
  obtain rfl := Option.some.inj H
  go_enter Tryd.func10, Tryd.ntmps10
  go_wp2_with (first | ((with_reducible refine gate_dst (N := 1) rfl ?_); refine Kd.R_lit Kd.string _ 9 ?hg (N := 1) ?hd (xs := ([(⟨#[43]⟩ : ByteArray), (⟨#[45]⟩ : ByteArray), (⟨#[42]⟩ : ByteArray), (⟨#[100, 105, 118]⟩ : ByteArray), (⟨#[109, 111, 100]⟩ : ByteArray), (⟨#[60]⟩ : ByteArray), (⟨#[61]⟩ : ByteArray), (⟨#[102, 43]⟩ : ByteArray), (⟨#[102, 45]⟩ : ByteArray), (⟨#[102, 42]⟩ : ByteArray), (⟨#[102, 47]⟩ : ByteArray), (⟨#[102, 60]⟩ : ByteArray), (⟨#[102, 61]⟩ : ByteArray), (⟨#[102, 108, 111, 97, 116]⟩ : ByteArray), (⟨#[119, 104, 111, 108, 101]⟩ : ByteArray), (⟨#[115, 101, 113]⟩ : ByteArray)] : List ByteArray)) (inner := [.string (⟨#[43]⟩ : ByteArray), .string (⟨#[45]⟩ : ByteArray), .string (⟨#[42]⟩ : ByteArray), .string (⟨#[100, 105, 118]⟩ : ByteArray), .string (⟨#[109, 111, 100]⟩ : ByteArray), .string (⟨#[60]⟩ : ByteArray), .string (⟨#[61]⟩ : ByteArray), .string (⟨#[102, 43]⟩ : ByteArray), .string (⟨#[102, 45]⟩ : ByteArray), .string (⟨#[102, 42]⟩ : ByteArray), .string (⟨#[102, 47]⟩ : ByteArray), .string (⟨#[102, 60]⟩ : ByteArray), .string (⟨#[102, 61]⟩ : ByteArray), .string (⟨#[102, 108, 111, 97, 116]⟩ : ByteArray), .string (⟨#[119, 104, 111, 108, 101]⟩ : ByteArray), .string (⟨#[115, 101, 113]⟩ : ByteArray)]) (ok := fun _ => True) (okp := fun _ => True) ?hr ?hp (fun _ hk => hk) trivial (Below.refl _ _) (Nat.le_refl _) (by simp) ?_; (case hd => rfl); (case hg => rfl); (case hr => first | (go_simp; done) | (go_simp; rfl)); (case hp => exact (Reps.one (show Kd.M Kd.string _ _ _ (⟨#[43]⟩ : ByteArray) [.string (⟨#[43]⟩ : ByteArray)] from rfl) (Reps.one (show Kd.M Kd.string _ _ _ (⟨#[45]⟩ : ByteArray) [.string (⟨#[45]⟩ : ByteArray)] from rfl) (Reps.one (show Kd.M Kd.string _ _ _ (⟨#[42]⟩ : ByteArray) [.string (⟨#[42]⟩ : ByteArray)] from rfl) (Reps.one (show Kd.M Kd.string _ _ _ (⟨#[100, 105, 118]⟩ : ByteArray) [.string (⟨#[100, 105, 118]⟩ : ByteArray)] from rfl) (Reps.one (show Kd.M Kd.string _ _ _ (⟨#[109, 111, 100]⟩ : ByteArray) [.string (⟨#[109, 111, 100]⟩ : ByteArray)] from rfl) (Reps.one (show Kd.M Kd.string _ _ _ (⟨#[60]⟩ : ByteArray) [.string (⟨#[60]⟩ : ByteArray)] from rfl) (Reps.one (show Kd.M Kd.string _ _ _ (⟨#[61]⟩ : ByteArray) [.string (⟨#[61]⟩ : ByteArray)] from rfl) (Reps.one (show Kd.M Kd.string _ _ _ (⟨#[102, 43]⟩ : ByteArray) [.string (⟨#[102, 43]⟩ : ByteArray)] from rfl) (Reps.one (show Kd.M Kd.string _ _ _ (⟨#[102, 45]⟩ : ByteArray) [.string (⟨#[102, 45]⟩ : ByteArray)] from rfl) (Reps.one (show Kd.M Kd.string _ _ _ (⟨#[102, 42]⟩ : ByteArray) [.string (⟨#[102, 42]⟩ : ByteArray)] from rfl) (Reps.one (show Kd.M Kd.string _ _ _ (⟨#[102, 47]⟩ : ByteArray) [.string (⟨#[102, 47]⟩ : ByteArray)] from rfl) (Reps.one (show Kd.M Kd.string _ _ _ (⟨#[102, 60]⟩ : ByteArray) [.string (⟨#[102, 60]⟩ : ByteArray)] from rfl) (Reps.one (show Kd.M Kd.string _ _ _ (⟨#[102, 61]⟩ : ByteArray) [.string (⟨#[102, 61]⟩ : ByteArray)] from rfl) (Reps.one (show Kd.M Kd.string _ _ _ (⟨#[102, 108, 111, 97, 116]⟩ : ByteArray) [.string (⟨#[102, 108, 111, 97, 116]⟩ : ByteArray)] from rfl) (Reps.one (show Kd.M Kd.string _ _ _ (⟨#[119, 104, 111, 108, 101]⟩ : ByteArray) [.string (⟨#[119, 104, 111, 108, 101]⟩ : ByteArray)] from rfl) (Reps.one (show Kd.M Kd.string _ _ _ (⟨#[115, 101, 113]⟩ : ByteArray) [.string (⟨#[115, 101, 113]⟩ : ByteArray)] from rfl) (Reps.none _ _)))))))))))))))))); intro v171 w1 ho2 hb hg_ hnew_; clear hg_ hnew_; (first | rw [← Ny170.out] at ho2 | (simp only [Int.reduceToNat] at ho2; rw [← Ny170.out] at ho2)); have n0_ := Aside0.mk (Kd.R_lower ho2 (below_size (by repeat (first | (with_reducible first | exact HB.out | apply below_alloc | apply pw_below_drewN | apply below_drew1) | exact HB.out)))); have n1_ := Aside0.mk (below_step (by repeat (first | (with_reducible first | exact HB.out | apply below_alloc | apply pw_below_drewN | apply below_drew1) | exact HB.out)) hb); clear HB; have HO172 := n0_; have HB := n1_; clear n0_ n1_; clear hb ho2))
  go_ret
  exact ⟨_, by first | rfl | (simp [errW_none, errW_some] <;> rfl) | (simp [*, errW_none, errW_some] <;> rfl), by (with_reducible repeat (first | apply Kd.R_alloc | apply Kd.R_drewN | apply Kd.R_drew)); exact HO172.out, by repeat (first | (with_reducible first | exact HB.out | apply below_alloc | apply pw_below_drewN | apply below_drew1) | exact HB.out)⟩

/-! ### slices_Index_string_string: function 34 -/
def slices_Index_string_string.l0 : Nat → List ByteArray → ByteArray → Int → Int → Option (Int)
  | 0, _, _, _, _ => none
  | k + 1, x0, x1, x7, x8 => if x8 < x7 then (if 0 ≤ x8 then (if x8 < (x0.length : Int) then (if x1.toList = (rdOf ByteArray.empty x0 x8).toList then (some x8) else (slices_Index_string_string.l0 k x0 x1 x7 (wrap64 (x8 + 1)))) else (none)) else (none)) else (some (-1))
def slices_Index_string_string.f (k : Nat) (l0 : List ByteArray) (a1 : ByteArray) : Option (Int) := slices_Index_string_string.l0 k l0 a1 (l0.length : Int) 0
theorem slices_Index_string_string.mono_l : ∀ k, (∀ y0 y1 y2 y3, LeO (slices_Index_string_string.l0 k y0 y1 y2 y3) (slices_Index_string_string.l0 (k + 1) y0 y1 y2 y3))
  | 0 => fun _ _ _ _ r h => by simp [slices_Index_string_string.l0] at h
  | k + 1 => by
    have ih0 := slices_Index_string_string.mono_l k
    · intro y0 y1 y2 y3
      unfold slices_Index_string_string.l0
      repeat' first
      | (with_reducible exact ih0 _ _ _ _)
      | (with_reducible exact LeO.refl _)
      | (with_reducible exact LeO.none _)
      | (with_reducible refine LeO.ite ?_ ?_)
      | (with_reducible refine LeO.bind ?_ (fun _ => ?_))
      | exact ih0 _ _ _ _
      | exact LeO.none _
      | refine LeO.ite ?_ ?_
      | refine LeO.bind ?_ (fun _ => ?_)
theorem slices_Index_string_string.mono : ∀ a0 a1 k, LeO (slices_Index_string_string.f k a0 a1) (slices_Index_string_string.f (k + 1) a0 a1) := by
  intro a0 a1 k
  have ih0 := slices_Index_string_string.mono_l k
  unfold slices_Index_string_string.f
  repeat' first
      | (with_reducible exact ih0 _ _ _ _)
      | (with_reducible exact LeO.refl _)
      | (with_reducible exact LeO.none _)
      | (with_reducible refine LeO.ite ?_ ?_)
      | (with_reducible refine LeO.bind ?_ (fun _ => ?_))
      | exact ih0 _ _ _ _
      | exact LeO.none _
      | refine LeO.ite ?_ ?_
      | refine LeO.bind ?_ (fun _ => ?_)
set_option maxHeartbeats 8000000 in
set_option maxRecDepth 100000 in
theorem slices_Index_string_string.calls (k : Nat) (A0 : Option Addr) (c0 : Nat) (l0 : List ByteArray) (a1 : ByteArray) (r : Int) (w : World) (hr0 : Kd.C Kd.string w A0 l0.length l0) (hc0 : l0.length ≤ c0) (h : slices_Index_string_string.f k l0 a1 = some r) :
    Calls Tryd.prog 34 #[.slice A0 l0.length c0, .string a1] w fun e w' => e = .returned (.int .i64 r) ∧ Drawn0 w w' := by
  have HR0 := Aside0.mk hr0
  have HC0 := Aside0.mk hc0
  clear hr0 hc0
  have H : (slices_Index_string_string.l0 k l0 a1 (l0.length : Int) 0) = some r := h
  clear h
  have H' := Aside0.mk H
  clear H
  go_enter Tryd.func34, Tryd.ntmps34
  go_wp2
  go_loopg [8] k (fun kq v8 w' => ∃ (x8_1 : Int), v8 = .int .i64 x8_1 ∧ Aside0 (slices_Index_string_string.l0 kq l0 a1 (l0.length : Int) x8_1 = some r) ∧ Aside0 (kq ≤ k) ∧ Drawn0 w w')
  case atStart => exact ⟨(0), (by first | rfl | (simp; done) | (simp [*]; done)), H', ⟨Nat.le_refl _⟩, by repeat (first | exact Drawn0.refl _ | apply Drawn0.step)⟩
  case round =>
    clear H'
    try clear p2
    obtain ⟨x8_1, rfl, HA, HK1, ⟨m1, rfl⟩⟩ := hrel
    cases gk with
    | zero => exact absurd HA.out (by simp [slices_Index_string_string.l0])
    | succ k1 =>
      have H := HA.out
      clear HA
      simp only [slices_Index_string_string.l0] at H
      by_cases c3 : x8_1 < (l0.length : Int)
      · rw [if_pos c3] at H
        have c3b0 : decide (x8_1 < (l0.length : Int)) = true := decide_eq_true c3
        clear c3
        by_cases c4 : 0 ≤ x8_1
        · rw [if_pos c4] at H
          have c4b0 : decide (0 ≤ x8_1) = true := decide_eq_true c4
          clear c4
          by_cases c5 : x8_1 < (l0.length : Int)
          · rw [if_pos c5] at H
            have c5b0 : decide (x8_1 < (l0.length : Int)) = true := decide_eq_true c5
            clear c5
            by_cases c6 : a1.toList = (rdOf ByteArray.empty l0 x8_1).toList
            · rw [if_pos c6] at H
              have c6b0 : (a1.toList == (rdOf ByteArray.empty l0 x8_1).toList) = true := beq_iff_eq.mpr c6
              have c6b1 : (a1.toList != (rdOf ByteArray.empty l0 x8_1).toList) = false := bne_eq_false_iff_eq.mpr c6
              clear c6
              obtain rfl := Option.some.inj H
              have p173 : 0 ≤ (x8_1 : Int) := of_decide_eq_true (by first | (with_reducible assumption) | assumption)
              have q173 : x8_1 < (l0.length : Int) := of_decide_eq_true (by first | (with_reducible assumption) | assumption)
              obtain ⟨ad173, e173, hx173_0⟩ := Kd.at_string HR0.out x8_1 p173 q173
              cases e173
              replace p173 := eq_true p173
              replace q173 := eq_true q173
              go_wp2
              go_ret
              exact ⟨by first | rfl | (simp; done) | (simp [*]; done), by repeat (first | exact Drawn0.refl _ | apply Drawn0.step)⟩
            · rw [if_neg c6] at H
              have c6b0 : (a1.toList == (rdOf ByteArray.empty l0 x8_1).toList) = false := beq_eq_false_iff_ne.mpr c6
              have c6b1 : (a1.toList != (rdOf ByteArray.empty l0 x8_1).toList) = true := bne_iff_ne.mpr c6
              have H' := Aside0.mk H
              clear H
              have p173 : 0 ≤ (x8_1 : Int) := of_decide_eq_true (by first | (with_reducible assumption) | assumption)
              have q173 : x8_1 < (l0.length : Int) := of_decide_eq_true (by first | (with_reducible assumption) | assumption)
              obtain ⟨ad173, e173, hx173_0⟩ := Kd.at_string HR0.out x8_1 p173 q173
              cases e173
              replace p173 := eq_true p173
              replace q173 := eq_true q173
              go_wp2
              go_roundg k1
              case measure => have := HK1.out; omega
              case rel => exact ⟨(wrap64 (x8_1 + 1)), (by first | rfl | (simp; done) | (simp [*]; done)), H', ⟨by have := HK1.out; omega⟩, by repeat (first | exact Drawn0.refl _ | apply Drawn0.step)⟩
          · rw [if_neg c5] at H
            exact absurd H (by simp)
        · rw [if_neg c4] at H
          exact absurd H (by simp)
      · rw [if_neg c3] at H
        have c3b0 : decide (x8_1 < (l0.length : Int)) = false := decide_eq_false c3
        clear c3
        obtain rfl := Option.some.inj H
        go_wp2
        go_ret
        exact ⟨by first | rfl | (simp; done) | (simp [*]; done), by repeat (first | exact Drawn0.refl _ | apply Drawn0.step)⟩

/-! ### slices_Contains_string_string: function 26 -/
def slices_Contains_string_string.f (k : Nat) (l0 : List ByteArray) (a1 : ByteArray) : Option (Bool) := (slices_Index_string_string.f k l0 a1).bind fun t174 => (some (decide (t174 ≥ 0)))
theorem slices_Contains_string_string.mono : ∀ a0 a1 k, LeO (slices_Contains_string_string.f k a0 a1) (slices_Contains_string_string.f (k + 1) a0 a1) := by
  intro a0 a1 k
  unfold slices_Contains_string_string.f
  repeat' first
      | (with_reducible exact slices_Index_string_string.mono _ _ _)
      | (with_reducible exact LeO.refl _)
      | (with_reducible exact LeO.none _)
      | (with_reducible refine LeO.ite ?_ ?_)
      | (with_reducible refine LeO.bind ?_ (fun _ => ?_))
      | exact slices_Index_string_string.mono _ _ _
      | exact LeO.none _
      | refine LeO.ite ?_ ?_
      | refine LeO.bind ?_ (fun _ => ?_)
set_option maxHeartbeats 8000000 in
set_option maxRecDepth 100000 in
theorem slices_Contains_string_string.calls (k : Nat) (A0 : Option Addr) (c0 : Nat) (l0 : List ByteArray) (a1 : ByteArray) (r : Bool) (w : World) (hr0 : Kd.C Kd.string w A0 l0.length l0) (hc0 : l0.length ≤ c0) (h : slices_Contains_string_string.f k l0 a1 = some r) :
    Calls Tryd.prog 26 #[.slice A0 l0.length c0, .string a1] w fun e w' => e = .returned (.bool r) ∧ Drawn0 w w' := by
  have HR0 := Aside0.mk hr0
  have HC0 := Aside0.mk hc0
  clear hr0 hc0
  have H : ((slices_Index_string_string.f k l0 a1).bind fun t174 => (some (decide (t174 ≥ 0)))) = some r := h
  clear h
  replace H := Option.bind_eq_some_iff.mp H
  obtain ⟨t174, A30, H⟩ := H
  replace H : (some (decide (t174 ≥ 0))) = some r := H
  have A3 := Aside0.mk A30
  clear A30
  obtain rfl := Option.some.inj H
  go_enter Tryd.func26, Tryd.ntmps26
  go_wp2_with (first | ((with_reducible refine gate_callee (f := 34) rfl ?_); refine goesL_ (some 7) rfl rfl Tryd.func34 (by kernel_rfl) rfl #[.slice A0 l0.length c0, .string a1] rfl (by (try simp only [List.map_toArray, List.map_cons, List.map_nil]); first | done | rfl | (simp only [List.length_drop, List.length_take]; rfl)) ?_; (with_reducible refine (slices_Index_string_string.calls k _ _ l0 a1 t174 _ ?side1 ?side2 A3.out).mono ?_); (case side1 => repeat (first | exact HR0.out | (with_reducible refine Kd.C_alloc ?_ _) | (with_reducible refine Kd.C_drewN ?_ _) | (with_reducible refine Kd.C_drew ?_))); (case side2 => exact HC0.out); rintro e w' ⟨rfl, ⟨nd, rfl⟩⟩; refine ⟨_, rfl, ?_⟩))
  go_ret
  exact ⟨by first | rfl | (simp; done) | (simp [*]; done), by repeat (first | exact Drawn0.refl _ | apply Drawn0.step)⟩

/-! ### num_Arity: function 11 -/
def num_Arity.j0 : Nat → ByteArray → Bool → Option (Int × Bool)
  | 0, _, _ => none
  | k + 1, x0, x4 => if x4 = true then (some (1, true)) else ((num_Prims.f).bind fun t175 => ((slices_Contains_string_string.f k t175 x0).bind fun t178 => (if t178 = true then (some (2, true)) else (some (0, false)))))
def num_Arity.f (k : Nat) (a0 : ByteArray) : Option (Int × Bool) := if a0.toList = ([102, 108, 111, 97, 116] : List UInt8) then (num_Arity.j0 k a0 true) else (num_Arity.j0 k a0 (a0.toList == ([119, 104, 111, 108, 101] : List UInt8)))
theorem num_Arity.mono_l : ∀ k, (∀ y0 y1, LeO (num_Arity.j0 k y0 y1) (num_Arity.j0 (k + 1) y0 y1))
  | 0 => fun _ _ r h => by simp [num_Arity.j0] at h
  | k + 1 => by
    have ih0 := num_Arity.mono_l k
    · intro y0 y1
      unfold num_Arity.j0
      repeat' first
      | (with_reducible exact ih0 _ _)
      | (with_reducible exact slices_Contains_string_string.mono _ _ _)
      | (with_reducible exact LeO.refl _)
      | (with_reducible exact LeO.none _)
      | (with_reducible refine LeO.ite ?_ ?_)
      | (with_reducible refine LeO.bind ?_ (fun _ => ?_))
      | exact ih0 _ _
      | exact slices_Contains_string_string.mono _ _ _
      | exact LeO.none _
      | refine LeO.ite ?_ ?_
      | refine LeO.bind ?_ (fun _ => ?_)
theorem num_Arity.mono : ∀ a0 k, LeO (num_Arity.f k a0) (num_Arity.f (k + 1) a0) := by
  intro a0 k
  have ih0 := num_Arity.mono_l k
  unfold num_Arity.f
  repeat' first
      | (with_reducible exact ih0 _ _)
      | (with_reducible exact slices_Contains_string_string.mono _ _ _)
      | (with_reducible exact LeO.refl _)
      | (with_reducible exact LeO.none _)
      | (with_reducible refine LeO.ite ?_ ?_)
      | (with_reducible refine LeO.bind ?_ (fun _ => ?_))
      | exact ih0 _ _
      | exact slices_Contains_string_string.mono _ _ _
      | exact LeO.none _
      | refine LeO.ite ?_ ?_
      | refine LeO.bind ?_ (fun _ => ?_)
set_option maxHeartbeats 8000000 in
set_option maxRecDepth 100000 in
theorem num_Arity.calls (k : Nat) (a0 : ByteArray) (r1 : Int) (r2 : Bool) (w : World) (h : num_Arity.f k a0 = some (r1, r2)) :
    Calls Tryd.prog 11 #[.string a0] w fun e w' => e = .returned (.tuple #[.int .i64 r1, .bool r2]) ∧ Below w.heap.size w w' := by
  have HB := Aside0.mk (Below.refl w.heap.size w)
  have H : (if a0.toList = ([102, 108, 111, 97, 116] : List UInt8) then (num_Arity.j0 k a0 true) else (num_Arity.j0 k a0 (a0.toList == ([119, 104, 111, 108, 101] : List UInt8)))) = some (r1, r2) := h
  clear h
  have HC2 := Aside0.mk H
  clear H
  go_enter Tryd.func11, Tryd.ntmps11
  go_upto_region 1 with (fail)
  go_cut [4] (fun v4 wc => ∃ (kq : Nat) (x4_1 : Bool), v4 = .bool x4_1 ∧ Aside0 (num_Arity.j0 kq a0 x4_1 = some (r1, r2)) ∧ Aside0 (kq ≤ k) ∧ Aside0 (Below w.heap.size w wc))
  case first =>
    have H := HC2.out
    clear HC2
    by_cases c3 : a0.toList = ([102, 108, 111, 97, 116] : List UInt8)
    · rw [if_pos c3] at H
      have c3b0 : (a0.toList == ([102, 108, 111, 97, 116] : List UInt8)) = true := beq_iff_eq.mpr c3
      have c3b1 : (a0.toList != ([102, 108, 111, 97, 116] : List UInt8)) = false := bne_eq_false_iff_eq.mpr c3
      clear c3
      (first | rw [c3b0] | (simp only [i64_w, i32_w]; rw [c3b0]) | skip)
      have H' := Aside0.mk H
      clear H
      go_wp2
      go_meet
      case rel => exact ⟨_, (true), (by first | rfl | (simp; done) | (simp [*]; done)), H', ⟨by first | omega | exact Nat.le_refl _⟩, ⟨by repeat (first | (with_reducible first | exact HB.out | apply below_alloc | apply pw_below_drewN | apply below_drew1) | exact HB.out)⟩⟩
    · rw [if_neg c3] at H
      have c3b0 : (a0.toList == ([102, 108, 111, 97, 116] : List UInt8)) = false := beq_eq_false_iff_ne.mpr c3
      have c3b1 : (a0.toList != ([102, 108, 111, 97, 116] : List UInt8)) = true := bne_iff_ne.mpr c3
      (first | rw [c3b0] | (simp only [i64_w, i32_w]; rw [c3b0]) | skip)
      have H' := Aside0.mk H
      clear H
      go_wp2
      go_meet
      case rel => exact ⟨_, ((a0.toList == ([119, 104, 111, 108, 101] : List UInt8))), (by first | rfl | (simp; done) | (simp [*]; done)), H', ⟨by first | omega | exact Nat.le_refl _⟩, ⟨by repeat (first | (with_reducible first | exact HB.out | apply below_alloc | apply pw_below_drewN | apply below_drew1) | exact HB.out)⟩⟩
  case rest =>
    clear HC2
    try clear c1
    try clear p2
    try clear c3
    try clear c3b0
    try clear c3b1
    obtain ⟨kq, x4_1, rfl, HA, HJ1, HB⟩ := hcut
    cases kq with
    | zero => exact absurd HA.out (by simp [num_Arity.j0])
    | succ kj1 =>
      have H := HA.out
      clear HA
      simp only [num_Arity.j0] at H
      by_cases c4 : x4_1 = true
      · subst c4
        have H1 : (some (1, true)) = some (r1, r2) := by rw [if_pos rfl] at H; exact H
        clear H
        have H := H1
        clear H1
        simp only [Option.some.injEq, Prod.mk.injEq] at H
        obtain ⟨rfl, rfl⟩ := H
        go_wp2
        go_ret2
        exact ⟨by first | rfl | (simp [errW_none, errW_some] <;> rfl) | (simp [*, errW_none, errW_some] <;> rfl), by repeat (first | (with_reducible first | exact HB.out | apply below_alloc | apply pw_below_drewN | apply below_drew1) | exact HB.out)⟩
      · replace c4 := Bool.eq_false_iff.mpr c4
        subst c4
        have H1 : ((num_Prims.f).bind fun t175 => ((slices_Contains_string_string.f kj1 t175 a0).bind fun t178 => (if t178 = true then (some (2, true)) else (some (0, false))))) = some (r1, r2) := by rw [if_neg (show ¬ (false = true) by decide)] at H; exact H
        clear H
        have H := H1
        clear H1
        replace H := Option.bind_eq_some_iff.mp H
        obtain ⟨t175, A50, H⟩ := H
        replace H : ((slices_Contains_string_string.f kj1 t175 a0).bind fun t178 => (if t178 = true then (some (2, true)) else (some (0, false)))) = some (r1, r2) := H
        have A5 := Aside0.mk A50
        clear A50
        replace H := Option.bind_eq_some_iff.mp H
        obtain ⟨t178, A60, H⟩ := H
        replace H : (if t178 = true then (some (2, true)) else (some (0, false))) = some (r1, r2) := H
        have A6 := Aside0.mk A60
        clear A60
        by_cases c7 : t178 = true
        · subst c7
          have H1 : (some (2, true)) = some (r1, r2) := by rw [if_pos rfl] at H; exact H
          clear H
          have H := H1
          clear H1
          simp only [Option.some.injEq, Prod.mk.injEq] at H
          obtain ⟨rfl, rfl⟩ := H
          go_wp2_with (first | ((with_reducible refine gate_callee (f := 10) rfl ?_); refine goesL_ (some 12) rfl rfl Tryd.func10 (by kernel_rfl) rfl #[] rfl (by (try simp only [List.map_toArray, List.map_cons, List.map_nil]); first | done | rfl | (simp only [List.length_drop, List.length_take]; rfl)) ?_; (with_reducible refine (num_Prims.calls  t175 _ A5.out).mono ?_); rintro e w8 ⟨v176, rfl, ho0, hb⟩; refine ⟨_, rfl, ?_⟩; have n0_ := Aside0.mk (Kd.R_lower ho0 (below_size (by repeat (first | (with_reducible first | exact HB.out | apply below_alloc | apply pw_below_drewN | apply below_drew1) | exact HB.out)))); have n1_ := Aside0.mk (below_step (by repeat (first | (with_reducible first | exact HB.out | apply below_alloc | apply pw_below_drewN | apply below_drew1) | exact HB.out)) hb); clear HB; have HO177 := n0_; have HB := n1_; clear n0_ n1_; (try clear hb); (try clear hb2); (try clear hk); (try clear hi); (try clear ho0); obtain ⟨Ao9, co9, eo9⟩ := Kd.R_slice HO177.out; subst eo9) | ((with_reducible refine gate_callee (f := 26) rfl ?_); refine goesL_ (some 14) rfl rfl Tryd.func26 (by kernel_rfl) rfl #[.slice Ao9 t175.length co9, .string a0] rfl (by (try simp only [List.map_toArray, List.map_cons, List.map_nil]); first | done | rfl | (simp only [List.length_drop, List.length_take]; rfl)) ?_; (with_reducible refine (slices_Contains_string_string.calls kj1 _ _ t175 a0 true _ ?side1 ?side2 A6.out).mono ?_); (case side1 => repeat (first | exact (Kd.R_reads' HO177.out).2.2 | (with_reducible refine Kd.C_alloc ?_ _) | (with_reducible refine Kd.C_drewN ?_ _) | (with_reducible refine Kd.C_drew ?_))); (case side2 => exact (Kd.R_reads' HO177.out).2.1); rintro e w' ⟨rfl, ⟨nd, rfl⟩⟩; refine ⟨_, rfl, ?_⟩))
          go_ret2
          exact ⟨by first | rfl | (simp [errW_none, errW_some] <;> rfl) | (simp [*, errW_none, errW_some] <;> rfl), by repeat (first | (with_reducible first | exact HB.out | apply below_alloc | apply pw_below_drewN | apply below_drew1) | exact HB.out)⟩
        · replace c7 := Bool.eq_false_iff.mpr c7
          subst c7
          have H1 : (some (0, false)) = some (r1, r2) := by rw [if_neg (show ¬ (false = true) by decide)] at H; exact H
          clear H
          have H := H1
          clear H1
          simp only [Option.some.injEq, Prod.mk.injEq] at H
          obtain ⟨rfl, rfl⟩ := H
          go_wp2_with (first | ((with_reducible refine gate_callee (f := 10) rfl ?_); refine goesL_ (some 12) rfl rfl Tryd.func10 (by kernel_rfl) rfl #[] rfl (by (try simp only [List.map_toArray, List.map_cons, List.map_nil]); first | done | rfl | (simp only [List.length_drop, List.length_take]; rfl)) ?_; (with_reducible refine (num_Prims.calls  t175 _ A5.out).mono ?_); rintro e w10 ⟨v176, rfl, ho0, hb⟩; refine ⟨_, rfl, ?_⟩; have n0_ := Aside0.mk (Kd.R_lower ho0 (below_size (by repeat (first | (with_reducible first | exact HB.out | apply below_alloc | apply pw_below_drewN | apply below_drew1) | exact HB.out)))); have n1_ := Aside0.mk (below_step (by repeat (first | (with_reducible first | exact HB.out | apply below_alloc | apply pw_below_drewN | apply below_drew1) | exact HB.out)) hb); clear HB; have HO177 := n0_; have HB := n1_; clear n0_ n1_; (try clear hb); (try clear hb2); (try clear hk); (try clear hi); (try clear ho0); obtain ⟨Ao11, co11, eo11⟩ := Kd.R_slice HO177.out; subst eo11) | ((with_reducible refine gate_callee (f := 26) rfl ?_); refine goesL_ (some 14) rfl rfl Tryd.func26 (by kernel_rfl) rfl #[.slice Ao11 t175.length co11, .string a0] rfl (by (try simp only [List.map_toArray, List.map_cons, List.map_nil]); first | done | rfl | (simp only [List.length_drop, List.length_take]; rfl)) ?_; (with_reducible refine (slices_Contains_string_string.calls kj1 _ _ t175 a0 false _ ?side1 ?side2 A6.out).mono ?_); (case side1 => repeat (first | exact (Kd.R_reads' HO177.out).2.2 | (with_reducible refine Kd.C_alloc ?_ _) | (with_reducible refine Kd.C_drewN ?_ _) | (with_reducible refine Kd.C_drew ?_))); (case side2 => exact (Kd.R_reads' HO177.out).2.1); rintro e w' ⟨rfl, ⟨nd, rfl⟩⟩; refine ⟨_, rfl, ?_⟩))
          go_ret2
          exact ⟨by first | rfl | (simp [errW_none, errW_some] <;> rfl) | (simp [*, errW_none, errW_some] <;> rfl), by repeat (first | (with_reducible first | exact HB.out | apply below_alloc | apply pw_below_drewN | apply below_drew1) | exact HB.out)⟩

/-! ### num_Floaty: function 12 -/
def num_Floaty.f (k : Nat) (a0 : ByteArray) : Option (Bool) := (slices_Contains_string_string.f k (([(⟨#[102, 43]⟩ : ByteArray), (⟨#[102, 45]⟩ : ByteArray), (⟨#[102, 42]⟩ : ByteArray), (⟨#[102, 47]⟩ : ByteArray), (⟨#[102, 108, 111, 97, 116]⟩ : ByteArray)] : List ByteArray)) a0).bind fun t182 => (some t182)
theorem num_Floaty.mono : ∀ a0 k, LeO (num_Floaty.f k a0) (num_Floaty.f (k + 1) a0) := by
  intro a0 k
  unfold num_Floaty.f
  repeat' first
      | (with_reducible exact slices_Contains_string_string.mono _ _ _)
      | (with_reducible exact LeO.refl _)
      | (with_reducible exact LeO.none _)
      | (with_reducible refine LeO.ite ?_ ?_)
      | (with_reducible refine LeO.bind ?_ (fun _ => ?_))
      | exact slices_Contains_string_string.mono _ _ _
      | exact LeO.none _
      | refine LeO.ite ?_ ?_
      | refine LeO.bind ?_ (fun _ => ?_)
set_option maxHeartbeats 8000000 in
set_option maxRecDepth 100000 in
theorem num_Floaty.calls (k : Nat) (a0 : ByteArray) (r : Bool) (w : World) (h : num_Floaty.f k a0 = some r) :
    Calls Tryd.prog 12 #[.string a0] w fun e w' => e = .returned (.bool r) ∧ Below w.heap.size w w' := by
  have HB := Aside0.mk (Below.refl w.heap.size w)
  have H : ((slices_Contains_string_string.f k (([(⟨#[102, 43]⟩ : ByteArray), (⟨#[102, 45]⟩ : ByteArray), (⟨#[102, 42]⟩ : ByteArray), (⟨#[102, 47]⟩ : ByteArray), (⟨#[102, 108, 111, 97, 116]⟩ : ByteArray)] : List ByteArray)) a0).bind fun t182 => (some t182)) = some r := h
  clear h
  obtain ⟨y179, hy179⟩ : ∃ y_ : List ByteArray, y_ = (([(⟨#[102, 43]⟩ : ByteArray), (⟨#[102, 45]⟩ : ByteArray), (⟨#[102, 42]⟩ : ByteArray), (⟨#[102, 47]⟩ : ByteArray), (⟨#[102, 108, 111, 97, 116]⟩ : ByteArray)] : List ByteArray)) := ⟨_, rfl⟩
  replace H : ((slices_Contains_string_string.f k y179 a0).bind fun t182 => (some t182)) = some r := by first | (rw [hy179]; with_reducible exact H) | (have H2_ := (Option.bind_some _ _).symm.trans H; rw [hy179]; with_reducible exact H2_) | (have H2_ := (Option.bind_some _ _).symm.trans H; with_reducible exact H2_) | with_reducible exact H | (rw [hy179]; exact H) | exact H
  have Ny179 := Aside0.mk hy179
  clear hy179
  replace H := Option.bind_eq_some_iff.mp H
  obtain ⟨t182, A20, H⟩ := H
  replace H : (some t182) = some r := H
  have A2 := Aside0.mk A20
  clear A20
  obtain rfl := Option.some.inj H
  go_enter Tryd.func12, Tryd.ntmps12
  go_wp2_with (first | ((with_reducible refine gate_dst (N := 3) rfl ?_); refine Kd.R_lit Kd.string _ 9 ?hg (N := 3) ?hd (xs := ([(⟨#[102, 43]⟩ : ByteArray), (⟨#[102, 45]⟩ : ByteArray), (⟨#[102, 42]⟩ : ByteArray), (⟨#[102, 47]⟩ : ByteArray), (⟨#[102, 108, 111, 97, 116]⟩ : ByteArray)] : List ByteArray)) (inner := [.string (⟨#[102, 43]⟩ : ByteArray), .string (⟨#[102, 45]⟩ : ByteArray), .string (⟨#[102, 42]⟩ : ByteArray), .string (⟨#[102, 47]⟩ : ByteArray), .string (⟨#[102, 108, 111, 97, 116]⟩ : ByteArray)]) (ok := fun _ => True) (okp := fun _ => True) ?hr ?hp (fun _ hk => hk) trivial (Below.refl _ _) (Nat.le_refl _) (by simp) ?_; (case hd => rfl); (case hg => rfl); (case hr => first | (go_simp; done) | (go_simp; rfl)); (case hp => exact (Reps.one (show Kd.M Kd.string _ _ _ (⟨#[102, 43]⟩ : ByteArray) [.string (⟨#[102, 43]⟩ : ByteArray)] from rfl) (Reps.one (show Kd.M Kd.string _ _ _ (⟨#[102, 45]⟩ : ByteArray) [.string (⟨#[102, 45]⟩ : ByteArray)] from rfl) (Reps.one (show Kd.M Kd.string _ _ _ (⟨#[102, 42]⟩ : ByteArray) [.string (⟨#[102, 42]⟩ : ByteArray)] from rfl) (Reps.one (show Kd.M Kd.string _ _ _ (⟨#[102, 47]⟩ : ByteArray) [.string (⟨#[102, 47]⟩ : ByteArray)] from rfl) (Reps.one (show Kd.M Kd.string _ _ _ (⟨#[102, 108, 111, 97, 116]⟩ : ByteArray) [.string (⟨#[102, 108, 111, 97, 116]⟩ : ByteArray)] from rfl) (Reps.none _ _))))))); intro v180 w3 ho4 hb hg_ hnew_; clear hg_ hnew_; (first | rw [← Ny179.out] at ho4 | (simp only [Int.reduceToNat] at ho4; rw [← Ny179.out] at ho4)); have n0_ := Aside0.mk (Kd.R_lower ho4 (below_size (by repeat (first | (with_reducible first | exact HB.out | apply below_alloc | apply pw_below_drewN | apply below_drew1) | exact HB.out)))); have n1_ := Aside0.mk (below_step (by repeat (first | (with_reducible first | exact HB.out | apply below_alloc | apply pw_below_drewN | apply below_drew1) | exact HB.out)) hb); clear HB; have HO181 := n0_; have HB := n1_; clear n0_ n1_; clear hb ho4; obtain ⟨Ao5, co5, eo5⟩ := Kd.R_slice HO181.out; subst eo5) | ((with_reducible refine gate_callee (f := 26) rfl ?_); refine goesL_ (some 5) rfl rfl Tryd.func26 (by kernel_rfl) rfl #[.slice Ao5 y179.length co5, .string a0] rfl (by (try simp only [List.map_toArray, List.map_cons, List.map_nil]); first | done | rfl | (simp only [List.length_drop, List.length_take]; rfl)) ?_; (with_reducible refine (slices_Contains_string_string.calls k _ _ y179 a0 t182 _ ?side1 ?side2 A2.out).mono ?_); (case side1 => repeat (first | exact (Kd.R_reads' HO181.out).2.2 | (with_reducible refine Kd.C_alloc ?_ _) | (with_reducible refine Kd.C_drewN ?_ _) | (with_reducible refine Kd.C_drew ?_))); (case side2 => exact (Kd.R_reads' HO181.out).2.1); rintro e w' ⟨rfl, ⟨nd, rfl⟩⟩; refine ⟨_, rfl, ?_⟩))
  go_ret
  exact ⟨by first | rfl | (simp [errW_none, errW_some] <;> rfl) | (simp [*, errW_none, errW_some] <;> rfl), by repeat (first | (with_reducible first | exact HB.out | apply below_alloc | apply pw_below_drewN | apply below_drew1) | exact HB.out)⟩

/-! ### gristmillref_Place: function 27 -/
def gristmillref_Place.l0 : Nat → List ByteArray → ByteArray → Int → Option (Int)
  | 0, _, _, _ => none
  | k + 1, x0, x1, x5 => if x5 < (x0.length : Int) then (if 0 ≤ x5 then (if (rdOf ByteArray.empty x0 x5).toList = x1.toList then (some x5) else (gristmillref_Place.l0 k x0 x1 (wrap64 (x5 + 1)))) else (none)) else (some (-1))
def gristmillref_Place.f (k : Nat) (l0 : List ByteArray) (a1 : ByteArray) : Option (Int) := gristmillref_Place.l0 k l0 a1 0
theorem gristmillref_Place.mono_l : ∀ k, (∀ y0 y1 y2, LeO (gristmillref_Place.l0 k y0 y1 y2) (gristmillref_Place.l0 (k + 1) y0 y1 y2))
  | 0 => fun _ _ _ r h => by simp [gristmillref_Place.l0] at h
  | k + 1 => by
    have ih0 := gristmillref_Place.mono_l k
    · intro y0 y1 y2
      unfold gristmillref_Place.l0
      repeat' first
      | (with_reducible exact ih0 _ _ _)
      | (with_reducible exact LeO.refl _)
      | (with_reducible exact LeO.none _)
      | (with_reducible refine LeO.ite ?_ ?_)
      | (with_reducible refine LeO.bind ?_ (fun _ => ?_))
      | exact ih0 _ _ _
      | exact LeO.none _
      | refine LeO.ite ?_ ?_
      | refine LeO.bind ?_ (fun _ => ?_)
theorem gristmillref_Place.mono : ∀ a0 a1 k, LeO (gristmillref_Place.f k a0 a1) (gristmillref_Place.f (k + 1) a0 a1) := by
  intro a0 a1 k
  have ih0 := gristmillref_Place.mono_l k
  unfold gristmillref_Place.f
  repeat' first
      | (with_reducible exact ih0 _ _ _)
      | (with_reducible exact LeO.refl _)
      | (with_reducible exact LeO.none _)
      | (with_reducible refine LeO.ite ?_ ?_)
      | (with_reducible refine LeO.bind ?_ (fun _ => ?_))
      | exact ih0 _ _ _
      | exact LeO.none _
      | refine LeO.ite ?_ ?_
      | refine LeO.bind ?_ (fun _ => ?_)
set_option maxHeartbeats 8000000 in
set_option maxRecDepth 100000 in
theorem gristmillref_Place.calls (k : Nat) (A0 : Option Addr) (c0 : Nat) (l0 : List ByteArray) (a1 : ByteArray) (r : Int) (w : World) (hr0 : Kd.C Kd.string w A0 l0.length l0) (hc0 : l0.length ≤ c0) (h : gristmillref_Place.f k l0 a1 = some r) :
    Calls Tryd.prog 27 #[.slice A0 l0.length c0, .string a1] w fun e w' => e = .returned (.int .i64 r) ∧ Drawn0 w w' := by
  have HR0 := Aside0.mk hr0
  have HC0 := Aside0.mk hc0
  clear hr0 hc0
  have H : (gristmillref_Place.l0 k l0 a1 0) = some r := h
  clear h
  have H' := Aside0.mk H
  clear H
  go_enter Tryd.func27, Tryd.ntmps27
  go_wp2
  go_loopg [5] k (fun kq v5 w' => ∃ (x5_1 : Int), v5 = .int .i64 x5_1 ∧ Aside0 (gristmillref_Place.l0 kq l0 a1 x5_1 = some r) ∧ Aside0 (kq ≤ k) ∧ Drawn0 w w')
  case atStart => exact ⟨(0), (by first | rfl | (simp; done) | (simp [*]; done)), H', ⟨Nat.le_refl _⟩, by repeat (first | exact Drawn0.refl _ | apply Drawn0.step)⟩
  case round =>
    clear H'
    try clear c2
    try clear p2
    obtain ⟨x5_1, rfl, HA, HK1, ⟨m1, rfl⟩⟩ := hrel
    cases gk with
    | zero => exact absurd HA.out (by simp [gristmillref_Place.l0])
    | succ k1 =>
      have H := HA.out
      clear HA
      simp only [gristmillref_Place.l0] at H
      by_cases c3 : x5_1 < (l0.length : Int)
      · rw [if_pos c3] at H
        have c3b0 : decide (x5_1 < (l0.length : Int)) = true := decide_eq_true c3
        clear c3
        by_cases c4 : 0 ≤ x5_1
        · rw [if_pos c4] at H
          have c4b0 : decide (0 ≤ x5_1) = true := decide_eq_true c4
          clear c4
          by_cases c5 : (rdOf ByteArray.empty l0 x5_1).toList = a1.toList
          · rw [if_pos c5] at H
            have c5b0 : ((rdOf ByteArray.empty l0 x5_1).toList == a1.toList) = true := beq_iff_eq.mpr c5
            have c5b1 : ((rdOf ByteArray.empty l0 x5_1).toList != a1.toList) = false := bne_eq_false_iff_eq.mpr c5
            clear c5
            obtain rfl := Option.some.inj H
            have p183 : 0 ≤ (x5_1 : Int) := of_decide_eq_true (by first | (with_reducible assumption) | assumption)
            have q183 : x5_1 < (l0.length : Int) := of_decide_eq_true (by first | (with_reducible assumption) | assumption)
            obtain ⟨ad183, e183, hx183_0⟩ := Kd.at_string HR0.out x5_1 p183 q183
            cases e183
            replace p183 := eq_true p183
            replace q183 := eq_true q183
            go_wp2
            go_ret
            exact ⟨by first | rfl | (simp; done) | (simp [*]; done), by repeat (first | exact Drawn0.refl _ | apply Drawn0.step)⟩
          · rw [if_neg c5] at H
            have c5b0 : ((rdOf ByteArray.empty l0 x5_1).toList == a1.toList) = false := beq_eq_false_iff_ne.mpr c5
            have c5b1 : ((rdOf ByteArray.empty l0 x5_1).toList != a1.toList) = true := bne_iff_ne.mpr c5
            have H' := Aside0.mk H
            clear H
            have p183 : 0 ≤ (x5_1 : Int) := of_decide_eq_true (by first | (with_reducible assumption) | assumption)
            have q183 : x5_1 < (l0.length : Int) := of_decide_eq_true (by first | (with_reducible assumption) | assumption)
            obtain ⟨ad183, e183, hx183_0⟩ := Kd.at_string HR0.out x5_1 p183 q183
            cases e183
            replace p183 := eq_true p183
            replace q183 := eq_true q183
            go_wp2
            go_roundg k1
            case measure => have := HK1.out; omega
            case rel => exact ⟨(wrap64 (x5_1 + 1)), (by first | rfl | (simp; done) | (simp [*]; done)), H', ⟨by have := HK1.out; omega⟩, by repeat (first | exact Drawn0.refl _ | apply Drawn0.step)⟩
        · rw [if_neg c4] at H
          exact absurd H (by simp)
      · rw [if_neg c3] at H
        have c3b0 : decide (x5_1 < (l0.length : Int)) = false := decide_eq_false c3
        clear c3
        obtain rfl := Option.some.inj H
        go_wp2
        go_ret
        exact ⟨by first | rfl | (simp; done) | (simp [*]; done), by repeat (first | exact Drawn0.refl _ | apply Drawn0.step)⟩

/-! ### gristmillref_Has: function 13 -/
def gristmillref_Has.f (k : Nat) (l0 : List ByteArray) (a1 : ByteArray) : Option (Bool) := (gristmillref_Place.f k l0 a1).bind fun t184 => (some (decide (t184 ≥ 0)))
theorem gristmillref_Has.mono : ∀ a0 a1 k, LeO (gristmillref_Has.f k a0 a1) (gristmillref_Has.f (k + 1) a0 a1) := by
  intro a0 a1 k
  unfold gristmillref_Has.f
  repeat' first
      | (with_reducible exact gristmillref_Place.mono _ _ _)
      | (with_reducible exact LeO.refl _)
      | (with_reducible exact LeO.none _)
      | (with_reducible refine LeO.ite ?_ ?_)
      | (with_reducible refine LeO.bind ?_ (fun _ => ?_))
      | exact gristmillref_Place.mono _ _ _
      | exact LeO.none _
      | refine LeO.ite ?_ ?_
      | refine LeO.bind ?_ (fun _ => ?_)
set_option maxHeartbeats 8000000 in
set_option maxRecDepth 100000 in
theorem gristmillref_Has.calls (k : Nat) (A0 : Option Addr) (c0 : Nat) (l0 : List ByteArray) (a1 : ByteArray) (r : Bool) (w : World) (hr0 : Kd.C Kd.string w A0 l0.length l0) (hc0 : l0.length ≤ c0) (h : gristmillref_Has.f k l0 a1 = some r) :
    Calls Tryd.prog 13 #[.slice A0 l0.length c0, .string a1] w fun e w' => e = .returned (.bool r) ∧ Drawn0 w w' := by
  have HR0 := Aside0.mk hr0
  have HC0 := Aside0.mk hc0
  clear hr0 hc0
  have H : ((gristmillref_Place.f k l0 a1).bind fun t184 => (some (decide (t184 ≥ 0)))) = some r := h
  clear h
  replace H := Option.bind_eq_some_iff.mp H
  obtain ⟨t184, A30, H⟩ := H
  replace H : (some (decide (t184 ≥ 0))) = some r := H
  have A3 := Aside0.mk A30
  clear A30
  obtain rfl := Option.some.inj H
  go_enter Tryd.func13, Tryd.ntmps13
  go_wp2_with (first | ((with_reducible refine gate_callee (f := 27) rfl ?_); refine goesL_ (some 7) rfl rfl Tryd.func27 (by kernel_rfl) rfl #[.slice A0 l0.length c0, .string a1] rfl (by (try simp only [List.map_toArray, List.map_cons, List.map_nil]); first | done | rfl | (simp only [List.length_drop, List.length_take]; rfl)) ?_; (with_reducible refine (gristmillref_Place.calls k _ _ l0 a1 t184 _ ?side1 ?side2 A3.out).mono ?_); (case side1 => repeat (first | exact HR0.out | (with_reducible refine Kd.C_alloc ?_ _) | (with_reducible refine Kd.C_drewN ?_ _) | (with_reducible refine Kd.C_drew ?_))); (case side2 => exact HC0.out); rintro e w' ⟨rfl, ⟨nd, rfl⟩⟩; refine ⟨_, rfl, ?_⟩))
  go_ret
  exact ⟨by first | rfl | (simp; done) | (simp [*]; done), by repeat (first | exact Drawn0.refl _ | apply Drawn0.step)⟩

end Go.Proofs.YtkikfkhonjobcaaDoor.PNum
