/- For each Go function that the laws of this group reach: a plain function with the same answers, and the proof that the call comes to them wherever the plain function has an answer. No other condition. (Laid by a program of this session.) -/
import Derived.Test.YtiacndjjppcaoaaDoorPLexx0
import Derived.Test.YtiacndjjppcaoaaDoorPLexx1
import Derived.Test.YtiacndjjppcaoaaDoorPLexx5
import Derived.Test.YtiacndjjppcaoaaDoorPLexx6
namespace Go.Proofs.YtiacndjjppcaoaaDoor.PLex
open Go.RowKit Go.Proofs.YtiacndjjppcaoaaDoorW.PrintWords Go.Proofs.YtiacndjjppcaoaaDoorW.PrintLast Go.Proofs.YtiacndjjppcaoaaDoorW.PrintMore
attribute [local go_sem] max2_int min2_int max_two min_two max_three min_three max_four min_four   -- for this text's walks alone
set_option linter.unusedVariables false
set_option linter.unusedSimpArgs false

/-! ### gristmilllaw3_LexNames: function 7 -/
mutual
def gristmilllaw3_LexNames.j0 : Nat → Int → ByteArray → Bool → Bool → Option (Bool)
  | 0, _, _, _, _ => none
  | k + 1, x0, x1, x5, x22 => if x22 = true then (some false) else ((gristmillworld_Number.f x0 9).bind fun t290 => (if 0 ≤ t290 then (if t290 < 9 then ((some (([bt (⟨#[97, 98, 122, 95, 48, 49, 57, 65, 90]⟩ : ByteArray) t290] : List Int) : List Int)).bind fun y291 => (if x1.size + (strOfNums y291).size ≤ 9223372036854775807 then (if (x1 ++ (strOfNums y291)).toList = ([102, 110] : List UInt8) then (gristmilllaw3_LexNames.j1 k x1 x5 (x1 ++ (strOfNums y291)) (decide ((x1.size : Int) < 40)) true) else (if (x1 ++ (strOfNums y291)).toList = ([108, 101, 116] : List UInt8) then (gristmilllaw3_LexNames.j1 k x1 x5 (x1 ++ (strOfNums y291)) (decide ((x1.size : Int) < 40)) true) else (if (x1 ++ (strOfNums y291)).toList = ([99, 97, 115, 101] : List UInt8) then (gristmilllaw3_LexNames.j1 k x1 x5 (x1 ++ (strOfNums y291)) (decide ((x1.size : Int) < 40)) true) else (if (x1 ++ (strOfNums y291)).toList = ([102, 97, 105, 108] : List UInt8) then (gristmilllaw3_LexNames.j1 k x1 x5 (x1 ++ (strOfNums y291)) (decide ((x1.size : Int) < 40)) true) else (if (x1 ++ (strOfNums y291)).toList = ([100, 97, 116, 97] : List UInt8) then (gristmilllaw3_LexNames.j1 k x1 x5 (x1 ++ (strOfNums y291)) (decide ((x1.size : Int) < 40)) true) else (if (x1 ++ (strOfNums y291)).toList = ([100, 101, 102] : List UInt8) then (gristmilllaw3_LexNames.j1 k x1 x5 (x1 ++ (strOfNums y291)) (decide ((x1.size : Int) < 40)) true) else (if (x1 ++ (strOfNums y291)).toList = ([100, 105, 118] : List UInt8) then (gristmilllaw3_LexNames.j1 k x1 x5 (x1 ++ (strOfNums y291)) (decide ((x1.size : Int) < 40)) true) else (if (x1 ++ (strOfNums y291)).toList = ([109, 111, 100] : List UInt8) then (gristmilllaw3_LexNames.j1 k x1 x5 (x1 ++ (strOfNums y291)) (decide ((x1.size : Int) < 40)) true) else (if (x1 ++ (strOfNums y291)).toList = ([102, 108, 111, 97, 116] : List UInt8) then (gristmilllaw3_LexNames.j1 k x1 x5 (x1 ++ (strOfNums y291)) (decide ((x1.size : Int) < 40)) true) else (if (x1 ++ (strOfNums y291)).toList = ([119, 104, 111, 108, 101] : List UInt8) then (gristmilllaw3_LexNames.j1 k x1 x5 (x1 ++ (strOfNums y291)) (decide ((x1.size : Int) < 40)) true) else (if (x1 ++ (strOfNums y291)).toList = ([115, 101, 113] : List UInt8) then (gristmilllaw3_LexNames.j1 k x1 x5 (x1 ++ (strOfNums y291)) (decide ((x1.size : Int) < 40)) true) else (if (x1 ++ (strOfNums y291)).toList = ([105, 110, 102] : List UInt8) then (gristmilllaw3_LexNames.j1 k x1 x5 (x1 ++ (strOfNums y291)) (decide ((x1.size : Int) < 40)) true) else (gristmilllaw3_LexNames.j1 k x1 x5 (x1 ++ (strOfNums y291)) (decide ((x1.size : Int) < 40)) ((x1 ++ (strOfNums y291)).toList == ([110, 97, 110] : List UInt8))))))))))))))) else (none))) else (none)) else (none)))
def gristmilllaw3_LexNames.j1 : Nat → ByteArray → Bool → ByteArray → Bool → Bool → Option (Bool)
  | 0, _, _, _, _, _ => none
  | k + 1, x1, x5, x7, x8, x9 => (lex_Name.f k x1).bind fun t294 => (if t294 = true then (if x8 = true then (if x9 = true then ((lex_Upper.f k x1).bind fun t295 => (if t295 = true then ((lex_Upper.f k x7).bind fun t296 => (gristmilllaw3_LexNames.j2 k x1 x5 (!t296))) else (gristmilllaw3_LexNames.j2 k x1 x5 false))) else ((lex_Name.f k x7).bind fun t297 => (if t297 = true then ((lex_Upper.f k x1).bind fun t298 => (if t298 = true then ((lex_Upper.f k x7).bind fun t299 => (gristmilllaw3_LexNames.j2 k x1 x5 (!t299))) else (gristmilllaw3_LexNames.j2 k x1 x5 false))) else (gristmilllaw3_LexNames.j2 k x1 x5 true)))) else ((lex_Upper.f k x1).bind fun t300 => (if t300 = true then (gristmilllaw3_LexNames.j2 k x1 x5 false) else (gristmilllaw3_LexNames.j2 k x1 x5 false)))) else ((lex_Upper.f k x1).bind fun t301 => (if t301 = true then (if x8 = true then ((lex_Upper.f k x7).bind fun t302 => (gristmilllaw3_LexNames.j2 k x1 x5 (!t302))) else (gristmilllaw3_LexNames.j2 k x1 x5 false)) else (gristmilllaw3_LexNames.j2 k x1 x5 false))))
def gristmilllaw3_LexNames.j2 : Nat → ByteArray → Bool → Bool → Option (Bool)
  | 0, _, _, _ => none
  | k + 1, x1, x5, x109 => if x109 = true then (some false) else (if x5 = true then (if x1.size + 1 ≤ 9223372036854775807 then ((lex_Name.f k (x1 ++ (⟨#[45]⟩ : ByteArray))).bind fun t303 => (if t303 = true then (some false) else ((lex_Name.f k (x1 ++ (⟨#[32]⟩ : ByteArray))).bind fun t304 => (if t304 = true then (some false) else ((lex_Upper.f k (x1 ++ (⟨#[39]⟩ : ByteArray))).bind fun t305 => (if t305 = true then (some false) else ((lex_Name.f k (⟨#[]⟩ : ByteArray)).bind fun t306 => (if t306 = true then (some false) else ((lex_Upper.f k (⟨#[]⟩ : ByteArray)).bind fun t307 => (some (!t307))))))))))) else (none)) else (some false))
end
def gristmilllaw3_LexNames.f (k : Nat) (a0 : Int) (a1 : ByteArray) : Option (Bool) := (gristmilllaw3_first.f k).bind fun t287 => (if t287 = true then (if (a1.size : Int) > 60 then (some t287) else ((lex_Name.f k a1).bind fun t288 => (if t288 = true then ((lex_Upper.f k a1).bind fun t289 => (gristmilllaw3_LexNames.j0 k a0 a1 t287 t289)) else (gristmilllaw3_LexNames.j0 k a0 a1 t287 false)))) else (some false))
theorem gristmilllaw3_LexNames.mono_l : ∀ k, (∀ y0 y1 y2 y3, LeO (gristmilllaw3_LexNames.j0 k y0 y1 y2 y3) (gristmilllaw3_LexNames.j0 (k + 1) y0 y1 y2 y3)) ∧ (∀ y0 y1 y2 y3 y4, LeO (gristmilllaw3_LexNames.j1 k y0 y1 y2 y3 y4) (gristmilllaw3_LexNames.j1 (k + 1) y0 y1 y2 y3 y4)) ∧ (∀ y0 y1 y2, LeO (gristmilllaw3_LexNames.j2 k y0 y1 y2) (gristmilllaw3_LexNames.j2 (k + 1) y0 y1 y2))
  | 0 => ⟨fun _ _ _ _ r h => by simp [gristmilllaw3_LexNames.j0] at h, fun _ _ _ _ _ r h => by simp [gristmilllaw3_LexNames.j1] at h, fun _ _ _ r h => by simp [gristmilllaw3_LexNames.j2] at h⟩
  | k + 1 => by
    obtain ⟨ih0, ih1, ih2⟩ := gristmilllaw3_LexNames.mono_l k
    refine ⟨?_, ?_, ?_⟩
    · intro y0 y1 y2 y3
      unfold gristmilllaw3_LexNames.j0
      repeat' first
      | (with_reducible exact ih0 _ _ _ _)
      | (with_reducible exact ih1 _ _ _ _ _)
      | (with_reducible exact ih2 _ _ _)
      | (with_reducible exact gristmilllaw3_first.mono _)
      | (with_reducible exact lex_Name.mono _ _)
      | (with_reducible exact lex_Upper.mono _ _)
      | (with_reducible exact LeO.refl _)
      | (with_reducible exact LeO.none _)
      | (with_reducible refine LeO.ite ?_ ?_)
      | (with_reducible refine LeO.bind ?_ (fun _ => ?_))
      | exact ih0 _ _ _ _
      | exact ih1 _ _ _ _ _
      | exact ih2 _ _ _
      | exact gristmilllaw3_first.mono _
      | exact lex_Name.mono _ _
      | exact lex_Upper.mono _ _
      | exact LeO.none _
      | refine LeO.ite ?_ ?_
      | refine LeO.bind ?_ (fun _ => ?_)
    · intro y0 y1 y2 y3 y4
      unfold gristmilllaw3_LexNames.j1
      repeat' first
      | (with_reducible exact ih0 _ _ _ _)
      | (with_reducible exact ih1 _ _ _ _ _)
      | (with_reducible exact ih2 _ _ _)
      | (with_reducible exact gristmilllaw3_first.mono _)
      | (with_reducible exact lex_Name.mono _ _)
      | (with_reducible exact lex_Upper.mono _ _)
      | (with_reducible exact LeO.refl _)
      | (with_reducible exact LeO.none _)
      | (with_reducible refine LeO.ite ?_ ?_)
      | (with_reducible refine LeO.bind ?_ (fun _ => ?_))
      | exact ih0 _ _ _ _
      | exact ih1 _ _ _ _ _
      | exact ih2 _ _ _
      | exact gristmilllaw3_first.mono _
      | exact lex_Name.mono _ _
      | exact lex_Upper.mono _ _
      | exact LeO.none _
      | refine LeO.ite ?_ ?_
      | refine LeO.bind ?_ (fun _ => ?_)
    · intro y0 y1 y2
      unfold gristmilllaw3_LexNames.j2
      repeat' first
      | (with_reducible exact ih0 _ _ _ _)
      | (with_reducible exact ih1 _ _ _ _ _)
      | (with_reducible exact ih2 _ _ _)
      | (with_reducible exact gristmilllaw3_first.mono _)
      | (with_reducible exact lex_Name.mono _ _)
      | (with_reducible exact lex_Upper.mono _ _)
      | (with_reducible exact LeO.refl _)
      | (with_reducible exact LeO.none _)
      | (with_reducible refine LeO.ite ?_ ?_)
      | (with_reducible refine LeO.bind ?_ (fun _ => ?_))
      | exact ih0 _ _ _ _
      | exact ih1 _ _ _ _ _
      | exact ih2 _ _ _
      | exact gristmilllaw3_first.mono _
      | exact lex_Name.mono _ _
      | exact lex_Upper.mono _ _
      | exact LeO.none _
      | refine LeO.ite ?_ ?_
      | refine LeO.bind ?_ (fun _ => ?_)
theorem gristmilllaw3_LexNames.mono : ∀ a0 a1 k, LeO (gristmilllaw3_LexNames.f k a0 a1) (gristmilllaw3_LexNames.f (k + 1) a0 a1) := by
  intro a0 a1 k
  obtain ⟨ih0, ih1, ih2⟩ := gristmilllaw3_LexNames.mono_l k
  unfold gristmilllaw3_LexNames.f
  repeat' first
      | (with_reducible exact ih0 _ _ _ _)
      | (with_reducible exact ih1 _ _ _ _ _)
      | (with_reducible exact ih2 _ _ _)
      | (with_reducible exact gristmilllaw3_first.mono _)
      | (with_reducible exact lex_Name.mono _ _)
      | (with_reducible exact lex_Upper.mono _ _)
      | (with_reducible exact LeO.refl _)
      | (with_reducible exact LeO.none _)
      | (with_reducible refine LeO.ite ?_ ?_)
      | (with_reducible refine LeO.bind ?_ (fun _ => ?_))
      | exact ih0 _ _ _ _
      | exact ih1 _ _ _ _ _
      | exact ih2 _ _ _
      | exact gristmilllaw3_first.mono _
      | exact lex_Name.mono _ _
      | exact lex_Upper.mono _ _
      | exact LeO.none _
      | refine LeO.ite ?_ ?_
      | refine LeO.bind ?_ (fun _ => ?_)
set_option maxHeartbeats 8000000 in
set_option maxRecDepth 100000 in
theorem gristmilllaw3_LexNames.calls (k : Nat) (a0 : Int) (a1 : ByteArray) (r : Bool) (w : World) (h : gristmilllaw3_LexNames.f k a0 a1 = some r) :
    Calls Tryd.prog 7 #[.int .i64 a0, .string a1] w fun e w' => e = .returned (.bool r) ∧ Below w.heap.size w w' := by
  have HB := Aside0.mk (Below.refl w.heap.size w)
  have H : ((gristmilllaw3_first.f k).bind fun t287 => (if t287 = true then (if (a1.size : Int) > 60 then (some t287) else ((lex_Name.f k a1).bind fun t288 => (if t288 = true then ((lex_Upper.f k a1).bind fun t289 => (gristmilllaw3_LexNames.j0 k a0 a1 t287 t289)) else (gristmilllaw3_LexNames.j0 k a0 a1 t287 false)))) else (some false))) = some r := h
  clear h
  replace H := Option.bind_eq_some_iff.mp H
  obtain ⟨t287, A30, H⟩ := H
  replace H : (if t287 = true then (if (a1.size : Int) > 60 then (some t287) else ((lex_Name.f k a1).bind fun t288 => (if t288 = true then ((lex_Upper.f k a1).bind fun t289 => (gristmilllaw3_LexNames.j0 k a0 a1 t287 t289)) else (gristmilllaw3_LexNames.j0 k a0 a1 t287 false)))) else (some false)) = some r := H
  have A3 := Aside0.mk A30
  clear A30
  by_cases c4 : t287 = true
  · subst c4
    have H1 : (if (a1.size : Int) > 60 then (some true) else ((lex_Name.f k a1).bind fun t288 => (if t288 = true then ((lex_Upper.f k a1).bind fun t289 => (gristmilllaw3_LexNames.j0 k a0 a1 true t289)) else (gristmilllaw3_LexNames.j0 k a0 a1 true false)))) = some r := by rw [if_pos rfl] at H; exact H
    clear H
    have H := H1
    clear H1
    by_cases c5 : (a1.size : Int) > 60
    · rw [if_pos c5] at H
      have c5b0 : decide (60 < (a1.size : Int)) = true := decide_eq_true c5
      have c5b1 : decide (60 < a1.size) = true := decide_eq_true (by omega)
      clear c5
      obtain rfl := Option.some.inj H
      go_enter Tryd.func7, Tryd.ntmps7
      go_wp2_with (first | ((with_reducible refine gate_callee (f := 8) rfl ?_); refine goesL_ (some 10) rfl rfl Tryd.func8 (by kernel_rfl) rfl #[] rfl (by (try simp only [List.map_toArray, List.map_cons, List.map_nil]); first | done | rfl | (simp only [List.length_drop, List.length_take]; rfl)) ?_; (with_reducible refine (gristmilllaw3_first.calls k  true _ A3.out).mono ?_); rintro e w6 ⟨rfl, hb⟩; refine ⟨_, rfl, ?_⟩; have n0_ := Aside0.mk (below_step (by repeat (first | (with_reducible first | exact HB.out | apply below_alloc | apply pw_below_drewN | apply below_drew1) | exact HB.out)) hb); clear HB; have HB := n0_; clear n0_; (try clear hb); (try clear hb2); (try clear hk); (try clear hi)))
      go_ret
      exact ⟨by first | rfl | (simp [errW_none, errW_some] <;> rfl) | (simp [*, errW_none, errW_some] <;> rfl), by repeat (first | (with_reducible first | exact HB.out | apply below_alloc | apply pw_below_drewN | apply below_drew1) | exact HB.out)⟩
    · rw [if_neg c5] at H
      have c5b0 : decide (60 < (a1.size : Int)) = false := decide_eq_false c5
      have c5b1 : decide (60 < a1.size) = false := decide_eq_false (by omega)
      clear c5
      have HC7 := Aside0.mk H
      clear H
      go_enter Tryd.func7, Tryd.ntmps7
      go_upto_region 6 with (first | ((with_reducible refine gate_callee (f := 8) rfl ?_); refine goesL_ (some 10) rfl rfl Tryd.func8 (by kernel_rfl) rfl #[] rfl (by (try simp only [List.map_toArray, List.map_cons, List.map_nil]); first | done | rfl | (simp only [List.length_drop, List.length_take]; rfl)) ?_; (with_reducible refine (gristmilllaw3_first.calls k  true _ A3.out).mono ?_); rintro e w8 ⟨rfl, hb⟩; refine ⟨_, rfl, ?_⟩; have n0_ := Aside0.mk (below_step (by repeat (first | (with_reducible first | exact HB.out | apply below_alloc | apply pw_below_drewN | apply below_drew1) | exact HB.out)) hb); clear HB; have HB := n0_; clear n0_; (try clear hb); (try clear hb2); (try clear hk); (try clear hi)))
      (try simp only [Act.put, List.setIfInBounds_toArray, List.set_cons_zero, List.set_cons_succ])
      go_cut [22] (fun v22 wc => ∃ (kq : Nat) (x22_6 : Bool), v22 = .bool x22_6 ∧ Aside0 (gristmilllaw3_LexNames.j0 kq a0 a1 true x22_6 = some r) ∧ Aside0 (kq ≤ k) ∧ Aside0 (Below w.heap.size w wc))
      case first =>
        have H := HC7.out
        clear HC7
        replace H := Option.bind_eq_some_iff.mp H
        obtain ⟨t288, A90, H⟩ := H
        replace H : (if t288 = true then ((lex_Upper.f k a1).bind fun t289 => (gristmilllaw3_LexNames.j0 k a0 a1 true t289)) else (gristmilllaw3_LexNames.j0 k a0 a1 true false)) = some r := H
        have A9 := Aside0.mk A90
        clear A90
        by_cases c10 : t288 = true
        · subst c10
          have H1 : ((lex_Upper.f k a1).bind fun t289 => (gristmilllaw3_LexNames.j0 k a0 a1 true t289)) = some r := by rw [if_pos rfl] at H; exact H
          clear H
          have H := H1
          clear H1
          replace H := Option.bind_eq_some_iff.mp H
          obtain ⟨t289, A110, H⟩ := H
          replace H : (gristmilllaw3_LexNames.j0 k a0 a1 true t289) = some r := H
          have A11 := Aside0.mk A110
          clear A110
          have H' := Aside0.mk H
          clear H
          go_wp2_with (first | ((with_reducible refine gate_callee (f := 12) rfl ?_); refine goesL_ (some 18) rfl rfl Tryd.func12 (by kernel_rfl) rfl #[.string a1] rfl (by (try simp only [List.map_toArray, List.map_cons, List.map_nil]); first | done | rfl | (simp only [List.length_drop, List.length_take]; rfl)) ?_; (with_reducible refine (lex_Name.calls k a1 true _ A9.out).mono ?_); rintro e w12 ⟨rfl, hb⟩; refine ⟨_, rfl, ?_⟩; have n0_ := Aside0.mk (below_step (by repeat (first | (with_reducible first | exact HB.out | apply below_alloc | apply pw_below_drewN | apply below_drew1) | exact HB.out)) hb); clear HB; have HB := n0_; clear n0_; (try clear hb); (try clear hb2); (try clear hk); (try clear hi)) | (go_at_call 14; (with_reducible refine (lex_Upper.calls k a1 t289 _ A11.out).mono ?_); rintro e w' ⟨rfl, ⟨nd, rfl⟩⟩))
          go_meet
          case rel => exact ⟨_, (t289), (by first | rfl | (simp; done) | (simp [*]; done)), H', ⟨by first | omega | exact Nat.le_refl _⟩, ⟨by repeat (first | (with_reducible first | exact HB.out | apply below_alloc | apply pw_below_drewN | apply below_drew1) | exact HB.out)⟩⟩
        · replace c10 := Bool.eq_false_iff.mpr c10
          subst c10
          have H1 : (gristmilllaw3_LexNames.j0 k a0 a1 true false) = some r := by rw [if_neg (show ¬ (false = true) by decide)] at H; exact H
          clear H
          have H := H1
          clear H1
          have H' := Aside0.mk H
          clear H
          go_wp2_with (first | ((with_reducible refine gate_callee (f := 12) rfl ?_); refine goesL_ (some 18) rfl rfl Tryd.func12 (by kernel_rfl) rfl #[.string a1] rfl (by (try simp only [List.map_toArray, List.map_cons, List.map_nil]); first | done | rfl | (simp only [List.length_drop, List.length_take]; rfl)) ?_; (with_reducible refine (lex_Name.calls k a1 false _ A9.out).mono ?_); rintro e w13 ⟨rfl, hb⟩; refine ⟨_, rfl, ?_⟩; have n0_ := Aside0.mk (below_step (by repeat (first | (with_reducible first | exact HB.out | apply below_alloc | apply pw_below_drewN | apply below_drew1) | exact HB.out)) hb); clear HB; have HB := n0_; clear n0_; (try clear hb); (try clear hb2); (try clear hk); (try clear hi)))
          go_meet
          case rel => exact ⟨_, (false), (by first | rfl | (simp; done) | (simp [*]; done)), H', ⟨by first | omega | exact Nat.le_refl _⟩, ⟨by repeat (first | (with_reducible first | exact HB.out | apply below_alloc | apply pw_below_drewN | apply below_drew1) | exact HB.out)⟩⟩
      case rest =>
        clear HC7
        try clear c1
        try clear p2
        try clear c4
        try clear c5
        try clear c5b0
        try clear c5b1
        try clear c7
        try clear c8
        try clear c10
        try clear c12
        obtain ⟨kq, x22_6, rfl, HA, HJ6, HB⟩ := hcut
        cases kq with
        | zero => exact absurd HA.out (by simp [gristmilllaw3_LexNames.j0])
        | succ kj6 =>
          have H := HA.out
          clear HA
          simp only [gristmilllaw3_LexNames.j0] at H
          by_cases c14 : x22_6 = true
          · subst c14
            have H1 : (some false) = some r := by rw [if_pos rfl] at H; exact H
            clear H
            have H := H1
            clear H1
            obtain rfl := Option.some.inj H
            go_wp2
            go_ret
            exact ⟨by first | rfl | (simp [errW_none, errW_some] <;> rfl) | (simp [*, errW_none, errW_some] <;> rfl), by repeat (first | (with_reducible first | exact HB.out | apply below_alloc | apply pw_below_drewN | apply below_drew1) | exact HB.out)⟩
          · replace c14 := Bool.eq_false_iff.mpr c14
            subst c14
            have H1 : ((gristmillworld_Number.f a0 9).bind fun t290 => (if 0 ≤ t290 then (if t290 < 9 then ((some (([bt (⟨#[97, 98, 122, 95, 48, 49, 57, 65, 90]⟩ : ByteArray) t290] : List Int) : List Int)).bind fun y291 => (if a1.size + (strOfNums y291).size ≤ 9223372036854775807 then (if (a1 ++ (strOfNums y291)).toList = ([102, 110] : List UInt8) then (gristmilllaw3_LexNames.j1 kj6 a1 true (a1 ++ (strOfNums y291)) (decide ((a1.size : Int) < 40)) true) else (if (a1 ++ (strOfNums y291)).toList = ([108, 101, 116] : List UInt8) then (gristmilllaw3_LexNames.j1 kj6 a1 true (a1 ++ (strOfNums y291)) (decide ((a1.size : Int) < 40)) true) else (if (a1 ++ (strOfNums y291)).toList = ([99, 97, 115, 101] : List UInt8) then (gristmilllaw3_LexNames.j1 kj6 a1 true (a1 ++ (strOfNums y291)) (decide ((a1.size : Int) < 40)) true) else (if (a1 ++ (strOfNums y291)).toList = ([102, 97, 105, 108] : List UInt8) then (gristmilllaw3_LexNames.j1 kj6 a1 true (a1 ++ (strOfNums y291)) (decide ((a1.size : Int) < 40)) true) else (if (a1 ++ (strOfNums y291)).toList = ([100, 97, 116, 97] : List UInt8) then (gristmilllaw3_LexNames.j1 kj6 a1 true (a1 ++ (strOfNums y291)) (decide ((a1.size : Int) < 40)) true) else (if (a1 ++ (strOfNums y291)).toList = ([100, 101, 102] : List UInt8) then (gristmilllaw3_LexNames.j1 kj6 a1 true (a1 ++ (strOfNums y291)) (decide ((a1.size : Int) < 40)) true) else (if (a1 ++ (strOfNums y291)).toList = ([100, 105, 118] : List UInt8) then (gristmilllaw3_LexNames.j1 kj6 a1 true (a1 ++ (strOfNums y291)) (decide ((a1.size : Int) < 40)) true) else (if (a1 ++ (strOfNums y291)).toList = ([109, 111, 100] : List UInt8) then (gristmilllaw3_LexNames.j1 kj6 a1 true (a1 ++ (strOfNums y291)) (decide ((a1.size : Int) < 40)) true) else (if (a1 ++ (strOfNums y291)).toList = ([102, 108, 111, 97, 116] : List UInt8) then (gristmilllaw3_LexNames.j1 kj6 a1 true (a1 ++ (strOfNums y291)) (decide ((a1.size : Int) < 40)) true) else (if (a1 ++ (strOfNums y291)).toList = ([119, 104, 111, 108, 101] : List UInt8) then (gristmilllaw3_LexNames.j1 kj6 a1 true (a1 ++ (strOfNums y291)) (decide ((a1.size : Int) < 40)) true) else (if (a1 ++ (strOfNums y291)).toList = ([115, 101, 113] : List UInt8) then (gristmilllaw3_LexNames.j1 kj6 a1 true (a1 ++ (strOfNums y291)) (decide ((a1.size : Int) < 40)) true) else (if (a1 ++ (strOfNums y291)).toList = ([105, 110, 102] : List UInt8) then (gristmilllaw3_LexNames.j1 kj6 a1 true (a1 ++ (strOfNums y291)) (decide ((a1.size : Int) < 40)) true) else (gristmilllaw3_LexNames.j1 kj6 a1 true (a1 ++ (strOfNums y291)) (decide ((a1.size : Int) < 40)) ((a1 ++ (strOfNums y291)).toList == ([110, 97, 110] : List UInt8))))))))))))))) else (none))) else (none)) else (none))) = some r := by rw [if_neg (show ¬ (false = true) by decide)] at H; exact H
            clear H
            have H := H1
            clear H1
            replace H := Option.bind_eq_some_iff.mp H
            obtain ⟨t290, A150, H⟩ := H
            replace H : (if 0 ≤ t290 then (if t290 < 9 then ((some (([bt (⟨#[97, 98, 122, 95, 48, 49, 57, 65, 90]⟩ : ByteArray) t290] : List Int) : List Int)).bind fun y291 => (if a1.size + (strOfNums y291).size ≤ 9223372036854775807 then (if (a1 ++ (strOfNums y291)).toList = ([102, 110] : List UInt8) then (gristmilllaw3_LexNames.j1 kj6 a1 true (a1 ++ (strOfNums y291)) (decide ((a1.size : Int) < 40)) true) else (if (a1 ++ (strOfNums y291)).toList = ([108, 101, 116] : List UInt8) then (gristmilllaw3_LexNames.j1 kj6 a1 true (a1 ++ (strOfNums y291)) (decide ((a1.size : Int) < 40)) true) else (if (a1 ++ (strOfNums y291)).toList = ([99, 97, 115, 101] : List UInt8) then (gristmilllaw3_LexNames.j1 kj6 a1 true (a1 ++ (strOfNums y291)) (decide ((a1.size : Int) < 40)) true) else (if (a1 ++ (strOfNums y291)).toList = ([102, 97, 105, 108] : List UInt8) then (gristmilllaw3_LexNames.j1 kj6 a1 true (a1 ++ (strOfNums y291)) (decide ((a1.size : Int) < 40)) true) else (if (a1 ++ (strOfNums y291)).toList = ([100, 97, 116, 97] : List UInt8) then (gristmilllaw3_LexNames.j1 kj6 a1 true (a1 ++ (strOfNums y291)) (decide ((a1.size : Int) < 40)) true) else (if (a1 ++ (strOfNums y291)).toList = ([100, 101, 102] : List UInt8) then (gristmilllaw3_LexNames.j1 kj6 a1 true (a1 ++ (strOfNums y291)) (decide ((a1.size : Int) < 40)) true) else (if (a1 ++ (strOfNums y291)).toList = ([100, 105, 118] : List UInt8) then (gristmilllaw3_LexNames.j1 kj6 a1 true (a1 ++ (strOfNums y291)) (decide ((a1.size : Int) < 40)) true) else (if (a1 ++ (strOfNums y291)).toList = ([109, 111, 100] : List UInt8) then (gristmilllaw3_LexNames.j1 kj6 a1 true (a1 ++ (strOfNums y291)) (decide ((a1.size : Int) < 40)) true) else (if (a1 ++ (strOfNums y291)).toList = ([102, 108, 111, 97, 116] : List UInt8) then (gristmilllaw3_LexNames.j1 kj6 a1 true (a1 ++ (strOfNums y291)) (decide ((a1.size : Int) < 40)) true) else (if (a1 ++ (strOfNums y291)).toList = ([119, 104, 111, 108, 101] : List UInt8) then (gristmilllaw3_LexNames.j1 kj6 a1 true (a1 ++ (strOfNums y291)) (decide ((a1.size : Int) < 40)) true) else (if (a1 ++ (strOfNums y291)).toList = ([115, 101, 113] : List UInt8) then (gristmilllaw3_LexNames.j1 kj6 a1 true (a1 ++ (strOfNums y291)) (decide ((a1.size : Int) < 40)) true) else (if (a1 ++ (strOfNums y291)).toList = ([105, 110, 102] : List UInt8) then (gristmilllaw3_LexNames.j1 kj6 a1 true (a1 ++ (strOfNums y291)) (decide ((a1.size : Int) < 40)) true) else (gristmilllaw3_LexNames.j1 kj6 a1 true (a1 ++ (strOfNums y291)) (decide ((a1.size : Int) < 40)) ((a1 ++ (strOfNums y291)).toList == ([110, 97, 110] : List UInt8))))))))))))))) else (none))) else (none)) else (none)) = some r := H
            have A15 := Aside0.mk A150
            clear A150
            by_cases c16 : 0 ≤ t290
            · rw [if_pos c16] at H
              have c16b0 : decide (0 ≤ t290) = true := decide_eq_true c16
              clear c16
              by_cases c17 : t290 < 9
              · rw [if_pos c17] at H
                have c17b0 : decide (t290 < 9) = true := decide_eq_true c17
                clear c17
                obtain ⟨y291, hy291⟩ : ∃ y_ : List Int, y_ = (([bt (⟨#[97, 98, 122, 95, 48, 49, 57, 65, 90]⟩ : ByteArray) t290] : List Int)) := ⟨_, rfl⟩
                replace H : (if a1.size + (strOfNums y291).size ≤ 9223372036854775807 then (if (a1 ++ (strOfNums y291)).toList = ([102, 110] : List UInt8) then (gristmilllaw3_LexNames.j1 kj6 a1 true (a1 ++ (strOfNums y291)) (decide ((a1.size : Int) < 40)) true) else (if (a1 ++ (strOfNums y291)).toList = ([108, 101, 116] : List UInt8) then (gristmilllaw3_LexNames.j1 kj6 a1 true (a1 ++ (strOfNums y291)) (decide ((a1.size : Int) < 40)) true) else (if (a1 ++ (strOfNums y291)).toList = ([99, 97, 115, 101] : List UInt8) then (gristmilllaw3_LexNames.j1 kj6 a1 true (a1 ++ (strOfNums y291)) (decide ((a1.size : Int) < 40)) true) else (if (a1 ++ (strOfNums y291)).toList = ([102, 97, 105, 108] : List UInt8) then (gristmilllaw3_LexNames.j1 kj6 a1 true (a1 ++ (strOfNums y291)) (decide ((a1.size : Int) < 40)) true) else (if (a1 ++ (strOfNums y291)).toList = ([100, 97, 116, 97] : List UInt8) then (gristmilllaw3_LexNames.j1 kj6 a1 true (a1 ++ (strOfNums y291)) (decide ((a1.size : Int) < 40)) true) else (if (a1 ++ (strOfNums y291)).toList = ([100, 101, 102] : List UInt8) then (gristmilllaw3_LexNames.j1 kj6 a1 true (a1 ++ (strOfNums y291)) (decide ((a1.size : Int) < 40)) true) else (if (a1 ++ (strOfNums y291)).toList = ([100, 105, 118] : List UInt8) then (gristmilllaw3_LexNames.j1 kj6 a1 true (a1 ++ (strOfNums y291)) (decide ((a1.size : Int) < 40)) true) else (if (a1 ++ (strOfNums y291)).toList = ([109, 111, 100] : List UInt8) then (gristmilllaw3_LexNames.j1 kj6 a1 true (a1 ++ (strOfNums y291)) (decide ((a1.size : Int) < 40)) true) else (if (a1 ++ (strOfNums y291)).toList = ([102, 108, 111, 97, 116] : List UInt8) then (gristmilllaw3_LexNames.j1 kj6 a1 true (a1 ++ (strOfNums y291)) (decide ((a1.size : Int) < 40)) true) else (if (a1 ++ (strOfNums y291)).toList = ([119, 104, 111, 108, 101] : List UInt8) then (gristmilllaw3_LexNames.j1 kj6 a1 true (a1 ++ (strOfNums y291)) (decide ((a1.size : Int) < 40)) true) else (if (a1 ++ (strOfNums y291)).toList = ([115, 101, 113] : List UInt8) then (gristmilllaw3_LexNames.j1 kj6 a1 true (a1 ++ (strOfNums y291)) (decide ((a1.size : Int) < 40)) true) else (if (a1 ++ (strOfNums y291)).toList = ([105, 110, 102] : List UInt8) then (gristmilllaw3_LexNames.j1 kj6 a1 true (a1 ++ (strOfNums y291)) (decide ((a1.size : Int) < 40)) true) else (gristmilllaw3_LexNames.j1 kj6 a1 true (a1 ++ (strOfNums y291)) (decide ((a1.size : Int) < 40)) ((a1 ++ (strOfNums y291)).toList == ([110, 97, 110] : List UInt8))))))))))))))) else (none)) = some r := by first | (rw [hy291]; with_reducible exact H) | (have H2_ := (Option.bind_some _ _).symm.trans H; rw [hy291]; with_reducible exact H2_) | (have H2_ := (Option.bind_some _ _).symm.trans H; with_reducible exact H2_) | with_reducible exact H | (rw [hy291]; exact H) | exact H
                have Ny291 := Aside0.mk hy291
                clear hy291
                by_cases c19 : a1.size + (strOfNums y291).size ≤ 9223372036854775807
                · rw [if_pos c19] at H
                  have c19b0 := eq_true c19
                  have c19b1 : decide (a1.size + (strOfNums y291).size ≤ 9223372036854775807) = true := decide_eq_true c19
                  try have c19b2 : (9223372036854775807 < a1.size + (strOfNums y291).size) = False := eq_false (Nat.not_lt.2 c19)
                  have HC20 := Aside0.mk H
                  clear H
                  go_upto_region 11 with (first | ((with_reducible refine gate_callee (f := 9) rfl ?_); refine goesL_ (some 24) rfl rfl Tryd.func9 (by kernel_rfl) rfl #[.int .i64 a0, .int .i64 9] rfl (by (try simp only [List.map_toArray, List.map_cons, List.map_nil]); first | done | rfl | (simp only [List.length_drop, List.length_take]; rfl)) ?_; (with_reducible refine (gristmillworld_Number.calls a0 9 t290 _ A15.out).mono ?_); rintro e w' ⟨rfl, ⟨nd, rfl⟩⟩; refine ⟨_, rfl, ?_⟩; have p18 : 0 ≤ (t290 : Int) := of_decide_eq_true (by first | (with_reducible assumption) | assumption); have q18 : t290 < (9 : Int) := of_decide_eq_true (by first | (with_reducible assumption) | assumption); have hx18 := bt_at (⟨#[97, 98, 122, 95, 48, 49, 57, 65, 90]⟩ : ByteArray) t290; replace p18 := eq_true p18; replace q18 := eq_true q18) | ((with_reducible refine gate_dst (N := 28) rfl ?_); refine Kd.R_lit (Kd.int .u8) _ 5 ?hg (N := 28) ?hd (xs := ([bt (⟨#[97, 98, 122, 95, 48, 49, 57, 65, 90]⟩ : ByteArray) t290] : List Int)) (inner := [.int .u8 (bt (⟨#[97, 98, 122, 95, 48, 49, 57, 65, 90]⟩ : ByteArray) t290)]) (ok := fun _ => True) (okp := fun _ => True) ?hr ?hp (fun _ hk => hk) trivial (Below.refl _ _) (Nat.le_refl _) (by simp) ?_; (case hd => rfl); (case hg => rfl); (case hr => first | (go_simp; done) | (go_simp; rfl)); (case hp => exact (Reps.one (show Kd.M (Kd.int .u8) _ _ _ (bt (⟨#[97, 98, 122, 95, 48, 49, 57, 65, 90]⟩ : ByteArray) t290) [.int .u8 (bt (⟨#[97, 98, 122, 95, 48, 49, 57, 65, 90]⟩ : ByteArray) t290)] from rfl) (Reps.none _ _))); intro v292 w21 ho22 hb hg_ hnew_; clear hg_ hnew_; (first | rw [← Ny291.out] at ho22 | (simp only [Int.reduceToNat] at ho22; rw [← Ny291.out] at ho22)); have n0_ := Aside0.mk (Kd.R_lower ho22 (below_size (by repeat (first | (with_reducible first | exact HB.out | apply below_alloc | apply pw_below_drewN | apply below_drew1) | exact HB.out)))); have n1_ := Aside0.mk (below_step (by repeat (first | (with_reducible first | exact HB.out | apply below_alloc | apply pw_below_drewN | apply below_drew1) | exact HB.out)) hb); clear HB; have HO293 := n0_; have HB := n1_; clear n0_ n1_; clear hb ho22; have hcv23 := own_string (P := Tryd.prog) Tryd.underlying40 Tryd.underlying5 Tryd.underlying9 (Kd.own_of_R HO293.out)))
                  (try simp only [Act.put, List.setIfInBounds_toArray, List.set_cons_zero, List.set_cons_succ])
                  go_cut [8, 9] (fun v8 v9 wc => ∃ (kq : Nat) (x8_19 : Bool) (x9_19 : Bool), v8 = .bool x8_19 ∧ v9 = .bool x9_19 ∧ Aside0 (gristmilllaw3_LexNames.j1 kq a1 true (a1 ++ (strOfNums y291)) x8_19 x9_19 = some r) ∧ Aside0 (kq ≤ kj6) ∧ Aside0 (Below w.heap.size w wc))
                  case first =>
                    have H := HC20.out
                    clear HC20
                    by_cases c24 : (a1 ++ (strOfNums y291)).toList = ([102, 110] : List UInt8)
                    · rw [if_pos c24] at H
                      have c24b0 : ((a1 ++ (strOfNums y291)).toList == ([102, 110] : List UInt8)) = true := beq_iff_eq.mpr c24
                      have c24b1 : ((a1 ++ (strOfNums y291)).toList != ([102, 110] : List UInt8)) = false := bne_eq_false_iff_eq.mpr c24
                      clear c24
                      (first | rw [c24b0] | (simp only [i64_w, i32_w]; rw [c24b0]) | skip)
                      have H' := Aside0.mk H
                      clear H
                      go_wp2
                      go_meet
                      case rel => exact ⟨_, (decide ((a1.size : Int) < 40)), (true), (by first | rfl | (simp; done) | (simp [*]; done)), (by first | rfl | (simp; done) | (simp [*]; done)), H', ⟨by have := HJ6.out; first | omega | exact Nat.le_refl _⟩, ⟨by repeat (first | (with_reducible first | exact HB.out | apply below_alloc | apply pw_below_drewN | apply below_drew1) | exact HB.out)⟩⟩
                    · rw [if_neg c24] at H
                      have c24b0 : ((a1 ++ (strOfNums y291)).toList == ([102, 110] : List UInt8)) = false := beq_eq_false_iff_ne.mpr c24
                      have c24b1 : ((a1 ++ (strOfNums y291)).toList != ([102, 110] : List UInt8)) = true := bne_iff_ne.mpr c24
                      (first | rw [c24b0] | (simp only [i64_w, i32_w]; rw [c24b0]) | skip)
                      by_cases c25 : (a1 ++ (strOfNums y291)).toList = ([108, 101, 116] : List UInt8)
                      · rw [if_pos c25] at H
                        have c25b0 : ((a1 ++ (strOfNums y291)).toList == ([108, 101, 116] : List UInt8)) = true := beq_iff_eq.mpr c25
                        have c25b1 : ((a1 ++ (strOfNums y291)).toList != ([108, 101, 116] : List UInt8)) = false := bne_eq_false_iff_eq.mpr c25
                        clear c25
                        have H' := Aside0.mk H
                        clear H
                        go_wp2
                        go_meet
                        case rel => exact ⟨_, (decide ((a1.size : Int) < 40)), (true), (by first | rfl | (simp; done) | (simp [*]; done)), (by first | rfl | (simp; done) | (simp [*]; done)), H', ⟨by have := HJ6.out; first | omega | exact Nat.le_refl _⟩, ⟨by repeat (first | (with_reducible first | exact HB.out | apply below_alloc | apply pw_below_drewN | apply below_drew1) | exact HB.out)⟩⟩
                      · rw [if_neg c25] at H
                        have c25b0 : ((a1 ++ (strOfNums y291)).toList == ([108, 101, 116] : List UInt8)) = false := beq_eq_false_iff_ne.mpr c25
                        have c25b1 : ((a1 ++ (strOfNums y291)).toList != ([108, 101, 116] : List UInt8)) = true := bne_iff_ne.mpr c25
                        by_cases c26 : (a1 ++ (strOfNums y291)).toList = ([99, 97, 115, 101] : List UInt8)
                        · rw [if_pos c26] at H
                          have c26b0 : ((a1 ++ (strOfNums y291)).toList == ([99, 97, 115, 101] : List UInt8)) = true := beq_iff_eq.mpr c26
                          have c26b1 : ((a1 ++ (strOfNums y291)).toList != ([99, 97, 115, 101] : List UInt8)) = false := bne_eq_false_iff_eq.mpr c26
                          clear c26
                          have H' := Aside0.mk H
                          clear H
                          go_wp2
                          go_meet
                          case rel => exact ⟨_, (decide ((a1.size : Int) < 40)), (true), (by first | rfl | (simp; done) | (simp [*]; done)), (by first | rfl | (simp; done) | (simp [*]; done)), H', ⟨by have := HJ6.out; first | omega | exact Nat.le_refl _⟩, ⟨by repeat (first | (with_reducible first | exact HB.out | apply below_alloc | apply pw_below_drewN | apply below_drew1) | exact HB.out)⟩⟩
                        · rw [if_neg c26] at H
                          have c26b0 : ((a1 ++ (strOfNums y291)).toList == ([99, 97, 115, 101] : List UInt8)) = false := beq_eq_false_iff_ne.mpr c26
                          have c26b1 : ((a1 ++ (strOfNums y291)).toList != ([99, 97, 115, 101] : List UInt8)) = true := bne_iff_ne.mpr c26
                          by_cases c27 : (a1 ++ (strOfNums y291)).toList = ([102, 97, 105, 108] : List UInt8)
                          · rw [if_pos c27] at H
                            have c27b0 : ((a1 ++ (strOfNums y291)).toList == ([102, 97, 105, 108] : List UInt8)) = true := beq_iff_eq.mpr c27
                            have c27b1 : ((a1 ++ (strOfNums y291)).toList != ([102, 97, 105, 108] : List UInt8)) = false := bne_eq_false_iff_eq.mpr c27
                            clear c27
                            have H' := Aside0.mk H
                            clear H
                            go_wp2
                            go_meet
                            case rel => exact ⟨_, (decide ((a1.size : Int) < 40)), (true), (by first | rfl | (simp; done) | (simp [*]; done)), (by first | rfl | (simp; done) | (simp [*]; done)), H', ⟨by have := HJ6.out; first | omega | exact Nat.le_refl _⟩, ⟨by repeat (first | (with_reducible first | exact HB.out | apply below_alloc | apply pw_below_drewN | apply below_drew1) | exact HB.out)⟩⟩
                          · rw [if_neg c27] at H
                            have c27b0 : ((a1 ++ (strOfNums y291)).toList == ([102, 97, 105, 108] : List UInt8)) = false := beq_eq_false_iff_ne.mpr c27
                            have c27b1 : ((a1 ++ (strOfNums y291)).toList != ([102, 97, 105, 108] : List UInt8)) = true := bne_iff_ne.mpr c27
                            by_cases c28 : (a1 ++ (strOfNums y291)).toList = ([100, 97, 116, 97] : List UInt8)
                            · rw [if_pos c28] at H
                              have c28b0 : ((a1 ++ (strOfNums y291)).toList == ([100, 97, 116, 97] : List UInt8)) = true := beq_iff_eq.mpr c28
                              have c28b1 : ((a1 ++ (strOfNums y291)).toList != ([100, 97, 116, 97] : List UInt8)) = false := bne_eq_false_iff_eq.mpr c28
                              clear c28
                              have H' := Aside0.mk H
                              clear H
                              go_wp2
                              go_meet
                              case rel => exact ⟨_, (decide ((a1.size : Int) < 40)), (true), (by first | rfl | (simp; done) | (simp [*]; done)), (by first | rfl | (simp; done) | (simp [*]; done)), H', ⟨by have := HJ6.out; first | omega | exact Nat.le_refl _⟩, ⟨by repeat (first | (with_reducible first | exact HB.out | apply below_alloc | apply pw_below_drewN | apply below_drew1) | exact HB.out)⟩⟩
                            · rw [if_neg c28] at H
                              have c28b0 : ((a1 ++ (strOfNums y291)).toList == ([100, 97, 116, 97] : List UInt8)) = false := beq_eq_false_iff_ne.mpr c28
                              have c28b1 : ((a1 ++ (strOfNums y291)).toList != ([100, 97, 116, 97] : List UInt8)) = true := bne_iff_ne.mpr c28
                              by_cases c29 : (a1 ++ (strOfNums y291)).toList = ([100, 101, 102] : List UInt8)
                              · rw [if_pos c29] at H
                                have c29b0 : ((a1 ++ (strOfNums y291)).toList == ([100, 101, 102] : List UInt8)) = true := beq_iff_eq.mpr c29
                                have c29b1 : ((a1 ++ (strOfNums y291)).toList != ([100, 101, 102] : List UInt8)) = false := bne_eq_false_iff_eq.mpr c29
                                clear c29
                                have H' := Aside0.mk H
                                clear H
                                go_wp2
                                go_meet
                                case rel => exact ⟨_, (decide ((a1.size : Int) < 40)), (true), (by first | rfl | (simp; done) | (simp [*]; done)), (by first | rfl | (simp; done) | (simp [*]; done)), H', ⟨by have := HJ6.out; first | omega | exact Nat.le_refl _⟩, ⟨by repeat (first | (with_reducible first | exact HB.out | apply below_alloc | apply pw_below_drewN | apply below_drew1) | exact HB.out)⟩⟩
                              · rw [if_neg c29] at H
                                have c29b0 : ((a1 ++ (strOfNums y291)).toList == ([100, 101, 102] : List UInt8)) = false := beq_eq_false_iff_ne.mpr c29
                                have c29b1 : ((a1 ++ (strOfNums y291)).toList != ([100, 101, 102] : List UInt8)) = true := bne_iff_ne.mpr c29
                                by_cases c30 : (a1 ++ (strOfNums y291)).toList = ([100, 105, 118] : List UInt8)
                                · rw [if_pos c30] at H
                                  have c30b0 : ((a1 ++ (strOfNums y291)).toList == ([100, 105, 118] : List UInt8)) = true := beq_iff_eq.mpr c30
                                  have c30b1 : ((a1 ++ (strOfNums y291)).toList != ([100, 105, 118] : List UInt8)) = false := bne_eq_false_iff_eq.mpr c30
                                  clear c30
                                  have H' := Aside0.mk H
                                  clear H
                                  go_wp2
                                  go_meet
                                  case rel => exact ⟨_, (decide ((a1.size : Int) < 40)), (true), (by first | rfl | (simp; done) | (simp [*]; done)), (by first | rfl | (simp; done) | (simp [*]; done)), H', ⟨by have := HJ6.out; first | omega | exact Nat.le_refl _⟩, ⟨by repeat (first | (with_reducible first | exact HB.out | apply below_alloc | apply pw_below_drewN | apply below_drew1) | exact HB.out)⟩⟩
                                · rw [if_neg c30] at H
                                  have c30b0 : ((a1 ++ (strOfNums y291)).toList == ([100, 105, 118] : List UInt8)) = false := beq_eq_false_iff_ne.mpr c30
                                  have c30b1 : ((a1 ++ (strOfNums y291)).toList != ([100, 105, 118] : List UInt8)) = true := bne_iff_ne.mpr c30
                                  by_cases c31 : (a1 ++ (strOfNums y291)).toList = ([109, 111, 100] : List UInt8)
                                  · rw [if_pos c31] at H
                                    have c31b0 : ((a1 ++ (strOfNums y291)).toList == ([109, 111, 100] : List UInt8)) = true := beq_iff_eq.mpr c31
                                    have c31b1 : ((a1 ++ (strOfNums y291)).toList != ([109, 111, 100] : List UInt8)) = false := bne_eq_false_iff_eq.mpr c31
                                    clear c31
                                    have H' := Aside0.mk H
                                    clear H
                                    go_wp2
                                    go_meet
                                    case rel => exact ⟨_, (decide ((a1.size : Int) < 40)), (true), (by first | rfl | (simp; done) | (simp [*]; done)), (by first | rfl | (simp; done) | (simp [*]; done)), H', ⟨by have := HJ6.out; first | omega | exact Nat.le_refl _⟩, ⟨by repeat (first | (with_reducible first | exact HB.out | apply below_alloc | apply pw_below_drewN | apply below_drew1) | exact HB.out)⟩⟩
                                  · rw [if_neg c31] at H
                                    have c31b0 : ((a1 ++ (strOfNums y291)).toList == ([109, 111, 100] : List UInt8)) = false := beq_eq_false_iff_ne.mpr c31
                                    have c31b1 : ((a1 ++ (strOfNums y291)).toList != ([109, 111, 100] : List UInt8)) = true := bne_iff_ne.mpr c31
                                    by_cases c32 : (a1 ++ (strOfNums y291)).toList = ([102, 108, 111, 97, 116] : List UInt8)
                                    · rw [if_pos c32] at H
                                      have c32b0 : ((a1 ++ (strOfNums y291)).toList == ([102, 108, 111, 97, 116] : List UInt8)) = true := beq_iff_eq.mpr c32
                                      have c32b1 : ((a1 ++ (strOfNums y291)).toList != ([102, 108, 111, 97, 116] : List UInt8)) = false := bne_eq_false_iff_eq.mpr c32
                                      clear c32
                                      have H' := Aside0.mk H
                                      clear H
                                      go_wp2
                                      go_meet
                                      case rel => exact ⟨_, (decide ((a1.size : Int) < 40)), (true), (by first | rfl | (simp; done) | (simp [*]; done)), (by first | rfl | (simp; done) | (simp [*]; done)), H', ⟨by have := HJ6.out; first | omega | exact Nat.le_refl _⟩, ⟨by repeat (first | (with_reducible first | exact HB.out | apply below_alloc | apply pw_below_drewN | apply below_drew1) | exact HB.out)⟩⟩
                                    · rw [if_neg c32] at H
                                      have c32b0 : ((a1 ++ (strOfNums y291)).toList == ([102, 108, 111, 97, 116] : List UInt8)) = false := beq_eq_false_iff_ne.mpr c32
                                      have c32b1 : ((a1 ++ (strOfNums y291)).toList != ([102, 108, 111, 97, 116] : List UInt8)) = true := bne_iff_ne.mpr c32
                                      by_cases c33 : (a1 ++ (strOfNums y291)).toList = ([119, 104, 111, 108, 101] : List UInt8)
                                      · rw [if_pos c33] at H
                                        have c33b0 : ((a1 ++ (strOfNums y291)).toList == ([119, 104, 111, 108, 101] : List UInt8)) = true := beq_iff_eq.mpr c33
                                        have c33b1 : ((a1 ++ (strOfNums y291)).toList != ([119, 104, 111, 108, 101] : List UInt8)) = false := bne_eq_false_iff_eq.mpr c33
                                        clear c33
                                        have H' := Aside0.mk H
                                        clear H
                                        go_wp2
                                        go_meet
                                        case rel => exact ⟨_, (decide ((a1.size : Int) < 40)), (true), (by first | rfl | (simp; done) | (simp [*]; done)), (by first | rfl | (simp; done) | (simp [*]; done)), H', ⟨by have := HJ6.out; first | omega | exact Nat.le_refl _⟩, ⟨by repeat (first | (with_reducible first | exact HB.out | apply below_alloc | apply pw_below_drewN | apply below_drew1) | exact HB.out)⟩⟩
                                      · rw [if_neg c33] at H
                                        have c33b0 : ((a1 ++ (strOfNums y291)).toList == ([119, 104, 111, 108, 101] : List UInt8)) = false := beq_eq_false_iff_ne.mpr c33
                                        have c33b1 : ((a1 ++ (strOfNums y291)).toList != ([119, 104, 111, 108, 101] : List UInt8)) = true := bne_iff_ne.mpr c33
                                        by_cases c34 : (a1 ++ (strOfNums y291)).toList = ([115, 101, 113] : List UInt8)
                                        · rw [if_pos c34] at H
                                          have c34b0 : ((a1 ++ (strOfNums y291)).toList == ([115, 101, 113] : List UInt8)) = true := beq_iff_eq.mpr c34
                                          have c34b1 : ((a1 ++ (strOfNums y291)).toList != ([115, 101, 113] : List UInt8)) = false := bne_eq_false_iff_eq.mpr c34
                                          clear c34
                                          have H' := Aside0.mk H
                                          clear H
                                          go_wp2
                                          go_meet
                                          case rel => exact ⟨_, (decide ((a1.size : Int) < 40)), (true), (by first | rfl | (simp; done) | (simp [*]; done)), (by first | rfl | (simp; done) | (simp [*]; done)), H', ⟨by have := HJ6.out; first | omega | exact Nat.le_refl _⟩, ⟨by repeat (first | (with_reducible first | exact HB.out | apply below_alloc | apply pw_below_drewN | apply below_drew1) | exact HB.out)⟩⟩
                                        · rw [if_neg c34] at H
                                          have c34b0 : ((a1 ++ (strOfNums y291)).toList == ([115, 101, 113] : List UInt8)) = false := beq_eq_false_iff_ne.mpr c34
                                          have c34b1 : ((a1 ++ (strOfNums y291)).toList != ([115, 101, 113] : List UInt8)) = true := bne_iff_ne.mpr c34
                                          by_cases c35 : (a1 ++ (strOfNums y291)).toList = ([105, 110, 102] : List UInt8)
                                          · rw [if_pos c35] at H
                                            have c35b0 : ((a1 ++ (strOfNums y291)).toList == ([105, 110, 102] : List UInt8)) = true := beq_iff_eq.mpr c35
                                            have c35b1 : ((a1 ++ (strOfNums y291)).toList != ([105, 110, 102] : List UInt8)) = false := bne_eq_false_iff_eq.mpr c35
                                            clear c35
                                            have H' := Aside0.mk H
                                            clear H
                                            go_wp2
                                            go_meet
                                            case rel => exact ⟨_, (decide ((a1.size : Int) < 40)), (true), (by first | rfl | (simp; done) | (simp [*]; done)), (by first | rfl | (simp; done) | (simp [*]; done)), H', ⟨by have := HJ6.out; first | omega | exact Nat.le_refl _⟩, ⟨by repeat (first | (with_reducible first | exact HB.out | apply below_alloc | apply pw_below_drewN | apply below_drew1) | exact HB.out)⟩⟩
                                          · rw [if_neg c35] at H
                                            have c35b0 : ((a1 ++ (strOfNums y291)).toList == ([105, 110, 102] : List UInt8)) = false := beq_eq_false_iff_ne.mpr c35
                                            have c35b1 : ((a1 ++ (strOfNums y291)).toList != ([105, 110, 102] : List UInt8)) = true := bne_iff_ne.mpr c35
                                            have H' := Aside0.mk H
                                            clear H
                                            go_wp2
                                            go_meet
                                            case rel => exact ⟨_, (decide ((a1.size : Int) < 40)), (((a1 ++ (strOfNums y291)).toList == ([110, 97, 110] : List UInt8))), (by first | rfl | (simp; done) | (simp [*]; done)), (by first | rfl | (simp; done) | (simp [*]; done)), H', ⟨by have := HJ6.out; first | omega | exact Nat.le_refl _⟩, ⟨by repeat (first | (with_reducible first | exact HB.out | apply below_alloc | apply pw_below_drewN | apply below_drew1) | exact HB.out)⟩⟩
                  case rest =>
                    clear HC20
                    try clear c1
                    try clear p1
                    try clear q1
                    try clear hx1
                    try clear c2
                    try clear p2
                    try clear hcv2
                    try clear c3
                    try clear c4
                    try clear c5
                    try clear c5b0
                    try clear c5b1
                    try clear c7
                    try clear c8
                    try clear c9
                    try clear c10
                    try clear c12
                    try clear c14
                    try clear c16
                    try clear c16b0
                    try clear c17
                    try clear c17b0
                    try clear p18
                    try clear q18
                    try clear hx18
                    try clear c19
                    try clear c19b0
                    try clear c19b1
                    try clear c19b2
                    try clear hcv23
                    try clear c24
                    try clear c24b0
                    try clear c24b1
                    try clear c25
                    try clear c25b0
                    try clear c25b1
                    try clear c26
                    try clear c26b0
                    try clear c26b1
                    try clear c27
                    try clear c27b0
                    try clear c27b1
                    try clear c28
                    try clear c28b0
                    try clear c28b1
                    try clear c29
                    try clear c29b0
                    try clear c29b1
                    try clear c30
                    try clear c30b0
                    try clear c30b1
                    try clear c31
                    try clear c31b0
                    try clear c31b1
                    try clear c32
                    try clear c32b0
                    try clear c32b1
                    try clear c33
                    try clear c33b0
                    try clear c33b1
                    try clear c34
                    try clear c34b0
                    try clear c34b1
                    try clear c35
                    try clear c35b0
                    try clear c35b1
                    try clear p18
                    try clear p2
                    try clear q18
                    obtain ⟨kq, x8_19, x9_19, rfl, rfl, HA, HJ19, HB⟩ := hcut
                    cases kq with
                    | zero => exact absurd HA.out (by simp [gristmilllaw3_LexNames.j1])
                    | succ kj19 =>
                      have H := HA.out
                      clear HA
                      simp only [gristmilllaw3_LexNames.j1] at H
                      have HC36 := Aside0.mk H
                      clear H
                      go_upto_region 12 with (fail)
                      go_cut [109] (fun v109 wc => ∃ (kq : Nat) (x109_35 : Bool), v109 = .bool x109_35 ∧ Aside0 (gristmilllaw3_LexNames.j2 kq a1 true x109_35 = some r) ∧ Aside0 (kq ≤ kj19) ∧ Aside0 (Below w.heap.size w wc))
                      case first =>
                        have H := HC36.out
                        clear HC36
                        replace H := Option.bind_eq_some_iff.mp H
                        obtain ⟨t294, A370, H⟩ := H
                        replace H : (if t294 = true then (if x8_19 = true then (if x9_19 = true then ((lex_Upper.f kj19 a1).bind fun t295 => (if t295 = true then ((lex_Upper.f kj19 (a1 ++ (strOfNums y291))).bind fun t296 => (gristmilllaw3_LexNames.j2 kj19 a1 true (!t296))) else (gristmilllaw3_LexNames.j2 kj19 a1 true false))) else ((lex_Name.f kj19 (a1 ++ (strOfNums y291))).bind fun t297 => (if t297 = true then ((lex_Upper.f kj19 a1).bind fun t298 => (if t298 = true then ((lex_Upper.f kj19 (a1 ++ (strOfNums y291))).bind fun t299 => (gristmilllaw3_LexNames.j2 kj19 a1 true (!t299))) else (gristmilllaw3_LexNames.j2 kj19 a1 true false))) else (gristmilllaw3_LexNames.j2 kj19 a1 true true)))) else ((lex_Upper.f kj19 a1).bind fun t300 => (if t300 = true then (gristmilllaw3_LexNames.j2 kj19 a1 true false) else (gristmilllaw3_LexNames.j2 kj19 a1 true false)))) else ((lex_Upper.f kj19 a1).bind fun t301 => (if t301 = true then (if x8_19 = true then ((lex_Upper.f kj19 (a1 ++ (strOfNums y291))).bind fun t302 => (gristmilllaw3_LexNames.j2 kj19 a1 true (!t302))) else (gristmilllaw3_LexNames.j2 kj19 a1 true false)) else (gristmilllaw3_LexNames.j2 kj19 a1 true false)))) = some r := H
                        have A37 := Aside0.mk A370
                        clear A370
                        by_cases c38 : t294 = true
                        · subst c38
                          have H1 : (if x8_19 = true then (if x9_19 = true then ((lex_Upper.f kj19 a1).bind fun t295 => (if t295 = true then ((lex_Upper.f kj19 (a1 ++ (strOfNums y291))).bind fun t296 => (gristmilllaw3_LexNames.j2 kj19 a1 true (!t296))) else (gristmilllaw3_LexNames.j2 kj19 a1 true false))) else ((lex_Name.f kj19 (a1 ++ (strOfNums y291))).bind fun t297 => (if t297 = true then ((lex_Upper.f kj19 a1).bind fun t298 => (if t298 = true then ((lex_Upper.f kj19 (a1 ++ (strOfNums y291))).bind fun t299 => (gristmilllaw3_LexNames.j2 kj19 a1 true (!t299))) else (gristmilllaw3_LexNames.j2 kj19 a1 true false))) else (gristmilllaw3_LexNames.j2 kj19 a1 true true)))) else ((lex_Upper.f kj19 a1).bind fun t300 => (if t300 = true then (gristmilllaw3_LexNames.j2 kj19 a1 true false) else (gristmilllaw3_LexNames.j2 kj19 a1 true false)))) = some r := by rw [if_pos rfl] at H; exact H
                          clear H
                          have H := H1
                          clear H1
                          by_cases c39 : x8_19 = true
                          · subst c39
                            have H1 : (if x9_19 = true then ((lex_Upper.f kj19 a1).bind fun t295 => (if t295 = true then ((lex_Upper.f kj19 (a1 ++ (strOfNums y291))).bind fun t296 => (gristmilllaw3_LexNames.j2 kj19 a1 true (!t296))) else (gristmilllaw3_LexNames.j2 kj19 a1 true false))) else ((lex_Name.f kj19 (a1 ++ (strOfNums y291))).bind fun t297 => (if t297 = true then ((lex_Upper.f kj19 a1).bind fun t298 => (if t298 = true then ((lex_Upper.f kj19 (a1 ++ (strOfNums y291))).bind fun t299 => (gristmilllaw3_LexNames.j2 kj19 a1 true (!t299))) else (gristmilllaw3_LexNames.j2 kj19 a1 true false))) else (gristmilllaw3_LexNames.j2 kj19 a1 true true)))) = some r := by rw [if_pos rfl] at H; exact H
                            clear H
                            have H := H1
                            clear H1
                            by_cases c40 : x9_19 = true
                            · subst c40
                              have H1 : ((lex_Upper.f kj19 a1).bind fun t295 => (if t295 = true then ((lex_Upper.f kj19 (a1 ++ (strOfNums y291))).bind fun t296 => (gristmilllaw3_LexNames.j2 kj19 a1 true (!t296))) else (gristmilllaw3_LexNames.j2 kj19 a1 true false))) = some r := by rw [if_pos rfl] at H; exact H
                              clear H
                              have H := H1
                              clear H1
                              replace H := Option.bind_eq_some_iff.mp H
                              obtain ⟨t295, A410, H⟩ := H
                              replace H : (if t295 = true then ((lex_Upper.f kj19 (a1 ++ (strOfNums y291))).bind fun t296 => (gristmilllaw3_LexNames.j2 kj19 a1 true (!t296))) else (gristmilllaw3_LexNames.j2 kj19 a1 true false)) = some r := H
                              have A41 := Aside0.mk A410
                              clear A410
                              by_cases c42 : t295 = true
                              · subst c42
                                have H1 : ((lex_Upper.f kj19 (a1 ++ (strOfNums y291))).bind fun t296 => (gristmilllaw3_LexNames.j2 kj19 a1 true (!t296))) = some r := by rw [if_pos rfl] at H; exact H
                                clear H
                                have H := H1
                                clear H1
                                replace H := Option.bind_eq_some_iff.mp H
                                obtain ⟨t296, A430, H⟩ := H
                                replace H : (gristmilllaw3_LexNames.j2 kj19 a1 true (!t296)) = some r := H
                                have A43 := Aside0.mk A430
                                clear A430
                                have H' := Aside0.mk H
                                clear H
                                go_wp2_with (first | ((with_reducible refine gate_callee (f := 12) rfl ?_); refine goesL_ (some 85) rfl rfl Tryd.func12 (by kernel_rfl) rfl #[.string a1] rfl (by (try simp only [List.map_toArray, List.map_cons, List.map_nil]); first | done | rfl | (simp only [List.length_drop, List.length_take]; rfl)) ?_; (with_reducible refine (lex_Name.calls kj19 a1 true _ A37.out).mono ?_); rintro e w44 ⟨rfl, hb⟩; refine ⟨_, rfl, ?_⟩; have n0_ := Aside0.mk (below_step (by repeat (first | (with_reducible first | exact HB.out | apply below_alloc | apply pw_below_drewN | apply below_drew1) | exact HB.out)) hb); clear HB; have HB := n0_; clear n0_; (try clear hb); (try clear hb2); (try clear hk); (try clear hi)) | (go_at_call 14; (with_reducible refine (lex_Upper.calls kj19 a1 true _ A41.out).mono ?_); rintro e w' ⟨rfl, ⟨nd, rfl⟩⟩) | (go_at_call 14; (with_reducible refine (lex_Upper.calls kj19 (a1 ++ (strOfNums y291)) t296 _ A43.out).mono ?_); rintro e w' ⟨rfl, ⟨nd, rfl⟩⟩))
                                go_meet
                                case rel => exact ⟨_, (!t296), (by first | rfl | (simp; done) | (simp [*]; done)), H', ⟨by have := HJ6.out; have := HJ19.out; first | omega | exact Nat.le_refl _⟩, ⟨by repeat (first | (with_reducible first | exact HB.out | apply below_alloc | apply pw_below_drewN | apply below_drew1) | exact HB.out)⟩⟩
                              · replace c42 := Bool.eq_false_iff.mpr c42
                                subst c42
                                have H1 : (gristmilllaw3_LexNames.j2 kj19 a1 true false) = some r := by rw [if_neg (show ¬ (false = true) by decide)] at H; exact H
                                clear H
                                have H := H1
                                clear H1
                                have H' := Aside0.mk H
                                clear H
                                go_wp2_with (first | ((with_reducible refine gate_callee (f := 12) rfl ?_); refine goesL_ (some 85) rfl rfl Tryd.func12 (by kernel_rfl) rfl #[.string a1] rfl (by (try simp only [List.map_toArray, List.map_cons, List.map_nil]); first | done | rfl | (simp only [List.length_drop, List.length_take]; rfl)) ?_; (with_reducible refine (lex_Name.calls kj19 a1 true _ A37.out).mono ?_); rintro e w45 ⟨rfl, hb⟩; refine ⟨_, rfl, ?_⟩; have n0_ := Aside0.mk (below_step (by repeat (first | (with_reducible first | exact HB.out | apply below_alloc | apply pw_below_drewN | apply below_drew1) | exact HB.out)) hb); clear HB; have HB := n0_; clear n0_; (try clear hb); (try clear hb2); (try clear hk); (try clear hi)) | (go_at_call 14; (with_reducible refine (lex_Upper.calls kj19 a1 false _ A41.out).mono ?_); rintro e w' ⟨rfl, ⟨nd, rfl⟩⟩))
                                go_meet
                                case rel => exact ⟨_, (false), (by first | rfl | (simp; done) | (simp [*]; done)), H', ⟨by have := HJ6.out; have := HJ19.out; first | omega | exact Nat.le_refl _⟩, ⟨by repeat (first | (with_reducible first | exact HB.out | apply below_alloc | apply pw_below_drewN | apply below_drew1) | exact HB.out)⟩⟩
                            · replace c40 := Bool.eq_false_iff.mpr c40
                              subst c40
                              have H1 : ((lex_Name.f kj19 (a1 ++ (strOfNums y291))).bind fun t297 => (if t297 = true then ((lex_Upper.f kj19 a1).bind fun t298 => (if t298 = true then ((lex_Upper.f kj19 (a1 ++ (strOfNums y291))).bind fun t299 => (gristmilllaw3_LexNames.j2 kj19 a1 true (!t299))) else (gristmilllaw3_LexNames.j2 kj19 a1 true false))) else (gristmilllaw3_LexNames.j2 kj19 a1 true true))) = some r := by rw [if_neg (show ¬ (false = true) by decide)] at H; exact H
                              clear H
                              have H := H1
                              clear H1
                              replace H := Option.bind_eq_some_iff.mp H
                              obtain ⟨t297, A460, H⟩ := H
                              replace H : (if t297 = true then ((lex_Upper.f kj19 a1).bind fun t298 => (if t298 = true then ((lex_Upper.f kj19 (a1 ++ (strOfNums y291))).bind fun t299 => (gristmilllaw3_LexNames.j2 kj19 a1 true (!t299))) else (gristmilllaw3_LexNames.j2 kj19 a1 true false))) else (gristmilllaw3_LexNames.j2 kj19 a1 true true)) = some r := H
                              have A46 := Aside0.mk A460
                              clear A460
                              by_cases c47 : t297 = true
                              · subst c47
                                have H1 : ((lex_Upper.f kj19 a1).bind fun t298 => (if t298 = true then ((lex_Upper.f kj19 (a1 ++ (strOfNums y291))).bind fun t299 => (gristmilllaw3_LexNames.j2 kj19 a1 true (!t299))) else (gristmilllaw3_LexNames.j2 kj19 a1 true false))) = some r := by rw [if_pos rfl] at H; exact H
                                clear H
                                have H := H1
                                clear H1
                                replace H := Option.bind_eq_some_iff.mp H
                                obtain ⟨t298, A480, H⟩ := H
                                replace H : (if t298 = true then ((lex_Upper.f kj19 (a1 ++ (strOfNums y291))).bind fun t299 => (gristmilllaw3_LexNames.j2 kj19 a1 true (!t299))) else (gristmilllaw3_LexNames.j2 kj19 a1 true false)) = some r := H
                                have A48 := Aside0.mk A480
                                clear A480
                                by_cases c49 : t298 = true
                                · subst c49
                                  have H1 : ((lex_Upper.f kj19 (a1 ++ (strOfNums y291))).bind fun t299 => (gristmilllaw3_LexNames.j2 kj19 a1 true (!t299))) = some r := by rw [if_pos rfl] at H; exact H
                                  clear H
                                  have H := H1
                                  clear H1
                                  replace H := Option.bind_eq_some_iff.mp H
                                  obtain ⟨t299, A500, H⟩ := H
                                  replace H : (gristmilllaw3_LexNames.j2 kj19 a1 true (!t299)) = some r := H
                                  have A50 := Aside0.mk A500
                                  clear A500
                                  have H' := Aside0.mk H
                                  clear H
                                  go_wp2_with (first | ((with_reducible refine gate_callee (f := 12) rfl ?_); refine goesL_ (some 85) rfl rfl Tryd.func12 (by kernel_rfl) rfl #[.string a1] rfl (by (try simp only [List.map_toArray, List.map_cons, List.map_nil]); first | done | rfl | (simp only [List.length_drop, List.length_take]; rfl)) ?_; (with_reducible refine (lex_Name.calls kj19 a1 true _ A37.out).mono ?_); rintro e w51 ⟨rfl, hb⟩; refine ⟨_, rfl, ?_⟩; have n0_ := Aside0.mk (below_step (by repeat (first | (with_reducible first | exact HB.out | apply below_alloc | apply pw_below_drewN | apply below_drew1) | exact HB.out)) hb); clear HB; have HB := n0_; clear n0_; (try clear hb); (try clear hb2); (try clear hk); (try clear hi)) | (go_at_call 12; (with_reducible refine (lex_Name.calls kj19 (a1 ++ (strOfNums y291)) true _ A46.out).mono ?_); rintro e w52 ⟨rfl, hb⟩; have n0_ := Aside0.mk (below_step (by repeat (first | (with_reducible first | exact HB.out | apply below_alloc | apply pw_below_drewN | apply below_drew1) | exact HB.out)) hb); clear HB; have HB := n0_; clear n0_; (try clear hb); (try clear hb2); (try clear hk); (try clear hi)) | (go_at_call 14; (with_reducible refine (lex_Upper.calls kj19 a1 true _ A48.out).mono ?_); rintro e w' ⟨rfl, ⟨nd, rfl⟩⟩) | (go_at_call 14; (with_reducible refine (lex_Upper.calls kj19 (a1 ++ (strOfNums y291)) t299 _ A50.out).mono ?_); rintro e w' ⟨rfl, ⟨nd, rfl⟩⟩))
                                  go_meet
                                  case rel => exact ⟨_, (!t299), (by first | rfl | (simp; done) | (simp [*]; done)), H', ⟨by have := HJ6.out; have := HJ19.out; first | omega | exact Nat.le_refl _⟩, ⟨by repeat (first | (with_reducible first | exact HB.out | apply below_alloc | apply pw_below_drewN | apply below_drew1) | exact HB.out)⟩⟩
                                · replace c49 := Bool.eq_false_iff.mpr c49
                                  subst c49
                                  have H1 : (gristmilllaw3_LexNames.j2 kj19 a1 true false) = some r := by rw [if_neg (show ¬ (false = true) by decide)] at H; exact H
                                  clear H
                                  have H := H1
                                  clear H1
                                  have H' := Aside0.mk H
                                  clear H
                                  go_wp2_with (first | ((with_reducible refine gate_callee (f := 12) rfl ?_); refine goesL_ (some 85) rfl rfl Tryd.func12 (by kernel_rfl) rfl #[.string a1] rfl (by (try simp only [List.map_toArray, List.map_cons, List.map_nil]); first | done | rfl | (simp only [List.length_drop, List.length_take]; rfl)) ?_; (with_reducible refine (lex_Name.calls kj19 a1 true _ A37.out).mono ?_); rintro e w53 ⟨rfl, hb⟩; refine ⟨_, rfl, ?_⟩; have n0_ := Aside0.mk (below_step (by repeat (first | (with_reducible first | exact HB.out | apply below_alloc | apply pw_below_drewN | apply below_drew1) | exact HB.out)) hb); clear HB; have HB := n0_; clear n0_; (try clear hb); (try clear hb2); (try clear hk); (try clear hi)) | (go_at_call 12; (with_reducible refine (lex_Name.calls kj19 (a1 ++ (strOfNums y291)) true _ A46.out).mono ?_); rintro e w54 ⟨rfl, hb⟩; have n0_ := Aside0.mk (below_step (by repeat (first | (with_reducible first | exact HB.out | apply below_alloc | apply pw_below_drewN | apply below_drew1) | exact HB.out)) hb); clear HB; have HB := n0_; clear n0_; (try clear hb); (try clear hb2); (try clear hk); (try clear hi)) | (go_at_call 14; (with_reducible refine (lex_Upper.calls kj19 a1 false _ A48.out).mono ?_); rintro e w' ⟨rfl, ⟨nd, rfl⟩⟩))
                                  go_meet
                                  case rel => exact ⟨_, (false), (by first | rfl | (simp; done) | (simp [*]; done)), H', ⟨by have := HJ6.out; have := HJ19.out; first | omega | exact Nat.le_refl _⟩, ⟨by repeat (first | (with_reducible first | exact HB.out | apply below_alloc | apply pw_below_drewN | apply below_drew1) | exact HB.out)⟩⟩
                              · replace c47 := Bool.eq_false_iff.mpr c47
                                subst c47
                                have H1 : (gristmilllaw3_LexNames.j2 kj19 a1 true true) = some r := by rw [if_neg (show ¬ (false = true) by decide)] at H; exact H
                                clear H
                                have H := H1
                                clear H1
                                have H' := Aside0.mk H
                                clear H
                                go_wp2_with (first | ((with_reducible refine gate_callee (f := 12) rfl ?_); refine goesL_ (some 85) rfl rfl Tryd.func12 (by kernel_rfl) rfl #[.string a1] rfl (by (try simp only [List.map_toArray, List.map_cons, List.map_nil]); first | done | rfl | (simp only [List.length_drop, List.length_take]; rfl)) ?_; (with_reducible refine (lex_Name.calls kj19 a1 true _ A37.out).mono ?_); rintro e w55 ⟨rfl, hb⟩; refine ⟨_, rfl, ?_⟩; have n0_ := Aside0.mk (below_step (by repeat (first | (with_reducible first | exact HB.out | apply below_alloc | apply pw_below_drewN | apply below_drew1) | exact HB.out)) hb); clear HB; have HB := n0_; clear n0_; (try clear hb); (try clear hb2); (try clear hk); (try clear hi)) | (go_at_call 12; (with_reducible refine (lex_Name.calls kj19 (a1 ++ (strOfNums y291)) false _ A46.out).mono ?_); rintro e w56 ⟨rfl, hb⟩; have n0_ := Aside0.mk (below_step (by repeat (first | (with_reducible first | exact HB.out | apply below_alloc | apply pw_below_drewN | apply below_drew1) | exact HB.out)) hb); clear HB; have HB := n0_; clear n0_; (try clear hb); (try clear hb2); (try clear hk); (try clear hi)))
                                go_meet
                                case rel => exact ⟨_, (true), (by first | rfl | (simp; done) | (simp [*]; done)), H', ⟨by have := HJ6.out; have := HJ19.out; first | omega | exact Nat.le_refl _⟩, ⟨by repeat (first | (with_reducible first | exact HB.out | apply below_alloc | apply pw_below_drewN | apply below_drew1) | exact HB.out)⟩⟩
                          · replace c39 := Bool.eq_false_iff.mpr c39
                            subst c39
                            have H1 : ((lex_Upper.f kj19 a1).bind fun t300 => (if t300 = true then (gristmilllaw3_LexNames.j2 kj19 a1 true false) else (gristmilllaw3_LexNames.j2 kj19 a1 true false))) = some r := by rw [if_neg (show ¬ (false = true) by decide)] at H; exact H
                            clear H
                            have H := H1
                            clear H1
                            replace H := Option.bind_eq_some_iff.mp H
                            obtain ⟨t300, A570, H⟩ := H
                            replace H : (if t300 = true then (gristmilllaw3_LexNames.j2 kj19 a1 true false) else (gristmilllaw3_LexNames.j2 kj19 a1 true false)) = some r := H
                            have A57 := Aside0.mk A570
                            clear A570
                            by_cases c58 : t300 = true
                            · subst c58
                              have H1 : (gristmilllaw3_LexNames.j2 kj19 a1 true false) = some r := by rw [if_pos rfl] at H; exact H
                              clear H
                              have H := H1
                              clear H1
                              have H' := Aside0.mk H
                              clear H
                              go_wp2_with (first | ((with_reducible refine gate_callee (f := 12) rfl ?_); refine goesL_ (some 85) rfl rfl Tryd.func12 (by kernel_rfl) rfl #[.string a1] rfl (by (try simp only [List.map_toArray, List.map_cons, List.map_nil]); first | done | rfl | (simp only [List.length_drop, List.length_take]; rfl)) ?_; (with_reducible refine (lex_Name.calls kj19 a1 true _ A37.out).mono ?_); rintro e w59 ⟨rfl, hb⟩; refine ⟨_, rfl, ?_⟩; have n0_ := Aside0.mk (below_step (by repeat (first | (with_reducible first | exact HB.out | apply below_alloc | apply pw_below_drewN | apply below_drew1) | exact HB.out)) hb); clear HB; have HB := n0_; clear n0_; (try clear hb); (try clear hb2); (try clear hk); (try clear hi)) | (go_at_call 14; (with_reducible refine (lex_Upper.calls kj19 a1 true _ A57.out).mono ?_); rintro e w' ⟨rfl, ⟨nd, rfl⟩⟩))
                              go_meet
                              case rel => exact ⟨_, (false), (by first | rfl | (simp; done) | (simp [*]; done)), H', ⟨by have := HJ6.out; have := HJ19.out; first | omega | exact Nat.le_refl _⟩, ⟨by repeat (first | (with_reducible first | exact HB.out | apply below_alloc | apply pw_below_drewN | apply below_drew1) | exact HB.out)⟩⟩
                            · replace c58 := Bool.eq_false_iff.mpr c58
                              subst c58
                              have H1 : (gristmilllaw3_LexNames.j2 kj19 a1 true false) = some r := by rw [if_neg (show ¬ (false = true) by decide)] at H; exact H
                              clear H
                              have H := H1
                              clear H1
                              have H' := Aside0.mk H
                              clear H
                              go_wp2_with (first | ((with_reducible refine gate_callee (f := 12) rfl ?_); refine goesL_ (some 85) rfl rfl Tryd.func12 (by kernel_rfl) rfl #[.string a1] rfl (by (try simp only [List.map_toArray, List.map_cons, List.map_nil]); first | done | rfl | (simp only [List.length_drop, List.length_take]; rfl)) ?_; (with_reducible refine (lex_Name.calls kj19 a1 true _ A37.out).mono ?_); rintro e w60 ⟨rfl, hb⟩; refine ⟨_, rfl, ?_⟩; have n0_ := Aside0.mk (below_step (by repeat (first | (with_reducible first | exact HB.out | apply below_alloc | apply pw_below_drewN | apply below_drew1) | exact HB.out)) hb); clear HB; have HB := n0_; clear n0_; (try clear hb); (try clear hb2); (try clear hk); (try clear hi)) | (go_at_call 14; (with_reducible refine (lex_Upper.calls kj19 a1 false _ A57.out).mono ?_); rintro e w' ⟨rfl, ⟨nd, rfl⟩⟩))
                              go_meet
                              case rel => exact ⟨_, (false), (by first | rfl | (simp; done) | (simp [*]; done)), H', ⟨by have := HJ6.out; have := HJ19.out; first | omega | exact Nat.le_refl _⟩, ⟨by repeat (first | (with_reducible first | exact HB.out | apply below_alloc | apply pw_below_drewN | apply below_drew1) | exact HB.out)⟩⟩
                        · replace c38 := Bool.eq_false_iff.mpr c38
                          subst c38
                          have H1 : ((lex_Upper.f kj19 a1).bind fun t301 => (if t301 = true then (if x8_19 = true then ((lex_Upper.f kj19 (a1 ++ (strOfNums y291))).bind fun t302 => (gristmilllaw3_LexNames.j2 kj19 a1 true (!t302))) else (gristmilllaw3_LexNames.j2 kj19 a1 true false)) else (gristmilllaw3_LexNames.j2 kj19 a1 true false))) = some r := by rw [if_neg (show ¬ (false = true) by decide)] at H; exact H
                          clear H
                          have H := H1
                          clear H1
                          replace H := Option.bind_eq_some_iff.mp H
                          obtain ⟨t301, A610, H⟩ := H
                          replace H : (if t301 = true then (if x8_19 = true then ((lex_Upper.f kj19 (a1 ++ (strOfNums y291))).bind fun t302 => (gristmilllaw3_LexNames.j2 kj19 a1 true (!t302))) else (gristmilllaw3_LexNames.j2 kj19 a1 true false)) else (gristmilllaw3_LexNames.j2 kj19 a1 true false)) = some r := H
                          have A61 := Aside0.mk A610
                          clear A610
                          by_cases c62 : t301 = true
                          · subst c62
                            have H1 : (if x8_19 = true then ((lex_Upper.f kj19 (a1 ++ (strOfNums y291))).bind fun t302 => (gristmilllaw3_LexNames.j2 kj19 a1 true (!t302))) else (gristmilllaw3_LexNames.j2 kj19 a1 true false)) = some r := by rw [if_pos rfl] at H; exact H
                            clear H
                            have H := H1
                            clear H1
                            by_cases c63 : x8_19 = true
                            · subst c63
                              have H1 : ((lex_Upper.f kj19 (a1 ++ (strOfNums y291))).bind fun t302 => (gristmilllaw3_LexNames.j2 kj19 a1 true (!t302))) = some r := by rw [if_pos rfl] at H; exact H
                              clear H
                              have H := H1
                              clear H1
                              replace H := Option.bind_eq_some_iff.mp H
                              obtain ⟨t302, A640, H⟩ := H
                              replace H : (gristmilllaw3_LexNames.j2 kj19 a1 true (!t302)) = some r := H
                              have A64 := Aside0.mk A640
                              clear A640
                              have H' := Aside0.mk H
                              clear H
                              go_wp2_with (first | ((with_reducible refine gate_callee (f := 12) rfl ?_); refine goesL_ (some 85) rfl rfl Tryd.func12 (by kernel_rfl) rfl #[.string a1] rfl (by (try simp only [List.map_toArray, List.map_cons, List.map_nil]); first | done | rfl | (simp only [List.length_drop, List.length_take]; rfl)) ?_; (with_reducible refine (lex_Name.calls kj19 a1 false _ A37.out).mono ?_); rintro e w65 ⟨rfl, hb⟩; refine ⟨_, rfl, ?_⟩; have n0_ := Aside0.mk (below_step (by repeat (first | (with_reducible first | exact HB.out | apply below_alloc | apply pw_below_drewN | apply below_drew1) | exact HB.out)) hb); clear HB; have HB := n0_; clear n0_; (try clear hb); (try clear hb2); (try clear hk); (try clear hi)) | (go_at_call 14; (with_reducible refine (lex_Upper.calls kj19 a1 true _ A61.out).mono ?_); rintro e w' ⟨rfl, ⟨nd, rfl⟩⟩) | (go_at_call 14; (with_reducible refine (lex_Upper.calls kj19 (a1 ++ (strOfNums y291)) t302 _ A64.out).mono ?_); rintro e w' ⟨rfl, ⟨nd, rfl⟩⟩))
                              go_meet
                              case rel => exact ⟨_, (!t302), (by first | rfl | (simp; done) | (simp [*]; done)), H', ⟨by have := HJ6.out; have := HJ19.out; first | omega | exact Nat.le_refl _⟩, ⟨by repeat (first | (with_reducible first | exact HB.out | apply below_alloc | apply pw_below_drewN | apply below_drew1) | exact HB.out)⟩⟩
                            · replace c63 := Bool.eq_false_iff.mpr c63
                              subst c63
                              have H1 : (gristmilllaw3_LexNames.j2 kj19 a1 true false) = some r := by rw [if_neg (show ¬ (false = true) by decide)] at H; exact H
                              clear H
                              have H := H1
                              clear H1
                              have H' := Aside0.mk H
                              clear H
                              go_wp2_with (first | ((with_reducible refine gate_callee (f := 12) rfl ?_); refine goesL_ (some 85) rfl rfl Tryd.func12 (by kernel_rfl) rfl #[.string a1] rfl (by (try simp only [List.map_toArray, List.map_cons, List.map_nil]); first | done | rfl | (simp only [List.length_drop, List.length_take]; rfl)) ?_; (with_reducible refine (lex_Name.calls kj19 a1 false _ A37.out).mono ?_); rintro e w66 ⟨rfl, hb⟩; refine ⟨_, rfl, ?_⟩; have n0_ := Aside0.mk (below_step (by repeat (first | (with_reducible first | exact HB.out | apply below_alloc | apply pw_below_drewN | apply below_drew1) | exact HB.out)) hb); clear HB; have HB := n0_; clear n0_; (try clear hb); (try clear hb2); (try clear hk); (try clear hi)) | (go_at_call 14; (with_reducible refine (lex_Upper.calls kj19 a1 true _ A61.out).mono ?_); rintro e w' ⟨rfl, ⟨nd, rfl⟩⟩))
                              go_meet
                              case rel => exact ⟨_, (false), (by first | rfl | (simp; done) | (simp [*]; done)), H', ⟨by have := HJ6.out; have := HJ19.out; first | omega | exact Nat.le_refl _⟩, ⟨by repeat (first | (with_reducible first | exact HB.out | apply below_alloc | apply pw_below_drewN | apply below_drew1) | exact HB.out)⟩⟩
                          · replace c62 := Bool.eq_false_iff.mpr c62
                            subst c62
                            have H1 : (gristmilllaw3_LexNames.j2 kj19 a1 true false) = some r := by rw [if_neg (show ¬ (false = true) by decide)] at H; exact H
                            clear H
                            have H := H1
                            clear H1
                            have H' := Aside0.mk H
                            clear H
                            go_wp2_with (first | ((with_reducible refine gate_callee (f := 12) rfl ?_); refine goesL_ (some 85) rfl rfl Tryd.func12 (by kernel_rfl) rfl #[.string a1] rfl (by (try simp only [List.map_toArray, List.map_cons, List.map_nil]); first | done | rfl | (simp only [List.length_drop, List.length_take]; rfl)) ?_; (with_reducible refine (lex_Name.calls kj19 a1 false _ A37.out).mono ?_); rintro e w67 ⟨rfl, hb⟩; refine ⟨_, rfl, ?_⟩; have n0_ := Aside0.mk (below_step (by repeat (first | (with_reducible first | exact HB.out | apply below_alloc | apply pw_below_drewN | apply below_drew1) | exact HB.out)) hb); clear HB; have HB := n0_; clear n0_; (try clear hb); (try clear hb2); (try clear hk); (try clear hi)) | (go_at_call 14; (with_reducible refine (lex_Upper.calls kj19 a1 false _ A61.out).mono ?_); rintro e w' ⟨rfl, ⟨nd, rfl⟩⟩))
                            go_meet
                            case rel => exact ⟨_, (false), (by first | rfl | (simp; done) | (simp [*]; done)), H', ⟨by have := HJ6.out; have := HJ19.out; first | omega | exact Nat.le_refl _⟩, ⟨by repeat (first | (with_reducible first | exact HB.out | apply below_alloc | apply pw_below_drewN | apply below_drew1) | exact HB.out)⟩⟩
                      case rest =>
                        clear HC36
                        try clear c1
                        try clear p1
                        try clear q1
                        try clear hx1
                        try clear c2
                        try clear p2
                        try clear hcv2
                        try clear c3
                        try clear c4
                        try clear c5
                        try clear c5b0
                        try clear c5b1
                        try clear c6
                        try clear c7
                        try clear c8
                        try clear c9
                        try clear c10
                        try clear c12
                        try clear c14
                        try clear c16
                        try clear c16b0
                        try clear c17
                        try clear c17b0
                        try clear p18
                        try clear q18
                        try clear hx18
                        try clear c19
                        try clear c19b0
                        try clear c19b1
                        try clear c19b2
                        try clear hcv23
                        try clear c24
                        try clear c24b0
                        try clear c24b1
                        try clear c25
                        try clear c25b0
                        try clear c25b1
                        try clear c26
                        try clear c26b0
                        try clear c26b1
                        try clear c27
                        try clear c27b0
                        try clear c27b1
                        try clear c28
                        try clear c28b0
                        try clear c28b1
                        try clear c29
                        try clear c29b0
                        try clear c29b1
                        try clear c30
                        try clear c30b0
                        try clear c30b1
                        try clear c31
                        try clear c31b0
                        try clear c31b1
                        try clear c32
                        try clear c32b0
                        try clear c32b1
                        try clear c33
                        try clear c33b0
                        try clear c33b1
                        try clear c34
                        try clear c34b0
                        try clear c34b1
                        try clear c35
                        try clear c35b0
                        try clear c35b1
                        try clear c38
                        try clear c39
                        try clear c40
                        try clear c42
                        try clear c47
                        try clear c49
                        try clear c58
                        try clear c62
                        try clear c63
                        try clear p1
                        try clear p18
                        try clear p2
                        try clear q1
                        try clear q18
                        obtain ⟨kq, x109_35, rfl, HA, HJ35, HB⟩ := hcut
                        cases kq with
                        | zero => exact absurd HA.out (by simp [gristmilllaw3_LexNames.j2])
                        | succ kj35 =>
                          have H := HA.out
                          clear HA
                          simp only [gristmilllaw3_LexNames.j2] at H
                          by_cases c68 : x109_35 = true
                          · subst c68
                            have H1 : (some false) = some r := by rw [if_pos rfl] at H; exact H
                            clear H
                            have H := H1
                            clear H1
                            obtain rfl := Option.some.inj H
                            go_wp2
                            go_ret
                            exact ⟨by first | rfl | (simp [errW_none, errW_some] <;> rfl) | (simp [*, errW_none, errW_some] <;> rfl), by repeat (first | (with_reducible first | exact HB.out | apply below_alloc | apply pw_below_drewN | apply below_drew1) | exact HB.out)⟩
                          · replace c68 := Bool.eq_false_iff.mpr c68
                            subst c68
                            have H1 : (if true = true then (if a1.size + 1 ≤ 9223372036854775807 then ((lex_Name.f kj35 (a1 ++ (⟨#[45]⟩ : ByteArray))).bind fun t303 => (if t303 = true then (some false) else ((lex_Name.f kj35 (a1 ++ (⟨#[32]⟩ : ByteArray))).bind fun t304 => (if t304 = true then (some false) else ((lex_Upper.f kj35 (a1 ++ (⟨#[39]⟩ : ByteArray))).bind fun t305 => (if t305 = true then (some false) else ((lex_Name.f kj35 (⟨#[]⟩ : ByteArray)).bind fun t306 => (if t306 = true then (some false) else ((lex_Upper.f kj35 (⟨#[]⟩ : ByteArray)).bind fun t307 => (some (!t307))))))))))) else (none)) else (some false)) = some r := by rw [if_neg (show ¬ (false = true) by decide)] at H; exact H
                            clear H
                            have H := H1
                            clear H1
                            have H1 : (if a1.size + 1 ≤ 9223372036854775807 then ((lex_Name.f kj35 (a1 ++ (⟨#[45]⟩ : ByteArray))).bind fun t303 => (if t303 = true then (some false) else ((lex_Name.f kj35 (a1 ++ (⟨#[32]⟩ : ByteArray))).bind fun t304 => (if t304 = true then (some false) else ((lex_Upper.f kj35 (a1 ++ (⟨#[39]⟩ : ByteArray))).bind fun t305 => (if t305 = true then (some false) else ((lex_Name.f kj35 (⟨#[]⟩ : ByteArray)).bind fun t306 => (if t306 = true then (some false) else ((lex_Upper.f kj35 (⟨#[]⟩ : ByteArray)).bind fun t307 => (some (!t307))))))))))) else (none)) = some r := by first | exact H | (rw [if_pos rfl] at H; exact H)
                            clear H
                            have H := H1
                            clear H1
                            by_cases c69 : a1.size + 1 ≤ 9223372036854775807
                            · rw [if_pos c69] at H
                              have c69b0 := eq_true c69
                              have c69b1 : decide (a1.size + 1 ≤ 9223372036854775807) = true := decide_eq_true c69
                              try have c69b2 : (9223372036854775807 < a1.size + 1) = False := eq_false (Nat.not_lt.2 c69)
                              replace H := Option.bind_eq_some_iff.mp H
                              obtain ⟨t303, A700, H⟩ := H
                              replace H : (if t303 = true then (some false) else ((lex_Name.f kj35 (a1 ++ (⟨#[32]⟩ : ByteArray))).bind fun t304 => (if t304 = true then (some false) else ((lex_Upper.f kj35 (a1 ++ (⟨#[39]⟩ : ByteArray))).bind fun t305 => (if t305 = true then (some false) else ((lex_Name.f kj35 (⟨#[]⟩ : ByteArray)).bind fun t306 => (if t306 = true then (some false) else ((lex_Upper.f kj35 (⟨#[]⟩ : ByteArray)).bind fun t307 => (some (!t307)))))))))) = some r := H
                              have A70 := Aside0.mk A700
                              clear A700
                              by_cases c71 : t303 = true
                              · subst c71
                                have H1 : (some false) = some r := by rw [if_pos rfl] at H; exact H
                                clear H
                                have H := H1
                                clear H1
                                obtain rfl := Option.some.inj H
                                go_wp2_with (first | (go_at_call 12; (with_reducible refine (lex_Name.calls kj35 (a1 ++ (⟨#[45]⟩ : ByteArray)) true _ A70.out).mono ?_); rintro e w72 ⟨rfl, hb⟩; have n0_ := Aside0.mk (below_step (by repeat (first | (with_reducible first | exact HB.out | apply below_alloc | apply pw_below_drewN | apply below_drew1) | exact HB.out)) hb); clear HB; have HB := n0_; clear n0_; (try clear hb); (try clear hb2); (try clear hk); (try clear hi)))
                                go_ret
                                exact ⟨by first | rfl | (simp [errW_none, errW_some] <;> rfl) | (simp [*, errW_none, errW_some] <;> rfl), by repeat (first | (with_reducible first | exact HB.out | apply below_alloc | apply pw_below_drewN | apply below_drew1) | exact HB.out)⟩
                              · replace c71 := Bool.eq_false_iff.mpr c71
                                subst c71
                                have H1 : ((lex_Name.f kj35 (a1 ++ (⟨#[32]⟩ : ByteArray))).bind fun t304 => (if t304 = true then (some false) else ((lex_Upper.f kj35 (a1 ++ (⟨#[39]⟩ : ByteArray))).bind fun t305 => (if t305 = true then (some false) else ((lex_Name.f kj35 (⟨#[]⟩ : ByteArray)).bind fun t306 => (if t306 = true then (some false) else ((lex_Upper.f kj35 (⟨#[]⟩ : ByteArray)).bind fun t307 => (some (!t307))))))))) = some r := by rw [if_neg (show ¬ (false = true) by decide)] at H; exact H
                                clear H
                                have H := H1
                                clear H1
                                replace H := Option.bind_eq_some_iff.mp H
                                obtain ⟨t304, A730, H⟩ := H
                                replace H : (if t304 = true then (some false) else ((lex_Upper.f kj35 (a1 ++ (⟨#[39]⟩ : ByteArray))).bind fun t305 => (if t305 = true then (some false) else ((lex_Name.f kj35 (⟨#[]⟩ : ByteArray)).bind fun t306 => (if t306 = true then (some false) else ((lex_Upper.f kj35 (⟨#[]⟩ : ByteArray)).bind fun t307 => (some (!t307)))))))) = some r := H
                                have A73 := Aside0.mk A730
                                clear A730
                                by_cases c74 : t304 = true
                                · subst c74
                                  have H1 : (some false) = some r := by rw [if_pos rfl] at H; exact H
                                  clear H
                                  have H := H1
                                  clear H1
                                  obtain rfl := Option.some.inj H
                                  go_wp2_with (first | (go_at_call 12; (with_reducible refine (lex_Name.calls kj35 (a1 ++ (⟨#[45]⟩ : ByteArray)) false _ A70.out).mono ?_); rintro e w75 ⟨rfl, hb⟩; have n0_ := Aside0.mk (below_step (by repeat (first | (with_reducible first | exact HB.out | apply below_alloc | apply pw_below_drewN | apply below_drew1) | exact HB.out)) hb); clear HB; have HB := n0_; clear n0_; (try clear hb); (try clear hb2); (try clear hk); (try clear hi)) | (go_at_call 12; (with_reducible refine (lex_Name.calls kj35 (a1 ++ (⟨#[32]⟩ : ByteArray)) true _ A73.out).mono ?_); rintro e w76 ⟨rfl, hb⟩; have n0_ := Aside0.mk (below_step (by repeat (first | (with_reducible first | exact HB.out | apply below_alloc | apply pw_below_drewN | apply below_drew1) | exact HB.out)) hb); clear HB; have HB := n0_; clear n0_; (try clear hb); (try clear hb2); (try clear hk); (try clear hi)))
                                  go_ret
                                  exact ⟨by first | rfl | (simp [errW_none, errW_some] <;> rfl) | (simp [*, errW_none, errW_some] <;> rfl), by repeat (first | (with_reducible first | exact HB.out | apply below_alloc | apply pw_below_drewN | apply below_drew1) | exact HB.out)⟩
                                · replace c74 := Bool.eq_false_iff.mpr c74
                                  subst c74
                                  have H1 : ((lex_Upper.f kj35 (a1 ++ (⟨#[39]⟩ : ByteArray))).bind fun t305 => (if t305 = true then (some false) else ((lex_Name.f kj35 (⟨#[]⟩ : ByteArray)).bind fun t306 => (if t306 = true then (some false) else ((lex_Upper.f kj35 (⟨#[]⟩ : ByteArray)).bind fun t307 => (some (!t307))))))) = some r := by rw [if_neg (show ¬ (false = true) by decide)] at H; exact H
                                  clear H
                                  have H := H1
                                  clear H1
                                  replace H := Option.bind_eq_some_iff.mp H
                                  obtain ⟨t305, A770, H⟩ := H
                                  replace H : (if t305 = true then (some false) else ((lex_Name.f kj35 (⟨#[]⟩ : ByteArray)).bind fun t306 => (if t306 = true then (some false) else ((lex_Upper.f kj35 (⟨#[]⟩ : ByteArray)).bind fun t307 => (some (!t307)))))) = some r := H
                                  have A77 := Aside0.mk A770
                                  clear A770
                                  by_cases c78 : t305 = true
                                  · subst c78
                                    have H1 : (some false) = some r := by rw [if_pos rfl] at H; exact H
                                    clear H
                                    have H := H1
                                    clear H1
                                    obtain rfl := Option.some.inj H
                                    go_wp2_with (first | (go_at_call 12; (with_reducible refine (lex_Name.calls kj35 (a1 ++ (⟨#[45]⟩ : ByteArray)) false _ A70.out).mono ?_); rintro e w79 ⟨rfl, hb⟩; have n0_ := Aside0.mk (below_step (by repeat (first | (with_reducible first | exact HB.out | apply below_alloc | apply pw_below_drewN | apply below_drew1) | exact HB.out)) hb); clear HB; have HB := n0_; clear n0_; (try clear hb); (try clear hb2); (try clear hk); (try clear hi)) | (go_at_call 12; (with_reducible refine (lex_Name.calls kj35 (a1 ++ (⟨#[32]⟩ : ByteArray)) false _ A73.out).mono ?_); rintro e w80 ⟨rfl, hb⟩; have n0_ := Aside0.mk (below_step (by repeat (first | (with_reducible first | exact HB.out | apply below_alloc | apply pw_below_drewN | apply below_drew1) | exact HB.out)) hb); clear HB; have HB := n0_; clear n0_; (try clear hb); (try clear hb2); (try clear hk); (try clear hi)) | (go_at_call 14; (with_reducible refine (lex_Upper.calls kj35 (a1 ++ (⟨#[39]⟩ : ByteArray)) true _ A77.out).mono ?_); rintro e w' ⟨rfl, ⟨nd, rfl⟩⟩))
                                    go_ret
                                    exact ⟨by first | rfl | (simp [errW_none, errW_some] <;> rfl) | (simp [*, errW_none, errW_some] <;> rfl), by repeat (first | (with_reducible first | exact HB.out | apply below_alloc | apply pw_below_drewN | apply below_drew1) | exact HB.out)⟩
                                  · replace c78 := Bool.eq_false_iff.mpr c78
                                    subst c78
                                    have H1 : ((lex_Name.f kj35 (⟨#[]⟩ : ByteArray)).bind fun t306 => (if t306 = true then (some false) else ((lex_Upper.f kj35 (⟨#[]⟩ : ByteArray)).bind fun t307 => (some (!t307))))) = some r := by rw [if_neg (show ¬ (false = true) by decide)] at H; exact H
                                    clear H
                                    have H := H1
                                    clear H1
                                    replace H := Option.bind_eq_some_iff.mp H
                                    obtain ⟨t306, A810, H⟩ := H
                                    replace H : (if t306 = true then (some false) else ((lex_Upper.f kj35 (⟨#[]⟩ : ByteArray)).bind fun t307 => (some (!t307)))) = some r := H
                                    have A81 := Aside0.mk A810
                                    clear A810
                                    by_cases c82 : t306 = true
                                    · subst c82
                                      have H1 : (some false) = some r := by rw [if_pos rfl] at H; exact H
                                      clear H
                                      have H := H1
                                      clear H1
                                      obtain rfl := Option.some.inj H
                                      go_wp2_with (first | (go_at_call 12; (with_reducible refine (lex_Name.calls kj35 (a1 ++ (⟨#[45]⟩ : ByteArray)) false _ A70.out).mono ?_); rintro e w83 ⟨rfl, hb⟩; have n0_ := Aside0.mk (below_step (by repeat (first | (with_reducible first | exact HB.out | apply below_alloc | apply pw_below_drewN | apply below_drew1) | exact HB.out)) hb); clear HB; have HB := n0_; clear n0_; (try clear hb); (try clear hb2); (try clear hk); (try clear hi)) | (go_at_call 12; (with_reducible refine (lex_Name.calls kj35 (a1 ++ (⟨#[32]⟩ : ByteArray)) false _ A73.out).mono ?_); rintro e w84 ⟨rfl, hb⟩; have n0_ := Aside0.mk (below_step (by repeat (first | (with_reducible first | exact HB.out | apply below_alloc | apply pw_below_drewN | apply below_drew1) | exact HB.out)) hb); clear HB; have HB := n0_; clear n0_; (try clear hb); (try clear hb2); (try clear hk); (try clear hi)) | (go_at_call 14; (with_reducible refine (lex_Upper.calls kj35 (a1 ++ (⟨#[39]⟩ : ByteArray)) false _ A77.out).mono ?_); rintro e w' ⟨rfl, ⟨nd, rfl⟩⟩) | (go_at_call 12; (with_reducible refine (lex_Name.calls kj35 (⟨#[]⟩ : ByteArray) true _ A81.out).mono ?_); rintro e w85 ⟨rfl, hb⟩; have n0_ := Aside0.mk (below_step (by repeat (first | (with_reducible first | exact HB.out | apply below_alloc | apply pw_below_drewN | apply below_drew1) | exact HB.out)) hb); clear HB; have HB := n0_; clear n0_; (try clear hb); (try clear hb2); (try clear hk); (try clear hi)))
                                      go_ret
                                      exact ⟨by first | rfl | (simp [errW_none, errW_some] <;> rfl) | (simp [*, errW_none, errW_some] <;> rfl), by repeat (first | (with_reducible first | exact HB.out | apply below_alloc | apply pw_below_drewN | apply below_drew1) | exact HB.out)⟩
                                    · replace c82 := Bool.eq_false_iff.mpr c82
                                      subst c82
                                      have H1 : ((lex_Upper.f kj35 (⟨#[]⟩ : ByteArray)).bind fun t307 => (some (!t307))) = some r := by rw [if_neg (show ¬ (false = true) by decide)] at H; exact H
                                      clear H
                                      have H := H1
                                      clear H1
                                      replace H := Option.bind_eq_some_iff.mp H
                                      obtain ⟨t307, A860, H⟩ := H
                                      replace H : (some (!t307)) = some r := H
                                      have A86 := Aside0.mk A860
                                      clear A860
                                      obtain rfl := Option.some.inj H
                                      go_wp2_with (first | (go_at_call 12; (with_reducible refine (lex_Name.calls kj35 (a1 ++ (⟨#[45]⟩ : ByteArray)) false _ A70.out).mono ?_); rintro e w87 ⟨rfl, hb⟩; have n0_ := Aside0.mk (below_step (by repeat (first | (with_reducible first | exact HB.out | apply below_alloc | apply pw_below_drewN | apply below_drew1) | exact HB.out)) hb); clear HB; have HB := n0_; clear n0_; (try clear hb); (try clear hb2); (try clear hk); (try clear hi)) | (go_at_call 12; (with_reducible refine (lex_Name.calls kj35 (a1 ++ (⟨#[32]⟩ : ByteArray)) false _ A73.out).mono ?_); rintro e w88 ⟨rfl, hb⟩; have n0_ := Aside0.mk (below_step (by repeat (first | (with_reducible first | exact HB.out | apply below_alloc | apply pw_below_drewN | apply below_drew1) | exact HB.out)) hb); clear HB; have HB := n0_; clear n0_; (try clear hb); (try clear hb2); (try clear hk); (try clear hi)) | (go_at_call 14; (with_reducible refine (lex_Upper.calls kj35 (a1 ++ (⟨#[39]⟩ : ByteArray)) false _ A77.out).mono ?_); rintro e w' ⟨rfl, ⟨nd, rfl⟩⟩) | (go_at_call 12; (with_reducible refine (lex_Name.calls kj35 (⟨#[]⟩ : ByteArray) false _ A81.out).mono ?_); rintro e w89 ⟨rfl, hb⟩; have n0_ := Aside0.mk (below_step (by repeat (first | (with_reducible first | exact HB.out | apply below_alloc | apply pw_below_drewN | apply below_drew1) | exact HB.out)) hb); clear HB; have HB := n0_; clear n0_; (try clear hb); (try clear hb2); (try clear hk); (try clear hi)) | (go_at_call 14; (with_reducible refine (lex_Upper.calls kj35 (⟨#[]⟩ : ByteArray) t307 _ A86.out).mono ?_); rintro e w' ⟨rfl, ⟨nd, rfl⟩⟩))
                                      go_ret
                                      exact ⟨by first | rfl | (simp [errW_none, errW_some] <;> rfl) | (simp [*, errW_none, errW_some] <;> rfl), by repeat (first | (with_reducible first | exact HB.out | apply below_alloc | apply pw_below_drewN | apply below_drew1) | exact HB.out)⟩
                            · rw [if_neg c69] at H
                              exact absurd H (by simp)
                · rw [if_neg c19] at H
                  exact absurd H (by simp)
              · rw [if_neg c17] at H
                exact absurd H (by simp)
            · rw [if_neg c16] at H
              exact absurd H (by simp)
  · replace c4 := Bool.eq_false_iff.mpr c4
    subst c4
    have H1 : (some false) = some r := by rw [if_neg (show ¬ (false = true) by decide)] at H; exact H
    clear H
    have H := H1
    clear H1
    obtain rfl := Option.some.inj H
    go_enter Tryd.func7, Tryd.ntmps7
    go_wp2_with (first | ((with_reducible refine gate_callee (f := 8) rfl ?_); refine goesL_ (some 10) rfl rfl Tryd.func8 (by kernel_rfl) rfl #[] rfl (by (try simp only [List.map_toArray, List.map_cons, List.map_nil]); first | done | rfl | (simp only [List.length_drop, List.length_take]; rfl)) ?_; (with_reducible refine (gristmilllaw3_first.calls k  false _ A3.out).mono ?_); rintro e w90 ⟨rfl, hb⟩; refine ⟨_, rfl, ?_⟩; have n0_ := Aside0.mk (below_step (by repeat (first | (with_reducible first | exact HB.out | apply below_alloc | apply pw_below_drewN | apply below_drew1) | exact HB.out)) hb); clear HB; have HB := n0_; clear n0_; (try clear hb); (try clear hb2); (try clear hk); (try clear hi)))
    go_ret
    exact ⟨by first | rfl | (simp [errW_none, errW_some] <;> rfl) | (simp [*, errW_none, errW_some] <;> rfl), by repeat (first | (with_reducible first | exact HB.out | apply below_alloc | apply pw_below_drewN | apply below_drew1) | exact HB.out)⟩

/-- THE ONE PURE STATEMENT of gristmilllaw3_LexNames: yours. -/
def gristmilllaw3_LexNames.Pure : Prop := ∀ (a0 : Int) (a1 : ByteArray), (Lit.int .i64 a0).wf = true → a1.size ≤ 140737488351232 → ∃ k, gristmilllaw3_LexNames.f k a0 a1 = some true
theorem gristmilllaw3_LexNames.walk (P : gristmilllaw3_LexNames.Pure) (a0 : Int) (a1 : ByteArray) (w : World) (w0 : (Lit.int .i64 a0).wf = true) (w1 : a1.size ≤ 140737488351232) :
    Calls Tryd.prog 7 #[.int .i64 a0, .string a1] w fun e w' => e = .returned (.bool true) ∧ Below w.heap.size w w' := by
  obtain ⟨k, h⟩ := P a0 a1 w0 w1
  refine (gristmilllaw3_LexNames.calls k a0 a1 true w h).mono ?_
  rintro e w' ⟨rfl, hd⟩
  exact ⟨rfl, hd⟩

end Go.Proofs.YtiacndjjppcaoaaDoor.PLex
