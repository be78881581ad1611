/- For each Go function that the laws of this group reach: a plain function with the same answers, and the proof that the call comes to them wherever the plain function has an answer. No other condition. (Laid by a program of this session.) -/
import Derived.Test.YthbiofcgaegjkaaDoorPTreeAx0
import Derived.Test.YthbiofcgaegjkaaDoorPTreeAx1
import Derived.Test.YthbiofcgaegjkaaDoorExtQ
namespace Go.Proofs.YthbiofcgaegjkaaDoor.PTreeA
open Go.RowKit Go.Proofs.YthbiofcgaegjkaaDoorW.PrintWords Go.Proofs.YthbiofcgaegjkaaDoorW.PrintLast Go.Proofs.YthbiofcgaegjkaaDoorW.PrintMore Go.Proofs.YthbiofcgaegjkaaDoor.ExtE
attribute [local go_sem] max2_int min2_int max_two min_two max_three min_three max_four min_four   -- for this text's walks alone
set_option linter.unusedVariables false
set_option linter.unusedSimpArgs false

variable {ad : Int → Addr}
/-! ### gristmilllaw4_TreeWraps: function 5 -/
mutual
def gristmilllaw4_TreeWraps.j0 : Nat → ByteArray → ByteArray → Int → Bool → Bool → Option (Bool)
  | 0, _, _, _, _, _ => none
  | k + 1, x0, x1, x2, x7, x30 => if x30 = true then (some x7) else ((gristmillworld_Number.f x2 4).bind fun t111 => ((tree_Parse.f k x0).bind fun bt112 => ((tree_Parse.f k x1).bind fun bt116 => (if bt112.2.isNone = true then (if bt116.2.isNone = true then (gristmilllaw4_TreeWraps.j1 k x0 x1 t111 x7 bt112.1 bt116.1 false) else (gristmilllaw4_TreeWraps.j1 k x0 x1 t111 x7 bt112.1 bt116.1 true)) else (gristmilllaw4_TreeWraps.j1 k x0 x1 t111 x7 bt112.1 bt116.1 true)))))
def gristmilllaw4_TreeWraps.j1 : Nat → ByteArray → ByteArray → Int → Bool → List (S39) → List (S39) → Bool → Option (Bool)
  | 0, _, _, _, _, _, _, _ => none
  | k + 1, x0, x1, x2, x7, x8, x10, x49 => if x49 = true then (some x7) else (gristmilllaw4_TreeWraps.l0 k x0 x1 x2 x7 x8 x10 (⟨#[]⟩ : ByteArray) (⟨#[]⟩ : ByteArray) 0)
def gristmilllaw4_TreeWraps.l0 : Nat → ByteArray → ByteArray → Int → Bool → List (S39) → List (S39) → ByteArray → ByteArray → Int → Option (Bool)
  | 0, _, _, _, _, _, _, _, _, _ => none
  | k + 1, x0, x1, x2, x7, x8, x10, x12, x13, x14 => if x14 < x2 then (if x12.size + 1 ≤ 9223372036854775807 then (if x13.size + 1 ≤ 9223372036854775807 then (gristmilllaw4_TreeWraps.l0 k x0 x1 x2 x7 x8 x10 (x12 ++ (⟨#[40]⟩ : ByteArray)) (x13 ++ (⟨#[41]⟩ : ByteArray)) (wrap64 (x14 + 1))) else (none)) else (none)) else (if x12.size + x0.size ≤ 9223372036854775807 then (if (x12 ++ x0).size + 1 ≤ 9223372036854775807 then (if ((x12 ++ x0) ++ (⟨#[10]⟩ : ByteArray)).size + x13.size ≤ 9223372036854775807 then ((tree_Parse.f k (((x12 ++ x0) ++ (⟨#[10]⟩ : ByteArray)) ++ x13)).bind fun bt122 => ((tree_Deep.f k x8).bind fun t126 => (if (wrap64 (t126 + x2)) > 200 then (some x7) else (if x0.size + 1 ≤ 9223372036854775807 then (if (x0 ++ (⟨#[10]⟩ : ByteArray)).size + x1.size ≤ 9223372036854775807 then ((tree_Parse.f k ((x0 ++ (⟨#[10]⟩ : ByteArray)) ++ x1)).bind fun bt127 => (if bt122.2.isNone = true then (if bt127.2.isNone = true then ((some (([] : List (S39)) : List (S39))).bind fun y133 => (if y133.length + x8.length < 2932031007402 then ((some (y133 ++ x8 : List (S39))).bind fun y136 => (if y136.length + x10.length < 2932031007402 then ((tree_Same.f k bt127.1 (y136 ++ x10)).bind fun t142 => (gristmilllaw4_TreeWraps.j3 k x2 x7 x8 bt122.1 (!t142))) else (none))) else (none))) else (none)) else (none))) else (none)) else (none))))) else (none)) else (none)) else (none))
def gristmilllaw4_TreeWraps.j3 : Nat → Int → Bool → List (S39) → List (S39) → Bool → Option (Bool)
  | 0, _, _, _, _, _ => none
  | k + 1, x2, x7, x8, x15, x99 => if x99 = true then (none) else (gristmilllaw4_TreeWraps.l1 k x2 x7 x8 x15 0)
def gristmilllaw4_TreeWraps.l1 : Nat → Int → Bool → List (S39) → List (S39) → Int → Option (Bool)
  | 0, _, _, _, _, _ => none
  | k + 1, x2, x7, x8, x15, x19 => if x19 < x2 then (if (x15.length : Int) = 1 then (if 0 < (x15.length : Int) then (if ((rd_T39 x15 0).f0).toList = ([] : List UInt8) then (gristmilllaw4_TreeWraps.l1 k x2 x7 x8 ((rd_T39 x15 0).f1) (wrap64 (x19 + 1))) else (none)) else (none)) else (none)) else (if x7 = true then ((tree_Same.f k x15 x8).bind fun t145 => (some t145)) else (none))
end
def gristmilllaw4_TreeWraps.f (k : Nat) (a0 : ByteArray) (a1 : ByteArray) (a2 : Int) : Option (Bool) := (gristmilllaw4_first.f k).bind fun t110 => (if t110 = true then (if (a0.size : Int) > 300 then (gristmilllaw4_TreeWraps.j0 k a0 a1 a2 t110 true) else (gristmilllaw4_TreeWraps.j0 k a0 a1 a2 t110 (decide ((a1.size : Int) > 300)))) else (none))
theorem gristmilllaw4_TreeWraps.mono_l : ∀ k, (∀ y0 y1 y2 y3 y4, LeO (gristmilllaw4_TreeWraps.j0 k y0 y1 y2 y3 y4) (gristmilllaw4_TreeWraps.j0 (k + 1) y0 y1 y2 y3 y4)) ∧ (∀ y0 y1 y2 y3 y4 y5 y6, LeO (gristmilllaw4_TreeWraps.j1 k y0 y1 y2 y3 y4 y5 y6) (gristmilllaw4_TreeWraps.j1 (k + 1) y0 y1 y2 y3 y4 y5 y6)) ∧ (∀ y0 y1 y2 y3 y4 y5 y6 y7 y8, LeO (gristmilllaw4_TreeWraps.l0 k y0 y1 y2 y3 y4 y5 y6 y7 y8) (gristmilllaw4_TreeWraps.l0 (k + 1) y0 y1 y2 y3 y4 y5 y6 y7 y8)) ∧ (∀ y0 y1 y2 y3 y4, LeO (gristmilllaw4_TreeWraps.j3 k y0 y1 y2 y3 y4) (gristmilllaw4_TreeWraps.j3 (k + 1) y0 y1 y2 y3 y4)) ∧ (∀ y0 y1 y2 y3 y4, LeO (gristmilllaw4_TreeWraps.l1 k y0 y1 y2 y3 y4) (gristmilllaw4_TreeWraps.l1 (k + 1) y0 y1 y2 y3 y4))
  | 0 => ⟨fun _ _ _ _ _ r h => by simp [gristmilllaw4_TreeWraps.j0] at h, fun _ _ _ _ _ _ _ r h => by simp [gristmilllaw4_TreeWraps.j1] at h, fun _ _ _ _ _ _ _ _ _ r h => by simp [gristmilllaw4_TreeWraps.l0] at h, fun _ _ _ _ _ r h => by simp [gristmilllaw4_TreeWraps.j3] at h, fun _ _ _ _ _ r h => by simp [gristmilllaw4_TreeWraps.l1] at h⟩
  | k + 1 => by
    obtain ⟨ih0, ih1, ih2, ih3, ih4⟩ := gristmilllaw4_TreeWraps.mono_l k
    refine ⟨?_, ?_, ?_, ?_, ?_⟩
    · intro y0 y1 y2 y3 y4
      unfold gristmilllaw4_TreeWraps.j0
      repeat' first
      | (with_reducible exact ih0 _ _ _ _ _)
      | (with_reducible exact ih1 _ _ _ _ _ _ _)
      | (with_reducible exact ih2 _ _ _ _ _ _ _ _ _)
      | (with_reducible exact ih3 _ _ _ _ _)
      | (with_reducible exact ih4 _ _ _ _ _)
      | (with_reducible exact gristmilllaw4_first.mono _)
      | (with_reducible exact tree_Deep.mono _ _)
      | (with_reducible exact tree_Parse.mono _ _)
      | (with_reducible exact tree_Same.mono _ _ _)
      | (with_reducible exact LeO.refl _)
      | (with_reducible exact LeO.none _)
      | (with_reducible refine LeO.ite ?_ ?_)
      | (with_reducible refine LeO.bind ?_ (fun _ => ?_))
      | exact ih0 _ _ _ _ _
      | exact ih1 _ _ _ _ _ _ _
      | exact ih2 _ _ _ _ _ _ _ _ _
      | exact ih3 _ _ _ _ _
      | exact ih4 _ _ _ _ _
      | exact gristmilllaw4_first.mono _
      | exact tree_Deep.mono _ _
      | exact tree_Parse.mono _ _
      | exact tree_Same.mono _ _ _
      | exact LeO.none _
      | refine LeO.ite ?_ ?_
      | refine LeO.bind ?_ (fun _ => ?_)
    · intro y0 y1 y2 y3 y4 y5 y6
      unfold gristmilllaw4_TreeWraps.j1
      repeat' first
      | (with_reducible exact ih0 _ _ _ _ _)
      | (with_reducible exact ih1 _ _ _ _ _ _ _)
      | (with_reducible exact ih2 _ _ _ _ _ _ _ _ _)
      | (with_reducible exact ih3 _ _ _ _ _)
      | (with_reducible exact ih4 _ _ _ _ _)
      | (with_reducible exact gristmilllaw4_first.mono _)
      | (with_reducible exact tree_Deep.mono _ _)
      | (with_reducible exact tree_Parse.mono _ _)
      | (with_reducible exact tree_Same.mono _ _ _)
      | (with_reducible exact LeO.refl _)
      | (with_reducible exact LeO.none _)
      | (with_reducible refine LeO.ite ?_ ?_)
      | (with_reducible refine LeO.bind ?_ (fun _ => ?_))
      | exact ih0 _ _ _ _ _
      | exact ih1 _ _ _ _ _ _ _
      | exact ih2 _ _ _ _ _ _ _ _ _
      | exact ih3 _ _ _ _ _
      | exact ih4 _ _ _ _ _
      | exact gristmilllaw4_first.mono _
      | exact tree_Deep.mono _ _
      | exact tree_Parse.mono _ _
      | exact tree_Same.mono _ _ _
      | exact LeO.none _
      | refine LeO.ite ?_ ?_
      | refine LeO.bind ?_ (fun _ => ?_)
    · intro y0 y1 y2 y3 y4 y5 y6 y7 y8
      unfold gristmilllaw4_TreeWraps.l0
      repeat' first
      | (with_reducible exact ih0 _ _ _ _ _)
      | (with_reducible exact ih1 _ _ _ _ _ _ _)
      | (with_reducible exact ih2 _ _ _ _ _ _ _ _ _)
      | (with_reducible exact ih3 _ _ _ _ _)
      | (with_reducible exact ih4 _ _ _ _ _)
      | (with_reducible exact gristmilllaw4_first.mono _)
      | (with_reducible exact tree_Deep.mono _ _)
      | (with_reducible exact tree_Parse.mono _ _)
      | (with_reducible exact tree_Same.mono _ _ _)
      | (with_reducible exact LeO.refl _)
      | (with_reducible exact LeO.none _)
      | (with_reducible refine LeO.ite ?_ ?_)
      | (with_reducible refine LeO.bind ?_ (fun _ => ?_))
      | exact ih0 _ _ _ _ _
      | exact ih1 _ _ _ _ _ _ _
      | exact ih2 _ _ _ _ _ _ _ _ _
      | exact ih3 _ _ _ _ _
      | exact ih4 _ _ _ _ _
      | exact gristmilllaw4_first.mono _
      | exact tree_Deep.mono _ _
      | exact tree_Parse.mono _ _
      | exact tree_Same.mono _ _ _
      | exact LeO.none _
      | refine LeO.ite ?_ ?_
      | refine LeO.bind ?_ (fun _ => ?_)
    · intro y0 y1 y2 y3 y4
      unfold gristmilllaw4_TreeWraps.j3
      repeat' first
      | (with_reducible exact ih0 _ _ _ _ _)
      | (with_reducible exact ih1 _ _ _ _ _ _ _)
      | (with_reducible exact ih2 _ _ _ _ _ _ _ _ _)
      | (with_reducible exact ih3 _ _ _ _ _)
      | (with_reducible exact ih4 _ _ _ _ _)
      | (with_reducible exact gristmilllaw4_first.mono _)
      | (with_reducible exact tree_Deep.mono _ _)
      | (with_reducible exact tree_Parse.mono _ _)
      | (with_reducible exact tree_Same.mono _ _ _)
      | (with_reducible exact LeO.refl _)
      | (with_reducible exact LeO.none _)
      | (with_reducible refine LeO.ite ?_ ?_)
      | (with_reducible refine LeO.bind ?_ (fun _ => ?_))
      | exact ih0 _ _ _ _ _
      | exact ih1 _ _ _ _ _ _ _
      | exact ih2 _ _ _ _ _ _ _ _ _
      | exact ih3 _ _ _ _ _
      | exact ih4 _ _ _ _ _
      | exact gristmilllaw4_first.mono _
      | exact tree_Deep.mono _ _
      | exact tree_Parse.mono _ _
      | exact tree_Same.mono _ _ _
      | exact LeO.none _
      | refine LeO.ite ?_ ?_
      | refine LeO.bind ?_ (fun _ => ?_)
    · intro y0 y1 y2 y3 y4
      unfold gristmilllaw4_TreeWraps.l1
      repeat' first
      | (with_reducible exact ih0 _ _ _ _ _)
      | (with_reducible exact ih1 _ _ _ _ _ _ _)
      | (with_reducible exact ih2 _ _ _ _ _ _ _ _ _)
      | (with_reducible exact ih3 _ _ _ _ _)
      | (with_reducible exact ih4 _ _ _ _ _)
      | (with_reducible exact gristmilllaw4_first.mono _)
      | (with_reducible exact tree_Deep.mono _ _)
      | (with_reducible exact tree_Parse.mono _ _)
      | (with_reducible exact tree_Same.mono _ _ _)
      | (with_reducible exact LeO.refl _)
      | (with_reducible exact LeO.none _)
      | (with_reducible refine LeO.ite ?_ ?_)
      | (with_reducible refine LeO.bind ?_ (fun _ => ?_))
      | exact ih0 _ _ _ _ _
      | exact ih1 _ _ _ _ _ _ _
      | exact ih2 _ _ _ _ _ _ _ _ _
      | exact ih3 _ _ _ _ _
      | exact ih4 _ _ _ _ _
      | exact gristmilllaw4_first.mono _
      | exact tree_Deep.mono _ _
      | exact tree_Parse.mono _ _
      | exact tree_Same.mono _ _ _
      | exact LeO.none _
      | refine LeO.ite ?_ ?_
      | refine LeO.bind ?_ (fun _ => ?_)
theorem gristmilllaw4_TreeWraps.mono : ∀ a0 a1 a2 k, LeO (gristmilllaw4_TreeWraps.f k a0 a1 a2) (gristmilllaw4_TreeWraps.f (k + 1) a0 a1 a2) := by
  intro a0 a1 a2 k
  obtain ⟨ih0, ih1, ih2, ih3, ih4⟩ := gristmilllaw4_TreeWraps.mono_l k
  unfold gristmilllaw4_TreeWraps.f
  repeat' first
      | (with_reducible exact ih0 _ _ _ _ _)
      | (with_reducible exact ih1 _ _ _ _ _ _ _)
      | (with_reducible exact ih2 _ _ _ _ _ _ _ _ _)
      | (with_reducible exact ih3 _ _ _ _ _)
      | (with_reducible exact ih4 _ _ _ _ _)
      | (with_reducible exact gristmilllaw4_first.mono _)
      | (with_reducible exact tree_Deep.mono _ _)
      | (with_reducible exact tree_Parse.mono _ _)
      | (with_reducible exact tree_Same.mono _ _ _)
      | (with_reducible exact LeO.refl _)
      | (with_reducible exact LeO.none _)
      | (with_reducible refine LeO.ite ?_ ?_)
      | (with_reducible refine LeO.bind ?_ (fun _ => ?_))
      | exact ih0 _ _ _ _ _
      | exact ih1 _ _ _ _ _ _ _
      | exact ih2 _ _ _ _ _ _ _ _ _
      | exact ih3 _ _ _ _ _
      | exact ih4 _ _ _ _ _
      | exact gristmilllaw4_first.mono _
      | exact tree_Deep.mono _ _
      | exact tree_Parse.mono _ _
      | exact tree_Same.mono _ _ _
      | exact LeO.none _
      | refine LeO.ite ?_ ?_
      | refine LeO.bind ?_ (fun _ => ?_)
set_option maxHeartbeats 8000000 in
set_option maxRecDepth 100000 in
theorem gristmilllaw4_TreeWraps.calls (k : Nat) (a0 : ByteArray) (a1 : ByteArray) (a2 : Int) (r : Bool) (w : World) (hGG : GG ad w) (h : gristmilllaw4_TreeWraps.f k a0 a1 a2 = some r) :
    Calls Tryd.prog 5 #[.string a0, .string a1, .int .i64 a2] w fun e w' => e = .returned (.bool r) ∧ Below w.heap.size w w' := by
  have hu25 := Tryd.underlying25
  have HB := Aside0.mk (Below.refl w.heap.size w)
  have H : ((gristmilllaw4_first.f k).bind fun t110 => (if t110 = true then (if (a0.size : Int) > 300 then (gristmilllaw4_TreeWraps.j0 k a0 a1 a2 t110 true) else (gristmilllaw4_TreeWraps.j0 k a0 a1 a2 t110 (decide ((a1.size : Int) > 300)))) else (none))) = some r := h
  clear h
  replace H := Option.bind_eq_some_iff.mp H
  obtain ⟨t110, A40, H⟩ := H
  replace H : (if t110 = true then (if (a0.size : Int) > 300 then (gristmilllaw4_TreeWraps.j0 k a0 a1 a2 t110 true) else (gristmilllaw4_TreeWraps.j0 k a0 a1 a2 t110 (decide ((a1.size : Int) > 300)))) else (none)) = some r := H
  have A4 := Aside0.mk A40
  clear A40
  by_cases c5 : t110 = true
  · subst c5
    have H1 : (if (a0.size : Int) > 300 then (gristmilllaw4_TreeWraps.j0 k a0 a1 a2 true true) else (gristmilllaw4_TreeWraps.j0 k a0 a1 a2 true (decide ((a1.size : Int) > 300)))) = some r := by rw [if_pos rfl] at H; exact H
    clear H
    have H := H1
    clear H1
    have HC6 := Aside0.mk H
    clear H
    go_enter Tryd.func5, Tryd.ntmps5
    go_upto_region 4 with (first | ((with_reducible refine gate_callee (f := 6) rfl ?_); refine goesL_ (some 20) rfl rfl Tryd.func6 (by kernel_rfl) rfl #[] rfl (by (try simp only [List.map_toArray, List.map_cons, List.map_nil]); first | done | rfl | (simp only [List.length_drop, List.length_take]; rfl)) ?_; (with_reducible refine (gristmilllaw4_first.calls (ad := ad) k  true _ ?side35 A4.out).mono ?_); (case side35 => exact GG.below hGG (by repeat (first | (with_reducible first | exact HB.out | apply below_alloc | apply pw_below_drewN | apply below_drew1) | exact HB.out))); rintro e w7 ⟨rfl, hb⟩; refine ⟨_, rfl, ?_⟩; have n0_ := Aside0.mk (below_step (by repeat (first | (with_reducible first | exact HB.out | apply below_alloc | apply pw_below_drewN | apply below_drew1) | exact HB.out)) hb); clear HB; have HB := n0_; clear n0_; (try clear hb); (try clear hb2); (try clear hk); (try clear hi)))
    (try simp only [Act.put, List.setIfInBounds_toArray, List.set_cons_zero, List.set_cons_succ])
    go_cut [30] (fun v30 wc => ∃ (kq : Nat) (x30_5 : Bool), v30 = .bool x30_5 ∧ Aside0 (gristmilllaw4_TreeWraps.j0 kq a0 a1 a2 true x30_5 = some r) ∧ Aside0 (kq ≤ k) ∧ Aside0 (Below w.heap.size w wc))
    case first => as_aux_lemma =>
      (try simp only [List.append_eq, List.cons_append, List.nil_append])
      have H := HC6.out
      clear HC6
      by_cases c8 : (a0.size : Int) > 300
      · rw [if_pos c8] at H
        have c8b0 : decide (300 < (a0.size : Int)) = true := decide_eq_true c8
        have c8b1 : decide (300 < a0.size) = true := decide_eq_true (by omega)
        clear c8
        (first | rw [c8b0] | (simp only [i64_w, i32_w]; rw [c8b0]) | skip)
        have H' := Aside0.mk H
        clear H
        go_wp2
        go_meet
        case rel => exact ⟨_, (true), (by first | rfl | (simp; done) | (simp [*]; done)), H', ⟨by first | omega | exact Nat.le_refl _⟩, ⟨by repeat (first | (with_reducible first | exact HB.out | apply below_alloc | apply pw_below_drewN | apply below_drew1) | exact HB.out)⟩⟩
      · rw [if_neg c8] at H
        have c8b0 : decide (300 < (a0.size : Int)) = false := decide_eq_false c8
        have c8b1 : decide (300 < a0.size) = false := decide_eq_false (by omega)
        clear c8
        (first | rw [c8b0] | (simp only [i64_w, i32_w]; rw [c8b0]) | skip)
        have H' := Aside0.mk H
        clear H
        go_wp2
        go_meet
        case rel => exact ⟨_, (decide ((a1.size : Int) > 300)), (by first | rfl | (simp; done) | (simp [*]; done)), H', ⟨by first | omega | exact Nat.le_refl _⟩, ⟨by repeat (first | (with_reducible first | exact HB.out | apply below_alloc | apply pw_below_drewN | apply below_drew1) | exact HB.out)⟩⟩
    case rest =>
      clear HC6
      try clear p2
      try clear c5
      try clear c6
      try clear c8
      try clear c8b0
      try clear c8b1
      obtain ⟨kq, x30_5, rfl, HA, HJ5, HB⟩ := hcut
      cases kq with
      | zero => exact absurd HA.out (by simp [gristmilllaw4_TreeWraps.j0])
      | succ kj5 =>
        have H := HA.out
        clear HA
        simp only [gristmilllaw4_TreeWraps.j0] at H
        by_cases c9 : x30_5 = true
        · subst c9
          have H1 : (some true) = some r := by rw [if_pos rfl] at H; exact H
          clear H
          have H := H1
          clear H1
          obtain rfl := Option.some.inj H
          go_wp2
          go_ret
          exact ⟨by first | rfl | (simp [errW_none, errW_some] <;> rfl) | (simp [*, errW_none, errW_some] <;> rfl) | (simp [errW_none, errW_some] <;> (rw [Bool.eq_iff_iff]; simp; done)), by repeat (first | (with_reducible first | exact HB.out | apply below_alloc | apply pw_below_drewN | apply below_drew1) | exact HB.out)⟩
        · replace c9 := Bool.eq_false_iff.mpr c9
          subst c9
          have H1 : ((gristmillworld_Number.f a2 4).bind fun t111 => ((tree_Parse.f kj5 a0).bind fun bt112 => ((tree_Parse.f kj5 a1).bind fun bt116 => (if bt112.2.isNone = true then (if bt116.2.isNone = true then (gristmilllaw4_TreeWraps.j1 kj5 a0 a1 t111 true bt112.1 bt116.1 false) else (gristmilllaw4_TreeWraps.j1 kj5 a0 a1 t111 true bt112.1 bt116.1 true)) else (gristmilllaw4_TreeWraps.j1 kj5 a0 a1 t111 true bt112.1 bt116.1 true))))) = some r := by rw [if_neg (show ¬ (false = true) by decide)] at H; exact H
          clear H
          have H := H1
          clear H1
          replace H := Option.bind_eq_some_iff.mp H
          obtain ⟨t111, A100, H⟩ := H
          replace H : ((tree_Parse.f kj5 a0).bind fun bt112 => ((tree_Parse.f kj5 a1).bind fun bt116 => (if bt112.2.isNone = true then (if bt116.2.isNone = true then (gristmilllaw4_TreeWraps.j1 kj5 a0 a1 t111 true bt112.1 bt116.1 false) else (gristmilllaw4_TreeWraps.j1 kj5 a0 a1 t111 true bt112.1 bt116.1 true)) else (gristmilllaw4_TreeWraps.j1 kj5 a0 a1 t111 true bt112.1 bt116.1 true)))) = some r := H
          have A10 := Aside0.mk A100
          clear A100
          replace H := Option.bind_eq_some_iff.mp H
          obtain ⟨⟨t112, t113⟩, A110, H⟩ := H
          replace H : ((tree_Parse.f kj5 a1).bind fun bt116 => (if t113.isNone = true then (if bt116.2.isNone = true then (gristmilllaw4_TreeWraps.j1 kj5 a0 a1 t111 true t112 bt116.1 false) else (gristmilllaw4_TreeWraps.j1 kj5 a0 a1 t111 true t112 bt116.1 true)) else (gristmilllaw4_TreeWraps.j1 kj5 a0 a1 t111 true t112 bt116.1 true))) = some r := H
          have A11 := Aside0.mk A110
          clear A110
          replace H := Option.bind_eq_some_iff.mp H
          obtain ⟨⟨t116, t117⟩, A120, H⟩ := H
          replace H : (if t113.isNone = true then (if t117.isNone = true then (gristmilllaw4_TreeWraps.j1 kj5 a0 a1 t111 true t112 t116 false) else (gristmilllaw4_TreeWraps.j1 kj5 a0 a1 t111 true t112 t116 true)) else (gristmilllaw4_TreeWraps.j1 kj5 a0 a1 t111 true t112 t116 true)) = some r := H
          have A12 := Aside0.mk A120
          clear A120
          have HC13 := Aside0.mk H
          clear H
          go_upto_region 9 with (first | ((with_reducible refine gate_callee (f := 9) rfl ?_); refine goesL_ (some 33) rfl rfl Tryd.func9 (by kernel_rfl) rfl #[.int .i64 a2, .int .i64 4] rfl (by (try simp only [List.map_toArray, List.map_cons, List.map_nil]); first | done | rfl | (simp only [List.length_drop, List.length_take]; rfl)) ?_; (with_reducible refine (gristmillworld_Number.calls a2 4 t111 _ A10.out).mono ?_); rintro e w' ⟨rfl, ⟨nd, rfl⟩⟩; refine ⟨_, rfl, ?_⟩) | ((with_reducible refine gate_callee (f := 7) rfl ?_); refine goesL_ (some 36) rfl rfl Tryd.func7 (by kernel_rfl) rfl #[.string a0] rfl (by (try simp only [List.map_toArray, List.map_cons, List.map_nil]); first | done | rfl | (simp only [List.length_drop, List.length_take]; rfl)) ?_; (with_reducible refine (tree_Parse.calls (ad := ad) kj5 a0 t112 t113 _ ?side36 A11.out).mono ?_); (case side36 => exact GG.below hGG (by repeat (first | (with_reducible first | exact HB.out | apply below_alloc | apply pw_below_drewN | apply below_drew1) | exact HB.out))); rintro e w14 ⟨v114, adf, rfl, ho0, hb⟩; refine ⟨_, rfl, ?_⟩; have n0_ := Aside0.mk (Kd.N_lower (Kd.N_mono (ok' := fun k_ => True) (Kd.R_N (Kd.R_bound ho0)) (fun k_ hk_ => trivial)) (below_size (by repeat (first | (with_reducible first | exact HB.out | apply below_alloc | apply pw_below_drewN | apply below_drew1) | exact HB.out)))); have n1_ := Aside0.mk (below_step (by repeat (first | (with_reducible first | exact HB.out | apply below_alloc | apply pw_below_drewN | apply below_drew1) | exact HB.out)) hb); clear HB; have HO115 := n0_; have HB := n1_; clear n0_ n1_; (try clear hb); (try clear hb2); (try clear hk); (try clear hi); (try clear ho0); (try simp only [errW_none, errW_some])) | ((with_reducible refine gate_callee (f := 7) rfl ?_); refine goesL_ (some 41) rfl rfl Tryd.func7 (by kernel_rfl) rfl #[.string a1] rfl (by (try simp only [List.map_toArray, List.map_cons, List.map_nil]); first | done | rfl | (simp only [List.length_drop, List.length_take]; rfl)) ?_; (with_reducible refine (tree_Parse.calls (ad := ad) kj5 a1 t116 t117 _ ?side37 A12.out).mono ?_); (case side37 => exact GG.below hGG (by repeat (first | (with_reducible first | exact HB.out | apply below_alloc | apply pw_below_drewN | apply below_drew1) | exact HB.out))); rintro e w15 ⟨v118, adf, rfl, ho0, hb⟩; refine ⟨_, rfl, ?_⟩; have n0_ := Aside0.mk (Kd.N_elder' (by (with_reducible repeat (first | apply Kd.N_alloc | apply Kd.N_drewN | apply Kd.N_drew)); exact HO115.out) (Kd.R_base ho0) hb); have n1_ := Aside0.mk (Kd.N_lower (Kd.N_mono (ok' := fun k_ => some k_ ≠ (v114 : Value).ownBlock) (Kd.R_N (Kd.R_bound ho0)) (fun k_ hk_ => (Kd.fresh' (Kd.N_lt (by (with_reducible repeat (first | apply Kd.N_alloc | apply Kd.N_drewN | apply Kd.N_drew)); exact HO115.out)) k_ hk_.2.1))) (below_size (by repeat (first | (with_reducible first | exact HB.out | apply below_alloc | apply pw_below_drewN | apply below_drew1) | exact HB.out)))); have n2_ := Aside0.mk (below_step (by repeat (first | (with_reducible first | exact HB.out | apply below_alloc | apply pw_below_drewN | apply below_drew1) | exact HB.out)) hb); clear HO115; clear HB; have HO115 := n0_; have HO119 := n1_; have HB := n2_; clear n0_ n1_ n2_; (try clear hb); (try clear hb2); (try clear hk); (try clear hi); (try clear ho0); (try simp only [errW_none, errW_some])))
          (try simp only [Act.put, List.setIfInBounds_toArray, List.set_cons_zero, List.set_cons_succ])
          go_cut [49] (fun v49 wc => ∃ (kq : Nat) (x49_12 : Bool), v49 = .bool x49_12 ∧ Aside0 (gristmilllaw4_TreeWraps.j1 kq a0 a1 t111 true t112 t116 x49_12 = some r) ∧ Aside0 (kq ≤ kj5) ∧ Aside0 (Kd.N k39 39 wc w.heap.size (fun k_ => some k_ ≠ (v118 : Value).ownBlock) v114 t112) ∧ Aside0 (Kd.N k39 39 wc w.heap.size (fun k_ => some k_ ≠ (v114 : Value).ownBlock) v118 t116) ∧ Aside0 (Below w.heap.size w wc))
          case first => as_aux_lemma =>
            (try simp only [List.append_eq, List.cons_append, List.nil_append])
            have H := HC13.out
            clear HC13
            rcases t113 with _ | q120
            · have H1 : (if t117.isNone = true then (gristmilllaw4_TreeWraps.j1 kj5 a0 a1 t111 true t112 t116 false) else (gristmilllaw4_TreeWraps.j1 kj5 a0 a1 t111 true t112 t116 true)) = some r := by rw [if_pos (show (none : Option Int).isNone = true by rfl)] at H; exact H
              clear H
              have H := H1
              clear H1
              try simp only [errW_none, errW_some]
              rcases t117 with _ | q121
              · have H1 : (gristmilllaw4_TreeWraps.j1 kj5 a0 a1 t111 true t112 t116 false) = some r := by rw [if_pos (show (none : Option Int).isNone = true by rfl)] at H; exact H
                clear H
                have H := H1
                clear H1
                try simp only [errW_none, errW_some]
                have H' := Aside0.mk H
                clear H
                go_wp2
                go_meet
                case rel => exact ⟨_, (false), (by first | rfl | (simp; done) | (simp [*]; done)), H', ⟨by have := HJ5.out; first | omega | exact Nat.le_refl _⟩, ⟨by (with_reducible repeat (first | apply Kd.N_alloc | apply Kd.N_drewN | apply Kd.N_drew)); exact Kd.N_mono HO115.out (fun _ hk => hk.2)⟩, ⟨by (with_reducible repeat (first | apply Kd.N_alloc | apply Kd.N_drewN | apply Kd.N_drew)); exact HO119.out⟩, ⟨by repeat (first | (with_reducible first | exact HB.out | apply below_alloc | apply pw_below_drewN | apply below_drew1) | exact HB.out)⟩⟩
              · have H1 : (gristmilllaw4_TreeWraps.j1 kj5 a0 a1 t111 true t112 t116 true) = some r := by rw [if_neg (show ¬ (some q121).isNone = true by simp)] at H; exact H
                clear H
                have H := H1
                clear H1
                try simp only [errW_none, errW_some]
                have H' := Aside0.mk H
                clear H
                go_wp2
                go_meet
                case rel => exact ⟨_, (true), (by first | rfl | (simp; done) | (simp [*]; done)), H', ⟨by have := HJ5.out; first | omega | exact Nat.le_refl _⟩, ⟨by (with_reducible repeat (first | apply Kd.N_alloc | apply Kd.N_drewN | apply Kd.N_drew)); exact Kd.N_mono HO115.out (fun _ hk => hk.2)⟩, ⟨by (with_reducible repeat (first | apply Kd.N_alloc | apply Kd.N_drewN | apply Kd.N_drew)); exact HO119.out⟩, ⟨by repeat (first | (with_reducible first | exact HB.out | apply below_alloc | apply pw_below_drewN | apply below_drew1) | exact HB.out)⟩⟩
            · have H1 : (gristmilllaw4_TreeWraps.j1 kj5 a0 a1 t111 true t112 t116 true) = some r := by rw [if_neg (show ¬ (some q120).isNone = true by simp)] at H; exact H
              clear H
              have H := H1
              clear H1
              try simp only [errW_none, errW_some]
              have H' := Aside0.mk H
              clear H
              go_wp2
              go_meet
              case rel => exact ⟨_, (true), (by first | rfl | (simp; done) | (simp [*]; done)), H', ⟨by have := HJ5.out; first | omega | exact Nat.le_refl _⟩, ⟨by (with_reducible repeat (first | apply Kd.N_alloc | apply Kd.N_drewN | apply Kd.N_drew)); exact Kd.N_mono HO115.out (fun _ hk => hk.2)⟩, ⟨by (with_reducible repeat (first | apply Kd.N_alloc | apply Kd.N_drewN | apply Kd.N_drew)); exact HO119.out⟩, ⟨by repeat (first | (with_reducible first | exact HB.out | apply below_alloc | apply pw_below_drewN | apply below_drew1) | exact HB.out)⟩⟩
          case rest =>
            clear HC13
            try clear q1
            try clear p2
            try clear c5
            try clear c6
            try clear c7
            try clear c8
            try clear c8b0
            try clear c8b1
            try clear c9
            try clear q12
            try clear p2
            try clear q120
            try clear q121
            obtain ⟨kq, x49_12, rfl, HA, HJ12, HO_8, HO_10, HB⟩ := hcut
            cases kq with
            | zero => exact absurd HA.out (by simp [gristmilllaw4_TreeWraps.j1])
            | succ kj12 =>
              have H := HA.out
              clear HA
              simp only [gristmilllaw4_TreeWraps.j1] at H
              by_cases c16 : x49_12 = true
              · subst c16
                have H1 : (some true) = some r := by rw [if_pos rfl] at H; exact H
                clear H
                have H := H1
                clear H1
                obtain rfl := Option.some.inj H
                go_wp2
                go_ret
                exact ⟨by first | rfl | (simp [errW_none, errW_some] <;> rfl) | (simp [*, errW_none, errW_some] <;> rfl) | (simp [errW_none, errW_some] <;> (rw [Bool.eq_iff_iff]; simp; done)), by repeat (first | (with_reducible first | exact HB.out | apply below_alloc | apply pw_below_drewN | apply below_drew1) | exact HB.out)⟩
              · replace c16 := Bool.eq_false_iff.mpr c16
                subst c16
                have H1 : (gristmilllaw4_TreeWraps.l0 kj12 a0 a1 t111 true t112 t116 (⟨#[]⟩ : ByteArray) (⟨#[]⟩ : ByteArray) 0) = some r := by rw [if_neg (show ¬ (false = true) by decide)] at H; exact H
                clear H
                have H := H1
                clear H1
                have H' := Aside0.mk H
                clear H
                go_wp2
                go_loopg [12, 13, 14] kj12 (fun kq v12 v13 v14 w' => ∃ (x12_3 : ByteArray) (x13_3 : ByteArray) (x14_3 : Int), v12 = .string x12_3 ∧ v13 = .string x13_3 ∧ v14 = .int .i64 x14_3 ∧ Aside0 (gristmilllaw4_TreeWraps.l0 kq a0 a1 t111 true t112 t116 x12_3 x13_3 x14_3 = some r) ∧ Aside0 (kq ≤ kj12) ∧ Aside0 (Kd.N k39 39 w' w.heap.size (fun k_ => some k_ ≠ (v118 : Value).ownBlock) v114 t112) ∧ Aside0 (Kd.N k39 39 w' w.heap.size (fun k_ => some k_ ≠ (v114 : Value).ownBlock) v118 t116) ∧ Aside0 (Below w.heap.size w w'))
                case atStart => exact ⟨((⟨#[]⟩ : ByteArray)), ((⟨#[]⟩ : ByteArray)), (0), (by first | rfl | (simp; done) | (simp [*]; done)), (by first | rfl | (simp; done) | (simp [*]; done)), (by first | rfl | (simp; done) | (simp [*]; done)), H', ⟨Nat.le_refl _⟩, ⟨by (with_reducible repeat (first | apply Kd.N_alloc | apply Kd.N_drewN | apply Kd.N_drew)); exact HO_8.out⟩, ⟨by (with_reducible repeat (first | apply Kd.N_alloc | apply Kd.N_drewN | apply Kd.N_drew)); exact HO_10.out⟩, ⟨by repeat (first | (with_reducible first | exact HB.out | apply below_alloc | apply pw_below_drewN | apply below_drew1) | exact HB.out)⟩⟩
                case round =>
                  clear H'
                  try clear c1
                  try clear q1
                  try clear p2
                  try clear c5
                  try clear c6
                  try clear c7
                  try clear c8
                  try clear c8b0
                  try clear c8b1
                  try clear c9
                  try clear q12
                  try clear c16
                  try clear p2
                  try clear q1
                  try clear q12
                  try clear q120
                  try clear q121
                  obtain ⟨x12_3, x13_3, x14_3, rfl, rfl, rfl, HA, HK3, HO_8, HO_10, HB⟩ := hrel
                  cases gk with
                  | zero => exact absurd HA.out (by simp [gristmilllaw4_TreeWraps.l0])
                  | succ k3 =>
                    have H := HA.out
                    clear HA
                    simp only [gristmilllaw4_TreeWraps.l0] at H
                    by_cases c17 : x14_3 < t111
                    · rw [if_pos c17] at H
                      have c17b0 : decide (x14_3 < t111) = true := decide_eq_true c17
                      clear c17
                      by_cases c18 : x12_3.size + 1 ≤ 9223372036854775807
                      · rw [if_pos c18] at H
                        have c18b0 := eq_true c18
                        have c18b1 : decide (x12_3.size + 1 ≤ 9223372036854775807) = true := decide_eq_true c18
                        try have c18b2 : (9223372036854775807 < x12_3.size + 1) = False := eq_false (Nat.not_lt.2 c18)
                        by_cases c19 : x13_3.size + 1 ≤ 9223372036854775807
                        · rw [if_pos c19] at H
                          have c19b0 := eq_true c19
                          have c19b1 : decide (x13_3.size + 1 ≤ 9223372036854775807) = true := decide_eq_true c19
                          try have c19b2 : (9223372036854775807 < x13_3.size + 1) = False := eq_false (Nat.not_lt.2 c19)
                          have H' := Aside0.mk H
                          clear H
                          go_wp2
                          go_roundg k3
                          case measure => have := HJ5.out; have := HJ12.out; have := HK3.out; omega
                          case rel => exact ⟨(x12_3 ++ (⟨#[40]⟩ : ByteArray)), (x13_3 ++ (⟨#[41]⟩ : ByteArray)), (wrap64 (x14_3 + 1)), (by first | rfl | (simp; done) | (simp [*]; done)), (by first | rfl | (simp; done) | (simp [*]; done)), (by first | rfl | (simp; done) | (simp [*]; done)), H', ⟨by have := HJ5.out; have := HJ12.out; have := HK3.out; omega⟩, ⟨by (with_reducible repeat (first | apply Kd.N_alloc | apply Kd.N_drewN | apply Kd.N_drew)); exact HO_8.out⟩, ⟨by (with_reducible repeat (first | apply Kd.N_alloc | apply Kd.N_drewN | apply Kd.N_drew)); exact HO_10.out⟩, ⟨by repeat (first | (with_reducible first | exact HB.out | apply below_alloc | apply pw_below_drewN | apply below_drew1) | exact HB.out)⟩⟩
                        · rw [if_neg c19] at H
                          exact absurd H (by simp)
                      · rw [if_neg c18] at H
                        exact absurd H (by simp)
                    · rw [if_neg c17] at H
                      have c17b0 : decide (x14_3 < t111) = false := decide_eq_false c17
                      clear c17
                      by_cases c20 : x12_3.size + a0.size ≤ 9223372036854775807
                      · rw [if_pos c20] at H
                        have c20b0 := eq_true c20
                        have c20b1 : decide (x12_3.size + a0.size ≤ 9223372036854775807) = true := decide_eq_true c20
                        try have c20b2 : (9223372036854775807 < x12_3.size + a0.size) = False := eq_false (Nat.not_lt.2 c20)
                        by_cases c21 : (x12_3 ++ a0).size + 1 ≤ 9223372036854775807
                        · rw [if_pos c21] at H
                          have c21b0 := eq_true c21
                          have c21b1 : decide ((x12_3 ++ a0).size + 1 ≤ 9223372036854775807) = true := decide_eq_true c21
                          have c21b3 := c21
                          (try simp only [go_sem, ByteArray.size_append] at c21b3)
                          (try have c21b4 := eq_true c21b3)
                          (try have c21b5 := eq_false (Nat.not_lt.2 c21b3))
                          try have c21b2 : (9223372036854775807 < (x12_3 ++ a0).size + 1) = False := eq_false (Nat.not_lt.2 c21)
                          by_cases c22 : ((x12_3 ++ a0) ++ (⟨#[10]⟩ : ByteArray)).size + x13_3.size ≤ 9223372036854775807
                          · rw [if_pos c22] at H
                            have c22b0 := eq_true c22
                            have c22b1 : decide (((x12_3 ++ a0) ++ (⟨#[10]⟩ : ByteArray)).size + x13_3.size ≤ 9223372036854775807) = true := decide_eq_true c22
                            have c22b3 := c22
                            (try simp only [go_sem, ByteArray.size_append] at c22b3)
                            (try have c22b4 := eq_true c22b3)
                            (try have c22b5 := eq_false (Nat.not_lt.2 c22b3))
                            try have c22b2 : (9223372036854775807 < ((x12_3 ++ a0) ++ (⟨#[10]⟩ : ByteArray)).size + x13_3.size) = False := eq_false (Nat.not_lt.2 c22)
                            replace H := Option.bind_eq_some_iff.mp H
                            obtain ⟨⟨t122, t123⟩, A230, H⟩ := H
                            replace H : ((tree_Deep.f k3 t112).bind fun t126 => (if (wrap64 (t126 + t111)) > 200 then (some true) else (if a0.size + 1 ≤ 9223372036854775807 then (if (a0 ++ (⟨#[10]⟩ : ByteArray)).size + a1.size ≤ 9223372036854775807 then ((tree_Parse.f k3 ((a0 ++ (⟨#[10]⟩ : ByteArray)) ++ a1)).bind fun bt127 => (if t123.isNone = true then (if bt127.2.isNone = true then ((some (([] : List (S39)) : List (S39))).bind fun y133 => (if y133.length + t112.length < 2932031007402 then ((some (y133 ++ t112 : List (S39))).bind fun y136 => (if y136.length + t116.length < 2932031007402 then ((tree_Same.f k3 bt127.1 (y136 ++ t116)).bind fun t142 => (gristmilllaw4_TreeWraps.j3 k3 t111 true t112 t122 (!t142))) else (none))) else (none))) else (none)) else (none))) else (none)) else (none)))) = some r := H
                            have A23 := Aside0.mk A230
                            clear A230
                            replace H := Option.bind_eq_some_iff.mp H
                            obtain ⟨t126, A240, H⟩ := H
                            replace H : (if (wrap64 (t126 + t111)) > 200 then (some true) else (if a0.size + 1 ≤ 9223372036854775807 then (if (a0 ++ (⟨#[10]⟩ : ByteArray)).size + a1.size ≤ 9223372036854775807 then ((tree_Parse.f k3 ((a0 ++ (⟨#[10]⟩ : ByteArray)) ++ a1)).bind fun bt127 => (if t123.isNone = true then (if bt127.2.isNone = true then ((some (([] : List (S39)) : List (S39))).bind fun y133 => (if y133.length + t112.length < 2932031007402 then ((some (y133 ++ t112 : List (S39))).bind fun y136 => (if y136.length + t116.length < 2932031007402 then ((tree_Same.f k3 bt127.1 (y136 ++ t116)).bind fun t142 => (gristmilllaw4_TreeWraps.j3 k3 t111 true t112 t122 (!t142))) else (none))) else (none))) else (none)) else (none))) else (none)) else (none))) = some r := H
                            have A24 := Aside0.mk A240
                            clear A240
                            by_cases c25 : (wrap64 (t126 + t111)) > 200
                            · rw [if_pos c25] at H
                              have c25b0 : decide (200 < (wrap64 (t126 + t111))) = true := decide_eq_true c25
                              clear c25
                              obtain rfl := Option.some.inj H
                              go_wp2_with (first | ((with_reducible refine gate_callee (f := 7) rfl ?_); refine goesL_ (some 67) rfl rfl Tryd.func7 (by kernel_rfl) rfl #[.string (((x12_3 ++ a0) ++ (⟨#[10]⟩ : ByteArray)) ++ x13_3)] rfl (by (try simp only [List.map_toArray, List.map_cons, List.map_nil]); first | done | rfl | (simp only [List.length_drop, List.length_take]; rfl)) ?_; (with_reducible refine (tree_Parse.calls (ad := ad) k3 (((x12_3 ++ a0) ++ (⟨#[10]⟩ : ByteArray)) ++ x13_3) t122 t123 _ ?side38 A23.out).mono ?_); (case side38 => exact GG.below hGG (by repeat (first | (with_reducible first | exact HB.out | apply below_alloc | apply pw_below_drewN | apply below_drew1) | exact HB.out))); rintro e w26 ⟨v124, adf, rfl, ho0, hb⟩; refine ⟨_, rfl, ?_⟩; have n0_ := Aside0.mk (Kd.N_elder' (by (with_reducible repeat (first | apply Kd.N_alloc | apply Kd.N_drewN | apply Kd.N_drew)); exact HO_8.out) (Kd.R_base ho0) hb); have n1_ := Aside0.mk (Kd.N_elder' (by (with_reducible repeat (first | apply Kd.N_alloc | apply Kd.N_drewN | apply Kd.N_drew)); exact HO_10.out) (Kd.R_base ho0) hb); have n2_ := Aside0.mk (Kd.N_lower (Kd.N_mono (ok' := fun k_ => some k_ ≠ (v114 : Value).ownBlock ∧ some k_ ≠ (v118 : Value).ownBlock) (Kd.R_N (Kd.R_bound ho0)) (fun k_ hk_ => ⟨(Kd.fresh' (Kd.N_lt (by (with_reducible repeat (first | apply Kd.N_alloc | apply Kd.N_drewN | apply Kd.N_drew)); exact HO_8.out)) k_ hk_.2.1), (Kd.fresh' (Kd.N_lt (by (with_reducible repeat (first | apply Kd.N_alloc | apply Kd.N_drewN | apply Kd.N_drew)); exact HO_10.out)) k_ hk_.2.1)⟩)) (below_size (by repeat (first | (with_reducible first | exact HB.out | apply below_alloc | apply pw_below_drewN | apply below_drew1) | exact HB.out)))); have n3_ := Aside0.mk (below_step (by repeat (first | (with_reducible first | exact HB.out | apply below_alloc | apply pw_below_drewN | apply below_drew1) | exact HB.out)) hb); clear HO_8; clear HO_10; clear HB; have HO_8 := n0_; have HO_10 := n1_; have HO125 := n2_; have HB := n3_; clear n0_ n1_ n2_ n3_; (try clear hb); (try clear hb2); (try clear hk); (try clear hi); (try clear ho0); (try simp only [errW_none, errW_some]); obtain ⟨Ao27, co27, eo27⟩ := Kd.N_slice HO_8.out; subst eo27) | ((with_reducible refine gate_callee (f := 12) rfl ?_); refine goesL_ (some 71) rfl rfl Tryd.func12 (by kernel_rfl) rfl #[.slice Ao27 t112.length co27] rfl (by (try simp only [List.map_toArray, List.map_cons, List.map_nil]); first | done | rfl | (simp only [List.length_drop, List.length_take]; rfl)) ?_; (with_reducible refine (tree_Deep.calls k3 _ _ t112 t126 _ ?side39 ?side40 A24.out).mono ?_); (case side39 => repeat (first | exact (Kd.N_reads' HO_8.out).2.2 | (with_reducible refine Kd.C_alloc ?_ _) | (with_reducible refine Kd.C_drewN ?_ _) | (with_reducible refine Kd.C_drew ?_))); (case side40 => exact (Kd.N_reads' HO_8.out).2.1); rintro e w28 ⟨rfl, hb⟩; refine ⟨_, rfl, ?_⟩; have n0_ := Aside0.mk (Kd.N_below (by (with_reducible repeat (first | apply Kd.N_alloc | apply Kd.N_drewN | apply Kd.N_drew)); exact HO_8.out) hb); have n1_ := Aside0.mk (Kd.N_below (by (with_reducible repeat (first | apply Kd.N_alloc | apply Kd.N_drewN | apply Kd.N_drew)); exact HO_10.out) hb); have n2_ := Aside0.mk (Kd.N_below (by (with_reducible repeat (first | apply Kd.N_alloc | apply Kd.N_drewN | apply Kd.N_drew)); exact HO125.out) hb); have n3_ := Aside0.mk (below_step (by repeat (first | (with_reducible first | exact HB.out | apply below_alloc | apply pw_below_drewN | apply below_drew1) | exact HB.out)) hb); clear HO_8; clear HO_10; clear HO125; clear HB; have HO_8 := n0_; have HO_10 := n1_; have HO125 := n2_; have HB := n3_; clear n0_ n1_ n2_ n3_; (try clear hb); (try clear hb2); (try clear hk); (try clear hi)))
                              go_ret
                              exact ⟨by first | rfl | (simp [errW_none, errW_some] <;> rfl) | (simp [*, errW_none, errW_some] <;> rfl) | (simp [errW_none, errW_some] <;> (rw [Bool.eq_iff_iff]; simp; done)), by repeat (first | (with_reducible first | exact HB.out | apply below_alloc | apply pw_below_drewN | apply below_drew1) | exact HB.out)⟩
                            · rw [if_neg c25] at H
                              have c25b0 : decide (200 < (wrap64 (t126 + t111))) = false := decide_eq_false c25
                              clear c25
                              by_cases c29 : a0.size + 1 ≤ 9223372036854775807
                              · rw [if_pos c29] at H
                                have c29b0 := eq_true c29
                                have c29b1 : decide (a0.size + 1 ≤ 9223372036854775807) = true := decide_eq_true c29
                                try have c29b2 : (9223372036854775807 < a0.size + 1) = False := eq_false (Nat.not_lt.2 c29)
                                by_cases c30 : (a0 ++ (⟨#[10]⟩ : ByteArray)).size + a1.size ≤ 9223372036854775807
                                · rw [if_pos c30] at H
                                  have c30b0 := eq_true c30
                                  have c30b1 : decide ((a0 ++ (⟨#[10]⟩ : ByteArray)).size + a1.size ≤ 9223372036854775807) = true := decide_eq_true c30
                                  have c30b3 := c30
                                  (try simp only [go_sem, ByteArray.size_append] at c30b3)
                                  (try have c30b4 := eq_true c30b3)
                                  (try have c30b5 := eq_false (Nat.not_lt.2 c30b3))
                                  try have c30b2 : (9223372036854775807 < (a0 ++ (⟨#[10]⟩ : ByteArray)).size + a1.size) = False := eq_false (Nat.not_lt.2 c30)
                                  replace H := Option.bind_eq_some_iff.mp H
                                  obtain ⟨⟨t127, t128⟩, A310, H⟩ := H
                                  replace H : (if t123.isNone = true then (if t128.isNone = true then ((some (([] : List (S39)) : List (S39))).bind fun y133 => (if y133.length + t112.length < 2932031007402 then ((some (y133 ++ t112 : List (S39))).bind fun y136 => (if y136.length + t116.length < 2932031007402 then ((tree_Same.f k3 t127 (y136 ++ t116)).bind fun t142 => (gristmilllaw4_TreeWraps.j3 k3 t111 true t112 t122 (!t142))) else (none))) else (none))) else (none)) else (none)) = some r := H
                                  have A31 := Aside0.mk A310
                                  clear A310
                                  have HC32 := Aside0.mk H
                                  clear H
                                  go_upto_region 22 with (first | ((with_reducible refine gate_callee (f := 7) rfl ?_); refine goesL_ (some 67) rfl rfl Tryd.func7 (by kernel_rfl) rfl #[.string (((x12_3 ++ a0) ++ (⟨#[10]⟩ : ByteArray)) ++ x13_3)] rfl (by (try simp only [List.map_toArray, List.map_cons, List.map_nil]); first | done | rfl | (simp only [List.length_drop, List.length_take]; rfl)) ?_; (with_reducible refine (tree_Parse.calls (ad := ad) k3 (((x12_3 ++ a0) ++ (⟨#[10]⟩ : ByteArray)) ++ x13_3) t122 t123 _ ?side41 A23.out).mono ?_); (case side41 => exact GG.below hGG (by repeat (first | (with_reducible first | exact HB.out | apply below_alloc | apply pw_below_drewN | apply below_drew1) | exact HB.out))); rintro e w33 ⟨v124, adf, rfl, ho0, hb⟩; refine ⟨_, rfl, ?_⟩; have n0_ := Aside0.mk (Kd.N_elder' (by (with_reducible repeat (first | apply Kd.N_alloc | apply Kd.N_drewN | apply Kd.N_drew)); exact HO_8.out) (Kd.R_base ho0) hb); have n1_ := Aside0.mk (Kd.N_elder' (by (with_reducible repeat (first | apply Kd.N_alloc | apply Kd.N_drewN | apply Kd.N_drew)); exact HO_10.out) (Kd.R_base ho0) hb); have n2_ := Aside0.mk (Kd.N_lower (Kd.N_mono (ok' := fun k_ => some k_ ≠ (v114 : Value).ownBlock ∧ some k_ ≠ (v118 : Value).ownBlock) (Kd.R_N (Kd.R_bound ho0)) (fun k_ hk_ => ⟨(Kd.fresh' (Kd.N_lt (by (with_reducible repeat (first | apply Kd.N_alloc | apply Kd.N_drewN | apply Kd.N_drew)); exact HO_8.out)) k_ hk_.2.1), (Kd.fresh' (Kd.N_lt (by (with_reducible repeat (first | apply Kd.N_alloc | apply Kd.N_drewN | apply Kd.N_drew)); exact HO_10.out)) k_ hk_.2.1)⟩)) (below_size (by repeat (first | (with_reducible first | exact HB.out | apply below_alloc | apply pw_below_drewN | apply below_drew1) | exact HB.out)))); have n3_ := Aside0.mk (below_step (by repeat (first | (with_reducible first | exact HB.out | apply below_alloc | apply pw_below_drewN | apply below_drew1) | exact HB.out)) hb); clear HO_8; clear HO_10; clear HB; have HO_8 := n0_; have HO_10 := n1_; have HO125 := n2_; have HB := n3_; clear n0_ n1_ n2_ n3_; (try clear hb); (try clear hb2); (try clear hk); (try clear hi); (try clear ho0); (try simp only [errW_none, errW_some]); obtain ⟨Ao34, co34, eo34⟩ := Kd.N_slice HO_8.out; subst eo34) | ((with_reducible refine gate_callee (f := 12) rfl ?_); refine goesL_ (some 71) rfl rfl Tryd.func12 (by kernel_rfl) rfl #[.slice Ao34 t112.length co34] rfl (by (try simp only [List.map_toArray, List.map_cons, List.map_nil]); first | done | rfl | (simp only [List.length_drop, List.length_take]; rfl)) ?_; (with_reducible refine (tree_Deep.calls k3 _ _ t112 t126 _ ?side42 ?side43 A24.out).mono ?_); (case side42 => repeat (first | exact (Kd.N_reads' HO_8.out).2.2 | (with_reducible refine Kd.C_alloc ?_ _) | (with_reducible refine Kd.C_drewN ?_ _) | (with_reducible refine Kd.C_drew ?_))); (case side43 => exact (Kd.N_reads' HO_8.out).2.1); rintro e w35 ⟨rfl, hb⟩; refine ⟨_, rfl, ?_⟩; have n0_ := Aside0.mk (Kd.N_below (by (with_reducible repeat (first | apply Kd.N_alloc | apply Kd.N_drewN | apply Kd.N_drew)); exact HO_8.out) hb); have n1_ := Aside0.mk (Kd.N_below (by (with_reducible repeat (first | apply Kd.N_alloc | apply Kd.N_drewN | apply Kd.N_drew)); exact HO_10.out) hb); have n2_ := Aside0.mk (Kd.N_below (by (with_reducible repeat (first | apply Kd.N_alloc | apply Kd.N_drewN | apply Kd.N_drew)); exact HO125.out) hb); have n3_ := Aside0.mk (below_step (by repeat (first | (with_reducible first | exact HB.out | apply below_alloc | apply pw_below_drewN | apply below_drew1) | exact HB.out)) hb); clear HO_8; clear HO_10; clear HO125; clear HB; have HO_8 := n0_; have HO_10 := n1_; have HO125 := n2_; have HB := n3_; clear n0_ n1_ n2_ n3_; (try clear hb); (try clear hb2); (try clear hk); (try clear hi)) | ((with_reducible refine gate_callee (f := 7) rfl ?_); refine goesL_ (some 81) rfl rfl Tryd.func7 (by kernel_rfl) rfl #[.string ((a0 ++ (⟨#[10]⟩ : ByteArray)) ++ a1)] rfl (by (try simp only [List.map_toArray, List.map_cons, List.map_nil]); first | done | rfl | (simp only [List.length_drop, List.length_take]; rfl)) ?_; (with_reducible refine (tree_Parse.calls (ad := ad) k3 ((a0 ++ (⟨#[10]⟩ : ByteArray)) ++ a1) t127 t128 _ ?side44 A31.out).mono ?_); (case side44 => exact GG.below hGG (by repeat (first | (with_reducible first | exact HB.out | apply below_alloc | apply pw_below_drewN | apply below_drew1) | exact HB.out))); rintro e w36 ⟨v129, adf, rfl, ho0, hb⟩; refine ⟨_, rfl, ?_⟩; have n0_ := Aside0.mk (Kd.N_elder' (by (with_reducible repeat (first | apply Kd.N_alloc | apply Kd.N_drewN | apply Kd.N_drew)); exact HO_8.out) (Kd.R_base ho0) hb); have n1_ := Aside0.mk (Kd.N_elder' (by (with_reducible repeat (first | apply Kd.N_alloc | apply Kd.N_drewN | apply Kd.N_drew)); exact HO_10.out) (Kd.R_base ho0) hb); have n2_ := Aside0.mk (Kd.N_elder' (by (with_reducible repeat (first | apply Kd.N_alloc | apply Kd.N_drewN | apply Kd.N_drew)); exact HO125.out) (Kd.R_base ho0) hb); have n3_ := Aside0.mk (Kd.N_lower (Kd.N_mono (ok' := fun k_ => some k_ ≠ (.slice Ao34 t112.length co34 : Value).ownBlock ∧ some k_ ≠ (v118 : Value).ownBlock ∧ some k_ ≠ (v124 : Value).ownBlock) (Kd.R_N (Kd.R_bound ho0)) (fun k_ hk_ => ⟨(Kd.fresh' (Kd.N_lt (by (with_reducible repeat (first | apply Kd.N_alloc | apply Kd.N_drewN | apply Kd.N_drew)); exact HO_8.out)) k_ hk_.2.1), (Kd.fresh' (Kd.N_lt (by (with_reducible repeat (first | apply Kd.N_alloc | apply Kd.N_drewN | apply Kd.N_drew)); exact HO_10.out)) k_ hk_.2.1), (Kd.fresh' (Kd.N_lt (by (with_reducible repeat (first | apply Kd.N_alloc | apply Kd.N_drewN | apply Kd.N_drew)); exact HO125.out)) k_ hk_.2.1)⟩)) (below_size (by repeat (first | (with_reducible first | exact HB.out | apply below_alloc | apply pw_below_drewN | apply below_drew1) | exact HB.out)))); have n4_ := Aside0.mk (below_step (by repeat (first | (with_reducible first | exact HB.out | apply below_alloc | apply pw_below_drewN | apply below_drew1) | exact HB.out)) hb); clear HO_8; clear HO_10; clear HO125; clear HB; have HO_8 := n0_; have HO_10 := n1_; have HO125 := n2_; have HO130 := n3_; have HB := n4_; clear n0_ n1_ n2_ n3_ n4_; (try clear hb); (try clear hb2); (try clear hk); (try clear hi); (try clear ho0); (try simp only [errW_none, errW_some])))
                                  (try simp only [Act.put, List.setIfInBounds_toArray, List.set_cons_zero, List.set_cons_succ])
                                  go_cut [99] (fun v99 wc => ∃ (kq : Nat) (x99_31 : Bool), v99 = .bool x99_31 ∧ Aside0 (gristmilllaw4_TreeWraps.j3 kq t111 true t112 t122 x99_31 = some r) ∧ Aside0 (kq ≤ k3) ∧ Aside0 (Kd.N k39 39 wc w.heap.size (fun _ => True) (.slice Ao34 t112.length co34) t112) ∧ Aside0 (Kd.N k39 39 wc w.heap.size (fun k_ => some k_ ≠ ((.slice Ao34 t112.length co34) : Value).ownBlock) v124 t122) ∧ Aside0 (Below w.heap.size w wc))
                                  case first => as_aux_lemma =>
                                    (try simp only [List.append_eq, List.cons_append, List.nil_append])
                                    have H := HC32.out
                                    clear HC32
                                    rcases t123 with _ | q131
                                    · have H1 : (if t128.isNone = true then ((some (([] : List (S39)) : List (S39))).bind fun y133 => (if y133.length + t112.length < 2932031007402 then ((some (y133 ++ t112 : List (S39))).bind fun y136 => (if y136.length + t116.length < 2932031007402 then ((tree_Same.f k3 t127 (y136 ++ t116)).bind fun t142 => (gristmilllaw4_TreeWraps.j3 k3 t111 true t112 t122 (!t142))) else (none))) else (none))) else (none)) = some r := by rw [if_pos (show (none : Option Int).isNone = true by rfl)] at H; exact H
                                      clear H
                                      have H := H1
                                      clear H1
                                      try simp only [errW_none, errW_some]
                                      rcases t128 with _ | q132
                                      · have H1 : ((some (([] : List (S39)) : List (S39))).bind fun y133 => (if y133.length + t112.length < 2932031007402 then ((some (y133 ++ t112 : List (S39))).bind fun y136 => (if y136.length + t116.length < 2932031007402 then ((tree_Same.f k3 t127 (y136 ++ t116)).bind fun t142 => (gristmilllaw4_TreeWraps.j3 k3 t111 true t112 t122 (!t142))) else (none))) else (none))) = some r := by rw [if_pos (show (none : Option Int).isNone = true by rfl)] at H; exact H
                                        clear H
                                        have H := H1
                                        clear H1
                                        try simp only [errW_none, errW_some]
                                        obtain ⟨y133, hy133⟩ : ∃ y_ : List (S39), y_ = (([] : List (S39))) := ⟨_, rfl⟩
                                        replace H : (if y133.length + t112.length < 2932031007402 then ((some (y133 ++ t112 : List (S39))).bind fun y136 => (if y136.length + t116.length < 2932031007402 then ((tree_Same.f k3 t127 (y136 ++ t116)).bind fun t142 => (gristmilllaw4_TreeWraps.j3 k3 t111 true t112 t122 (!t142))) else (none))) else (none)) = some r := by first | (rw [hy133]; with_reducible exact H) | (have H2_ := (Option.bind_some _ _).symm.trans H; rw [hy133]; with_reducible exact H2_) | (have H2_ := (Option.bind_some _ _).symm.trans H; with_reducible exact H2_) | with_reducible exact H | (rw [hy133]; exact H) | exact H
                                        have Ny133 := Aside0.mk hy133
                                        clear hy133
                                        by_cases c37 : y133.length + t112.length < 2932031007402
                                        · rw [if_pos c37] at H
                                          have LMc37 := Aside0.mk c37
                                          clear c37
                                          obtain ⟨y136, hy136⟩ : ∃ y_ : List (S39), y_ = (y133 ++ t112) := ⟨_, rfl⟩
                                          replace H : (if y136.length + t116.length < 2932031007402 then ((tree_Same.f k3 t127 (y136 ++ t116)).bind fun t142 => (gristmilllaw4_TreeWraps.j3 k3 t111 true t112 t122 (!t142))) else (none)) = some r := by first | (rw [hy136]; with_reducible exact H) | (have H2_ := (Option.bind_some _ _).symm.trans H; rw [hy136]; with_reducible exact H2_) | (have H2_ := (Option.bind_some _ _).symm.trans H; with_reducible exact H2_) | with_reducible exact H | (rw [hy136]; exact H) | exact H
                                          have Ny136 := Aside0.mk hy136
                                          clear hy136
                                          by_cases c38 : y136.length + t116.length < 2932031007402
                                          · rw [if_pos c38] at H
                                            have LMc38 := Aside0.mk c38
                                            clear c38
                                            obtain ⟨y139, hy139⟩ : ∃ y_ : List (S39), y_ = (y136 ++ t116) := ⟨_, rfl⟩
                                            replace H : ((tree_Same.f k3 t127 y139).bind fun t142 => (gristmilllaw4_TreeWraps.j3 k3 t111 true t112 t122 (!t142))) = some r := by first | (rw [hy139]; with_reducible exact H) | (have H2_ := (Option.bind_some _ _).symm.trans H; rw [hy139]; with_reducible exact H2_) | (have H2_ := (Option.bind_some _ _).symm.trans H; with_reducible exact H2_) | with_reducible exact H | (rw [hy139]; exact H) | exact H
                                            have Ny139 := Aside0.mk hy139
                                            clear hy139
                                            replace H := Option.bind_eq_some_iff.mp H
                                            obtain ⟨t142, A390, H⟩ := H
                                            replace H : (gristmilllaw4_TreeWraps.j3 k3 t111 true t112 t122 (!t142)) = some r := H
                                            have A39 := Aside0.mk A390
                                            clear A390
                                            have H' := Aside0.mk H
                                            clear H
                                            go_wp2_with (first | ((with_reducible refine gate_dst (N := 92) rfl ?_); (try (refine gate_guard (by rfl) ?_; dsimp only)); refine Kd.N_lit k39 _ 39 ?hg (N' := 92) ?hd (xs := ([] : List (S39))) (inner := []) (ok := (fun k_ => some k_ ≠ (.slice Ao34 t112.length co34 : Value).ownBlock ∧ some k_ ≠ (v118 : Value).ownBlock ∧ some k_ ≠ (v124 : Value).ownBlock ∧ some k_ ≠ (v129 : Value).ownBlock)) (okp := (fun k_ => some k_ ≠ (.slice Ao34 t112.length co34 : Value).ownBlock ∧ some k_ ≠ (v118 : Value).ownBlock ∧ some k_ ≠ (v124 : Value).ownBlock ∧ some k_ ≠ (v129 : Value).ownBlock)) ?hr ?hp (fun _ hk => hk) ((show ∀ k_, w36.heap.size ≤ k_ → (fun k_ => some k_ ≠ (.slice Ao34 t112.length co34 : Value).ownBlock ∧ some k_ ≠ (v118 : Value).ownBlock ∧ some k_ ≠ (v124 : Value).ownBlock ∧ some k_ ≠ (v129 : Value).ownBlock) k_ from fun k_ hk => ⟨Kd.fresh' (Kd.N_lt (by (with_reducible repeat (first | apply Kd.N_alloc | apply Kd.N_drewN | apply Kd.N_drew)); exact HO_8.out)) k_ hk, Kd.fresh' (Kd.N_lt (by (with_reducible repeat (first | apply Kd.N_alloc | apply Kd.N_drewN | apply Kd.N_drew)); exact HO_10.out)) k_ hk, Kd.fresh' (Kd.N_lt (by (with_reducible repeat (first | apply Kd.N_alloc | apply Kd.N_drewN | apply Kd.N_drew)); exact HO125.out)) k_ hk, Kd.fresh' (Kd.N_lt (by (with_reducible repeat (first | apply Kd.N_alloc | apply Kd.N_drewN | apply Kd.N_drew)); exact HO130.out)) k_ hk⟩) _ (Nat.le_refl _)) (Below.refl _ _) (Nat.le_refl _) (by simp) ?_; (case hd => rfl); (case hg => rfl); (case hr => first | (go_simp; done) | (go_simp; rfl)); (case hp => exact (Reps.none _ _)); intro v134 w40 ho41 hb hg_ hnew_; clear hg_ hnew_; (first | rw [← Ny133.out] at ho41 | (simp only [Int.reduceToNat] at ho41; rw [← Ny133.out] at ho41)); have n0_ := Aside0.mk (Kd.N_elder' (by (with_reducible repeat (first | apply Kd.N_alloc | apply Kd.N_drewN | apply Kd.N_drew)); exact HO_8.out) (Kd.N_base ho41) hb); have n1_ := Aside0.mk (Kd.N_elder' (by (with_reducible repeat (first | apply Kd.N_alloc | apply Kd.N_drewN | apply Kd.N_drew)); exact HO_10.out) (Kd.N_base ho41) hb); have n2_ := Aside0.mk (Kd.N_elder' (by (with_reducible repeat (first | apply Kd.N_alloc | apply Kd.N_drewN | apply Kd.N_drew)); exact HO125.out) (Kd.N_base ho41) hb); have n3_ := Aside0.mk (Kd.N_elder' (by (with_reducible repeat (first | apply Kd.N_alloc | apply Kd.N_drewN | apply Kd.N_drew)); exact HO130.out) (Kd.N_base ho41) hb); have n4_ := Aside0.mk (Kd.N_lower ho41 (below_size (by repeat (first | (with_reducible first | exact HB.out | apply below_alloc | apply pw_below_drewN | apply below_drew1) | exact HB.out)))); have n5_ := Aside0.mk (below_step (by repeat (first | (with_reducible first | exact HB.out | apply below_alloc | apply pw_below_drewN | apply below_drew1) | exact HB.out)) hb); clear HO_8; clear HO_10; clear HO125; clear HO130; clear HB; have HO_8 := n0_; have HO_10 := n1_; have HO125 := n2_; have HO130 := n3_; have HO135 := n4_; have HB := n5_; clear n0_ n1_ n2_ n3_ n4_ n5_; clear hb ho41) | ((with_reducible refine gate_builtin (b := .append) (xs := #[.tmp 92, .tmp 93]) rfl ?_); (try (refine gate_guard (by rfl) ?_; dsimp only)); at_builtin; refine Kd.N_append_rows k39 (w0 := w) w.heap.size rfl (.tmp 92) (.tmp 93) 23 39 (.agg #[(.string ⟨#[]⟩), (.slice none 0 0), (.int .i64 0)]) 48 rfl Tryd.underlying23 info39 rfl (by decide) (by omega) v134 y133 t112 _ _ _ (fun k_ => some k_ ≠ (v118 : Value).ownBlock ∧ some k_ ≠ (v124 : Value).ownBlock ∧ some k_ ≠ (v129 : Value).ownBlock) (fun k_ => ((fun k_ => some k_ ≠ (v118 : Value).ownBlock ∧ some k_ ≠ (v124 : Value).ownBlock ∧ some k_ ≠ (v129 : Value).ownBlock)) k_ ∧ some k_ ≠ (v134 : Value).ownBlock) rfl rfl ?aO ?aR (fun _ hk => hk) ?aF ?aB ?aS ?aL ?_; (case aR => exact (by skip; exact Kd.N_F (Kd.N_mono (ok' := (fun k_ => ((fun k_ => some k_ ≠ (v118 : Value).ownBlock ∧ some k_ ≠ (v124 : Value).ownBlock ∧ some k_ ≠ (v129 : Value).ownBlock)) k_ ∧ some k_ ≠ (v134 : Value).ownBlock)) (HO_8.out) (fun k_ hk => ⟨⟨hk.1.1.1, ⟨hk.1.1.2, hk.1.2⟩⟩, hk.2⟩)))); (case aB => exact (by repeat (first | (with_reducible first | exact HB.out | apply below_alloc | apply pw_below_drewN | apply below_drew1) | exact HB.out))); (case aF => exact (fun k_ hk => ⟨Kd.fresh' (Kd.N_lt (by (with_reducible repeat (first | apply Kd.N_alloc | apply Kd.N_drewN | apply Kd.N_drew)); exact HO_10.out)) k_ hk, Kd.fresh' (Kd.N_lt (by (with_reducible repeat (first | apply Kd.N_alloc | apply Kd.N_drewN | apply Kd.N_drew)); exact HO125.out)) k_ hk, Kd.fresh' (Kd.N_lt (by (with_reducible repeat (first | apply Kd.N_alloc | apply Kd.N_drewN | apply Kd.N_drew)); exact HO130.out)) k_ hk⟩)); (case aO => exact (by (with_reducible repeat (first | apply Kd.N_alloc | apply Kd.N_drewN | apply Kd.N_drew)); exact Kd.N_mono HO135.out (fun _ hk => ⟨hk.2.1, ⟨hk.2.2.1, hk.2.2.2⟩⟩))); (case aS => exact (below_size (by repeat (first | (with_reducible first | exact HB.out | apply below_alloc | apply pw_below_drewN | apply below_drew1) | exact HB.out)))); (case aL => have := LMc37.out; omega); intro v137 w42 ho hb hg hat; rw [← Ny136.out] at ho; have n0_ := Aside0.mk (Kd.N_afterv (ok := (fun k_ => some k_ ≠ (v118 : Value).ownBlock ∧ some k_ ≠ (v124 : Value).ownBlock ∧ some k_ ≠ (v129 : Value).ownBlock)) (by (with_reducible repeat (first | apply Kd.N_alloc | apply Kd.N_drewN | apply Kd.N_drew)); exact Kd.N_mono HO_8.out (fun _ hk => ⟨⟨hk.1.1.1, ⟨hk.1.1.2, hk.1.2⟩⟩, hk.2⟩)) hg hat); have n1_ := Aside0.mk (Kd.N_afterv (ok := (fun k_ => some k_ ≠ (.slice Ao34 t112.length co34 : Value).ownBlock ∧ some k_ ≠ (v124 : Value).ownBlock ∧ some k_ ≠ (v129 : Value).ownBlock)) (by (with_reducible repeat (first | apply Kd.N_alloc | apply Kd.N_drewN | apply Kd.N_drew)); exact Kd.N_mono HO_10.out (fun _ hk => ⟨⟨hk.1.1.1, ⟨hk.1.1.2, hk.1.2⟩⟩, hk.2⟩)) hg hat); have n2_ := Aside0.mk (Kd.N_afterv (ok := (fun k_ => some k_ ≠ (.slice Ao34 t112.length co34 : Value).ownBlock ∧ some k_ ≠ (v118 : Value).ownBlock ∧ some k_ ≠ (v129 : Value).ownBlock)) (by (with_reducible repeat (first | apply Kd.N_alloc | apply Kd.N_drewN | apply Kd.N_drew)); exact Kd.N_mono HO125.out (fun _ hk => ⟨⟨hk.1.1.1, ⟨hk.1.1.2, hk.1.2⟩⟩, hk.2⟩)) hg hat); have n3_ := Aside0.mk (Kd.N_afterv (ok := (fun k_ => some k_ ≠ (.slice Ao34 t112.length co34 : Value).ownBlock ∧ some k_ ≠ (v118 : Value).ownBlock ∧ some k_ ≠ (v124 : Value).ownBlock)) (by (with_reducible repeat (first | apply Kd.N_alloc | apply Kd.N_drewN | apply Kd.N_drew)); exact HO130.out) hg hat); have n4_ := Aside0.mk (hb); have n5_ := Aside0.mk (ho); clear HO_8; clear HO_10; clear HO125; clear HO130; clear HB; clear HO135; have HO_8 := n0_; have HO_10 := n1_; have HO125 := n2_; have HO130 := n3_; have HB := n4_; have HO138 := n5_; clear n0_ n1_ n2_ n3_ n4_ n5_; clear ho hb hg hat; obtain ⟨Ao44, co44, eo44⟩ := Kd.N_slice HO_10.out; subst eo44) | ((with_reducible refine gate_builtin (b := .append) (xs := #[.tmp 94, .tmp 95]) rfl ?_); (try (refine gate_guard (by rfl) ?_; dsimp only)); at_builtin; refine Kd.N_append_rows k39 (w0 := w) w.heap.size rfl (.tmp 94) (.tmp 95) 23 39 (.agg #[(.string ⟨#[]⟩), (.slice none 0 0), (.int .i64 0)]) 48 rfl Tryd.underlying23 info39 rfl (by decide) (by omega) v137 y136 t116 _ _ _ (fun k_ => some k_ ≠ (v124 : Value).ownBlock ∧ some k_ ≠ (v129 : Value).ownBlock) (fun k_ => ((fun k_ => some k_ ≠ (v124 : Value).ownBlock ∧ some k_ ≠ (v129 : Value).ownBlock)) k_ ∧ some k_ ≠ (v137 : Value).ownBlock) rfl rfl ?aO ?aR (fun _ hk => hk) ?aF ?aB ?aS ?aL ?_; (case aR => exact (by skip; exact Kd.N_F (Kd.N_mono (ok' := (fun k_ => ((fun k_ => some k_ ≠ (v124 : Value).ownBlock ∧ some k_ ≠ (v129 : Value).ownBlock)) k_ ∧ some k_ ≠ (v137 : Value).ownBlock)) (HO_10.out) (fun k_ hk => ⟨⟨hk.1.2.1, hk.1.2.2⟩, hk.2⟩)))); (case aB => exact (by repeat (first | (with_reducible first | exact HB.out | apply below_alloc | apply pw_below_drewN | apply below_drew1) | exact HB.out))); (case aF => exact (fun k_ hk => ⟨Kd.fresh' (Kd.N_lt (by (with_reducible repeat (first | apply Kd.N_alloc | apply Kd.N_drewN | apply Kd.N_drew)); exact HO125.out)) k_ hk, Kd.fresh' (Kd.N_lt (by (with_reducible repeat (first | apply Kd.N_alloc | apply Kd.N_drewN | apply Kd.N_drew)); exact HO130.out)) k_ hk⟩)); (case aO => exact (by (with_reducible repeat (first | apply Kd.N_alloc | apply Kd.N_drewN | apply Kd.N_drew)); exact Kd.N_mono HO138.out (fun _ hk => ⟨hk.2.1, hk.2.2⟩))); (case aS => exact (below_size (by repeat (first | (with_reducible first | exact HB.out | apply below_alloc | apply pw_below_drewN | apply below_drew1) | exact HB.out)))); (case aL => have := LMc38.out; omega); intro v140 w43 ho hb hg hat; rw [← Ny139.out] at ho; have n0_ := Aside0.mk (Kd.N_afterv (ok := (fun k_ => some k_ ≠ (.slice Ao44 t116.length co44 : Value).ownBlock ∧ some k_ ≠ (v124 : Value).ownBlock ∧ some k_ ≠ (v129 : Value).ownBlock)) (by (with_reducible repeat (first | apply Kd.N_alloc | apply Kd.N_drewN | apply Kd.N_drew)); exact HO_8.out) hg hat); have n1_ := Aside0.mk (Kd.N_afterv (ok := (fun k_ => some k_ ≠ (.slice Ao34 t112.length co34 : Value).ownBlock ∧ some k_ ≠ (v124 : Value).ownBlock ∧ some k_ ≠ (v129 : Value).ownBlock)) (by (with_reducible repeat (first | apply Kd.N_alloc | apply Kd.N_drewN | apply Kd.N_drew)); exact HO_10.out) hg hat); have n2_ := Aside0.mk (Kd.N_afterv (ok := (fun k_ => some k_ ≠ (.slice Ao34 t112.length co34 : Value).ownBlock ∧ some k_ ≠ (.slice Ao44 t116.length co44 : Value).ownBlock ∧ some k_ ≠ (v129 : Value).ownBlock)) (by (with_reducible repeat (first | apply Kd.N_alloc | apply Kd.N_drewN | apply Kd.N_drew)); exact HO125.out) hg hat); have n3_ := Aside0.mk (Kd.N_afterv (ok := (fun k_ => some k_ ≠ (.slice Ao34 t112.length co34 : Value).ownBlock ∧ some k_ ≠ (.slice Ao44 t116.length co44 : Value).ownBlock ∧ some k_ ≠ (v124 : Value).ownBlock)) (by (with_reducible repeat (first | apply Kd.N_alloc | apply Kd.N_drewN | apply Kd.N_drew)); exact HO130.out) hg hat); have n4_ := Aside0.mk (hb); have n5_ := Aside0.mk (ho); clear HO_8; clear HO_10; clear HO125; clear HO130; clear HB; clear HO138; have HO_8 := n0_; have HO_10 := n1_; have HO125 := n2_; have HO130 := n3_; have HB := n4_; have HO141 := n5_; clear n0_ n1_ n2_ n3_ n4_ n5_; clear ho hb hg hat; obtain ⟨Ao45, co45, eo45⟩ := Kd.N_slice HO130.out; subst eo45; obtain ⟨Ao46, co46, eo46⟩ := Kd.N_slice HO141.out; subst eo46) | (go_at_call 13; (with_reducible refine (tree_Same.calls k3 _ _ t127 _ _ y139 t142 _ ?side45 ?side46 ?side47 ?side48 A39.out).mono ?_); (case side45 => repeat (first | exact (Kd.N_reads' HO130.out).2.2 | (with_reducible refine Kd.C_alloc ?_ _) | (with_reducible refine Kd.C_drewN ?_ _) | (with_reducible refine Kd.C_drew ?_))); (case side46 => exact (Kd.N_reads' HO130.out).2.1); (case side47 => repeat (first | exact (Kd.N_reads' HO141.out).2.2 | (with_reducible refine Kd.C_alloc ?_ _) | (with_reducible refine Kd.C_drewN ?_ _) | (with_reducible refine Kd.C_drew ?_))); (case side48 => exact (Kd.N_reads' HO141.out).2.1); rintro e w47 ⟨rfl, hb⟩; have n0_ := Aside0.mk (Kd.N_below (by (with_reducible repeat (first | apply Kd.N_alloc | apply Kd.N_drewN | apply Kd.N_drew)); exact HO_8.out) hb); have n1_ := Aside0.mk (Kd.N_below (by (with_reducible repeat (first | apply Kd.N_alloc | apply Kd.N_drewN | apply Kd.N_drew)); exact HO_10.out) hb); have n2_ := Aside0.mk (Kd.N_below (by (with_reducible repeat (first | apply Kd.N_alloc | apply Kd.N_drewN | apply Kd.N_drew)); exact HO125.out) hb); have n3_ := Aside0.mk (Kd.N_below (by (with_reducible repeat (first | apply Kd.N_alloc | apply Kd.N_drewN | apply Kd.N_drew)); exact HO130.out) hb); have n4_ := Aside0.mk (Kd.N_below (by (with_reducible repeat (first | apply Kd.N_alloc | apply Kd.N_drewN | apply Kd.N_drew)); exact HO141.out) hb); have n5_ := Aside0.mk (below_step (by repeat (first | (with_reducible first | exact HB.out | apply below_alloc | apply pw_below_drewN | apply below_drew1) | exact HB.out)) hb); clear HO_8; clear HO_10; clear HO125; clear HO130; clear HO141; clear HB; have HO_8 := n0_; have HO_10 := n1_; have HO125 := n2_; have HO130 := n3_; have HO141 := n4_; have HB := n5_; clear n0_ n1_ n2_ n3_ n4_ n5_; (try clear hb); (try clear hb2); (try clear hk); (try clear hi)))
                                            go_meet
                                            case rel => exact ⟨_, (!t142), (by first | rfl | (simp; done) | (simp [*]; done)), H', ⟨by have := HJ5.out; have := HJ12.out; have := HK3.out; first | omega | exact Nat.le_refl _⟩, ⟨by (with_reducible repeat (first | apply Kd.N_alloc | apply Kd.N_drewN | apply Kd.N_drew)); exact Kd.N_mono HO_8.out (fun _ hk => trivial)⟩, ⟨by (with_reducible repeat (first | apply Kd.N_alloc | apply Kd.N_drewN | apply Kd.N_drew)); exact Kd.N_mono HO125.out (fun _ hk => hk.1.1)⟩, ⟨by repeat (first | (with_reducible first | exact HB.out | apply below_alloc | apply pw_below_drewN | apply below_drew1) | exact HB.out)⟩⟩
                                          · rw [if_neg c38] at H
                                            exact absurd H (by simp)
                                        · rw [if_neg c37] at H
                                          exact absurd H (by simp)
                                      · have H1 : (none) = some r := by rw [if_neg (show ¬ (some q132).isNone = true by simp)] at H; exact H
                                        clear H
                                        have H := H1
                                        clear H1
                                        try simp only [errW_none, errW_some]
                                        exact absurd H (by simp)
                                    · have H1 : (none) = some r := by rw [if_neg (show ¬ (some q131).isNone = true by simp)] at H; exact H
                                      clear H
                                      have H := H1
                                      clear H1
                                      try simp only [errW_none, errW_some]
                                      exact absurd H (by simp)
                                  case rest =>
                                    clear HC32
                                    try clear c1
                                    try clear q1
                                    try clear c2
                                    try clear p2
                                    try clear c3
                                    try clear c5
                                    try clear c6
                                    try clear p6
                                    try clear c7
                                    try clear c8
                                    try clear c8b0
                                    try clear c8b1
                                    try clear c9
                                    try clear c12
                                    try clear q12
                                    try clear q13
                                    try clear c16
                                    try clear c17
                                    try clear c17b0
                                    try clear c18
                                    try clear c18b0
                                    try clear c18b1
                                    try clear c18b2
                                    try clear c19
                                    try clear c19b0
                                    try clear c19b1
                                    try clear c19b2
                                    try clear c20
                                    try clear c20b0
                                    try clear c20b1
                                    try clear c20b2
                                    try clear c21
                                    try clear c21b0
                                    try clear c21b1
                                    try clear c21b2
                                    try clear c22
                                    try clear c22b0
                                    try clear c22b1
                                    try clear c22b2
                                    try clear c25
                                    try clear c25b0
                                    try clear c29
                                    try clear c29b0
                                    try clear c29b1
                                    try clear c29b2
                                    try clear c30
                                    try clear c30b0
                                    try clear c30b1
                                    try clear c30b2
                                    try clear c37
                                    try clear c38
                                    try clear p2
                                    try clear q1
                                    try clear q12
                                    try clear q120
                                    try clear q121
                                    try clear q131
                                    try clear q132
                                    obtain ⟨kq, x99_31, rfl, HA, HJ31, HO_8, HO_15, HB⟩ := hcut
                                    cases kq with
                                    | zero => exact absurd HA.out (by simp [gristmilllaw4_TreeWraps.j3])
                                    | succ kj31 =>
                                      have H := HA.out
                                      clear HA
                                      simp only [gristmilllaw4_TreeWraps.j3] at H
                                      by_cases c48 : x99_31 = true
                                      · subst c48
                                        have H1 : (none) = some r := by rw [if_pos rfl] at H; exact H
                                        clear H
                                        have H := H1
                                        clear H1
                                        exact absurd H (by simp)
                                      · replace c48 := Bool.eq_false_iff.mpr c48
                                        subst c48
                                        have H1 : (gristmilllaw4_TreeWraps.l1 kj31 t111 true t112 t122 0) = some r := by rw [if_neg (show ¬ (false = true) by decide)] at H; exact H
                                        clear H
                                        have H := H1
                                        clear H1
                                        have H' := Aside0.mk H
                                        clear H
                                        go_wp2
                                        go_loopg [15, 19] kj31 (fun kq v15 v19 w' => ∃ (x15_5 : List (S39)) (x19_5 : Int), v19 = .int .i64 x19_5 ∧ Aside0 (gristmilllaw4_TreeWraps.l1 kq t111 true t112 x15_5 x19_5 = some r) ∧ Aside0 (kq ≤ kj31) ∧ Aside0 (Kd.N k39 39 w' w.heap.size (fun _ => True) (.slice Ao34 t112.length co34) t112) ∧ Aside0 (Kd.V k39 39 w' w.heap.size (fun k_ => some k_ ≠ ((.slice Ao34 t112.length co34) : Value).ownBlock) v15 x15_5) ∧ Aside0 (Below w.heap.size w w'))
                                        case atStart => exact ⟨(t122), (0), (by first | rfl | (simp; done) | (simp [*]; done)), H', ⟨Nat.le_refl _⟩, ⟨by (with_reducible repeat (first | apply Kd.N_alloc | apply Kd.N_drewN | apply Kd.N_drew)); exact HO_8.out⟩, ⟨Kd.N_V (by (with_reducible repeat (first | apply Kd.N_alloc | apply Kd.N_drewN | apply Kd.N_drew)); exact HO_15.out)⟩, ⟨by repeat (first | (with_reducible first | exact HB.out | apply below_alloc | apply pw_below_drewN | apply below_drew1) | exact HB.out)⟩⟩
                                        case round =>
                                          clear H'
                                          try clear c1
                                          try clear q1
                                          try clear c2
                                          try clear p2
                                          try clear c3
                                          try clear c4
                                          try clear c5
                                          try clear c6
                                          try clear p6
                                          try clear c7
                                          try clear c8
                                          try clear c8b0
                                          try clear c8b1
                                          try clear c9
                                          try clear c12
                                          try clear q12
                                          try clear q13
                                          try clear c16
                                          try clear c17
                                          try clear c17b0
                                          try clear c18
                                          try clear c18b0
                                          try clear c18b1
                                          try clear c18b2
                                          try clear c19
                                          try clear c19b0
                                          try clear c19b1
                                          try clear c19b2
                                          try clear c20
                                          try clear c20b0
                                          try clear c20b1
                                          try clear c20b2
                                          try clear c21
                                          try clear c21b0
                                          try clear c21b1
                                          try clear c21b2
                                          try clear c22
                                          try clear c22b0
                                          try clear c22b1
                                          try clear c22b2
                                          try clear c25
                                          try clear c25b0
                                          try clear c29
                                          try clear c29b0
                                          try clear c29b1
                                          try clear c29b2
                                          try clear c30
                                          try clear c30b0
                                          try clear c30b1
                                          try clear c30b2
                                          try clear c37
                                          try clear c38
                                          try clear c48
                                          try clear p2
                                          try clear p6
                                          try clear q1
                                          try clear q12
                                          try clear q120
                                          try clear q121
                                          try clear q13
                                          try clear q131
                                          try clear q132
                                          obtain ⟨x15_5, x19_5, rfl, HA, HK5, HO_8, HO_15, HB⟩ := hrel
                                          cases gk with
                                          | zero => exact absurd HA.out (by simp [gristmilllaw4_TreeWraps.l1])
                                          | succ k5 =>
                                            have H := HA.out
                                            clear HA
                                            simp only [gristmilllaw4_TreeWraps.l1] at H
                                            by_cases c49 : x19_5 < t111
                                            · rw [if_pos c49] at H
                                              have c49b0 : decide (x19_5 < t111) = true := decide_eq_true c49
                                              clear c49
                                              by_cases c50 : (x15_5.length : Int) = 1
                                              · rw [if_pos c50] at H
                                                have c50b0 : ((x15_5.length : Int) == 1) = true := beq_iff_eq.mpr c50
                                                have c50b1 : ((x15_5.length : Int) != 1) = false := bne_eq_false_iff_eq.mpr c50
                                                clear c50
                                                by_cases c51 : 0 < (x15_5.length : Int)
                                                · rw [if_pos c51] at H
                                                  have c51b0 : decide (0 < (x15_5.length : Int)) = true := decide_eq_true c51
                                                  have c51b1 : decide (0 < x15_5.length) = true := decide_eq_true (by omega)
                                                  clear c51
                                                  by_cases c52 : ((rd_T39 x15_5 0).f0).toList = ([] : List UInt8)
                                                  · rw [if_pos c52] at H
                                                    have c52b0 : (((rd_T39 x15_5 0).f0).toList == ([] : List UInt8)) = true := beq_iff_eq.mpr c52
                                                    have c52b1 : (((rd_T39 x15_5 0).f0).toList != ([] : List UInt8)) = false := bne_eq_false_iff_eq.mpr c52
                                                    clear c52
                                                    have H' := Aside0.mk H
                                                    clear H
                                                    obtain ⟨Ao53, co53, eo53⟩ := Kd.V_slice HO_15.out
                                                    subst eo53
                                                    have p143 : 0 ≤ (0 : Int) := (by omega)
                                                    have q143 : 0 < (x15_5.length : Int) := of_decide_eq_true (by first | (with_reducible assumption) | assumption)
                                                    obtain ⟨ad143, A143_1, c143_1, e143, hx143_0, hx143_1, hx143_2, hl143_1, hi143_1⟩ := at_T39 (Kd.V_reads' HO_15.out).2.2 0 p143 q143
                                                    cases e143
                                                    obtain ⟨ce143, hce143, hMe143, hcc143⟩ := Kd.V_get HO_15.out z39 0 p143 (by first | exact q143 | exact of_decide_eq_true (by first | (with_reducible assumption) | assumption) | (have e_ := (Kd.V_reads' HO_15.out).1; omega))
                                                    obtain ⟨ua143_1, uc143_1, rfl, ul143_1, ge143_1⟩ := k39_openF hMe143
                                                    have hv143_1 := hcc143 1 _ rfl
                                                    rw [add_field _ _ 1 (by omega)] at hv143_1
                                                    replace hv143_1 := Option.some.inj (hv143_1.symm.trans hx143_1)
                                                    injection hv143_1 with hva_ hvn_ hvc_
                                                    rw [hva_] at ge143_1
                                                    rw [hvc_] at ul143_1
                                                    have HL143_1 := Aside0.mk (show Kd.V k39 39 _ w.heap.size _ _ ((rd_T39 x15_5 0).f1) from Kd.V_mk ul143_1 ge143_1)
                                                    clear hva_ hvn_ hvc_ ge143_1 ul143_1
                                                    clear hcc143 hce143
                                                    have qi143 : (0 < x15_5.length) = True := eq_true (by omega)
                                                    (try rw [show ((0 : Int)).toNat = 0 from rfl] at hx143_0)
                                                    (try rw [show 0 * 3 = 0 from rfl] at hx143_0)
                                                    (try rw [Addr.add_zero'] at hx143_0)
                                                    (try rw [show ((0 : Int)).toNat = 0 from rfl] at hx143_1)
                                                    (try rw [show 0 * 3 = 0 from rfl] at hx143_1)
                                                    (try rw [Addr.add_zero'] at hx143_1)
                                                    (try rw [show ((0 : Int)).toNat = 0 from rfl] at hx143_2)
                                                    (try rw [show 0 * 3 = 0 from rfl] at hx143_2)
                                                    (try rw [Addr.add_zero'] at hx143_2)
                                                    have HR143_1 := Aside0.mk hi143_1
                                                    have HC143_1 := Aside0.mk hl143_1
                                                    clear hi143_1 hl143_1
                                                    replace p143 := eq_true p143
                                                    replace q143 := eq_true q143
                                                    have p144 : 0 ≤ (0 : Int) := (by omega)
                                                    have q144 : 0 < (x15_5.length : Int) := of_decide_eq_true (by first | (with_reducible assumption) | assumption)
                                                    obtain ⟨ad144, A144_1, c144_1, e144, hx144_0, hx144_1, hx144_2, hl144_1, hi144_1⟩ := at_T39 (Kd.V_reads' HO_15.out).2.2 0 p144 q144
                                                    obtain rfl : ad143 = ad144 := (by injection e144)
                                                    obtain ⟨ce144, hce144, hMe144, hcc144⟩ := Kd.V_get HO_15.out z39 0 p144 (by first | exact q144 | exact of_decide_eq_true (by first | (with_reducible assumption) | assumption) | (have e_ := (Kd.V_reads' HO_15.out).1; omega))
                                                    obtain ⟨ua144_1, uc144_1, rfl, ul144_1, ge144_1⟩ := k39_openF hMe144
                                                    have hv144_1 := hcc144 1 _ rfl
                                                    rw [add_field _ _ 1 (by omega)] at hv144_1
                                                    replace hv144_1 := Option.some.inj (hv144_1.symm.trans hx144_1)
                                                    injection hv144_1 with hva_ hvn_ hvc_
                                                    rw [hva_] at ge144_1
                                                    rw [hvc_] at ul144_1
                                                    have HL144_1 := Aside0.mk (show Kd.V k39 39 _ w.heap.size _ _ ((rd_T39 x15_5 0).f1) from Kd.V_mk ul144_1 ge144_1)
                                                    clear hva_ hvn_ hvc_ ge144_1 ul144_1
                                                    clear hcc144 hce144
                                                    have qi144 : (0 < x15_5.length) = True := eq_true (by omega)
                                                    (try rw [show ((0 : Int)).toNat = 0 from rfl] at hx144_0)
                                                    (try rw [show 0 * 3 = 0 from rfl] at hx144_0)
                                                    (try rw [Addr.add_zero'] at hx144_0)
                                                    (try rw [show ((0 : Int)).toNat = 0 from rfl] at hx144_1)
                                                    (try rw [show 0 * 3 = 0 from rfl] at hx144_1)
                                                    (try rw [Addr.add_zero'] at hx144_1)
                                                    (try rw [show ((0 : Int)).toNat = 0 from rfl] at hx144_2)
                                                    (try rw [show 0 * 3 = 0 from rfl] at hx144_2)
                                                    (try rw [Addr.add_zero'] at hx144_2)
                                                    have HR144_1 := Aside0.mk hi144_1
                                                    have HC144_1 := Aside0.mk hl144_1
                                                    clear hi144_1 hl144_1
                                                    replace p144 := eq_true p144
                                                    replace q144 := eq_true q144
                                                    have ea_ := Option.some.inj (hx143_1.symm.trans hx144_1)
                                                    injection ea_ with ea_ en_ ec_
                                                    subst ea_
                                                    subst ec_
                                                    clear en_
                                                    go_wp2
                                                    go_roundg k5
                                                    case measure => have := HJ5.out; have := HJ12.out; have := HK3.out; have := HJ31.out; have := HK5.out; omega
                                                    case rel => exact ⟨((rd_T39 x15_5 0).f1), (wrap64 (x19_5 + 1)), (by first | rfl | (simp; done) | (simp [*]; done)), H', ⟨by have := HJ5.out; have := HJ12.out; have := HK3.out; have := HJ31.out; have := HK5.out; omega⟩, ⟨by (with_reducible repeat (first | apply Kd.N_alloc | apply Kd.N_drewN | apply Kd.N_drew)); exact HO_8.out⟩, ⟨by (with_reducible repeat (first | apply Kd.V_alloc | apply Kd.V_drewN | apply Kd.V_drew)); exact HL144_1.out⟩, ⟨by repeat (first | (with_reducible first | exact HB.out | apply below_alloc | apply pw_below_drewN | apply below_drew1) | exact HB.out)⟩⟩
                                                  · rw [if_neg c52] at H
                                                    exact absurd H (by simp)
                                                · rw [if_neg c51] at H
                                                  exact absurd H (by simp)
                                              · rw [if_neg c50] at H
                                                exact absurd H (by simp)
                                            · rw [if_neg c49] at H
                                              have c49b0 : decide (x19_5 < t111) = false := decide_eq_false c49
                                              clear c49
                                              have H1 : ((tree_Same.f k5 x15_5 t112).bind fun t145 => (some t145)) = some r := by first | exact H | (rw [if_pos rfl] at H; exact H)
                                              clear H
                                              have H := H1
                                              clear H1
                                              replace H := Option.bind_eq_some_iff.mp H
                                              obtain ⟨t145, A540, H⟩ := H
                                              replace H : (some t145) = some r := H
                                              have A54 := Aside0.mk A540
                                              clear A540
                                              obtain rfl := Option.some.inj H
                                              obtain ⟨Ao55, co55, eo55⟩ := Kd.V_slice HO_15.out
                                              subst eo55
                                              go_wp2_with (first | (go_at_call 13; (with_reducible refine (tree_Same.calls k5 _ _ x15_5 _ _ t112 t145 _ ?side49 ?side50 ?side51 ?side52 A54.out).mono ?_); (case side49 => repeat (first | exact (Kd.V_reads' HO_15.out).2.2 | (with_reducible refine Kd.C_alloc ?_ _) | (with_reducible refine Kd.C_drewN ?_ _) | (with_reducible refine Kd.C_drew ?_))); (case side50 => exact (Kd.V_reads' HO_15.out).2.1); (case side51 => repeat (first | exact (Kd.N_reads' HO_8.out).2.2 | (with_reducible refine Kd.C_alloc ?_ _) | (with_reducible refine Kd.C_drewN ?_ _) | (with_reducible refine Kd.C_drew ?_))); (case side52 => exact (Kd.N_reads' HO_8.out).2.1); rintro e w56 ⟨rfl, hb⟩; have n0_ := Aside0.mk (Kd.N_below (by (with_reducible repeat (first | apply Kd.N_alloc | apply Kd.N_drewN | apply Kd.N_drew)); exact HO_8.out) hb); have n1_ := Aside0.mk (Kd.V_below (by (with_reducible repeat (first | apply Kd.V_alloc | apply Kd.V_drewN | apply Kd.V_drew)); exact HO_15.out) hb); have n2_ := Aside0.mk (below_step (by repeat (first | (with_reducible first | exact HB.out | apply below_alloc | apply pw_below_drewN | apply below_drew1) | exact HB.out)) hb); clear HO_8; clear HO_15; clear HB; have HO_8 := n0_; have HO_15 := n1_; have HB := n2_; clear n0_ n1_ n2_; (try clear hb); (try clear hb2); (try clear hk); (try clear hi)))
                                              go_ret
                                              exact ⟨by first | rfl | (simp [errW_none, errW_some] <;> rfl) | (simp [*, errW_none, errW_some] <;> rfl) | (simp [errW_none, errW_some] <;> (rw [Bool.eq_iff_iff]; simp; done)), by repeat (first | (with_reducible first | exact HB.out | apply below_alloc | apply pw_below_drewN | apply below_drew1) | exact HB.out)⟩
                                · rw [if_neg c30] at H
                                  exact absurd H (by simp)
                              · rw [if_neg c29] at H
                                exact absurd H (by simp)
                          · rw [if_neg c22] at H
                            exact absurd H (by simp)
                        · rw [if_neg c21] at H
                          exact absurd H (by simp)
                      · rw [if_neg c20] at H
                        exact absurd H (by simp)
  · replace c5 := Bool.eq_false_iff.mpr c5
    subst c5
    have H1 : (none) = some r := by rw [if_neg (show ¬ (false = true) by decide)] at H; exact H
    clear H
    have H := H1
    clear H1
    exact absurd H (by simp)

/-- THE ONE PURE STATEMENT of gristmilllaw4_TreeWraps: yours. -/
def gristmilllaw4_TreeWraps.Pure : Prop := ∀ (a0 : ByteArray) (a1 : ByteArray) (a2 : Int), a0.size ≤ 140737488351232 → a1.size ≤ 140737488351232 → (Lit.int .i64 a2).wf = true → ∃ k, gristmilllaw4_TreeWraps.f k a0 a1 a2 = some true
theorem gristmilllaw4_TreeWraps.walk (P : gristmilllaw4_TreeWraps.Pure) (a0 : ByteArray) (a1 : ByteArray) (a2 : Int) (w : World) (w0 : a0.size ≤ 140737488351232) (w1 : a1.size ≤ 140737488351232) (w2 : (Lit.int .i64 a2).wf = true) (hGG : GG ad w) :
    Calls Tryd.prog 5 #[.string a0, .string a1, .int .i64 a2] w fun e w' => e = .returned (.bool true) ∧ Below w.heap.size w w' := by
  obtain ⟨k, h⟩ := P a0 a1 a2 w0 w1 w2
  refine (gristmilllaw4_TreeWraps.calls k a0 a1 a2 true w hGG h).mono ?_
  rintro e w' ⟨rfl, hd⟩
  exact ⟨rfl, hd⟩

end Go.Proofs.YthbiofcgaegjkaaDoor.PTreeA
