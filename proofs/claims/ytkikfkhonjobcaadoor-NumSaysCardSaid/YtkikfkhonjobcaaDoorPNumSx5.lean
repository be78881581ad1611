/- For each Go function that the laws of this group reach: a plain function with the same answers, and the proof that the call comes to them wherever the plain function has an answer. No other condition. (Laid by a program of this session.) -/
import Derived.Test.YtkikfkhonjobcaaDoorPNumSx0
import Derived.Test.YtkikfkhonjobcaaDoorPNumSx1
import Derived.Test.YtkikfkhonjobcaaDoorPNumSx2
import Derived.Test.YtkikfkhonjobcaaDoorPNumSx3
import Derived.Test.YtkikfkhonjobcaaDoorPNumSx4
import Derived.Test.YtkikfkhonjobcaaDoorExtS
namespace Go.Proofs.YtkikfkhonjobcaaDoor.PNumS
open Go.RowKit Go.Proofs.YtkikfkhonjobcaaDoorW.PrintWords Go.Proofs.YtkikfkhonjobcaaDoorW.PrintLast Go.Proofs.YtkikfkhonjobcaaDoorW.PrintMore Go.Proofs.YtkikfkhonjobcaaDoor.ExtS
attribute [local go_sem] max2_int min2_int max_two min_two max_three min_three max_four min_four   -- for this text's walks alone
set_option linter.unusedVariables false
set_option linter.unusedSimpArgs false

variable {ad : Int → Addr}
/-! ### gristmillref_SameTexts: function 22 -/
def gristmillref_SameTexts.l0 : Nat → List ByteArray → List ByteArray → Int → Option (Bool)
  | 0, _, _, _ => none
  | k + 1, x0, x1, x5 => if x5 < (x0.length : Int) then (if 0 ≤ x5 then (if x5 < (x1.length : Int) then (if ((rdOf ByteArray.empty x0 x5).toList = (rdOf ByteArray.empty x1 x5).toList) then (gristmillref_SameTexts.l0 k x0 x1 (wrap64 (x5 + 1))) else (some false)) else (none)) else (none)) else (some true)
def gristmillref_SameTexts.f (k : Nat) (l0 : List ByteArray) (l1 : List ByteArray) : Option (Bool) := if (l0.length : Int) = (l1.length : Int) then (gristmillref_SameTexts.l0 k l0 l1 0) else (some false)
theorem gristmillref_SameTexts.mono_l : ∀ k, (∀ y0 y1 y2, LeO (gristmillref_SameTexts.l0 k y0 y1 y2) (gristmillref_SameTexts.l0 (k + 1) y0 y1 y2))
  | 0 => fun _ _ _ r h => by simp [gristmillref_SameTexts.l0] at h
  | k + 1 => by
    have ih0 := gristmillref_SameTexts.mono_l k
    · intro y0 y1 y2
      unfold gristmillref_SameTexts.l0
      repeat' first
      | (with_reducible exact ih0 _ _ _)
      | (with_reducible exact LeO.refl _)
      | (with_reducible exact LeO.none _)
      | (with_reducible refine LeO.ite ?_ ?_)
      | (with_reducible refine LeO.bind ?_ (fun _ => ?_))
      | exact ih0 _ _ _
      | exact LeO.none _
      | refine LeO.ite ?_ ?_
      | refine LeO.bind ?_ (fun _ => ?_)
theorem gristmillref_SameTexts.mono : ∀ a0 a1 k, LeO (gristmillref_SameTexts.f k a0 a1) (gristmillref_SameTexts.f (k + 1) a0 a1) := by
  intro a0 a1 k
  have ih0 := gristmillref_SameTexts.mono_l k
  unfold gristmillref_SameTexts.f
  repeat' first
      | (with_reducible exact ih0 _ _ _)
      | (with_reducible exact LeO.refl _)
      | (with_reducible exact LeO.none _)
      | (with_reducible refine LeO.ite ?_ ?_)
      | (with_reducible refine LeO.bind ?_ (fun _ => ?_))
      | exact ih0 _ _ _
      | exact LeO.none _
      | refine LeO.ite ?_ ?_
      | refine LeO.bind ?_ (fun _ => ?_)
set_option maxHeartbeats 8000000 in
set_option maxRecDepth 100000 in
theorem gristmillref_SameTexts.calls (k : Nat) (A0 : Option Addr) (c0 : Nat) (l0 : List ByteArray) (A1 : Option Addr) (c1 : Nat) (l1 : List ByteArray) (r : Bool) (w : World) (hr0 : Kd.C Kd.string w A0 l0.length l0) (hc0 : l0.length ≤ c0) (hr1 : Kd.C Kd.string w A1 l1.length l1) (hc1 : l1.length ≤ c1) (h : gristmillref_SameTexts.f k l0 l1 = some r) :
    Calls Tryd.prog 22 #[.slice A0 l0.length c0, .slice A1 l1.length c1] w fun e w' => e = .returned (.bool r) ∧ Drawn0 w w' := by
  have HR0 := Aside0.mk hr0
  have HC0 := Aside0.mk hc0
  clear hr0 hc0
  have HR1 := Aside0.mk hr1
  have HC1 := Aside0.mk hc1
  clear hr1 hc1
  have H : (if (l0.length : Int) = (l1.length : Int) then (gristmillref_SameTexts.l0 k l0 l1 0) else (some false)) = some r := h
  clear h
  by_cases c3 : (l0.length : Int) = (l1.length : Int)
  · rw [if_pos c3] at H
    have c3b0 : ((l0.length : Int) == (l1.length : Int)) = true := beq_iff_eq.mpr c3
    have c3b1 : ((l0.length : Int) != (l1.length : Int)) = false := bne_eq_false_iff_eq.mpr c3
    have c3b2 : (l0.length == l1.length) = true := by first | simpa using c3 | (simp at c3 ⊢; omega)
    clear c3
    have H' := Aside0.mk H
    clear H
    go_enter Tryd.func22, Tryd.ntmps22
    go_wp2
    repeat (go_quiet (fail); try go_wp2)
    go_loopg [5] k (fun kq v5 w' => ∃ (x5_1 : Int), v5 = .int .i64 x5_1 ∧ Aside0 (gristmillref_SameTexts.l0 kq l0 l1 x5_1 = some r) ∧ Aside0 (kq ≤ k) ∧ Drawn0 w w')
    case atStart => exact ⟨(0), (by first | rfl | (simp; done) | (simp [*]; done)), H', ⟨Nat.le_refl _⟩, by repeat (first | exact Drawn0.refl _ | apply Drawn0.step)⟩
    case round =>
      clear H'
      try clear c1
      try clear c2
      try clear p2
      try clear c3
      try clear c3b0
      try clear c3b1
      try clear c3b2
      obtain ⟨x5_1, rfl, HA, HK1, ⟨m1, rfl⟩⟩ := hrel
      cases gk with
      | zero => exact absurd HA.out (by simp [gristmillref_SameTexts.l0])
      | succ k1 =>
        have H := HA.out
        clear HA
        simp only [gristmillref_SameTexts.l0] at H
        by_cases c4 : x5_1 < (l0.length : Int)
        · rw [if_pos c4] at H
          have c4b0 : decide (x5_1 < (l0.length : Int)) = true := decide_eq_true c4
          clear c4
          by_cases c5 : 0 ≤ x5_1
          · rw [if_pos c5] at H
            have c5b0 : decide (0 ≤ x5_1) = true := decide_eq_true c5
            clear c5
            by_cases c6 : x5_1 < (l1.length : Int)
            · rw [if_pos c6] at H
              have c6b0 : decide (x5_1 < (l1.length : Int)) = true := decide_eq_true c6
              clear c6
              by_cases c7 : ((rdOf ByteArray.empty l0 x5_1).toList = (rdOf ByteArray.empty l1 x5_1).toList)
              · rw [if_pos c7] at H
                have c7b0 : ((rdOf ByteArray.empty l0 x5_1).toList == (rdOf ByteArray.empty l1 x5_1).toList) = true := beq_iff_eq.mpr c7
                have c7b1 : ((rdOf ByteArray.empty l0 x5_1).toList != (rdOf ByteArray.empty l1 x5_1).toList) = false := bne_eq_false_iff_eq.mpr c7
                clear c7
                have H' := Aside0.mk H
                clear H
                have p147 : 0 ≤ (x5_1 : Int) := of_decide_eq_true (by first | (with_reducible assumption) | assumption)
                have q147 : x5_1 < (l0.length : Int) := of_decide_eq_true (by first | (with_reducible assumption) | assumption)
                obtain ⟨ad147, e147, hx147_0⟩ := Kd.at_string HR0.out x5_1 p147 q147
                cases e147
                replace p147 := eq_true p147
                replace q147 := eq_true q147
                have p148 : 0 ≤ (x5_1 : Int) := of_decide_eq_true (by first | (with_reducible assumption) | assumption)
                have q148 : x5_1 < (l1.length : Int) := of_decide_eq_true (by first | (with_reducible assumption) | assumption)
                obtain ⟨ad148, e148, hx148_0⟩ := Kd.at_string HR1.out x5_1 p148 q148
                cases e148
                replace p148 := eq_true p148
                replace q148 := eq_true q148
                go_wp2
                repeat (go_quiet (fail); try go_wp2)
                go_roundg k1
                case measure => have := HK1.out; omega
                case rel => exact ⟨(wrap64 (x5_1 + 1)), (by first | rfl | (simp; done) | (simp [*]; done)), H', ⟨by have := HK1.out; omega⟩, by repeat (first | exact Drawn0.refl _ | apply Drawn0.step)⟩
              · rw [if_neg c7] at H
                have c7b0 : ((rdOf ByteArray.empty l0 x5_1).toList == (rdOf ByteArray.empty l1 x5_1).toList) = false := beq_eq_false_iff_ne.mpr c7
                have c7b1 : ((rdOf ByteArray.empty l0 x5_1).toList != (rdOf ByteArray.empty l1 x5_1).toList) = true := bne_iff_ne.mpr c7
                obtain rfl := Option.some.inj H
                have p147 : 0 ≤ (x5_1 : Int) := of_decide_eq_true (by first | (with_reducible assumption) | assumption)
                have q147 : x5_1 < (l0.length : Int) := of_decide_eq_true (by first | (with_reducible assumption) | assumption)
                obtain ⟨ad147, e147, hx147_0⟩ := Kd.at_string HR0.out x5_1 p147 q147
                cases e147
                replace p147 := eq_true p147
                replace q147 := eq_true q147
                have p148 : 0 ≤ (x5_1 : Int) := of_decide_eq_true (by first | (with_reducible assumption) | assumption)
                have q148 : x5_1 < (l1.length : Int) := of_decide_eq_true (by first | (with_reducible assumption) | assumption)
                obtain ⟨ad148, e148, hx148_0⟩ := Kd.at_string HR1.out x5_1 p148 q148
                cases e148
                replace p148 := eq_true p148
                replace q148 := eq_true q148
                go_wp2
                repeat (go_quiet (fail); try go_wp2)
                go_ret
                exact ⟨by first | rfl | (simp; done) | (simp [*]; done), by repeat (first | exact Drawn0.refl _ | apply Drawn0.step)⟩
            · rw [if_neg c6] at H
              exact absurd H (by simp)
          · rw [if_neg c5] at H
            exact absurd H (by simp)
        · rw [if_neg c4] at H
          have c4b0 : decide (x5_1 < (l0.length : Int)) = false := decide_eq_false c4
          clear c4
          obtain rfl := Option.some.inj H
          go_wp2
          repeat (go_quiet (fail); try go_wp2)
          go_ret
          exact ⟨by first | rfl | (simp; done) | (simp [*]; done), by repeat (first | exact Drawn0.refl _ | apply Drawn0.step)⟩
  · rw [if_neg c3] at H
    have c3b0 : ((l0.length : Int) == (l1.length : Int)) = false := beq_eq_false_iff_ne.mpr c3
    have c3b1 : ((l0.length : Int) != (l1.length : Int)) = true := bne_iff_ne.mpr c3
    have c3b2 : (l0.length == l1.length) = false := by first | simpa using c3 | (simp at c3 ⊢; omega)
    obtain rfl := Option.some.inj H
    go_enter Tryd.func22, Tryd.ntmps22
    go_wp2
    repeat (go_quiet (fail); try go_wp2)
    go_ret
    exact ⟨by first | rfl | (simp; done) | (simp [*]; done), by repeat (first | exact Drawn0.refl _ | apply Drawn0.step)⟩

/-! ### gristmilllaw2_NumSays: function 7 -/
mutual
def gristmilllaw2_NumSays.j0 : Nat → ByteArray → ByteArray → Int → Int → Bool → Bool → Option (Bool)
  | 0, _, _, _, _, _, _ => none
  | k + 1, x0, x1, x2, x3, x9, x32 => if x32 = true then (some x9) else ((num_Do.f k x0 x2 x3).bind fun bt150 => ((gristmillref1_NumDo.f x0 x2 x3).bind fun bt153 => ((num_Parse.f x1).bind fun bt156 => ((gristmillref1_NumParse.f k x1).bind fun bt158 => ((num_Arity.f k x0).bind fun bt160 => (if bt150.1 = bt153.1 then (if bt150.2.1 = bt153.2.1 then (if (bt150.2.2 != bt153.2.2) = true then (gristmilllaw2_NumSays.j1 k x0 x2 x9 bt160.1 bt160.2 true) else (if bt156.1 = bt158.1 then (if bt156.2.isNone = true then (if (true != bt158.2) = true then (gristmilllaw2_NumSays.j1 k x0 x2 x9 bt160.1 bt160.2 true) else (if bt158.2 = true then (gristmilllaw2_NumSays.j1 k x0 x2 x9 bt160.1 bt160.2 false) else ((gristmillsee_Is.f k none 118).bind fun t163 => (gristmilllaw2_NumSays.j1 k x0 x2 x9 bt160.1 bt160.2 (!t163))))) else (if (false != bt158.2) = true then (gristmilllaw2_NumSays.j1 k x0 x2 x9 bt160.1 bt160.2 true) else (if bt158.2 = true then (gristmilllaw2_NumSays.j1 k x0 x2 x9 bt160.1 bt160.2 false) else ((gristmillsee_Is.f k (some (bt156.2.getD 0)) 118).bind fun t164 => (gristmilllaw2_NumSays.j1 k x0 x2 x9 bt160.1 bt160.2 (!t164)))))) else (gristmilllaw2_NumSays.j1 k x0 x2 x9 bt160.1 bt160.2 true))) else (gristmilllaw2_NumSays.j1 k x0 x2 x9 bt160.1 bt160.2 true)) else (gristmilllaw2_NumSays.j1 k x0 x2 x9 bt160.1 bt160.2 true)))))))
def gristmilllaw2_NumSays.j1 : Nat → ByteArray → Int → Bool → Int → Bool → Bool → Option (Bool)
  | 0, _, _, _, _, _, _ => none
  | k + 1, x0, x2, x9, x20, x21, x97 => if x97 = true then (some false) else (if x9 = true then ((num_Text.f x2).bind fun t165 => ((gristmillref1_NumText.f x2).bind fun t166 => (if t165.toList = t166.toList then ((gristmillref1_Arity.f k x0).bind fun t167 => (if x20 = t167 then (if (x21 == (decide (x20 > 0))) = true then ((num_Floaty.f k x0).bind fun t168 => ((gristmillref1_Floaty.f k x0).bind fun t169 => (if (t168 == t169) = true then ((num_Prims.f).bind fun t170 => ((gristmillref1_Prims.f).bind fun t173 => ((gristmillref_SameTexts.f k t170 t173).bind fun t176 => (gristmilllaw2_NumSays.j2 k t176)))) else (gristmilllaw2_NumSays.j2 k false)))) else (gristmilllaw2_NumSays.j2 k false)) else (gristmilllaw2_NumSays.j2 k false))) else (gristmilllaw2_NumSays.j2 k false)))) else (gristmilllaw2_NumSays.j2 k false))
def gristmilllaw2_NumSays.j2 : Nat → Bool → Option (Bool)
  | 0, _ => none
  | k + 1, x8 => some x8
end
def gristmilllaw2_NumSays.f (k : Nat) (a0 : ByteArray) (a1 : ByteArray) (a2 : Int) (a3 : Int) : Option (Bool) := (gristmilllaw2_first.f k).bind fun t149 => (if t149 = true then (if (a1.size : Int) > 60 then (gristmilllaw2_NumSays.j0 k a0 a1 a2 a3 t149 true) else (gristmilllaw2_NumSays.j0 k a0 a1 a2 a3 t149 (decide ((a0.size : Int) > 60)))) else (some false))
theorem gristmilllaw2_NumSays.mono_l : ∀ k, (∀ y0 y1 y2 y3 y4 y5, LeO (gristmilllaw2_NumSays.j0 k y0 y1 y2 y3 y4 y5) (gristmilllaw2_NumSays.j0 (k + 1) y0 y1 y2 y3 y4 y5)) ∧ (∀ y0 y1 y2 y3 y4 y5, LeO (gristmilllaw2_NumSays.j1 k y0 y1 y2 y3 y4 y5) (gristmilllaw2_NumSays.j1 (k + 1) y0 y1 y2 y3 y4 y5)) ∧ (∀ y0, LeO (gristmilllaw2_NumSays.j2 k y0) (gristmilllaw2_NumSays.j2 (k + 1) y0))
  | 0 => ⟨fun _ _ _ _ _ _ r h => by simp [gristmilllaw2_NumSays.j0] at h, fun _ _ _ _ _ _ r h => by simp [gristmilllaw2_NumSays.j1] at h, fun _ r h => by simp [gristmilllaw2_NumSays.j2] at h⟩
  | k + 1 => by
    obtain ⟨ih0, ih1, ih2⟩ := gristmilllaw2_NumSays.mono_l k
    refine ⟨?_, ?_, ?_⟩
    · intro y0 y1 y2 y3 y4 y5
      unfold gristmilllaw2_NumSays.j0
      repeat' first
      | (with_reducible exact ih0 _ _ _ _ _ _)
      | (with_reducible exact ih1 _ _ _ _ _ _)
      | (with_reducible exact ih2 _)
      | (with_reducible exact gristmilllaw2_first.mono _)
      | (with_reducible exact gristmillref1_Arity.mono _ _)
      | (with_reducible exact gristmillref1_Floaty.mono _ _)
      | (with_reducible exact gristmillref1_NumParse.mono _ _)
      | (with_reducible exact gristmillref_SameTexts.mono _ _ _)
      | (with_reducible exact gristmillsee_Is.mono _ _ _)
      | (with_reducible exact num_Arity.mono _ _)
      | (with_reducible exact num_Do.mono _ _ _ _)
      | (with_reducible exact num_Floaty.mono _ _)
      | (with_reducible exact LeO.refl _)
      | (with_reducible exact LeO.none _)
      | (with_reducible refine LeO.ite ?_ ?_)
      | (with_reducible refine LeO.bind ?_ (fun _ => ?_))
      | exact ih0 _ _ _ _ _ _
      | exact ih1 _ _ _ _ _ _
      | exact ih2 _
      | exact gristmilllaw2_first.mono _
      | exact gristmillref1_Arity.mono _ _
      | exact gristmillref1_Floaty.mono _ _
      | exact gristmillref1_NumParse.mono _ _
      | exact gristmillref_SameTexts.mono _ _ _
      | exact gristmillsee_Is.mono _ _ _
      | exact num_Arity.mono _ _
      | exact num_Do.mono _ _ _ _
      | exact num_Floaty.mono _ _
      | exact LeO.none _
      | refine LeO.ite ?_ ?_
      | refine LeO.bind ?_ (fun _ => ?_)
    · intro y0 y1 y2 y3 y4 y5
      unfold gristmilllaw2_NumSays.j1
      repeat' first
      | (with_reducible exact ih0 _ _ _ _ _ _)
      | (with_reducible exact ih1 _ _ _ _ _ _)
      | (with_reducible exact ih2 _)
      | (with_reducible exact gristmilllaw2_first.mono _)
      | (with_reducible exact gristmillref1_Arity.mono _ _)
      | (with_reducible exact gristmillref1_Floaty.mono _ _)
      | (with_reducible exact gristmillref1_NumParse.mono _ _)
      | (with_reducible exact gristmillref_SameTexts.mono _ _ _)
      | (with_reducible exact gristmillsee_Is.mono _ _ _)
      | (with_reducible exact num_Arity.mono _ _)
      | (with_reducible exact num_Do.mono _ _ _ _)
      | (with_reducible exact num_Floaty.mono _ _)
      | (with_reducible exact LeO.refl _)
      | (with_reducible exact LeO.none _)
      | (with_reducible refine LeO.ite ?_ ?_)
      | (with_reducible refine LeO.bind ?_ (fun _ => ?_))
      | exact ih0 _ _ _ _ _ _
      | exact ih1 _ _ _ _ _ _
      | exact ih2 _
      | exact gristmilllaw2_first.mono _
      | exact gristmillref1_Arity.mono _ _
      | exact gristmillref1_Floaty.mono _ _
      | exact gristmillref1_NumParse.mono _ _
      | exact gristmillref_SameTexts.mono _ _ _
      | exact gristmillsee_Is.mono _ _ _
      | exact num_Arity.mono _ _
      | exact num_Do.mono _ _ _ _
      | exact num_Floaty.mono _ _
      | exact LeO.none _
      | refine LeO.ite ?_ ?_
      | refine LeO.bind ?_ (fun _ => ?_)
    · intro y0
      unfold gristmilllaw2_NumSays.j2
      repeat' first
      | (with_reducible exact ih0 _ _ _ _ _ _)
      | (with_reducible exact ih1 _ _ _ _ _ _)
      | (with_reducible exact ih2 _)
      | (with_reducible exact gristmilllaw2_first.mono _)
      | (with_reducible exact gristmillref1_Arity.mono _ _)
      | (with_reducible exact gristmillref1_Floaty.mono _ _)
      | (with_reducible exact gristmillref1_NumParse.mono _ _)
      | (with_reducible exact gristmillref_SameTexts.mono _ _ _)
      | (with_reducible exact gristmillsee_Is.mono _ _ _)
      | (with_reducible exact num_Arity.mono _ _)
      | (with_reducible exact num_Do.mono _ _ _ _)
      | (with_reducible exact num_Floaty.mono _ _)
      | (with_reducible exact LeO.refl _)
      | (with_reducible exact LeO.none _)
      | (with_reducible refine LeO.ite ?_ ?_)
      | (with_reducible refine LeO.bind ?_ (fun _ => ?_))
      | exact ih0 _ _ _ _ _ _
      | exact ih1 _ _ _ _ _ _
      | exact ih2 _
      | exact gristmilllaw2_first.mono _
      | exact gristmillref1_Arity.mono _ _
      | exact gristmillref1_Floaty.mono _ _
      | exact gristmillref1_NumParse.mono _ _
      | exact gristmillref_SameTexts.mono _ _ _
      | exact gristmillsee_Is.mono _ _ _
      | exact num_Arity.mono _ _
      | exact num_Do.mono _ _ _ _
      | exact num_Floaty.mono _ _
      | exact LeO.none _
      | refine LeO.ite ?_ ?_
      | refine LeO.bind ?_ (fun _ => ?_)
theorem gristmilllaw2_NumSays.mono : ∀ a0 a1 a2 a3 k, LeO (gristmilllaw2_NumSays.f k a0 a1 a2 a3) (gristmilllaw2_NumSays.f (k + 1) a0 a1 a2 a3) := by
  intro a0 a1 a2 a3 k
  obtain ⟨ih0, ih1, ih2⟩ := gristmilllaw2_NumSays.mono_l k
  unfold gristmilllaw2_NumSays.f
  repeat' first
      | (with_reducible exact ih0 _ _ _ _ _ _)
      | (with_reducible exact ih1 _ _ _ _ _ _)
      | (with_reducible exact ih2 _)
      | (with_reducible exact gristmilllaw2_first.mono _)
      | (with_reducible exact gristmillref1_Arity.mono _ _)
      | (with_reducible exact gristmillref1_Floaty.mono _ _)
      | (with_reducible exact gristmillref1_NumParse.mono _ _)
      | (with_reducible exact gristmillref_SameTexts.mono _ _ _)
      | (with_reducible exact gristmillsee_Is.mono _ _ _)
      | (with_reducible exact num_Arity.mono _ _)
      | (with_reducible exact num_Do.mono _ _ _ _)
      | (with_reducible exact num_Floaty.mono _ _)
      | (with_reducible exact LeO.refl _)
      | (with_reducible exact LeO.none _)
      | (with_reducible refine LeO.ite ?_ ?_)
      | (with_reducible refine LeO.bind ?_ (fun _ => ?_))
      | exact ih0 _ _ _ _ _ _
      | exact ih1 _ _ _ _ _ _
      | exact ih2 _
      | exact gristmilllaw2_first.mono _
      | exact gristmillref1_Arity.mono _ _
      | exact gristmillref1_Floaty.mono _ _
      | exact gristmillref1_NumParse.mono _ _
      | exact gristmillref_SameTexts.mono _ _ _
      | exact gristmillsee_Is.mono _ _ _
      | exact num_Arity.mono _ _
      | exact num_Do.mono _ _ _ _
      | exact num_Floaty.mono _ _
      | exact LeO.none _
      | refine LeO.ite ?_ ?_
      | refine LeO.bind ?_ (fun _ => ?_)
set_option maxHeartbeats 8000000 in
set_option maxRecDepth 100000 in
theorem gristmilllaw2_NumSays.calls (k : Nat) (a0 : ByteArray) (a1 : ByteArray) (a2 : Int) (a3 : Int) (r : Bool) (w : World) (hGG : GG ad w) (h : gristmilllaw2_NumSays.f k a0 a1 a2 a3 = some r) :
    Calls Tryd.prog 7 #[.string a0, .string a1, .int .i64 a2, .int .i64 a3] w fun e w' => e = .returned (.bool r) ∧ Below w.heap.size w w' := by
  have hu34 := Tryd.underlying34
  have HB := Aside0.mk (Below.refl w.heap.size w)
  have H : ((gristmilllaw2_first.f k).bind fun t149 => (if t149 = true then (if (a1.size : Int) > 60 then (gristmilllaw2_NumSays.j0 k a0 a1 a2 a3 t149 true) else (gristmilllaw2_NumSays.j0 k a0 a1 a2 a3 t149 (decide ((a0.size : Int) > 60)))) else (some false))) = some r := h
  clear h
  replace H := Option.bind_eq_some_iff.mp H
  obtain ⟨t149, A50, H⟩ := H
  replace H : (if t149 = true then (if (a1.size : Int) > 60 then (gristmilllaw2_NumSays.j0 k a0 a1 a2 a3 t149 true) else (gristmilllaw2_NumSays.j0 k a0 a1 a2 a3 t149 (decide ((a0.size : Int) > 60)))) else (some false)) = some r := H
  have A5 := Aside0.mk A50
  clear A50
  by_cases c6 : t149 = true
  · subst c6
    have H1 : (if (a1.size : Int) > 60 then (gristmilllaw2_NumSays.j0 k a0 a1 a2 a3 true true) else (gristmilllaw2_NumSays.j0 k a0 a1 a2 a3 true (decide ((a0.size : Int) > 60)))) = some r := by rw [if_pos rfl] at H; exact H
    clear H
    have H := H1
    clear H1
    have HC7 := Aside0.mk H
    clear H
    go_enter Tryd.func7, Tryd.ntmps7
    go_upto_region 4 with (first | ((with_reducible refine gate_callee (f := 8) rfl ?_); refine goesL_ (some 22) rfl rfl Tryd.func8 (by kernel_rfl) rfl #[] rfl (by (try simp only [List.map_toArray, List.map_cons, List.map_nil]); first | done | rfl | (simp only [List.length_drop, List.length_take]; rfl)) ?_; (with_reducible refine (gristmilllaw2_first.calls (ad := ad) k  true _ ?side1 A5.out).mono ?_); (case side1 => exact GG.below hGG (by repeat (first | (with_reducible first | exact HB.out | apply below_alloc | apply pw_below_drewN | apply below_drew1) | exact HB.out))); rintro e w8 ⟨rfl, hb⟩; refine ⟨_, rfl, ?_⟩; have n0_ := Aside0.mk (below_step (by repeat (first | (with_reducible first | exact HB.out | apply below_alloc | apply pw_below_drewN | apply below_drew1) | exact HB.out)) hb); clear HB; have HB := n0_; clear n0_; (try clear hb); (try clear hb2); (try clear hk); (try clear hi)))
    (try simp only [Act.put, List.setIfInBounds_toArray, List.set_cons_zero, List.set_cons_succ])
    go_cut [32] (fun v32 wc => ∃ (kq : Nat) (x32_6 : Bool), v32 = .bool x32_6 ∧ Aside0 (gristmilllaw2_NumSays.j0 kq a0 a1 a2 a3 true x32_6 = some r) ∧ Aside0 (kq ≤ k) ∧ Aside0 (Below w.heap.size w wc))
    case first => as_aux_lemma =>
      have H := HC7.out
      clear HC7
      by_cases c9 : (a1.size : Int) > 60
      · rw [if_pos c9] at H
        have c9b0 : decide (60 < (a1.size : Int)) = true := decide_eq_true c9
        have c9b1 : decide (60 < a1.size) = true := decide_eq_true (by omega)
        clear c9
        (first | rw [c9b0] | (simp only [i64_w, i32_w]; rw [c9b0]) | skip)
        have H' := Aside0.mk H
        clear H
        go_wp2
        go_meet
        case rel => exact ⟨_, (true), (by first | rfl | (simp; done) | (simp [*]; done)), H', ⟨by first | omega | exact Nat.le_refl _⟩, ⟨by repeat (first | (with_reducible first | exact HB.out | apply below_alloc | apply pw_below_drewN | apply below_drew1) | exact HB.out)⟩⟩
      · rw [if_neg c9] at H
        have c9b0 : decide (60 < (a1.size : Int)) = false := decide_eq_false c9
        have c9b1 : decide (60 < a1.size) = false := decide_eq_false (by omega)
        clear c9
        (first | rw [c9b0] | (simp only [i64_w, i32_w]; rw [c9b0]) | skip)
        have H' := Aside0.mk H
        clear H
        go_wp2
        go_meet
        case rel => exact ⟨_, (decide ((a0.size : Int) > 60)), (by first | rfl | (simp; done) | (simp [*]; done)), H', ⟨by first | omega | exact Nat.le_refl _⟩, ⟨by repeat (first | (with_reducible first | exact HB.out | apply below_alloc | apply pw_below_drewN | apply below_drew1) | exact HB.out)⟩⟩
    case rest =>
      clear HC7
      try clear p2
      try clear c6
      try clear c7
      try clear c8
      try clear c9
      try clear c9b0
      try clear c9b1
      obtain ⟨kq, x32_6, rfl, HA, HJ6, HB⟩ := hcut
      cases kq with
      | zero => exact absurd HA.out (by simp [gristmilllaw2_NumSays.j0])
      | succ kj6 =>
        have H := HA.out
        clear HA
        simp only [gristmilllaw2_NumSays.j0] at H
        by_cases c10 : x32_6 = true
        · subst c10
          have H1 : (some true) = some r := by rw [if_pos rfl] at H; exact H
          clear H
          have H := H1
          clear H1
          obtain rfl := Option.some.inj H
          go_wp2
          go_ret
          exact ⟨by first | rfl | (simp [errW_none, errW_some] <;> rfl) | (simp [*, errW_none, errW_some] <;> rfl) | (simp [errW_none, errW_some] <;> (rw [Bool.eq_iff_iff]; simp; done)), by repeat (first | (with_reducible first | exact HB.out | apply below_alloc | apply pw_below_drewN | apply below_drew1) | exact HB.out)⟩
        · replace c10 := Bool.eq_false_iff.mpr c10
          subst c10
          have H1 : ((num_Do.f kj6 a0 a2 a3).bind fun bt150 => ((gristmillref1_NumDo.f a0 a2 a3).bind fun bt153 => ((num_Parse.f a1).bind fun bt156 => ((gristmillref1_NumParse.f kj6 a1).bind fun bt158 => ((num_Arity.f kj6 a0).bind fun bt160 => (if bt150.1 = bt153.1 then (if bt150.2.1 = bt153.2.1 then (if (bt150.2.2 != bt153.2.2) = true then (gristmilllaw2_NumSays.j1 kj6 a0 a2 true bt160.1 bt160.2 true) else (if bt156.1 = bt158.1 then (if bt156.2.isNone = true then (if (true != bt158.2) = true then (gristmilllaw2_NumSays.j1 kj6 a0 a2 true bt160.1 bt160.2 true) else (if bt158.2 = true then (gristmilllaw2_NumSays.j1 kj6 a0 a2 true bt160.1 bt160.2 false) else ((gristmillsee_Is.f kj6 none 118).bind fun t163 => (gristmilllaw2_NumSays.j1 kj6 a0 a2 true bt160.1 bt160.2 (!t163))))) else (if (false != bt158.2) = true then (gristmilllaw2_NumSays.j1 kj6 a0 a2 true bt160.1 bt160.2 true) else (if bt158.2 = true then (gristmilllaw2_NumSays.j1 kj6 a0 a2 true bt160.1 bt160.2 false) else ((gristmillsee_Is.f kj6 (some (bt156.2.getD 0)) 118).bind fun t164 => (gristmilllaw2_NumSays.j1 kj6 a0 a2 true bt160.1 bt160.2 (!t164)))))) else (gristmilllaw2_NumSays.j1 kj6 a0 a2 true bt160.1 bt160.2 true))) else (gristmilllaw2_NumSays.j1 kj6 a0 a2 true bt160.1 bt160.2 true)) else (gristmilllaw2_NumSays.j1 kj6 a0 a2 true bt160.1 bt160.2 true))))))) = some r := by rw [if_neg (show ¬ (false = true) by decide)] at H; exact H
          clear H
          have H := H1
          clear H1
          replace H := Option.bind_eq_some_iff.mp H
          obtain ⟨⟨t150, t151, t152⟩, A110, H⟩ := H
          replace H : ((gristmillref1_NumDo.f a0 a2 a3).bind fun bt153 => ((num_Parse.f a1).bind fun bt156 => ((gristmillref1_NumParse.f kj6 a1).bind fun bt158 => ((num_Arity.f kj6 a0).bind fun bt160 => (if t150 = bt153.1 then (if t151 = bt153.2.1 then (if (t152 != bt153.2.2) = true then (gristmilllaw2_NumSays.j1 kj6 a0 a2 true bt160.1 bt160.2 true) else (if bt156.1 = bt158.1 then (if bt156.2.isNone = true then (if (true != bt158.2) = true then (gristmilllaw2_NumSays.j1 kj6 a0 a2 true bt160.1 bt160.2 true) else (if bt158.2 = true then (gristmilllaw2_NumSays.j1 kj6 a0 a2 true bt160.1 bt160.2 false) else ((gristmillsee_Is.f kj6 none 118).bind fun t163 => (gristmilllaw2_NumSays.j1 kj6 a0 a2 true bt160.1 bt160.2 (!t163))))) else (if (false != bt158.2) = true then (gristmilllaw2_NumSays.j1 kj6 a0 a2 true bt160.1 bt160.2 true) else (if bt158.2 = true then (gristmilllaw2_NumSays.j1 kj6 a0 a2 true bt160.1 bt160.2 false) else ((gristmillsee_Is.f kj6 (some (bt156.2.getD 0)) 118).bind fun t164 => (gristmilllaw2_NumSays.j1 kj6 a0 a2 true bt160.1 bt160.2 (!t164)))))) else (gristmilllaw2_NumSays.j1 kj6 a0 a2 true bt160.1 bt160.2 true))) else (gristmilllaw2_NumSays.j1 kj6 a0 a2 true bt160.1 bt160.2 true)) else (gristmilllaw2_NumSays.j1 kj6 a0 a2 true bt160.1 bt160.2 true)))))) = some r := H
          have A11 := Aside0.mk A110
          clear A110
          replace H := Option.bind_eq_some_iff.mp H
          obtain ⟨⟨t153, t154, t155⟩, A120, H⟩ := H
          replace H : ((num_Parse.f a1).bind fun bt156 => ((gristmillref1_NumParse.f kj6 a1).bind fun bt158 => ((num_Arity.f kj6 a0).bind fun bt160 => (if t150 = t153 then (if t151 = t154 then (if (t152 != t155) = true then (gristmilllaw2_NumSays.j1 kj6 a0 a2 true bt160.1 bt160.2 true) else (if bt156.1 = bt158.1 then (if bt156.2.isNone = true then (if (true != bt158.2) = true then (gristmilllaw2_NumSays.j1 kj6 a0 a2 true bt160.1 bt160.2 true) else (if bt158.2 = true then (gristmilllaw2_NumSays.j1 kj6 a0 a2 true bt160.1 bt160.2 false) else ((gristmillsee_Is.f kj6 none 118).bind fun t163 => (gristmilllaw2_NumSays.j1 kj6 a0 a2 true bt160.1 bt160.2 (!t163))))) else (if (false != bt158.2) = true then (gristmilllaw2_NumSays.j1 kj6 a0 a2 true bt160.1 bt160.2 true) else (if bt158.2 = true then (gristmilllaw2_NumSays.j1 kj6 a0 a2 true bt160.1 bt160.2 false) else ((gristmillsee_Is.f kj6 (some (bt156.2.getD 0)) 118).bind fun t164 => (gristmilllaw2_NumSays.j1 kj6 a0 a2 true bt160.1 bt160.2 (!t164)))))) else (gristmilllaw2_NumSays.j1 kj6 a0 a2 true bt160.1 bt160.2 true))) else (gristmilllaw2_NumSays.j1 kj6 a0 a2 true bt160.1 bt160.2 true)) else (gristmilllaw2_NumSays.j1 kj6 a0 a2 true bt160.1 bt160.2 true))))) = some r := H
          have A12 := Aside0.mk A120
          clear A120
          replace H := Option.bind_eq_some_iff.mp H
          obtain ⟨⟨t156, t157⟩, A130, H⟩ := H
          replace H : ((gristmillref1_NumParse.f kj6 a1).bind fun bt158 => ((num_Arity.f kj6 a0).bind fun bt160 => (if t150 = t153 then (if t151 = t154 then (if (t152 != t155) = true then (gristmilllaw2_NumSays.j1 kj6 a0 a2 true bt160.1 bt160.2 true) else (if t156 = bt158.1 then (if t157.isNone = true then (if (true != bt158.2) = true then (gristmilllaw2_NumSays.j1 kj6 a0 a2 true bt160.1 bt160.2 true) else (if bt158.2 = true then (gristmilllaw2_NumSays.j1 kj6 a0 a2 true bt160.1 bt160.2 false) else ((gristmillsee_Is.f kj6 none 118).bind fun t163 => (gristmilllaw2_NumSays.j1 kj6 a0 a2 true bt160.1 bt160.2 (!t163))))) else (if (false != bt158.2) = true then (gristmilllaw2_NumSays.j1 kj6 a0 a2 true bt160.1 bt160.2 true) else (if bt158.2 = true then (gristmilllaw2_NumSays.j1 kj6 a0 a2 true bt160.1 bt160.2 false) else ((gristmillsee_Is.f kj6 (some (t157.getD 0)) 118).bind fun t164 => (gristmilllaw2_NumSays.j1 kj6 a0 a2 true bt160.1 bt160.2 (!t164)))))) else (gristmilllaw2_NumSays.j1 kj6 a0 a2 true bt160.1 bt160.2 true))) else (gristmilllaw2_NumSays.j1 kj6 a0 a2 true bt160.1 bt160.2 true)) else (gristmilllaw2_NumSays.j1 kj6 a0 a2 true bt160.1 bt160.2 true)))) = some r := H
          have A13 := Aside0.mk A130
          clear A130
          replace H := Option.bind_eq_some_iff.mp H
          obtain ⟨⟨t158, t159⟩, A140, H⟩ := H
          replace H : ((num_Arity.f kj6 a0).bind fun bt160 => (if t150 = t153 then (if t151 = t154 then (if (t152 != t155) = true then (gristmilllaw2_NumSays.j1 kj6 a0 a2 true bt160.1 bt160.2 true) else (if t156 = t158 then (if t157.isNone = true then (if (true != t159) = true then (gristmilllaw2_NumSays.j1 kj6 a0 a2 true bt160.1 bt160.2 true) else (if t159 = true then (gristmilllaw2_NumSays.j1 kj6 a0 a2 true bt160.1 bt160.2 false) else ((gristmillsee_Is.f kj6 none 118).bind fun t163 => (gristmilllaw2_NumSays.j1 kj6 a0 a2 true bt160.1 bt160.2 (!t163))))) else (if (false != t159) = true then (gristmilllaw2_NumSays.j1 kj6 a0 a2 true bt160.1 bt160.2 true) else (if t159 = true then (gristmilllaw2_NumSays.j1 kj6 a0 a2 true bt160.1 bt160.2 false) else ((gristmillsee_Is.f kj6 (some (t157.getD 0)) 118).bind fun t164 => (gristmilllaw2_NumSays.j1 kj6 a0 a2 true bt160.1 bt160.2 (!t164)))))) else (gristmilllaw2_NumSays.j1 kj6 a0 a2 true bt160.1 bt160.2 true))) else (gristmilllaw2_NumSays.j1 kj6 a0 a2 true bt160.1 bt160.2 true)) else (gristmilllaw2_NumSays.j1 kj6 a0 a2 true bt160.1 bt160.2 true))) = some r := H
          have A14 := Aside0.mk A140
          clear A140
          replace H := Option.bind_eq_some_iff.mp H
          obtain ⟨⟨t160, t161⟩, A150, H⟩ := H
          replace H : (if t150 = t153 then (if t151 = t154 then (if (t152 != t155) = true then (gristmilllaw2_NumSays.j1 kj6 a0 a2 true t160 t161 true) else (if t156 = t158 then (if t157.isNone = true then (if (true != t159) = true then (gristmilllaw2_NumSays.j1 kj6 a0 a2 true t160 t161 true) else (if t159 = true then (gristmilllaw2_NumSays.j1 kj6 a0 a2 true t160 t161 false) else ((gristmillsee_Is.f kj6 none 118).bind fun t163 => (gristmilllaw2_NumSays.j1 kj6 a0 a2 true t160 t161 (!t163))))) else (if (false != t159) = true then (gristmilllaw2_NumSays.j1 kj6 a0 a2 true t160 t161 true) else (if t159 = true then (gristmilllaw2_NumSays.j1 kj6 a0 a2 true t160 t161 false) else ((gristmillsee_Is.f kj6 (some (t157.getD 0)) 118).bind fun t164 => (gristmilllaw2_NumSays.j1 kj6 a0 a2 true t160 t161 (!t164)))))) else (gristmilllaw2_NumSays.j1 kj6 a0 a2 true t160 t161 true))) else (gristmilllaw2_NumSays.j1 kj6 a0 a2 true t160 t161 true)) else (gristmilllaw2_NumSays.j1 kj6 a0 a2 true t160 t161 true)) = some r := H
          have A15 := Aside0.mk A150
          clear A150
          have HC16 := Aside0.mk H
          clear H
          go_upto_region 11 with (first | ((with_reducible refine gate_callee (f := 9) rfl ?_); refine goesL_ (some 38) rfl rfl Tryd.func9 (by kernel_rfl) rfl #[.string a0, .int .i64 a2, .int .i64 a3] rfl (by (try simp only [List.map_toArray, List.map_cons, List.map_nil]); first | done | rfl | (simp only [List.length_drop, List.length_take]; rfl)) ?_; (with_reducible refine (num_Do.calls kj6 a0 a2 a3 t150 t151 t152 _ A11.out).mono ?_); rintro e w17 ⟨rfl, hb⟩; refine ⟨_, rfl, ?_⟩; have n0_ := Aside0.mk (below_step (by repeat (first | (with_reducible first | exact HB.out | apply below_alloc | apply pw_below_drewN | apply below_drew1) | exact HB.out)) hb); clear HB; have HB := n0_; clear n0_; (try clear hb); (try clear hb2); (try clear hk); (try clear hi)) | ((with_reducible refine gate_callee (f := 16) rfl ?_); refine goesL_ (some 46) rfl rfl Tryd.func16 (by kernel_rfl) rfl #[.string a0, .int .i64 a2, .int .i64 a3] rfl (by (try simp only [List.map_toArray, List.map_cons, List.map_nil]); first | done | rfl | (simp only [List.length_drop, List.length_take]; rfl)) ?_; (with_reducible refine (gristmillref1_NumDo.calls a0 a2 a3 t153 t154 t155 _ A12.out).mono ?_); rintro e w' ⟨rfl, ⟨nd, rfl⟩⟩; refine ⟨_, rfl, ?_⟩) | ((with_reducible refine gate_callee (f := 14) rfl ?_); refine goesL_ (some 52) rfl rfl Tryd.func14 (by kernel_rfl) rfl #[.string a1] rfl (by (try simp only [List.map_toArray, List.map_cons, List.map_nil]); first | done | rfl | (simp only [List.length_drop, List.length_take]; rfl)) ?_; (with_reducible refine (num_Parse.calls (ad := ad) a1 t156 t157 _ ?side1 A13.out).mono ?_); (case side1 => exact GG.below hGG (by repeat (first | (with_reducible first | exact HB.out | apply below_alloc | apply pw_below_drewN | apply below_drew1) | exact HB.out))); rintro e w18 ⟨rfl, hb⟩; refine ⟨_, rfl, ?_⟩; have n0_ := Aside0.mk (below_step (by repeat (first | (with_reducible first | exact HB.out | apply below_alloc | apply pw_below_drewN | apply below_drew1) | exact HB.out)) hb); clear HB; have HB := n0_; clear n0_; (try clear hb); (try clear hb2); (try clear hk); (try clear hi); (try simp only [errW_none, errW_some])) | ((with_reducible refine gate_callee (f := 17) rfl ?_); refine goesL_ (some 57) rfl rfl Tryd.func17 (by kernel_rfl) rfl #[.string a1] rfl (by (try simp only [List.map_toArray, List.map_cons, List.map_nil]); first | done | rfl | (simp only [List.length_drop, List.length_take]; rfl)) ?_; (with_reducible refine (gristmillref1_NumParse.calls kj6 a1 t158 t159 _ A14.out).mono ?_); rintro e w' ⟨rfl, ⟨nd, rfl⟩⟩; refine ⟨_, rfl, ?_⟩) | ((with_reducible refine gate_callee (f := 11) rfl ?_); refine goesL_ (some 62) rfl rfl Tryd.func11 (by kernel_rfl) rfl #[.string a0] rfl (by (try simp only [List.map_toArray, List.map_cons, List.map_nil]); first | done | rfl | (simp only [List.length_drop, List.length_take]; rfl)) ?_; (with_reducible refine (num_Arity.calls kj6 a0 t160 t161 _ A15.out).mono ?_); rintro e w19 ⟨rfl, hb⟩; refine ⟨_, rfl, ?_⟩; have n0_ := Aside0.mk (below_step (by repeat (first | (with_reducible first | exact HB.out | apply below_alloc | apply pw_below_drewN | apply below_drew1) | exact HB.out)) hb); clear HB; have HB := n0_; clear n0_; (try clear hb); (try clear hb2); (try clear hk); (try clear hi)))
          (try simp only [Act.put, List.setIfInBounds_toArray, List.set_cons_zero, List.set_cons_succ])
          go_cut [97] (fun v97 wc => ∃ (kq : Nat) (x97_15 : Bool), v97 = .bool x97_15 ∧ Aside0 (gristmilllaw2_NumSays.j1 kq a0 a2 true t160 t161 x97_15 = some r) ∧ Aside0 (kq ≤ kj6) ∧ Aside0 (Below w.heap.size w wc))
          case first => as_aux_lemma =>
            have H := HC16.out
            clear HC16
            by_cases c20 : t150 = t153
            · rw [if_pos c20] at H
              have c20b0 : (t150 == t153) = true := beq_iff_eq.mpr c20
              have c20b1 : (t150 != t153) = false := bne_eq_false_iff_eq.mpr c20
              clear c20
              (first | rw [c20b0] | (simp only [i64_w, i32_w]; rw [c20b0]) | skip)
              by_cases c21 : t151 = t154
              · rw [if_pos c21] at H
                have c21b0 : (t151 == t154) = true := beq_iff_eq.mpr c21
                have c21b1 : (t151 != t154) = false := bne_eq_false_iff_eq.mpr c21
                clear c21
                by_cases c22 : (t152 != t155) = true
                · rw [if_pos c22] at H
                  have c22b0 : (t152 != t155) = true := c22
                  (try (have c22b1 : decide (t152 = t155) = false := by simpa using c22))
                  (try (have c22b2 : (t152 == t155) = false := by simpa using c22))
                  (try (have c22b3 : ¬ (t152 = t155) := by simpa using c22))
                  clear c22
                  have H' := Aside0.mk H
                  clear H
                  go_wp2
                  go_meet
                  case rel => exact ⟨_, (true), (by first | rfl | (simp; done) | (simp [*]; done)), H', ⟨by have := HJ6.out; first | omega | exact Nat.le_refl _⟩, ⟨by repeat (first | (with_reducible first | exact HB.out | apply below_alloc | apply pw_below_drewN | apply below_drew1) | exact HB.out)⟩⟩
                · rw [if_neg c22] at H
                  have c22b0 : (t152 != t155) = false := by simpa using c22
                  (try (have c22b1 : decide (t152 = t155) = true := by simpa using c22))
                  (try (have c22b2 : (t152 == t155) = true := by simpa using c22))
                  clear c22
                  by_cases c23 : t156 = t158
                  · rw [if_pos c23] at H
                    have c23b0 : (t156 == t158) = true := beq_iff_eq.mpr c23
                    have c23b1 : (t156 != t158) = false := bne_eq_false_iff_eq.mpr c23
                    clear c23
                    rcases t157 with _ | q162
                    · have H1 : (if (true != t159) = true then (gristmilllaw2_NumSays.j1 kj6 a0 a2 true t160 t161 true) else (if t159 = true then (gristmilllaw2_NumSays.j1 kj6 a0 a2 true t160 t161 false) else ((gristmillsee_Is.f kj6 none 118).bind fun t163 => (gristmilllaw2_NumSays.j1 kj6 a0 a2 true t160 t161 (!t163))))) = some r := by rw [if_pos (show (none : Option Int).isNone = true by rfl)] at H; exact H
                      clear H
                      have H := H1
                      clear H1
                      try simp only [errW_none, errW_some]
                      by_cases c24 : (true != t159) = true
                      · rw [if_pos c24] at H
                        have c24b0 : (true != t159) = true := c24
                        (try (have c24b1 : decide (true = t159) = false := by simpa using c24))
                        (try (have c24b2 : (true == t159) = false := by simpa using c24))
                        (try (have c24b3 : ¬ (true = t159) := by simpa using c24))
                        clear c24
                        have H' := Aside0.mk H
                        clear H
                        go_wp2
                        go_meet
                        case rel => exact ⟨_, (true), (by first | rfl | (simp; done) | (simp [*]; done)), H', ⟨by have := HJ6.out; first | omega | exact Nat.le_refl _⟩, ⟨by repeat (first | (with_reducible first | exact HB.out | apply below_alloc | apply pw_below_drewN | apply below_drew1) | exact HB.out)⟩⟩
                      · rw [if_neg c24] at H
                        have c24b0 : (true != t159) = false := by simpa using c24
                        (try (have c24b1 : decide (true = t159) = true := by simpa using c24))
                        (try (have c24b2 : (true == t159) = true := by simpa using c24))
                        clear c24
                        by_cases c25 : t159 = true
                        · subst c25
                          have H1 : (gristmilllaw2_NumSays.j1 kj6 a0 a2 true t160 t161 false) = some r := by rw [if_pos rfl] at H; exact H
                          clear H
                          have H := H1
                          clear H1
                          have H' := Aside0.mk H
                          clear H
                          go_wp2
                          go_meet
                          case rel => exact ⟨_, (false), (by first | rfl | (simp; done) | (simp [*]; done)), H', ⟨by have := HJ6.out; first | omega | exact Nat.le_refl _⟩, ⟨by repeat (first | (with_reducible first | exact HB.out | apply below_alloc | apply pw_below_drewN | apply below_drew1) | exact HB.out)⟩⟩
                        · replace c25 := Bool.eq_false_iff.mpr c25
                          subst c25
                          have H1 : ((gristmillsee_Is.f kj6 none 118).bind fun t163 => (gristmilllaw2_NumSays.j1 kj6 a0 a2 true t160 t161 (!t163))) = some r := by rw [if_neg (show ¬ (false = true) by decide)] at H; exact H
                          clear H
                          have H := H1
                          clear H1
                          replace H := Option.bind_eq_some_iff.mp H
                          obtain ⟨t163, A260, H⟩ := H
                          replace H : (gristmilllaw2_NumSays.j1 kj6 a0 a2 true t160 t161 (!t163)) = some r := H
                          have A26 := Aside0.mk A260
                          clear A260
                          have H' := Aside0.mk H
                          clear H
                          have CA26 := fun W (hG : GG ad W) => gristmillsee_Is.calls kj6 none 118 t163 W hG A26.out
                          try simp only [errW_none, errW_some] at CA26
                          go_wp2_with (first | (go_at_call 18; (with_reducible refine (CA26 _ ?side1).mono ?_); (case side1 => exact GG.below hGG (by repeat (first | (with_reducible first | exact HB.out | apply below_alloc | apply pw_below_drewN | apply below_drew1) | exact HB.out))); rintro e w27 ⟨rfl, hb⟩; have n0_ := Aside0.mk (below_step (by repeat (first | (with_reducible first | exact HB.out | apply below_alloc | apply pw_below_drewN | apply below_drew1) | exact HB.out)) hb); clear HB; have HB := n0_; clear n0_; (try clear hb); (try clear hb2); (try clear hk); (try clear hi)))
                          go_meet
                          case rel => exact ⟨_, (!t163), (by first | rfl | (simp; done) | (simp [*]; done)), H', ⟨by have := HJ6.out; first | omega | exact Nat.le_refl _⟩, ⟨by repeat (first | (with_reducible first | exact HB.out | apply below_alloc | apply pw_below_drewN | apply below_drew1) | exact HB.out)⟩⟩
                    · have H1 : (if (false != t159) = true then (gristmilllaw2_NumSays.j1 kj6 a0 a2 true t160 t161 true) else (if t159 = true then (gristmilllaw2_NumSays.j1 kj6 a0 a2 true t160 t161 false) else ((gristmillsee_Is.f kj6 (some q162) 118).bind fun t164 => (gristmilllaw2_NumSays.j1 kj6 a0 a2 true t160 t161 (!t164))))) = some r := by rw [if_neg (show ¬ (some q162).isNone = true by simp)] at H; exact H
                      clear H
                      have H := H1
                      clear H1
                      try simp only [errW_none, errW_some]
                      by_cases c28 : (false != t159) = true
                      · rw [if_pos c28] at H
                        have c28b0 : (false != t159) = true := c28
                        (try (have c28b1 : decide (false = t159) = false := by simpa using c28))
                        (try (have c28b2 : (false == t159) = false := by simpa using c28))
                        (try (have c28b3 : ¬ (false = t159) := by simpa using c28))
                        clear c28
                        have H' := Aside0.mk H
                        clear H
                        go_wp2
                        go_meet
                        case rel => exact ⟨_, (true), (by first | rfl | (simp; done) | (simp [*]; done)), H', ⟨by have := HJ6.out; first | omega | exact Nat.le_refl _⟩, ⟨by repeat (first | (with_reducible first | exact HB.out | apply below_alloc | apply pw_below_drewN | apply below_drew1) | exact HB.out)⟩⟩
                      · rw [if_neg c28] at H
                        have c28b0 : (false != t159) = false := by simpa using c28
                        (try (have c28b1 : decide (false = t159) = true := by simpa using c28))
                        (try (have c28b2 : (false == t159) = true := by simpa using c28))
                        clear c28
                        by_cases c29 : t159 = true
                        · subst c29
                          have H1 : (gristmilllaw2_NumSays.j1 kj6 a0 a2 true t160 t161 false) = some r := by rw [if_pos rfl] at H; exact H
                          clear H
                          have H := H1
                          clear H1
                          have H' := Aside0.mk H
                          clear H
                          go_wp2
                          go_meet
                          case rel => exact ⟨_, (false), (by first | rfl | (simp; done) | (simp [*]; done)), H', ⟨by have := HJ6.out; first | omega | exact Nat.le_refl _⟩, ⟨by repeat (first | (with_reducible first | exact HB.out | apply below_alloc | apply pw_below_drewN | apply below_drew1) | exact HB.out)⟩⟩
                        · replace c29 := Bool.eq_false_iff.mpr c29
                          subst c29
                          have H1 : ((gristmillsee_Is.f kj6 (some q162) 118).bind fun t164 => (gristmilllaw2_NumSays.j1 kj6 a0 a2 true t160 t161 (!t164))) = some r := by rw [if_neg (show ¬ (false = true) by decide)] at H; exact H
                          clear H
                          have H := H1
                          clear H1
                          replace H := Option.bind_eq_some_iff.mp H
                          obtain ⟨t164, A300, H⟩ := H
                          replace H : (gristmilllaw2_NumSays.j1 kj6 a0 a2 true t160 t161 (!t164)) = some r := H
                          have A30 := Aside0.mk A300
                          clear A300
                          have H' := Aside0.mk H
                          clear H
                          have CA30 := fun W (hG : GG ad W) => gristmillsee_Is.calls kj6 (some q162) 118 t164 W hG A30.out
                          try simp only [errW_none, errW_some] at CA30
                          go_wp2_with (first | (go_at_call 18; (with_reducible refine (CA30 _ ?side1).mono ?_); (case side1 => exact GG.below hGG (by repeat (first | (with_reducible first | exact HB.out | apply below_alloc | apply pw_below_drewN | apply below_drew1) | exact HB.out))); rintro e w31 ⟨rfl, hb⟩; have n0_ := Aside0.mk (below_step (by repeat (first | (with_reducible first | exact HB.out | apply below_alloc | apply pw_below_drewN | apply below_drew1) | exact HB.out)) hb); clear HB; have HB := n0_; clear n0_; (try clear hb); (try clear hb2); (try clear hk); (try clear hi)))
                          go_meet
                          case rel => exact ⟨_, (!t164), (by first | rfl | (simp; done) | (simp [*]; done)), H', ⟨by have := HJ6.out; first | omega | exact Nat.le_refl _⟩, ⟨by repeat (first | (with_reducible first | exact HB.out | apply below_alloc | apply pw_below_drewN | apply below_drew1) | exact HB.out)⟩⟩
                  · rw [if_neg c23] at H
                    have c23b0 : (t156 == t158) = false := beq_eq_false_iff_ne.mpr c23
                    have c23b1 : (t156 != t158) = true := bne_iff_ne.mpr c23
                    have H' := Aside0.mk H
                    clear H
                    go_wp2
                    go_meet
                    case rel => exact ⟨_, (true), (by first | rfl | (simp; done) | (simp [*]; done)), H', ⟨by have := HJ6.out; first | omega | exact Nat.le_refl _⟩, ⟨by repeat (first | (with_reducible first | exact HB.out | apply below_alloc | apply pw_below_drewN | apply below_drew1) | exact HB.out)⟩⟩
              · rw [if_neg c21] at H
                have c21b0 : (t151 == t154) = false := beq_eq_false_iff_ne.mpr c21
                have c21b1 : (t151 != t154) = true := bne_iff_ne.mpr c21
                have H' := Aside0.mk H
                clear H
                go_wp2
                go_meet
                case rel => exact ⟨_, (true), (by first | rfl | (simp; done) | (simp [*]; done)), H', ⟨by have := HJ6.out; first | omega | exact Nat.le_refl _⟩, ⟨by repeat (first | (with_reducible first | exact HB.out | apply below_alloc | apply pw_below_drewN | apply below_drew1) | exact HB.out)⟩⟩
            · rw [if_neg c20] at H
              have c20b0 : (t150 == t153) = false := beq_eq_false_iff_ne.mpr c20
              have c20b1 : (t150 != t153) = true := bne_iff_ne.mpr c20
              (first | rw [c20b0] | (simp only [i64_w, i32_w]; rw [c20b0]) | skip)
              have H' := Aside0.mk H
              clear H
              go_wp2
              go_meet
              case rel => exact ⟨_, (true), (by first | rfl | (simp; done) | (simp [*]; done)), H', ⟨by have := HJ6.out; first | omega | exact Nat.le_refl _⟩, ⟨by repeat (first | (with_reducible first | exact HB.out | apply below_alloc | apply pw_below_drewN | apply below_drew1) | exact HB.out)⟩⟩
          case rest =>
            clear HC16
            try clear c1
            try clear q1
            try clear c2
            try clear p2
            try clear c6
            try clear c7
            try clear c8
            try clear c9
            try clear c9b0
            try clear c9b1
            try clear c10
            try clear c11
            try clear c14
            try clear c16
            try clear q16
            try clear c17
            try clear c20
            try clear c20b0
            try clear c20b1
            try clear c21
            try clear c21b0
            try clear c21b1
            try clear c22
            try clear c22b0
            try clear c22b1
            try clear c22b2
            try clear c23
            try clear c23b0
            try clear c23b1
            try clear c24
            try clear c24b0
            try clear c24b1
            try clear c24b2
            try clear c25
            try clear c28
            try clear c28b0
            try clear c28b1
            try clear c28b2
            try clear c29
            try clear p2
            try clear q162
            obtain ⟨kq, x97_15, rfl, HA, HJ15, HB⟩ := hcut
            cases kq with
            | zero => exact absurd HA.out (by simp [gristmilllaw2_NumSays.j1])
            | succ kj15 =>
              have H := HA.out
              clear HA
              simp only [gristmilllaw2_NumSays.j1] at H
              by_cases c32 : x97_15 = true
              · subst c32
                have H1 : (some false) = some r := by rw [if_pos rfl] at H; exact H
                clear H
                have H := H1
                clear H1
                obtain rfl := Option.some.inj H
                go_wp2
                go_ret
                exact ⟨by first | rfl | (simp [errW_none, errW_some] <;> rfl) | (simp [*, errW_none, errW_some] <;> rfl) | (simp [errW_none, errW_some] <;> (rw [Bool.eq_iff_iff]; simp; done)), by repeat (first | (with_reducible first | exact HB.out | apply below_alloc | apply pw_below_drewN | apply below_drew1) | exact HB.out)⟩
              · replace c32 := Bool.eq_false_iff.mpr c32
                subst c32
                have H1 : (if true = true then ((num_Text.f a2).bind fun t165 => ((gristmillref1_NumText.f a2).bind fun t166 => (if t165.toList = t166.toList then ((gristmillref1_Arity.f kj15 a0).bind fun t167 => (if t160 = t167 then (if (t161 == (decide (t160 > 0))) = true then ((num_Floaty.f kj15 a0).bind fun t168 => ((gristmillref1_Floaty.f kj15 a0).bind fun t169 => (if (t168 == t169) = true then ((num_Prims.f).bind fun t170 => ((gristmillref1_Prims.f).bind fun t173 => ((gristmillref_SameTexts.f kj15 t170 t173).bind fun t176 => (gristmilllaw2_NumSays.j2 kj15 t176)))) else (gristmilllaw2_NumSays.j2 kj15 false)))) else (gristmilllaw2_NumSays.j2 kj15 false)) else (gristmilllaw2_NumSays.j2 kj15 false))) else (gristmilllaw2_NumSays.j2 kj15 false)))) else (gristmilllaw2_NumSays.j2 kj15 false)) = some r := by rw [if_neg (show ¬ (false = true) by decide)] at H; exact H
                clear H
                have H := H1
                clear H1
                have HC33 := Aside0.mk H
                clear H
                go_upto_region 13 with (fail)
                go_cut [8] (fun v8 wc => ∃ (kq : Nat) (x8_32 : Bool), v8 = .bool x8_32 ∧ Aside0 (gristmilllaw2_NumSays.j2 kq x8_32 = some r) ∧ Aside0 (kq ≤ kj15) ∧ Aside0 (Below w.heap.size w wc))
                case first => as_aux_lemma =>
                  have H := HC33.out
                  clear HC33
                  have H1 : ((num_Text.f a2).bind fun t165 => ((gristmillref1_NumText.f a2).bind fun t166 => (if t165.toList = t166.toList then ((gristmillref1_Arity.f kj15 a0).bind fun t167 => (if t160 = t167 then (if (t161 == (decide (t160 > 0))) = true then ((num_Floaty.f kj15 a0).bind fun t168 => ((gristmillref1_Floaty.f kj15 a0).bind fun t169 => (if (t168 == t169) = true then ((num_Prims.f).bind fun t170 => ((gristmillref1_Prims.f).bind fun t173 => ((gristmillref_SameTexts.f kj15 t170 t173).bind fun t176 => (gristmilllaw2_NumSays.j2 kj15 t176)))) else (gristmilllaw2_NumSays.j2 kj15 false)))) else (gristmilllaw2_NumSays.j2 kj15 false)) else (gristmilllaw2_NumSays.j2 kj15 false))) else (gristmilllaw2_NumSays.j2 kj15 false)))) = some r := by first | exact H | (rw [if_pos rfl] at H; exact H)
                  clear H
                  have H := H1
                  clear H1
                  replace H := Option.bind_eq_some_iff.mp H
                  obtain ⟨t165, A340, H⟩ := H
                  replace H : ((gristmillref1_NumText.f a2).bind fun t166 => (if t165.toList = t166.toList then ((gristmillref1_Arity.f kj15 a0).bind fun t167 => (if t160 = t167 then (if (t161 == (decide (t160 > 0))) = true then ((num_Floaty.f kj15 a0).bind fun t168 => ((gristmillref1_Floaty.f kj15 a0).bind fun t169 => (if (t168 == t169) = true then ((num_Prims.f).bind fun t170 => ((gristmillref1_Prims.f).bind fun t173 => ((gristmillref_SameTexts.f kj15 t170 t173).bind fun t176 => (gristmilllaw2_NumSays.j2 kj15 t176)))) else (gristmilllaw2_NumSays.j2 kj15 false)))) else (gristmilllaw2_NumSays.j2 kj15 false)) else (gristmilllaw2_NumSays.j2 kj15 false))) else (gristmilllaw2_NumSays.j2 kj15 false))) = some r := H
                  have A34 := Aside0.mk A340
                  clear A340
                  replace H := Option.bind_eq_some_iff.mp H
                  obtain ⟨t166, A350, H⟩ := H
                  replace H : (if t165.toList = t166.toList then ((gristmillref1_Arity.f kj15 a0).bind fun t167 => (if t160 = t167 then (if (t161 == (decide (t160 > 0))) = true then ((num_Floaty.f kj15 a0).bind fun t168 => ((gristmillref1_Floaty.f kj15 a0).bind fun t169 => (if (t168 == t169) = true then ((num_Prims.f).bind fun t170 => ((gristmillref1_Prims.f).bind fun t173 => ((gristmillref_SameTexts.f kj15 t170 t173).bind fun t176 => (gristmilllaw2_NumSays.j2 kj15 t176)))) else (gristmilllaw2_NumSays.j2 kj15 false)))) else (gristmilllaw2_NumSays.j2 kj15 false)) else (gristmilllaw2_NumSays.j2 kj15 false))) else (gristmilllaw2_NumSays.j2 kj15 false)) = some r := H
                  have A35 := Aside0.mk A350
                  clear A350
                  by_cases c36 : t165.toList = t166.toList
                  · rw [if_pos c36] at H
                    have c36b0 : (t165.toList == t166.toList) = true := beq_iff_eq.mpr c36
                    have c36b1 : (t165.toList != t166.toList) = false := bne_eq_false_iff_eq.mpr c36
                    clear c36
                    (first | rw [c36b0] | (simp only [i64_w, i32_w]; rw [c36b0]) | skip)
                    replace H := Option.bind_eq_some_iff.mp H
                    obtain ⟨t167, A370, H⟩ := H
                    replace H : (if t160 = t167 then (if (t161 == (decide (t160 > 0))) = true then ((num_Floaty.f kj15 a0).bind fun t168 => ((gristmillref1_Floaty.f kj15 a0).bind fun t169 => (if (t168 == t169) = true then ((num_Prims.f).bind fun t170 => ((gristmillref1_Prims.f).bind fun t173 => ((gristmillref_SameTexts.f kj15 t170 t173).bind fun t176 => (gristmilllaw2_NumSays.j2 kj15 t176)))) else (gristmilllaw2_NumSays.j2 kj15 false)))) else (gristmilllaw2_NumSays.j2 kj15 false)) else (gristmilllaw2_NumSays.j2 kj15 false)) = some r := H
                    have A37 := Aside0.mk A370
                    clear A370
                    by_cases c38 : t160 = t167
                    · rw [if_pos c38] at H
                      have c38b0 : (t160 == t167) = true := beq_iff_eq.mpr c38
                      have c38b1 : (t160 != t167) = false := bne_eq_false_iff_eq.mpr c38
                      clear c38
                      by_cases c39 : (t161 == (decide (t160 > 0))) = true
                      · rw [if_pos c39] at H
                        have c39b0 : (t161 == (decide (t160 > 0))) = true := c39
                        (try (have c39b1 : decide (t161 = (decide (t160 > 0))) = true := by simpa using c39))
                        (try (have c39b2 : (t161 == (decide (t160 > 0))) = true := by simpa using c39))
                        clear c39
                        replace H := Option.bind_eq_some_iff.mp H
                        obtain ⟨t168, A400, H⟩ := H
                        replace H : ((gristmillref1_Floaty.f kj15 a0).bind fun t169 => (if (t168 == t169) = true then ((num_Prims.f).bind fun t170 => ((gristmillref1_Prims.f).bind fun t173 => ((gristmillref_SameTexts.f kj15 t170 t173).bind fun t176 => (gristmilllaw2_NumSays.j2 kj15 t176)))) else (gristmilllaw2_NumSays.j2 kj15 false))) = some r := H
                        have A40 := Aside0.mk A400
                        clear A400
                        replace H := Option.bind_eq_some_iff.mp H
                        obtain ⟨t169, A410, H⟩ := H
                        replace H : (if (t168 == t169) = true then ((num_Prims.f).bind fun t170 => ((gristmillref1_Prims.f).bind fun t173 => ((gristmillref_SameTexts.f kj15 t170 t173).bind fun t176 => (gristmilllaw2_NumSays.j2 kj15 t176)))) else (gristmilllaw2_NumSays.j2 kj15 false)) = some r := H
                        have A41 := Aside0.mk A410
                        clear A410
                        by_cases c42 : (t168 == t169) = true
                        · rw [if_pos c42] at H
                          have c42b0 : (t168 == t169) = true := c42
                          (try (have c42b1 : decide (t168 = t169) = true := by simpa using c42))
                          (try (have c42b2 : (t168 == t169) = true := by simpa using c42))
                          clear c42
                          replace H := Option.bind_eq_some_iff.mp H
                          obtain ⟨t170, A430, H⟩ := H
                          replace H : ((gristmillref1_Prims.f).bind fun t173 => ((gristmillref_SameTexts.f kj15 t170 t173).bind fun t176 => (gristmilllaw2_NumSays.j2 kj15 t176))) = some r := H
                          have A43 := Aside0.mk A430
                          clear A430
                          replace H := Option.bind_eq_some_iff.mp H
                          obtain ⟨t173, A440, H⟩ := H
                          replace H : ((gristmillref_SameTexts.f kj15 t170 t173).bind fun t176 => (gristmilllaw2_NumSays.j2 kj15 t176)) = some r := H
                          have A44 := Aside0.mk A440
                          clear A440
                          replace H := Option.bind_eq_some_iff.mp H
                          obtain ⟨t176, A450, H⟩ := H
                          replace H : (gristmilllaw2_NumSays.j2 kj15 t176) = some r := H
                          have A45 := Aside0.mk A450
                          clear A450
                          have H' := Aside0.mk H
                          clear H
                          go_wp2_with (first | (go_at_call 15; (with_reducible refine (num_Text.calls (ad := ad) a2 t165 _ ?side1 A34.out).mono ?_); (case side1 => exact GG.below hGG (by repeat (first | (with_reducible first | exact HB.out | apply below_alloc | apply pw_below_drewN | apply below_drew1) | exact HB.out))); rintro e w46 ⟨rfl, hb⟩; have n0_ := Aside0.mk (below_step (by repeat (first | (with_reducible first | exact HB.out | apply below_alloc | apply pw_below_drewN | apply below_drew1) | exact HB.out)) hb); clear HB; have HB := n0_; clear n0_; (try clear hb); (try clear hb2); (try clear hk); (try clear hi)) | (go_at_call 19; (with_reducible refine (gristmillref1_NumText.calls (ad := ad) a2 t166 _ ?side1 A35.out).mono ?_); (case side1 => exact GG.below hGG (by repeat (first | (with_reducible first | exact HB.out | apply below_alloc | apply pw_below_drewN | apply below_drew1) | exact HB.out))); rintro e w47 ⟨rfl, hb⟩; have n0_ := Aside0.mk (below_step (by repeat (first | (with_reducible first | exact HB.out | apply below_alloc | apply pw_below_drewN | apply below_drew1) | exact HB.out)) hb); clear HB; have HB := n0_; clear n0_; (try clear hb); (try clear hb2); (try clear hk); (try clear hi)) | (go_at_call 20; (with_reducible refine (gristmillref1_Arity.calls kj15 a0 t167 _ A37.out).mono ?_); rintro e w48 ⟨rfl, hb⟩; have n0_ := Aside0.mk (below_step (by repeat (first | (with_reducible first | exact HB.out | apply below_alloc | apply pw_below_drewN | apply below_drew1) | exact HB.out)) hb); clear HB; have HB := n0_; clear n0_; (try clear hb); (try clear hb2); (try clear hk); (try clear hi)) | (go_at_call 12; (with_reducible refine (num_Floaty.calls kj15 a0 t168 _ A40.out).mono ?_); rintro e w49 ⟨rfl, hb⟩; have n0_ := Aside0.mk (below_step (by repeat (first | (with_reducible first | exact HB.out | apply below_alloc | apply pw_below_drewN | apply below_drew1) | exact HB.out)) hb); clear HB; have HB := n0_; clear n0_; (try clear hb); (try clear hb2); (try clear hk); (try clear hi)) | (go_at_call 21; (with_reducible refine (gristmillref1_Floaty.calls kj15 a0 t169 _ A41.out).mono ?_); rintro e w' ⟨rfl, ⟨nd, rfl⟩⟩) | (go_at_call 10; (with_reducible refine (num_Prims.calls  t170 _ A43.out).mono ?_); rintro e w50 ⟨v171, rfl, ho0, hb⟩; have n0_ := Aside0.mk (Kd.R_lower ho0 (below_size (by repeat (first | (with_reducible first | exact HB.out | apply below_alloc | apply pw_below_drewN | apply below_drew1) | exact HB.out)))); have n1_ := Aside0.mk (below_step (by repeat (first | (with_reducible first | exact HB.out | apply below_alloc | apply pw_below_drewN | apply below_drew1) | exact HB.out)) hb); clear HB; have HO172 := n0_; have HB := n1_; clear n0_ n1_; (try clear hb); (try clear hb2); (try clear hk); (try clear hi); (try clear ho0)) | (go_at_call 23; (with_reducible refine (gristmillref1_Prims.calls  t173 _ A44.out).mono ?_); rintro e w51 ⟨v174, rfl, ho0, hb⟩; have n0_ := Aside0.mk (Kd.R_elder' (by (with_reducible repeat (first | apply Kd.R_alloc | apply Kd.R_drewN | apply Kd.R_drew)); exact HO172.out) (Kd.R_base ho0) hb); have n1_ := Aside0.mk (Kd.R_lower (Kd.R_new' ho0 (Kd.R_lt (by (with_reducible repeat (first | apply Kd.R_alloc | apply Kd.R_drewN | apply Kd.R_drew)); exact HO172.out))) (below_size (by repeat (first | (with_reducible first | exact HB.out | apply below_alloc | apply pw_below_drewN | apply below_drew1) | exact HB.out)))); have n2_ := Aside0.mk (below_step (by repeat (first | (with_reducible first | exact HB.out | apply below_alloc | apply pw_below_drewN | apply below_drew1) | exact HB.out)) hb); clear HO172; clear HB; have HO172 := n0_; have HO175 := n1_; have HB := n2_; clear n0_ n1_ n2_; (try clear hb); (try clear hb2); (try clear hk); (try clear hi); (try clear ho0); obtain ⟨Ao52, co52, eo52⟩ := Kd.R_slice HO172.out; subst eo52; obtain ⟨Ao53, co53, eo53⟩ := Kd.R_slice HO175.out; subst eo53) | (go_at_call 22; (with_reducible refine (gristmillref_SameTexts.calls kj15 _ _ t170 _ _ t173 t176 _ ?side1 ?side2 ?side3 ?side4 A45.out).mono ?_); (case side1 => repeat (first | exact (Kd.R_reads' HO172.out).2.2 | (with_reducible refine Kd.C_alloc ?_ _) | (with_reducible refine Kd.C_drewN ?_ _) | (with_reducible refine Kd.C_drew ?_))); (case side2 => exact (Kd.R_reads' HO172.out).2.1); (case side3 => repeat (first | exact (Kd.R_reads' HO175.out).2.2 | (with_reducible refine Kd.C_alloc ?_ _) | (with_reducible refine Kd.C_drewN ?_ _) | (with_reducible refine Kd.C_drew ?_))); (case side4 => exact (Kd.R_reads' HO175.out).2.1); rintro e w' ⟨rfl, ⟨nd, rfl⟩⟩))
                          go_meet
                          case rel => exact ⟨_, (t176), (by first | rfl | (simp; done) | (simp [*]; done)), H', ⟨by have := HJ6.out; have := HJ15.out; first | omega | exact Nat.le_refl _⟩, ⟨by repeat (first | (with_reducible first | exact HB.out | apply below_alloc | apply pw_below_drewN | apply below_drew1) | exact HB.out)⟩⟩
                        · rw [if_neg c42] at H
                          have c42b0 : (t168 == t169) = false := by simpa using c42
                          (try (have c42b1 : decide (t168 = t169) = false := by simpa using c42))
                          (try (have c42b2 : (t168 == t169) = false := by simpa using c42))
                          (try (have c42b3 : ¬ (t168 = t169) := by simpa using c42))
                          clear c42
                          have H' := Aside0.mk H
                          clear H
                          go_wp2_with (first | (go_at_call 15; (with_reducible refine (num_Text.calls (ad := ad) a2 t165 _ ?side1 A34.out).mono ?_); (case side1 => exact GG.below hGG (by repeat (first | (with_reducible first | exact HB.out | apply below_alloc | apply pw_below_drewN | apply below_drew1) | exact HB.out))); rintro e w54 ⟨rfl, hb⟩; have n0_ := Aside0.mk (below_step (by repeat (first | (with_reducible first | exact HB.out | apply below_alloc | apply pw_below_drewN | apply below_drew1) | exact HB.out)) hb); clear HB; have HB := n0_; clear n0_; (try clear hb); (try clear hb2); (try clear hk); (try clear hi)) | (go_at_call 19; (with_reducible refine (gristmillref1_NumText.calls (ad := ad) a2 t166 _ ?side1 A35.out).mono ?_); (case side1 => exact GG.below hGG (by repeat (first | (with_reducible first | exact HB.out | apply below_alloc | apply pw_below_drewN | apply below_drew1) | exact HB.out))); rintro e w55 ⟨rfl, hb⟩; have n0_ := Aside0.mk (below_step (by repeat (first | (with_reducible first | exact HB.out | apply below_alloc | apply pw_below_drewN | apply below_drew1) | exact HB.out)) hb); clear HB; have HB := n0_; clear n0_; (try clear hb); (try clear hb2); (try clear hk); (try clear hi)) | (go_at_call 20; (with_reducible refine (gristmillref1_Arity.calls kj15 a0 t167 _ A37.out).mono ?_); rintro e w56 ⟨rfl, hb⟩; have n0_ := Aside0.mk (below_step (by repeat (first | (with_reducible first | exact HB.out | apply below_alloc | apply pw_below_drewN | apply below_drew1) | exact HB.out)) hb); clear HB; have HB := n0_; clear n0_; (try clear hb); (try clear hb2); (try clear hk); (try clear hi)) | (go_at_call 12; (with_reducible refine (num_Floaty.calls kj15 a0 t168 _ A40.out).mono ?_); rintro e w57 ⟨rfl, hb⟩; have n0_ := Aside0.mk (below_step (by repeat (first | (with_reducible first | exact HB.out | apply below_alloc | apply pw_below_drewN | apply below_drew1) | exact HB.out)) hb); clear HB; have HB := n0_; clear n0_; (try clear hb); (try clear hb2); (try clear hk); (try clear hi)) | (go_at_call 21; (with_reducible refine (gristmillref1_Floaty.calls kj15 a0 t169 _ A41.out).mono ?_); rintro e w' ⟨rfl, ⟨nd, rfl⟩⟩))
                          go_meet
                          case rel => exact ⟨_, (false), (by first | rfl | (simp; done) | (simp [*]; done)), H', ⟨by have := HJ6.out; have := HJ15.out; first | omega | exact Nat.le_refl _⟩, ⟨by repeat (first | (with_reducible first | exact HB.out | apply below_alloc | apply pw_below_drewN | apply below_drew1) | exact HB.out)⟩⟩
                      · rw [if_neg c39] at H
                        have c39b0 : (t161 == (decide (t160 > 0))) = false := by simpa using c39
                        (try (have c39b1 : decide (t161 = (decide (t160 > 0))) = false := by simpa using c39))
                        (try (have c39b2 : (t161 == (decide (t160 > 0))) = false := by simpa using c39))
                        (try (have c39b3 : ¬ (t161 = (decide (t160 > 0))) := by simpa using c39))
                        clear c39
                        have H' := Aside0.mk H
                        clear H
                        go_wp2_with (first | (go_at_call 15; (with_reducible refine (num_Text.calls (ad := ad) a2 t165 _ ?side1 A34.out).mono ?_); (case side1 => exact GG.below hGG (by repeat (first | (with_reducible first | exact HB.out | apply below_alloc | apply pw_below_drewN | apply below_drew1) | exact HB.out))); rintro e w58 ⟨rfl, hb⟩; have n0_ := Aside0.mk (below_step (by repeat (first | (with_reducible first | exact HB.out | apply below_alloc | apply pw_below_drewN | apply below_drew1) | exact HB.out)) hb); clear HB; have HB := n0_; clear n0_; (try clear hb); (try clear hb2); (try clear hk); (try clear hi)) | (go_at_call 19; (with_reducible refine (gristmillref1_NumText.calls (ad := ad) a2 t166 _ ?side1 A35.out).mono ?_); (case side1 => exact GG.below hGG (by repeat (first | (with_reducible first | exact HB.out | apply below_alloc | apply pw_below_drewN | apply below_drew1) | exact HB.out))); rintro e w59 ⟨rfl, hb⟩; have n0_ := Aside0.mk (below_step (by repeat (first | (with_reducible first | exact HB.out | apply below_alloc | apply pw_below_drewN | apply below_drew1) | exact HB.out)) hb); clear HB; have HB := n0_; clear n0_; (try clear hb); (try clear hb2); (try clear hk); (try clear hi)) | (go_at_call 20; (with_reducible refine (gristmillref1_Arity.calls kj15 a0 t167 _ A37.out).mono ?_); rintro e w60 ⟨rfl, hb⟩; have n0_ := Aside0.mk (below_step (by repeat (first | (with_reducible first | exact HB.out | apply below_alloc | apply pw_below_drewN | apply below_drew1) | exact HB.out)) hb); clear HB; have HB := n0_; clear n0_; (try clear hb); (try clear hb2); (try clear hk); (try clear hi)))
                        go_meet
                        case rel => exact ⟨_, (false), (by first | rfl | (simp; done) | (simp [*]; done)), H', ⟨by have := HJ6.out; have := HJ15.out; first | omega | exact Nat.le_refl _⟩, ⟨by repeat (first | (with_reducible first | exact HB.out | apply below_alloc | apply pw_below_drewN | apply below_drew1) | exact HB.out)⟩⟩
                    · rw [if_neg c38] at H
                      have c38b0 : (t160 == t167) = false := beq_eq_false_iff_ne.mpr c38
                      have c38b1 : (t160 != t167) = true := bne_iff_ne.mpr c38
                      have H' := Aside0.mk H
                      clear H
                      go_wp2_with (first | (go_at_call 15; (with_reducible refine (num_Text.calls (ad := ad) a2 t165 _ ?side1 A34.out).mono ?_); (case side1 => exact GG.below hGG (by repeat (first | (with_reducible first | exact HB.out | apply below_alloc | apply pw_below_drewN | apply below_drew1) | exact HB.out))); rintro e w61 ⟨rfl, hb⟩; have n0_ := Aside0.mk (below_step (by repeat (first | (with_reducible first | exact HB.out | apply below_alloc | apply pw_below_drewN | apply below_drew1) | exact HB.out)) hb); clear HB; have HB := n0_; clear n0_; (try clear hb); (try clear hb2); (try clear hk); (try clear hi)) | (go_at_call 19; (with_reducible refine (gristmillref1_NumText.calls (ad := ad) a2 t166 _ ?side1 A35.out).mono ?_); (case side1 => exact GG.below hGG (by repeat (first | (with_reducible first | exact HB.out | apply below_alloc | apply pw_below_drewN | apply below_drew1) | exact HB.out))); rintro e w62 ⟨rfl, hb⟩; have n0_ := Aside0.mk (below_step (by repeat (first | (with_reducible first | exact HB.out | apply below_alloc | apply pw_below_drewN | apply below_drew1) | exact HB.out)) hb); clear HB; have HB := n0_; clear n0_; (try clear hb); (try clear hb2); (try clear hk); (try clear hi)) | (go_at_call 20; (with_reducible refine (gristmillref1_Arity.calls kj15 a0 t167 _ A37.out).mono ?_); rintro e w63 ⟨rfl, hb⟩; have n0_ := Aside0.mk (below_step (by repeat (first | (with_reducible first | exact HB.out | apply below_alloc | apply pw_below_drewN | apply below_drew1) | exact HB.out)) hb); clear HB; have HB := n0_; clear n0_; (try clear hb); (try clear hb2); (try clear hk); (try clear hi)))
                      go_meet
                      case rel => exact ⟨_, (false), (by first | rfl | (simp; done) | (simp [*]; done)), H', ⟨by have := HJ6.out; have := HJ15.out; first | omega | exact Nat.le_refl _⟩, ⟨by repeat (first | (with_reducible first | exact HB.out | apply below_alloc | apply pw_below_drewN | apply below_drew1) | exact HB.out)⟩⟩
                  · rw [if_neg c36] at H
                    have c36b0 : (t165.toList == t166.toList) = false := beq_eq_false_iff_ne.mpr c36
                    have c36b1 : (t165.toList != t166.toList) = true := bne_iff_ne.mpr c36
                    (first | rw [c36b0] | (simp only [i64_w, i32_w]; rw [c36b0]) | skip)
                    have H' := Aside0.mk H
                    clear H
                    go_wp2_with (first | (go_at_call 15; (with_reducible refine (num_Text.calls (ad := ad) a2 t165 _ ?side1 A34.out).mono ?_); (case side1 => exact GG.below hGG (by repeat (first | (with_reducible first | exact HB.out | apply below_alloc | apply pw_below_drewN | apply below_drew1) | exact HB.out))); rintro e w64 ⟨rfl, hb⟩; have n0_ := Aside0.mk (below_step (by repeat (first | (with_reducible first | exact HB.out | apply below_alloc | apply pw_below_drewN | apply below_drew1) | exact HB.out)) hb); clear HB; have HB := n0_; clear n0_; (try clear hb); (try clear hb2); (try clear hk); (try clear hi)) | (go_at_call 19; (with_reducible refine (gristmillref1_NumText.calls (ad := ad) a2 t166 _ ?side1 A35.out).mono ?_); (case side1 => exact GG.below hGG (by repeat (first | (with_reducible first | exact HB.out | apply below_alloc | apply pw_below_drewN | apply below_drew1) | exact HB.out))); rintro e w65 ⟨rfl, hb⟩; have n0_ := Aside0.mk (below_step (by repeat (first | (with_reducible first | exact HB.out | apply below_alloc | apply pw_below_drewN | apply below_drew1) | exact HB.out)) hb); clear HB; have HB := n0_; clear n0_; (try clear hb); (try clear hb2); (try clear hk); (try clear hi)))
                    go_meet
                    case rel => exact ⟨_, (false), (by first | rfl | (simp; done) | (simp [*]; done)), H', ⟨by have := HJ6.out; have := HJ15.out; first | omega | exact Nat.le_refl _⟩, ⟨by repeat (first | (with_reducible first | exact HB.out | apply below_alloc | apply pw_below_drewN | apply below_drew1) | exact HB.out)⟩⟩
                case rest =>
                  clear HC33
                  try clear c1
                  try clear q1
                  try clear c2
                  try clear p2
                  try clear c3
                  try clear c4
                  try clear c6
                  try clear c7
                  try clear c8
                  try clear c9
                  try clear c9b0
                  try clear c9b1
                  try clear c10
                  try clear c11
                  try clear c14
                  try clear c16
                  try clear q16
                  try clear c17
                  try clear c20
                  try clear c20b0
                  try clear c20b1
                  try clear c21
                  try clear c21b0
                  try clear c21b1
                  try clear c22
                  try clear c22b0
                  try clear c22b1
                  try clear c22b2
                  try clear c23
                  try clear c23b0
                  try clear c23b1
                  try clear c24
                  try clear c24b0
                  try clear c24b1
                  try clear c24b2
                  try clear c25
                  try clear c28
                  try clear c28b0
                  try clear c28b1
                  try clear c28b2
                  try clear c29
                  try clear c32
                  try clear c36
                  try clear c36b0
                  try clear c36b1
                  try clear c38
                  try clear c38b0
                  try clear c38b1
                  try clear c39
                  try clear c39b0
                  try clear c39b1
                  try clear c39b2
                  try clear c42
                  try clear c42b0
                  try clear c42b1
                  try clear c42b2
                  try clear p2
                  try clear q1
                  try clear q16
                  try clear q162
                  obtain ⟨kq, x8_32, rfl, HA, HJ32, HB⟩ := hcut
                  cases kq with
                  | zero => exact absurd HA.out (by simp [gristmilllaw2_NumSays.j2])
                  | succ kj32 =>
                    have H := HA.out
                    clear HA
                    simp only [gristmilllaw2_NumSays.j2] at H
                    obtain rfl := Option.some.inj H
                    go_wp2
                    go_ret
                    exact ⟨by first | rfl | (simp [errW_none, errW_some] <;> rfl) | (simp [*, errW_none, errW_some] <;> rfl) | (simp [errW_none, errW_some] <;> (rw [Bool.eq_iff_iff]; simp; done)), by repeat (first | (with_reducible first | exact HB.out | apply below_alloc | apply pw_below_drewN | apply below_drew1) | exact HB.out)⟩
  · replace c6 := Bool.eq_false_iff.mpr c6
    subst c6
    have H1 : (some false) = some r := by rw [if_neg (show ¬ (false = true) by decide)] at H; exact H
    clear H
    have H := H1
    clear H1
    obtain rfl := Option.some.inj H
    go_enter Tryd.func7, Tryd.ntmps7
    go_wp2_with (first | ((with_reducible refine gate_callee (f := 8) rfl ?_); refine goesL_ (some 22) rfl rfl Tryd.func8 (by kernel_rfl) rfl #[] rfl (by (try simp only [List.map_toArray, List.map_cons, List.map_nil]); first | done | rfl | (simp only [List.length_drop, List.length_take]; rfl)) ?_; (with_reducible refine (gristmilllaw2_first.calls (ad := ad) k  false _ ?side1 A5.out).mono ?_); (case side1 => exact GG.below hGG (by repeat (first | (with_reducible first | exact HB.out | apply below_alloc | apply pw_below_drewN | apply below_drew1) | exact HB.out))); rintro e w66 ⟨rfl, hb⟩; refine ⟨_, rfl, ?_⟩; have n0_ := Aside0.mk (below_step (by repeat (first | (with_reducible first | exact HB.out | apply below_alloc | apply pw_below_drewN | apply below_drew1) | exact HB.out)) hb); clear HB; have HB := n0_; clear n0_; (try clear hb); (try clear hb2); (try clear hk); (try clear hi)))
    go_ret
    exact ⟨by first | rfl | (simp [errW_none, errW_some] <;> rfl) | (simp [*, errW_none, errW_some] <;> rfl) | (simp [errW_none, errW_some] <;> (rw [Bool.eq_iff_iff]; simp; done)), by repeat (first | (with_reducible first | exact HB.out | apply below_alloc | apply pw_below_drewN | apply below_drew1) | exact HB.out)⟩

/-- THE ONE PURE STATEMENT of gristmilllaw2_NumSays: yours. -/
def gristmilllaw2_NumSays.Pure : Prop := ∀ (a0 : ByteArray) (a1 : ByteArray) (a2 : Int) (a3 : Int), a0.size ≤ 140737488351232 → a1.size ≤ 140737488351232 → (Lit.int .i64 a2).wf = true → (Lit.int .i64 a3).wf = true → ∃ k, gristmilllaw2_NumSays.f k a0 a1 a2 a3 = some true
theorem gristmilllaw2_NumSays.walk (P : gristmilllaw2_NumSays.Pure) (a0 : ByteArray) (a1 : ByteArray) (a2 : Int) (a3 : Int) (w : World) (w0 : a0.size ≤ 140737488351232) (w1 : a1.size ≤ 140737488351232) (w2 : (Lit.int .i64 a2).wf = true) (w3 : (Lit.int .i64 a3).wf = true) (hGG : GG ad w) :
    Calls Tryd.prog 7 #[.string a0, .string a1, .int .i64 a2, .int .i64 a3] w fun e w' => e = .returned (.bool true) ∧ Below w.heap.size w w' := by
  obtain ⟨k, h⟩ := P a0 a1 a2 a3 w0 w1 w2 w3
  refine (gristmilllaw2_NumSays.calls k a0 a1 a2 a3 true w hGG h).mono ?_
  rintro e w' ⟨rfl, hd⟩
  exact ⟨rfl, hd⟩

end Go.Proofs.YtkikfkhonjobcaaDoor.PNumS
