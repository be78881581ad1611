/- For each Go function that the laws of this group reach: a plain function with the same answers, and the proof that the call comes to them wherever the plain function has an answer. No other condition. (Laid by a program of this session.) -/
import Derived.Test.YthbiofcgaegjkaaDoorPTreeAx0
import Derived.Test.YthbiofcgaegjkaaDoorExtP
namespace Go.Proofs.YthbiofcgaegjkaaDoor.PTreeA
open Go.RowKit Go.Proofs.YthbiofcgaegjkaaDoorW.PrintWords Go.Proofs.YthbiofcgaegjkaaDoorW.PrintLast Go.Proofs.YthbiofcgaegjkaaDoorW.PrintMore Go.Proofs.YthbiofcgaegjkaaDoor.ExtE
attribute [local go_sem] max2_int min2_int max_two min_two max_three min_three max_four min_four   -- for this text's walks alone
set_option linter.unusedVariables false
set_option linter.unusedSimpArgs false

variable {ad : Int → Addr}
/-! ### gristmilllaw4_first: function 6 -/
def gristmilllaw4_first.f (k : Nat)  : Option (Bool) := (tree_Parse.f k (⟨#[40, 32, 97, 32, 32, 40, 98, 41, 41]⟩ : ByteArray)).bind fun bt101 => (if bt101.2.isNone = true then ((tree_Text.f bt101.1).bind fun t106 => (some (t106.toList == ([40, 97, 32, 40, 98, 41, 41] : List UInt8)))) else (some false))
theorem gristmilllaw4_first.mono : ∀ k, LeO (gristmilllaw4_first.f k ) (gristmilllaw4_first.f (k + 1) ) := by
  intro  k
  unfold gristmilllaw4_first.f
  repeat' first
      | (with_reducible exact tree_Parse.mono _ _)
      | (with_reducible exact LeO.refl _)
      | (with_reducible exact LeO.none _)
      | (with_reducible refine LeO.ite ?_ ?_)
      | (with_reducible refine LeO.bind ?_ (fun _ => ?_))
      | exact tree_Parse.mono _ _
      | exact LeO.none _
      | refine LeO.ite ?_ ?_
      | refine LeO.bind ?_ (fun _ => ?_)
set_option maxHeartbeats 8000000 in
set_option maxRecDepth 100000 in
theorem gristmilllaw4_first.calls (k : Nat)  (r : Bool) (w : World) (hGG : GG ad w) (h : gristmilllaw4_first.f k  = some r) :
    Calls Tryd.prog 6 #[] w fun e w' => e = .returned (.bool r) ∧ Below w.heap.size w w' := by
  have hu25 := Tryd.underlying25
  have HB := Aside0.mk (Below.refl w.heap.size w)
  have H : ((tree_Parse.f k (⟨#[40, 32, 97, 32, 32, 40, 98, 41, 41]⟩ : ByteArray)).bind fun bt101 => (if bt101.2.isNone = true then ((tree_Text.f bt101.1).bind fun t106 => (some (t106.toList == ([40, 97, 32, 40, 98, 41, 41] : List UInt8)))) else (some false))) = some r := h
  clear h
  replace H := Option.bind_eq_some_iff.mp H
  obtain ⟨⟨t101, t102⟩, A10, H⟩ := H
  replace H : (if t102.isNone = true then ((tree_Text.f t101).bind fun t106 => (some (t106.toList == ([40, 97, 32, 40, 98, 41, 41] : List UInt8)))) else (some false)) = some r := H
  have A1 := Aside0.mk A10
  clear A10
  rcases t102 with _ | q105
  · have H1 : ((tree_Text.f t101).bind fun t106 => (some (t106.toList == ([40, 97, 32, 40, 98, 41, 41] : List UInt8)))) = some r := by rw [if_pos (show (none : Option Int).isNone = true by rfl)] at H; exact H
    clear H
    have H := H1
    clear H1
    try simp only [errW_none, errW_some]
    replace H := Option.bind_eq_some_iff.mp H
    obtain ⟨t106, A20, H⟩ := H
    replace H : (some (t106.toList == ([40, 97, 32, 40, 98, 41, 41] : List UInt8))) = some r := H
    have A2 := Aside0.mk A20
    clear A20
    obtain rfl := Option.some.inj H
    go_enter Tryd.func6, Tryd.ntmps6
    go_wp2_with (first | ((with_reducible refine gate_callee (f := 7) rfl ?_); refine goesL_ (some 4) rfl rfl Tryd.func7 (by kernel_rfl) rfl #[.string (⟨#[40, 32, 97, 32, 32, 40, 98, 41, 41]⟩ : ByteArray)] rfl (by (try simp only [List.map_toArray, List.map_cons, List.map_nil]); first | done | rfl | (simp only [List.length_drop, List.length_take]; rfl)) ?_; (with_reducible refine (tree_Parse.calls (ad := ad) k (⟨#[40, 32, 97, 32, 32, 40, 98, 41, 41]⟩ : ByteArray) t101 none _ ?side1 A1.out).mono ?_); (case side1 => exact GG.below hGG (by repeat (first | (with_reducible first | exact HB.out | apply below_alloc | apply pw_below_drewN | apply below_drew1) | exact HB.out))); rintro e w3 ⟨v103, adf, rfl, ho0, hb⟩; refine ⟨_, rfl, ?_⟩; have n0_ := Aside0.mk (Kd.R_lower ho0 (below_size (by repeat (first | (with_reducible first | exact HB.out | apply below_alloc | apply pw_below_drewN | apply below_drew1) | exact HB.out)))); have n1_ := Aside0.mk (below_step (by repeat (first | (with_reducible first | exact HB.out | apply below_alloc | apply pw_below_drewN | apply below_drew1) | exact HB.out)) hb); clear HB; have HO104 := n0_; have HB := n1_; clear n0_ n1_; (try clear hb); (try clear hb2); (try clear hk); (try clear hi); (try clear ho0); (try simp only [errW_none, errW_some]); obtain ⟨Ao4, co4, eo4⟩ := Kd.R_slice HO104.out; subst eo4) | (go_at_call 14; (with_reducible refine (tree_Text.calls _ _ t101 t106 _ ?side1 ?side2 A2.out).mono ?_); (case side1 => repeat (first | exact (Kd.R_reads' HO104.out).2.2 | (with_reducible refine Kd.C_alloc ?_ _) | (with_reducible refine Kd.C_drewN ?_ _) | (with_reducible refine Kd.C_drew ?_))); (case side2 => exact (Kd.R_reads' HO104.out).2.1); rintro e w5 ⟨rfl, hb⟩; have n0_ := Aside0.mk (Kd.R_below (by (with_reducible repeat (first | apply Kd.R_alloc | apply Kd.R_drewN | apply Kd.R_drew)); exact HO104.out) hb); have n1_ := Aside0.mk (below_step (by repeat (first | (with_reducible first | exact HB.out | apply below_alloc | apply pw_below_drewN | apply below_drew1) | exact HB.out)) hb); clear HO104; clear HB; have HO104 := n0_; have HB := n1_; clear n0_ n1_; (try clear hb); (try clear hb2); (try clear hk); (try clear hi)))
    go_ret
    exact ⟨by first | rfl | (simp [errW_none, errW_some] <;> rfl) | (simp [*, errW_none, errW_some] <;> rfl) | (simp [errW_none, errW_some] <;> (rw [Bool.eq_iff_iff]; simp; done)), by repeat (first | (with_reducible first | exact HB.out | apply below_alloc | apply pw_below_drewN | apply below_drew1) | exact HB.out)⟩
  · have H1 : (some false) = some r := by rw [if_neg (show ¬ (some q105).isNone = true by simp)] at H; exact H
    clear H
    have H := H1
    clear H1
    try simp only [errW_none, errW_some]
    obtain rfl := Option.some.inj H
    go_enter Tryd.func6, Tryd.ntmps6
    go_wp2_with (first | ((with_reducible refine gate_callee (f := 7) rfl ?_); refine goesL_ (some 4) rfl rfl Tryd.func7 (by kernel_rfl) rfl #[.string (⟨#[40, 32, 97, 32, 32, 40, 98, 41, 41]⟩ : ByteArray)] rfl (by (try simp only [List.map_toArray, List.map_cons, List.map_nil]); first | done | rfl | (simp only [List.length_drop, List.length_take]; rfl)) ?_; (with_reducible refine (tree_Parse.calls (ad := ad) k (⟨#[40, 32, 97, 32, 32, 40, 98, 41, 41]⟩ : ByteArray) t101 (some q105) _ ?side1 A1.out).mono ?_); (case side1 => exact GG.below hGG (by repeat (first | (with_reducible first | exact HB.out | apply below_alloc | apply pw_below_drewN | apply below_drew1) | exact HB.out))); rintro e w6 ⟨v103, adf, rfl, ho0, hb⟩; refine ⟨_, rfl, ?_⟩; have n0_ := Aside0.mk (Kd.R_lower ho0 (below_size (by repeat (first | (with_reducible first | exact HB.out | apply below_alloc | apply pw_below_drewN | apply below_drew1) | exact HB.out)))); have n1_ := Aside0.mk (below_step (by repeat (first | (with_reducible first | exact HB.out | apply below_alloc | apply pw_below_drewN | apply below_drew1) | exact HB.out)) hb); clear HB; have HO104 := n0_; have HB := n1_; clear n0_ n1_; (try clear hb); (try clear hb2); (try clear hk); (try clear hi); (try clear ho0); (try simp only [errW_none, errW_some])))
    go_ret
    exact ⟨by first | rfl | (simp [errW_none, errW_some] <;> rfl) | (simp [*, errW_none, errW_some] <;> rfl) | (simp [errW_none, errW_some] <;> (rw [Bool.eq_iff_iff]; simp; done)), by repeat (first | (with_reducible first | exact HB.out | apply below_alloc | apply pw_below_drewN | apply below_drew1) | exact HB.out)⟩

/-! ### gristmilllaw4_within: function 8 -/
mutual
def gristmilllaw4_within.l0 : Nat → List (S39) → ByteArray → Int → Int → Int → Option (Bool)
  | 0, _, _, _, _, _ => none
  | k + 1, x0, x1, x3, x9, x10 => if x10 < (x0.length : Int) then (if 0 ≤ x10 then (if ((rd_T39 x0 x10).f2) ≤ x9 then (gristmilllaw4_within.j1 k x0 x1 x3 x10 ((rd_T39 x0 x10).f2) true) else (gristmilllaw4_within.j1 k x0 x1 x3 x10 ((rd_T39 x0 x10).f2) (decide (((rd_T39 x0 x10).f2) ≥ x3)))) else (none)) else (some true)
def gristmilllaw4_within.j1 : Nat → List (S39) → ByteArray → Int → Int → Int → Bool → Option (Bool)
  | 0, _, _, _, _, _, _ => none
  | k + 1, x0, x1, x3, x10, x11, x34 => if x34 = true then (some false) else (if 0 ≤ x10 then (if x10 < (x0.length : Int) then (if ((rd_T39 x0 x10).f0).toList = ([] : List UInt8) then (if 0 ≤ x11 then (if x11 < (x1.size : Int) then (if (bt x1 x11) = 40 then (if (wrap64 (x10 + 1)) < (x0.length : Int) then (if 0 ≤ (wrap64 (x10 + 1)) then (gristmilllaw4_within.j2 k x0 x1 x3 x10 x11 ((rd_T39 x0 (wrap64 (x10 + 1))).f2)) else (none)) else (gristmilllaw4_within.j2 k x0 x1 x3 x10 x11 x3)) else (some false)) else (none)) else (none)) else (if (wrap64 (x11 + (((rd_T39 x0 x10).f0).size : Int))) > x3 then (some false) else (if 0 ≤ x11 then (if x11 ≤ (wrap64 (x11 + (((rd_T39 x0 x10).f0).size : Int))) then (if (wrap64 (x11 + (((rd_T39 x0 x10).f0).size : Int))) ≤ (x1.size : Int) then (if (x1.extract (x11 : Int).toNat ((wrap64 (x11 + (((rd_T39 x0 x10).f0).size : Int))) : Int).toNat).toList = ((rd_T39 x0 x10).f0).toList then (gristmilllaw4_within.l0 k x0 x1 x3 (wrap64 ((wrap64 (x11 + (((rd_T39 x0 x10).f0).size : Int))) - 1)) (wrap64 (x10 + 1))) else (some false)) else (none)) else (none)) else (none)))) else (none)) else (none))
def gristmilllaw4_within.j2 : Nat → List (S39) → ByteArray → Int → Int → Int → Int → Option (Bool)
  | 0, _, _, _, _, _, _ => none
  | k + 1, x0, x1, x3, x10, x11, x13 => if 0 ≤ x10 then (if x10 < (x0.length : Int) then ((gristmilllaw4_within.f k ((rd_T39 x0 x10).f1) x1 (wrap64 (x11 + 1)) x13).bind fun t111 => (if t111 = true then (gristmilllaw4_within.l0 k x0 x1 x3 x11 (wrap64 (x10 + 1))) else (some false))) else (none)) else (none)
def gristmilllaw4_within.f : Nat → List (S39) → ByteArray → Int → Int → Option (Bool)
  | 0, _, _, _, _ => none
  | k + 1, l0, a1, a2, a3 => gristmilllaw4_within.l0 k l0 a1 a3 (wrap64 (a2 - 1)) 0
end
theorem gristmilllaw4_within.mono_l : ∀ k, (∀ y0 y1 y2 y3, LeO (gristmilllaw4_within.f k y0 y1 y2 y3) (gristmilllaw4_within.f (k + 1) y0 y1 y2 y3)) ∧ (∀ y0 y1 y2 y3 y4, LeO (gristmilllaw4_within.l0 k y0 y1 y2 y3 y4) (gristmilllaw4_within.l0 (k + 1) y0 y1 y2 y3 y4)) ∧ (∀ y0 y1 y2 y3 y4 y5, LeO (gristmilllaw4_within.j1 k y0 y1 y2 y3 y4 y5) (gristmilllaw4_within.j1 (k + 1) y0 y1 y2 y3 y4 y5)) ∧ (∀ y0 y1 y2 y3 y4 y5, LeO (gristmilllaw4_within.j2 k y0 y1 y2 y3 y4 y5) (gristmilllaw4_within.j2 (k + 1) y0 y1 y2 y3 y4 y5))
  | 0 => ⟨fun _ _ _ _ r h => by simp [gristmilllaw4_within.f] at h, fun _ _ _ _ _ r h => by simp [gristmilllaw4_within.l0] at h, fun _ _ _ _ _ _ r h => by simp [gristmilllaw4_within.j1] at h, fun _ _ _ _ _ _ r h => by simp [gristmilllaw4_within.j2] at h⟩
  | k + 1 => by
    obtain ⟨ih0, ih1, ih2, ih3⟩ := gristmilllaw4_within.mono_l k
    refine ⟨?_, ?_, ?_, ?_⟩
    · intro y0 y1 y2 y3
      unfold gristmilllaw4_within.f
      repeat' first
      | (with_reducible exact ih0 _ _ _ _)
      | (with_reducible exact ih1 _ _ _ _ _)
      | (with_reducible exact ih2 _ _ _ _ _ _)
      | (with_reducible exact ih3 _ _ _ _ _ _)
      | (with_reducible exact LeO.refl _)
      | (with_reducible exact LeO.none _)
      | (with_reducible refine LeO.ite ?_ ?_)
      | (with_reducible refine LeO.bind ?_ (fun _ => ?_))
      | exact ih0 _ _ _ _
      | exact ih1 _ _ _ _ _
      | exact ih2 _ _ _ _ _ _
      | exact ih3 _ _ _ _ _ _
      | exact LeO.none _
      | refine LeO.ite ?_ ?_
      | refine LeO.bind ?_ (fun _ => ?_)
    · intro y0 y1 y2 y3 y4
      unfold gristmilllaw4_within.l0
      repeat' first
      | (with_reducible exact ih0 _ _ _ _)
      | (with_reducible exact ih1 _ _ _ _ _)
      | (with_reducible exact ih2 _ _ _ _ _ _)
      | (with_reducible exact ih3 _ _ _ _ _ _)
      | (with_reducible exact LeO.refl _)
      | (with_reducible exact LeO.none _)
      | (with_reducible refine LeO.ite ?_ ?_)
      | (with_reducible refine LeO.bind ?_ (fun _ => ?_))
      | exact ih0 _ _ _ _
      | exact ih1 _ _ _ _ _
      | exact ih2 _ _ _ _ _ _
      | exact ih3 _ _ _ _ _ _
      | exact LeO.none _
      | refine LeO.ite ?_ ?_
      | refine LeO.bind ?_ (fun _ => ?_)
    · intro y0 y1 y2 y3 y4 y5
      unfold gristmilllaw4_within.j1
      repeat' first
      | (with_reducible exact ih0 _ _ _ _)
      | (with_reducible exact ih1 _ _ _ _ _)
      | (with_reducible exact ih2 _ _ _ _ _ _)
      | (with_reducible exact ih3 _ _ _ _ _ _)
      | (with_reducible exact LeO.refl _)
      | (with_reducible exact LeO.none _)
      | (with_reducible refine LeO.ite ?_ ?_)
      | (with_reducible refine LeO.bind ?_ (fun _ => ?_))
      | exact ih0 _ _ _ _
      | exact ih1 _ _ _ _ _
      | exact ih2 _ _ _ _ _ _
      | exact ih3 _ _ _ _ _ _
      | exact LeO.none _
      | refine LeO.ite ?_ ?_
      | refine LeO.bind ?_ (fun _ => ?_)
    · intro y0 y1 y2 y3 y4 y5
      unfold gristmilllaw4_within.j2
      repeat' first
      | (with_reducible exact ih0 _ _ _ _)
      | (with_reducible exact ih1 _ _ _ _ _)
      | (with_reducible exact ih2 _ _ _ _ _ _)
      | (with_reducible exact ih3 _ _ _ _ _ _)
      | (with_reducible exact LeO.refl _)
      | (with_reducible exact LeO.none _)
      | (with_reducible refine LeO.ite ?_ ?_)
      | (with_reducible refine LeO.bind ?_ (fun _ => ?_))
      | exact ih0 _ _ _ _
      | exact ih1 _ _ _ _ _
      | exact ih2 _ _ _ _ _ _
      | exact ih3 _ _ _ _ _ _
      | exact LeO.none _
      | refine LeO.ite ?_ ?_
      | refine LeO.bind ?_ (fun _ => ?_)
theorem gristmilllaw4_within.mono : ∀ a0 a1 a2 a3 k, LeO (gristmilllaw4_within.f k a0 a1 a2 a3) (gristmilllaw4_within.f (k + 1) a0 a1 a2 a3) := by
  intro a0 a1 a2 a3 k
  obtain ⟨ih0, ih1, ih2, ih3⟩ := gristmilllaw4_within.mono_l k
  exact ih0 a0 a1 a2 a3
set_option maxHeartbeats 8000000 in
set_option maxRecDepth 100000 in
theorem gristmilllaw4_within.calls (k : Nat) : ∀ (A0 : Option Addr) (c0 : Nat) (l0 : List (S39)) (a1 : ByteArray) (a2 : Int) (a3 : Int) (r : Bool) (w : World) (hr0 : Kd.C k39 w A0 l0.length l0) (hc0 : l0.length ≤ c0) (h : gristmilllaw4_within.f k l0 a1 a2 a3 = some r),
    Calls Tryd.prog 8 #[.slice A0 l0.length c0, .string a1, .int .i64 a2, .int .i64 a3] w fun e w' => e = .returned (.bool r) ∧ Drawn0 w w' := by
  induction k using Nat.strongRecOn with
  | _ k ih =>
  intro A0 c0 l0 a1 a2 a3 r w hr0 hc0 h
  cases k with
  | zero => exact absurd h (by simp [gristmilllaw4_within.f])
  | succ k =>
  simp only [gristmilllaw4_within.f] at h
  have HR0 := Aside0.mk hr0
  have HC0 := Aside0.mk hc0
  clear hr0 hc0
  have H : (gristmilllaw4_within.l0 k l0 a1 a3 (wrap64 (a2 - 1)) 0) = some r := h
  clear h
  have H' := Aside0.mk H
  clear H
  go_enter Tryd.func8, Tryd.ntmps8
  go_wp2
  go_loopg [9, 10] k (fun kq v9 v10 w' => ∃ (x9_1 : Int) (x10_1 : Int), v9 = .int .i64 x9_1 ∧ v10 = .int .i64 x10_1 ∧ Aside0 (gristmilllaw4_within.l0 kq l0 a1 a3 x9_1 x10_1 = some r) ∧ Aside0 (kq ≤ k) ∧ Drawn0 w w')
  case atStart => exact ⟨(wrap64 (a2 - 1)), (0), (by first | rfl | (simp; done) | (simp [*]; done)), (by first | rfl | (simp; done) | (simp [*]; done)), H', ⟨Nat.le_refl _⟩, by repeat (first | exact Drawn0.refl _ | apply Drawn0.step)⟩
  case round =>
    clear H'
    try clear p2
    obtain ⟨x9_1, x10_1, rfl, rfl, HA, HK1, ⟨m1, rfl⟩⟩ := hrel
    cases gk with
    | zero => exact absurd HA.out (by simp [gristmilllaw4_within.l0])
    | succ k1 =>
      have H := HA.out
      clear HA
      simp only [gristmilllaw4_within.l0] at H
      by_cases c5 : x10_1 < (l0.length : Int)
      · rw [if_pos c5] at H
        have c5b0 : decide (x10_1 < (l0.length : Int)) = true := decide_eq_true c5
        clear c5
        by_cases c6 : 0 ≤ x10_1
        · rw [if_pos c6] at H
          have c6b0 : decide (0 ≤ x10_1) = true := decide_eq_true c6
          clear c6
          have HC7 := Aside0.mk H
          clear H
          have p107 : 0 ≤ (x10_1 : Int) := of_decide_eq_true (by first | (with_reducible assumption) | assumption)
          have q107 : x10_1 < (l0.length : Int) := of_decide_eq_true (by first | (with_reducible assumption) | assumption)
          obtain ⟨ad107, A107_1, c107_1, e107, hx107_0, hx107_1, hx107_2, hl107_1, hi107_1⟩ := at_T39 HR0.out x10_1 p107 q107
          cases e107
          have HR107_1 := Aside0.mk hi107_1
          have HC107_1 := Aside0.mk hl107_1
          clear hi107_1 hl107_1
          replace p107 := eq_true p107
          replace q107 := eq_true q107
          go_upto_region 6 with (fail)
          go_cut [34] (fun v34 wc => ∃ (kq : Nat) (x34_6 : Bool), v34 = .bool x34_6 ∧ Aside0 (gristmilllaw4_within.j1 kq l0 a1 a3 x10_1 ((rd_T39 l0 x10_1).f2) x34_6 = some r) ∧ Aside0 (kq ≤ k1) ∧ Drawn0 w wc)
          case first => as_aux_lemma =>
            (try simp only [List.append_eq, List.cons_append, List.nil_append])
            have H := HC7.out
            clear HC7
            by_cases c8 : ((rd_T39 l0 x10_1).f2) ≤ x9_1
            · rw [if_pos c8] at H
              have c8b0 : decide (((rd_T39 l0 x10_1).f2) ≤ x9_1) = true := decide_eq_true c8
              clear c8
              (first | rw [c8b0] | (simp only [i64_w, i32_w]; rw [c8b0]) | skip)
              have H' := Aside0.mk H
              clear H
              go_wp2
              go_meet
              case rel => exact ⟨_, (true), (by first | rfl | (simp; done) | (simp [*]; done)), H', ⟨by have := HK1.out; first | omega | exact Nat.le_refl _⟩, by repeat (first | exact Drawn0.refl _ | apply Drawn0.step)⟩
            · rw [if_neg c8] at H
              have c8b0 : decide (((rd_T39 l0 x10_1).f2) ≤ x9_1) = false := decide_eq_false c8
              clear c8
              (first | rw [c8b0] | (simp only [i64_w, i32_w]; rw [c8b0]) | skip)
              have H' := Aside0.mk H
              clear H
              go_wp2
              go_meet
              case rel => exact ⟨_, (decide (((rd_T39 l0 x10_1).f2) ≥ a3)), (by first | rfl | (simp; done) | (simp [*]; done)), H', ⟨by have := HK1.out; first | omega | exact Nat.le_refl _⟩, by repeat (first | exact Drawn0.refl _ | apply Drawn0.step)⟩
          case rest =>
            clear HC7
            try clear c1
            try clear p1
            try clear q1
            try clear hx1
            try clear p2
            try clear c5
            try clear c5b0
            try clear c6
            try clear c6b0
            try clear p6
            try clear c8
            try clear c8b0
            try clear hx107_0
            try clear hx107_1
            try clear hx107_2
            try clear p107
            try clear p2
            try clear q107
            obtain ⟨kq, x34_6, rfl, HA, HJ6, ⟨mc6, rfl⟩⟩ := hcut
            cases kq with
            | zero => exact absurd HA.out (by simp [gristmilllaw4_within.j1])
            | succ kj6 =>
              have H := HA.out
              clear HA
              simp only [gristmilllaw4_within.j1] at H
              by_cases c9 : x34_6 = true
              · subst c9
                have H1 : (some false) = some r := by rw [if_pos rfl] at H; exact H
                clear H
                have H := H1
                clear H1
                obtain rfl := Option.some.inj H
                go_wp2
                go_ret
                exact ⟨by first | rfl | (simp; done) | (simp [*]; done), by repeat (first | exact Drawn0.refl _ | apply Drawn0.step)⟩
              · replace c9 := Bool.eq_false_iff.mpr c9
                subst c9
                have H1 : (if 0 ≤ x10_1 then (if x10_1 < (l0.length : Int) then (if ((rd_T39 l0 x10_1).f0).toList = ([] : List UInt8) then (if 0 ≤ ((rd_T39 l0 x10_1).f2) then (if ((rd_T39 l0 x10_1).f2) < (a1.size : Int) then (if (bt a1 ((rd_T39 l0 x10_1).f2)) = 40 then (if (wrap64 (x10_1 + 1)) < (l0.length : Int) then (if 0 ≤ (wrap64 (x10_1 + 1)) then (gristmilllaw4_within.j2 kj6 l0 a1 a3 x10_1 ((rd_T39 l0 x10_1).f2) ((rd_T39 l0 (wrap64 (x10_1 + 1))).f2)) else (none)) else (gristmilllaw4_within.j2 kj6 l0 a1 a3 x10_1 ((rd_T39 l0 x10_1).f2) a3)) else (some false)) else (none)) else (none)) else (if (wrap64 (((rd_T39 l0 x10_1).f2) + (((rd_T39 l0 x10_1).f0).size : Int))) > a3 then (some false) else (if 0 ≤ ((rd_T39 l0 x10_1).f2) then (if ((rd_T39 l0 x10_1).f2) ≤ (wrap64 (((rd_T39 l0 x10_1).f2) + (((rd_T39 l0 x10_1).f0).size : Int))) then (if (wrap64 (((rd_T39 l0 x10_1).f2) + (((rd_T39 l0 x10_1).f0).size : Int))) ≤ (a1.size : Int) then (if (a1.extract (((rd_T39 l0 x10_1).f2) : Int).toNat ((wrap64 (((rd_T39 l0 x10_1).f2) + (((rd_T39 l0 x10_1).f0).size : Int))) : Int).toNat).toList = ((rd_T39 l0 x10_1).f0).toList then (gristmilllaw4_within.l0 kj6 l0 a1 a3 (wrap64 ((wrap64 (((rd_T39 l0 x10_1).f2) + (((rd_T39 l0 x10_1).f0).size : Int))) - 1)) (wrap64 (x10_1 + 1))) else (some false)) else (none)) else (none)) else (none)))) else (none)) else (none)) = some r := by rw [if_neg (show ¬ (false = true) by decide)] at H; exact H
                clear H
                have H := H1
                clear H1
                by_cases c10 : 0 ≤ x10_1
                · rw [if_pos c10] at H
                  have c10b0 : decide (0 ≤ x10_1) = true := decide_eq_true c10
                  clear c10
                  by_cases c11 : x10_1 < (l0.length : Int)
                  · rw [if_pos c11] at H
                    have c11b0 : decide (x10_1 < (l0.length : Int)) = true := decide_eq_true c11
                    clear c11
                    by_cases c12 : ((rd_T39 l0 x10_1).f0).toList = ([] : List UInt8)
                    · rw [if_pos c12] at H
                      have c12b0 : (((rd_T39 l0 x10_1).f0).toList == ([] : List UInt8)) = true := beq_iff_eq.mpr c12
                      have c12b1 : (((rd_T39 l0 x10_1).f0).toList != ([] : List UInt8)) = false := bne_eq_false_iff_eq.mpr c12
                      clear c12
                      by_cases c13 : 0 ≤ ((rd_T39 l0 x10_1).f2)
                      · rw [if_pos c13] at H
                        have c13b0 : decide (0 ≤ ((rd_T39 l0 x10_1).f2)) = true := decide_eq_true c13
                        clear c13
                        by_cases c14 : ((rd_T39 l0 x10_1).f2) < (a1.size : Int)
                        · rw [if_pos c14] at H
                          have c14b0 : decide (((rd_T39 l0 x10_1).f2) < (a1.size : Int)) = true := decide_eq_true c14
                          clear c14
                          by_cases c16 : (bt a1 ((rd_T39 l0 x10_1).f2)) = 40
                          · rw [if_pos c16] at H
                            have c16b0 : ((bt a1 ((rd_T39 l0 x10_1).f2)) == 40) = true := beq_iff_eq.mpr c16
                            have c16b1 : ((bt a1 ((rd_T39 l0 x10_1).f2)) != 40) = false := bne_eq_false_iff_eq.mpr c16
                            clear c16
                            have HC17 := Aside0.mk H
                            clear H
                            have p108 : 0 ≤ (x10_1 : Int) := of_decide_eq_true (by first | (with_reducible assumption) | assumption)
                            have q108 : x10_1 < (l0.length : Int) := of_decide_eq_true (by first | (with_reducible assumption) | assumption)
                            obtain ⟨ad108, A108_1, c108_1, e108, hx108_0, hx108_1, hx108_2, hl108_1, hi108_1⟩ := at_T39 HR0.out x10_1 p108 q108
                            obtain rfl : ad107 = ad108 := (by injection e108)
                            have HR108_1 := Aside0.mk hi108_1
                            have HC108_1 := Aside0.mk hl108_1
                            clear hi108_1 hl108_1
                            replace p108 := eq_true p108
                            replace q108 := eq_true q108
                            have p15 : 0 ≤ (((rd_T39 l0 x10_1).f2) : Int) := of_decide_eq_true (by first | (with_reducible assumption) | assumption)
                            have q15 : ((rd_T39 l0 x10_1).f2) < (a1.size : Int) := of_decide_eq_true (by first | (with_reducible assumption) | assumption)
                            have hx15 := bt_at a1 ((rd_T39 l0 x10_1).f2)
                            replace p15 := eq_true p15
                            replace q15 := eq_true q15
                            go_upto_if 51 with (fail)
                            go_cut [13] (fun v13 wc => ∃ (kq : Nat) (x13_16 : Int), v13 = .int .i64 x13_16 ∧ Aside0 (gristmilllaw4_within.j2 kq l0 a1 a3 x10_1 ((rd_T39 l0 x10_1).f2) x13_16 = some r) ∧ Aside0 (kq ≤ kj6) ∧ Drawn0 w wc)
                            case first => as_aux_lemma =>
                              (try simp only [List.append_eq, List.cons_append, List.nil_append])
                              have H := HC17.out
                              clear HC17
                              by_cases c18 : (wrap64 (x10_1 + 1)) < (l0.length : Int)
                              · rw [if_pos c18] at H
                                have c18b0 : decide ((wrap64 (x10_1 + 1)) < (l0.length : Int)) = true := decide_eq_true c18
                                clear c18
                                (first | rw [c18b0] | (simp only [i64_w, i32_w]; rw [c18b0]) | skip)
                                obtain ⟨ji19, hji19⟩ : ∃ j_ : Int, (wrap64 (x10_1 + 1)) = j_ := ⟨_, rfl⟩
                                replace H : (if 0 ≤ (ji19) then (gristmilllaw4_within.j2 kj6 l0 a1 a3 x10_1 ((rd_T39 l0 x10_1).f2) ((rd_T39 l0 (ji19)).f2)) else (none)) = some r := by first | (rw [hji19] at H; exact H) | (simp only [hji19] at H ⊢; exact H)
                                (try rw [hji19] at c18b0)
                                have hji19w : (IntKind.i64.wrap (x10_1 + 1)) = ji19 := (i64_w _).trans hji19
                                by_cases c20 : 0 ≤ (ji19)
                                · rw [if_pos c20] at H
                                  have c20b0 : decide (0 ≤ (ji19)) = true := decide_eq_true c20
                                  clear c20
                                  have H' := Aside0.mk H
                                  clear H
                                  have p109 : 0 ≤ ((ji19) : Int) := of_decide_eq_true (by first | (with_reducible assumption) | assumption)
                                  have q109 : (ji19) < (l0.length : Int) := of_decide_eq_true (by first | (with_reducible assumption) | assumption)
                                  obtain ⟨ad109, A109_1, c109_1, e109, hx109_0, hx109_1, hx109_2, hl109_1, hi109_1⟩ := at_T39 HR0.out (ji19) p109 q109
                                  obtain rfl : ad107 = ad109 := (by injection e109)
                                  have HR109_1 := Aside0.mk hi109_1
                                  have HC109_1 := Aside0.mk hl109_1
                                  clear hi109_1 hl109_1
                                  replace p109 := eq_true p109
                                  replace q109 := eq_true q109
                                  go_wp2
                                  go_meet
                                  case rel => exact ⟨_, ((rd_T39 l0 (ji19)).f2), (by first | rfl | (simp; done) | (simp only [← hji19] <;> (first | rfl | simp)) | (simp [*]; done)), H', ⟨by have := HK1.out; have := HJ6.out; first | omega | exact Nat.le_refl _⟩, by repeat (first | exact Drawn0.refl _ | apply Drawn0.step)⟩
                                · rw [if_neg c20] at H
                                  exact absurd H (by simp)
                              · rw [if_neg c18] at H
                                have c18b0 : decide ((wrap64 (x10_1 + 1)) < (l0.length : Int)) = false := decide_eq_false c18
                                clear c18
                                (first | rw [c18b0] | (simp only [i64_w, i32_w]; rw [c18b0]) | skip)
                                have H' := Aside0.mk H
                                clear H
                                go_wp2
                                go_meet
                                case rel => exact ⟨_, (a3), (by first | rfl | (simp; done) | (simp [*]; done)), H', ⟨by have := HK1.out; have := HJ6.out; first | omega | exact Nat.le_refl _⟩, by repeat (first | exact Drawn0.refl _ | apply Drawn0.step)⟩
                            case rest =>
                              clear HC17
                              try clear c1
                              try clear p1
                              try clear q1
                              try clear hx1
                              try clear c2
                              try clear p2
                              try clear c5
                              try clear c5b0
                              try clear c6
                              try clear c6b0
                              try clear p6
                              try clear c8
                              try clear c8b0
                              try clear c9
                              try clear c10
                              try clear c10b0
                              try clear p10
                              try clear q10
                              try clear hx10
                              try clear c11
                              try clear c11b0
                              try clear c12
                              try clear c12b0
                              try clear c12b1
                              try clear c13
                              try clear c13b0
                              try clear c14
                              try clear c14b0
                              try clear p15
                              try clear q15
                              try clear hx15
                              try clear c16
                              try clear c16b0
                              try clear c16b1
                              try clear c18
                              try clear c18b0
                              try clear c20
                              try clear c20b0
                              try clear hx107_0
                              try clear hx107_1
                              try clear hx107_2
                              try clear hx108_0
                              try clear hx108_1
                              try clear hx108_2
                              try clear hx109_0
                              try clear hx109_1
                              try clear hx109_2
                              try clear p1
                              try clear p107
                              try clear p108
                              try clear p109
                              try clear p15
                              try clear p2
                              try clear p6
                              try clear q1
                              try clear q107
                              try clear q108
                              try clear q109
                              try clear q15
                              obtain ⟨kq, x13_16, rfl, HA, HJ16, ⟨mc16, rfl⟩⟩ := hcut
                              cases kq with
                              | zero => exact absurd HA.out (by simp [gristmilllaw4_within.j2])
                              | succ kj16 =>
                                have H := HA.out
                                clear HA
                                simp only [gristmilllaw4_within.j2] at H
                                by_cases c21 : 0 ≤ x10_1
                                · rw [if_pos c21] at H
                                  have c21b0 : decide (0 ≤ x10_1) = true := decide_eq_true c21
                                  clear c21
                                  by_cases c22 : x10_1 < (l0.length : Int)
                                  · rw [if_pos c22] at H
                                    have c22b0 : decide (x10_1 < (l0.length : Int)) = true := decide_eq_true c22
                                    clear c22
                                    replace H := Option.bind_eq_some_iff.mp H
                                    obtain ⟨t111, A230, H⟩ := H
                                    replace H : (if t111 = true then (gristmilllaw4_within.l0 kj16 l0 a1 a3 ((rd_T39 l0 x10_1).f2) (wrap64 (x10_1 + 1))) else (some false)) = some r := H
                                    have A23 := Aside0.mk A230
                                    clear A230
                                    by_cases c24 : t111 = true
                                    · subst c24
                                      have H1 : (gristmilllaw4_within.l0 kj16 l0 a1 a3 ((rd_T39 l0 x10_1).f2) (wrap64 (x10_1 + 1))) = some r := by rw [if_pos rfl] at H; exact H
                                      clear H
                                      have H := H1
                                      clear H1
                                      have H' := Aside0.mk H
                                      clear H
                                      have p110 : 0 ≤ (x10_1 : Int) := of_decide_eq_true (by first | (with_reducible assumption) | assumption)
                                      have q110 : x10_1 < (l0.length : Int) := of_decide_eq_true (by first | (with_reducible assumption) | assumption)
                                      obtain ⟨ad110, A110_1, c110_1, e110, hx110_0, hx110_1, hx110_2, hl110_1, hi110_1⟩ := at_T39 HR0.out x10_1 p110 q110
                                      obtain rfl : ad107 = ad110 := (by injection e110)
                                      have HR110_1 := Aside0.mk hi110_1
                                      have HC110_1 := Aside0.mk hl110_1
                                      clear hi110_1 hl110_1
                                      replace p110 := eq_true p110
                                      replace q110 := eq_true q110
                                      go_wp2_with (first | ((with_reducible refine gate_callee (f := 8) rfl ?_); refine goesL_ (some 67) rfl rfl Tryd.func8 (by kernel_rfl) rfl #[.slice A110_1 ((rd_T39 l0 x10_1).f1).length c110_1, .string a1, .int .i64 (wrap64 (((rd_T39 l0 x10_1).f2) + 1)), .int .i64 x13_16] rfl (by (try simp only [List.map_toArray, List.map_cons, List.map_nil]); first | done | rfl | (simp only [List.length_drop, List.length_take]; rfl)) ?_; (with_reducible refine (ih kj16 (by have := HK1.out; have := HJ6.out; have := HJ16.out; omega) _ _ ((rd_T39 l0 x10_1).f1) a1 (wrap64 (((rd_T39 l0 x10_1).f2) + 1)) x13_16 true _ ?side1 ?side2 A23.out).mono ?_); (case side1 => repeat (first | exact HR110_1.out | (with_reducible refine Kd.C_alloc ?_ _) | (with_reducible refine Kd.C_drewN ?_ _) | (with_reducible refine Kd.C_drew ?_))); (case side2 => exact HC110_1.out); rintro e w' ⟨rfl, ⟨nd, rfl⟩⟩; refine ⟨_, rfl, ?_⟩))
                                      go_roundg kj16
                                      case measure => have := HK1.out; have := HJ6.out; have := HJ16.out; omega
                                      case rel => exact ⟨(((rd_T39 l0 x10_1).f2)), (wrap64 (x10_1 + 1)), (by first | rfl | (simp; done) | (simp [*]; done)), (by first | rfl | (simp; done) | (simp [*]; done)), H', ⟨by have := HK1.out; have := HJ6.out; have := HJ16.out; omega⟩, by repeat (first | exact Drawn0.refl _ | apply Drawn0.step)⟩
                                    · replace c24 := Bool.eq_false_iff.mpr c24
                                      subst c24
                                      have H1 : (some false) = some r := by rw [if_neg (show ¬ (false = true) by decide)] at H; exact H
                                      clear H
                                      have H := H1
                                      clear H1
                                      obtain rfl := Option.some.inj H
                                      have p110 : 0 ≤ (x10_1 : Int) := of_decide_eq_true (by first | (with_reducible assumption) | assumption)
                                      have q110 : x10_1 < (l0.length : Int) := of_decide_eq_true (by first | (with_reducible assumption) | assumption)
                                      obtain ⟨ad110, A110_1, c110_1, e110, hx110_0, hx110_1, hx110_2, hl110_1, hi110_1⟩ := at_T39 HR0.out x10_1 p110 q110
                                      obtain rfl : ad107 = ad110 := (by injection e110)
                                      have HR110_1 := Aside0.mk hi110_1
                                      have HC110_1 := Aside0.mk hl110_1
                                      clear hi110_1 hl110_1
                                      replace p110 := eq_true p110
                                      replace q110 := eq_true q110
                                      go_wp2_with (first | ((with_reducible refine gate_callee (f := 8) rfl ?_); refine goesL_ (some 67) rfl rfl Tryd.func8 (by kernel_rfl) rfl #[.slice A110_1 ((rd_T39 l0 x10_1).f1).length c110_1, .string a1, .int .i64 (wrap64 (((rd_T39 l0 x10_1).f2) + 1)), .int .i64 x13_16] rfl (by (try simp only [List.map_toArray, List.map_cons, List.map_nil]); first | done | rfl | (simp only [List.length_drop, List.length_take]; rfl)) ?_; (with_reducible refine (ih kj16 (by have := HK1.out; have := HJ6.out; have := HJ16.out; omega) _ _ ((rd_T39 l0 x10_1).f1) a1 (wrap64 (((rd_T39 l0 x10_1).f2) + 1)) x13_16 false _ ?side1 ?side2 A23.out).mono ?_); (case side1 => repeat (first | exact HR110_1.out | (with_reducible refine Kd.C_alloc ?_ _) | (with_reducible refine Kd.C_drewN ?_ _) | (with_reducible refine Kd.C_drew ?_))); (case side2 => exact HC110_1.out); rintro e w' ⟨rfl, ⟨nd, rfl⟩⟩; refine ⟨_, rfl, ?_⟩))
                                      go_ret
                                      exact ⟨by first | rfl | (simp; done) | (simp [*]; done), by repeat (first | exact Drawn0.refl _ | apply Drawn0.step)⟩
                                  · rw [if_neg c22] at H
                                    exact absurd H (by simp)
                                · rw [if_neg c21] at H
                                  exact absurd H (by simp)
                          · rw [if_neg c16] at H
                            have c16b0 : ((bt a1 ((rd_T39 l0 x10_1).f2)) == 40) = false := beq_eq_false_iff_ne.mpr c16
                            have c16b1 : ((bt a1 ((rd_T39 l0 x10_1).f2)) != 40) = true := bne_iff_ne.mpr c16
                            obtain rfl := Option.some.inj H
                            have p108 : 0 ≤ (x10_1 : Int) := of_decide_eq_true (by first | (with_reducible assumption) | assumption)
                            have q108 : x10_1 < (l0.length : Int) := of_decide_eq_true (by first | (with_reducible assumption) | assumption)
                            obtain ⟨ad108, A108_1, c108_1, e108, hx108_0, hx108_1, hx108_2, hl108_1, hi108_1⟩ := at_T39 HR0.out x10_1 p108 q108
                            obtain rfl : ad107 = ad108 := (by injection e108)
                            have HR108_1 := Aside0.mk hi108_1
                            have HC108_1 := Aside0.mk hl108_1
                            clear hi108_1 hl108_1
                            replace p108 := eq_true p108
                            replace q108 := eq_true q108
                            have p15 : 0 ≤ (((rd_T39 l0 x10_1).f2) : Int) := of_decide_eq_true (by first | (with_reducible assumption) | assumption)
                            have q15 : ((rd_T39 l0 x10_1).f2) < (a1.size : Int) := of_decide_eq_true (by first | (with_reducible assumption) | assumption)
                            have hx15 := bt_at a1 ((rd_T39 l0 x10_1).f2)
                            replace p15 := eq_true p15
                            replace q15 := eq_true q15
                            go_wp2
                            go_ret
                            exact ⟨by first | rfl | (simp; done) | (simp [*]; done), by repeat (first | exact Drawn0.refl _ | apply Drawn0.step)⟩
                        · rw [if_neg c14] at H
                          exact absurd H (by simp)
                      · rw [if_neg c13] at H
                        exact absurd H (by simp)
                    · rw [if_neg c12] at H
                      have c12b0 : (((rd_T39 l0 x10_1).f0).toList == ([] : List UInt8)) = false := beq_eq_false_iff_ne.mpr c12
                      have c12b1 : (((rd_T39 l0 x10_1).f0).toList != ([] : List UInt8)) = true := bne_iff_ne.mpr c12
                      by_cases c25 : (wrap64 (((rd_T39 l0 x10_1).f2) + (((rd_T39 l0 x10_1).f0).size : Int))) > a3
                      · rw [if_pos c25] at H
                        have c25b0 : decide (a3 < (wrap64 (((rd_T39 l0 x10_1).f2) + (((rd_T39 l0 x10_1).f0).size : Int)))) = true := decide_eq_true c25
                        clear c25
                        obtain rfl := Option.some.inj H
                        have p108 : 0 ≤ (x10_1 : Int) := of_decide_eq_true (by first | (with_reducible assumption) | assumption)
                        have q108 : x10_1 < (l0.length : Int) := of_decide_eq_true (by first | (with_reducible assumption) | assumption)
                        obtain ⟨ad108, A108_1, c108_1, e108, hx108_0, hx108_1, hx108_2, hl108_1, hi108_1⟩ := at_T39 HR0.out x10_1 p108 q108
                        obtain rfl : ad107 = ad108 := (by injection e108)
                        have HR108_1 := Aside0.mk hi108_1
                        have HC108_1 := Aside0.mk hl108_1
                        clear hi108_1 hl108_1
                        replace p108 := eq_true p108
                        replace q108 := eq_true q108
                        go_wp2
                        go_ret
                        exact ⟨by first | rfl | (simp; done) | (simp [*]; done), by repeat (first | exact Drawn0.refl _ | apply Drawn0.step)⟩
                      · rw [if_neg c25] at H
                        have c25b0 : decide (a3 < (wrap64 (((rd_T39 l0 x10_1).f2) + (((rd_T39 l0 x10_1).f0).size : Int)))) = false := decide_eq_false c25
                        clear c25
                        by_cases c26 : 0 ≤ ((rd_T39 l0 x10_1).f2)
                        · rw [if_pos c26] at H
                          have c26b0 := eq_true c26
                          have c26b1 : decide (0 ≤ ((rd_T39 l0 x10_1).f2)) = true := decide_eq_true c26
                          clear c26
                          by_cases c27 : ((rd_T39 l0 x10_1).f2) ≤ (wrap64 (((rd_T39 l0 x10_1).f2) + (((rd_T39 l0 x10_1).f0).size : Int)))
                          · rw [if_pos c27] at H
                            have c27b0 := eq_true c27
                            have c27b1 : decide (((rd_T39 l0 x10_1).f2) ≤ (wrap64 (((rd_T39 l0 x10_1).f2) + (((rd_T39 l0 x10_1).f0).size : Int)))) = true := decide_eq_true c27
                            by_cases c28 : (wrap64 (((rd_T39 l0 x10_1).f2) + (((rd_T39 l0 x10_1).f0).size : Int))) ≤ (a1.size : Int)
                            · rw [if_pos c28] at H
                              have c28b0 := eq_true c28
                              have c28b1 : decide ((wrap64 (((rd_T39 l0 x10_1).f2) + (((rd_T39 l0 x10_1).f0).size : Int))) ≤ (a1.size : Int)) = true := decide_eq_true c28
                              by_cases c29 : (a1.extract (((rd_T39 l0 x10_1).f2) : Int).toNat ((wrap64 (((rd_T39 l0 x10_1).f2) + (((rd_T39 l0 x10_1).f0).size : Int))) : Int).toNat).toList = ((rd_T39 l0 x10_1).f0).toList
                              · rw [if_pos c29] at H
                                have c29b0 : ((a1.extract (((rd_T39 l0 x10_1).f2) : Int).toNat ((wrap64 (((rd_T39 l0 x10_1).f2) + (((rd_T39 l0 x10_1).f0).size : Int))) : Int).toNat).toList == ((rd_T39 l0 x10_1).f0).toList) = true := beq_iff_eq.mpr c29
                                have c29b1 : ((a1.extract (((rd_T39 l0 x10_1).f2) : Int).toNat ((wrap64 (((rd_T39 l0 x10_1).f2) + (((rd_T39 l0 x10_1).f0).size : Int))) : Int).toNat).toList != ((rd_T39 l0 x10_1).f0).toList) = false := bne_eq_false_iff_eq.mpr c29
                                clear c29
                                have H' := Aside0.mk H
                                clear H
                                have p108 : 0 ≤ (x10_1 : Int) := of_decide_eq_true (by first | (with_reducible assumption) | assumption)
                                have q108 : x10_1 < (l0.length : Int) := of_decide_eq_true (by first | (with_reducible assumption) | assumption)
                                obtain ⟨ad108, A108_1, c108_1, e108, hx108_0, hx108_1, hx108_2, hl108_1, hi108_1⟩ := at_T39 HR0.out x10_1 p108 q108
                                obtain rfl : ad107 = ad108 := (by injection e108)
                                have HR108_1 := Aside0.mk hi108_1
                                have HC108_1 := Aside0.mk hl108_1
                                clear hi108_1 hl108_1
                                replace p108 := eq_true p108
                                replace q108 := eq_true q108
                                go_wp2
                                go_roundg kj6
                                case measure => have := HK1.out; have := HJ6.out; omega
                                case rel => exact ⟨(wrap64 ((wrap64 (((rd_T39 l0 x10_1).f2) + (((rd_T39 l0 x10_1).f0).size : Int))) - 1)), (wrap64 (x10_1 + 1)), (by first | rfl | (simp; done) | (simp [*]; done)), (by first | rfl | (simp; done) | (simp [*]; done)), H', ⟨by have := HK1.out; have := HJ6.out; omega⟩, by repeat (first | exact Drawn0.refl _ | apply Drawn0.step)⟩
                              · rw [if_neg c29] at H
                                have c29b0 : ((a1.extract (((rd_T39 l0 x10_1).f2) : Int).toNat ((wrap64 (((rd_T39 l0 x10_1).f2) + (((rd_T39 l0 x10_1).f0).size : Int))) : Int).toNat).toList == ((rd_T39 l0 x10_1).f0).toList) = false := beq_eq_false_iff_ne.mpr c29
                                have c29b1 : ((a1.extract (((rd_T39 l0 x10_1).f2) : Int).toNat ((wrap64 (((rd_T39 l0 x10_1).f2) + (((rd_T39 l0 x10_1).f0).size : Int))) : Int).toNat).toList != ((rd_T39 l0 x10_1).f0).toList) = true := bne_iff_ne.mpr c29
                                obtain rfl := Option.some.inj H
                                have p108 : 0 ≤ (x10_1 : Int) := of_decide_eq_true (by first | (with_reducible assumption) | assumption)
                                have q108 : x10_1 < (l0.length : Int) := of_decide_eq_true (by first | (with_reducible assumption) | assumption)
                                obtain ⟨ad108, A108_1, c108_1, e108, hx108_0, hx108_1, hx108_2, hl108_1, hi108_1⟩ := at_T39 HR0.out x10_1 p108 q108
                                obtain rfl : ad107 = ad108 := (by injection e108)
                                have HR108_1 := Aside0.mk hi108_1
                                have HC108_1 := Aside0.mk hl108_1
                                clear hi108_1 hl108_1
                                replace p108 := eq_true p108
                                replace q108 := eq_true q108
                                go_wp2
                                go_ret
                                exact ⟨by first | rfl | (simp; done) | (simp [*]; done), by repeat (first | exact Drawn0.refl _ | apply Drawn0.step)⟩
                            · rw [if_neg c28] at H
                              exact absurd H (by simp)
                          · rw [if_neg c27] at H
                            exact absurd H (by simp)
                        · rw [if_neg c26] at H
                          exact absurd H (by simp)
                  · rw [if_neg c11] at H
                    exact absurd H (by simp)
                · rw [if_neg c10] at H
                  exact absurd H (by simp)
        · rw [if_neg c6] at H
          exact absurd H (by simp)
      · rw [if_neg c5] at H
        have c5b0 : decide (x10_1 < (l0.length : Int)) = false := decide_eq_false c5
        clear c5
        obtain rfl := Option.some.inj H
        go_wp2
        go_ret
        exact ⟨by first | rfl | (simp; done) | (simp [*]; done), by repeat (first | exact Drawn0.refl _ | apply Drawn0.step)⟩

/-! ### gristmilllaw4_TreePlaces: function 3 -/
def gristmilllaw4_TreePlaces.f (k : Nat) (a0 : ByteArray) : Option (Bool) := (gristmilllaw4_first.f k).bind fun t112 => (if t112 = true then (if (a0.size : Int) > 500 then (some t112) else ((tree_Parse.f k a0).bind fun bt113 => (if bt113.2.isNone = true then ((gristmilllaw4_within.f k bt113.1 a0 0 (a0.size : Int)).bind fun t118 => (some t118)) else (some ((bt113.1.length : Int) == 0))))) else (none))
theorem gristmilllaw4_TreePlaces.mono : ∀ a0 k, LeO (gristmilllaw4_TreePlaces.f k a0) (gristmilllaw4_TreePlaces.f (k + 1) a0) := by
  intro a0 k
  unfold gristmilllaw4_TreePlaces.f
  repeat' first
      | (with_reducible exact gristmilllaw4_first.mono _)
      | (with_reducible exact gristmilllaw4_within.mono _ _ _ _ _)
      | (with_reducible exact tree_Parse.mono _ _)
      | (with_reducible exact LeO.refl _)
      | (with_reducible exact LeO.none _)
      | (with_reducible refine LeO.ite ?_ ?_)
      | (with_reducible refine LeO.bind ?_ (fun _ => ?_))
      | exact gristmilllaw4_first.mono _
      | exact gristmilllaw4_within.mono _ _ _ _ _
      | exact tree_Parse.mono _ _
      | exact LeO.none _
      | refine LeO.ite ?_ ?_
      | refine LeO.bind ?_ (fun _ => ?_)
set_option maxHeartbeats 8000000 in
set_option maxRecDepth 100000 in
theorem gristmilllaw4_TreePlaces.calls (k : Nat) (a0 : ByteArray) (r : Bool) (w : World) (hGG : GG ad w) (h : gristmilllaw4_TreePlaces.f k a0 = some r) :
    Calls Tryd.prog 3 #[.string a0] w fun e w' => e = .returned (.bool r) ∧ Below w.heap.size w w' := by
  have hu25 := Tryd.underlying25
  have HB := Aside0.mk (Below.refl w.heap.size w)
  have H : ((gristmilllaw4_first.f k).bind fun t112 => (if t112 = true then (if (a0.size : Int) > 500 then (some t112) else ((tree_Parse.f k a0).bind fun bt113 => (if bt113.2.isNone = true then ((gristmilllaw4_within.f k bt113.1 a0 0 (a0.size : Int)).bind fun t118 => (some t118)) else (some ((bt113.1.length : Int) == 0))))) else (none))) = some r := h
  clear h
  replace H := Option.bind_eq_some_iff.mp H
  obtain ⟨t112, A20, H⟩ := H
  replace H : (if t112 = true then (if (a0.size : Int) > 500 then (some t112) else ((tree_Parse.f k a0).bind fun bt113 => (if bt113.2.isNone = true then ((gristmilllaw4_within.f k bt113.1 a0 0 (a0.size : Int)).bind fun t118 => (some t118)) else (some ((bt113.1.length : Int) == 0))))) else (none)) = some r := H
  have A2 := Aside0.mk A20
  clear A20
  by_cases c3 : t112 = true
  · subst c3
    have H1 : (if (a0.size : Int) > 500 then (some true) else ((tree_Parse.f k a0).bind fun bt113 => (if bt113.2.isNone = true then ((gristmilllaw4_within.f k bt113.1 a0 0 (a0.size : Int)).bind fun t118 => (some t118)) else (some ((bt113.1.length : Int) == 0))))) = some r := by rw [if_pos rfl] at H; exact H
    clear H
    have H := H1
    clear H1
    by_cases c4 : (a0.size : Int) > 500
    · rw [if_pos c4] at H
      have c4b0 : decide (500 < (a0.size : Int)) = true := decide_eq_true c4
      have c4b1 : decide (500 < a0.size) = true := decide_eq_true (by omega)
      clear c4
      obtain rfl := Option.some.inj H
      go_enter Tryd.func3, Tryd.ntmps3
      go_wp2_with (first | ((with_reducible refine gate_callee (f := 6) rfl ?_); refine goesL_ (some 6) rfl rfl Tryd.func6 (by kernel_rfl) rfl #[] rfl (by (try simp only [List.map_toArray, List.map_cons, List.map_nil]); first | done | rfl | (simp only [List.length_drop, List.length_take]; rfl)) ?_; (with_reducible refine (gristmilllaw4_first.calls (ad := ad) k  true _ ?side1 A2.out).mono ?_); (case side1 => exact GG.below hGG (by repeat (first | (with_reducible first | exact HB.out | apply below_alloc | apply pw_below_drewN | apply below_drew1) | exact HB.out))); rintro e w5 ⟨rfl, hb⟩; refine ⟨_, rfl, ?_⟩; have n0_ := Aside0.mk (below_step (by repeat (first | (with_reducible first | exact HB.out | apply below_alloc | apply pw_below_drewN | apply below_drew1) | exact HB.out)) hb); clear HB; have HB := n0_; clear n0_; (try clear hb); (try clear hb2); (try clear hk); (try clear hi)))
      go_ret
      exact ⟨by first | rfl | (simp [errW_none, errW_some] <;> rfl) | (simp [*, errW_none, errW_some] <;> rfl) | (simp [errW_none, errW_some] <;> (rw [Bool.eq_iff_iff]; simp; done)), by repeat (first | (with_reducible first | exact HB.out | apply below_alloc | apply pw_below_drewN | apply below_drew1) | exact HB.out)⟩
    · rw [if_neg c4] at H
      have c4b0 : decide (500 < (a0.size : Int)) = false := decide_eq_false c4
      have c4b1 : decide (500 < a0.size) = false := decide_eq_false (by omega)
      clear c4
      replace H := Option.bind_eq_some_iff.mp H
      obtain ⟨⟨t113, t114⟩, A60, H⟩ := H
      replace H : (if t114.isNone = true then ((gristmilllaw4_within.f k t113 a0 0 (a0.size : Int)).bind fun t118 => (some t118)) else (some ((t113.length : Int) == 0))) = some r := H
      have A6 := Aside0.mk A60
      clear A60
      rcases t114 with _ | q117
      · have H1 : ((gristmilllaw4_within.f k t113 a0 0 (a0.size : Int)).bind fun t118 => (some t118)) = some r := by rw [if_pos (show (none : Option Int).isNone = true by rfl)] at H; exact H
        clear H
        have H := H1
        clear H1
        try simp only [errW_none, errW_some]
        replace H := Option.bind_eq_some_iff.mp H
        obtain ⟨t118, A70, H⟩ := H
        replace H : (some t118) = some r := H
        have A7 := Aside0.mk A70
        clear A70
        obtain rfl := Option.some.inj H
        go_enter Tryd.func3, Tryd.ntmps3
        go_wp2_with (first | ((with_reducible refine gate_callee (f := 6) rfl ?_); refine goesL_ (some 6) rfl rfl Tryd.func6 (by kernel_rfl) rfl #[] rfl (by (try simp only [List.map_toArray, List.map_cons, List.map_nil]); first | done | rfl | (simp only [List.length_drop, List.length_take]; rfl)) ?_; (with_reducible refine (gristmilllaw4_first.calls (ad := ad) k  true _ ?side1 A2.out).mono ?_); (case side1 => exact GG.below hGG (by repeat (first | (with_reducible first | exact HB.out | apply below_alloc | apply pw_below_drewN | apply below_drew1) | exact HB.out))); rintro e w8 ⟨rfl, hb⟩; refine ⟨_, rfl, ?_⟩; have n0_ := Aside0.mk (below_step (by repeat (first | (with_reducible first | exact HB.out | apply below_alloc | apply pw_below_drewN | apply below_drew1) | exact HB.out)) hb); clear HB; have HB := n0_; clear n0_; (try clear hb); (try clear hb2); (try clear hk); (try clear hi)) | ((with_reducible refine gate_callee (f := 7) rfl ?_); refine goesL_ (some 15) rfl rfl Tryd.func7 (by kernel_rfl) rfl #[.string a0] rfl (by (try simp only [List.map_toArray, List.map_cons, List.map_nil]); first | done | rfl | (simp only [List.length_drop, List.length_take]; rfl)) ?_; (with_reducible refine (tree_Parse.calls (ad := ad) k a0 t113 none _ ?side1 A6.out).mono ?_); (case side1 => exact GG.below hGG (by repeat (first | (with_reducible first | exact HB.out | apply below_alloc | apply pw_below_drewN | apply below_drew1) | exact HB.out))); rintro e w9 ⟨v115, adf, rfl, ho0, hb⟩; refine ⟨_, rfl, ?_⟩; have n0_ := Aside0.mk (Kd.R_lower ho0 (below_size (by repeat (first | (with_reducible first | exact HB.out | apply below_alloc | apply pw_below_drewN | apply below_drew1) | exact HB.out)))); have n1_ := Aside0.mk (below_step (by repeat (first | (with_reducible first | exact HB.out | apply below_alloc | apply pw_below_drewN | apply below_drew1) | exact HB.out)) hb); clear HB; have HO116 := n0_; have HB := n1_; clear n0_ n1_; (try clear hb); (try clear hb2); (try clear hk); (try clear hi); (try clear ho0); (try simp only [errW_none, errW_some]); obtain ⟨Ao10, co10, eo10⟩ := Kd.R_slice HO116.out; subst eo10) | (go_at_call 8; (with_reducible refine (gristmilllaw4_within.calls k _ _ t113 a0 0 (a0.size : Int) t118 _ ?side1 ?side2 A7.out).mono ?_); (case side1 => repeat (first | exact (Kd.R_reads' HO116.out).2.2 | (with_reducible refine Kd.C_alloc ?_ _) | (with_reducible refine Kd.C_drewN ?_ _) | (with_reducible refine Kd.C_drew ?_))); (case side2 => exact (Kd.R_reads' HO116.out).2.1); rintro e w' ⟨rfl, ⟨nd, rfl⟩⟩))
        go_ret
        exact ⟨by first | rfl | (simp [errW_none, errW_some] <;> rfl) | (simp [*, errW_none, errW_some] <;> rfl) | (simp [errW_none, errW_some] <;> (rw [Bool.eq_iff_iff]; simp; done)), by repeat (first | (with_reducible first | exact HB.out | apply below_alloc | apply pw_below_drewN | apply below_drew1) | exact HB.out)⟩
      · have H1 : (some ((t113.length : Int) == 0)) = some r := by rw [if_neg (show ¬ (some q117).isNone = true by simp)] at H; exact H
        clear H
        have H := H1
        clear H1
        try simp only [errW_none, errW_some]
        obtain rfl := Option.some.inj H
        go_enter Tryd.func3, Tryd.ntmps3
        go_wp2_with (first | ((with_reducible refine gate_callee (f := 6) rfl ?_); refine goesL_ (some 6) rfl rfl Tryd.func6 (by kernel_rfl) rfl #[] rfl (by (try simp only [List.map_toArray, List.map_cons, List.map_nil]); first | done | rfl | (simp only [List.length_drop, List.length_take]; rfl)) ?_; (with_reducible refine (gristmilllaw4_first.calls (ad := ad) k  true _ ?side1 A2.out).mono ?_); (case side1 => exact GG.below hGG (by repeat (first | (with_reducible first | exact HB.out | apply below_alloc | apply pw_below_drewN | apply below_drew1) | exact HB.out))); rintro e w11 ⟨rfl, hb⟩; refine ⟨_, rfl, ?_⟩; have n0_ := Aside0.mk (below_step (by repeat (first | (with_reducible first | exact HB.out | apply below_alloc | apply pw_below_drewN | apply below_drew1) | exact HB.out)) hb); clear HB; have HB := n0_; clear n0_; (try clear hb); (try clear hb2); (try clear hk); (try clear hi)) | ((with_reducible refine gate_callee (f := 7) rfl ?_); refine goesL_ (some 15) rfl rfl Tryd.func7 (by kernel_rfl) rfl #[.string a0] rfl (by (try simp only [List.map_toArray, List.map_cons, List.map_nil]); first | done | rfl | (simp only [List.length_drop, List.length_take]; rfl)) ?_; (with_reducible refine (tree_Parse.calls (ad := ad) k a0 t113 (some q117) _ ?side1 A6.out).mono ?_); (case side1 => exact GG.below hGG (by repeat (first | (with_reducible first | exact HB.out | apply below_alloc | apply pw_below_drewN | apply below_drew1) | exact HB.out))); rintro e w12 ⟨v115, adf, rfl, ho0, hb⟩; refine ⟨_, rfl, ?_⟩; have n0_ := Aside0.mk (Kd.R_lower ho0 (below_size (by repeat (first | (with_reducible first | exact HB.out | apply below_alloc | apply pw_below_drewN | apply below_drew1) | exact HB.out)))); have n1_ := Aside0.mk (below_step (by repeat (first | (with_reducible first | exact HB.out | apply below_alloc | apply pw_below_drewN | apply below_drew1) | exact HB.out)) hb); clear HB; have HO116 := n0_; have HB := n1_; clear n0_ n1_; (try clear hb); (try clear hb2); (try clear hk); (try clear hi); (try clear ho0); (try simp only [errW_none, errW_some]); obtain ⟨Ao13, co13, eo13⟩ := Kd.R_slice HO116.out; subst eo13))
        go_ret
        exact ⟨by first | rfl | (simp [errW_none, errW_some] <;> rfl) | (simp [*, errW_none, errW_some] <;> rfl) | (simp [errW_none, errW_some] <;> (rw [Bool.eq_iff_iff]; simp; done)), by repeat (first | (with_reducible first | exact HB.out | apply below_alloc | apply pw_below_drewN | apply below_drew1) | exact HB.out)⟩
  · replace c3 := Bool.eq_false_iff.mpr c3
    subst c3
    have H1 : (none) = some r := by rw [if_neg (show ¬ (false = true) by decide)] at H; exact H
    clear H
    have H := H1
    clear H1
    exact absurd H (by simp)

/-- THE ONE PURE STATEMENT of gristmilllaw4_TreePlaces: yours. -/
def gristmilllaw4_TreePlaces.Pure : Prop := ∀ (a0 : ByteArray), a0.size ≤ 140737488351232 → ∃ k, gristmilllaw4_TreePlaces.f k a0 = some true
theorem gristmilllaw4_TreePlaces.walk (P : gristmilllaw4_TreePlaces.Pure) (a0 : ByteArray) (w : World) (w0 : a0.size ≤ 140737488351232) (hGG : GG ad w) :
    Calls Tryd.prog 3 #[.string a0] w fun e w' => e = .returned (.bool true) ∧ Below w.heap.size w w' := by
  obtain ⟨k, h⟩ := P a0 w0
  refine (gristmilllaw4_TreePlaces.calls k a0 true w hGG h).mono ?_
  rintro e w' ⟨rfl, hd⟩
  exact ⟨rfl, hd⟩

end Go.Proofs.YthbiofcgaegjkaaDoor.PTreeA
