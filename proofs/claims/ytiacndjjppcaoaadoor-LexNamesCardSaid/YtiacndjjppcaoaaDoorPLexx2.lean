/- For each Go function that the laws of this group reach: a plain function with the same answers, and the proof that the call comes to them wherever the plain function has an answer. No other condition. (Laid by a program of this session.) -/
import Derived.Test.YtiacndjjppcaoaaDoorPLexx0
import Derived.Test.YtiacndjjppcaoaaDoorPLexx1
namespace Go.Proofs.YtiacndjjppcaoaaDoor.PLex
open Go.RowKit Go.Proofs.YtiacndjjppcaoaaDoorW.PrintWords Go.Proofs.YtiacndjjppcaoaaDoorW.PrintLast Go.Proofs.YtiacndjjppcaoaaDoorW.PrintMore
attribute [local go_sem] max2_int min2_int max_two min_two max_three min_three max_four min_four   -- for this text's walks alone
set_option linter.unusedVariables false
set_option linter.unusedSimpArgs false

/-! ### gristmilllaw3_LexApart: function 3 -/
mutual
def gristmilllaw3_LexApart.l0 : Nat → List Int → Bool → List ByteArray → List ByteArray → ByteArray → List Int → List ByteArray → Int → Option (Bool)
  | 0, _, _, _, _, _, _, _, _ => none
  | k + 1, x0, x3, x4, x5, x6, x7, x8, x9 => if x9 < (x0.length : Int) then (if 0 ≤ x9 then ((gristmillworld_Number.f (rd x0 x9) (x4.length : Int)).bind fun t135 => (if 0 ≤ t135 then (if t135 < (x4.length : Int) then (if x7.length < 17592186044416 then (if x8.length < 8796093022208 then (if x6.size + (rdOf ByteArray.empty x4 t135).size ≤ 9223372036854775807 then ((gristmillworld_Number.f (wrap64 (Int.tdiv (rd x0 x9) 7)) (x5.length : Int)).bind fun t144 => (if 0 ≤ t144 then (if t144 < (x5.length : Int) then (if (x6 ++ (rdOf ByteArray.empty x4 t135)).size + (rdOf ByteArray.empty x5 t144).size ≤ 9223372036854775807 then (gristmilllaw3_LexApart.l0 k x0 x3 x4 x5 ((x6 ++ (rdOf ByteArray.empty x4 t135)) ++ (rdOf ByteArray.empty x5 t144)) (x7 ++ [(x6.size : Int)]) (x8 ++ [rdOf ByteArray.empty x4 t135]) (wrap64 (x9 + 1))) else (none)) else (none)) else (none))) else (none)) else (none)) else (none)) else (none)) else (none))) else (none)) else ((lex_Words.f k x6).bind fun bt146 => (if bt146.2.isNone = true then (gristmilllaw3_LexApart.j1 k x3 x7 x8 bt146.1 ((bt146.1.length : Int) != (x8.length : Int))) else (gristmilllaw3_LexApart.j1 k x3 x7 x8 bt146.1 true)))
def gristmilllaw3_LexApart.j1 : Nat → Bool → List Int → List ByteArray → List (S32) → Bool → Option (Bool)
  | 0, _, _, _, _, _ => none
  | k + 1, x3, x7, x8, x11, x76 => if x76 = true then (some false) else (gristmilllaw3_LexApart.l1 k x3 x7 x8 x11 0)
def gristmilllaw3_LexApart.l1 : Nat → Bool → List Int → List ByteArray → List (S32) → Int → Option (Bool)
  | 0, _, _, _, _, _ => none
  | k + 1, x3, x7, x8, x11, x13 => if x13 < (x11.length : Int) then (if 0 ≤ x13 then (if x13 < (x8.length : Int) then (if ((rd_T32 x11 x13).f0).toList = (rdOf ByteArray.empty x8 x13).toList then (if x13 < (x7.length : Int) then (if ((rd_T32 x11 x13).f1) = (rd x7 x13) then (gristmilllaw3_LexApart.l1 k x3 x7 x8 x11 (wrap64 (x13 + 1))) else (some false)) else (none)) else (some false)) else (none)) else (none)) else (some x3)
end
def gristmilllaw3_LexApart.f (k : Nat) (l0 : List Int) : Option (Bool) := (gristmilllaw3_first.f k).bind fun t127 => (if t127 = true then (if (l0.length : Int) > 20 then (some t127) else (gristmilllaw3_LexApart.l0 k l0 t127 (([(⟨#[40]⟩ : ByteArray), (⟨#[41]⟩ : ByteArray), (⟨#[97]⟩ : ByteArray), (⟨#[45, 53]⟩ : ByteArray), (⟨#[120, 95, 49]⟩ : ByteArray), (⟨#[102, 43]⟩ : ByteArray), (⟨#[67, 111, 110]⟩ : ByteArray)] : List ByteArray)) (([(⟨#[32]⟩ : ByteArray), (⟨#[10]⟩ : ByteArray), (⟨#[9, 32, 13]⟩ : ByteArray), (⟨#[32, 59, 32, 110, 111, 116, 101, 32, 40, 32, 41, 10]⟩ : ByteArray), (⟨#[59, 10]⟩ : ByteArray)] : List ByteArray)) (⟨#[]⟩ : ByteArray) ([] : List Int) ([] : List ByteArray) 0)) else (some false))
theorem gristmilllaw3_LexApart.mono_l : ∀ k, (∀ y0 y1 y2 y3 y4 y5 y6 y7, LeO (gristmilllaw3_LexApart.l0 k y0 y1 y2 y3 y4 y5 y6 y7) (gristmilllaw3_LexApart.l0 (k + 1) y0 y1 y2 y3 y4 y5 y6 y7)) ∧ (∀ y0 y1 y2 y3 y4, LeO (gristmilllaw3_LexApart.j1 k y0 y1 y2 y3 y4) (gristmilllaw3_LexApart.j1 (k + 1) y0 y1 y2 y3 y4)) ∧ (∀ y0 y1 y2 y3 y4, LeO (gristmilllaw3_LexApart.l1 k y0 y1 y2 y3 y4) (gristmilllaw3_LexApart.l1 (k + 1) y0 y1 y2 y3 y4))
  | 0 => ⟨fun _ _ _ _ _ _ _ _ r h => by simp [gristmilllaw3_LexApart.l0] at h, fun _ _ _ _ _ r h => by simp [gristmilllaw3_LexApart.j1] at h, fun _ _ _ _ _ r h => by simp [gristmilllaw3_LexApart.l1] at h⟩
  | k + 1 => by
    obtain ⟨ih0, ih1, ih2⟩ := gristmilllaw3_LexApart.mono_l k
    refine ⟨?_, ?_, ?_⟩
    · intro y0 y1 y2 y3 y4 y5 y6 y7
      unfold gristmilllaw3_LexApart.l0
      repeat' first
      | (with_reducible exact ih0 _ _ _ _ _ _ _ _)
      | (with_reducible exact ih1 _ _ _ _ _)
      | (with_reducible exact ih2 _ _ _ _ _)
      | (with_reducible exact gristmilllaw3_first.mono _)
      | (with_reducible exact lex_Words.mono _ _)
      | (with_reducible exact LeO.refl _)
      | (with_reducible exact LeO.none _)
      | (with_reducible refine LeO.ite ?_ ?_)
      | (with_reducible refine LeO.bind ?_ (fun _ => ?_))
      | exact ih0 _ _ _ _ _ _ _ _
      | exact ih1 _ _ _ _ _
      | exact ih2 _ _ _ _ _
      | exact gristmilllaw3_first.mono _
      | exact lex_Words.mono _ _
      | exact LeO.none _
      | refine LeO.ite ?_ ?_
      | refine LeO.bind ?_ (fun _ => ?_)
    · intro y0 y1 y2 y3 y4
      unfold gristmilllaw3_LexApart.j1
      repeat' first
      | (with_reducible exact ih0 _ _ _ _ _ _ _ _)
      | (with_reducible exact ih1 _ _ _ _ _)
      | (with_reducible exact ih2 _ _ _ _ _)
      | (with_reducible exact gristmilllaw3_first.mono _)
      | (with_reducible exact lex_Words.mono _ _)
      | (with_reducible exact LeO.refl _)
      | (with_reducible exact LeO.none _)
      | (with_reducible refine LeO.ite ?_ ?_)
      | (with_reducible refine LeO.bind ?_ (fun _ => ?_))
      | exact ih0 _ _ _ _ _ _ _ _
      | exact ih1 _ _ _ _ _
      | exact ih2 _ _ _ _ _
      | exact gristmilllaw3_first.mono _
      | exact lex_Words.mono _ _
      | exact LeO.none _
      | refine LeO.ite ?_ ?_
      | refine LeO.bind ?_ (fun _ => ?_)
    · intro y0 y1 y2 y3 y4
      unfold gristmilllaw3_LexApart.l1
      repeat' first
      | (with_reducible exact ih0 _ _ _ _ _ _ _ _)
      | (with_reducible exact ih1 _ _ _ _ _)
      | (with_reducible exact ih2 _ _ _ _ _)
      | (with_reducible exact gristmilllaw3_first.mono _)
      | (with_reducible exact lex_Words.mono _ _)
      | (with_reducible exact LeO.refl _)
      | (with_reducible exact LeO.none _)
      | (with_reducible refine LeO.ite ?_ ?_)
      | (with_reducible refine LeO.bind ?_ (fun _ => ?_))
      | exact ih0 _ _ _ _ _ _ _ _
      | exact ih1 _ _ _ _ _
      | exact ih2 _ _ _ _ _
      | exact gristmilllaw3_first.mono _
      | exact lex_Words.mono _ _
      | exact LeO.none _
      | refine LeO.ite ?_ ?_
      | refine LeO.bind ?_ (fun _ => ?_)
theorem gristmilllaw3_LexApart.mono : ∀ a0 k, LeO (gristmilllaw3_LexApart.f k a0) (gristmilllaw3_LexApart.f (k + 1) a0) := by
  intro a0 k
  obtain ⟨ih0, ih1, ih2⟩ := gristmilllaw3_LexApart.mono_l k
  unfold gristmilllaw3_LexApart.f
  repeat' first
      | (with_reducible exact ih0 _ _ _ _ _ _ _ _)
      | (with_reducible exact ih1 _ _ _ _ _)
      | (with_reducible exact ih2 _ _ _ _ _)
      | (with_reducible exact gristmilllaw3_first.mono _)
      | (with_reducible exact lex_Words.mono _ _)
      | (with_reducible exact LeO.refl _)
      | (with_reducible exact LeO.none _)
      | (with_reducible refine LeO.ite ?_ ?_)
      | (with_reducible refine LeO.bind ?_ (fun _ => ?_))
      | exact ih0 _ _ _ _ _ _ _ _
      | exact ih1 _ _ _ _ _
      | exact ih2 _ _ _ _ _
      | exact gristmilllaw3_first.mono _
      | exact lex_Words.mono _ _
      | exact LeO.none _
      | refine LeO.ite ?_ ?_
      | refine LeO.bind ?_ (fun _ => ?_)
set_option maxHeartbeats 8000000 in
set_option maxRecDepth 100000 in
theorem gristmilllaw3_LexApart.calls (k : Nat) (A0 : Option Addr) (c0 : Nat) (l0 : List Int) (r : Bool) (w : World) (hr0 : Kd.C (Kd.int .i64) w A0 l0.length l0) (hc0 : l0.length ≤ c0) (h : gristmilllaw3_LexApart.f k l0 = some r) :
    Calls Tryd.prog 3 #[.slice A0 l0.length c0] w fun e w' => e = .returned (.bool r) ∧ Below w.heap.size w w' := by
  have hu28 := Tryd.underlying28
  have HR0 := Aside0.mk hr0
  have HC0 := Aside0.mk hc0
  clear hr0 hc0
  have HB := Aside0.mk (Below.refl w.heap.size w)
  have H : ((gristmilllaw3_first.f k).bind fun t127 => (if t127 = true then (if (l0.length : Int) > 20 then (some t127) else (gristmilllaw3_LexApart.l0 k l0 t127 (([(⟨#[40]⟩ : ByteArray), (⟨#[41]⟩ : ByteArray), (⟨#[97]⟩ : ByteArray), (⟨#[45, 53]⟩ : ByteArray), (⟨#[120, 95, 49]⟩ : ByteArray), (⟨#[102, 43]⟩ : ByteArray), (⟨#[67, 111, 110]⟩ : ByteArray)] : List ByteArray)) (([(⟨#[32]⟩ : ByteArray), (⟨#[10]⟩ : ByteArray), (⟨#[9, 32, 13]⟩ : ByteArray), (⟨#[32, 59, 32, 110, 111, 116, 101, 32, 40, 32, 41, 10]⟩ : ByteArray), (⟨#[59, 10]⟩ : ByteArray)] : List ByteArray)) (⟨#[]⟩ : ByteArray) ([] : List Int) ([] : List ByteArray) 0)) else (some false))) = some r := h
  clear h
  replace H := Option.bind_eq_some_iff.mp H
  obtain ⟨t127, A20, H⟩ := H
  replace H : (if t127 = true then (if (l0.length : Int) > 20 then (some t127) else (gristmilllaw3_LexApart.l0 k l0 t127 (([(⟨#[40]⟩ : ByteArray), (⟨#[41]⟩ : ByteArray), (⟨#[97]⟩ : ByteArray), (⟨#[45, 53]⟩ : ByteArray), (⟨#[120, 95, 49]⟩ : ByteArray), (⟨#[102, 43]⟩ : ByteArray), (⟨#[67, 111, 110]⟩ : ByteArray)] : List ByteArray)) (([(⟨#[32]⟩ : ByteArray), (⟨#[10]⟩ : ByteArray), (⟨#[9, 32, 13]⟩ : ByteArray), (⟨#[32, 59, 32, 110, 111, 116, 101, 32, 40, 32, 41, 10]⟩ : ByteArray), (⟨#[59, 10]⟩ : ByteArray)] : List ByteArray)) (⟨#[]⟩ : ByteArray) ([] : List Int) ([] : List ByteArray) 0)) else (some false)) = some r := H
  have A2 := Aside0.mk A20
  clear A20
  by_cases c3 : t127 = true
  · subst c3
    have H1 : (if (l0.length : Int) > 20 then (some true) else (gristmilllaw3_LexApart.l0 k l0 true (([(⟨#[40]⟩ : ByteArray), (⟨#[41]⟩ : ByteArray), (⟨#[97]⟩ : ByteArray), (⟨#[45, 53]⟩ : ByteArray), (⟨#[120, 95, 49]⟩ : ByteArray), (⟨#[102, 43]⟩ : ByteArray), (⟨#[67, 111, 110]⟩ : ByteArray)] : List ByteArray)) (([(⟨#[32]⟩ : ByteArray), (⟨#[10]⟩ : ByteArray), (⟨#[9, 32, 13]⟩ : ByteArray), (⟨#[32, 59, 32, 110, 111, 116, 101, 32, 40, 32, 41, 10]⟩ : ByteArray), (⟨#[59, 10]⟩ : ByteArray)] : List ByteArray)) (⟨#[]⟩ : ByteArray) ([] : List Int) ([] : List ByteArray) 0)) = some r := by rw [if_pos rfl] at H; exact H
    clear H
    have H := H1
    clear H1
    by_cases c4 : (l0.length : Int) > 20
    · rw [if_pos c4] at H
      have c4b0 : decide (20 < (l0.length : Int)) = true := decide_eq_true c4
      have c4b1 : decide (20 < l0.length) = true := decide_eq_true (by omega)
      clear c4
      obtain rfl := Option.some.inj H
      go_enter Tryd.func3, Tryd.ntmps3
      go_wp2_with (first | (go_at_call 8; (with_reducible refine (gristmilllaw3_first.calls k  true _ A2.out).mono ?_); rintro e w5 ⟨rfl, hb⟩; have n0_ := Aside0.mk (below_step (by repeat (first | (with_reducible first | exact HB.out | apply below_alloc | apply pw_below_drewN | apply below_drew1) | exact HB.out)) hb); clear HB; have HB := n0_; clear n0_; (try clear hb); (try clear hb2); (try clear hk); (try clear hi)))
      repeat (go_quiet (first | (go_at_call 8; (with_reducible refine (gristmilllaw3_first.calls k  true _ A2.out).mono ?_); rintro e w5 ⟨rfl, hb⟩; have n0_ := Aside0.mk (below_step (by repeat (first | (with_reducible first | exact HB.out | apply below_alloc | apply pw_below_drewN | apply below_drew1) | exact HB.out)) hb); clear HB; have HB := n0_; clear n0_; (try clear hb); (try clear hb2); (try clear hk); (try clear hi))); try go_wp2_with (first | (go_at_call 8; (with_reducible refine (gristmilllaw3_first.calls k  true _ A2.out).mono ?_); rintro e w5 ⟨rfl, hb⟩; have n0_ := Aside0.mk (below_step (by repeat (first | (with_reducible first | exact HB.out | apply below_alloc | apply pw_below_drewN | apply below_drew1) | exact HB.out)) hb); clear HB; have HB := n0_; clear n0_; (try clear hb); (try clear hb2); (try clear hk); (try clear hi))))
      go_ret
      exact ⟨by first | rfl | (simp [errW_none, errW_some] <;> rfl) | (simp [*, errW_none, errW_some] <;> rfl), by repeat (first | (with_reducible first | exact HB.out | apply below_alloc | apply pw_below_drewN | apply below_drew1) | exact HB.out)⟩
    · rw [if_neg c4] at H
      have c4b0 : decide (20 < (l0.length : Int)) = false := decide_eq_false c4
      have c4b1 : decide (20 < l0.length) = false := decide_eq_false (by omega)
      clear c4
      obtain ⟨y128, hy128⟩ : ∃ y_ : List ByteArray, y_ = (([(⟨#[40]⟩ : ByteArray), (⟨#[41]⟩ : ByteArray), (⟨#[97]⟩ : ByteArray), (⟨#[45, 53]⟩ : ByteArray), (⟨#[120, 95, 49]⟩ : ByteArray), (⟨#[102, 43]⟩ : ByteArray), (⟨#[67, 111, 110]⟩ : ByteArray)] : List ByteArray)) := ⟨_, rfl⟩
      replace H : (gristmilllaw3_LexApart.l0 k l0 true y128 (([(⟨#[32]⟩ : ByteArray), (⟨#[10]⟩ : ByteArray), (⟨#[9, 32, 13]⟩ : ByteArray), (⟨#[32, 59, 32, 110, 111, 116, 101, 32, 40, 32, 41, 10]⟩ : ByteArray), (⟨#[59, 10]⟩ : ByteArray)] : List ByteArray)) (⟨#[]⟩ : ByteArray) ([] : List Int) ([] : List ByteArray) 0) = some r := by first | (rw [hy128]; with_reducible exact H) | (have H2_ := (Option.bind_some _ _).symm.trans H; rw [hy128]; with_reducible exact H2_) | (have H2_ := (Option.bind_some _ _).symm.trans H; with_reducible exact H2_) | with_reducible exact H | (rw [hy128]; exact H) | exact H
      have Ny128 := Aside0.mk hy128
      clear hy128
      obtain ⟨y131, hy131⟩ : ∃ y_ : List ByteArray, y_ = (([(⟨#[32]⟩ : ByteArray), (⟨#[10]⟩ : ByteArray), (⟨#[9, 32, 13]⟩ : ByteArray), (⟨#[32, 59, 32, 110, 111, 116, 101, 32, 40, 32, 41, 10]⟩ : ByteArray), (⟨#[59, 10]⟩ : ByteArray)] : List ByteArray)) := ⟨_, rfl⟩
      replace H : (gristmilllaw3_LexApart.l0 k l0 true y128 y131 (⟨#[]⟩ : ByteArray) ([] : List Int) ([] : List ByteArray) 0) = some r := by first | (rw [hy131]; with_reducible exact H) | (have H2_ := (Option.bind_some _ _).symm.trans H; rw [hy131]; with_reducible exact H2_) | (have H2_ := (Option.bind_some _ _).symm.trans H; with_reducible exact H2_) | with_reducible exact H | (rw [hy131]; exact H) | exact H
      have Ny131 := Aside0.mk hy131
      clear hy131
      have H' := Aside0.mk H
      clear H
      go_enter Tryd.func3, Tryd.ntmps3
      go_wp2_with (first | (go_at_call 8; (with_reducible refine (gristmilllaw3_first.calls k  true _ A2.out).mono ?_); rintro e w6 ⟨rfl, hb⟩; have n0_ := Aside0.mk (below_step (by repeat (first | (with_reducible first | exact HB.out | apply below_alloc | apply pw_below_drewN | apply below_drew1) | exact HB.out)) hb); clear HB; have HB := n0_; clear n0_; (try clear hb); (try clear hb2); (try clear hk); (try clear hi)) | ((with_reducible refine gate_dst (N := 21) rfl ?_); (try (refine gate_guard (by rfl) ?_; dsimp only)); refine Kd.R_lit Kd.string _ 9 ?hg (N := 21) ?hd (xs := ([(⟨#[40]⟩ : ByteArray), (⟨#[41]⟩ : ByteArray), (⟨#[97]⟩ : ByteArray), (⟨#[45, 53]⟩ : ByteArray), (⟨#[120, 95, 49]⟩ : ByteArray), (⟨#[102, 43]⟩ : ByteArray), (⟨#[67, 111, 110]⟩ : ByteArray)] : List ByteArray)) (inner := [.string (⟨#[40]⟩ : ByteArray), .string (⟨#[41]⟩ : ByteArray), .string (⟨#[97]⟩ : ByteArray), .string (⟨#[45, 53]⟩ : ByteArray), .string (⟨#[120, 95, 49]⟩ : ByteArray), .string (⟨#[102, 43]⟩ : ByteArray), .string (⟨#[67, 111, 110]⟩ : ByteArray)]) (ok := fun _ => True) (okp := fun _ => True) ?hr ?hp (fun _ hk => hk) trivial (Below.refl _ _) (Nat.le_refl _) (by simp) ?_; (case hd => rfl); (case hg => rfl); (case hr => first | (go_simp; done) | (go_simp; rfl)); (case hp => exact (Reps.one (show Kd.M Kd.string _ _ _ (⟨#[40]⟩ : ByteArray) [.string (⟨#[40]⟩ : ByteArray)] from rfl) (Reps.one (show Kd.M Kd.string _ _ _ (⟨#[41]⟩ : ByteArray) [.string (⟨#[41]⟩ : ByteArray)] from rfl) (Reps.one (show Kd.M Kd.string _ _ _ (⟨#[97]⟩ : ByteArray) [.string (⟨#[97]⟩ : ByteArray)] from rfl) (Reps.one (show Kd.M Kd.string _ _ _ (⟨#[45, 53]⟩ : ByteArray) [.string (⟨#[45, 53]⟩ : ByteArray)] from rfl) (Reps.one (show Kd.M Kd.string _ _ _ (⟨#[120, 95, 49]⟩ : ByteArray) [.string (⟨#[120, 95, 49]⟩ : ByteArray)] from rfl) (Reps.one (show Kd.M Kd.string _ _ _ (⟨#[102, 43]⟩ : ByteArray) [.string (⟨#[102, 43]⟩ : ByteArray)] from rfl) (Reps.one (show Kd.M Kd.string _ _ _ (⟨#[67, 111, 110]⟩ : ByteArray) [.string (⟨#[67, 111, 110]⟩ : ByteArray)] from rfl) (Reps.none _ _))))))))); intro v129 w7 ho8 hb hg_ hnew_; clear hg_ hnew_; (first | rw [← Ny128.out] at ho8 | (simp only [Int.reduceToNat] at ho8; rw [← Ny128.out] at ho8)); have n0_ := Aside0.mk (Kd.R_lower ho8 (below_size (by repeat (first | (with_reducible first | exact HB.out | apply below_alloc | apply pw_below_drewN | apply below_drew1) | exact HB.out)))); have n1_ := Aside0.mk (below_step (by repeat (first | (with_reducible first | exact HB.out | apply below_alloc | apply pw_below_drewN | apply below_drew1) | exact HB.out)) hb); clear HB; have HO130 := n0_; have HB := n1_; clear n0_ n1_; clear hb ho8) | ((with_reducible refine gate_dst (N := 22) rfl ?_); (try (refine gate_guard (by rfl) ?_; dsimp only)); refine Kd.R_lit Kd.string _ 9 ?hg (N := 22) ?hd (xs := ([(⟨#[32]⟩ : ByteArray), (⟨#[10]⟩ : ByteArray), (⟨#[9, 32, 13]⟩ : ByteArray), (⟨#[32, 59, 32, 110, 111, 116, 101, 32, 40, 32, 41, 10]⟩ : ByteArray), (⟨#[59, 10]⟩ : ByteArray)] : List ByteArray)) (inner := [.string (⟨#[32]⟩ : ByteArray), .string (⟨#[10]⟩ : ByteArray), .string (⟨#[9, 32, 13]⟩ : ByteArray), .string (⟨#[32, 59, 32, 110, 111, 116, 101, 32, 40, 32, 41, 10]⟩ : ByteArray), .string (⟨#[59, 10]⟩ : ByteArray)]) (ok := fun _ => True) (okp := fun _ => True) ?hr ?hp (fun _ hk => hk) trivial (Below.refl _ _) (Nat.le_refl _) (by simp) ?_; (case hd => rfl); (case hg => rfl); (case hr => first | (go_simp; done) | (go_simp; rfl)); (case hp => exact (Reps.one (show Kd.M Kd.string _ _ _ (⟨#[32]⟩ : ByteArray) [.string (⟨#[32]⟩ : ByteArray)] from rfl) (Reps.one (show Kd.M Kd.string _ _ _ (⟨#[10]⟩ : ByteArray) [.string (⟨#[10]⟩ : ByteArray)] from rfl) (Reps.one (show Kd.M Kd.string _ _ _ (⟨#[9, 32, 13]⟩ : ByteArray) [.string (⟨#[9, 32, 13]⟩ : ByteArray)] from rfl) (Reps.one (show Kd.M Kd.string _ _ _ (⟨#[32, 59, 32, 110, 111, 116, 101, 32, 40, 32, 41, 10]⟩ : ByteArray) [.string (⟨#[32, 59, 32, 110, 111, 116, 101, 32, 40, 32, 41, 10]⟩ : ByteArray)] from rfl) (Reps.one (show Kd.M Kd.string _ _ _ (⟨#[59, 10]⟩ : ByteArray) [.string (⟨#[59, 10]⟩ : ByteArray)] from rfl) (Reps.none _ _))))))); intro v132 w9 ho10 hb hg_ hnew_; clear hg_ hnew_; (first | rw [← Ny131.out] at ho10 | (simp only [Int.reduceToNat] at ho10; rw [← Ny131.out] at ho10)); have n0_ := Aside0.mk (Kd.R_elder' (by (with_reducible repeat (first | apply Kd.R_alloc | apply Kd.R_drewN | apply Kd.R_drew)); exact HO130.out) (Kd.R_base ho10) hb); have n1_ := Aside0.mk (Kd.R_lower (Kd.R_new' ho10 (Kd.R_lt (by (with_reducible repeat (first | apply Kd.R_alloc | apply Kd.R_drewN | apply Kd.R_drew)); exact HO130.out))) (below_size (by repeat (first | (with_reducible first | exact HB.out | apply below_alloc | apply pw_below_drewN | apply below_drew1) | exact HB.out)))); have n2_ := Aside0.mk (below_step (by repeat (first | (with_reducible first | exact HB.out | apply below_alloc | apply pw_below_drewN | apply below_drew1) | exact HB.out)) hb); clear HO130; clear HB; have HO130 := n0_; have HO133 := n1_; have HB := n2_; clear n0_ n1_ n2_; clear hb ho10))
      repeat (go_quiet (first | (go_at_call 8; (with_reducible refine (gristmilllaw3_first.calls k  true _ A2.out).mono ?_); rintro e w6 ⟨rfl, hb⟩; have n0_ := Aside0.mk (below_step (by repeat (first | (with_reducible first | exact HB.out | apply below_alloc | apply pw_below_drewN | apply below_drew1) | exact HB.out)) hb); clear HB; have HB := n0_; clear n0_; (try clear hb); (try clear hb2); (try clear hk); (try clear hi)) | ((with_reducible refine gate_dst (N := 21) rfl ?_); (try (refine gate_guard (by rfl) ?_; dsimp only)); refine Kd.R_lit Kd.string _ 9 ?hg (N := 21) ?hd (xs := ([(⟨#[40]⟩ : ByteArray), (⟨#[41]⟩ : ByteArray), (⟨#[97]⟩ : ByteArray), (⟨#[45, 53]⟩ : ByteArray), (⟨#[120, 95, 49]⟩ : ByteArray), (⟨#[102, 43]⟩ : ByteArray), (⟨#[67, 111, 110]⟩ : ByteArray)] : List ByteArray)) (inner := [.string (⟨#[40]⟩ : ByteArray), .string (⟨#[41]⟩ : ByteArray), .string (⟨#[97]⟩ : ByteArray), .string (⟨#[45, 53]⟩ : ByteArray), .string (⟨#[120, 95, 49]⟩ : ByteArray), .string (⟨#[102, 43]⟩ : ByteArray), .string (⟨#[67, 111, 110]⟩ : ByteArray)]) (ok := fun _ => True) (okp := fun _ => True) ?hr ?hp (fun _ hk => hk) trivial (Below.refl _ _) (Nat.le_refl _) (by simp) ?_; (case hd => rfl); (case hg => rfl); (case hr => first | (go_simp; done) | (go_simp; rfl)); (case hp => exact (Reps.one (show Kd.M Kd.string _ _ _ (⟨#[40]⟩ : ByteArray) [.string (⟨#[40]⟩ : ByteArray)] from rfl) (Reps.one (show Kd.M Kd.string _ _ _ (⟨#[41]⟩ : ByteArray) [.string (⟨#[41]⟩ : ByteArray)] from rfl) (Reps.one (show Kd.M Kd.string _ _ _ (⟨#[97]⟩ : ByteArray) [.string (⟨#[97]⟩ : ByteArray)] from rfl) (Reps.one (show Kd.M Kd.string _ _ _ (⟨#[45, 53]⟩ : ByteArray) [.string (⟨#[45, 53]⟩ : ByteArray)] from rfl) (Reps.one (show Kd.M Kd.string _ _ _ (⟨#[120, 95, 49]⟩ : ByteArray) [.string (⟨#[120, 95, 49]⟩ : ByteArray)] from rfl) (Reps.one (show Kd.M Kd.string _ _ _ (⟨#[102, 43]⟩ : ByteArray) [.string (⟨#[102, 43]⟩ : ByteArray)] from rfl) (Reps.one (show Kd.M Kd.string _ _ _ (⟨#[67, 111, 110]⟩ : ByteArray) [.string (⟨#[67, 111, 110]⟩ : ByteArray)] from rfl) (Reps.none _ _))))))))); intro v129 w7 ho8 hb hg_ hnew_; clear hg_ hnew_; (first | rw [← Ny128.out] at ho8 | (simp only [Int.reduceToNat] at ho8; rw [← Ny128.out] at ho8)); have n0_ := Aside0.mk (Kd.R_lower ho8 (below_size (by repeat (first | (with_reducible first | exact HB.out | apply below_alloc | apply pw_below_drewN | apply below_drew1) | exact HB.out)))); have n1_ := Aside0.mk (below_step (by repeat (first | (with_reducible first | exact HB.out | apply below_alloc | apply pw_below_drewN | apply below_drew1) | exact HB.out)) hb); clear HB; have HO130 := n0_; have HB := n1_; clear n0_ n1_; clear hb ho8) | ((with_reducible refine gate_dst (N := 22) rfl ?_); (try (refine gate_guard (by rfl) ?_; dsimp only)); refine Kd.R_lit Kd.string _ 9 ?hg (N := 22) ?hd (xs := ([(⟨#[32]⟩ : ByteArray), (⟨#[10]⟩ : ByteArray), (⟨#[9, 32, 13]⟩ : ByteArray), (⟨#[32, 59, 32, 110, 111, 116, 101, 32, 40, 32, 41, 10]⟩ : ByteArray), (⟨#[59, 10]⟩ : ByteArray)] : List ByteArray)) (inner := [.string (⟨#[32]⟩ : ByteArray), .string (⟨#[10]⟩ : ByteArray), .string (⟨#[9, 32, 13]⟩ : ByteArray), .string (⟨#[32, 59, 32, 110, 111, 116, 101, 32, 40, 32, 41, 10]⟩ : ByteArray), .string (⟨#[59, 10]⟩ : ByteArray)]) (ok := fun _ => True) (okp := fun _ => True) ?hr ?hp (fun _ hk => hk) trivial (Below.refl _ _) (Nat.le_refl _) (by simp) ?_; (case hd => rfl); (case hg => rfl); (case hr => first | (go_simp; done) | (go_simp; rfl)); (case hp => exact (Reps.one (show Kd.M Kd.string _ _ _ (⟨#[32]⟩ : ByteArray) [.string (⟨#[32]⟩ : ByteArray)] from rfl) (Reps.one (show Kd.M Kd.string _ _ _ (⟨#[10]⟩ : ByteArray) [.string (⟨#[10]⟩ : ByteArray)] from rfl) (Reps.one (show Kd.M Kd.string _ _ _ (⟨#[9, 32, 13]⟩ : ByteArray) [.string (⟨#[9, 32, 13]⟩ : ByteArray)] from rfl) (Reps.one (show Kd.M Kd.string _ _ _ (⟨#[32, 59, 32, 110, 111, 116, 101, 32, 40, 32, 41, 10]⟩ : ByteArray) [.string (⟨#[32, 59, 32, 110, 111, 116, 101, 32, 40, 32, 41, 10]⟩ : ByteArray)] from rfl) (Reps.one (show Kd.M Kd.string _ _ _ (⟨#[59, 10]⟩ : ByteArray) [.string (⟨#[59, 10]⟩ : ByteArray)] from rfl) (Reps.none _ _))))))); intro v132 w9 ho10 hb hg_ hnew_; clear hg_ hnew_; (first | rw [← Ny131.out] at ho10 | (simp only [Int.reduceToNat] at ho10; rw [← Ny131.out] at ho10)); have n0_ := Aside0.mk (Kd.R_elder' (by (with_reducible repeat (first | apply Kd.R_alloc | apply Kd.R_drewN | apply Kd.R_drew)); exact HO130.out) (Kd.R_base ho10) hb); have n1_ := Aside0.mk (Kd.R_lower (Kd.R_new' ho10 (Kd.R_lt (by (with_reducible repeat (first | apply Kd.R_alloc | apply Kd.R_drewN | apply Kd.R_drew)); exact HO130.out))) (below_size (by repeat (first | (with_reducible first | exact HB.out | apply below_alloc | apply pw_below_drewN | apply below_drew1) | exact HB.out)))); have n2_ := Aside0.mk (below_step (by repeat (first | (with_reducible first | exact HB.out | apply below_alloc | apply pw_below_drewN | apply below_drew1) | exact HB.out)) hb); clear HO130; clear HB; have HO130 := n0_; have HO133 := n1_; have HB := n2_; clear n0_ n1_ n2_; clear hb ho10)); try go_wp2_with (first | (go_at_call 8; (with_reducible refine (gristmilllaw3_first.calls k  true _ A2.out).mono ?_); rintro e w6 ⟨rfl, hb⟩; have n0_ := Aside0.mk (below_step (by repeat (first | (with_reducible first | exact HB.out | apply below_alloc | apply pw_below_drewN | apply below_drew1) | exact HB.out)) hb); clear HB; have HB := n0_; clear n0_; (try clear hb); (try clear hb2); (try clear hk); (try clear hi)) | ((with_reducible refine gate_dst (N := 21) rfl ?_); (try (refine gate_guard (by rfl) ?_; dsimp only)); refine Kd.R_lit Kd.string _ 9 ?hg (N := 21) ?hd (xs := ([(⟨#[40]⟩ : ByteArray), (⟨#[41]⟩ : ByteArray), (⟨#[97]⟩ : ByteArray), (⟨#[45, 53]⟩ : ByteArray), (⟨#[120, 95, 49]⟩ : ByteArray), (⟨#[102, 43]⟩ : ByteArray), (⟨#[67, 111, 110]⟩ : ByteArray)] : List ByteArray)) (inner := [.string (⟨#[40]⟩ : ByteArray), .string (⟨#[41]⟩ : ByteArray), .string (⟨#[97]⟩ : ByteArray), .string (⟨#[45, 53]⟩ : ByteArray), .string (⟨#[120, 95, 49]⟩ : ByteArray), .string (⟨#[102, 43]⟩ : ByteArray), .string (⟨#[67, 111, 110]⟩ : ByteArray)]) (ok := fun _ => True) (okp := fun _ => True) ?hr ?hp (fun _ hk => hk) trivial (Below.refl _ _) (Nat.le_refl _) (by simp) ?_; (case hd => rfl); (case hg => rfl); (case hr => first | (go_simp; done) | (go_simp; rfl)); (case hp => exact (Reps.one (show Kd.M Kd.string _ _ _ (⟨#[40]⟩ : ByteArray) [.string (⟨#[40]⟩ : ByteArray)] from rfl) (Reps.one (show Kd.M Kd.string _ _ _ (⟨#[41]⟩ : ByteArray) [.string (⟨#[41]⟩ : ByteArray)] from rfl) (Reps.one (show Kd.M Kd.string _ _ _ (⟨#[97]⟩ : ByteArray) [.string (⟨#[97]⟩ : ByteArray)] from rfl) (Reps.one (show Kd.M Kd.string _ _ _ (⟨#[45, 53]⟩ : ByteArray) [.string (⟨#[45, 53]⟩ : ByteArray)] from rfl) (Reps.one (show Kd.M Kd.string _ _ _ (⟨#[120, 95, 49]⟩ : ByteArray) [.string (⟨#[120, 95, 49]⟩ : ByteArray)] from rfl) (Reps.one (show Kd.M Kd.string _ _ _ (⟨#[102, 43]⟩ : ByteArray) [.string (⟨#[102, 43]⟩ : ByteArray)] from rfl) (Reps.one (show Kd.M Kd.string _ _ _ (⟨#[67, 111, 110]⟩ : ByteArray) [.string (⟨#[67, 111, 110]⟩ : ByteArray)] from rfl) (Reps.none _ _))))))))); intro v129 w7 ho8 hb hg_ hnew_; clear hg_ hnew_; (first | rw [← Ny128.out] at ho8 | (simp only [Int.reduceToNat] at ho8; rw [← Ny128.out] at ho8)); have n0_ := Aside0.mk (Kd.R_lower ho8 (below_size (by repeat (first | (with_reducible first | exact HB.out | apply below_alloc | apply pw_below_drewN | apply below_drew1) | exact HB.out)))); have n1_ := Aside0.mk (below_step (by repeat (first | (with_reducible first | exact HB.out | apply below_alloc | apply pw_below_drewN | apply below_drew1) | exact HB.out)) hb); clear HB; have HO130 := n0_; have HB := n1_; clear n0_ n1_; clear hb ho8) | ((with_reducible refine gate_dst (N := 22) rfl ?_); (try (refine gate_guard (by rfl) ?_; dsimp only)); refine Kd.R_lit Kd.string _ 9 ?hg (N := 22) ?hd (xs := ([(⟨#[32]⟩ : ByteArray), (⟨#[10]⟩ : ByteArray), (⟨#[9, 32, 13]⟩ : ByteArray), (⟨#[32, 59, 32, 110, 111, 116, 101, 32, 40, 32, 41, 10]⟩ : ByteArray), (⟨#[59, 10]⟩ : ByteArray)] : List ByteArray)) (inner := [.string (⟨#[32]⟩ : ByteArray), .string (⟨#[10]⟩ : ByteArray), .string (⟨#[9, 32, 13]⟩ : ByteArray), .string (⟨#[32, 59, 32, 110, 111, 116, 101, 32, 40, 32, 41, 10]⟩ : ByteArray), .string (⟨#[59, 10]⟩ : ByteArray)]) (ok := fun _ => True) (okp := fun _ => True) ?hr ?hp (fun _ hk => hk) trivial (Below.refl _ _) (Nat.le_refl _) (by simp) ?_; (case hd => rfl); (case hg => rfl); (case hr => first | (go_simp; done) | (go_simp; rfl)); (case hp => exact (Reps.one (show Kd.M Kd.string _ _ _ (⟨#[32]⟩ : ByteArray) [.string (⟨#[32]⟩ : ByteArray)] from rfl) (Reps.one (show Kd.M Kd.string _ _ _ (⟨#[10]⟩ : ByteArray) [.string (⟨#[10]⟩ : ByteArray)] from rfl) (Reps.one (show Kd.M Kd.string _ _ _ (⟨#[9, 32, 13]⟩ : ByteArray) [.string (⟨#[9, 32, 13]⟩ : ByteArray)] from rfl) (Reps.one (show Kd.M Kd.string _ _ _ (⟨#[32, 59, 32, 110, 111, 116, 101, 32, 40, 32, 41, 10]⟩ : ByteArray) [.string (⟨#[32, 59, 32, 110, 111, 116, 101, 32, 40, 32, 41, 10]⟩ : ByteArray)] from rfl) (Reps.one (show Kd.M Kd.string _ _ _ (⟨#[59, 10]⟩ : ByteArray) [.string (⟨#[59, 10]⟩ : ByteArray)] from rfl) (Reps.none _ _))))))); intro v132 w9 ho10 hb hg_ hnew_; clear hg_ hnew_; (first | rw [← Ny131.out] at ho10 | (simp only [Int.reduceToNat] at ho10; rw [← Ny131.out] at ho10)); have n0_ := Aside0.mk (Kd.R_elder' (by (with_reducible repeat (first | apply Kd.R_alloc | apply Kd.R_drewN | apply Kd.R_drew)); exact HO130.out) (Kd.R_base ho10) hb); have n1_ := Aside0.mk (Kd.R_lower (Kd.R_new' ho10 (Kd.R_lt (by (with_reducible repeat (first | apply Kd.R_alloc | apply Kd.R_drewN | apply Kd.R_drew)); exact HO130.out))) (below_size (by repeat (first | (with_reducible first | exact HB.out | apply below_alloc | apply pw_below_drewN | apply below_drew1) | exact HB.out)))); have n2_ := Aside0.mk (below_step (by repeat (first | (with_reducible first | exact HB.out | apply below_alloc | apply pw_below_drewN | apply below_drew1) | exact HB.out)) hb); clear HO130; clear HB; have HO130 := n0_; have HO133 := n1_; have HB := n2_; clear n0_ n1_ n2_; clear hb ho10)))
      go_loopg [6, 7, 8, 9] k (fun kq v6 v7 v8 v9 w' => ∃ (x6_1 : ByteArray) (x7_1 : List Int) (x8_1 : List ByteArray) (x9_1 : Int), v6 = .string x6_1 ∧ v9 = .int .i64 x9_1 ∧ Aside0 (gristmilllaw3_LexApart.l0 kq l0 true y128 y131 x6_1 x7_1 x8_1 x9_1 = some r) ∧ Aside0 (kq ≤ k) ∧ Aside0 (Kd.R Kd.string 9 w' w.heap.size (fun k_ => some k_ ≠ (v132 : Value).ownBlock ∧ some k_ ≠ (v8 : Value).ownBlock) v129 y128) ∧ Aside0 (Kd.R Kd.string 9 w' w.heap.size (fun k_ => some k_ ≠ (v129 : Value).ownBlock ∧ some k_ ≠ (v8 : Value).ownBlock) v132 y131) ∧ Aside0 (Kd.R (Kd.int .i64) 3 w' w.heap.size (fun _ => True) v7 x7_1) ∧ Aside0 (Kd.R Kd.string 9 w' w.heap.size (fun k_ => some k_ ≠ (v129 : Value).ownBlock ∧ some k_ ≠ (v132 : Value).ownBlock) v8 x8_1) ∧ Aside0 (Below w.heap.size w w'))
      case atStart => exact ⟨((⟨#[]⟩ : ByteArray)), (([] : List Int)), (([] : List ByteArray)), (0), (by first | rfl | (simp; done) | (simp [*]; done)), (by first | rfl | (simp; done) | (simp [*]; done)), H', ⟨Nat.le_refl _⟩, ⟨by (with_reducible repeat (first | apply Kd.R_alloc | apply Kd.R_drewN | apply Kd.R_drew)); exact Kd.R_mono HO130.out (fun _ hk => ⟨hk.2, (by simp [Value.ownBlock])⟩)⟩, ⟨by (with_reducible repeat (first | apply Kd.R_alloc | apply Kd.R_drewN | apply Kd.R_drew)); exact Kd.R_mono HO133.out (fun _ hk => ⟨hk.2, (by simp [Value.ownBlock])⟩)⟩, ⟨by first | exact Kd.R_nil _ _ _ _ _ | exact Kd.N_nil _ _ _ _ _ | exact Kd.V_nil _ _ _ _ _ | exact Kd.Q_nil _ _ _ _ _ | exact Kd.S_nil _ _ _ _ _⟩, ⟨by first | exact Kd.R_nil _ _ _ _ _ | exact Kd.N_nil _ _ _ _ _ | exact Kd.V_nil _ _ _ _ _ | exact Kd.Q_nil _ _ _ _ _ | exact Kd.S_nil _ _ _ _ _⟩, ⟨by repeat (first | (with_reducible first | exact HB.out | apply below_alloc | apply pw_below_drewN | apply below_drew1) | exact HB.out)⟩⟩
      case round =>
        clear H'
        try clear p2
        try clear c3
        try clear c4
        try clear c4b0
        try clear c4b1
        obtain ⟨x6_1, x7_1, x8_1, x9_1, rfl, rfl, HA, HK1, HO_4, HO_5, HO_7, HO_8, HB⟩ := hrel
        cases gk with
        | zero => exact absurd HA.out (by simp [gristmilllaw3_LexApart.l0])
        | succ k1 =>
          have H := HA.out
          clear HA
          simp only [gristmilllaw3_LexApart.l0] at H
          by_cases c11 : x9_1 < (l0.length : Int)
          · rw [if_pos c11] at H
            have c11b0 : decide (x9_1 < (l0.length : Int)) = true := decide_eq_true c11
            clear c11
            by_cases c12 : 0 ≤ x9_1
            · rw [if_pos c12] at H
              have c12b0 : decide (0 ≤ x9_1) = true := decide_eq_true c12
              clear c12
              replace H := Option.bind_eq_some_iff.mp H
              obtain ⟨t135, A130, H⟩ := H
              replace H : (if 0 ≤ t135 then (if t135 < (y128.length : Int) then (if x7_1.length < 17592186044416 then (if x8_1.length < 8796093022208 then (if x6_1.size + (rdOf ByteArray.empty y128 t135).size ≤ 9223372036854775807 then ((gristmillworld_Number.f (wrap64 (Int.tdiv (rd l0 x9_1) 7)) (y131.length : Int)).bind fun t144 => (if 0 ≤ t144 then (if t144 < (y131.length : Int) then (if (x6_1 ++ (rdOf ByteArray.empty y128 t135)).size + (rdOf ByteArray.empty y131 t144).size ≤ 9223372036854775807 then (gristmilllaw3_LexApart.l0 k1 l0 true y128 y131 ((x6_1 ++ (rdOf ByteArray.empty y128 t135)) ++ (rdOf ByteArray.empty y131 t144)) (x7_1 ++ [(x6_1.size : Int)]) (x8_1 ++ [rdOf ByteArray.empty y128 t135]) (wrap64 (x9_1 + 1))) else (none)) else (none)) else (none))) else (none)) else (none)) else (none)) else (none)) else (none)) = some r := H
              have A13 := Aside0.mk A130
              clear A130
              by_cases c14 : 0 ≤ t135
              · rw [if_pos c14] at H
                have c14b0 : decide (0 ≤ t135) = true := decide_eq_true c14
                clear c14
                by_cases c15 : t135 < (y128.length : Int)
                · rw [if_pos c15] at H
                  have c15b0 : decide (t135 < (y128.length : Int)) = true := decide_eq_true c15
                  clear c15
                  by_cases c16 : x7_1.length < 17592186044416
                  · rw [if_pos c16] at H
                    have LMc16 := Aside0.mk c16
                    clear c16
                    obtain ⟨y137, hy137⟩ : ∃ y_ : List Int, y_ = (x7_1 ++ [(x6_1.size : Int)]) := ⟨_, rfl⟩
                    replace H : (if x8_1.length < 8796093022208 then (if x6_1.size + (rdOf ByteArray.empty y128 t135).size ≤ 9223372036854775807 then ((gristmillworld_Number.f (wrap64 (Int.tdiv (rd l0 x9_1) 7)) (y131.length : Int)).bind fun t144 => (if 0 ≤ t144 then (if t144 < (y131.length : Int) then (if (x6_1 ++ (rdOf ByteArray.empty y128 t135)).size + (rdOf ByteArray.empty y131 t144).size ≤ 9223372036854775807 then (gristmilllaw3_LexApart.l0 k1 l0 true y128 y131 ((x6_1 ++ (rdOf ByteArray.empty y128 t135)) ++ (rdOf ByteArray.empty y131 t144)) y137 (x8_1 ++ [rdOf ByteArray.empty y128 t135]) (wrap64 (x9_1 + 1))) else (none)) else (none)) else (none))) else (none)) else (none)) = some r := by first | (rw [hy137]; with_reducible exact H) | (have H2_ := (Option.bind_some _ _).symm.trans H; rw [hy137]; with_reducible exact H2_) | (have H2_ := (Option.bind_some _ _).symm.trans H; with_reducible exact H2_) | with_reducible exact H | (rw [hy137]; exact H) | exact H
                    have Ny137 := Aside0.mk hy137
                    clear hy137
                    by_cases c17 : x8_1.length < 8796093022208
                    · rw [if_pos c17] at H
                      have LMc17 := Aside0.mk c17
                      clear c17
                      obtain ⟨y140, hy140⟩ : ∃ y_ : List ByteArray, y_ = (x8_1 ++ [rdOf ByteArray.empty y128 t135]) := ⟨_, rfl⟩
                      replace H : (if x6_1.size + (rdOf ByteArray.empty y128 t135).size ≤ 9223372036854775807 then ((gristmillworld_Number.f (wrap64 (Int.tdiv (rd l0 x9_1) 7)) (y131.length : Int)).bind fun t144 => (if 0 ≤ t144 then (if t144 < (y131.length : Int) then (if (x6_1 ++ (rdOf ByteArray.empty y128 t135)).size + (rdOf ByteArray.empty y131 t144).size ≤ 9223372036854775807 then (gristmilllaw3_LexApart.l0 k1 l0 true y128 y131 ((x6_1 ++ (rdOf ByteArray.empty y128 t135)) ++ (rdOf ByteArray.empty y131 t144)) y137 y140 (wrap64 (x9_1 + 1))) else (none)) else (none)) else (none))) else (none)) = some r := by first | (rw [hy140]; with_reducible exact H) | (have H2_ := (Option.bind_some _ _).symm.trans H; rw [hy140]; with_reducible exact H2_) | (have H2_ := (Option.bind_some _ _).symm.trans H; with_reducible exact H2_) | with_reducible exact H | (rw [hy140]; exact H) | exact H
                      have Ny140 := Aside0.mk hy140
                      clear hy140
                      by_cases c18 : x6_1.size + (rdOf ByteArray.empty y128 t135).size ≤ 9223372036854775807
                      · rw [if_pos c18] at H
                        have c18b0 := eq_true c18
                        have c18b1 : decide (x6_1.size + (rdOf ByteArray.empty y128 t135).size ≤ 9223372036854775807) = true := decide_eq_true c18
                        try have c18b2 : (9223372036854775807 < x6_1.size + (rdOf ByteArray.empty y128 t135).size) = False := eq_false (Nat.not_lt.2 c18)
                        replace H := Option.bind_eq_some_iff.mp H
                        obtain ⟨t144, A190, H⟩ := H
                        replace H : (if 0 ≤ t144 then (if t144 < (y131.length : Int) then (if (x6_1 ++ (rdOf ByteArray.empty y128 t135)).size + (rdOf ByteArray.empty y131 t144).size ≤ 9223372036854775807 then (gristmilllaw3_LexApart.l0 k1 l0 true y128 y131 ((x6_1 ++ (rdOf ByteArray.empty y128 t135)) ++ (rdOf ByteArray.empty y131 t144)) y137 y140 (wrap64 (x9_1 + 1))) else (none)) else (none)) else (none)) = some r := H
                        have A19 := Aside0.mk A190
                        clear A190
                        by_cases c20 : 0 ≤ t144
                        · rw [if_pos c20] at H
                          have c20b0 : decide (0 ≤ t144) = true := decide_eq_true c20
                          clear c20
                          by_cases c21 : t144 < (y131.length : Int)
                          · rw [if_pos c21] at H
                            have c21b0 : decide (t144 < (y131.length : Int)) = true := decide_eq_true c21
                            clear c21
                            by_cases c22 : (x6_1 ++ (rdOf ByteArray.empty y128 t135)).size + (rdOf ByteArray.empty y131 t144).size ≤ 9223372036854775807
                            · rw [if_pos c22] at H
                              have c22b0 := eq_true c22
                              have c22b1 : decide ((x6_1 ++ (rdOf ByteArray.empty y128 t135)).size + (rdOf ByteArray.empty y131 t144).size ≤ 9223372036854775807) = true := decide_eq_true c22
                              try have c22b2 : (9223372036854775807 < (x6_1 ++ (rdOf ByteArray.empty y128 t135)).size + (rdOf ByteArray.empty y131 t144).size) = False := eq_false (Nat.not_lt.2 c22)
                              have H' := Aside0.mk H
                              clear H
                              have p134 : 0 ≤ (x9_1 : Int) := of_decide_eq_true (by first | (with_reducible assumption) | assumption)
                              have q134 : x9_1 < (l0.length : Int) := of_decide_eq_true (by first | (with_reducible assumption) | assumption)
                              obtain ⟨ad134, e134, hx134_0⟩ := Kd.at_int HR0.out x9_1 p134 q134
                              cases e134
                              replace hx134_0 := (HB.out.cell (World.block_lt_of_cell? w _ hx134_0)).trans hx134_0
                              replace p134 := eq_true p134
                              replace q134 := eq_true q134
                              obtain ⟨Ao23, co23, eo23⟩ := Kd.R_slice HO_4.out
                              subst eo23
                              go_wp2_with (first | (go_at_call 9; (with_reducible refine (gristmillworld_Number.calls (rd l0 x9_1) (y128.length : Int) t135 _ A13.out).mono ?_); rintro e w' ⟨rfl, ⟨nd, rfl⟩⟩; (try first | exact ⟨rfl, _, World.drewN_drewN _ _ _⟩ | exact ⟨rfl, _, Eq.trans (World.drewN_drewN _ _ _) (congrArg (World.drewN _) (Nat.add_assoc _ _ _))⟩); have p136 : 0 ≤ (t135 : Int) := of_decide_eq_true (by first | (with_reducible assumption) | assumption); have q136 : t135 < (y128.length : Int) := of_decide_eq_true (by first | (with_reducible assumption) | assumption); obtain ⟨ad136, e136, hx136_0⟩ := Kd.at_string (Kd.R_reads' HO_4.out).2.2 t135 p136 q136; cases e136; replace p136 := eq_true p136; replace q136 := eq_true q136) | ((with_reducible refine gate_builtin (b := .append) (xs := #[.tmp 39, .tmp 42]) rfl ?_); (try (refine gate_guard (by rfl) ?_; dsimp only)); at_builtin; refine Kd.R_append (Kd.int .i64) (w0 := w) w.heap.size rfl (.tmp 39) (.tmp 42) 22 3 (.int .i64 0) 8 rfl Tryd.underlying22 info3 rfl (by decide) (by omega) u7 x7_1 (x6_1.size : Int) [.int .i64 (x6_1.size : Int)] (fun _ => True) (fun _ => False) rfl rfl ?aP (fun _ hk => hk.elim) ?aF ?aO ?aB ?aS ?aL ?_; (case aP => exact rfl); (case aB => exact (by repeat (first | (with_reducible first | exact HB.out | apply below_alloc | apply pw_below_drewN | apply below_drew1) | exact HB.out))); (case aF => exact (fun _ _ => trivial)); (case aO => exact (by (with_reducible repeat (first | apply Kd.R_alloc | apply Kd.R_drewN | apply Kd.R_drew)); exact HO_7.out)); (case aS => exact (below_size (by repeat (first | (with_reducible first | exact HB.out | apply below_alloc | apply pw_below_drewN | apply below_drew1) | exact HB.out)))); (case aL => have := LMc16.out; omega); intro v138 w24 ho hb hg hat; rw [← Ny137.out] at ho; have n0_ := Aside0.mk (Kd.R_over' (by (with_reducible repeat (first | apply Kd.R_alloc | apply Kd.R_drewN | apply Kd.R_drew)); exact HO_4.out) (Kd.R_typed (by (with_reducible repeat (first | apply Kd.R_alloc | apply Kd.R_drewN | apply Kd.R_drew)); exact HO_7.out)) (by decide) hg); have n1_ := Aside0.mk (Kd.R_over' (by (with_reducible repeat (first | apply Kd.R_alloc | apply Kd.R_drewN | apply Kd.R_drew)); exact HO_5.out) (Kd.R_typed (by (with_reducible repeat (first | apply Kd.R_alloc | apply Kd.R_drewN | apply Kd.R_drew)); exact HO_7.out)) (by decide) hg); have n2_ := Aside0.mk (Kd.R_over' (by (with_reducible repeat (first | apply Kd.R_alloc | apply Kd.R_drewN | apply Kd.R_drew)); exact HO_8.out) (Kd.R_typed (by (with_reducible repeat (first | apply Kd.R_alloc | apply Kd.R_drewN | apply Kd.R_drew)); exact HO_7.out)) (by decide) hg); have n3_ := Aside0.mk (hb); have n4_ := Aside0.mk (ho); clear HO_4; clear HO_5; clear HO_8; clear HB; clear HO_7; have HO_4 := n0_; have HO_5 := n1_; have HO_8 := n2_; have HB := n3_; have HO139 := n4_; clear n0_ n1_ n2_ n3_ n4_; clear ho hb hg hat) | ((with_reducible refine gate_builtin (b := .append) (xs := #[.tmp 44, .tmp 46]) rfl ?_); (try (refine gate_guard (by rfl) ?_; dsimp only)); at_builtin; refine Kd.R_append Kd.string (w0 := w) w.heap.size rfl (.tmp 44) (.tmp 46) 24 9 (.string ⟨#[]⟩) 16 rfl Tryd.underlying24 info9 rfl (by decide) (by omega) u8 x8_1 (rdOf ByteArray.empty y128 t135) [.string (rdOf ByteArray.empty y128 t135)] (fun k_ => some k_ ≠ (.slice (some ad136) y128.length co23 : Value).ownBlock ∧ some k_ ≠ (v132 : Value).ownBlock) (fun _ => False) rfl rfl ?aP (fun _ hk => hk.elim) ?aF ?aO ?aB ?aS ?aL ?_; (case aP => exact rfl); (case aB => exact (by repeat (first | (with_reducible first | exact HB.out | apply below_alloc | apply pw_below_drewN | apply below_drew1) | exact HB.out))); (case aF => exact (fun k_ hk => ⟨Kd.fresh' (Kd.R_lt (by (with_reducible repeat (first | apply Kd.R_alloc | apply Kd.R_drewN | apply Kd.R_drew)); exact HO_4.out)) k_ hk, Kd.fresh' (Kd.R_lt (by (with_reducible repeat (first | apply Kd.R_alloc | apply Kd.R_drewN | apply Kd.R_drew)); exact HO_5.out)) k_ hk⟩)); (case aO => exact (by (with_reducible repeat (first | apply Kd.R_alloc | apply Kd.R_drewN | apply Kd.R_drew)); exact HO_8.out)); (case aS => exact (below_size (by repeat (first | (with_reducible first | exact HB.out | apply below_alloc | apply pw_below_drewN | apply below_drew1) | exact HB.out)))); (case aL => have := LMc17.out; omega); intro v141 w25 ho hb hg hat; rw [← Ny140.out] at ho; have n0_ := Aside0.mk (Kd.R_after (ok := (fun k_ => some k_ ≠ (v132 : Value).ownBlock)) (by (with_reducible repeat (first | apply Kd.R_alloc | apply Kd.R_drewN | apply Kd.R_drew)); exact HO_4.out) hg hat); have n1_ := Aside0.mk (Kd.R_after (ok := (fun k_ => some k_ ≠ (.slice (some ad136) y128.length co23 : Value).ownBlock)) (by (with_reducible repeat (first | apply Kd.R_alloc | apply Kd.R_drewN | apply Kd.R_drew)); exact HO_5.out) hg hat); have n2_ := Aside0.mk (Kd.R_over' (by (with_reducible repeat (first | apply Kd.R_alloc | apply Kd.R_drewN | apply Kd.R_drew)); exact HO139.out) (Kd.R_typed (by (with_reducible repeat (first | apply Kd.R_alloc | apply Kd.R_drewN | apply Kd.R_drew)); exact HO_8.out)) (by decide) hg); have n3_ := Aside0.mk (hb); have n4_ := Aside0.mk (ho); clear HO_4; clear HO_5; clear HO139; clear HB; clear HO_8; have HO_4 := n0_; have HO_5 := n1_; have HO139 := n2_; have HB := n3_; have HO142 := n4_; clear n0_ n1_ n2_ n3_ n4_; clear ho hb hg hat; have p143 : 0 ≤ (x9_1 : Int) := of_decide_eq_true (by first | (with_reducible assumption) | assumption); have q143 : x9_1 < (l0.length : Int) := of_decide_eq_true (by first | (with_reducible assumption) | assumption); obtain ⟨ad143, e143, hx143_0⟩ := Kd.at_int HR0.out x9_1 p143 q143; obtain rfl : ad134 = ad143 := (by injection e143); replace hx143_0 := (HB.out.cell (World.block_lt_of_cell? w _ hx143_0)).trans hx143_0; replace p143 := eq_true p143; replace q143 := eq_true q143; obtain ⟨Ao26, co26, eo26⟩ := Kd.R_slice HO_5.out; subst eo26) | (go_at_call 9; (with_reducible refine (gristmillworld_Number.calls (wrap64 (Int.tdiv (rd l0 x9_1) 7)) (y131.length : Int) t144 _ A19.out).mono ?_); rintro e w' ⟨rfl, ⟨nd, rfl⟩⟩; (try first | exact ⟨rfl, _, World.drewN_drewN _ _ _⟩ | exact ⟨rfl, _, Eq.trans (World.drewN_drewN _ _ _) (congrArg (World.drewN _) (Nat.add_assoc _ _ _))⟩); have p145 : 0 ≤ (t144 : Int) := of_decide_eq_true (by first | (with_reducible assumption) | assumption); have q145 : t144 < (y131.length : Int) := of_decide_eq_true (by first | (with_reducible assumption) | assumption); obtain ⟨ad145, e145, hx145_0⟩ := Kd.at_string (Kd.R_reads' HO_5.out).2.2 t144 p145 q145; cases e145; replace p145 := eq_true p145; replace q145 := eq_true q145))
                              repeat (go_quiet (first | (go_at_call 9; (with_reducible refine (gristmillworld_Number.calls (rd l0 x9_1) (y128.length : Int) t135 _ A13.out).mono ?_); rintro e w' ⟨rfl, ⟨nd, rfl⟩⟩; (try first | exact ⟨rfl, _, World.drewN_drewN _ _ _⟩ | exact ⟨rfl, _, Eq.trans (World.drewN_drewN _ _ _) (congrArg (World.drewN _) (Nat.add_assoc _ _ _))⟩); have p136 : 0 ≤ (t135 : Int) := of_decide_eq_true (by first | (with_reducible assumption) | assumption); have q136 : t135 < (y128.length : Int) := of_decide_eq_true (by first | (with_reducible assumption) | assumption); obtain ⟨ad136, e136, hx136_0⟩ := Kd.at_string (Kd.R_reads' HO_4.out).2.2 t135 p136 q136; cases e136; replace p136 := eq_true p136; replace q136 := eq_true q136) | ((with_reducible refine gate_builtin (b := .append) (xs := #[.tmp 39, .tmp 42]) rfl ?_); (try (refine gate_guard (by rfl) ?_; dsimp only)); at_builtin; refine Kd.R_append (Kd.int .i64) (w0 := w) w.heap.size rfl (.tmp 39) (.tmp 42) 22 3 (.int .i64 0) 8 rfl Tryd.underlying22 info3 rfl (by decide) (by omega) u7 x7_1 (x6_1.size : Int) [.int .i64 (x6_1.size : Int)] (fun _ => True) (fun _ => False) rfl rfl ?aP (fun _ hk => hk.elim) ?aF ?aO ?aB ?aS ?aL ?_; (case aP => exact rfl); (case aB => exact (by repeat (first | (with_reducible first | exact HB.out | apply below_alloc | apply pw_below_drewN | apply below_drew1) | exact HB.out))); (case aF => exact (fun _ _ => trivial)); (case aO => exact (by (with_reducible repeat (first | apply Kd.R_alloc | apply Kd.R_drewN | apply Kd.R_drew)); exact HO_7.out)); (case aS => exact (below_size (by repeat (first | (with_reducible first | exact HB.out | apply below_alloc | apply pw_below_drewN | apply below_drew1) | exact HB.out)))); (case aL => have := LMc16.out; omega); intro v138 w24 ho hb hg hat; rw [← Ny137.out] at ho; have n0_ := Aside0.mk (Kd.R_over' (by (with_reducible repeat (first | apply Kd.R_alloc | apply Kd.R_drewN | apply Kd.R_drew)); exact HO_4.out) (Kd.R_typed (by (with_reducible repeat (first | apply Kd.R_alloc | apply Kd.R_drewN | apply Kd.R_drew)); exact HO_7.out)) (by decide) hg); have n1_ := Aside0.mk (Kd.R_over' (by (with_reducible repeat (first | apply Kd.R_alloc | apply Kd.R_drewN | apply Kd.R_drew)); exact HO_5.out) (Kd.R_typed (by (with_reducible repeat (first | apply Kd.R_alloc | apply Kd.R_drewN | apply Kd.R_drew)); exact HO_7.out)) (by decide) hg); have n2_ := Aside0.mk (Kd.R_over' (by (with_reducible repeat (first | apply Kd.R_alloc | apply Kd.R_drewN | apply Kd.R_drew)); exact HO_8.out) (Kd.R_typed (by (with_reducible repeat (first | apply Kd.R_alloc | apply Kd.R_drewN | apply Kd.R_drew)); exact HO_7.out)) (by decide) hg); have n3_ := Aside0.mk (hb); have n4_ := Aside0.mk (ho); clear HO_4; clear HO_5; clear HO_8; clear HB; clear HO_7; have HO_4 := n0_; have HO_5 := n1_; have HO_8 := n2_; have HB := n3_; have HO139 := n4_; clear n0_ n1_ n2_ n3_ n4_; clear ho hb hg hat) | ((with_reducible refine gate_builtin (b := .append) (xs := #[.tmp 44, .tmp 46]) rfl ?_); (try (refine gate_guard (by rfl) ?_; dsimp only)); at_builtin; refine Kd.R_append Kd.string (w0 := w) w.heap.size rfl (.tmp 44) (.tmp 46) 24 9 (.string ⟨#[]⟩) 16 rfl Tryd.underlying24 info9 rfl (by decide) (by omega) u8 x8_1 (rdOf ByteArray.empty y128 t135) [.string (rdOf ByteArray.empty y128 t135)] (fun k_ => some k_ ≠ (.slice (some ad136) y128.length co23 : Value).ownBlock ∧ some k_ ≠ (v132 : Value).ownBlock) (fun _ => False) rfl rfl ?aP (fun _ hk => hk.elim) ?aF ?aO ?aB ?aS ?aL ?_; (case aP => exact rfl); (case aB => exact (by repeat (first | (with_reducible first | exact HB.out | apply below_alloc | apply pw_below_drewN | apply below_drew1) | exact HB.out))); (case aF => exact (fun k_ hk => ⟨Kd.fresh' (Kd.R_lt (by (with_reducible repeat (first | apply Kd.R_alloc | apply Kd.R_drewN | apply Kd.R_drew)); exact HO_4.out)) k_ hk, Kd.fresh' (Kd.R_lt (by (with_reducible repeat (first | apply Kd.R_alloc | apply Kd.R_drewN | apply Kd.R_drew)); exact HO_5.out)) k_ hk⟩)); (case aO => exact (by (with_reducible repeat (first | apply Kd.R_alloc | apply Kd.R_drewN | apply Kd.R_drew)); exact HO_8.out)); (case aS => exact (below_size (by repeat (first | (with_reducible first | exact HB.out | apply below_alloc | apply pw_below_drewN | apply below_drew1) | exact HB.out)))); (case aL => have := LMc17.out; omega); intro v141 w25 ho hb hg hat; rw [← Ny140.out] at ho; have n0_ := Aside0.mk (Kd.R_after (ok := (fun k_ => some k_ ≠ (v132 : Value).ownBlock)) (by (with_reducible repeat (first | apply Kd.R_alloc | apply Kd.R_drewN | apply Kd.R_drew)); exact HO_4.out) hg hat); have n1_ := Aside0.mk (Kd.R_after (ok := (fun k_ => some k_ ≠ (.slice (some ad136) y128.length co23 : Value).ownBlock)) (by (with_reducible repeat (first | apply Kd.R_alloc | apply Kd.R_drewN | apply Kd.R_drew)); exact HO_5.out) hg hat); have n2_ := Aside0.mk (Kd.R_over' (by (with_reducible repeat (first | apply Kd.R_alloc | apply Kd.R_drewN | apply Kd.R_drew)); exact HO139.out) (Kd.R_typed (by (with_reducible repeat (first | apply Kd.R_alloc | apply Kd.R_drewN | apply Kd.R_drew)); exact HO_8.out)) (by decide) hg); have n3_ := Aside0.mk (hb); have n4_ := Aside0.mk (ho); clear HO_4; clear HO_5; clear HO139; clear HB; clear HO_8; have HO_4 := n0_; have HO_5 := n1_; have HO139 := n2_; have HB := n3_; have HO142 := n4_; clear n0_ n1_ n2_ n3_ n4_; clear ho hb hg hat; have p143 : 0 ≤ (x9_1 : Int) := of_decide_eq_true (by first | (with_reducible assumption) | assumption); have q143 : x9_1 < (l0.length : Int) := of_decide_eq_true (by first | (with_reducible assumption) | assumption); obtain ⟨ad143, e143, hx143_0⟩ := Kd.at_int HR0.out x9_1 p143 q143; obtain rfl : ad134 = ad143 := (by injection e143); replace hx143_0 := (HB.out.cell (World.block_lt_of_cell? w _ hx143_0)).trans hx143_0; replace p143 := eq_true p143; replace q143 := eq_true q143; obtain ⟨Ao26, co26, eo26⟩ := Kd.R_slice HO_5.out; subst eo26) | (go_at_call 9; (with_reducible refine (gristmillworld_Number.calls (wrap64 (Int.tdiv (rd l0 x9_1) 7)) (y131.length : Int) t144 _ A19.out).mono ?_); rintro e w' ⟨rfl, ⟨nd, rfl⟩⟩; (try first | exact ⟨rfl, _, World.drewN_drewN _ _ _⟩ | exact ⟨rfl, _, Eq.trans (World.drewN_drewN _ _ _) (congrArg (World.drewN _) (Nat.add_assoc _ _ _))⟩); have p145 : 0 ≤ (t144 : Int) := of_decide_eq_true (by first | (with_reducible assumption) | assumption); have q145 : t144 < (y131.length : Int) := of_decide_eq_true (by first | (with_reducible assumption) | assumption); obtain ⟨ad145, e145, hx145_0⟩ := Kd.at_string (Kd.R_reads' HO_5.out).2.2 t144 p145 q145; cases e145; replace p145 := eq_true p145; replace q145 := eq_true q145)); try go_wp2_with (first | (go_at_call 9; (with_reducible refine (gristmillworld_Number.calls (rd l0 x9_1) (y128.length : Int) t135 _ A13.out).mono ?_); rintro e w' ⟨rfl, ⟨nd, rfl⟩⟩; (try first | exact ⟨rfl, _, World.drewN_drewN _ _ _⟩ | exact ⟨rfl, _, Eq.trans (World.drewN_drewN _ _ _) (congrArg (World.drewN _) (Nat.add_assoc _ _ _))⟩); have p136 : 0 ≤ (t135 : Int) := of_decide_eq_true (by first | (with_reducible assumption) | assumption); have q136 : t135 < (y128.length : Int) := of_decide_eq_true (by first | (with_reducible assumption) | assumption); obtain ⟨ad136, e136, hx136_0⟩ := Kd.at_string (Kd.R_reads' HO_4.out).2.2 t135 p136 q136; cases e136; replace p136 := eq_true p136; replace q136 := eq_true q136) | ((with_reducible refine gate_builtin (b := .append) (xs := #[.tmp 39, .tmp 42]) rfl ?_); (try (refine gate_guard (by rfl) ?_; dsimp only)); at_builtin; refine Kd.R_append (Kd.int .i64) (w0 := w) w.heap.size rfl (.tmp 39) (.tmp 42) 22 3 (.int .i64 0) 8 rfl Tryd.underlying22 info3 rfl (by decide) (by omega) u7 x7_1 (x6_1.size : Int) [.int .i64 (x6_1.size : Int)] (fun _ => True) (fun _ => False) rfl rfl ?aP (fun _ hk => hk.elim) ?aF ?aO ?aB ?aS ?aL ?_; (case aP => exact rfl); (case aB => exact (by repeat (first | (with_reducible first | exact HB.out | apply below_alloc | apply pw_below_drewN | apply below_drew1) | exact HB.out))); (case aF => exact (fun _ _ => trivial)); (case aO => exact (by (with_reducible repeat (first | apply Kd.R_alloc | apply Kd.R_drewN | apply Kd.R_drew)); exact HO_7.out)); (case aS => exact (below_size (by repeat (first | (with_reducible first | exact HB.out | apply below_alloc | apply pw_below_drewN | apply below_drew1) | exact HB.out)))); (case aL => have := LMc16.out; omega); intro v138 w24 ho hb hg hat; rw [← Ny137.out] at ho; have n0_ := Aside0.mk (Kd.R_over' (by (with_reducible repeat (first | apply Kd.R_alloc | apply Kd.R_drewN | apply Kd.R_drew)); exact HO_4.out) (Kd.R_typed (by (with_reducible repeat (first | apply Kd.R_alloc | apply Kd.R_drewN | apply Kd.R_drew)); exact HO_7.out)) (by decide) hg); have n1_ := Aside0.mk (Kd.R_over' (by (with_reducible repeat (first | apply Kd.R_alloc | apply Kd.R_drewN | apply Kd.R_drew)); exact HO_5.out) (Kd.R_typed (by (with_reducible repeat (first | apply Kd.R_alloc | apply Kd.R_drewN | apply Kd.R_drew)); exact HO_7.out)) (by decide) hg); have n2_ := Aside0.mk (Kd.R_over' (by (with_reducible repeat (first | apply Kd.R_alloc | apply Kd.R_drewN | apply Kd.R_drew)); exact HO_8.out) (Kd.R_typed (by (with_reducible repeat (first | apply Kd.R_alloc | apply Kd.R_drewN | apply Kd.R_drew)); exact HO_7.out)) (by decide) hg); have n3_ := Aside0.mk (hb); have n4_ := Aside0.mk (ho); clear HO_4; clear HO_5; clear HO_8; clear HB; clear HO_7; have HO_4 := n0_; have HO_5 := n1_; have HO_8 := n2_; have HB := n3_; have HO139 := n4_; clear n0_ n1_ n2_ n3_ n4_; clear ho hb hg hat) | ((with_reducible refine gate_builtin (b := .append) (xs := #[.tmp 44, .tmp 46]) rfl ?_); (try (refine gate_guard (by rfl) ?_; dsimp only)); at_builtin; refine Kd.R_append Kd.string (w0 := w) w.heap.size rfl (.tmp 44) (.tmp 46) 24 9 (.string ⟨#[]⟩) 16 rfl Tryd.underlying24 info9 rfl (by decide) (by omega) u8 x8_1 (rdOf ByteArray.empty y128 t135) [.string (rdOf ByteArray.empty y128 t135)] (fun k_ => some k_ ≠ (.slice (some ad136) y128.length co23 : Value).ownBlock ∧ some k_ ≠ (v132 : Value).ownBlock) (fun _ => False) rfl rfl ?aP (fun _ hk => hk.elim) ?aF ?aO ?aB ?aS ?aL ?_; (case aP => exact rfl); (case aB => exact (by repeat (first | (with_reducible first | exact HB.out | apply below_alloc | apply pw_below_drewN | apply below_drew1) | exact HB.out))); (case aF => exact (fun k_ hk => ⟨Kd.fresh' (Kd.R_lt (by (with_reducible repeat (first | apply Kd.R_alloc | apply Kd.R_drewN | apply Kd.R_drew)); exact HO_4.out)) k_ hk, Kd.fresh' (Kd.R_lt (by (with_reducible repeat (first | apply Kd.R_alloc | apply Kd.R_drewN | apply Kd.R_drew)); exact HO_5.out)) k_ hk⟩)); (case aO => exact (by (with_reducible repeat (first | apply Kd.R_alloc | apply Kd.R_drewN | apply Kd.R_drew)); exact HO_8.out)); (case aS => exact (below_size (by repeat (first | (with_reducible first | exact HB.out | apply below_alloc | apply pw_below_drewN | apply below_drew1) | exact HB.out)))); (case aL => have := LMc17.out; omega); intro v141 w25 ho hb hg hat; rw [← Ny140.out] at ho; have n0_ := Aside0.mk (Kd.R_after (ok := (fun k_ => some k_ ≠ (v132 : Value).ownBlock)) (by (with_reducible repeat (first | apply Kd.R_alloc | apply Kd.R_drewN | apply Kd.R_drew)); exact HO_4.out) hg hat); have n1_ := Aside0.mk (Kd.R_after (ok := (fun k_ => some k_ ≠ (.slice (some ad136) y128.length co23 : Value).ownBlock)) (by (with_reducible repeat (first | apply Kd.R_alloc | apply Kd.R_drewN | apply Kd.R_drew)); exact HO_5.out) hg hat); have n2_ := Aside0.mk (Kd.R_over' (by (with_reducible repeat (first | apply Kd.R_alloc | apply Kd.R_drewN | apply Kd.R_drew)); exact HO139.out) (Kd.R_typed (by (with_reducible repeat (first | apply Kd.R_alloc | apply Kd.R_drewN | apply Kd.R_drew)); exact HO_8.out)) (by decide) hg); have n3_ := Aside0.mk (hb); have n4_ := Aside0.mk (ho); clear HO_4; clear HO_5; clear HO139; clear HB; clear HO_8; have HO_4 := n0_; have HO_5 := n1_; have HO139 := n2_; have HB := n3_; have HO142 := n4_; clear n0_ n1_ n2_ n3_ n4_; clear ho hb hg hat; have p143 : 0 ≤ (x9_1 : Int) := of_decide_eq_true (by first | (with_reducible assumption) | assumption); have q143 : x9_1 < (l0.length : Int) := of_decide_eq_true (by first | (with_reducible assumption) | assumption); obtain ⟨ad143, e143, hx143_0⟩ := Kd.at_int HR0.out x9_1 p143 q143; obtain rfl : ad134 = ad143 := (by injection e143); replace hx143_0 := (HB.out.cell (World.block_lt_of_cell? w _ hx143_0)).trans hx143_0; replace p143 := eq_true p143; replace q143 := eq_true q143; obtain ⟨Ao26, co26, eo26⟩ := Kd.R_slice HO_5.out; subst eo26) | (go_at_call 9; (with_reducible refine (gristmillworld_Number.calls (wrap64 (Int.tdiv (rd l0 x9_1) 7)) (y131.length : Int) t144 _ A19.out).mono ?_); rintro e w' ⟨rfl, ⟨nd, rfl⟩⟩; (try first | exact ⟨rfl, _, World.drewN_drewN _ _ _⟩ | exact ⟨rfl, _, Eq.trans (World.drewN_drewN _ _ _) (congrArg (World.drewN _) (Nat.add_assoc _ _ _))⟩); have p145 : 0 ≤ (t144 : Int) := of_decide_eq_true (by first | (with_reducible assumption) | assumption); have q145 : t144 < (y131.length : Int) := of_decide_eq_true (by first | (with_reducible assumption) | assumption); obtain ⟨ad145, e145, hx145_0⟩ := Kd.at_string (Kd.R_reads' HO_5.out).2.2 t144 p145 q145; cases e145; replace p145 := eq_true p145; replace q145 := eq_true q145)))
                              go_roundg k1
                              case measure => have := HK1.out; omega
                              case rel => exact ⟨((x6_1 ++ (rdOf ByteArray.empty y128 t135)) ++ (rdOf ByteArray.empty y131 t144)), (y137), (y140), (wrap64 (x9_1 + 1)), (by first | rfl | (simp; done) | (simp [*]; done)), (by first | rfl | (simp; done) | (simp [*]; done)), H', ⟨by have := HK1.out; omega⟩, ⟨by (with_reducible repeat (first | apply Kd.R_alloc | apply Kd.R_drewN | apply Kd.R_drew)); exact HO_4.out⟩, ⟨by (with_reducible repeat (first | apply Kd.R_alloc | apply Kd.R_drewN | apply Kd.R_drew)); exact HO_5.out⟩, ⟨by (with_reducible repeat (first | apply Kd.R_alloc | apply Kd.R_drewN | apply Kd.R_drew)); exact HO139.out⟩, ⟨by (with_reducible repeat (first | apply Kd.R_alloc | apply Kd.R_drewN | apply Kd.R_drew)); exact HO142.out⟩, ⟨by repeat (first | (with_reducible first | exact HB.out | apply below_alloc | apply pw_below_drewN | apply below_drew1) | exact HB.out)⟩⟩
                            · rw [if_neg c22] at H
                              exact absurd H (by simp)
                          · rw [if_neg c21] at H
                            exact absurd H (by simp)
                        · rw [if_neg c20] at H
                          exact absurd H (by simp)
                      · rw [if_neg c18] at H
                        exact absurd H (by simp)
                    · rw [if_neg c17] at H
                      exact absurd H (by simp)
                  · rw [if_neg c16] at H
                    exact absurd H (by simp)
                · rw [if_neg c15] at H
                  exact absurd H (by simp)
              · rw [if_neg c14] at H
                exact absurd H (by simp)
            · rw [if_neg c12] at H
              exact absurd H (by simp)
          · rw [if_neg c11] at H
            have c11b0 : decide (x9_1 < (l0.length : Int)) = false := decide_eq_false c11
            clear c11
            replace H := Option.bind_eq_some_iff.mp H
            obtain ⟨⟨t146, t147⟩, A270, H⟩ := H
            replace H : (if t147.isNone = true then (gristmilllaw3_LexApart.j1 k1 true x7_1 x8_1 t146 ((t146.length : Int) != (x8_1.length : Int))) else (gristmilllaw3_LexApart.j1 k1 true x7_1 x8_1 t146 true)) = some r := H
            have A27 := Aside0.mk A270
            clear A270
            have HC28 := Aside0.mk H
            clear H
            go_upto_region 19 with (first | (go_at_call 10; (with_reducible refine (lex_Words.calls k1 x6_1 t146 t147 _ A27.out).mono ?_); rintro e w29 ⟨v148, rfl, ho0, hb⟩; have n0_ := Aside0.mk (Kd.R_below (by (with_reducible repeat (first | apply Kd.R_alloc | apply Kd.R_drewN | apply Kd.R_drew)); exact HO_4.out) hb); have n1_ := Aside0.mk (Kd.R_below (by (with_reducible repeat (first | apply Kd.R_alloc | apply Kd.R_drewN | apply Kd.R_drew)); exact HO_5.out) hb); have n2_ := Aside0.mk (Kd.R_below (by (with_reducible repeat (first | apply Kd.R_alloc | apply Kd.R_drewN | apply Kd.R_drew)); exact HO_7.out) hb); have n3_ := Aside0.mk (Kd.R_below (by (with_reducible repeat (first | apply Kd.R_alloc | apply Kd.R_drewN | apply Kd.R_drew)); exact HO_8.out) hb); have n4_ := Aside0.mk (Kd.R_lower ho0 (below_size (by repeat (first | (with_reducible first | exact HB.out | apply below_alloc | apply pw_below_drewN | apply below_drew1) | exact HB.out)))); have n5_ := Aside0.mk (below_step (by repeat (first | (with_reducible first | exact HB.out | apply below_alloc | apply pw_below_drewN | apply below_drew1) | exact HB.out)) hb); clear HO_4; clear HO_5; clear HO_7; clear HO_8; clear HB; have HO_4 := n0_; have HO_5 := n1_; have HO_7 := n2_; have HO_8 := n3_; have HO149 := n4_; have HB := n5_; clear n0_ n1_ n2_ n3_ n4_ n5_; (try clear hb); (try clear hb2); (try clear hk); (try clear hi); (try clear ho0); (try simp only [errW_none, errW_some])))
            repeat (go_quiet (first | (go_at_call 10; (with_reducible refine (lex_Words.calls k1 x6_1 t146 t147 _ A27.out).mono ?_); rintro e w29 ⟨v148, rfl, ho0, hb⟩; have n0_ := Aside0.mk (Kd.R_below (by (with_reducible repeat (first | apply Kd.R_alloc | apply Kd.R_drewN | apply Kd.R_drew)); exact HO_4.out) hb); have n1_ := Aside0.mk (Kd.R_below (by (with_reducible repeat (first | apply Kd.R_alloc | apply Kd.R_drewN | apply Kd.R_drew)); exact HO_5.out) hb); have n2_ := Aside0.mk (Kd.R_below (by (with_reducible repeat (first | apply Kd.R_alloc | apply Kd.R_drewN | apply Kd.R_drew)); exact HO_7.out) hb); have n3_ := Aside0.mk (Kd.R_below (by (with_reducible repeat (first | apply Kd.R_alloc | apply Kd.R_drewN | apply Kd.R_drew)); exact HO_8.out) hb); have n4_ := Aside0.mk (Kd.R_lower ho0 (below_size (by repeat (first | (with_reducible first | exact HB.out | apply below_alloc | apply pw_below_drewN | apply below_drew1) | exact HB.out)))); have n5_ := Aside0.mk (below_step (by repeat (first | (with_reducible first | exact HB.out | apply below_alloc | apply pw_below_drewN | apply below_drew1) | exact HB.out)) hb); clear HO_4; clear HO_5; clear HO_7; clear HO_8; clear HB; have HO_4 := n0_; have HO_5 := n1_; have HO_7 := n2_; have HO_8 := n3_; have HO149 := n4_; have HB := n5_; clear n0_ n1_ n2_ n3_ n4_ n5_; (try clear hb); (try clear hb2); (try clear hk); (try clear hi); (try clear ho0); (try simp only [errW_none, errW_some]))); go_upto_region 19 with (first | (go_at_call 10; (with_reducible refine (lex_Words.calls k1 x6_1 t146 t147 _ A27.out).mono ?_); rintro e w29 ⟨v148, rfl, ho0, hb⟩; have n0_ := Aside0.mk (Kd.R_below (by (with_reducible repeat (first | apply Kd.R_alloc | apply Kd.R_drewN | apply Kd.R_drew)); exact HO_4.out) hb); have n1_ := Aside0.mk (Kd.R_below (by (with_reducible repeat (first | apply Kd.R_alloc | apply Kd.R_drewN | apply Kd.R_drew)); exact HO_5.out) hb); have n2_ := Aside0.mk (Kd.R_below (by (with_reducible repeat (first | apply Kd.R_alloc | apply Kd.R_drewN | apply Kd.R_drew)); exact HO_7.out) hb); have n3_ := Aside0.mk (Kd.R_below (by (with_reducible repeat (first | apply Kd.R_alloc | apply Kd.R_drewN | apply Kd.R_drew)); exact HO_8.out) hb); have n4_ := Aside0.mk (Kd.R_lower ho0 (below_size (by repeat (first | (with_reducible first | exact HB.out | apply below_alloc | apply pw_below_drewN | apply below_drew1) | exact HB.out)))); have n5_ := Aside0.mk (below_step (by repeat (first | (with_reducible first | exact HB.out | apply below_alloc | apply pw_below_drewN | apply below_drew1) | exact HB.out)) hb); clear HO_4; clear HO_5; clear HO_7; clear HO_8; clear HB; have HO_4 := n0_; have HO_5 := n1_; have HO_7 := n2_; have HO_8 := n3_; have HO149 := n4_; have HB := n5_; clear n0_ n1_ n2_ n3_ n4_ n5_; (try clear hb); (try clear hb2); (try clear hk); (try clear hi); (try clear ho0); (try simp only [errW_none, errW_some]))))
            (try simp only [Act.put, List.setIfInBounds_toArray, List.set_cons_zero, List.set_cons_succ])
            go_cut [76] (fun v76 wc => ∃ (kq : Nat) (x76_27 : Bool), v76 = .bool x76_27 ∧ Aside0 (gristmilllaw3_LexApart.j1 kq true x7_1 x8_1 t146 x76_27 = some r) ∧ Aside0 (kq ≤ k1) ∧ Aside0 (Kd.R (Kd.int .i64) 3 wc w.heap.size (fun _ => True) u7 x7_1) ∧ Aside0 (Kd.R Kd.string 9 wc w.heap.size (fun _ => True) u8 x8_1) ∧ Aside0 (Kd.R k32 32 wc w.heap.size (fun _ => True) v148 t146) ∧ Aside0 (Below w.heap.size w wc))
            case first =>
              have H := HC28.out
              clear HC28
              rcases t147 with _ | q150
              · have H1 : (gristmilllaw3_LexApart.j1 k1 true x7_1 x8_1 t146 ((t146.length : Int) != (x8_1.length : Int))) = some r := by rw [if_pos (show (none : Option Int).isNone = true by rfl)] at H; exact H
                clear H
                have H := H1
                clear H1
                try simp only [errW_none, errW_some]
                have H' := Aside0.mk H
                clear H
                obtain ⟨Ao30, co30, eo30⟩ := Kd.R_slice HO149.out
                subst eo30
                obtain ⟨Ao31, co31, eo31⟩ := Kd.R_slice HO_8.out
                subst eo31
                go_wp2
                repeat (go_quiet (fail); try go_wp2)
                go_meet
                case rel => exact ⟨_, (((t146.length : Int) != (x8_1.length : Int))), (by first | rfl | (simp; done) | (simp [*]; done)), H', ⟨by have := HK1.out; first | omega | exact Nat.le_refl _⟩, ⟨by (with_reducible repeat (first | apply Kd.R_alloc | apply Kd.R_drewN | apply Kd.R_drew)); exact HO_7.out⟩, ⟨by (with_reducible repeat (first | apply Kd.R_alloc | apply Kd.R_drewN | apply Kd.R_drew)); exact Kd.R_mono HO_8.out (fun _ hk => trivial)⟩, ⟨by (with_reducible repeat (first | apply Kd.R_alloc | apply Kd.R_drewN | apply Kd.R_drew)); exact HO149.out⟩, ⟨by repeat (first | (with_reducible first | exact HB.out | apply below_alloc | apply pw_below_drewN | apply below_drew1) | exact HB.out)⟩⟩
              · have H1 : (gristmilllaw3_LexApart.j1 k1 true x7_1 x8_1 t146 true) = some r := by rw [if_neg (show ¬ (some q150).isNone = true by simp)] at H; exact H
                clear H
                have H := H1
                clear H1
                try simp only [errW_none, errW_some]
                have H' := Aside0.mk H
                clear H
                go_wp2
                repeat (go_quiet (fail); try go_wp2)
                go_meet
                case rel => exact ⟨_, (true), (by first | rfl | (simp; done) | (simp [*]; done)), H', ⟨by have := HK1.out; first | omega | exact Nat.le_refl _⟩, ⟨by (with_reducible repeat (first | apply Kd.R_alloc | apply Kd.R_drewN | apply Kd.R_drew)); exact HO_7.out⟩, ⟨by (with_reducible repeat (first | apply Kd.R_alloc | apply Kd.R_drewN | apply Kd.R_drew)); exact Kd.R_mono HO_8.out (fun _ hk => trivial)⟩, ⟨by (with_reducible repeat (first | apply Kd.R_alloc | apply Kd.R_drewN | apply Kd.R_drew)); exact HO149.out⟩, ⟨by repeat (first | (with_reducible first | exact HB.out | apply below_alloc | apply pw_below_drewN | apply below_drew1) | exact HB.out)⟩⟩
            case rest =>
              clear HC28
              try clear c1
              try clear p1
              try clear q1
              try clear hx1
              try clear c2
              try clear p2
              try clear c3
              try clear c4
              try clear c4b0
              try clear c4b1
              try clear p6
              try clear c11
              try clear c11b0
              try clear c12
              try clear c12b0
              try clear p13
              try clear q13
              try clear hx13
              try clear c14
              try clear c14b0
              try clear p14
              try clear q14
              try clear hx14
              try clear c15
              try clear c15b0
              try clear q15
              try clear c16
              try clear c17
              try clear c18
              try clear c18b0
              try clear c18b1
              try clear c18b2
              try clear c20
              try clear c20b0
              try clear c21
              try clear c21b0
              try clear c22
              try clear c22b0
              try clear c22b1
              try clear c22b2
              try clear hx134_0
              try clear hx136_0
              try clear hx143_0
              try clear hx145_0
              try clear p134
              try clear p136
              try clear p143
              try clear p145
              try clear p2
              try clear q134
              try clear q136
              try clear q143
              try clear q145
              try clear q150
              obtain ⟨kq, x76_27, rfl, HA, HJ27, HO_7, HO_8, HO_11, HB⟩ := hcut
              cases kq with
              | zero => exact absurd HA.out (by simp [gristmilllaw3_LexApart.j1])
              | succ kj27 =>
                have H := HA.out
                clear HA
                simp only [gristmilllaw3_LexApart.j1] at H
                by_cases c32 : x76_27 = true
                · subst c32
                  have H1 : (some false) = some r := by rw [if_pos rfl] at H; exact H
                  clear H
                  have H := H1
                  clear H1
                  obtain rfl := Option.some.inj H
                  go_wp2
                  repeat (go_quiet (fail); try go_wp2)
                  go_ret
                  exact ⟨by first | rfl | (simp [errW_none, errW_some] <;> rfl) | (simp [*, errW_none, errW_some] <;> rfl), by repeat (first | (with_reducible first | exact HB.out | apply below_alloc | apply pw_below_drewN | apply below_drew1) | exact HB.out)⟩
                · replace c32 := Bool.eq_false_iff.mpr c32
                  subst c32
                  have H1 : (gristmilllaw3_LexApart.l1 kj27 true x7_1 x8_1 t146 0) = some r := by rw [if_neg (show ¬ (false = true) by decide)] at H; exact H
                  clear H
                  have H := H1
                  clear H1
                  have H' := Aside0.mk H
                  clear H
                  go_wp2
                  repeat (go_quiet (fail); try go_wp2)
                  go_loopg [13] kj27 (fun kq v13 w' => ∃ (x13_3 : Int), v13 = .int .i64 x13_3 ∧ Aside0 (gristmilllaw3_LexApart.l1 kq true x7_1 x8_1 t146 x13_3 = some r) ∧ Aside0 (kq ≤ kj27) ∧ Aside0 (Kd.R (Kd.int .i64) 3 w' w.heap.size (fun _ => True) u7 x7_1) ∧ Aside0 (Kd.R Kd.string 9 w' w.heap.size (fun _ => True) u8 x8_1) ∧ Aside0 (Kd.R k32 32 w' w.heap.size (fun _ => True) v148 t146) ∧ Aside0 (Below w.heap.size w w'))
                  case atStart => exact ⟨(0), (by first | rfl | (simp; done) | (simp [*]; done)), H', ⟨Nat.le_refl _⟩, ⟨by (with_reducible repeat (first | apply Kd.R_alloc | apply Kd.R_drewN | apply Kd.R_drew)); exact HO_7.out⟩, ⟨by (with_reducible repeat (first | apply Kd.R_alloc | apply Kd.R_drewN | apply Kd.R_drew)); exact HO_8.out⟩, ⟨by (with_reducible repeat (first | apply Kd.R_alloc | apply Kd.R_drewN | apply Kd.R_drew)); exact HO_11.out⟩, ⟨by repeat (first | (with_reducible first | exact HB.out | apply below_alloc | apply pw_below_drewN | apply below_drew1) | exact HB.out)⟩⟩
                  case round =>
                    clear H'
                    try clear c1
                    try clear p1
                    try clear q1
                    try clear hx1
                    try clear c2
                    try clear p2
                    try clear c3
                    try clear c4
                    try clear c4b0
                    try clear c4b1
                    try clear p6
                    try clear c11
                    try clear c11b0
                    try clear c12
                    try clear c12b0
                    try clear p13
                    try clear q13
                    try clear hx13
                    try clear c14
                    try clear c14b0
                    try clear p14
                    try clear q14
                    try clear hx14
                    try clear c15
                    try clear c15b0
                    try clear q15
                    try clear c16
                    try clear c17
                    try clear c18
                    try clear c18b0
                    try clear c18b1
                    try clear c18b2
                    try clear c20
                    try clear c20b0
                    try clear c21
                    try clear c21b0
                    try clear c22
                    try clear c22b0
                    try clear c22b1
                    try clear c22b2
                    try clear c32
                    try clear hx134_0
                    try clear hx136_0
                    try clear hx143_0
                    try clear hx145_0
                    try clear p1
                    try clear p13
                    try clear p134
                    try clear p136
                    try clear p14
                    try clear p143
                    try clear p145
                    try clear p2
                    try clear p6
                    try clear q1
                    try clear q13
                    try clear q134
                    try clear q136
                    try clear q14
                    try clear q143
                    try clear q145
                    try clear q15
                    try clear q150
                    obtain ⟨x13_3, rfl, HA, HK3, HO_7, HO_8, HO_11, HB⟩ := hrel
                    cases gk with
                    | zero => exact absurd HA.out (by simp [gristmilllaw3_LexApart.l1])
                    | succ k3 =>
                      have H := HA.out
                      clear HA
                      simp only [gristmilllaw3_LexApart.l1] at H
                      by_cases c33 : x13_3 < (t146.length : Int)
                      · rw [if_pos c33] at H
                        have c33b0 : decide (x13_3 < (t146.length : Int)) = true := decide_eq_true c33
                        clear c33
                        by_cases c34 : 0 ≤ x13_3
                        · rw [if_pos c34] at H
                          have c34b0 : decide (0 ≤ x13_3) = true := decide_eq_true c34
                          clear c34
                          by_cases c35 : x13_3 < (x8_1.length : Int)
                          · rw [if_pos c35] at H
                            have c35b0 : decide (x13_3 < (x8_1.length : Int)) = true := decide_eq_true c35
                            clear c35
                            by_cases c36 : ((rd_T32 t146 x13_3).f0).toList = (rdOf ByteArray.empty x8_1 x13_3).toList
                            · rw [if_pos c36] at H
                              have c36b0 : (((rd_T32 t146 x13_3).f0).toList == (rdOf ByteArray.empty x8_1 x13_3).toList) = true := beq_iff_eq.mpr c36
                              have c36b1 : (((rd_T32 t146 x13_3).f0).toList != (rdOf ByteArray.empty x8_1 x13_3).toList) = false := bne_eq_false_iff_eq.mpr c36
                              clear c36
                              by_cases c37 : x13_3 < (x7_1.length : Int)
                              · rw [if_pos c37] at H
                                have c37b0 : decide (x13_3 < (x7_1.length : Int)) = true := decide_eq_true c37
                                clear c37
                                by_cases c38 : ((rd_T32 t146 x13_3).f1) = (rd x7_1 x13_3)
                                · rw [if_pos c38] at H
                                  have c38b0 : (((rd_T32 t146 x13_3).f1) == (rd x7_1 x13_3)) = true := beq_iff_eq.mpr c38
                                  have c38b1 : (((rd_T32 t146 x13_3).f1) != (rd x7_1 x13_3)) = false := bne_eq_false_iff_eq.mpr c38
                                  clear c38
                                  have H' := Aside0.mk H
                                  clear H
                                  obtain ⟨Ao39, co39, eo39⟩ := Kd.R_slice HO_11.out
                                  subst eo39
                                  have p151 : 0 ≤ (x13_3 : Int) := of_decide_eq_true (by first | (with_reducible assumption) | assumption)
                                  have q151 : x13_3 < (t146.length : Int) := of_decide_eq_true (by first | (with_reducible assumption) | assumption)
                                  obtain ⟨ad151, e151, hx151_0, hx151_1⟩ := at_T32 (Kd.R_reads' HO_11.out).2.2 x13_3 p151 q151
                                  cases e151
                                  replace p151 := eq_true p151
                                  replace q151 := eq_true q151
                                  obtain ⟨Ao40, co40, eo40⟩ := Kd.R_slice HO_8.out
                                  subst eo40
                                  have p152 : 0 ≤ (x13_3 : Int) := of_decide_eq_true (by first | (with_reducible assumption) | assumption)
                                  have q152 : x13_3 < (x8_1.length : Int) := of_decide_eq_true (by first | (with_reducible assumption) | assumption)
                                  obtain ⟨ad152, e152, hx152_0⟩ := Kd.at_string (Kd.R_reads' HO_8.out).2.2 x13_3 p152 q152
                                  cases e152
                                  replace p152 := eq_true p152
                                  replace q152 := eq_true q152
                                  have p153 : 0 ≤ (x13_3 : Int) := of_decide_eq_true (by first | (with_reducible assumption) | assumption)
                                  have q153 : x13_3 < (t146.length : Int) := of_decide_eq_true (by first | (with_reducible assumption) | assumption)
                                  obtain ⟨ad153, e153, hx153_0, hx153_1⟩ := at_T32 (Kd.R_reads' HO_11.out).2.2 x13_3 p153 q153
                                  obtain rfl : ad151 = ad153 := (by injection e153)
                                  replace p153 := eq_true p153
                                  replace q153 := eq_true q153
                                  obtain ⟨Ao41, co41, eo41⟩ := Kd.R_slice HO_7.out
                                  subst eo41
                                  have p154 : 0 ≤ (x13_3 : Int) := of_decide_eq_true (by first | (with_reducible assumption) | assumption)
                                  have q154 : x13_3 < (x7_1.length : Int) := of_decide_eq_true (by first | (with_reducible assumption) | assumption)
                                  obtain ⟨ad154, e154, hx154_0⟩ := Kd.at_int (Kd.R_reads' HO_7.out).2.2 x13_3 p154 q154
                                  cases e154
                                  replace p154 := eq_true p154
                                  replace q154 := eq_true q154
                                  go_wp2
                                  repeat (go_quiet (fail); try go_wp2)
                                  go_roundg k3
                                  case measure => have := HK1.out; have := HJ27.out; have := HK3.out; omega
                                  case rel => exact ⟨(wrap64 (x13_3 + 1)), (by first | rfl | (simp; done) | (simp [*]; done)), H', ⟨by have := HK1.out; have := HJ27.out; have := HK3.out; omega⟩, ⟨by (with_reducible repeat (first | apply Kd.R_alloc | apply Kd.R_drewN | apply Kd.R_drew)); exact HO_7.out⟩, ⟨by (with_reducible repeat (first | apply Kd.R_alloc | apply Kd.R_drewN | apply Kd.R_drew)); exact HO_8.out⟩, ⟨by (with_reducible repeat (first | apply Kd.R_alloc | apply Kd.R_drewN | apply Kd.R_drew)); exact HO_11.out⟩, ⟨by repeat (first | (with_reducible first | exact HB.out | apply below_alloc | apply pw_below_drewN | apply below_drew1) | exact HB.out)⟩⟩
                                · rw [if_neg c38] at H
                                  have c38b0 : (((rd_T32 t146 x13_3).f1) == (rd x7_1 x13_3)) = false := beq_eq_false_iff_ne.mpr c38
                                  have c38b1 : (((rd_T32 t146 x13_3).f1) != (rd x7_1 x13_3)) = true := bne_iff_ne.mpr c38
                                  obtain rfl := Option.some.inj H
                                  obtain ⟨Ao42, co42, eo42⟩ := Kd.R_slice HO_11.out
                                  subst eo42
                                  have p151 : 0 ≤ (x13_3 : Int) := of_decide_eq_true (by first | (with_reducible assumption) | assumption)
                                  have q151 : x13_3 < (t146.length : Int) := of_decide_eq_true (by first | (with_reducible assumption) | assumption)
                                  obtain ⟨ad151, e151, hx151_0, hx151_1⟩ := at_T32 (Kd.R_reads' HO_11.out).2.2 x13_3 p151 q151
                                  cases e151
                                  replace p151 := eq_true p151
                                  replace q151 := eq_true q151
                                  obtain ⟨Ao43, co43, eo43⟩ := Kd.R_slice HO_8.out
                                  subst eo43
                                  have p152 : 0 ≤ (x13_3 : Int) := of_decide_eq_true (by first | (with_reducible assumption) | assumption)
                                  have q152 : x13_3 < (x8_1.length : Int) := of_decide_eq_true (by first | (with_reducible assumption) | assumption)
                                  obtain ⟨ad152, e152, hx152_0⟩ := Kd.at_string (Kd.R_reads' HO_8.out).2.2 x13_3 p152 q152
                                  cases e152
                                  replace p152 := eq_true p152
                                  replace q152 := eq_true q152
                                  have p153 : 0 ≤ (x13_3 : Int) := of_decide_eq_true (by first | (with_reducible assumption) | assumption)
                                  have q153 : x13_3 < (t146.length : Int) := of_decide_eq_true (by first | (with_reducible assumption) | assumption)
                                  obtain ⟨ad153, e153, hx153_0, hx153_1⟩ := at_T32 (Kd.R_reads' HO_11.out).2.2 x13_3 p153 q153
                                  obtain rfl : ad151 = ad153 := (by injection e153)
                                  replace p153 := eq_true p153
                                  replace q153 := eq_true q153
                                  obtain ⟨Ao44, co44, eo44⟩ := Kd.R_slice HO_7.out
                                  subst eo44
                                  have p154 : 0 ≤ (x13_3 : Int) := of_decide_eq_true (by first | (with_reducible assumption) | assumption)
                                  have q154 : x13_3 < (x7_1.length : Int) := of_decide_eq_true (by first | (with_reducible assumption) | assumption)
                                  obtain ⟨ad154, e154, hx154_0⟩ := Kd.at_int (Kd.R_reads' HO_7.out).2.2 x13_3 p154 q154
                                  cases e154
                                  replace p154 := eq_true p154
                                  replace q154 := eq_true q154
                                  go_wp2
                                  repeat (go_quiet (fail); try go_wp2)
                                  go_ret
                                  exact ⟨by first | rfl | (simp [errW_none, errW_some] <;> rfl) | (simp [*, errW_none, errW_some] <;> rfl), by repeat (first | (with_reducible first | exact HB.out | apply below_alloc | apply pw_below_drewN | apply below_drew1) | exact HB.out)⟩
                              · rw [if_neg c37] at H
                                exact absurd H (by simp)
                            · rw [if_neg c36] at H
                              have c36b0 : (((rd_T32 t146 x13_3).f0).toList == (rdOf ByteArray.empty x8_1 x13_3).toList) = false := beq_eq_false_iff_ne.mpr c36
                              have c36b1 : (((rd_T32 t146 x13_3).f0).toList != (rdOf ByteArray.empty x8_1 x13_3).toList) = true := bne_iff_ne.mpr c36
                              obtain rfl := Option.some.inj H
                              obtain ⟨Ao45, co45, eo45⟩ := Kd.R_slice HO_11.out
                              subst eo45
                              have p151 : 0 ≤ (x13_3 : Int) := of_decide_eq_true (by first | (with_reducible assumption) | assumption)
                              have q151 : x13_3 < (t146.length : Int) := of_decide_eq_true (by first | (with_reducible assumption) | assumption)
                              obtain ⟨ad151, e151, hx151_0, hx151_1⟩ := at_T32 (Kd.R_reads' HO_11.out).2.2 x13_3 p151 q151
                              cases e151
                              replace p151 := eq_true p151
                              replace q151 := eq_true q151
                              obtain ⟨Ao46, co46, eo46⟩ := Kd.R_slice HO_8.out
                              subst eo46
                              have p152 : 0 ≤ (x13_3 : Int) := of_decide_eq_true (by first | (with_reducible assumption) | assumption)
                              have q152 : x13_3 < (x8_1.length : Int) := of_decide_eq_true (by first | (with_reducible assumption) | assumption)
                              obtain ⟨ad152, e152, hx152_0⟩ := Kd.at_string (Kd.R_reads' HO_8.out).2.2 x13_3 p152 q152
                              cases e152
                              replace p152 := eq_true p152
                              replace q152 := eq_true q152
                              go_wp2
                              repeat (go_quiet (fail); try go_wp2)
                              go_ret
                              exact ⟨by first | rfl | (simp [errW_none, errW_some] <;> rfl) | (simp [*, errW_none, errW_some] <;> rfl), by repeat (first | (with_reducible first | exact HB.out | apply below_alloc | apply pw_below_drewN | apply below_drew1) | exact HB.out)⟩
                          · rw [if_neg c35] at H
                            exact absurd H (by simp)
                        · rw [if_neg c34] at H
                          exact absurd H (by simp)
                      · rw [if_neg c33] at H
                        have c33b0 : decide (x13_3 < (t146.length : Int)) = false := decide_eq_false c33
                        clear c33
                        obtain rfl := Option.some.inj H
                        obtain ⟨Ao47, co47, eo47⟩ := Kd.R_slice HO_11.out
                        subst eo47
                        go_wp2
                        repeat (go_quiet (fail); try go_wp2)
                        go_ret
                        exact ⟨by first | rfl | (simp [errW_none, errW_some] <;> rfl) | (simp [*, errW_none, errW_some] <;> rfl), by repeat (first | (with_reducible first | exact HB.out | apply below_alloc | apply pw_below_drewN | apply below_drew1) | exact HB.out)⟩
  · replace c3 := Bool.eq_false_iff.mpr c3
    subst c3
    have H1 : (some false) = some r := by rw [if_neg (show ¬ (false = true) by decide)] at H; exact H
    clear H
    have H := H1
    clear H1
    obtain rfl := Option.some.inj H
    go_enter Tryd.func3, Tryd.ntmps3
    go_wp2_with (first | (go_at_call 8; (with_reducible refine (gristmilllaw3_first.calls k  false _ A2.out).mono ?_); rintro e w48 ⟨rfl, hb⟩; have n0_ := Aside0.mk (below_step (by repeat (first | (with_reducible first | exact HB.out | apply below_alloc | apply pw_below_drewN | apply below_drew1) | exact HB.out)) hb); clear HB; have HB := n0_; clear n0_; (try clear hb); (try clear hb2); (try clear hk); (try clear hi)))
    repeat (go_quiet (first | (go_at_call 8; (with_reducible refine (gristmilllaw3_first.calls k  false _ A2.out).mono ?_); rintro e w48 ⟨rfl, hb⟩; have n0_ := Aside0.mk (below_step (by repeat (first | (with_reducible first | exact HB.out | apply below_alloc | apply pw_below_drewN | apply below_drew1) | exact HB.out)) hb); clear HB; have HB := n0_; clear n0_; (try clear hb); (try clear hb2); (try clear hk); (try clear hi))); try go_wp2_with (first | (go_at_call 8; (with_reducible refine (gristmilllaw3_first.calls k  false _ A2.out).mono ?_); rintro e w48 ⟨rfl, hb⟩; have n0_ := Aside0.mk (below_step (by repeat (first | (with_reducible first | exact HB.out | apply below_alloc | apply pw_below_drewN | apply below_drew1) | exact HB.out)) hb); clear HB; have HB := n0_; clear n0_; (try clear hb); (try clear hb2); (try clear hk); (try clear hi))))
    go_ret
    exact ⟨by first | rfl | (simp [errW_none, errW_some] <;> rfl) | (simp [*, errW_none, errW_some] <;> rfl), by repeat (first | (with_reducible first | exact HB.out | apply below_alloc | apply pw_below_drewN | apply below_drew1) | exact HB.out)⟩

/-- THE ONE PURE STATEMENT of gristmilllaw3_LexApart: yours. -/
def gristmilllaw3_LexApart.Pure : Prop := ∀ (l0 : List Int), l0.length ≤ maxLen → l0.length * 8 ≤ 140737488351232 → (∀ x ∈ l0, (Lit.int .i64 x).wf = true) → ∃ k, gristmilllaw3_LexApart.f k l0 = some true
theorem gristmilllaw3_LexApart.walk (P : gristmilllaw3_LexApart.Pure) (a0 : Option Addr) (len0 cap0 : Nat) (z0 : List Int) (w : World) (w0 : (a0 = none ∧ len0 = 0 ∧ cap0 = 0 ∧ z0 = []) ∨ ∃ x, a0 = some x ∧ len0 ≤ cap0 ∧ cap0 ≤ maxLen ∧ z0.length = cap0 ∧ (∀ i, i < z0.length → w.cell? (x.add i) = some (.int .i64 (z0.getD i 0))) ∧ ∀ n ∈ z0, (Lit.int .i64 n).wf = true) (y0 : len0 * 8 ≤ 140737488351232) :
    Calls Tryd.prog 3 #[.slice a0 len0 cap0] w fun e w' => e = .returned (.bool true) ∧ Below w.heap.size w w' := by
  obtain ⟨l0, rfl, hr0, hm0, hw0, hc0⟩ := ReadsInt.ofRowC w0
  obtain ⟨k, h⟩ := P l0 hm0 y0 hw0
  refine (gristmilllaw3_LexApart.calls k _ _ l0 true w (Kd.C_of_reads (d := (0 : Int)) (h1 := fun _ => rfl) hr0) hc0 h).mono ?_
  rintro e w' ⟨rfl, hd⟩
  exact ⟨rfl, hd⟩

end Go.Proofs.YtiacndjjppcaoaaDoor.PLex
