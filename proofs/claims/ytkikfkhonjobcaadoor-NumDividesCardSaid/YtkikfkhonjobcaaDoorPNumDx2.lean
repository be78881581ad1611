/- For each Go function that the laws of this group reach: a plain function with the same answers, and the proof that the call comes to them wherever the plain function has an answer. No other condition. (Laid by a program of this session.) -/
import Derived.Test.YtkikfkhonjobcaaDoorPNumDx0
import Derived.Test.YtkikfkhonjobcaaDoorPNumDx1
import Derived.Test.YtkikfkhonjobcaaDoorExt
namespace Go.Proofs.YtkikfkhonjobcaaDoor.PNumD
open Go.RowKit Go.Proofs.YtkikfkhonjobcaaDoorW.PrintWords Go.Proofs.YtkikfkhonjobcaaDoorW.PrintLast Go.Proofs.YtkikfkhonjobcaaDoorW.PrintMore Go.Proofs.YtkikfkhonjobcaaDoor.Ext
attribute [local go_sem] max2_int min2_int max_two min_two max_three min_three max_four min_four   -- for this text's walks alone
set_option linter.unusedVariables false
set_option linter.unusedSimpArgs false

/-! ### gristmilllaw2_NumDivides: function 3 -/
mutual
def gristmilllaw2_NumDivides.j0 : Nat → Bool → Option (Bool)
  | 0, _ => none
  | k + 1, x4 => some x4
def gristmilllaw2_NumDivides.j1 : Nat → Int → Int → Bool → Int → Int → Int → Int → Int → Int → Int → Bool → Option (Bool)
  | 0, _, _, _, _, _, _, _, _, _, _, _ => none
  | k + 1, x0, x1, x5, x7, x9, x10, x15, x18, x21, x24, x27 => if x1 = (-9223372036854775808) then (gristmilllaw2_NumDivides.j2 k x0 x5 x7 x10 x15 x18 x21 x24 x27 true) else (if x9 < x1 then (if x9 > (wrap64 (-x1)) then (gristmilllaw2_NumDivides.j2 k x0 x5 x7 x10 x15 x18 x21 x24 x27 true) else (if x9 < (wrap64 (-x1)) then (gristmilllaw2_NumDivides.j2 k x0 x5 x7 x10 x15 x18 x21 x24 x27 (decide (x9 > x1))) else (gristmilllaw2_NumDivides.j2 k x0 x5 x7 x10 x15 x18 x21 x24 x27 false))) else (if x9 < (wrap64 (-x1)) then (gristmilllaw2_NumDivides.j2 k x0 x5 x7 x10 x15 x18 x21 x24 x27 (decide (x9 > x1))) else (gristmilllaw2_NumDivides.j2 k x0 x5 x7 x10 x15 x18 x21 x24 x27 false)))
def gristmilllaw2_NumDivides.j2 : Nat → Int → Bool → Int → Int → Int → Int → Int → Int → Bool → Bool → Option (Bool)
  | 0, _, _, _, _, _, _, _, _, _, _ => none
  | k + 1, x0, x5, x7, x10, x15, x18, x21, x24, x27, x28 => if x5 = true then (if x7 = 0 then (if x10 = 0 then (if x15 = x0 then (if x27 = true then (if x28 = true then (gristmilllaw2_NumDivides.j3 k ((wrap64 ((wrap64 (x18 + x21)) + x24)) == 1)) else (gristmilllaw2_NumDivides.j3 k false)) else (gristmilllaw2_NumDivides.j3 k false)) else (gristmilllaw2_NumDivides.j3 k false)) else (gristmilllaw2_NumDivides.j3 k false)) else (gristmilllaw2_NumDivides.j3 k false)) else (gristmilllaw2_NumDivides.j3 k false)
def gristmilllaw2_NumDivides.j3 : Nat → Bool → Option (Bool)
  | 0, _ => none
  | k + 1, x4 => some x4
end
def gristmilllaw2_NumDivides.f (k : Nat) (a0 : Int) (a1 : Int) : Option (Bool) := (gristmilllaw2_first.f k).bind fun t111 => (if t111 = true then ((num_Do.f k (⟨#[100, 105, 118]⟩ : ByteArray) a0 a1).bind fun bt112 => ((num_Do.f k (⟨#[109, 111, 100]⟩ : ByteArray) a0 a1).bind fun bt115 => (if a1 = 0 then (if bt112.2.1 = (-2) then (if bt115.2.1 = (-2) then (if bt112.1 = 0 then (gristmilllaw2_NumDivides.j0 k (bt115.1 == 0)) else (gristmilllaw2_NumDivides.j0 k false)) else (gristmilllaw2_NumDivides.j0 k false)) else (gristmilllaw2_NumDivides.j0 k false)) else ((num_Do.f k (⟨#[42]⟩ : ByteArray) bt112.1 a1).bind fun bt118 => ((num_Do.f k (⟨#[43]⟩ : ByteArray) bt118.1 bt115.1).bind fun bt121 => ((num_Do.f k (⟨#[60]⟩ : ByteArray) a0 a1).bind fun bt124 => ((num_Do.f k (⟨#[60]⟩ : ByteArray) a1 a0).bind fun bt127 => ((num_Do.f k (⟨#[61]⟩ : ByteArray) a0 a1).bind fun bt130 => (if bt115.1 = 0 then (gristmilllaw2_NumDivides.j1 k a0 a1 t111 bt112.2.1 bt115.1 bt115.2.1 bt121.1 bt124.1 bt127.1 bt130.1 true) else (gristmilllaw2_NumDivides.j1 k a0 a1 t111 bt112.2.1 bt115.1 bt115.2.1 bt121.1 bt124.1 bt127.1 bt130.1 ((decide (bt115.1 < 0)) == (decide (a0 < 0))))))))))))) else (some false))
theorem gristmilllaw2_NumDivides.mono_l : ∀ k, (∀ y0, LeO (gristmilllaw2_NumDivides.j0 k y0) (gristmilllaw2_NumDivides.j0 (k + 1) y0)) ∧ (∀ y0 y1 y2 y3 y4 y5 y6 y7 y8 y9 y10, LeO (gristmilllaw2_NumDivides.j1 k y0 y1 y2 y3 y4 y5 y6 y7 y8 y9 y10) (gristmilllaw2_NumDivides.j1 (k + 1) y0 y1 y2 y3 y4 y5 y6 y7 y8 y9 y10)) ∧ (∀ y0 y1 y2 y3 y4 y5 y6 y7 y8 y9, LeO (gristmilllaw2_NumDivides.j2 k y0 y1 y2 y3 y4 y5 y6 y7 y8 y9) (gristmilllaw2_NumDivides.j2 (k + 1) y0 y1 y2 y3 y4 y5 y6 y7 y8 y9)) ∧ (∀ y0, LeO (gristmilllaw2_NumDivides.j3 k y0) (gristmilllaw2_NumDivides.j3 (k + 1) y0))
  | 0 => ⟨fun _ r h => by simp [gristmilllaw2_NumDivides.j0] at h, fun _ _ _ _ _ _ _ _ _ _ _ r h => by simp [gristmilllaw2_NumDivides.j1] at h, fun _ _ _ _ _ _ _ _ _ _ r h => by simp [gristmilllaw2_NumDivides.j2] at h, fun _ r h => by simp [gristmilllaw2_NumDivides.j3] at h⟩
  | k + 1 => by
    obtain ⟨ih0, ih1, ih2, ih3⟩ := gristmilllaw2_NumDivides.mono_l k
    refine ⟨?_, ?_, ?_, ?_⟩
    · intro y0
      unfold gristmilllaw2_NumDivides.j0
      repeat' first
      | (with_reducible exact ih0 _)
      | (with_reducible exact ih1 _ _ _ _ _ _ _ _ _ _ _)
      | (with_reducible exact ih2 _ _ _ _ _ _ _ _ _ _)
      | (with_reducible exact ih3 _)
      | (with_reducible exact gristmilllaw2_first.mono _)
      | (with_reducible exact num_Do.mono _ _ _ _)
      | (with_reducible exact LeO.refl _)
      | (with_reducible exact LeO.none _)
      | (with_reducible refine LeO.ite ?_ ?_)
      | (with_reducible refine LeO.bind ?_ (fun _ => ?_))
      | exact ih0 _
      | exact ih1 _ _ _ _ _ _ _ _ _ _ _
      | exact ih2 _ _ _ _ _ _ _ _ _ _
      | exact ih3 _
      | exact gristmilllaw2_first.mono _
      | exact num_Do.mono _ _ _ _
      | exact LeO.none _
      | refine LeO.ite ?_ ?_
      | refine LeO.bind ?_ (fun _ => ?_)
    · intro y0 y1 y2 y3 y4 y5 y6 y7 y8 y9 y10
      unfold gristmilllaw2_NumDivides.j1
      repeat' first
      | (with_reducible exact ih0 _)
      | (with_reducible exact ih1 _ _ _ _ _ _ _ _ _ _ _)
      | (with_reducible exact ih2 _ _ _ _ _ _ _ _ _ _)
      | (with_reducible exact ih3 _)
      | (with_reducible exact gristmilllaw2_first.mono _)
      | (with_reducible exact num_Do.mono _ _ _ _)
      | (with_reducible exact LeO.refl _)
      | (with_reducible exact LeO.none _)
      | (with_reducible refine LeO.ite ?_ ?_)
      | (with_reducible refine LeO.bind ?_ (fun _ => ?_))
      | exact ih0 _
      | exact ih1 _ _ _ _ _ _ _ _ _ _ _
      | exact ih2 _ _ _ _ _ _ _ _ _ _
      | exact ih3 _
      | exact gristmilllaw2_first.mono _
      | exact num_Do.mono _ _ _ _
      | exact LeO.none _
      | refine LeO.ite ?_ ?_
      | refine LeO.bind ?_ (fun _ => ?_)
    · intro y0 y1 y2 y3 y4 y5 y6 y7 y8 y9
      unfold gristmilllaw2_NumDivides.j2
      repeat' first
      | (with_reducible exact ih0 _)
      | (with_reducible exact ih1 _ _ _ _ _ _ _ _ _ _ _)
      | (with_reducible exact ih2 _ _ _ _ _ _ _ _ _ _)
      | (with_reducible exact ih3 _)
      | (with_reducible exact gristmilllaw2_first.mono _)
      | (with_reducible exact num_Do.mono _ _ _ _)
      | (with_reducible exact LeO.refl _)
      | (with_reducible exact LeO.none _)
      | (with_reducible refine LeO.ite ?_ ?_)
      | (with_reducible refine LeO.bind ?_ (fun _ => ?_))
      | exact ih0 _
      | exact ih1 _ _ _ _ _ _ _ _ _ _ _
      | exact ih2 _ _ _ _ _ _ _ _ _ _
      | exact ih3 _
      | exact gristmilllaw2_first.mono _
      | exact num_Do.mono _ _ _ _
      | exact LeO.none _
      | refine LeO.ite ?_ ?_
      | refine LeO.bind ?_ (fun _ => ?_)
    · intro y0
      unfold gristmilllaw2_NumDivides.j3
      repeat' first
      | (with_reducible exact ih0 _)
      | (with_reducible exact ih1 _ _ _ _ _ _ _ _ _ _ _)
      | (with_reducible exact ih2 _ _ _ _ _ _ _ _ _ _)
      | (with_reducible exact ih3 _)
      | (with_reducible exact gristmilllaw2_first.mono _)
      | (with_reducible exact num_Do.mono _ _ _ _)
      | (with_reducible exact LeO.refl _)
      | (with_reducible exact LeO.none _)
      | (with_reducible refine LeO.ite ?_ ?_)
      | (with_reducible refine LeO.bind ?_ (fun _ => ?_))
      | exact ih0 _
      | exact ih1 _ _ _ _ _ _ _ _ _ _ _
      | exact ih2 _ _ _ _ _ _ _ _ _ _
      | exact ih3 _
      | exact gristmilllaw2_first.mono _
      | exact num_Do.mono _ _ _ _
      | exact LeO.none _
      | refine LeO.ite ?_ ?_
      | refine LeO.bind ?_ (fun _ => ?_)
theorem gristmilllaw2_NumDivides.mono : ∀ a0 a1 k, LeO (gristmilllaw2_NumDivides.f k a0 a1) (gristmilllaw2_NumDivides.f (k + 1) a0 a1) := by
  intro a0 a1 k
  obtain ⟨ih0, ih1, ih2, ih3⟩ := gristmilllaw2_NumDivides.mono_l k
  unfold gristmilllaw2_NumDivides.f
  repeat' first
      | (with_reducible exact ih0 _)
      | (with_reducible exact ih1 _ _ _ _ _ _ _ _ _ _ _)
      | (with_reducible exact ih2 _ _ _ _ _ _ _ _ _ _)
      | (with_reducible exact ih3 _)
      | (with_reducible exact gristmilllaw2_first.mono _)
      | (with_reducible exact num_Do.mono _ _ _ _)
      | (with_reducible exact LeO.refl _)
      | (with_reducible exact LeO.none _)
      | (with_reducible refine LeO.ite ?_ ?_)
      | (with_reducible refine LeO.bind ?_ (fun _ => ?_))
      | exact ih0 _
      | exact ih1 _ _ _ _ _ _ _ _ _ _ _
      | exact ih2 _ _ _ _ _ _ _ _ _ _
      | exact ih3 _
      | exact gristmilllaw2_first.mono _
      | exact num_Do.mono _ _ _ _
      | exact LeO.none _
      | refine LeO.ite ?_ ?_
      | refine LeO.bind ?_ (fun _ => ?_)
set_option maxHeartbeats 8000000 in
set_option maxRecDepth 100000 in
theorem gristmilllaw2_NumDivides.calls (k : Nat) (a0 : Int) (a1 : Int) (r : Bool) (w : World) (hGG : GG w) (h : gristmilllaw2_NumDivides.f k a0 a1 = some r) :
    Calls Tryd.prog 3 #[.int .i64 a0, .int .i64 a1] w fun e w' => e = .returned (.bool r) ∧ Below w.heap.size w w' := by
  have HB := Aside0.mk (Below.refl w.heap.size w)
  have H : ((gristmilllaw2_first.f k).bind fun t111 => (if t111 = true then ((num_Do.f k (⟨#[100, 105, 118]⟩ : ByteArray) a0 a1).bind fun bt112 => ((num_Do.f k (⟨#[109, 111, 100]⟩ : ByteArray) a0 a1).bind fun bt115 => (if a1 = 0 then (if bt112.2.1 = (-2) then (if bt115.2.1 = (-2) then (if bt112.1 = 0 then (gristmilllaw2_NumDivides.j0 k (bt115.1 == 0)) else (gristmilllaw2_NumDivides.j0 k false)) else (gristmilllaw2_NumDivides.j0 k false)) else (gristmilllaw2_NumDivides.j0 k false)) else ((num_Do.f k (⟨#[42]⟩ : ByteArray) bt112.1 a1).bind fun bt118 => ((num_Do.f k (⟨#[43]⟩ : ByteArray) bt118.1 bt115.1).bind fun bt121 => ((num_Do.f k (⟨#[60]⟩ : ByteArray) a0 a1).bind fun bt124 => ((num_Do.f k (⟨#[60]⟩ : ByteArray) a1 a0).bind fun bt127 => ((num_Do.f k (⟨#[61]⟩ : ByteArray) a0 a1).bind fun bt130 => (if bt115.1 = 0 then (gristmilllaw2_NumDivides.j1 k a0 a1 t111 bt112.2.1 bt115.1 bt115.2.1 bt121.1 bt124.1 bt127.1 bt130.1 true) else (gristmilllaw2_NumDivides.j1 k a0 a1 t111 bt112.2.1 bt115.1 bt115.2.1 bt121.1 bt124.1 bt127.1 bt130.1 ((decide (bt115.1 < 0)) == (decide (a0 < 0))))))))))))) else (some false))) = some r := h
  clear h
  replace H := Option.bind_eq_some_iff.mp H
  obtain ⟨t111, A30, H⟩ := H
  replace H : (if t111 = true then ((num_Do.f k (⟨#[100, 105, 118]⟩ : ByteArray) a0 a1).bind fun bt112 => ((num_Do.f k (⟨#[109, 111, 100]⟩ : ByteArray) a0 a1).bind fun bt115 => (if a1 = 0 then (if bt112.2.1 = (-2) then (if bt115.2.1 = (-2) then (if bt112.1 = 0 then (gristmilllaw2_NumDivides.j0 k (bt115.1 == 0)) else (gristmilllaw2_NumDivides.j0 k false)) else (gristmilllaw2_NumDivides.j0 k false)) else (gristmilllaw2_NumDivides.j0 k false)) else ((num_Do.f k (⟨#[42]⟩ : ByteArray) bt112.1 a1).bind fun bt118 => ((num_Do.f k (⟨#[43]⟩ : ByteArray) bt118.1 bt115.1).bind fun bt121 => ((num_Do.f k (⟨#[60]⟩ : ByteArray) a0 a1).bind fun bt124 => ((num_Do.f k (⟨#[60]⟩ : ByteArray) a1 a0).bind fun bt127 => ((num_Do.f k (⟨#[61]⟩ : ByteArray) a0 a1).bind fun bt130 => (if bt115.1 = 0 then (gristmilllaw2_NumDivides.j1 k a0 a1 t111 bt112.2.1 bt115.1 bt115.2.1 bt121.1 bt124.1 bt127.1 bt130.1 true) else (gristmilllaw2_NumDivides.j1 k a0 a1 t111 bt112.2.1 bt115.1 bt115.2.1 bt121.1 bt124.1 bt127.1 bt130.1 ((decide (bt115.1 < 0)) == (decide (a0 < 0))))))))))))) else (some false)) = some r := H
  have A3 := Aside0.mk A30
  clear A30
  by_cases c4 : t111 = true
  · subst c4
    have H1 : ((num_Do.f k (⟨#[100, 105, 118]⟩ : ByteArray) a0 a1).bind fun bt112 => ((num_Do.f k (⟨#[109, 111, 100]⟩ : ByteArray) a0 a1).bind fun bt115 => (if a1 = 0 then (if bt112.2.1 = (-2) then (if bt115.2.1 = (-2) then (if bt112.1 = 0 then (gristmilllaw2_NumDivides.j0 k (bt115.1 == 0)) else (gristmilllaw2_NumDivides.j0 k false)) else (gristmilllaw2_NumDivides.j0 k false)) else (gristmilllaw2_NumDivides.j0 k false)) else ((num_Do.f k (⟨#[42]⟩ : ByteArray) bt112.1 a1).bind fun bt118 => ((num_Do.f k (⟨#[43]⟩ : ByteArray) bt118.1 bt115.1).bind fun bt121 => ((num_Do.f k (⟨#[60]⟩ : ByteArray) a0 a1).bind fun bt124 => ((num_Do.f k (⟨#[60]⟩ : ByteArray) a1 a0).bind fun bt127 => ((num_Do.f k (⟨#[61]⟩ : ByteArray) a0 a1).bind fun bt130 => (if bt115.1 = 0 then (gristmilllaw2_NumDivides.j1 k a0 a1 true bt112.2.1 bt115.1 bt115.2.1 bt121.1 bt124.1 bt127.1 bt130.1 true) else (gristmilllaw2_NumDivides.j1 k a0 a1 true bt112.2.1 bt115.1 bt115.2.1 bt121.1 bt124.1 bt127.1 bt130.1 ((decide (bt115.1 < 0)) == (decide (a0 < 0))))))))))))) = some r := by rw [if_pos rfl] at H; exact H
    clear H
    have H := H1
    clear H1
    replace H := Option.bind_eq_some_iff.mp H
    obtain ⟨⟨t112, t113, t114⟩, A50, H⟩ := H
    replace H : ((num_Do.f k (⟨#[109, 111, 100]⟩ : ByteArray) a0 a1).bind fun bt115 => (if a1 = 0 then (if t113 = (-2) then (if bt115.2.1 = (-2) then (if t112 = 0 then (gristmilllaw2_NumDivides.j0 k (bt115.1 == 0)) else (gristmilllaw2_NumDivides.j0 k false)) else (gristmilllaw2_NumDivides.j0 k false)) else (gristmilllaw2_NumDivides.j0 k false)) else ((num_Do.f k (⟨#[42]⟩ : ByteArray) t112 a1).bind fun bt118 => ((num_Do.f k (⟨#[43]⟩ : ByteArray) bt118.1 bt115.1).bind fun bt121 => ((num_Do.f k (⟨#[60]⟩ : ByteArray) a0 a1).bind fun bt124 => ((num_Do.f k (⟨#[60]⟩ : ByteArray) a1 a0).bind fun bt127 => ((num_Do.f k (⟨#[61]⟩ : ByteArray) a0 a1).bind fun bt130 => (if bt115.1 = 0 then (gristmilllaw2_NumDivides.j1 k a0 a1 true t113 bt115.1 bt115.2.1 bt121.1 bt124.1 bt127.1 bt130.1 true) else (gristmilllaw2_NumDivides.j1 k a0 a1 true t113 bt115.1 bt115.2.1 bt121.1 bt124.1 bt127.1 bt130.1 ((decide (bt115.1 < 0)) == (decide (a0 < 0)))))))))))) = some r := H
    have A5 := Aside0.mk A50
    clear A50
    replace H := Option.bind_eq_some_iff.mp H
    obtain ⟨⟨t115, t116, t117⟩, A60, H⟩ := H
    replace H : (if a1 = 0 then (if t113 = (-2) then (if t116 = (-2) then (if t112 = 0 then (gristmilllaw2_NumDivides.j0 k (t115 == 0)) else (gristmilllaw2_NumDivides.j0 k false)) else (gristmilllaw2_NumDivides.j0 k false)) else (gristmilllaw2_NumDivides.j0 k false)) else ((num_Do.f k (⟨#[42]⟩ : ByteArray) t112 a1).bind fun bt118 => ((num_Do.f k (⟨#[43]⟩ : ByteArray) bt118.1 t115).bind fun bt121 => ((num_Do.f k (⟨#[60]⟩ : ByteArray) a0 a1).bind fun bt124 => ((num_Do.f k (⟨#[60]⟩ : ByteArray) a1 a0).bind fun bt127 => ((num_Do.f k (⟨#[61]⟩ : ByteArray) a0 a1).bind fun bt130 => (if t115 = 0 then (gristmilllaw2_NumDivides.j1 k a0 a1 true t113 t115 t116 bt121.1 bt124.1 bt127.1 bt130.1 true) else (gristmilllaw2_NumDivides.j1 k a0 a1 true t113 t115 t116 bt121.1 bt124.1 bt127.1 bt130.1 ((decide (t115 < 0)) == (decide (a0 < 0))))))))))) = some r := H
    have A6 := Aside0.mk A60
    clear A60
    by_cases c7 : a1 = 0
    · rw [if_pos c7] at H
      have c7b0 : (a1 == 0) = true := beq_iff_eq.mpr c7
      have c7b1 : (a1 != 0) = false := bne_eq_false_iff_eq.mpr c7
      clear c7
      have HC8 := Aside0.mk H
      clear H
      go_enter Tryd.func3, Tryd.ntmps3
      go_upto_region 7 with (first | ((with_reducible refine gate_callee (f := 8) rfl ?_); refine goesL_ (some 29) rfl rfl Tryd.func8 (by kernel_rfl) rfl #[] rfl (by (try simp only [List.map_toArray, List.map_cons, List.map_nil]); first | done | rfl | (simp only [List.length_drop, List.length_take]; rfl)) ?_; (with_reducible refine (gristmilllaw2_first.calls k  true _ ?side1 A3.out).mono ?_); (case side1 => exact GG.below hGG (by repeat (first | (with_reducible first | exact HB.out | apply below_alloc | apply pw_below_drewN | apply below_drew1) | exact HB.out))); rintro e w9 ⟨rfl, hb⟩; refine ⟨_, rfl, ?_⟩; have n0_ := Aside0.mk (below_step (by repeat (first | (with_reducible first | exact HB.out | apply below_alloc | apply pw_below_drewN | apply below_drew1) | exact HB.out)) hb); clear HB; have HB := n0_; clear n0_; (try clear hb); (try clear hb2); (try clear hk); (try clear hi)) | ((with_reducible refine gate_callee (f := 9) rfl ?_); refine goesL_ (some 35) rfl rfl Tryd.func9 (by kernel_rfl) rfl #[.string (⟨#[100, 105, 118]⟩ : ByteArray), .int .i64 a0, .int .i64 a1] rfl (by (try simp only [List.map_toArray, List.map_cons, List.map_nil]); first | done | rfl | (simp only [List.length_drop, List.length_take]; rfl)) ?_; (with_reducible refine (num_Do.calls k (⟨#[100, 105, 118]⟩ : ByteArray) a0 a1 t112 t113 t114 _ A5.out).mono ?_); rintro e w10 ⟨rfl, hb⟩; refine ⟨_, rfl, ?_⟩; have n0_ := Aside0.mk (below_step (by repeat (first | (with_reducible first | exact HB.out | apply below_alloc | apply pw_below_drewN | apply below_drew1) | exact HB.out)) hb); clear HB; have HB := n0_; clear n0_; (try clear hb); (try clear hb2); (try clear hk); (try clear hi)) | ((with_reducible refine gate_callee (f := 9) rfl ?_); refine goesL_ (some 42) rfl rfl Tryd.func9 (by kernel_rfl) rfl #[.string (⟨#[109, 111, 100]⟩ : ByteArray), .int .i64 a0, .int .i64 a1] rfl (by (try simp only [List.map_toArray, List.map_cons, List.map_nil]); first | done | rfl | (simp only [List.length_drop, List.length_take]; rfl)) ?_; (with_reducible refine (num_Do.calls k (⟨#[109, 111, 100]⟩ : ByteArray) a0 a1 t115 t116 t117 _ A6.out).mono ?_); rintro e w11 ⟨rfl, hb⟩; refine ⟨_, rfl, ?_⟩; have n0_ := Aside0.mk (below_step (by repeat (first | (with_reducible first | exact HB.out | apply below_alloc | apply pw_below_drewN | apply below_drew1) | exact HB.out)) hb); clear HB; have HB := n0_; clear n0_; (try clear hb); (try clear hb2); (try clear hk); (try clear hi)))
      (try simp only [Act.put, List.setIfInBounds_toArray, List.set_cons_zero, List.set_cons_succ])
      go_cut [4] (fun v4 wc => ∃ (kq : Nat) (x4_7 : Bool), v4 = .bool x4_7 ∧ Aside0 (gristmilllaw2_NumDivides.j0 kq x4_7 = some r) ∧ Aside0 (kq ≤ k) ∧ Aside0 (Below w.heap.size w wc))
      case first =>
        have H := HC8.out
        clear HC8
        by_cases c12 : t113 = (-2)
        · rw [if_pos c12] at H
          have c12b0 : (t113 == (-2)) = true := beq_iff_eq.mpr c12
          have c12b1 : (t113 != (-2)) = false := bne_eq_false_iff_eq.mpr c12
          clear c12
          (first | rw [c12b0] | (simp only [i64_w, i32_w]; rw [c12b0]) | skip)
          by_cases c13 : t116 = (-2)
          · rw [if_pos c13] at H
            have c13b0 : (t116 == (-2)) = true := beq_iff_eq.mpr c13
            have c13b1 : (t116 != (-2)) = false := bne_eq_false_iff_eq.mpr c13
            clear c13
            by_cases c14 : t112 = 0
            · rw [if_pos c14] at H
              have c14b0 : (t112 == 0) = true := beq_iff_eq.mpr c14
              have c14b1 : (t112 != 0) = false := bne_eq_false_iff_eq.mpr c14
              clear c14
              have H' := Aside0.mk H
              clear H
              go_wp2
              go_meet
              case rel => exact ⟨_, ((t115 == 0)), (by first | rfl | (simp; done) | (simp [*]; done)), H', ⟨by first | omega | exact Nat.le_refl _⟩, ⟨by repeat (first | (with_reducible first | exact HB.out | apply below_alloc | apply pw_below_drewN | apply below_drew1) | exact HB.out)⟩⟩
            · rw [if_neg c14] at H
              have c14b0 : (t112 == 0) = false := beq_eq_false_iff_ne.mpr c14
              have c14b1 : (t112 != 0) = true := bne_iff_ne.mpr c14
              have H' := Aside0.mk H
              clear H
              go_wp2
              go_meet
              case rel => exact ⟨_, (false), (by first | rfl | (simp; done) | (simp [*]; done)), H', ⟨by first | omega | exact Nat.le_refl _⟩, ⟨by repeat (first | (with_reducible first | exact HB.out | apply below_alloc | apply pw_below_drewN | apply below_drew1) | exact HB.out)⟩⟩
          · rw [if_neg c13] at H
            have c13b0 : (t116 == (-2)) = false := beq_eq_false_iff_ne.mpr c13
            have c13b1 : (t116 != (-2)) = true := bne_iff_ne.mpr c13
            have H' := Aside0.mk H
            clear H
            go_wp2
            go_meet
            case rel => exact ⟨_, (false), (by first | rfl | (simp; done) | (simp [*]; done)), H', ⟨by first | omega | exact Nat.le_refl _⟩, ⟨by repeat (first | (with_reducible first | exact HB.out | apply below_alloc | apply pw_below_drewN | apply below_drew1) | exact HB.out)⟩⟩
        · rw [if_neg c12] at H
          have c12b0 : (t113 == (-2)) = false := beq_eq_false_iff_ne.mpr c12
          have c12b1 : (t113 != (-2)) = true := bne_iff_ne.mpr c12
          (first | rw [c12b0] | (simp only [i64_w, i32_w]; rw [c12b0]) | skip)
          have H' := Aside0.mk H
          clear H
          go_wp2
          go_meet
          case rel => exact ⟨_, (false), (by first | rfl | (simp; done) | (simp [*]; done)), H', ⟨by first | omega | exact Nat.le_refl _⟩, ⟨by repeat (first | (with_reducible first | exact HB.out | apply below_alloc | apply pw_below_drewN | apply below_drew1) | exact HB.out)⟩⟩
      case rest =>
        clear HC8
        try clear c1
        try clear p2
        try clear c3
        try clear c4
        try clear c7
        try clear c7b0
        try clear c7b1
        try clear c8
        try clear c9
        try clear c12
        try clear c12b0
        try clear c12b1
        try clear c13
        try clear c13b0
        try clear c13b1
        try clear c14
        try clear c14b0
        try clear c14b1
        obtain ⟨kq, x4_7, rfl, HA, HJ7, HB⟩ := hcut
        cases kq with
        | zero => exact absurd HA.out (by simp [gristmilllaw2_NumDivides.j0])
        | succ kj7 =>
          have H := HA.out
          clear HA
          simp only [gristmilllaw2_NumDivides.j0] at H
          obtain rfl := Option.some.inj H
          go_wp2
          go_ret
          exact ⟨by first | rfl | (simp [errW_none, errW_some] <;> rfl) | (simp [*, errW_none, errW_some] <;> rfl) | (simp [errW_none, errW_some] <;> (rw [Bool.eq_iff_iff]; simp; done)), by repeat (first | (with_reducible first | exact HB.out | apply below_alloc | apply pw_below_drewN | apply below_drew1) | exact HB.out)⟩
    · rw [if_neg c7] at H
      have c7b0 : (a1 == 0) = false := beq_eq_false_iff_ne.mpr c7
      have c7b1 : (a1 != 0) = true := bne_iff_ne.mpr c7
      replace H := Option.bind_eq_some_iff.mp H
      obtain ⟨⟨t118, t119, t120⟩, A150, H⟩ := H
      replace H : ((num_Do.f k (⟨#[43]⟩ : ByteArray) t118 t115).bind fun bt121 => ((num_Do.f k (⟨#[60]⟩ : ByteArray) a0 a1).bind fun bt124 => ((num_Do.f k (⟨#[60]⟩ : ByteArray) a1 a0).bind fun bt127 => ((num_Do.f k (⟨#[61]⟩ : ByteArray) a0 a1).bind fun bt130 => (if t115 = 0 then (gristmilllaw2_NumDivides.j1 k a0 a1 true t113 t115 t116 bt121.1 bt124.1 bt127.1 bt130.1 true) else (gristmilllaw2_NumDivides.j1 k a0 a1 true t113 t115 t116 bt121.1 bt124.1 bt127.1 bt130.1 ((decide (t115 < 0)) == (decide (a0 < 0))))))))) = some r := H
      have A15 := Aside0.mk A150
      clear A150
      replace H := Option.bind_eq_some_iff.mp H
      obtain ⟨⟨t121, t122, t123⟩, A160, H⟩ := H
      replace H : ((num_Do.f k (⟨#[60]⟩ : ByteArray) a0 a1).bind fun bt124 => ((num_Do.f k (⟨#[60]⟩ : ByteArray) a1 a0).bind fun bt127 => ((num_Do.f k (⟨#[61]⟩ : ByteArray) a0 a1).bind fun bt130 => (if t115 = 0 then (gristmilllaw2_NumDivides.j1 k a0 a1 true t113 t115 t116 t121 bt124.1 bt127.1 bt130.1 true) else (gristmilllaw2_NumDivides.j1 k a0 a1 true t113 t115 t116 t121 bt124.1 bt127.1 bt130.1 ((decide (t115 < 0)) == (decide (a0 < 0)))))))) = some r := H
      have A16 := Aside0.mk A160
      clear A160
      replace H := Option.bind_eq_some_iff.mp H
      obtain ⟨⟨t124, t125, t126⟩, A170, H⟩ := H
      replace H : ((num_Do.f k (⟨#[60]⟩ : ByteArray) a1 a0).bind fun bt127 => ((num_Do.f k (⟨#[61]⟩ : ByteArray) a0 a1).bind fun bt130 => (if t115 = 0 then (gristmilllaw2_NumDivides.j1 k a0 a1 true t113 t115 t116 t121 t124 bt127.1 bt130.1 true) else (gristmilllaw2_NumDivides.j1 k a0 a1 true t113 t115 t116 t121 t124 bt127.1 bt130.1 ((decide (t115 < 0)) == (decide (a0 < 0))))))) = some r := H
      have A17 := Aside0.mk A170
      clear A170
      replace H := Option.bind_eq_some_iff.mp H
      obtain ⟨⟨t127, t128, t129⟩, A180, H⟩ := H
      replace H : ((num_Do.f k (⟨#[61]⟩ : ByteArray) a0 a1).bind fun bt130 => (if t115 = 0 then (gristmilllaw2_NumDivides.j1 k a0 a1 true t113 t115 t116 t121 t124 t127 bt130.1 true) else (gristmilllaw2_NumDivides.j1 k a0 a1 true t113 t115 t116 t121 t124 t127 bt130.1 ((decide (t115 < 0)) == (decide (a0 < 0)))))) = some r := H
      have A18 := Aside0.mk A180
      clear A180
      replace H := Option.bind_eq_some_iff.mp H
      obtain ⟨⟨t130, t131, t132⟩, A190, H⟩ := H
      replace H : (if t115 = 0 then (gristmilllaw2_NumDivides.j1 k a0 a1 true t113 t115 t116 t121 t124 t127 t130 true) else (gristmilllaw2_NumDivides.j1 k a0 a1 true t113 t115 t116 t121 t124 t127 t130 ((decide (t115 < 0)) == (decide (a0 < 0))))) = some r := H
      have A19 := Aside0.mk A190
      clear A190
      have HC20 := Aside0.mk H
      clear H
      go_enter Tryd.func3, Tryd.ntmps3
      go_upto_region 13 with (first | ((with_reducible refine gate_callee (f := 8) rfl ?_); refine goesL_ (some 29) rfl rfl Tryd.func8 (by kernel_rfl) rfl #[] rfl (by (try simp only [List.map_toArray, List.map_cons, List.map_nil]); first | done | rfl | (simp only [List.length_drop, List.length_take]; rfl)) ?_; (with_reducible refine (gristmilllaw2_first.calls k  true _ ?side1 A3.out).mono ?_); (case side1 => exact GG.below hGG (by repeat (first | (with_reducible first | exact HB.out | apply below_alloc | apply pw_below_drewN | apply below_drew1) | exact HB.out))); rintro e w21 ⟨rfl, hb⟩; refine ⟨_, rfl, ?_⟩; have n0_ := Aside0.mk (below_step (by repeat (first | (with_reducible first | exact HB.out | apply below_alloc | apply pw_below_drewN | apply below_drew1) | exact HB.out)) hb); clear HB; have HB := n0_; clear n0_; (try clear hb); (try clear hb2); (try clear hk); (try clear hi)) | ((with_reducible refine gate_callee (f := 9) rfl ?_); refine goesL_ (some 35) rfl rfl Tryd.func9 (by kernel_rfl) rfl #[.string (⟨#[100, 105, 118]⟩ : ByteArray), .int .i64 a0, .int .i64 a1] rfl (by (try simp only [List.map_toArray, List.map_cons, List.map_nil]); first | done | rfl | (simp only [List.length_drop, List.length_take]; rfl)) ?_; (with_reducible refine (num_Do.calls k (⟨#[100, 105, 118]⟩ : ByteArray) a0 a1 t112 t113 t114 _ A5.out).mono ?_); rintro e w22 ⟨rfl, hb⟩; refine ⟨_, rfl, ?_⟩; have n0_ := Aside0.mk (below_step (by repeat (first | (with_reducible first | exact HB.out | apply below_alloc | apply pw_below_drewN | apply below_drew1) | exact HB.out)) hb); clear HB; have HB := n0_; clear n0_; (try clear hb); (try clear hb2); (try clear hk); (try clear hi)) | ((with_reducible refine gate_callee (f := 9) rfl ?_); refine goesL_ (some 42) rfl rfl Tryd.func9 (by kernel_rfl) rfl #[.string (⟨#[109, 111, 100]⟩ : ByteArray), .int .i64 a0, .int .i64 a1] rfl (by (try simp only [List.map_toArray, List.map_cons, List.map_nil]); first | done | rfl | (simp only [List.length_drop, List.length_take]; rfl)) ?_; (with_reducible refine (num_Do.calls k (⟨#[109, 111, 100]⟩ : ByteArray) a0 a1 t115 t116 t117 _ A6.out).mono ?_); rintro e w23 ⟨rfl, hb⟩; refine ⟨_, rfl, ?_⟩; have n0_ := Aside0.mk (below_step (by repeat (first | (with_reducible first | exact HB.out | apply below_alloc | apply pw_below_drewN | apply below_drew1) | exact HB.out)) hb); clear HB; have HB := n0_; clear n0_; (try clear hb); (try clear hb2); (try clear hk); (try clear hi)) | ((with_reducible refine gate_callee (f := 9) rfl ?_); refine goesL_ (some 68) rfl rfl Tryd.func9 (by kernel_rfl) rfl #[.string (⟨#[42]⟩ : ByteArray), .int .i64 t112, .int .i64 a1] rfl (by (try simp only [List.map_toArray, List.map_cons, List.map_nil]); first | done | rfl | (simp only [List.length_drop, List.length_take]; rfl)) ?_; (with_reducible refine (num_Do.calls k (⟨#[42]⟩ : ByteArray) t112 a1 t118 t119 t120 _ A15.out).mono ?_); rintro e w24 ⟨rfl, hb⟩; refine ⟨_, rfl, ?_⟩; have n0_ := Aside0.mk (below_step (by repeat (first | (with_reducible first | exact HB.out | apply below_alloc | apply pw_below_drewN | apply below_drew1) | exact HB.out)) hb); clear HB; have HB := n0_; clear n0_; (try clear hb); (try clear hb2); (try clear hk); (try clear hi)) | ((with_reducible refine gate_callee (f := 9) rfl ?_); refine goesL_ (some 75) rfl rfl Tryd.func9 (by kernel_rfl) rfl #[.string (⟨#[43]⟩ : ByteArray), .int .i64 t118, .int .i64 t115] rfl (by (try simp only [List.map_toArray, List.map_cons, List.map_nil]); first | done | rfl | (simp only [List.length_drop, List.length_take]; rfl)) ?_; (with_reducible refine (num_Do.calls k (⟨#[43]⟩ : ByteArray) t118 t115 t121 t122 t123 _ A16.out).mono ?_); rintro e w25 ⟨rfl, hb⟩; refine ⟨_, rfl, ?_⟩; have n0_ := Aside0.mk (below_step (by repeat (first | (with_reducible first | exact HB.out | apply below_alloc | apply pw_below_drewN | apply below_drew1) | exact HB.out)) hb); clear HB; have HB := n0_; clear n0_; (try clear hb); (try clear hb2); (try clear hk); (try clear hi)) | ((with_reducible refine gate_callee (f := 9) rfl ?_); refine goesL_ (some 82) rfl rfl Tryd.func9 (by kernel_rfl) rfl #[.string (⟨#[60]⟩ : ByteArray), .int .i64 a0, .int .i64 a1] rfl (by (try simp only [List.map_toArray, List.map_cons, List.map_nil]); first | done | rfl | (simp only [List.length_drop, List.length_take]; rfl)) ?_; (with_reducible refine (num_Do.calls k (⟨#[60]⟩ : ByteArray) a0 a1 t124 t125 t126 _ A17.out).mono ?_); rintro e w26 ⟨rfl, hb⟩; refine ⟨_, rfl, ?_⟩; have n0_ := Aside0.mk (below_step (by repeat (first | (with_reducible first | exact HB.out | apply below_alloc | apply pw_below_drewN | apply below_drew1) | exact HB.out)) hb); clear HB; have HB := n0_; clear n0_; (try clear hb); (try clear hb2); (try clear hk); (try clear hi)) | ((with_reducible refine gate_callee (f := 9) rfl ?_); refine goesL_ (some 89) rfl rfl Tryd.func9 (by kernel_rfl) rfl #[.string (⟨#[60]⟩ : ByteArray), .int .i64 a1, .int .i64 a0] rfl (by (try simp only [List.map_toArray, List.map_cons, List.map_nil]); first | done | rfl | (simp only [List.length_drop, List.length_take]; rfl)) ?_; (with_reducible refine (num_Do.calls k (⟨#[60]⟩ : ByteArray) a1 a0 t127 t128 t129 _ A18.out).mono ?_); rintro e w27 ⟨rfl, hb⟩; refine ⟨_, rfl, ?_⟩; have n0_ := Aside0.mk (below_step (by repeat (first | (with_reducible first | exact HB.out | apply below_alloc | apply pw_below_drewN | apply below_drew1) | exact HB.out)) hb); clear HB; have HB := n0_; clear n0_; (try clear hb); (try clear hb2); (try clear hk); (try clear hi)) | ((with_reducible refine gate_callee (f := 9) rfl ?_); refine goesL_ (some 96) rfl rfl Tryd.func9 (by kernel_rfl) rfl #[.string (⟨#[61]⟩ : ByteArray), .int .i64 a0, .int .i64 a1] rfl (by (try simp only [List.map_toArray, List.map_cons, List.map_nil]); first | done | rfl | (simp only [List.length_drop, List.length_take]; rfl)) ?_; (with_reducible refine (num_Do.calls k (⟨#[61]⟩ : ByteArray) a0 a1 t130 t131 t132 _ A19.out).mono ?_); rintro e w28 ⟨rfl, hb⟩; refine ⟨_, rfl, ?_⟩; have n0_ := Aside0.mk (below_step (by repeat (first | (with_reducible first | exact HB.out | apply below_alloc | apply pw_below_drewN | apply below_drew1) | exact HB.out)) hb); clear HB; have HB := n0_; clear n0_; (try clear hb); (try clear hb2); (try clear hk); (try clear hi)))
      (try simp only [Act.put, List.setIfInBounds_toArray, List.set_cons_zero, List.set_cons_succ])
      go_cut [27] (fun v27 wc => ∃ (kq : Nat) (x27_19 : Bool), v27 = .bool x27_19 ∧ Aside0 (gristmilllaw2_NumDivides.j1 kq a0 a1 true t113 t115 t116 t121 t124 t127 t130 x27_19 = some r) ∧ Aside0 (kq ≤ k) ∧ Aside0 (Below w.heap.size w wc))
      case first =>
        have H := HC20.out
        clear HC20
        by_cases c29 : t115 = 0
        · rw [if_pos c29] at H
          have c29b0 : (t115 == 0) = true := beq_iff_eq.mpr c29
          have c29b1 : (t115 != 0) = false := bne_eq_false_iff_eq.mpr c29
          clear c29
          (first | rw [c29b0] | (simp only [i64_w, i32_w]; rw [c29b0]) | skip)
          have H' := Aside0.mk H
          clear H
          go_wp2
          go_meet
          case rel => exact ⟨_, (true), (by first | rfl | (simp; done) | (simp [*]; done)), H', ⟨by first | omega | exact Nat.le_refl _⟩, ⟨by repeat (first | (with_reducible first | exact HB.out | apply below_alloc | apply pw_below_drewN | apply below_drew1) | exact HB.out)⟩⟩
        · rw [if_neg c29] at H
          have c29b0 : (t115 == 0) = false := beq_eq_false_iff_ne.mpr c29
          have c29b1 : (t115 != 0) = true := bne_iff_ne.mpr c29
          (first | rw [c29b0] | (simp only [i64_w, i32_w]; rw [c29b0]) | skip)
          have H' := Aside0.mk H
          clear H
          go_wp2
          go_meet
          case rel => exact ⟨_, (((decide (t115 < 0)) == (decide (a0 < 0)))), (by first | rfl | (simp; done) | (simp [*]; done)), H', ⟨by first | omega | exact Nat.le_refl _⟩, ⟨by repeat (first | (with_reducible first | exact HB.out | apply below_alloc | apply pw_below_drewN | apply below_drew1) | exact HB.out)⟩⟩
      case rest =>
        clear HC20
        try clear c1
        try clear c2
        try clear p2
        try clear c3
        try clear c4
        try clear c7
        try clear c7b0
        try clear c7b1
        try clear c8
        try clear c9
        try clear c12
        try clear c12b0
        try clear c12b1
        try clear c13
        try clear c13b0
        try clear c13b1
        try clear c14
        try clear c14b0
        try clear c14b1
        try clear c29
        try clear c29b0
        try clear c29b1
        try clear p2
        obtain ⟨kq, x27_19, rfl, HA, HJ19, HB⟩ := hcut
        cases kq with
        | zero => exact absurd HA.out (by simp [gristmilllaw2_NumDivides.j1])
        | succ kj19 =>
          have H := HA.out
          clear HA
          simp only [gristmilllaw2_NumDivides.j1] at H
          have HC30 := Aside0.mk H
          clear H
          go_upto_region 14 with (fail)
          go_cut [28] (fun v28 wc => ∃ (kq : Nat) (x28_29 : Bool), v28 = .bool x28_29 ∧ Aside0 (gristmilllaw2_NumDivides.j2 kq a0 true t113 t116 t121 t124 t127 t130 x27_19 x28_29 = some r) ∧ Aside0 (kq ≤ kj19) ∧ Aside0 (Below w.heap.size w wc))
          case first =>
            have H := HC30.out
            clear HC30
            by_cases c31 : a1 = (-9223372036854775808)
            · rw [if_pos c31] at H
              have c31b0 : (a1 == (-9223372036854775808)) = true := beq_iff_eq.mpr c31
              have c31b1 : (a1 != (-9223372036854775808)) = false := bne_eq_false_iff_eq.mpr c31
              clear c31
              (first | rw [c31b0] | (simp only [i64_w, i32_w]; rw [c31b0]) | skip)
              have H' := Aside0.mk H
              clear H
              go_wp2
              go_meet
              case rel => exact ⟨_, (true), (by first | rfl | (simp; done) | (simp [*]; done)), H', ⟨by have := HJ19.out; first | omega | exact Nat.le_refl _⟩, ⟨by repeat (first | (with_reducible first | exact HB.out | apply below_alloc | apply pw_below_drewN | apply below_drew1) | exact HB.out)⟩⟩
            · rw [if_neg c31] at H
              have c31b0 : (a1 == (-9223372036854775808)) = false := beq_eq_false_iff_ne.mpr c31
              have c31b1 : (a1 != (-9223372036854775808)) = true := bne_iff_ne.mpr c31
              (first | rw [c31b0] | (simp only [i64_w, i32_w]; rw [c31b0]) | skip)
              by_cases c32 : t115 < a1
              · rw [if_pos c32] at H
                have c32b0 : decide (t115 < a1) = true := decide_eq_true c32
                clear c32
                by_cases c33 : t115 > (wrap64 (-a1))
                · rw [if_pos c33] at H
                  have c33b0 : decide ((wrap64 (-a1)) < t115) = true := decide_eq_true c33
                  clear c33
                  have H' := Aside0.mk H
                  clear H
                  go_wp2
                  go_meet
                  case rel => exact ⟨_, (true), (by first | rfl | (simp; done) | (simp [*]; done)), H', ⟨by have := HJ19.out; first | omega | exact Nat.le_refl _⟩, ⟨by repeat (first | (with_reducible first | exact HB.out | apply below_alloc | apply pw_below_drewN | apply below_drew1) | exact HB.out)⟩⟩
                · rw [if_neg c33] at H
                  have c33b0 : decide ((wrap64 (-a1)) < t115) = false := decide_eq_false c33
                  clear c33
                  by_cases c34 : t115 < (wrap64 (-a1))
                  · rw [if_pos c34] at H
                    have c34b0 : decide (t115 < (wrap64 (-a1))) = true := decide_eq_true c34
                    clear c34
                    have H' := Aside0.mk H
                    clear H
                    go_wp2
                    go_meet
                    case rel => exact ⟨_, (decide (t115 > a1)), (by first | rfl | (simp; done) | (simp [*]; done)), H', ⟨by have := HJ19.out; first | omega | exact Nat.le_refl _⟩, ⟨by repeat (first | (with_reducible first | exact HB.out | apply below_alloc | apply pw_below_drewN | apply below_drew1) | exact HB.out)⟩⟩
                  · rw [if_neg c34] at H
                    have c34b0 : decide (t115 < (wrap64 (-a1))) = false := decide_eq_false c34
                    clear c34
                    have H' := Aside0.mk H
                    clear H
                    go_wp2
                    go_meet
                    case rel => exact ⟨_, (false), (by first | rfl | (simp; done) | (simp [*]; done)), H', ⟨by have := HJ19.out; first | omega | exact Nat.le_refl _⟩, ⟨by repeat (first | (with_reducible first | exact HB.out | apply below_alloc | apply pw_below_drewN | apply below_drew1) | exact HB.out)⟩⟩
              · rw [if_neg c32] at H
                have c32b0 : decide (t115 < a1) = false := decide_eq_false c32
                clear c32
                by_cases c35 : t115 < (wrap64 (-a1))
                · rw [if_pos c35] at H
                  have c35b0 : decide (t115 < (wrap64 (-a1))) = true := decide_eq_true c35
                  clear c35
                  have H' := Aside0.mk H
                  clear H
                  go_wp2
                  go_meet
                  case rel => exact ⟨_, (decide (t115 > a1)), (by first | rfl | (simp; done) | (simp [*]; done)), H', ⟨by have := HJ19.out; first | omega | exact Nat.le_refl _⟩, ⟨by repeat (first | (with_reducible first | exact HB.out | apply below_alloc | apply pw_below_drewN | apply below_drew1) | exact HB.out)⟩⟩
                · rw [if_neg c35] at H
                  have c35b0 : decide (t115 < (wrap64 (-a1))) = false := decide_eq_false c35
                  clear c35
                  have H' := Aside0.mk H
                  clear H
                  go_wp2
                  go_meet
                  case rel => exact ⟨_, (false), (by first | rfl | (simp; done) | (simp [*]; done)), H', ⟨by have := HJ19.out; first | omega | exact Nat.le_refl _⟩, ⟨by repeat (first | (with_reducible first | exact HB.out | apply below_alloc | apply pw_below_drewN | apply below_drew1) | exact HB.out)⟩⟩
          case rest =>
            clear HC30
            try clear c1
            try clear c2
            try clear p2
            try clear c3
            try clear c4
            try clear p6
            try clear c7
            try clear c7b0
            try clear c7b1
            try clear c8
            try clear c9
            try clear c12
            try clear c12b0
            try clear c12b1
            try clear c13
            try clear c13b0
            try clear c13b1
            try clear c14
            try clear c14b0
            try clear c14b1
            try clear c29
            try clear c29b0
            try clear c29b1
            try clear c31
            try clear c31b0
            try clear c31b1
            try clear c32
            try clear c32b0
            try clear c33
            try clear c33b0
            try clear c34
            try clear c34b0
            try clear c35
            try clear c35b0
            try clear p2
            obtain ⟨kq, x28_29, rfl, HA, HJ29, HB⟩ := hcut
            cases kq with
            | zero => exact absurd HA.out (by simp [gristmilllaw2_NumDivides.j2])
            | succ kj29 =>
              have H := HA.out
              clear HA
              simp only [gristmilllaw2_NumDivides.j2] at H
              have HC36 := Aside0.mk H
              clear H
              go_upto_region 15 with (fail)
              go_cut [4] (fun v4 wc => ∃ (kq : Nat) (x4_35 : Bool), v4 = .bool x4_35 ∧ Aside0 (gristmilllaw2_NumDivides.j3 kq x4_35 = some r) ∧ Aside0 (kq ≤ kj29) ∧ Aside0 (Below w.heap.size w wc))
              case first =>
                have H := HC36.out
                clear HC36
                have H1 : (if t113 = 0 then (if t116 = 0 then (if t121 = a0 then (if x27_19 = true then (if x28_29 = true then (gristmilllaw2_NumDivides.j3 kj29 ((wrap64 ((wrap64 (t124 + t127)) + t130)) == 1)) else (gristmilllaw2_NumDivides.j3 kj29 false)) else (gristmilllaw2_NumDivides.j3 kj29 false)) else (gristmilllaw2_NumDivides.j3 kj29 false)) else (gristmilllaw2_NumDivides.j3 kj29 false)) else (gristmilllaw2_NumDivides.j3 kj29 false)) = some r := by first | exact H | (rw [if_pos rfl] at H; exact H)
                clear H
                have H := H1
                clear H1
                by_cases c37 : t113 = 0
                · rw [if_pos c37] at H
                  have c37b0 : (t113 == 0) = true := beq_iff_eq.mpr c37
                  have c37b1 : (t113 != 0) = false := bne_eq_false_iff_eq.mpr c37
                  clear c37
                  (first | rw [c37b0] | (simp only [i64_w, i32_w]; rw [c37b0]) | skip)
                  by_cases c38 : t116 = 0
                  · rw [if_pos c38] at H
                    have c38b0 : (t116 == 0) = true := beq_iff_eq.mpr c38
                    have c38b1 : (t116 != 0) = false := bne_eq_false_iff_eq.mpr c38
                    clear c38
                    by_cases c39 : t121 = a0
                    · rw [if_pos c39] at H
                      have c39b0 : (t121 == a0) = true := beq_iff_eq.mpr c39
                      have c39b1 : (t121 != a0) = false := bne_eq_false_iff_eq.mpr c39
                      clear c39
                      by_cases c40 : x27_19 = true
                      · subst c40
                        have H1 : (if x28_29 = true then (gristmilllaw2_NumDivides.j3 kj29 ((wrap64 ((wrap64 (t124 + t127)) + t130)) == 1)) else (gristmilllaw2_NumDivides.j3 kj29 false)) = some r := by rw [if_pos rfl] at H; exact H
                        clear H
                        have H := H1
                        clear H1
                        by_cases c41 : x28_29 = true
                        · subst c41
                          have H1 : (gristmilllaw2_NumDivides.j3 kj29 ((wrap64 ((wrap64 (t124 + t127)) + t130)) == 1)) = some r := by rw [if_pos rfl] at H; exact H
                          clear H
                          have H := H1
                          clear H1
                          have H' := Aside0.mk H
                          clear H
                          go_wp2
                          go_meet
                          case rel => exact ⟨_, (((wrap64 ((wrap64 (t124 + t127)) + t130)) == 1)), (by first | rfl | (simp; done) | (simp [*]; done)), H', ⟨by have := HJ19.out; have := HJ29.out; first | omega | exact Nat.le_refl _⟩, ⟨by repeat (first | (with_reducible first | exact HB.out | apply below_alloc | apply pw_below_drewN | apply below_drew1) | exact HB.out)⟩⟩
                        · replace c41 := Bool.eq_false_iff.mpr c41
                          subst c41
                          have H1 : (gristmilllaw2_NumDivides.j3 kj29 false) = some r := by rw [if_neg (show ¬ (false = true) by decide)] at H; exact H
                          clear H
                          have H := H1
                          clear H1
                          have H' := Aside0.mk H
                          clear H
                          go_wp2
                          go_meet
                          case rel => exact ⟨_, (false), (by first | rfl | (simp; done) | (simp [*]; done)), H', ⟨by have := HJ19.out; have := HJ29.out; first | omega | exact Nat.le_refl _⟩, ⟨by repeat (first | (with_reducible first | exact HB.out | apply below_alloc | apply pw_below_drewN | apply below_drew1) | exact HB.out)⟩⟩
                      · replace c40 := Bool.eq_false_iff.mpr c40
                        subst c40
                        have H1 : (gristmilllaw2_NumDivides.j3 kj29 false) = some r := by rw [if_neg (show ¬ (false = true) by decide)] at H; exact H
                        clear H
                        have H := H1
                        clear H1
                        have H' := Aside0.mk H
                        clear H
                        go_wp2
                        go_meet
                        case rel => exact ⟨_, (false), (by first | rfl | (simp; done) | (simp [*]; done)), H', ⟨by have := HJ19.out; have := HJ29.out; first | omega | exact Nat.le_refl _⟩, ⟨by repeat (first | (with_reducible first | exact HB.out | apply below_alloc | apply pw_below_drewN | apply below_drew1) | exact HB.out)⟩⟩
                    · rw [if_neg c39] at H
                      have c39b0 : (t121 == a0) = false := beq_eq_false_iff_ne.mpr c39
                      have c39b1 : (t121 != a0) = true := bne_iff_ne.mpr c39
                      have H' := Aside0.mk H
                      clear H
                      go_wp2
                      go_meet
                      case rel => exact ⟨_, (false), (by first | rfl | (simp; done) | (simp [*]; done)), H', ⟨by have := HJ19.out; have := HJ29.out; first | omega | exact Nat.le_refl _⟩, ⟨by repeat (first | (with_reducible first | exact HB.out | apply below_alloc | apply pw_below_drewN | apply below_drew1) | exact HB.out)⟩⟩
                  · rw [if_neg c38] at H
                    have c38b0 : (t116 == 0) = false := beq_eq_false_iff_ne.mpr c38
                    have c38b1 : (t116 != 0) = true := bne_iff_ne.mpr c38
                    have H' := Aside0.mk H
                    clear H
                    go_wp2
                    go_meet
                    case rel => exact ⟨_, (false), (by first | rfl | (simp; done) | (simp [*]; done)), H', ⟨by have := HJ19.out; have := HJ29.out; first | omega | exact Nat.le_refl _⟩, ⟨by repeat (first | (with_reducible first | exact HB.out | apply below_alloc | apply pw_below_drewN | apply below_drew1) | exact HB.out)⟩⟩
                · rw [if_neg c37] at H
                  have c37b0 : (t113 == 0) = false := beq_eq_false_iff_ne.mpr c37
                  have c37b1 : (t113 != 0) = true := bne_iff_ne.mpr c37
                  (first | rw [c37b0] | (simp only [i64_w, i32_w]; rw [c37b0]) | skip)
                  have H' := Aside0.mk H
                  clear H
                  go_wp2
                  go_meet
                  case rel => exact ⟨_, (false), (by first | rfl | (simp; done) | (simp [*]; done)), H', ⟨by have := HJ19.out; have := HJ29.out; first | omega | exact Nat.le_refl _⟩, ⟨by repeat (first | (with_reducible first | exact HB.out | apply below_alloc | apply pw_below_drewN | apply below_drew1) | exact HB.out)⟩⟩
              case rest =>
                clear HC36
                try clear c1
                try clear c2
                try clear p2
                try clear c3
                try clear c4
                try clear p6
                try clear c7
                try clear c7b0
                try clear c7b1
                try clear c8
                try clear c9
                try clear c12
                try clear c12b0
                try clear c12b1
                try clear c13
                try clear c13b0
                try clear c13b1
                try clear c14
                try clear c14b0
                try clear c14b1
                try clear c29
                try clear c29b0
                try clear c29b1
                try clear c31
                try clear c31b0
                try clear c31b1
                try clear c32
                try clear c32b0
                try clear c33
                try clear c33b0
                try clear c34
                try clear c34b0
                try clear c35
                try clear c35b0
                try clear c37
                try clear c37b0
                try clear c37b1
                try clear c38
                try clear c38b0
                try clear c38b1
                try clear c39
                try clear c39b0
                try clear c39b1
                try clear c40
                try clear c41
                try clear p2
                try clear p6
                obtain ⟨kq, x4_35, rfl, HA, HJ35, HB⟩ := hcut
                cases kq with
                | zero => exact absurd HA.out (by simp [gristmilllaw2_NumDivides.j3])
                | succ kj35 =>
                  have H := HA.out
                  clear HA
                  simp only [gristmilllaw2_NumDivides.j3] at H
                  obtain rfl := Option.some.inj H
                  go_wp2
                  go_ret
                  exact ⟨by first | rfl | (simp [errW_none, errW_some] <;> rfl) | (simp [*, errW_none, errW_some] <;> rfl) | (simp [errW_none, errW_some] <;> (rw [Bool.eq_iff_iff]; simp; done)), by repeat (first | (with_reducible first | exact HB.out | apply below_alloc | apply pw_below_drewN | apply below_drew1) | exact HB.out)⟩
  · replace c4 := Bool.eq_false_iff.mpr c4
    subst c4
    have H1 : (some false) = some r := by rw [if_neg (show ¬ (false = true) by decide)] at H; exact H
    clear H
    have H := H1
    clear H1
    obtain rfl := Option.some.inj H
    go_enter Tryd.func3, Tryd.ntmps3
    go_wp2_with (first | ((with_reducible refine gate_callee (f := 8) rfl ?_); refine goesL_ (some 29) rfl rfl Tryd.func8 (by kernel_rfl) rfl #[] rfl (by (try simp only [List.map_toArray, List.map_cons, List.map_nil]); first | done | rfl | (simp only [List.length_drop, List.length_take]; rfl)) ?_; (with_reducible refine (gristmilllaw2_first.calls k  false _ ?side1 A3.out).mono ?_); (case side1 => exact GG.below hGG (by repeat (first | (with_reducible first | exact HB.out | apply below_alloc | apply pw_below_drewN | apply below_drew1) | exact HB.out))); rintro e w42 ⟨rfl, hb⟩; refine ⟨_, rfl, ?_⟩; have n0_ := Aside0.mk (below_step (by repeat (first | (with_reducible first | exact HB.out | apply below_alloc | apply pw_below_drewN | apply below_drew1) | exact HB.out)) hb); clear HB; have HB := n0_; clear n0_; (try clear hb); (try clear hb2); (try clear hk); (try clear hi)))
    go_ret
    exact ⟨by first | rfl | (simp [errW_none, errW_some] <;> rfl) | (simp [*, errW_none, errW_some] <;> rfl) | (simp [errW_none, errW_some] <;> (rw [Bool.eq_iff_iff]; simp; done)), by repeat (first | (with_reducible first | exact HB.out | apply below_alloc | apply pw_below_drewN | apply below_drew1) | exact HB.out)⟩

/-- THE ONE PURE STATEMENT of gristmilllaw2_NumDivides: yours. -/
def gristmilllaw2_NumDivides.Pure : Prop := ∀ (a0 : Int) (a1 : Int), (Lit.int .i64 a0).wf = true → (Lit.int .i64 a1).wf = true → ∃ k, gristmilllaw2_NumDivides.f k a0 a1 = some true
theorem gristmilllaw2_NumDivides.walk (P : gristmilllaw2_NumDivides.Pure) (a0 : Int) (a1 : Int) (w : World) (w0 : (Lit.int .i64 a0).wf = true) (w1 : (Lit.int .i64 a1).wf = true) (hGG : GG w) :
    Calls Tryd.prog 3 #[.int .i64 a0, .int .i64 a1] w fun e w' => e = .returned (.bool true) ∧ Below w.heap.size w w' := by
  obtain ⟨k, h⟩ := P a0 a1 w0 w1
  refine (gristmilllaw2_NumDivides.calls k a0 a1 true w hGG h).mono ?_
  rintro e w' ⟨rfl, hd⟩
  exact ⟨rfl, hd⟩

end Go.Proofs.YtkikfkhonjobcaaDoor.PNumD
