/- For each Go function that the laws of this group reach: a plain function with the same answers, and the proof that the call comes to them wherever the plain function has an answer. No other condition. (Laid by a program of this session.) -/
import Derived.Test.YtkikfkhonjobcaaDoorPNumWx0
import Derived.Test.YtkikfkhonjobcaaDoorPNumWx1
import Derived.Test.YtkikfkhonjobcaaDoorExt
namespace Go.Proofs.YtkikfkhonjobcaaDoor.PNumW
open Go.RowKit Go.Proofs.YtkikfkhonjobcaaDoorW.PrintWords Go.Proofs.YtkikfkhonjobcaaDoorW.PrintLast Go.Proofs.YtkikfkhonjobcaaDoorW.PrintMore Go.Proofs.YtkikfkhonjobcaaDoor.Ext
attribute [local go_sem] max2_int min2_int max_two min_two max_three min_three max_four min_four   -- for this text's walks alone
set_option linter.unusedVariables false
set_option linter.unusedSimpArgs false

/-! ### gristmilllaw2_NumWords: function 5 -/
mutual
def gristmilllaw2_NumWords.l0 : Nat → Int → Int → Bool → List ByteArray → Int → Option (Bool)
  | 0, _, _, _, _, _ => none
  | k + 1, x0, x1, x5, x6, x7 => if x7 < (x6.length : Int) then (if 0 ≤ x7 then ((num_Arity.f k (rdOf ByteArray.empty x6 x7)).bind fun bt131 => ((num_Do.f k (rdOf ByteArray.empty x6 x7) x0 x1).bind fun bt134 => (if bt131.2 = true then (if bt131.1 < 1 then (none) else (if bt131.1 > 2 then (none) else (if (rdOf ByteArray.empty x6 x7).toList = ([102, 108, 111, 97, 116] : List UInt8) then (if ((bt131.1 == 1) != true) = true then (none) else (if (bt134.2.2 != (decide (x7 < 7))) = true then (none) else (if bt134.2.1 = 0 then ((num_Floaty.f k (rdOf ByteArray.empty x6 x7)).bind fun t139 => (if x7 ≥ 7 then (if x7 ≤ 10 then (gristmilllaw2_NumWords.j1 k x0 x1 x5 x6 x7 (t139 != true)) else (gristmilllaw2_NumWords.j1 k x0 x1 x5 x6 x7 (t139 != ((rdOf ByteArray.empty x6 x7).toList == ([102, 108, 111, 97, 116] : List UInt8))))) else (gristmilllaw2_NumWords.j1 k x0 x1 x5 x6 x7 (t139 != ((rdOf ByteArray.empty x6 x7).toList == ([102, 108, 111, 97, 116] : List UInt8)))))) else (if x1 = 0 then (if (rdOf ByteArray.empty x6 x7).toList = ([100, 105, 118] : List UInt8) then ((num_Floaty.f k (rdOf ByteArray.empty x6 x7)).bind fun t144 => (if x7 ≥ 7 then (if x7 ≤ 10 then (gristmilllaw2_NumWords.j1 k x0 x1 x5 x6 x7 (t144 != true)) else (gristmilllaw2_NumWords.j1 k x0 x1 x5 x6 x7 (t144 != ((rdOf ByteArray.empty x6 x7).toList == ([102, 108, 111, 97, 116] : List UInt8))))) else (gristmilllaw2_NumWords.j1 k x0 x1 x5 x6 x7 (t144 != ((rdOf ByteArray.empty x6 x7).toList == ([102, 108, 111, 97, 116] : List UInt8)))))) else (if (rdOf ByteArray.empty x6 x7).toList = ([109, 111, 100] : List UInt8) then ((num_Floaty.f k (rdOf ByteArray.empty x6 x7)).bind fun t149 => (if x7 ≥ 7 then (if x7 ≤ 10 then (gristmilllaw2_NumWords.j1 k x0 x1 x5 x6 x7 (t149 != true)) else (gristmilllaw2_NumWords.j1 k x0 x1 x5 x6 x7 (t149 != ((rdOf ByteArray.empty x6 x7).toList == ([102, 108, 111, 97, 116] : List UInt8))))) else (gristmilllaw2_NumWords.j1 k x0 x1 x5 x6 x7 (t149 != ((rdOf ByteArray.empty x6 x7).toList == ([102, 108, 111, 97, 116] : List UInt8)))))) else (none))) else (none))))) else (if ((bt131.1 == 1) != ((rdOf ByteArray.empty x6 x7).toList == ([119, 104, 111, 108, 101] : List UInt8))) = true then (none) else (if (bt134.2.2 != (decide (x7 < 7))) = true then (none) else (if bt134.2.1 = 0 then ((num_Floaty.f k (rdOf ByteArray.empty x6 x7)).bind fun t154 => (if x7 ≥ 7 then (if x7 ≤ 10 then (gristmilllaw2_NumWords.j1 k x0 x1 x5 x6 x7 (t154 != true)) else (gristmilllaw2_NumWords.j1 k x0 x1 x5 x6 x7 (t154 != ((rdOf ByteArray.empty x6 x7).toList == ([102, 108, 111, 97, 116] : List UInt8))))) else (gristmilllaw2_NumWords.j1 k x0 x1 x5 x6 x7 (t154 != ((rdOf ByteArray.empty x6 x7).toList == ([102, 108, 111, 97, 116] : List UInt8)))))) else (if x1 = 0 then (if (rdOf ByteArray.empty x6 x7).toList = ([100, 105, 118] : List UInt8) then ((num_Floaty.f k (rdOf ByteArray.empty x6 x7)).bind fun t159 => (if x7 ≥ 7 then (if x7 ≤ 10 then (gristmilllaw2_NumWords.j1 k x0 x1 x5 x6 x7 (t159 != true)) else (gristmilllaw2_NumWords.j1 k x0 x1 x5 x6 x7 (t159 != ((rdOf ByteArray.empty x6 x7).toList == ([102, 108, 111, 97, 116] : List UInt8))))) else (gristmilllaw2_NumWords.j1 k x0 x1 x5 x6 x7 (t159 != ((rdOf ByteArray.empty x6 x7).toList == ([102, 108, 111, 97, 116] : List UInt8)))))) else (if (rdOf ByteArray.empty x6 x7).toList = ([109, 111, 100] : List UInt8) then ((num_Floaty.f k (rdOf ByteArray.empty x6 x7)).bind fun t164 => (if x7 ≥ 7 then (if x7 ≤ 10 then (gristmilllaw2_NumWords.j1 k x0 x1 x5 x6 x7 (t164 != true)) else (gristmilllaw2_NumWords.j1 k x0 x1 x5 x6 x7 (t164 != ((rdOf ByteArray.empty x6 x7).toList == ([102, 108, 111, 97, 116] : List UInt8))))) else (gristmilllaw2_NumWords.j1 k x0 x1 x5 x6 x7 (t164 != ((rdOf ByteArray.empty x6 x7).toList == ([102, 108, 111, 97, 116] : List UInt8)))))) else (none))) else (none)))))))) else (none)))) else (none)) else ((num_Arity.f k (⟨#[]⟩ : ByteArray)).bind fun bt169 => (if x5 = true then (if bt169.2 = true then (none) else ((gristmillref_Has.f k x6 (⟨#[115, 101, 113]⟩ : ByteArray)).bind fun t171 => (gristmilllaw2_NumWords.j3 k t171))) else (none)))
def gristmilllaw2_NumWords.j1 : Nat → Int → Int → Bool → List ByteArray → Int → Bool → Option (Bool)
  | 0, _, _, _, _, _, _ => none
  | k + 1, x0, x1, x5, x6, x7, x123 => if x123 = true then (none) else (gristmilllaw2_NumWords.l1 k x0 x1 x5 x6 x7 0)
def gristmilllaw2_NumWords.l1 : Nat → Int → Int → Bool → List ByteArray → Int → Int → Option (Bool)
  | 0, _, _, _, _, _, _ => none
  | k + 1, x0, x1, x5, x6, x7, x13 => if x13 < x7 then (if 0 ≤ x13 then (if x13 < (x6.length : Int) then (if 0 ≤ x7 then (if x7 < (x6.length : Int) then (if (rdOf ByteArray.empty x6 x13).toList = (rdOf ByteArray.empty x6 x7).toList then (none) else (gristmilllaw2_NumWords.l1 k x0 x1 x5 x6 x7 (wrap64 (x13 + 1)))) else (none)) else (none)) else (none)) else (none)) else (gristmilllaw2_NumWords.l0 k x0 x1 x5 x6 (wrap64 (x7 + 1)))
def gristmilllaw2_NumWords.j3 : Nat → Bool → Option (Bool)
  | 0, _ => none
  | k + 1, x4 => some x4
end
def gristmilllaw2_NumWords.f (k : Nat) (a0 : Int) (a1 : Int) : Option (Bool) := (gristmilllaw2_first.f k).bind fun t126 => (if t126 = true then ((num_Prims.f).bind fun t127 => (if (t127.length : Int) = 16 then (gristmilllaw2_NumWords.l0 k a0 a1 t126 t127 0) else (none))) else (none))
theorem gristmilllaw2_NumWords.mono_l : ∀ k, (∀ y0 y1 y2 y3 y4, LeO (gristmilllaw2_NumWords.l0 k y0 y1 y2 y3 y4) (gristmilllaw2_NumWords.l0 (k + 1) y0 y1 y2 y3 y4)) ∧ (∀ y0 y1 y2 y3 y4 y5, LeO (gristmilllaw2_NumWords.j1 k y0 y1 y2 y3 y4 y5) (gristmilllaw2_NumWords.j1 (k + 1) y0 y1 y2 y3 y4 y5)) ∧ (∀ y0 y1 y2 y3 y4 y5, LeO (gristmilllaw2_NumWords.l1 k y0 y1 y2 y3 y4 y5) (gristmilllaw2_NumWords.l1 (k + 1) y0 y1 y2 y3 y4 y5)) ∧ (∀ y0, LeO (gristmilllaw2_NumWords.j3 k y0) (gristmilllaw2_NumWords.j3 (k + 1) y0))
  | 0 => ⟨fun _ _ _ _ _ r h => by simp [gristmilllaw2_NumWords.l0] at h, fun _ _ _ _ _ _ r h => by simp [gristmilllaw2_NumWords.j1] at h, fun _ _ _ _ _ _ r h => by simp [gristmilllaw2_NumWords.l1] at h, fun _ r h => by simp [gristmilllaw2_NumWords.j3] at h⟩
  | k + 1 => by
    obtain ⟨ih0, ih1, ih2, ih3⟩ := gristmilllaw2_NumWords.mono_l k
    refine ⟨?_, ?_, ?_, ?_⟩
    · intro y0 y1 y2 y3 y4
      unfold gristmilllaw2_NumWords.l0
      repeat' first
      | (with_reducible exact ih0 _ _ _ _ _)
      | (with_reducible exact ih1 _ _ _ _ _ _)
      | (with_reducible exact ih2 _ _ _ _ _ _)
      | (with_reducible exact ih3 _)
      | (with_reducible exact gristmilllaw2_first.mono _)
      | (with_reducible exact gristmillref_Has.mono _ _ _)
      | (with_reducible exact num_Arity.mono _ _)
      | (with_reducible exact num_Do.mono _ _ _ _)
      | (with_reducible exact num_Floaty.mono _ _)
      | (with_reducible exact LeO.refl _)
      | (with_reducible exact LeO.none _)
      | (with_reducible refine LeO.ite ?_ ?_)
      | (with_reducible refine LeO.bind ?_ (fun _ => ?_))
      | exact ih0 _ _ _ _ _
      | exact ih1 _ _ _ _ _ _
      | exact ih2 _ _ _ _ _ _
      | exact ih3 _
      | exact gristmilllaw2_first.mono _
      | exact gristmillref_Has.mono _ _ _
      | exact num_Arity.mono _ _
      | exact num_Do.mono _ _ _ _
      | exact num_Floaty.mono _ _
      | exact LeO.none _
      | refine LeO.ite ?_ ?_
      | refine LeO.bind ?_ (fun _ => ?_)
    · intro y0 y1 y2 y3 y4 y5
      unfold gristmilllaw2_NumWords.j1
      repeat' first
      | (with_reducible exact ih0 _ _ _ _ _)
      | (with_reducible exact ih1 _ _ _ _ _ _)
      | (with_reducible exact ih2 _ _ _ _ _ _)
      | (with_reducible exact ih3 _)
      | (with_reducible exact gristmilllaw2_first.mono _)
      | (with_reducible exact gristmillref_Has.mono _ _ _)
      | (with_reducible exact num_Arity.mono _ _)
      | (with_reducible exact num_Do.mono _ _ _ _)
      | (with_reducible exact num_Floaty.mono _ _)
      | (with_reducible exact LeO.refl _)
      | (with_reducible exact LeO.none _)
      | (with_reducible refine LeO.ite ?_ ?_)
      | (with_reducible refine LeO.bind ?_ (fun _ => ?_))
      | exact ih0 _ _ _ _ _
      | exact ih1 _ _ _ _ _ _
      | exact ih2 _ _ _ _ _ _
      | exact ih3 _
      | exact gristmilllaw2_first.mono _
      | exact gristmillref_Has.mono _ _ _
      | exact num_Arity.mono _ _
      | exact num_Do.mono _ _ _ _
      | exact num_Floaty.mono _ _
      | exact LeO.none _
      | refine LeO.ite ?_ ?_
      | refine LeO.bind ?_ (fun _ => ?_)
    · intro y0 y1 y2 y3 y4 y5
      unfold gristmilllaw2_NumWords.l1
      repeat' first
      | (with_reducible exact ih0 _ _ _ _ _)
      | (with_reducible exact ih1 _ _ _ _ _ _)
      | (with_reducible exact ih2 _ _ _ _ _ _)
      | (with_reducible exact ih3 _)
      | (with_reducible exact gristmilllaw2_first.mono _)
      | (with_reducible exact gristmillref_Has.mono _ _ _)
      | (with_reducible exact num_Arity.mono _ _)
      | (with_reducible exact num_Do.mono _ _ _ _)
      | (with_reducible exact num_Floaty.mono _ _)
      | (with_reducible exact LeO.refl _)
      | (with_reducible exact LeO.none _)
      | (with_reducible refine LeO.ite ?_ ?_)
      | (with_reducible refine LeO.bind ?_ (fun _ => ?_))
      | exact ih0 _ _ _ _ _
      | exact ih1 _ _ _ _ _ _
      | exact ih2 _ _ _ _ _ _
      | exact ih3 _
      | exact gristmilllaw2_first.mono _
      | exact gristmillref_Has.mono _ _ _
      | exact num_Arity.mono _ _
      | exact num_Do.mono _ _ _ _
      | exact num_Floaty.mono _ _
      | exact LeO.none _
      | refine LeO.ite ?_ ?_
      | refine LeO.bind ?_ (fun _ => ?_)
    · intro y0
      unfold gristmilllaw2_NumWords.j3
      repeat' first
      | (with_reducible exact ih0 _ _ _ _ _)
      | (with_reducible exact ih1 _ _ _ _ _ _)
      | (with_reducible exact ih2 _ _ _ _ _ _)
      | (with_reducible exact ih3 _)
      | (with_reducible exact gristmilllaw2_first.mono _)
      | (with_reducible exact gristmillref_Has.mono _ _ _)
      | (with_reducible exact num_Arity.mono _ _)
      | (with_reducible exact num_Do.mono _ _ _ _)
      | (with_reducible exact num_Floaty.mono _ _)
      | (with_reducible exact LeO.refl _)
      | (with_reducible exact LeO.none _)
      | (with_reducible refine LeO.ite ?_ ?_)
      | (with_reducible refine LeO.bind ?_ (fun _ => ?_))
      | exact ih0 _ _ _ _ _
      | exact ih1 _ _ _ _ _ _
      | exact ih2 _ _ _ _ _ _
      | exact ih3 _
      | exact gristmilllaw2_first.mono _
      | exact gristmillref_Has.mono _ _ _
      | exact num_Arity.mono _ _
      | exact num_Do.mono _ _ _ _
      | exact num_Floaty.mono _ _
      | exact LeO.none _
      | refine LeO.ite ?_ ?_
      | refine LeO.bind ?_ (fun _ => ?_)
theorem gristmilllaw2_NumWords.mono : ∀ a0 a1 k, LeO (gristmilllaw2_NumWords.f k a0 a1) (gristmilllaw2_NumWords.f (k + 1) a0 a1) := by
  intro a0 a1 k
  obtain ⟨ih0, ih1, ih2, ih3⟩ := gristmilllaw2_NumWords.mono_l k
  unfold gristmilllaw2_NumWords.f
  repeat' first
      | (with_reducible exact ih0 _ _ _ _ _)
      | (with_reducible exact ih1 _ _ _ _ _ _)
      | (with_reducible exact ih2 _ _ _ _ _ _)
      | (with_reducible exact ih3 _)
      | (with_reducible exact gristmilllaw2_first.mono _)
      | (with_reducible exact gristmillref_Has.mono _ _ _)
      | (with_reducible exact num_Arity.mono _ _)
      | (with_reducible exact num_Do.mono _ _ _ _)
      | (with_reducible exact num_Floaty.mono _ _)
      | (with_reducible exact LeO.refl _)
      | (with_reducible exact LeO.none _)
      | (with_reducible refine LeO.ite ?_ ?_)
      | (with_reducible refine LeO.bind ?_ (fun _ => ?_))
      | exact ih0 _ _ _ _ _
      | exact ih1 _ _ _ _ _ _
      | exact ih2 _ _ _ _ _ _
      | exact ih3 _
      | exact gristmilllaw2_first.mono _
      | exact gristmillref_Has.mono _ _ _
      | exact num_Arity.mono _ _
      | exact num_Do.mono _ _ _ _
      | exact num_Floaty.mono _ _
      | exact LeO.none _
      | refine LeO.ite ?_ ?_
      | refine LeO.bind ?_ (fun _ => ?_)
set_option maxHeartbeats 8000000 in
set_option maxRecDepth 100000 in
theorem gristmilllaw2_NumWords.calls (k : Nat) (a0 : Int) (a1 : Int) (r : Bool) (w : World) (hGG : GG w) (h : gristmilllaw2_NumWords.f k a0 a1 = some r) :
    Calls Tryd.prog 5 #[.int .i64 a0, .int .i64 a1] w fun e w' => e = .returned (.bool r) ∧ Below w.heap.size w w' := by
  have HB := Aside0.mk (Below.refl w.heap.size w)
  have H : ((gristmilllaw2_first.f k).bind fun t126 => (if t126 = true then ((num_Prims.f).bind fun t127 => (if (t127.length : Int) = 16 then (gristmilllaw2_NumWords.l0 k a0 a1 t126 t127 0) else (none))) else (none))) = some r := h
  clear h
  replace H := Option.bind_eq_some_iff.mp H
  obtain ⟨t126, A30, H⟩ := H
  replace H : (if t126 = true then ((num_Prims.f).bind fun t127 => (if (t127.length : Int) = 16 then (gristmilllaw2_NumWords.l0 k a0 a1 t126 t127 0) else (none))) else (none)) = some r := H
  have A3 := Aside0.mk A30
  clear A30
  by_cases c4 : t126 = true
  · subst c4
    have H1 : ((num_Prims.f).bind fun t127 => (if (t127.length : Int) = 16 then (gristmilllaw2_NumWords.l0 k a0 a1 true t127 0) else (none))) = some r := by rw [if_pos rfl] at H; exact H
    clear H
    have H := H1
    clear H1
    replace H := Option.bind_eq_some_iff.mp H
    obtain ⟨t127, A50, H⟩ := H
    replace H : (if (t127.length : Int) = 16 then (gristmilllaw2_NumWords.l0 k a0 a1 true t127 0) else (none)) = some r := H
    have A5 := Aside0.mk A50
    clear A50
    by_cases c6 : (t127.length : Int) = 16
    · rw [if_pos c6] at H
      have c6b0 : ((t127.length : Int) == 16) = true := beq_iff_eq.mpr c6
      have c6b1 : ((t127.length : Int) != 16) = false := bne_eq_false_iff_eq.mpr c6
      clear c6
      have H' := Aside0.mk H
      clear H
      go_enter Tryd.func5, Tryd.ntmps5
      go_wp2_with (first | (go_at_call 8; (with_reducible refine (gristmilllaw2_first.calls k  true _ ?side1 A3.out).mono ?_); (case side1 => exact GG.below hGG (by repeat (first | (with_reducible first | exact HB.out | apply below_alloc | apply pw_below_drewN | apply below_drew1) | exact HB.out))); rintro e w7 ⟨rfl, hb⟩; have n0_ := Aside0.mk (below_step (by repeat (first | (with_reducible first | exact HB.out | apply below_alloc | apply pw_below_drewN | apply below_drew1) | exact HB.out)) hb); clear HB; have HB := n0_; clear n0_; (try clear hb); (try clear hb2); (try clear hk); (try clear hi)) | (go_at_call 10; (with_reducible refine (num_Prims.calls  t127 _ A5.out).mono ?_); rintro e w8 ⟨v128, rfl, ho0, hb⟩; have n0_ := Aside0.mk (Kd.R_lower ho0 (below_size (by repeat (first | (with_reducible first | exact HB.out | apply below_alloc | apply pw_below_drewN | apply below_drew1) | exact HB.out)))); have n1_ := Aside0.mk (below_step (by repeat (first | (with_reducible first | exact HB.out | apply below_alloc | apply pw_below_drewN | apply below_drew1) | exact HB.out)) hb); clear HB; have HO129 := n0_; have HB := n1_; clear n0_ n1_; (try clear hb); (try clear hb2); (try clear hk); (try clear hi); (try clear ho0); obtain ⟨Ao9, co9, eo9⟩ := Kd.R_slice HO129.out; subst eo9))
      repeat (go_quiet (first | (go_at_call 8; (with_reducible refine (gristmilllaw2_first.calls k  true _ ?side1 A3.out).mono ?_); (case side1 => exact GG.below hGG (by repeat (first | (with_reducible first | exact HB.out | apply below_alloc | apply pw_below_drewN | apply below_drew1) | exact HB.out))); rintro e w7 ⟨rfl, hb⟩; have n0_ := Aside0.mk (below_step (by repeat (first | (with_reducible first | exact HB.out | apply below_alloc | apply pw_below_drewN | apply below_drew1) | exact HB.out)) hb); clear HB; have HB := n0_; clear n0_; (try clear hb); (try clear hb2); (try clear hk); (try clear hi)) | (go_at_call 10; (with_reducible refine (num_Prims.calls  t127 _ A5.out).mono ?_); rintro e w8 ⟨v128, rfl, ho0, hb⟩; have n0_ := Aside0.mk (Kd.R_lower ho0 (below_size (by repeat (first | (with_reducible first | exact HB.out | apply below_alloc | apply pw_below_drewN | apply below_drew1) | exact HB.out)))); have n1_ := Aside0.mk (below_step (by repeat (first | (with_reducible first | exact HB.out | apply below_alloc | apply pw_below_drewN | apply below_drew1) | exact HB.out)) hb); clear HB; have HO129 := n0_; have HB := n1_; clear n0_ n1_; (try clear hb); (try clear hb2); (try clear hk); (try clear hi); (try clear ho0); obtain ⟨Ao9, co9, eo9⟩ := Kd.R_slice HO129.out; subst eo9)); try go_wp2_with (first | (go_at_call 8; (with_reducible refine (gristmilllaw2_first.calls k  true _ ?side1 A3.out).mono ?_); (case side1 => exact GG.below hGG (by repeat (first | (with_reducible first | exact HB.out | apply below_alloc | apply pw_below_drewN | apply below_drew1) | exact HB.out))); rintro e w7 ⟨rfl, hb⟩; have n0_ := Aside0.mk (below_step (by repeat (first | (with_reducible first | exact HB.out | apply below_alloc | apply pw_below_drewN | apply below_drew1) | exact HB.out)) hb); clear HB; have HB := n0_; clear n0_; (try clear hb); (try clear hb2); (try clear hk); (try clear hi)) | (go_at_call 10; (with_reducible refine (num_Prims.calls  t127 _ A5.out).mono ?_); rintro e w8 ⟨v128, rfl, ho0, hb⟩; have n0_ := Aside0.mk (Kd.R_lower ho0 (below_size (by repeat (first | (with_reducible first | exact HB.out | apply below_alloc | apply pw_below_drewN | apply below_drew1) | exact HB.out)))); have n1_ := Aside0.mk (below_step (by repeat (first | (with_reducible first | exact HB.out | apply below_alloc | apply pw_below_drewN | apply below_drew1) | exact HB.out)) hb); clear HB; have HO129 := n0_; have HB := n1_; clear n0_ n1_; (try clear hb); (try clear hb2); (try clear hk); (try clear hi); (try clear ho0); obtain ⟨Ao9, co9, eo9⟩ := Kd.R_slice HO129.out; subst eo9)))
      go_loopg [7] k (fun kq v7 w' => ∃ (x7_1 : Int), v7 = .int .i64 x7_1 ∧ Aside0 (gristmilllaw2_NumWords.l0 kq a0 a1 true t127 x7_1 = some r) ∧ Aside0 (kq ≤ k) ∧ Aside0 (Kd.R Kd.string 9 w' w.heap.size (fun _ => True) (.slice Ao9 t127.length co9) t127) ∧ Aside0 (Below w.heap.size w w'))
      case atStart => exact ⟨(0), (by first | rfl | (simp; done) | (simp [*]; done)), H', ⟨Nat.le_refl _⟩, ⟨by (with_reducible repeat (first | apply Kd.R_alloc | apply Kd.R_drewN | apply Kd.R_drew)); exact HO129.out⟩, ⟨by repeat (first | (with_reducible first | exact HB.out | apply below_alloc | apply pw_below_drewN | apply below_drew1) | exact HB.out)⟩⟩
      case round =>
        clear H'
        try clear p2
        try clear c4
        try clear c5
        try clear c6
        try clear c6b0
        try clear c6b1
        obtain ⟨x7_1, rfl, HA, HK1, HO_6, HB⟩ := hrel
        cases gk with
        | zero => exact absurd HA.out (by simp [gristmilllaw2_NumWords.l0])
        | succ k1 =>
          have H := HA.out
          clear HA
          simp only [gristmilllaw2_NumWords.l0] at H
          by_cases c10 : x7_1 < (t127.length : Int)
          · rw [if_pos c10] at H
            have c10b0 : decide (x7_1 < (t127.length : Int)) = true := decide_eq_true c10
            clear c10
            by_cases c11 : 0 ≤ x7_1
            · rw [if_pos c11] at H
              have c11b0 : decide (0 ≤ x7_1) = true := decide_eq_true c11
              clear c11
              replace H := Option.bind_eq_some_iff.mp H
              obtain ⟨⟨t131, t132⟩, A120, H⟩ := H
              replace H : ((num_Do.f k1 (rdOf ByteArray.empty t127 x7_1) a0 a1).bind fun bt134 => (if t132 = true then (if t131 < 1 then (none) else (if t131 > 2 then (none) else (if (rdOf ByteArray.empty t127 x7_1).toList = ([102, 108, 111, 97, 116] : List UInt8) then (if ((t131 == 1) != true) = true then (none) else (if (bt134.2.2 != (decide (x7_1 < 7))) = true then (none) else (if bt134.2.1 = 0 then ((num_Floaty.f k1 (rdOf ByteArray.empty t127 x7_1)).bind fun t139 => (if x7_1 ≥ 7 then (if x7_1 ≤ 10 then (gristmilllaw2_NumWords.j1 k1 a0 a1 true t127 x7_1 (t139 != true)) else (gristmilllaw2_NumWords.j1 k1 a0 a1 true t127 x7_1 (t139 != ((rdOf ByteArray.empty t127 x7_1).toList == ([102, 108, 111, 97, 116] : List UInt8))))) else (gristmilllaw2_NumWords.j1 k1 a0 a1 true t127 x7_1 (t139 != ((rdOf ByteArray.empty t127 x7_1).toList == ([102, 108, 111, 97, 116] : List UInt8)))))) else (if a1 = 0 then (if (rdOf ByteArray.empty t127 x7_1).toList = ([100, 105, 118] : List UInt8) then ((num_Floaty.f k1 (rdOf ByteArray.empty t127 x7_1)).bind fun t144 => (if x7_1 ≥ 7 then (if x7_1 ≤ 10 then (gristmilllaw2_NumWords.j1 k1 a0 a1 true t127 x7_1 (t144 != true)) else (gristmilllaw2_NumWords.j1 k1 a0 a1 true t127 x7_1 (t144 != ((rdOf ByteArray.empty t127 x7_1).toList == ([102, 108, 111, 97, 116] : List UInt8))))) else (gristmilllaw2_NumWords.j1 k1 a0 a1 true t127 x7_1 (t144 != ((rdOf ByteArray.empty t127 x7_1).toList == ([102, 108, 111, 97, 116] : List UInt8)))))) else (if (rdOf ByteArray.empty t127 x7_1).toList = ([109, 111, 100] : List UInt8) then ((num_Floaty.f k1 (rdOf ByteArray.empty t127 x7_1)).bind fun t149 => (if x7_1 ≥ 7 then (if x7_1 ≤ 10 then (gristmilllaw2_NumWords.j1 k1 a0 a1 true t127 x7_1 (t149 != true)) else (gristmilllaw2_NumWords.j1 k1 a0 a1 true t127 x7_1 (t149 != ((rdOf ByteArray.empty t127 x7_1).toList == ([102, 108, 111, 97, 116] : List UInt8))))) else (gristmilllaw2_NumWords.j1 k1 a0 a1 true t127 x7_1 (t149 != ((rdOf ByteArray.empty t127 x7_1).toList == ([102, 108, 111, 97, 116] : List UInt8)))))) else (none))) else (none))))) else (if ((t131 == 1) != ((rdOf ByteArray.empty t127 x7_1).toList == ([119, 104, 111, 108, 101] : List UInt8))) = true then (none) else (if (bt134.2.2 != (decide (x7_1 < 7))) = true then (none) else (if bt134.2.1 = 0 then ((num_Floaty.f k1 (rdOf ByteArray.empty t127 x7_1)).bind fun t154 => (if x7_1 ≥ 7 then (if x7_1 ≤ 10 then (gristmilllaw2_NumWords.j1 k1 a0 a1 true t127 x7_1 (t154 != true)) else (gristmilllaw2_NumWords.j1 k1 a0 a1 true t127 x7_1 (t154 != ((rdOf ByteArray.empty t127 x7_1).toList == ([102, 108, 111, 97, 116] : List UInt8))))) else (gristmilllaw2_NumWords.j1 k1 a0 a1 true t127 x7_1 (t154 != ((rdOf ByteArray.empty t127 x7_1).toList == ([102, 108, 111, 97, 116] : List UInt8)))))) else (if a1 = 0 then (if (rdOf ByteArray.empty t127 x7_1).toList = ([100, 105, 118] : List UInt8) then ((num_Floaty.f k1 (rdOf ByteArray.empty t127 x7_1)).bind fun t159 => (if x7_1 ≥ 7 then (if x7_1 ≤ 10 then (gristmilllaw2_NumWords.j1 k1 a0 a1 true t127 x7_1 (t159 != true)) else (gristmilllaw2_NumWords.j1 k1 a0 a1 true t127 x7_1 (t159 != ((rdOf ByteArray.empty t127 x7_1).toList == ([102, 108, 111, 97, 116] : List UInt8))))) else (gristmilllaw2_NumWords.j1 k1 a0 a1 true t127 x7_1 (t159 != ((rdOf ByteArray.empty t127 x7_1).toList == ([102, 108, 111, 97, 116] : List UInt8)))))) else (if (rdOf ByteArray.empty t127 x7_1).toList = ([109, 111, 100] : List UInt8) then ((num_Floaty.f k1 (rdOf ByteArray.empty t127 x7_1)).bind fun t164 => (if x7_1 ≥ 7 then (if x7_1 ≤ 10 then (gristmilllaw2_NumWords.j1 k1 a0 a1 true t127 x7_1 (t164 != true)) else (gristmilllaw2_NumWords.j1 k1 a0 a1 true t127 x7_1 (t164 != ((rdOf ByteArray.empty t127 x7_1).toList == ([102, 108, 111, 97, 116] : List UInt8))))) else (gristmilllaw2_NumWords.j1 k1 a0 a1 true t127 x7_1 (t164 != ((rdOf ByteArray.empty t127 x7_1).toList == ([102, 108, 111, 97, 116] : List UInt8)))))) else (none))) else (none)))))))) else (none))) = some r := H
              have A12 := Aside0.mk A120
              clear A120
              replace H := Option.bind_eq_some_iff.mp H
              obtain ⟨⟨t134, t135, t136⟩, A130, H⟩ := H
              replace H : (if t132 = true then (if t131 < 1 then (none) else (if t131 > 2 then (none) else (if (rdOf ByteArray.empty t127 x7_1).toList = ([102, 108, 111, 97, 116] : List UInt8) then (if ((t131 == 1) != true) = true then (none) else (if (t136 != (decide (x7_1 < 7))) = true then (none) else (if t135 = 0 then ((num_Floaty.f k1 (rdOf ByteArray.empty t127 x7_1)).bind fun t139 => (if x7_1 ≥ 7 then (if x7_1 ≤ 10 then (gristmilllaw2_NumWords.j1 k1 a0 a1 true t127 x7_1 (t139 != true)) else (gristmilllaw2_NumWords.j1 k1 a0 a1 true t127 x7_1 (t139 != ((rdOf ByteArray.empty t127 x7_1).toList == ([102, 108, 111, 97, 116] : List UInt8))))) else (gristmilllaw2_NumWords.j1 k1 a0 a1 true t127 x7_1 (t139 != ((rdOf ByteArray.empty t127 x7_1).toList == ([102, 108, 111, 97, 116] : List UInt8)))))) else (if a1 = 0 then (if (rdOf ByteArray.empty t127 x7_1).toList = ([100, 105, 118] : List UInt8) then ((num_Floaty.f k1 (rdOf ByteArray.empty t127 x7_1)).bind fun t144 => (if x7_1 ≥ 7 then (if x7_1 ≤ 10 then (gristmilllaw2_NumWords.j1 k1 a0 a1 true t127 x7_1 (t144 != true)) else (gristmilllaw2_NumWords.j1 k1 a0 a1 true t127 x7_1 (t144 != ((rdOf ByteArray.empty t127 x7_1).toList == ([102, 108, 111, 97, 116] : List UInt8))))) else (gristmilllaw2_NumWords.j1 k1 a0 a1 true t127 x7_1 (t144 != ((rdOf ByteArray.empty t127 x7_1).toList == ([102, 108, 111, 97, 116] : List UInt8)))))) else (if (rdOf ByteArray.empty t127 x7_1).toList = ([109, 111, 100] : List UInt8) then ((num_Floaty.f k1 (rdOf ByteArray.empty t127 x7_1)).bind fun t149 => (if x7_1 ≥ 7 then (if x7_1 ≤ 10 then (gristmilllaw2_NumWords.j1 k1 a0 a1 true t127 x7_1 (t149 != true)) else (gristmilllaw2_NumWords.j1 k1 a0 a1 true t127 x7_1 (t149 != ((rdOf ByteArray.empty t127 x7_1).toList == ([102, 108, 111, 97, 116] : List UInt8))))) else (gristmilllaw2_NumWords.j1 k1 a0 a1 true t127 x7_1 (t149 != ((rdOf ByteArray.empty t127 x7_1).toList == ([102, 108, 111, 97, 116] : List UInt8)))))) else (none))) else (none))))) else (if ((t131 == 1) != ((rdOf ByteArray.empty t127 x7_1).toList == ([119, 104, 111, 108, 101] : List UInt8))) = true then (none) else (if (t136 != (decide (x7_1 < 7))) = true then (none) else (if t135 = 0 then ((num_Floaty.f k1 (rdOf ByteArray.empty t127 x7_1)).bind fun t154 => (if x7_1 ≥ 7 then (if x7_1 ≤ 10 then (gristmilllaw2_NumWords.j1 k1 a0 a1 true t127 x7_1 (t154 != true)) else (gristmilllaw2_NumWords.j1 k1 a0 a1 true t127 x7_1 (t154 != ((rdOf ByteArray.empty t127 x7_1).toList == ([102, 108, 111, 97, 116] : List UInt8))))) else (gristmilllaw2_NumWords.j1 k1 a0 a1 true t127 x7_1 (t154 != ((rdOf ByteArray.empty t127 x7_1).toList == ([102, 108, 111, 97, 116] : List UInt8)))))) else (if a1 = 0 then (if (rdOf ByteArray.empty t127 x7_1).toList = ([100, 105, 118] : List UInt8) then ((num_Floaty.f k1 (rdOf ByteArray.empty t127 x7_1)).bind fun t159 => (if x7_1 ≥ 7 then (if x7_1 ≤ 10 then (gristmilllaw2_NumWords.j1 k1 a0 a1 true t127 x7_1 (t159 != true)) else (gristmilllaw2_NumWords.j1 k1 a0 a1 true t127 x7_1 (t159 != ((rdOf ByteArray.empty t127 x7_1).toList == ([102, 108, 111, 97, 116] : List UInt8))))) else (gristmilllaw2_NumWords.j1 k1 a0 a1 true t127 x7_1 (t159 != ((rdOf ByteArray.empty t127 x7_1).toList == ([102, 108, 111, 97, 116] : List UInt8)))))) else (if (rdOf ByteArray.empty t127 x7_1).toList = ([109, 111, 100] : List UInt8) then ((num_Floaty.f k1 (rdOf ByteArray.empty t127 x7_1)).bind fun t164 => (if x7_1 ≥ 7 then (if x7_1 ≤ 10 then (gristmilllaw2_NumWords.j1 k1 a0 a1 true t127 x7_1 (t164 != true)) else (gristmilllaw2_NumWords.j1 k1 a0 a1 true t127 x7_1 (t164 != ((rdOf ByteArray.empty t127 x7_1).toList == ([102, 108, 111, 97, 116] : List UInt8))))) else (gristmilllaw2_NumWords.j1 k1 a0 a1 true t127 x7_1 (t164 != ((rdOf ByteArray.empty t127 x7_1).toList == ([102, 108, 111, 97, 116] : List UInt8)))))) else (none))) else (none)))))))) else (none)) = some r := H
              have A13 := Aside0.mk A130
              clear A130
              have HC14 := Aside0.mk H
              clear H
              have p130 : 0 ≤ (x7_1 : Int) := of_decide_eq_true (by first | (with_reducible assumption) | assumption)
              have q130 : x7_1 < (t127.length : Int) := of_decide_eq_true (by first | (with_reducible assumption) | assumption)
              obtain ⟨ad130, e130, hx130_0⟩ := Kd.at_string (Kd.R_reads' HO_6.out).2.2 x7_1 p130 q130
              cases e130
              replace p130 := eq_true p130
              replace q130 := eq_true q130
              go_upto_region 12 with (first | (go_at_call 11; (with_reducible refine (num_Arity.calls k1 (rdOf ByteArray.empty t127 x7_1) t131 t132 _ A12.out).mono ?_); rintro e w15 ⟨rfl, hb⟩; have n0_ := Aside0.mk (Kd.R_below (by (with_reducible repeat (first | apply Kd.R_alloc | apply Kd.R_drewN | apply Kd.R_drew)); exact HO_6.out) hb); have n1_ := Aside0.mk (below_step (by repeat (first | (with_reducible first | exact HB.out | apply below_alloc | apply pw_below_drewN | apply below_drew1) | exact HB.out)) hb); clear HO_6; clear HB; have HO_6 := n0_; have HB := n1_; clear n0_ n1_; (try clear hb); (try clear hb2); (try clear hk); (try clear hi); have p133 : 0 ≤ (x7_1 : Int) := of_decide_eq_true (by first | (with_reducible assumption) | assumption); have q133 : x7_1 < (t127.length : Int) := of_decide_eq_true (by first | (with_reducible assumption) | assumption); obtain ⟨ad133, e133, hx133_0⟩ := Kd.at_string (Kd.R_reads' HO_6.out).2.2 x7_1 p133 q133; obtain rfl : ad130 = ad133 := (by injection e133); replace p133 := eq_true p133; replace q133 := eq_true q133) | (go_at_call 9; (with_reducible refine (num_Do.calls k1 (rdOf ByteArray.empty t127 x7_1) a0 a1 t134 t135 t136 _ A13.out).mono ?_); rintro e w16 ⟨rfl, hb⟩; have n0_ := Aside0.mk (Kd.R_below (by (with_reducible repeat (first | apply Kd.R_alloc | apply Kd.R_drewN | apply Kd.R_drew)); exact HO_6.out) hb); have n1_ := Aside0.mk (below_step (by repeat (first | (with_reducible first | exact HB.out | apply below_alloc | apply pw_below_drewN | apply below_drew1) | exact HB.out)) hb); clear HO_6; clear HB; have HO_6 := n0_; have HB := n1_; clear n0_ n1_; (try clear hb); (try clear hb2); (try clear hk); (try clear hi)))
              repeat (go_quiet (first | (go_at_call 11; (with_reducible refine (num_Arity.calls k1 (rdOf ByteArray.empty t127 x7_1) t131 t132 _ A12.out).mono ?_); rintro e w15 ⟨rfl, hb⟩; have n0_ := Aside0.mk (Kd.R_below (by (with_reducible repeat (first | apply Kd.R_alloc | apply Kd.R_drewN | apply Kd.R_drew)); exact HO_6.out) hb); have n1_ := Aside0.mk (below_step (by repeat (first | (with_reducible first | exact HB.out | apply below_alloc | apply pw_below_drewN | apply below_drew1) | exact HB.out)) hb); clear HO_6; clear HB; have HO_6 := n0_; have HB := n1_; clear n0_ n1_; (try clear hb); (try clear hb2); (try clear hk); (try clear hi); have p133 : 0 ≤ (x7_1 : Int) := of_decide_eq_true (by first | (with_reducible assumption) | assumption); have q133 : x7_1 < (t127.length : Int) := of_decide_eq_true (by first | (with_reducible assumption) | assumption); obtain ⟨ad133, e133, hx133_0⟩ := Kd.at_string (Kd.R_reads' HO_6.out).2.2 x7_1 p133 q133; obtain rfl : ad130 = ad133 := (by injection e133); replace p133 := eq_true p133; replace q133 := eq_true q133) | (go_at_call 9; (with_reducible refine (num_Do.calls k1 (rdOf ByteArray.empty t127 x7_1) a0 a1 t134 t135 t136 _ A13.out).mono ?_); rintro e w16 ⟨rfl, hb⟩; have n0_ := Aside0.mk (Kd.R_below (by (with_reducible repeat (first | apply Kd.R_alloc | apply Kd.R_drewN | apply Kd.R_drew)); exact HO_6.out) hb); have n1_ := Aside0.mk (below_step (by repeat (first | (with_reducible first | exact HB.out | apply below_alloc | apply pw_below_drewN | apply below_drew1) | exact HB.out)) hb); clear HO_6; clear HB; have HO_6 := n0_; have HB := n1_; clear n0_ n1_; (try clear hb); (try clear hb2); (try clear hk); (try clear hi))); go_upto_region 12 with (first | (go_at_call 11; (with_reducible refine (num_Arity.calls k1 (rdOf ByteArray.empty t127 x7_1) t131 t132 _ A12.out).mono ?_); rintro e w15 ⟨rfl, hb⟩; have n0_ := Aside0.mk (Kd.R_below (by (with_reducible repeat (first | apply Kd.R_alloc | apply Kd.R_drewN | apply Kd.R_drew)); exact HO_6.out) hb); have n1_ := Aside0.mk (below_step (by repeat (first | (with_reducible first | exact HB.out | apply below_alloc | apply pw_below_drewN | apply below_drew1) | exact HB.out)) hb); clear HO_6; clear HB; have HO_6 := n0_; have HB := n1_; clear n0_ n1_; (try clear hb); (try clear hb2); (try clear hk); (try clear hi); have p133 : 0 ≤ (x7_1 : Int) := of_decide_eq_true (by first | (with_reducible assumption) | assumption); have q133 : x7_1 < (t127.length : Int) := of_decide_eq_true (by first | (with_reducible assumption) | assumption); obtain ⟨ad133, e133, hx133_0⟩ := Kd.at_string (Kd.R_reads' HO_6.out).2.2 x7_1 p133 q133; obtain rfl : ad130 = ad133 := (by injection e133); replace p133 := eq_true p133; replace q133 := eq_true q133) | (go_at_call 9; (with_reducible refine (num_Do.calls k1 (rdOf ByteArray.empty t127 x7_1) a0 a1 t134 t135 t136 _ A13.out).mono ?_); rintro e w16 ⟨rfl, hb⟩; have n0_ := Aside0.mk (Kd.R_below (by (with_reducible repeat (first | apply Kd.R_alloc | apply Kd.R_drewN | apply Kd.R_drew)); exact HO_6.out) hb); have n1_ := Aside0.mk (below_step (by repeat (first | (with_reducible first | exact HB.out | apply below_alloc | apply pw_below_drewN | apply below_drew1) | exact HB.out)) hb); clear HO_6; clear HB; have HO_6 := n0_; have HB := n1_; clear n0_ n1_; (try clear hb); (try clear hb2); (try clear hk); (try clear hi))))
              (try simp only [Act.put, List.setIfInBounds_toArray, List.set_cons_zero, List.set_cons_succ])
              go_cut [123] (fun v123 wc => ∃ (kq : Nat) (x123_13 : Bool), v123 = .bool x123_13 ∧ Aside0 (gristmilllaw2_NumWords.j1 kq a0 a1 true t127 x7_1 x123_13 = some r) ∧ Aside0 (kq ≤ k1) ∧ Aside0 (Kd.R Kd.string 9 wc w.heap.size (fun _ => True) (.slice (some ad130) t127.length co9) t127) ∧ Aside0 (Below w.heap.size w wc))
              case first => as_aux_lemma =>
                (try simp only [List.append_eq, List.cons_append, List.nil_append])
                have H := HC14.out
                clear HC14
                by_cases c17 : t132 = true
                · subst c17
                  have H1 : (if t131 < 1 then (none) else (if t131 > 2 then (none) else (if (rdOf ByteArray.empty t127 x7_1).toList = ([102, 108, 111, 97, 116] : List UInt8) then (if ((t131 == 1) != true) = true then (none) else (if (t136 != (decide (x7_1 < 7))) = true then (none) else (if t135 = 0 then ((num_Floaty.f k1 (rdOf ByteArray.empty t127 x7_1)).bind fun t139 => (if x7_1 ≥ 7 then (if x7_1 ≤ 10 then (gristmilllaw2_NumWords.j1 k1 a0 a1 true t127 x7_1 (t139 != true)) else (gristmilllaw2_NumWords.j1 k1 a0 a1 true t127 x7_1 (t139 != ((rdOf ByteArray.empty t127 x7_1).toList == ([102, 108, 111, 97, 116] : List UInt8))))) else (gristmilllaw2_NumWords.j1 k1 a0 a1 true t127 x7_1 (t139 != ((rdOf ByteArray.empty t127 x7_1).toList == ([102, 108, 111, 97, 116] : List UInt8)))))) else (if a1 = 0 then (if (rdOf ByteArray.empty t127 x7_1).toList = ([100, 105, 118] : List UInt8) then ((num_Floaty.f k1 (rdOf ByteArray.empty t127 x7_1)).bind fun t144 => (if x7_1 ≥ 7 then (if x7_1 ≤ 10 then (gristmilllaw2_NumWords.j1 k1 a0 a1 true t127 x7_1 (t144 != true)) else (gristmilllaw2_NumWords.j1 k1 a0 a1 true t127 x7_1 (t144 != ((rdOf ByteArray.empty t127 x7_1).toList == ([102, 108, 111, 97, 116] : List UInt8))))) else (gristmilllaw2_NumWords.j1 k1 a0 a1 true t127 x7_1 (t144 != ((rdOf ByteArray.empty t127 x7_1).toList == ([102, 108, 111, 97, 116] : List UInt8)))))) else (if (rdOf ByteArray.empty t127 x7_1).toList = ([109, 111, 100] : List UInt8) then ((num_Floaty.f k1 (rdOf ByteArray.empty t127 x7_1)).bind fun t149 => (if x7_1 ≥ 7 then (if x7_1 ≤ 10 then (gristmilllaw2_NumWords.j1 k1 a0 a1 true t127 x7_1 (t149 != true)) else (gristmilllaw2_NumWords.j1 k1 a0 a1 true t127 x7_1 (t149 != ((rdOf ByteArray.empty t127 x7_1).toList == ([102, 108, 111, 97, 116] : List UInt8))))) else (gristmilllaw2_NumWords.j1 k1 a0 a1 true t127 x7_1 (t149 != ((rdOf ByteArray.empty t127 x7_1).toList == ([102, 108, 111, 97, 116] : List UInt8)))))) else (none))) else (none))))) else (if ((t131 == 1) != ((rdOf ByteArray.empty t127 x7_1).toList == ([119, 104, 111, 108, 101] : List UInt8))) = true then (none) else (if (t136 != (decide (x7_1 < 7))) = true then (none) else (if t135 = 0 then ((num_Floaty.f k1 (rdOf ByteArray.empty t127 x7_1)).bind fun t154 => (if x7_1 ≥ 7 then (if x7_1 ≤ 10 then (gristmilllaw2_NumWords.j1 k1 a0 a1 true t127 x7_1 (t154 != true)) else (gristmilllaw2_NumWords.j1 k1 a0 a1 true t127 x7_1 (t154 != ((rdOf ByteArray.empty t127 x7_1).toList == ([102, 108, 111, 97, 116] : List UInt8))))) else (gristmilllaw2_NumWords.j1 k1 a0 a1 true t127 x7_1 (t154 != ((rdOf ByteArray.empty t127 x7_1).toList == ([102, 108, 111, 97, 116] : List UInt8)))))) else (if a1 = 0 then (if (rdOf ByteArray.empty t127 x7_1).toList = ([100, 105, 118] : List UInt8) then ((num_Floaty.f k1 (rdOf ByteArray.empty t127 x7_1)).bind fun t159 => (if x7_1 ≥ 7 then (if x7_1 ≤ 10 then (gristmilllaw2_NumWords.j1 k1 a0 a1 true t127 x7_1 (t159 != true)) else (gristmilllaw2_NumWords.j1 k1 a0 a1 true t127 x7_1 (t159 != ((rdOf ByteArray.empty t127 x7_1).toList == ([102, 108, 111, 97, 116] : List UInt8))))) else (gristmilllaw2_NumWords.j1 k1 a0 a1 true t127 x7_1 (t159 != ((rdOf ByteArray.empty t127 x7_1).toList == ([102, 108, 111, 97, 116] : List UInt8)))))) else (if (rdOf ByteArray.empty t127 x7_1).toList = ([109, 111, 100] : List UInt8) then ((num_Floaty.f k1 (rdOf ByteArray.empty t127 x7_1)).bind fun t164 => (if x7_1 ≥ 7 then (if x7_1 ≤ 10 then (gristmilllaw2_NumWords.j1 k1 a0 a1 true t127 x7_1 (t164 != true)) else (gristmilllaw2_NumWords.j1 k1 a0 a1 true t127 x7_1 (t164 != ((rdOf ByteArray.empty t127 x7_1).toList == ([102, 108, 111, 97, 116] : List UInt8))))) else (gristmilllaw2_NumWords.j1 k1 a0 a1 true t127 x7_1 (t164 != ((rdOf ByteArray.empty t127 x7_1).toList == ([102, 108, 111, 97, 116] : List UInt8)))))) else (none))) else (none)))))))) = some r := by rw [if_pos rfl] at H; exact H
                  clear H
                  have H := H1
                  clear H1
                  by_cases c18 : t131 < 1
                  · rw [if_pos c18] at H
                    exact absurd H (by simp)
                  · rw [if_neg c18] at H
                    have c18b0 : decide (t131 < 1) = false := decide_eq_false c18
                    clear c18
                    (first | rw [c18b0] | (simp only [i64_w, i32_w]; rw [c18b0]) | skip)
                    by_cases c19 : t131 > 2
                    · rw [if_pos c19] at H
                      exact absurd H (by simp)
                    · rw [if_neg c19] at H
                      have c19b0 : decide (2 < t131) = false := decide_eq_false c19
                      clear c19
                      by_cases c20 : (rdOf ByteArray.empty t127 x7_1).toList = ([102, 108, 111, 97, 116] : List UInt8)
                      · rw [if_pos c20] at H
                        have c20b0 : ((rdOf ByteArray.empty t127 x7_1).toList == ([102, 108, 111, 97, 116] : List UInt8)) = true := beq_iff_eq.mpr c20
                        have c20b1 : ((rdOf ByteArray.empty t127 x7_1).toList != ([102, 108, 111, 97, 116] : List UInt8)) = false := bne_eq_false_iff_eq.mpr c20
                        clear c20
                        by_cases c21 : ((t131 == 1) != true) = true
                        · rw [if_pos c21] at H
                          exact absurd H (by simp)
                        · rw [if_neg c21] at H
                          have c21b0 : ((t131 == 1) != true) = false := by simpa using c21
                          (try (have c21b1 : decide ((t131 == 1) = true) = true := by simpa using c21))
                          (try (have c21b2 : ((t131 == 1) == true) = true := by simpa using c21))
                          clear c21
                          by_cases c22 : (t136 != (decide (x7_1 < 7))) = true
                          · rw [if_pos c22] at H
                            exact absurd H (by simp)
                          · rw [if_neg c22] at H
                            have c22b0 : (t136 != (decide (x7_1 < 7))) = false := by simpa using c22
                            (try (have c22b1 : decide (t136 = (decide (x7_1 < 7))) = true := by simpa using c22))
                            (try (have c22b2 : (t136 == (decide (x7_1 < 7))) = true := by simpa using c22))
                            clear c22
                            by_cases c23 : t135 = 0
                            · rw [if_pos c23] at H
                              have c23b0 : (t135 == 0) = true := beq_iff_eq.mpr c23
                              have c23b1 : (t135 != 0) = false := bne_eq_false_iff_eq.mpr c23
                              clear c23
                              replace H := Option.bind_eq_some_iff.mp H
                              obtain ⟨t139, A240, H⟩ := H
                              replace H : (if x7_1 ≥ 7 then (if x7_1 ≤ 10 then (gristmilllaw2_NumWords.j1 k1 a0 a1 true t127 x7_1 (t139 != true)) else (gristmilllaw2_NumWords.j1 k1 a0 a1 true t127 x7_1 (t139 != ((rdOf ByteArray.empty t127 x7_1).toList == ([102, 108, 111, 97, 116] : List UInt8))))) else (gristmilllaw2_NumWords.j1 k1 a0 a1 true t127 x7_1 (t139 != ((rdOf ByteArray.empty t127 x7_1).toList == ([102, 108, 111, 97, 116] : List UInt8))))) = some r := H
                              have A24 := Aside0.mk A240
                              clear A240
                              by_cases c25 : x7_1 ≥ 7
                              · rw [if_pos c25] at H
                                have c25b0 : decide (7 ≤ x7_1) = true := decide_eq_true c25
                                clear c25
                                by_cases c26 : x7_1 ≤ 10
                                · rw [if_pos c26] at H
                                  have c26b0 : decide (x7_1 ≤ 10) = true := decide_eq_true c26
                                  clear c26
                                  have H' := Aside0.mk H
                                  clear H
                                  have p137 : 0 ≤ (x7_1 : Int) := of_decide_eq_true (by first | (with_reducible assumption) | assumption)
                                  have q137 : x7_1 < (t127.length : Int) := of_decide_eq_true (by first | (with_reducible assumption) | assumption)
                                  obtain ⟨ad137, e137, hx137_0⟩ := Kd.at_string (Kd.R_reads' HO_6.out).2.2 x7_1 p137 q137
                                  obtain rfl : ad130 = ad137 := (by injection e137)
                                  replace p137 := eq_true p137
                                  replace q137 := eq_true q137
                                  have p138 : 0 ≤ (x7_1 : Int) := of_decide_eq_true (by first | (with_reducible assumption) | assumption)
                                  have q138 : x7_1 < (t127.length : Int) := of_decide_eq_true (by first | (with_reducible assumption) | assumption)
                                  obtain ⟨ad138, e138, hx138_0⟩ := Kd.at_string (Kd.R_reads' HO_6.out).2.2 x7_1 p138 q138
                                  obtain rfl : ad130 = ad138 := (by injection e138)
                                  replace p138 := eq_true p138
                                  replace q138 := eq_true q138
                                  go_wp2_with (first | (go_at_call 12; (with_reducible refine (num_Floaty.calls k1 (rdOf ByteArray.empty t127 x7_1) t139 _ A24.out).mono ?_); rintro e w27 ⟨rfl, hb⟩; have n0_ := Aside0.mk (Kd.R_below (by (with_reducible repeat (first | apply Kd.R_alloc | apply Kd.R_drewN | apply Kd.R_drew)); exact HO_6.out) hb); have n1_ := Aside0.mk (below_step (by repeat (first | (with_reducible first | exact HB.out | apply below_alloc | apply pw_below_drewN | apply below_drew1) | exact HB.out)) hb); clear HO_6; clear HB; have HO_6 := n0_; have HB := n1_; clear n0_ n1_; (try clear hb); (try clear hb2); (try clear hk); (try clear hi)))
                                  repeat (go_quiet (first | (go_at_call 12; (with_reducible refine (num_Floaty.calls k1 (rdOf ByteArray.empty t127 x7_1) t139 _ A24.out).mono ?_); rintro e w27 ⟨rfl, hb⟩; have n0_ := Aside0.mk (Kd.R_below (by (with_reducible repeat (first | apply Kd.R_alloc | apply Kd.R_drewN | apply Kd.R_drew)); exact HO_6.out) hb); have n1_ := Aside0.mk (below_step (by repeat (first | (with_reducible first | exact HB.out | apply below_alloc | apply pw_below_drewN | apply below_drew1) | exact HB.out)) hb); clear HO_6; clear HB; have HO_6 := n0_; have HB := n1_; clear n0_ n1_; (try clear hb); (try clear hb2); (try clear hk); (try clear hi))); try go_wp2_with (first | (go_at_call 12; (with_reducible refine (num_Floaty.calls k1 (rdOf ByteArray.empty t127 x7_1) t139 _ A24.out).mono ?_); rintro e w27 ⟨rfl, hb⟩; have n0_ := Aside0.mk (Kd.R_below (by (with_reducible repeat (first | apply Kd.R_alloc | apply Kd.R_drewN | apply Kd.R_drew)); exact HO_6.out) hb); have n1_ := Aside0.mk (below_step (by repeat (first | (with_reducible first | exact HB.out | apply below_alloc | apply pw_below_drewN | apply below_drew1) | exact HB.out)) hb); clear HO_6; clear HB; have HO_6 := n0_; have HB := n1_; clear n0_ n1_; (try clear hb); (try clear hb2); (try clear hk); (try clear hi))))
                                  go_meet
                                  case rel => exact ⟨_, ((t139 != true)), (by first | rfl | (simp; done) | (simp [*]; done)), H', ⟨by have := HK1.out; first | omega | exact Nat.le_refl _⟩, ⟨by (with_reducible repeat (first | apply Kd.R_alloc | apply Kd.R_drewN | apply Kd.R_drew)); exact HO_6.out⟩, ⟨by repeat (first | (with_reducible first | exact HB.out | apply below_alloc | apply pw_below_drewN | apply below_drew1) | exact HB.out)⟩⟩
                                · rw [if_neg c26] at H
                                  have c26b0 : decide (x7_1 ≤ 10) = false := decide_eq_false c26
                                  clear c26
                                  have H' := Aside0.mk H
                                  clear H
                                  have p137 : 0 ≤ (x7_1 : Int) := of_decide_eq_true (by first | (with_reducible assumption) | assumption)
                                  have q137 : x7_1 < (t127.length : Int) := of_decide_eq_true (by first | (with_reducible assumption) | assumption)
                                  obtain ⟨ad137, e137, hx137_0⟩ := Kd.at_string (Kd.R_reads' HO_6.out).2.2 x7_1 p137 q137
                                  obtain rfl : ad130 = ad137 := (by injection e137)
                                  replace p137 := eq_true p137
                                  replace q137 := eq_true q137
                                  have p138 : 0 ≤ (x7_1 : Int) := of_decide_eq_true (by first | (with_reducible assumption) | assumption)
                                  have q138 : x7_1 < (t127.length : Int) := of_decide_eq_true (by first | (with_reducible assumption) | assumption)
                                  obtain ⟨ad138, e138, hx138_0⟩ := Kd.at_string (Kd.R_reads' HO_6.out).2.2 x7_1 p138 q138
                                  obtain rfl : ad130 = ad138 := (by injection e138)
                                  replace p138 := eq_true p138
                                  replace q138 := eq_true q138
                                  go_wp2_with (first | (go_at_call 12; (with_reducible refine (num_Floaty.calls k1 (rdOf ByteArray.empty t127 x7_1) t139 _ A24.out).mono ?_); rintro e w28 ⟨rfl, hb⟩; have n0_ := Aside0.mk (Kd.R_below (by (with_reducible repeat (first | apply Kd.R_alloc | apply Kd.R_drewN | apply Kd.R_drew)); exact HO_6.out) hb); have n1_ := Aside0.mk (below_step (by repeat (first | (with_reducible first | exact HB.out | apply below_alloc | apply pw_below_drewN | apply below_drew1) | exact HB.out)) hb); clear HO_6; clear HB; have HO_6 := n0_; have HB := n1_; clear n0_ n1_; (try clear hb); (try clear hb2); (try clear hk); (try clear hi); have p140 : 0 ≤ (x7_1 : Int) := of_decide_eq_true (by first | (with_reducible assumption) | assumption); have q140 : x7_1 < (t127.length : Int) := of_decide_eq_true (by first | (with_reducible assumption) | assumption); obtain ⟨ad140, e140, hx140_0⟩ := Kd.at_string (Kd.R_reads' HO_6.out).2.2 x7_1 p140 q140; obtain rfl : ad130 = ad140 := (by injection e140); replace p140 := eq_true p140; replace q140 := eq_true q140))
                                  repeat (go_quiet (first | (go_at_call 12; (with_reducible refine (num_Floaty.calls k1 (rdOf ByteArray.empty t127 x7_1) t139 _ A24.out).mono ?_); rintro e w28 ⟨rfl, hb⟩; have n0_ := Aside0.mk (Kd.R_below (by (with_reducible repeat (first | apply Kd.R_alloc | apply Kd.R_drewN | apply Kd.R_drew)); exact HO_6.out) hb); have n1_ := Aside0.mk (below_step (by repeat (first | (with_reducible first | exact HB.out | apply below_alloc | apply pw_below_drewN | apply below_drew1) | exact HB.out)) hb); clear HO_6; clear HB; have HO_6 := n0_; have HB := n1_; clear n0_ n1_; (try clear hb); (try clear hb2); (try clear hk); (try clear hi); have p140 : 0 ≤ (x7_1 : Int) := of_decide_eq_true (by first | (with_reducible assumption) | assumption); have q140 : x7_1 < (t127.length : Int) := of_decide_eq_true (by first | (with_reducible assumption) | assumption); obtain ⟨ad140, e140, hx140_0⟩ := Kd.at_string (Kd.R_reads' HO_6.out).2.2 x7_1 p140 q140; obtain rfl : ad130 = ad140 := (by injection e140); replace p140 := eq_true p140; replace q140 := eq_true q140)); try go_wp2_with (first | (go_at_call 12; (with_reducible refine (num_Floaty.calls k1 (rdOf ByteArray.empty t127 x7_1) t139 _ A24.out).mono ?_); rintro e w28 ⟨rfl, hb⟩; have n0_ := Aside0.mk (Kd.R_below (by (with_reducible repeat (first | apply Kd.R_alloc | apply Kd.R_drewN | apply Kd.R_drew)); exact HO_6.out) hb); have n1_ := Aside0.mk (below_step (by repeat (first | (with_reducible first | exact HB.out | apply below_alloc | apply pw_below_drewN | apply below_drew1) | exact HB.out)) hb); clear HO_6; clear HB; have HO_6 := n0_; have HB := n1_; clear n0_ n1_; (try clear hb); (try clear hb2); (try clear hk); (try clear hi); have p140 : 0 ≤ (x7_1 : Int) := of_decide_eq_true (by first | (with_reducible assumption) | assumption); have q140 : x7_1 < (t127.length : Int) := of_decide_eq_true (by first | (with_reducible assumption) | assumption); obtain ⟨ad140, e140, hx140_0⟩ := Kd.at_string (Kd.R_reads' HO_6.out).2.2 x7_1 p140 q140; obtain rfl : ad130 = ad140 := (by injection e140); replace p140 := eq_true p140; replace q140 := eq_true q140)))
                                  go_meet
                                  case rel => exact ⟨_, ((t139 != ((rdOf ByteArray.empty t127 x7_1).toList == ([102, 108, 111, 97, 116] : List UInt8)))), (by first | rfl | (simp; done) | (simp [*]; done)), H', ⟨by have := HK1.out; first | omega | exact Nat.le_refl _⟩, ⟨by (with_reducible repeat (first | apply Kd.R_alloc | apply Kd.R_drewN | apply Kd.R_drew)); exact HO_6.out⟩, ⟨by repeat (first | (with_reducible first | exact HB.out | apply below_alloc | apply pw_below_drewN | apply below_drew1) | exact HB.out)⟩⟩
                              · rw [if_neg c25] at H
                                have c25b0 : decide (7 ≤ x7_1) = false := decide_eq_false c25
                                clear c25
                                have H' := Aside0.mk H
                                clear H
                                have p137 : 0 ≤ (x7_1 : Int) := of_decide_eq_true (by first | (with_reducible assumption) | assumption)
                                have q137 : x7_1 < (t127.length : Int) := of_decide_eq_true (by first | (with_reducible assumption) | assumption)
                                obtain ⟨ad137, e137, hx137_0⟩ := Kd.at_string (Kd.R_reads' HO_6.out).2.2 x7_1 p137 q137
                                obtain rfl : ad130 = ad137 := (by injection e137)
                                replace p137 := eq_true p137
                                replace q137 := eq_true q137
                                have p138 : 0 ≤ (x7_1 : Int) := of_decide_eq_true (by first | (with_reducible assumption) | assumption)
                                have q138 : x7_1 < (t127.length : Int) := of_decide_eq_true (by first | (with_reducible assumption) | assumption)
                                obtain ⟨ad138, e138, hx138_0⟩ := Kd.at_string (Kd.R_reads' HO_6.out).2.2 x7_1 p138 q138
                                obtain rfl : ad130 = ad138 := (by injection e138)
                                replace p138 := eq_true p138
                                replace q138 := eq_true q138
                                go_wp2_with (first | (go_at_call 12; (with_reducible refine (num_Floaty.calls k1 (rdOf ByteArray.empty t127 x7_1) t139 _ A24.out).mono ?_); rintro e w29 ⟨rfl, hb⟩; have n0_ := Aside0.mk (Kd.R_below (by (with_reducible repeat (first | apply Kd.R_alloc | apply Kd.R_drewN | apply Kd.R_drew)); exact HO_6.out) hb); have n1_ := Aside0.mk (below_step (by repeat (first | (with_reducible first | exact HB.out | apply below_alloc | apply pw_below_drewN | apply below_drew1) | exact HB.out)) hb); clear HO_6; clear HB; have HO_6 := n0_; have HB := n1_; clear n0_ n1_; (try clear hb); (try clear hb2); (try clear hk); (try clear hi); have p141 : 0 ≤ (x7_1 : Int) := of_decide_eq_true (by first | (with_reducible assumption) | assumption); have q141 : x7_1 < (t127.length : Int) := of_decide_eq_true (by first | (with_reducible assumption) | assumption); obtain ⟨ad141, e141, hx141_0⟩ := Kd.at_string (Kd.R_reads' HO_6.out).2.2 x7_1 p141 q141; obtain rfl : ad130 = ad141 := (by injection e141); replace p141 := eq_true p141; replace q141 := eq_true q141))
                                repeat (go_quiet (first | (go_at_call 12; (with_reducible refine (num_Floaty.calls k1 (rdOf ByteArray.empty t127 x7_1) t139 _ A24.out).mono ?_); rintro e w29 ⟨rfl, hb⟩; have n0_ := Aside0.mk (Kd.R_below (by (with_reducible repeat (first | apply Kd.R_alloc | apply Kd.R_drewN | apply Kd.R_drew)); exact HO_6.out) hb); have n1_ := Aside0.mk (below_step (by repeat (first | (with_reducible first | exact HB.out | apply below_alloc | apply pw_below_drewN | apply below_drew1) | exact HB.out)) hb); clear HO_6; clear HB; have HO_6 := n0_; have HB := n1_; clear n0_ n1_; (try clear hb); (try clear hb2); (try clear hk); (try clear hi); have p141 : 0 ≤ (x7_1 : Int) := of_decide_eq_true (by first | (with_reducible assumption) | assumption); have q141 : x7_1 < (t127.length : Int) := of_decide_eq_true (by first | (with_reducible assumption) | assumption); obtain ⟨ad141, e141, hx141_0⟩ := Kd.at_string (Kd.R_reads' HO_6.out).2.2 x7_1 p141 q141; obtain rfl : ad130 = ad141 := (by injection e141); replace p141 := eq_true p141; replace q141 := eq_true q141)); try go_wp2_with (first | (go_at_call 12; (with_reducible refine (num_Floaty.calls k1 (rdOf ByteArray.empty t127 x7_1) t139 _ A24.out).mono ?_); rintro e w29 ⟨rfl, hb⟩; have n0_ := Aside0.mk (Kd.R_below (by (with_reducible repeat (first | apply Kd.R_alloc | apply Kd.R_drewN | apply Kd.R_drew)); exact HO_6.out) hb); have n1_ := Aside0.mk (below_step (by repeat (first | (with_reducible first | exact HB.out | apply below_alloc | apply pw_below_drewN | apply below_drew1) | exact HB.out)) hb); clear HO_6; clear HB; have HO_6 := n0_; have HB := n1_; clear n0_ n1_; (try clear hb); (try clear hb2); (try clear hk); (try clear hi); have p141 : 0 ≤ (x7_1 : Int) := of_decide_eq_true (by first | (with_reducible assumption) | assumption); have q141 : x7_1 < (t127.length : Int) := of_decide_eq_true (by first | (with_reducible assumption) | assumption); obtain ⟨ad141, e141, hx141_0⟩ := Kd.at_string (Kd.R_reads' HO_6.out).2.2 x7_1 p141 q141; obtain rfl : ad130 = ad141 := (by injection e141); replace p141 := eq_true p141; replace q141 := eq_true q141)))
                                go_meet
                                case rel => exact ⟨_, ((t139 != ((rdOf ByteArray.empty t127 x7_1).toList == ([102, 108, 111, 97, 116] : List UInt8)))), (by first | rfl | (simp; done) | (simp [*]; done)), H', ⟨by have := HK1.out; first | omega | exact Nat.le_refl _⟩, ⟨by (with_reducible repeat (first | apply Kd.R_alloc | apply Kd.R_drewN | apply Kd.R_drew)); exact HO_6.out⟩, ⟨by repeat (first | (with_reducible first | exact HB.out | apply below_alloc | apply pw_below_drewN | apply below_drew1) | exact HB.out)⟩⟩
                            · rw [if_neg c23] at H
                              have c23b0 : (t135 == 0) = false := beq_eq_false_iff_ne.mpr c23
                              have c23b1 : (t135 != 0) = true := bne_iff_ne.mpr c23
                              by_cases c30 : a1 = 0
                              · rw [if_pos c30] at H
                                have c30b0 : (a1 == 0) = true := beq_iff_eq.mpr c30
                                have c30b1 : (a1 != 0) = false := bne_eq_false_iff_eq.mpr c30
                                clear c30
                                by_cases c31 : (rdOf ByteArray.empty t127 x7_1).toList = ([100, 105, 118] : List UInt8)
                                · rw [if_pos c31] at H
                                  have c31b0 : ((rdOf ByteArray.empty t127 x7_1).toList == ([100, 105, 118] : List UInt8)) = true := beq_iff_eq.mpr c31
                                  have c31b1 : ((rdOf ByteArray.empty t127 x7_1).toList != ([100, 105, 118] : List UInt8)) = false := bne_eq_false_iff_eq.mpr c31
                                  clear c31
                                  replace H := Option.bind_eq_some_iff.mp H
                                  obtain ⟨t144, A320, H⟩ := H
                                  replace H : (if x7_1 ≥ 7 then (if x7_1 ≤ 10 then (gristmilllaw2_NumWords.j1 k1 a0 a1 true t127 x7_1 (t144 != true)) else (gristmilllaw2_NumWords.j1 k1 a0 a1 true t127 x7_1 (t144 != ((rdOf ByteArray.empty t127 x7_1).toList == ([102, 108, 111, 97, 116] : List UInt8))))) else (gristmilllaw2_NumWords.j1 k1 a0 a1 true t127 x7_1 (t144 != ((rdOf ByteArray.empty t127 x7_1).toList == ([102, 108, 111, 97, 116] : List UInt8))))) = some r := H
                                  have A32 := Aside0.mk A320
                                  clear A320
                                  by_cases c33 : x7_1 ≥ 7
                                  · rw [if_pos c33] at H
                                    have c33b0 : decide (7 ≤ x7_1) = true := decide_eq_true c33
                                    clear c33
                                    by_cases c34 : x7_1 ≤ 10
                                    · rw [if_pos c34] at H
                                      have c34b0 : decide (x7_1 ≤ 10) = true := decide_eq_true c34
                                      clear c34
                                      have H' := Aside0.mk H
                                      clear H
                                      have p137 : 0 ≤ (x7_1 : Int) := of_decide_eq_true (by first | (with_reducible assumption) | assumption)
                                      have q137 : x7_1 < (t127.length : Int) := of_decide_eq_true (by first | (with_reducible assumption) | assumption)
                                      obtain ⟨ad137, e137, hx137_0⟩ := Kd.at_string (Kd.R_reads' HO_6.out).2.2 x7_1 p137 q137
                                      obtain rfl : ad130 = ad137 := (by injection e137)
                                      replace p137 := eq_true p137
                                      replace q137 := eq_true q137
                                      have p142 : 0 ≤ (x7_1 : Int) := of_decide_eq_true (by first | (with_reducible assumption) | assumption)
                                      have q142 : x7_1 < (t127.length : Int) := of_decide_eq_true (by first | (with_reducible assumption) | assumption)
                                      obtain ⟨ad142, e142, hx142_0⟩ := Kd.at_string (Kd.R_reads' HO_6.out).2.2 x7_1 p142 q142
                                      obtain rfl : ad130 = ad142 := (by injection e142)
                                      replace p142 := eq_true p142
                                      replace q142 := eq_true q142
                                      have p143 : 0 ≤ (x7_1 : Int) := of_decide_eq_true (by first | (with_reducible assumption) | assumption)
                                      have q143 : x7_1 < (t127.length : Int) := of_decide_eq_true (by first | (with_reducible assumption) | assumption)
                                      obtain ⟨ad143, e143, hx143_0⟩ := Kd.at_string (Kd.R_reads' HO_6.out).2.2 x7_1 p143 q143
                                      obtain rfl : ad130 = ad143 := (by injection e143)
                                      replace p143 := eq_true p143
                                      replace q143 := eq_true q143
                                      go_wp2_with (first | (go_at_call 12; (with_reducible refine (num_Floaty.calls k1 (rdOf ByteArray.empty t127 x7_1) t144 _ A32.out).mono ?_); rintro e w35 ⟨rfl, hb⟩; have n0_ := Aside0.mk (Kd.R_below (by (with_reducible repeat (first | apply Kd.R_alloc | apply Kd.R_drewN | apply Kd.R_drew)); exact HO_6.out) hb); have n1_ := Aside0.mk (below_step (by repeat (first | (with_reducible first | exact HB.out | apply below_alloc | apply pw_below_drewN | apply below_drew1) | exact HB.out)) hb); clear HO_6; clear HB; have HO_6 := n0_; have HB := n1_; clear n0_ n1_; (try clear hb); (try clear hb2); (try clear hk); (try clear hi)))
                                      repeat (go_quiet (first | (go_at_call 12; (with_reducible refine (num_Floaty.calls k1 (rdOf ByteArray.empty t127 x7_1) t144 _ A32.out).mono ?_); rintro e w35 ⟨rfl, hb⟩; have n0_ := Aside0.mk (Kd.R_below (by (with_reducible repeat (first | apply Kd.R_alloc | apply Kd.R_drewN | apply Kd.R_drew)); exact HO_6.out) hb); have n1_ := Aside0.mk (below_step (by repeat (first | (with_reducible first | exact HB.out | apply below_alloc | apply pw_below_drewN | apply below_drew1) | exact HB.out)) hb); clear HO_6; clear HB; have HO_6 := n0_; have HB := n1_; clear n0_ n1_; (try clear hb); (try clear hb2); (try clear hk); (try clear hi))); try go_wp2_with (first | (go_at_call 12; (with_reducible refine (num_Floaty.calls k1 (rdOf ByteArray.empty t127 x7_1) t144 _ A32.out).mono ?_); rintro e w35 ⟨rfl, hb⟩; have n0_ := Aside0.mk (Kd.R_below (by (with_reducible repeat (first | apply Kd.R_alloc | apply Kd.R_drewN | apply Kd.R_drew)); exact HO_6.out) hb); have n1_ := Aside0.mk (below_step (by repeat (first | (with_reducible first | exact HB.out | apply below_alloc | apply pw_below_drewN | apply below_drew1) | exact HB.out)) hb); clear HO_6; clear HB; have HO_6 := n0_; have HB := n1_; clear n0_ n1_; (try clear hb); (try clear hb2); (try clear hk); (try clear hi))))
                                      go_meet
                                      case rel => exact ⟨_, ((t144 != true)), (by first | rfl | (simp; done) | (simp [*]; done)), H', ⟨by have := HK1.out; first | omega | exact Nat.le_refl _⟩, ⟨by (with_reducible repeat (first | apply Kd.R_alloc | apply Kd.R_drewN | apply Kd.R_drew)); exact HO_6.out⟩, ⟨by repeat (first | (with_reducible first | exact HB.out | apply below_alloc | apply pw_below_drewN | apply below_drew1) | exact HB.out)⟩⟩
                                    · rw [if_neg c34] at H
                                      have c34b0 : decide (x7_1 ≤ 10) = false := decide_eq_false c34
                                      clear c34
                                      have H' := Aside0.mk H
                                      clear H
                                      have p137 : 0 ≤ (x7_1 : Int) := of_decide_eq_true (by first | (with_reducible assumption) | assumption)
                                      have q137 : x7_1 < (t127.length : Int) := of_decide_eq_true (by first | (with_reducible assumption) | assumption)
                                      obtain ⟨ad137, e137, hx137_0⟩ := Kd.at_string (Kd.R_reads' HO_6.out).2.2 x7_1 p137 q137
                                      obtain rfl : ad130 = ad137 := (by injection e137)
                                      replace p137 := eq_true p137
                                      replace q137 := eq_true q137
                                      have p142 : 0 ≤ (x7_1 : Int) := of_decide_eq_true (by first | (with_reducible assumption) | assumption)
                                      have q142 : x7_1 < (t127.length : Int) := of_decide_eq_true (by first | (with_reducible assumption) | assumption)
                                      obtain ⟨ad142, e142, hx142_0⟩ := Kd.at_string (Kd.R_reads' HO_6.out).2.2 x7_1 p142 q142
                                      obtain rfl : ad130 = ad142 := (by injection e142)
                                      replace p142 := eq_true p142
                                      replace q142 := eq_true q142
                                      have p143 : 0 ≤ (x7_1 : Int) := of_decide_eq_true (by first | (with_reducible assumption) | assumption)
                                      have q143 : x7_1 < (t127.length : Int) := of_decide_eq_true (by first | (with_reducible assumption) | assumption)
                                      obtain ⟨ad143, e143, hx143_0⟩ := Kd.at_string (Kd.R_reads' HO_6.out).2.2 x7_1 p143 q143
                                      obtain rfl : ad130 = ad143 := (by injection e143)
                                      replace p143 := eq_true p143
                                      replace q143 := eq_true q143
                                      go_wp2_with (first | (go_at_call 12; (with_reducible refine (num_Floaty.calls k1 (rdOf ByteArray.empty t127 x7_1) t144 _ A32.out).mono ?_); rintro e w36 ⟨rfl, hb⟩; have n0_ := Aside0.mk (Kd.R_below (by (with_reducible repeat (first | apply Kd.R_alloc | apply Kd.R_drewN | apply Kd.R_drew)); exact HO_6.out) hb); have n1_ := Aside0.mk (below_step (by repeat (first | (with_reducible first | exact HB.out | apply below_alloc | apply pw_below_drewN | apply below_drew1) | exact HB.out)) hb); clear HO_6; clear HB; have HO_6 := n0_; have HB := n1_; clear n0_ n1_; (try clear hb); (try clear hb2); (try clear hk); (try clear hi); have p145 : 0 ≤ (x7_1 : Int) := of_decide_eq_true (by first | (with_reducible assumption) | assumption); have q145 : x7_1 < (t127.length : Int) := of_decide_eq_true (by first | (with_reducible assumption) | assumption); obtain ⟨ad145, e145, hx145_0⟩ := Kd.at_string (Kd.R_reads' HO_6.out).2.2 x7_1 p145 q145; obtain rfl : ad130 = ad145 := (by injection e145); replace p145 := eq_true p145; replace q145 := eq_true q145))
                                      repeat (go_quiet (first | (go_at_call 12; (with_reducible refine (num_Floaty.calls k1 (rdOf ByteArray.empty t127 x7_1) t144 _ A32.out).mono ?_); rintro e w36 ⟨rfl, hb⟩; have n0_ := Aside0.mk (Kd.R_below (by (with_reducible repeat (first | apply Kd.R_alloc | apply Kd.R_drewN | apply Kd.R_drew)); exact HO_6.out) hb); have n1_ := Aside0.mk (below_step (by repeat (first | (with_reducible first | exact HB.out | apply below_alloc | apply pw_below_drewN | apply below_drew1) | exact HB.out)) hb); clear HO_6; clear HB; have HO_6 := n0_; have HB := n1_; clear n0_ n1_; (try clear hb); (try clear hb2); (try clear hk); (try clear hi); have p145 : 0 ≤ (x7_1 : Int) := of_decide_eq_true (by first | (with_reducible assumption) | assumption); have q145 : x7_1 < (t127.length : Int) := of_decide_eq_true (by first | (with_reducible assumption) | assumption); obtain ⟨ad145, e145, hx145_0⟩ := Kd.at_string (Kd.R_reads' HO_6.out).2.2 x7_1 p145 q145; obtain rfl : ad130 = ad145 := (by injection e145); replace p145 := eq_true p145; replace q145 := eq_true q145)); try go_wp2_with (first | (go_at_call 12; (with_reducible refine (num_Floaty.calls k1 (rdOf ByteArray.empty t127 x7_1) t144 _ A32.out).mono ?_); rintro e w36 ⟨rfl, hb⟩; have n0_ := Aside0.mk (Kd.R_below (by (with_reducible repeat (first | apply Kd.R_alloc | apply Kd.R_drewN | apply Kd.R_drew)); exact HO_6.out) hb); have n1_ := Aside0.mk (below_step (by repeat (first | (with_reducible first | exact HB.out | apply below_alloc | apply pw_below_drewN | apply below_drew1) | exact HB.out)) hb); clear HO_6; clear HB; have HO_6 := n0_; have HB := n1_; clear n0_ n1_; (try clear hb); (try clear hb2); (try clear hk); (try clear hi); have p145 : 0 ≤ (x7_1 : Int) := of_decide_eq_true (by first | (with_reducible assumption) | assumption); have q145 : x7_1 < (t127.length : Int) := of_decide_eq_true (by first | (with_reducible assumption) | assumption); obtain ⟨ad145, e145, hx145_0⟩ := Kd.at_string (Kd.R_reads' HO_6.out).2.2 x7_1 p145 q145; obtain rfl : ad130 = ad145 := (by injection e145); replace p145 := eq_true p145; replace q145 := eq_true q145)))
                                      go_meet
                                      case rel => exact ⟨_, ((t144 != ((rdOf ByteArray.empty t127 x7_1).toList == ([102, 108, 111, 97, 116] : List UInt8)))), (by first | rfl | (simp; done) | (simp [*]; done)), H', ⟨by have := HK1.out; first | omega | exact Nat.le_refl _⟩, ⟨by (with_reducible repeat (first | apply Kd.R_alloc | apply Kd.R_drewN | apply Kd.R_drew)); exact HO_6.out⟩, ⟨by repeat (first | (with_reducible first | exact HB.out | apply below_alloc | apply pw_below_drewN | apply below_drew1) | exact HB.out)⟩⟩
                                  · rw [if_neg c33] at H
                                    have c33b0 : decide (7 ≤ x7_1) = false := decide_eq_false c33
                                    clear c33
                                    have H' := Aside0.mk H
                                    clear H
                                    have p137 : 0 ≤ (x7_1 : Int) := of_decide_eq_true (by first | (with_reducible assumption) | assumption)
                                    have q137 : x7_1 < (t127.length : Int) := of_decide_eq_true (by first | (with_reducible assumption) | assumption)
                                    obtain ⟨ad137, e137, hx137_0⟩ := Kd.at_string (Kd.R_reads' HO_6.out).2.2 x7_1 p137 q137
                                    obtain rfl : ad130 = ad137 := (by injection e137)
                                    replace p137 := eq_true p137
                                    replace q137 := eq_true q137
                                    have p142 : 0 ≤ (x7_1 : Int) := of_decide_eq_true (by first | (with_reducible assumption) | assumption)
                                    have q142 : x7_1 < (t127.length : Int) := of_decide_eq_true (by first | (with_reducible assumption) | assumption)
                                    obtain ⟨ad142, e142, hx142_0⟩ := Kd.at_string (Kd.R_reads' HO_6.out).2.2 x7_1 p142 q142
                                    obtain rfl : ad130 = ad142 := (by injection e142)
                                    replace p142 := eq_true p142
                                    replace q142 := eq_true q142
                                    have p143 : 0 ≤ (x7_1 : Int) := of_decide_eq_true (by first | (with_reducible assumption) | assumption)
                                    have q143 : x7_1 < (t127.length : Int) := of_decide_eq_true (by first | (with_reducible assumption) | assumption)
                                    obtain ⟨ad143, e143, hx143_0⟩ := Kd.at_string (Kd.R_reads' HO_6.out).2.2 x7_1 p143 q143
                                    obtain rfl : ad130 = ad143 := (by injection e143)
                                    replace p143 := eq_true p143
                                    replace q143 := eq_true q143
                                    go_wp2_with (first | (go_at_call 12; (with_reducible refine (num_Floaty.calls k1 (rdOf ByteArray.empty t127 x7_1) t144 _ A32.out).mono ?_); rintro e w37 ⟨rfl, hb⟩; have n0_ := Aside0.mk (Kd.R_below (by (with_reducible repeat (first | apply Kd.R_alloc | apply Kd.R_drewN | apply Kd.R_drew)); exact HO_6.out) hb); have n1_ := Aside0.mk (below_step (by repeat (first | (with_reducible first | exact HB.out | apply below_alloc | apply pw_below_drewN | apply below_drew1) | exact HB.out)) hb); clear HO_6; clear HB; have HO_6 := n0_; have HB := n1_; clear n0_ n1_; (try clear hb); (try clear hb2); (try clear hk); (try clear hi); have p146 : 0 ≤ (x7_1 : Int) := of_decide_eq_true (by first | (with_reducible assumption) | assumption); have q146 : x7_1 < (t127.length : Int) := of_decide_eq_true (by first | (with_reducible assumption) | assumption); obtain ⟨ad146, e146, hx146_0⟩ := Kd.at_string (Kd.R_reads' HO_6.out).2.2 x7_1 p146 q146; obtain rfl : ad130 = ad146 := (by injection e146); replace p146 := eq_true p146; replace q146 := eq_true q146))
                                    repeat (go_quiet (first | (go_at_call 12; (with_reducible refine (num_Floaty.calls k1 (rdOf ByteArray.empty t127 x7_1) t144 _ A32.out).mono ?_); rintro e w37 ⟨rfl, hb⟩; have n0_ := Aside0.mk (Kd.R_below (by (with_reducible repeat (first | apply Kd.R_alloc | apply Kd.R_drewN | apply Kd.R_drew)); exact HO_6.out) hb); have n1_ := Aside0.mk (below_step (by repeat (first | (with_reducible first | exact HB.out | apply below_alloc | apply pw_below_drewN | apply below_drew1) | exact HB.out)) hb); clear HO_6; clear HB; have HO_6 := n0_; have HB := n1_; clear n0_ n1_; (try clear hb); (try clear hb2); (try clear hk); (try clear hi); have p146 : 0 ≤ (x7_1 : Int) := of_decide_eq_true (by first | (with_reducible assumption) | assumption); have q146 : x7_1 < (t127.length : Int) := of_decide_eq_true (by first | (with_reducible assumption) | assumption); obtain ⟨ad146, e146, hx146_0⟩ := Kd.at_string (Kd.R_reads' HO_6.out).2.2 x7_1 p146 q146; obtain rfl : ad130 = ad146 := (by injection e146); replace p146 := eq_true p146; replace q146 := eq_true q146)); try go_wp2_with (first | (go_at_call 12; (with_reducible refine (num_Floaty.calls k1 (rdOf ByteArray.empty t127 x7_1) t144 _ A32.out).mono ?_); rintro e w37 ⟨rfl, hb⟩; have n0_ := Aside0.mk (Kd.R_below (by (with_reducible repeat (first | apply Kd.R_alloc | apply Kd.R_drewN | apply Kd.R_drew)); exact HO_6.out) hb); have n1_ := Aside0.mk (below_step (by repeat (first | (with_reducible first | exact HB.out | apply below_alloc | apply pw_below_drewN | apply below_drew1) | exact HB.out)) hb); clear HO_6; clear HB; have HO_6 := n0_; have HB := n1_; clear n0_ n1_; (try clear hb); (try clear hb2); (try clear hk); (try clear hi); have p146 : 0 ≤ (x7_1 : Int) := of_decide_eq_true (by first | (with_reducible assumption) | assumption); have q146 : x7_1 < (t127.length : Int) := of_decide_eq_true (by first | (with_reducible assumption) | assumption); obtain ⟨ad146, e146, hx146_0⟩ := Kd.at_string (Kd.R_reads' HO_6.out).2.2 x7_1 p146 q146; obtain rfl : ad130 = ad146 := (by injection e146); replace p146 := eq_true p146; replace q146 := eq_true q146)))
                                    go_meet
                                    case rel => exact ⟨_, ((t144 != ((rdOf ByteArray.empty t127 x7_1).toList == ([102, 108, 111, 97, 116] : List UInt8)))), (by first | rfl | (simp; done) | (simp [*]; done)), H', ⟨by have := HK1.out; first | omega | exact Nat.le_refl _⟩, ⟨by (with_reducible repeat (first | apply Kd.R_alloc | apply Kd.R_drewN | apply Kd.R_drew)); exact HO_6.out⟩, ⟨by repeat (first | (with_reducible first | exact HB.out | apply below_alloc | apply pw_below_drewN | apply below_drew1) | exact HB.out)⟩⟩
                                · rw [if_neg c31] at H
                                  have c31b0 : ((rdOf ByteArray.empty t127 x7_1).toList == ([100, 105, 118] : List UInt8)) = false := beq_eq_false_iff_ne.mpr c31
                                  have c31b1 : ((rdOf ByteArray.empty t127 x7_1).toList != ([100, 105, 118] : List UInt8)) = true := bne_iff_ne.mpr c31
                                  by_cases c38 : (rdOf ByteArray.empty t127 x7_1).toList = ([109, 111, 100] : List UInt8)
                                  · rw [if_pos c38] at H
                                    have c38b0 : ((rdOf ByteArray.empty t127 x7_1).toList == ([109, 111, 100] : List UInt8)) = true := beq_iff_eq.mpr c38
                                    have c38b1 : ((rdOf ByteArray.empty t127 x7_1).toList != ([109, 111, 100] : List UInt8)) = false := bne_eq_false_iff_eq.mpr c38
                                    clear c38
                                    replace H := Option.bind_eq_some_iff.mp H
                                    obtain ⟨t149, A390, H⟩ := H
                                    replace H : (if x7_1 ≥ 7 then (if x7_1 ≤ 10 then (gristmilllaw2_NumWords.j1 k1 a0 a1 true t127 x7_1 (t149 != true)) else (gristmilllaw2_NumWords.j1 k1 a0 a1 true t127 x7_1 (t149 != ((rdOf ByteArray.empty t127 x7_1).toList == ([102, 108, 111, 97, 116] : List UInt8))))) else (gristmilllaw2_NumWords.j1 k1 a0 a1 true t127 x7_1 (t149 != ((rdOf ByteArray.empty t127 x7_1).toList == ([102, 108, 111, 97, 116] : List UInt8))))) = some r := H
                                    have A39 := Aside0.mk A390
                                    clear A390
                                    by_cases c40 : x7_1 ≥ 7
                                    · rw [if_pos c40] at H
                                      have c40b0 : decide (7 ≤ x7_1) = true := decide_eq_true c40
                                      clear c40
                                      by_cases c41 : x7_1 ≤ 10
                                      · rw [if_pos c41] at H
                                        have c41b0 : decide (x7_1 ≤ 10) = true := decide_eq_true c41
                                        clear c41
                                        have H' := Aside0.mk H
                                        clear H
                                        have p137 : 0 ≤ (x7_1 : Int) := of_decide_eq_true (by first | (with_reducible assumption) | assumption)
                                        have q137 : x7_1 < (t127.length : Int) := of_decide_eq_true (by first | (with_reducible assumption) | assumption)
                                        obtain ⟨ad137, e137, hx137_0⟩ := Kd.at_string (Kd.R_reads' HO_6.out).2.2 x7_1 p137 q137
                                        obtain rfl : ad130 = ad137 := (by injection e137)
                                        replace p137 := eq_true p137
                                        replace q137 := eq_true q137
                                        have p142 : 0 ≤ (x7_1 : Int) := of_decide_eq_true (by first | (with_reducible assumption) | assumption)
                                        have q142 : x7_1 < (t127.length : Int) := of_decide_eq_true (by first | (with_reducible assumption) | assumption)
                                        obtain ⟨ad142, e142, hx142_0⟩ := Kd.at_string (Kd.R_reads' HO_6.out).2.2 x7_1 p142 q142
                                        obtain rfl : ad130 = ad142 := (by injection e142)
                                        replace p142 := eq_true p142
                                        replace q142 := eq_true q142
                                        have p147 : 0 ≤ (x7_1 : Int) := of_decide_eq_true (by first | (with_reducible assumption) | assumption)
                                        have q147 : x7_1 < (t127.length : Int) := of_decide_eq_true (by first | (with_reducible assumption) | assumption)
                                        obtain ⟨ad147, e147, hx147_0⟩ := Kd.at_string (Kd.R_reads' HO_6.out).2.2 x7_1 p147 q147
                                        obtain rfl : ad130 = ad147 := (by injection e147)
                                        replace p147 := eq_true p147
                                        replace q147 := eq_true q147
                                        have p148 : 0 ≤ (x7_1 : Int) := of_decide_eq_true (by first | (with_reducible assumption) | assumption)
                                        have q148 : x7_1 < (t127.length : Int) := of_decide_eq_true (by first | (with_reducible assumption) | assumption)
                                        obtain ⟨ad148, e148, hx148_0⟩ := Kd.at_string (Kd.R_reads' HO_6.out).2.2 x7_1 p148 q148
                                        obtain rfl : ad130 = ad148 := (by injection e148)
                                        replace p148 := eq_true p148
                                        replace q148 := eq_true q148
                                        go_wp2_with (first | (go_at_call 12; (with_reducible refine (num_Floaty.calls k1 (rdOf ByteArray.empty t127 x7_1) t149 _ A39.out).mono ?_); rintro e w42 ⟨rfl, hb⟩; have n0_ := Aside0.mk (Kd.R_below (by (with_reducible repeat (first | apply Kd.R_alloc | apply Kd.R_drewN | apply Kd.R_drew)); exact HO_6.out) hb); have n1_ := Aside0.mk (below_step (by repeat (first | (with_reducible first | exact HB.out | apply below_alloc | apply pw_below_drewN | apply below_drew1) | exact HB.out)) hb); clear HO_6; clear HB; have HO_6 := n0_; have HB := n1_; clear n0_ n1_; (try clear hb); (try clear hb2); (try clear hk); (try clear hi)))
                                        repeat (go_quiet (first | (go_at_call 12; (with_reducible refine (num_Floaty.calls k1 (rdOf ByteArray.empty t127 x7_1) t149 _ A39.out).mono ?_); rintro e w42 ⟨rfl, hb⟩; have n0_ := Aside0.mk (Kd.R_below (by (with_reducible repeat (first | apply Kd.R_alloc | apply Kd.R_drewN | apply Kd.R_drew)); exact HO_6.out) hb); have n1_ := Aside0.mk (below_step (by repeat (first | (with_reducible first | exact HB.out | apply below_alloc | apply pw_below_drewN | apply below_drew1) | exact HB.out)) hb); clear HO_6; clear HB; have HO_6 := n0_; have HB := n1_; clear n0_ n1_; (try clear hb); (try clear hb2); (try clear hk); (try clear hi))); try go_wp2_with (first | (go_at_call 12; (with_reducible refine (num_Floaty.calls k1 (rdOf ByteArray.empty t127 x7_1) t149 _ A39.out).mono ?_); rintro e w42 ⟨rfl, hb⟩; have n0_ := Aside0.mk (Kd.R_below (by (with_reducible repeat (first | apply Kd.R_alloc | apply Kd.R_drewN | apply Kd.R_drew)); exact HO_6.out) hb); have n1_ := Aside0.mk (below_step (by repeat (first | (with_reducible first | exact HB.out | apply below_alloc | apply pw_below_drewN | apply below_drew1) | exact HB.out)) hb); clear HO_6; clear HB; have HO_6 := n0_; have HB := n1_; clear n0_ n1_; (try clear hb); (try clear hb2); (try clear hk); (try clear hi))))
                                        go_meet
                                        case rel => exact ⟨_, ((t149 != true)), (by first | rfl | (simp; done) | (simp [*]; done)), H', ⟨by have := HK1.out; first | omega | exact Nat.le_refl _⟩, ⟨by (with_reducible repeat (first | apply Kd.R_alloc | apply Kd.R_drewN | apply Kd.R_drew)); exact HO_6.out⟩, ⟨by repeat (first | (with_reducible first | exact HB.out | apply below_alloc | apply pw_below_drewN | apply below_drew1) | exact HB.out)⟩⟩
                                      · rw [if_neg c41] at H
                                        have c41b0 : decide (x7_1 ≤ 10) = false := decide_eq_false c41
                                        clear c41
                                        have H' := Aside0.mk H
                                        clear H
                                        have p137 : 0 ≤ (x7_1 : Int) := of_decide_eq_true (by first | (with_reducible assumption) | assumption)
                                        have q137 : x7_1 < (t127.length : Int) := of_decide_eq_true (by first | (with_reducible assumption) | assumption)
                                        obtain ⟨ad137, e137, hx137_0⟩ := Kd.at_string (Kd.R_reads' HO_6.out).2.2 x7_1 p137 q137
                                        obtain rfl : ad130 = ad137 := (by injection e137)
                                        replace p137 := eq_true p137
                                        replace q137 := eq_true q137
                                        have p142 : 0 ≤ (x7_1 : Int) := of_decide_eq_true (by first | (with_reducible assumption) | assumption)
                                        have q142 : x7_1 < (t127.length : Int) := of_decide_eq_true (by first | (with_reducible assumption) | assumption)
                                        obtain ⟨ad142, e142, hx142_0⟩ := Kd.at_string (Kd.R_reads' HO_6.out).2.2 x7_1 p142 q142
                                        obtain rfl : ad130 = ad142 := (by injection e142)
                                        replace p142 := eq_true p142
                                        replace q142 := eq_true q142
                                        have p147 : 0 ≤ (x7_1 : Int) := of_decide_eq_true (by first | (with_reducible assumption) | assumption)
                                        have q147 : x7_1 < (t127.length : Int) := of_decide_eq_true (by first | (with_reducible assumption) | assumption)
                                        obtain ⟨ad147, e147, hx147_0⟩ := Kd.at_string (Kd.R_reads' HO_6.out).2.2 x7_1 p147 q147
                                        obtain rfl : ad130 = ad147 := (by injection e147)
                                        replace p147 := eq_true p147
                                        replace q147 := eq_true q147
                                        have p148 : 0 ≤ (x7_1 : Int) := of_decide_eq_true (by first | (with_reducible assumption) | assumption)
                                        have q148 : x7_1 < (t127.length : Int) := of_decide_eq_true (by first | (with_reducible assumption) | assumption)
                                        obtain ⟨ad148, e148, hx148_0⟩ := Kd.at_string (Kd.R_reads' HO_6.out).2.2 x7_1 p148 q148
                                        obtain rfl : ad130 = ad148 := (by injection e148)
                                        replace p148 := eq_true p148
                                        replace q148 := eq_true q148
                                        go_wp2_with (first | (go_at_call 12; (with_reducible refine (num_Floaty.calls k1 (rdOf ByteArray.empty t127 x7_1) t149 _ A39.out).mono ?_); rintro e w43 ⟨rfl, hb⟩; have n0_ := Aside0.mk (Kd.R_below (by (with_reducible repeat (first | apply Kd.R_alloc | apply Kd.R_drewN | apply Kd.R_drew)); exact HO_6.out) hb); have n1_ := Aside0.mk (below_step (by repeat (first | (with_reducible first | exact HB.out | apply below_alloc | apply pw_below_drewN | apply below_drew1) | exact HB.out)) hb); clear HO_6; clear HB; have HO_6 := n0_; have HB := n1_; clear n0_ n1_; (try clear hb); (try clear hb2); (try clear hk); (try clear hi); have p150 : 0 ≤ (x7_1 : Int) := of_decide_eq_true (by first | (with_reducible assumption) | assumption); have q150 : x7_1 < (t127.length : Int) := of_decide_eq_true (by first | (with_reducible assumption) | assumption); obtain ⟨ad150, e150, hx150_0⟩ := Kd.at_string (Kd.R_reads' HO_6.out).2.2 x7_1 p150 q150; obtain rfl : ad130 = ad150 := (by injection e150); replace p150 := eq_true p150; replace q150 := eq_true q150))
                                        repeat (go_quiet (first | (go_at_call 12; (with_reducible refine (num_Floaty.calls k1 (rdOf ByteArray.empty t127 x7_1) t149 _ A39.out).mono ?_); rintro e w43 ⟨rfl, hb⟩; have n0_ := Aside0.mk (Kd.R_below (by (with_reducible repeat (first | apply Kd.R_alloc | apply Kd.R_drewN | apply Kd.R_drew)); exact HO_6.out) hb); have n1_ := Aside0.mk (below_step (by repeat (first | (with_reducible first | exact HB.out | apply below_alloc | apply pw_below_drewN | apply below_drew1) | exact HB.out)) hb); clear HO_6; clear HB; have HO_6 := n0_; have HB := n1_; clear n0_ n1_; (try clear hb); (try clear hb2); (try clear hk); (try clear hi); have p150 : 0 ≤ (x7_1 : Int) := of_decide_eq_true (by first | (with_reducible assumption) | assumption); have q150 : x7_1 < (t127.length : Int) := of_decide_eq_true (by first | (with_reducible assumption) | assumption); obtain ⟨ad150, e150, hx150_0⟩ := Kd.at_string (Kd.R_reads' HO_6.out).2.2 x7_1 p150 q150; obtain rfl : ad130 = ad150 := (by injection e150); replace p150 := eq_true p150; replace q150 := eq_true q150)); try go_wp2_with (first | (go_at_call 12; (with_reducible refine (num_Floaty.calls k1 (rdOf ByteArray.empty t127 x7_1) t149 _ A39.out).mono ?_); rintro e w43 ⟨rfl, hb⟩; have n0_ := Aside0.mk (Kd.R_below (by (with_reducible repeat (first | apply Kd.R_alloc | apply Kd.R_drewN | apply Kd.R_drew)); exact HO_6.out) hb); have n1_ := Aside0.mk (below_step (by repeat (first | (with_reducible first | exact HB.out | apply below_alloc | apply pw_below_drewN | apply below_drew1) | exact HB.out)) hb); clear HO_6; clear HB; have HO_6 := n0_; have HB := n1_; clear n0_ n1_; (try clear hb); (try clear hb2); (try clear hk); (try clear hi); have p150 : 0 ≤ (x7_1 : Int) := of_decide_eq_true (by first | (with_reducible assumption) | assumption); have q150 : x7_1 < (t127.length : Int) := of_decide_eq_true (by first | (with_reducible assumption) | assumption); obtain ⟨ad150, e150, hx150_0⟩ := Kd.at_string (Kd.R_reads' HO_6.out).2.2 x7_1 p150 q150; obtain rfl : ad130 = ad150 := (by injection e150); replace p150 := eq_true p150; replace q150 := eq_true q150)))
                                        go_meet
                                        case rel => exact ⟨_, ((t149 != ((rdOf ByteArray.empty t127 x7_1).toList == ([102, 108, 111, 97, 116] : List UInt8)))), (by first | rfl | (simp; done) | (simp [*]; done)), H', ⟨by have := HK1.out; first | omega | exact Nat.le_refl _⟩, ⟨by (with_reducible repeat (first | apply Kd.R_alloc | apply Kd.R_drewN | apply Kd.R_drew)); exact HO_6.out⟩, ⟨by repeat (first | (with_reducible first | exact HB.out | apply below_alloc | apply pw_below_drewN | apply below_drew1) | exact HB.out)⟩⟩
                                    · rw [if_neg c40] at H
                                      have c40b0 : decide (7 ≤ x7_1) = false := decide_eq_false c40
                                      clear c40
                                      have H' := Aside0.mk H
                                      clear H
                                      have p137 : 0 ≤ (x7_1 : Int) := of_decide_eq_true (by first | (with_reducible assumption) | assumption)
                                      have q137 : x7_1 < (t127.length : Int) := of_decide_eq_true (by first | (with_reducible assumption) | assumption)
                                      obtain ⟨ad137, e137, hx137_0⟩ := Kd.at_string (Kd.R_reads' HO_6.out).2.2 x7_1 p137 q137
                                      obtain rfl : ad130 = ad137 := (by injection e137)
                                      replace p137 := eq_true p137
                                      replace q137 := eq_true q137
                                      have p142 : 0 ≤ (x7_1 : Int) := of_decide_eq_true (by first | (with_reducible assumption) | assumption)
                                      have q142 : x7_1 < (t127.length : Int) := of_decide_eq_true (by first | (with_reducible assumption) | assumption)
                                      obtain ⟨ad142, e142, hx142_0⟩ := Kd.at_string (Kd.R_reads' HO_6.out).2.2 x7_1 p142 q142
                                      obtain rfl : ad130 = ad142 := (by injection e142)
                                      replace p142 := eq_true p142
                                      replace q142 := eq_true q142
                                      have p147 : 0 ≤ (x7_1 : Int) := of_decide_eq_true (by first | (with_reducible assumption) | assumption)
                                      have q147 : x7_1 < (t127.length : Int) := of_decide_eq_true (by first | (with_reducible assumption) | assumption)
                                      obtain ⟨ad147, e147, hx147_0⟩ := Kd.at_string (Kd.R_reads' HO_6.out).2.2 x7_1 p147 q147
                                      obtain rfl : ad130 = ad147 := (by injection e147)
                                      replace p147 := eq_true p147
                                      replace q147 := eq_true q147
                                      have p148 : 0 ≤ (x7_1 : Int) := of_decide_eq_true (by first | (with_reducible assumption) | assumption)
                                      have q148 : x7_1 < (t127.length : Int) := of_decide_eq_true (by first | (with_reducible assumption) | assumption)
                                      obtain ⟨ad148, e148, hx148_0⟩ := Kd.at_string (Kd.R_reads' HO_6.out).2.2 x7_1 p148 q148
                                      obtain rfl : ad130 = ad148 := (by injection e148)
                                      replace p148 := eq_true p148
                                      replace q148 := eq_true q148
                                      go_wp2_with (first | (go_at_call 12; (with_reducible refine (num_Floaty.calls k1 (rdOf ByteArray.empty t127 x7_1) t149 _ A39.out).mono ?_); rintro e w44 ⟨rfl, hb⟩; have n0_ := Aside0.mk (Kd.R_below (by (with_reducible repeat (first | apply Kd.R_alloc | apply Kd.R_drewN | apply Kd.R_drew)); exact HO_6.out) hb); have n1_ := Aside0.mk (below_step (by repeat (first | (with_reducible first | exact HB.out | apply below_alloc | apply pw_below_drewN | apply below_drew1) | exact HB.out)) hb); clear HO_6; clear HB; have HO_6 := n0_; have HB := n1_; clear n0_ n1_; (try clear hb); (try clear hb2); (try clear hk); (try clear hi); have p151 : 0 ≤ (x7_1 : Int) := of_decide_eq_true (by first | (with_reducible assumption) | assumption); have q151 : x7_1 < (t127.length : Int) := of_decide_eq_true (by first | (with_reducible assumption) | assumption); obtain ⟨ad151, e151, hx151_0⟩ := Kd.at_string (Kd.R_reads' HO_6.out).2.2 x7_1 p151 q151; obtain rfl : ad130 = ad151 := (by injection e151); replace p151 := eq_true p151; replace q151 := eq_true q151))
                                      repeat (go_quiet (first | (go_at_call 12; (with_reducible refine (num_Floaty.calls k1 (rdOf ByteArray.empty t127 x7_1) t149 _ A39.out).mono ?_); rintro e w44 ⟨rfl, hb⟩; have n0_ := Aside0.mk (Kd.R_below (by (with_reducible repeat (first | apply Kd.R_alloc | apply Kd.R_drewN | apply Kd.R_drew)); exact HO_6.out) hb); have n1_ := Aside0.mk (below_step (by repeat (first | (with_reducible first | exact HB.out | apply below_alloc | apply pw_below_drewN | apply below_drew1) | exact HB.out)) hb); clear HO_6; clear HB; have HO_6 := n0_; have HB := n1_; clear n0_ n1_; (try clear hb); (try clear hb2); (try clear hk); (try clear hi); have p151 : 0 ≤ (x7_1 : Int) := of_decide_eq_true (by first | (with_reducible assumption) | assumption); have q151 : x7_1 < (t127.length : Int) := of_decide_eq_true (by first | (with_reducible assumption) | assumption); obtain ⟨ad151, e151, hx151_0⟩ := Kd.at_string (Kd.R_reads' HO_6.out).2.2 x7_1 p151 q151; obtain rfl : ad130 = ad151 := (by injection e151); replace p151 := eq_true p151; replace q151 := eq_true q151)); try go_wp2_with (first | (go_at_call 12; (with_reducible refine (num_Floaty.calls k1 (rdOf ByteArray.empty t127 x7_1) t149 _ A39.out).mono ?_); rintro e w44 ⟨rfl, hb⟩; have n0_ := Aside0.mk (Kd.R_below (by (with_reducible repeat (first | apply Kd.R_alloc | apply Kd.R_drewN | apply Kd.R_drew)); exact HO_6.out) hb); have n1_ := Aside0.mk (below_step (by repeat (first | (with_reducible first | exact HB.out | apply below_alloc | apply pw_below_drewN | apply below_drew1) | exact HB.out)) hb); clear HO_6; clear HB; have HO_6 := n0_; have HB := n1_; clear n0_ n1_; (try clear hb); (try clear hb2); (try clear hk); (try clear hi); have p151 : 0 ≤ (x7_1 : Int) := of_decide_eq_true (by first | (with_reducible assumption) | assumption); have q151 : x7_1 < (t127.length : Int) := of_decide_eq_true (by first | (with_reducible assumption) | assumption); obtain ⟨ad151, e151, hx151_0⟩ := Kd.at_string (Kd.R_reads' HO_6.out).2.2 x7_1 p151 q151; obtain rfl : ad130 = ad151 := (by injection e151); replace p151 := eq_true p151; replace q151 := eq_true q151)))
                                      go_meet
                                      case rel => exact ⟨_, ((t149 != ((rdOf ByteArray.empty t127 x7_1).toList == ([102, 108, 111, 97, 116] : List UInt8)))), (by first | rfl | (simp; done) | (simp [*]; done)), H', ⟨by have := HK1.out; first | omega | exact Nat.le_refl _⟩, ⟨by (with_reducible repeat (first | apply Kd.R_alloc | apply Kd.R_drewN | apply Kd.R_drew)); exact HO_6.out⟩, ⟨by repeat (first | (with_reducible first | exact HB.out | apply below_alloc | apply pw_below_drewN | apply below_drew1) | exact HB.out)⟩⟩
                                  · rw [if_neg c38] at H
                                    exact absurd H (by simp)
                              · rw [if_neg c30] at H
                                exact absurd H (by simp)
                      · rw [if_neg c20] at H
                        have c20b0 : ((rdOf ByteArray.empty t127 x7_1).toList == ([102, 108, 111, 97, 116] : List UInt8)) = false := beq_eq_false_iff_ne.mpr c20
                        have c20b1 : ((rdOf ByteArray.empty t127 x7_1).toList != ([102, 108, 111, 97, 116] : List UInt8)) = true := bne_iff_ne.mpr c20
                        by_cases c45 : ((t131 == 1) != ((rdOf ByteArray.empty t127 x7_1).toList == ([119, 104, 111, 108, 101] : List UInt8))) = true
                        · rw [if_pos c45] at H
                          exact absurd H (by simp)
                        · rw [if_neg c45] at H
                          have c45b0 : ((t131 == 1) != ((rdOf ByteArray.empty t127 x7_1).toList == ([119, 104, 111, 108, 101] : List UInt8))) = false := by simpa using c45
                          (try (have c45b1 : decide ((t131 == 1) = ((rdOf ByteArray.empty t127 x7_1).toList == ([119, 104, 111, 108, 101] : List UInt8))) = true := by simpa using c45))
                          (try (have c45b2 : ((t131 == 1) == ((rdOf ByteArray.empty t127 x7_1).toList == ([119, 104, 111, 108, 101] : List UInt8))) = true := by simpa using c45))
                          clear c45
                          by_cases c46 : (t136 != (decide (x7_1 < 7))) = true
                          · rw [if_pos c46] at H
                            exact absurd H (by simp)
                          · rw [if_neg c46] at H
                            have c46b0 : (t136 != (decide (x7_1 < 7))) = false := by simpa using c46
                            (try (have c46b1 : decide (t136 = (decide (x7_1 < 7))) = true := by simpa using c46))
                            (try (have c46b2 : (t136 == (decide (x7_1 < 7))) = true := by simpa using c46))
                            clear c46
                            by_cases c47 : t135 = 0
                            · rw [if_pos c47] at H
                              have c47b0 : (t135 == 0) = true := beq_iff_eq.mpr c47
                              have c47b1 : (t135 != 0) = false := bne_eq_false_iff_eq.mpr c47
                              clear c47
                              replace H := Option.bind_eq_some_iff.mp H
                              obtain ⟨t154, A480, H⟩ := H
                              replace H : (if x7_1 ≥ 7 then (if x7_1 ≤ 10 then (gristmilllaw2_NumWords.j1 k1 a0 a1 true t127 x7_1 (t154 != true)) else (gristmilllaw2_NumWords.j1 k1 a0 a1 true t127 x7_1 (t154 != ((rdOf ByteArray.empty t127 x7_1).toList == ([102, 108, 111, 97, 116] : List UInt8))))) else (gristmilllaw2_NumWords.j1 k1 a0 a1 true t127 x7_1 (t154 != ((rdOf ByteArray.empty t127 x7_1).toList == ([102, 108, 111, 97, 116] : List UInt8))))) = some r := H
                              have A48 := Aside0.mk A480
                              clear A480
                              by_cases c49 : x7_1 ≥ 7
                              · rw [if_pos c49] at H
                                have c49b0 : decide (7 ≤ x7_1) = true := decide_eq_true c49
                                clear c49
                                by_cases c50 : x7_1 ≤ 10
                                · rw [if_pos c50] at H
                                  have c50b0 : decide (x7_1 ≤ 10) = true := decide_eq_true c50
                                  clear c50
                                  have H' := Aside0.mk H
                                  clear H
                                  have p137 : 0 ≤ (x7_1 : Int) := of_decide_eq_true (by first | (with_reducible assumption) | assumption)
                                  have q137 : x7_1 < (t127.length : Int) := of_decide_eq_true (by first | (with_reducible assumption) | assumption)
                                  obtain ⟨ad137, e137, hx137_0⟩ := Kd.at_string (Kd.R_reads' HO_6.out).2.2 x7_1 p137 q137
                                  obtain rfl : ad130 = ad137 := (by injection e137)
                                  replace p137 := eq_true p137
                                  replace q137 := eq_true q137
                                  have p152 : 0 ≤ (x7_1 : Int) := of_decide_eq_true (by first | (with_reducible assumption) | assumption)
                                  have q152 : x7_1 < (t127.length : Int) := of_decide_eq_true (by first | (with_reducible assumption) | assumption)
                                  obtain ⟨ad152, e152, hx152_0⟩ := Kd.at_string (Kd.R_reads' HO_6.out).2.2 x7_1 p152 q152
                                  obtain rfl : ad130 = ad152 := (by injection e152)
                                  replace p152 := eq_true p152
                                  replace q152 := eq_true q152
                                  have p153 : 0 ≤ (x7_1 : Int) := of_decide_eq_true (by first | (with_reducible assumption) | assumption)
                                  have q153 : x7_1 < (t127.length : Int) := of_decide_eq_true (by first | (with_reducible assumption) | assumption)
                                  obtain ⟨ad153, e153, hx153_0⟩ := Kd.at_string (Kd.R_reads' HO_6.out).2.2 x7_1 p153 q153
                                  obtain rfl : ad130 = ad153 := (by injection e153)
                                  replace p153 := eq_true p153
                                  replace q153 := eq_true q153
                                  go_wp2_with (first | (go_at_call 12; (with_reducible refine (num_Floaty.calls k1 (rdOf ByteArray.empty t127 x7_1) t154 _ A48.out).mono ?_); rintro e w51 ⟨rfl, hb⟩; have n0_ := Aside0.mk (Kd.R_below (by (with_reducible repeat (first | apply Kd.R_alloc | apply Kd.R_drewN | apply Kd.R_drew)); exact HO_6.out) hb); have n1_ := Aside0.mk (below_step (by repeat (first | (with_reducible first | exact HB.out | apply below_alloc | apply pw_below_drewN | apply below_drew1) | exact HB.out)) hb); clear HO_6; clear HB; have HO_6 := n0_; have HB := n1_; clear n0_ n1_; (try clear hb); (try clear hb2); (try clear hk); (try clear hi)))
                                  repeat (go_quiet (first | (go_at_call 12; (with_reducible refine (num_Floaty.calls k1 (rdOf ByteArray.empty t127 x7_1) t154 _ A48.out).mono ?_); rintro e w51 ⟨rfl, hb⟩; have n0_ := Aside0.mk (Kd.R_below (by (with_reducible repeat (first | apply Kd.R_alloc | apply Kd.R_drewN | apply Kd.R_drew)); exact HO_6.out) hb); have n1_ := Aside0.mk (below_step (by repeat (first | (with_reducible first | exact HB.out | apply below_alloc | apply pw_below_drewN | apply below_drew1) | exact HB.out)) hb); clear HO_6; clear HB; have HO_6 := n0_; have HB := n1_; clear n0_ n1_; (try clear hb); (try clear hb2); (try clear hk); (try clear hi))); try go_wp2_with (first | (go_at_call 12; (with_reducible refine (num_Floaty.calls k1 (rdOf ByteArray.empty t127 x7_1) t154 _ A48.out).mono ?_); rintro e w51 ⟨rfl, hb⟩; have n0_ := Aside0.mk (Kd.R_below (by (with_reducible repeat (first | apply Kd.R_alloc | apply Kd.R_drewN | apply Kd.R_drew)); exact HO_6.out) hb); have n1_ := Aside0.mk (below_step (by repeat (first | (with_reducible first | exact HB.out | apply below_alloc | apply pw_below_drewN | apply below_drew1) | exact HB.out)) hb); clear HO_6; clear HB; have HO_6 := n0_; have HB := n1_; clear n0_ n1_; (try clear hb); (try clear hb2); (try clear hk); (try clear hi))))
                                  go_meet
                                  case rel => exact ⟨_, ((t154 != true)), (by first | rfl | (simp; done) | (simp [*]; done)), H', ⟨by have := HK1.out; first | omega | exact Nat.le_refl _⟩, ⟨by (with_reducible repeat (first | apply Kd.R_alloc | apply Kd.R_drewN | apply Kd.R_drew)); exact HO_6.out⟩, ⟨by repeat (first | (with_reducible first | exact HB.out | apply below_alloc | apply pw_below_drewN | apply below_drew1) | exact HB.out)⟩⟩
                                · rw [if_neg c50] at H
                                  have c50b0 : decide (x7_1 ≤ 10) = false := decide_eq_false c50
                                  clear c50
                                  have H' := Aside0.mk H
                                  clear H
                                  have p137 : 0 ≤ (x7_1 : Int) := of_decide_eq_true (by first | (with_reducible assumption) | assumption)
                                  have q137 : x7_1 < (t127.length : Int) := of_decide_eq_true (by first | (with_reducible assumption) | assumption)
                                  obtain ⟨ad137, e137, hx137_0⟩ := Kd.at_string (Kd.R_reads' HO_6.out).2.2 x7_1 p137 q137
                                  obtain rfl : ad130 = ad137 := (by injection e137)
                                  replace p137 := eq_true p137
                                  replace q137 := eq_true q137
                                  have p152 : 0 ≤ (x7_1 : Int) := of_decide_eq_true (by first | (with_reducible assumption) | assumption)
                                  have q152 : x7_1 < (t127.length : Int) := of_decide_eq_true (by first | (with_reducible assumption) | assumption)
                                  obtain ⟨ad152, e152, hx152_0⟩ := Kd.at_string (Kd.R_reads' HO_6.out).2.2 x7_1 p152 q152
                                  obtain rfl : ad130 = ad152 := (by injection e152)
                                  replace p152 := eq_true p152
                                  replace q152 := eq_true q152
                                  have p153 : 0 ≤ (x7_1 : Int) := of_decide_eq_true (by first | (with_reducible assumption) | assumption)
                                  have q153 : x7_1 < (t127.length : Int) := of_decide_eq_true (by first | (with_reducible assumption) | assumption)
                                  obtain ⟨ad153, e153, hx153_0⟩ := Kd.at_string (Kd.R_reads' HO_6.out).2.2 x7_1 p153 q153
                                  obtain rfl : ad130 = ad153 := (by injection e153)
                                  replace p153 := eq_true p153
                                  replace q153 := eq_true q153
                                  go_wp2_with (first | (go_at_call 12; (with_reducible refine (num_Floaty.calls k1 (rdOf ByteArray.empty t127 x7_1) t154 _ A48.out).mono ?_); rintro e w52 ⟨rfl, hb⟩; have n0_ := Aside0.mk (Kd.R_below (by (with_reducible repeat (first | apply Kd.R_alloc | apply Kd.R_drewN | apply Kd.R_drew)); exact HO_6.out) hb); have n1_ := Aside0.mk (below_step (by repeat (first | (with_reducible first | exact HB.out | apply below_alloc | apply pw_below_drewN | apply below_drew1) | exact HB.out)) hb); clear HO_6; clear HB; have HO_6 := n0_; have HB := n1_; clear n0_ n1_; (try clear hb); (try clear hb2); (try clear hk); (try clear hi); have p155 : 0 ≤ (x7_1 : Int) := of_decide_eq_true (by first | (with_reducible assumption) | assumption); have q155 : x7_1 < (t127.length : Int) := of_decide_eq_true (by first | (with_reducible assumption) | assumption); obtain ⟨ad155, e155, hx155_0⟩ := Kd.at_string (Kd.R_reads' HO_6.out).2.2 x7_1 p155 q155; obtain rfl : ad130 = ad155 := (by injection e155); replace p155 := eq_true p155; replace q155 := eq_true q155))
                                  repeat (go_quiet (first | (go_at_call 12; (with_reducible refine (num_Floaty.calls k1 (rdOf ByteArray.empty t127 x7_1) t154 _ A48.out).mono ?_); rintro e w52 ⟨rfl, hb⟩; have n0_ := Aside0.mk (Kd.R_below (by (with_reducible repeat (first | apply Kd.R_alloc | apply Kd.R_drewN | apply Kd.R_drew)); exact HO_6.out) hb); have n1_ := Aside0.mk (below_step (by repeat (first | (with_reducible first | exact HB.out | apply below_alloc | apply pw_below_drewN | apply below_drew1) | exact HB.out)) hb); clear HO_6; clear HB; have HO_6 := n0_; have HB := n1_; clear n0_ n1_; (try clear hb); (try clear hb2); (try clear hk); (try clear hi); have p155 : 0 ≤ (x7_1 : Int) := of_decide_eq_true (by first | (with_reducible assumption) | assumption); have q155 : x7_1 < (t127.length : Int) := of_decide_eq_true (by first | (with_reducible assumption) | assumption); obtain ⟨ad155, e155, hx155_0⟩ := Kd.at_string (Kd.R_reads' HO_6.out).2.2 x7_1 p155 q155; obtain rfl : ad130 = ad155 := (by injection e155); replace p155 := eq_true p155; replace q155 := eq_true q155)); try go_wp2_with (first | (go_at_call 12; (with_reducible refine (num_Floaty.calls k1 (rdOf ByteArray.empty t127 x7_1) t154 _ A48.out).mono ?_); rintro e w52 ⟨rfl, hb⟩; have n0_ := Aside0.mk (Kd.R_below (by (with_reducible repeat (first | apply Kd.R_alloc | apply Kd.R_drewN | apply Kd.R_drew)); exact HO_6.out) hb); have n1_ := Aside0.mk (below_step (by repeat (first | (with_reducible first | exact HB.out | apply below_alloc | apply pw_below_drewN | apply below_drew1) | exact HB.out)) hb); clear HO_6; clear HB; have HO_6 := n0_; have HB := n1_; clear n0_ n1_; (try clear hb); (try clear hb2); (try clear hk); (try clear hi); have p155 : 0 ≤ (x7_1 : Int) := of_decide_eq_true (by first | (with_reducible assumption) | assumption); have q155 : x7_1 < (t127.length : Int) := of_decide_eq_true (by first | (with_reducible assumption) | assumption); obtain ⟨ad155, e155, hx155_0⟩ := Kd.at_string (Kd.R_reads' HO_6.out).2.2 x7_1 p155 q155; obtain rfl : ad130 = ad155 := (by injection e155); replace p155 := eq_true p155; replace q155 := eq_true q155)))
                                  go_meet
                                  case rel => exact ⟨_, ((t154 != ((rdOf ByteArray.empty t127 x7_1).toList == ([102, 108, 111, 97, 116] : List UInt8)))), (by first | rfl | (simp; done) | (simp [*]; done)), H', ⟨by have := HK1.out; first | omega | exact Nat.le_refl _⟩, ⟨by (with_reducible repeat (first | apply Kd.R_alloc | apply Kd.R_drewN | apply Kd.R_drew)); exact HO_6.out⟩, ⟨by repeat (first | (with_reducible first | exact HB.out | apply below_alloc | apply pw_below_drewN | apply below_drew1) | exact HB.out)⟩⟩
                              · rw [if_neg c49] at H
                                have c49b0 : decide (7 ≤ x7_1) = false := decide_eq_false c49
                                clear c49
                                have H' := Aside0.mk H
                                clear H
                                have p137 : 0 ≤ (x7_1 : Int) := of_decide_eq_true (by first | (with_reducible assumption) | assumption)
                                have q137 : x7_1 < (t127.length : Int) := of_decide_eq_true (by first | (with_reducible assumption) | assumption)
                                obtain ⟨ad137, e137, hx137_0⟩ := Kd.at_string (Kd.R_reads' HO_6.out).2.2 x7_1 p137 q137
                                obtain rfl : ad130 = ad137 := (by injection e137)
                                replace p137 := eq_true p137
                                replace q137 := eq_true q137
                                have p152 : 0 ≤ (x7_1 : Int) := of_decide_eq_true (by first | (with_reducible assumption) | assumption)
                                have q152 : x7_1 < (t127.length : Int) := of_decide_eq_true (by first | (with_reducible assumption) | assumption)
                                obtain ⟨ad152, e152, hx152_0⟩ := Kd.at_string (Kd.R_reads' HO_6.out).2.2 x7_1 p152 q152
                                obtain rfl : ad130 = ad152 := (by injection e152)
                                replace p152 := eq_true p152
                                replace q152 := eq_true q152
                                have p153 : 0 ≤ (x7_1 : Int) := of_decide_eq_true (by first | (with_reducible assumption) | assumption)
                                have q153 : x7_1 < (t127.length : Int) := of_decide_eq_true (by first | (with_reducible assumption) | assumption)
                                obtain ⟨ad153, e153, hx153_0⟩ := Kd.at_string (Kd.R_reads' HO_6.out).2.2 x7_1 p153 q153
                                obtain rfl : ad130 = ad153 := (by injection e153)
                                replace p153 := eq_true p153
                                replace q153 := eq_true q153
                                go_wp2_with (first | (go_at_call 12; (with_reducible refine (num_Floaty.calls k1 (rdOf ByteArray.empty t127 x7_1) t154 _ A48.out).mono ?_); rintro e w53 ⟨rfl, hb⟩; have n0_ := Aside0.mk (Kd.R_below (by (with_reducible repeat (first | apply Kd.R_alloc | apply Kd.R_drewN | apply Kd.R_drew)); exact HO_6.out) hb); have n1_ := Aside0.mk (below_step (by repeat (first | (with_reducible first | exact HB.out | apply below_alloc | apply pw_below_drewN | apply below_drew1) | exact HB.out)) hb); clear HO_6; clear HB; have HO_6 := n0_; have HB := n1_; clear n0_ n1_; (try clear hb); (try clear hb2); (try clear hk); (try clear hi); have p156 : 0 ≤ (x7_1 : Int) := of_decide_eq_true (by first | (with_reducible assumption) | assumption); have q156 : x7_1 < (t127.length : Int) := of_decide_eq_true (by first | (with_reducible assumption) | assumption); obtain ⟨ad156, e156, hx156_0⟩ := Kd.at_string (Kd.R_reads' HO_6.out).2.2 x7_1 p156 q156; obtain rfl : ad130 = ad156 := (by injection e156); replace p156 := eq_true p156; replace q156 := eq_true q156))
                                repeat (go_quiet (first | (go_at_call 12; (with_reducible refine (num_Floaty.calls k1 (rdOf ByteArray.empty t127 x7_1) t154 _ A48.out).mono ?_); rintro e w53 ⟨rfl, hb⟩; have n0_ := Aside0.mk (Kd.R_below (by (with_reducible repeat (first | apply Kd.R_alloc | apply Kd.R_drewN | apply Kd.R_drew)); exact HO_6.out) hb); have n1_ := Aside0.mk (below_step (by repeat (first | (with_reducible first | exact HB.out | apply below_alloc | apply pw_below_drewN | apply below_drew1) | exact HB.out)) hb); clear HO_6; clear HB; have HO_6 := n0_; have HB := n1_; clear n0_ n1_; (try clear hb); (try clear hb2); (try clear hk); (try clear hi); have p156 : 0 ≤ (x7_1 : Int) := of_decide_eq_true (by first | (with_reducible assumption) | assumption); have q156 : x7_1 < (t127.length : Int) := of_decide_eq_true (by first | (with_reducible assumption) | assumption); obtain ⟨ad156, e156, hx156_0⟩ := Kd.at_string (Kd.R_reads' HO_6.out).2.2 x7_1 p156 q156; obtain rfl : ad130 = ad156 := (by injection e156); replace p156 := eq_true p156; replace q156 := eq_true q156)); try go_wp2_with (first | (go_at_call 12; (with_reducible refine (num_Floaty.calls k1 (rdOf ByteArray.empty t127 x7_1) t154 _ A48.out).mono ?_); rintro e w53 ⟨rfl, hb⟩; have n0_ := Aside0.mk (Kd.R_below (by (with_reducible repeat (first | apply Kd.R_alloc | apply Kd.R_drewN | apply Kd.R_drew)); exact HO_6.out) hb); have n1_ := Aside0.mk (below_step (by repeat (first | (with_reducible first | exact HB.out | apply below_alloc | apply pw_below_drewN | apply below_drew1) | exact HB.out)) hb); clear HO_6; clear HB; have HO_6 := n0_; have HB := n1_; clear n0_ n1_; (try clear hb); (try clear hb2); (try clear hk); (try clear hi); have p156 : 0 ≤ (x7_1 : Int) := of_decide_eq_true (by first | (with_reducible assumption) | assumption); have q156 : x7_1 < (t127.length : Int) := of_decide_eq_true (by first | (with_reducible assumption) | assumption); obtain ⟨ad156, e156, hx156_0⟩ := Kd.at_string (Kd.R_reads' HO_6.out).2.2 x7_1 p156 q156; obtain rfl : ad130 = ad156 := (by injection e156); replace p156 := eq_true p156; replace q156 := eq_true q156)))
                                go_meet
                                case rel => exact ⟨_, ((t154 != ((rdOf ByteArray.empty t127 x7_1).toList == ([102, 108, 111, 97, 116] : List UInt8)))), (by first | rfl | (simp; done) | (simp [*]; done)), H', ⟨by have := HK1.out; first | omega | exact Nat.le_refl _⟩, ⟨by (with_reducible repeat (first | apply Kd.R_alloc | apply Kd.R_drewN | apply Kd.R_drew)); exact HO_6.out⟩, ⟨by repeat (first | (with_reducible first | exact HB.out | apply below_alloc | apply pw_below_drewN | apply below_drew1) | exact HB.out)⟩⟩
                            · rw [if_neg c47] at H
                              have c47b0 : (t135 == 0) = false := beq_eq_false_iff_ne.mpr c47
                              have c47b1 : (t135 != 0) = true := bne_iff_ne.mpr c47
                              by_cases c54 : a1 = 0
                              · rw [if_pos c54] at H
                                have c54b0 : (a1 == 0) = true := beq_iff_eq.mpr c54
                                have c54b1 : (a1 != 0) = false := bne_eq_false_iff_eq.mpr c54
                                clear c54
                                by_cases c55 : (rdOf ByteArray.empty t127 x7_1).toList = ([100, 105, 118] : List UInt8)
                                · rw [if_pos c55] at H
                                  have c55b0 : ((rdOf ByteArray.empty t127 x7_1).toList == ([100, 105, 118] : List UInt8)) = true := beq_iff_eq.mpr c55
                                  have c55b1 : ((rdOf ByteArray.empty t127 x7_1).toList != ([100, 105, 118] : List UInt8)) = false := bne_eq_false_iff_eq.mpr c55
                                  clear c55
                                  replace H := Option.bind_eq_some_iff.mp H
                                  obtain ⟨t159, A560, H⟩ := H
                                  replace H : (if x7_1 ≥ 7 then (if x7_1 ≤ 10 then (gristmilllaw2_NumWords.j1 k1 a0 a1 true t127 x7_1 (t159 != true)) else (gristmilllaw2_NumWords.j1 k1 a0 a1 true t127 x7_1 (t159 != ((rdOf ByteArray.empty t127 x7_1).toList == ([102, 108, 111, 97, 116] : List UInt8))))) else (gristmilllaw2_NumWords.j1 k1 a0 a1 true t127 x7_1 (t159 != ((rdOf ByteArray.empty t127 x7_1).toList == ([102, 108, 111, 97, 116] : List UInt8))))) = some r := H
                                  have A56 := Aside0.mk A560
                                  clear A560
                                  by_cases c57 : x7_1 ≥ 7
                                  · rw [if_pos c57] at H
                                    have c57b0 : decide (7 ≤ x7_1) = true := decide_eq_true c57
                                    clear c57
                                    by_cases c58 : x7_1 ≤ 10
                                    · rw [if_pos c58] at H
                                      have c58b0 : decide (x7_1 ≤ 10) = true := decide_eq_true c58
                                      clear c58
                                      have H' := Aside0.mk H
                                      clear H
                                      have p137 : 0 ≤ (x7_1 : Int) := of_decide_eq_true (by first | (with_reducible assumption) | assumption)
                                      have q137 : x7_1 < (t127.length : Int) := of_decide_eq_true (by first | (with_reducible assumption) | assumption)
                                      obtain ⟨ad137, e137, hx137_0⟩ := Kd.at_string (Kd.R_reads' HO_6.out).2.2 x7_1 p137 q137
                                      obtain rfl : ad130 = ad137 := (by injection e137)
                                      replace p137 := eq_true p137
                                      replace q137 := eq_true q137
                                      have p152 : 0 ≤ (x7_1 : Int) := of_decide_eq_true (by first | (with_reducible assumption) | assumption)
                                      have q152 : x7_1 < (t127.length : Int) := of_decide_eq_true (by first | (with_reducible assumption) | assumption)
                                      obtain ⟨ad152, e152, hx152_0⟩ := Kd.at_string (Kd.R_reads' HO_6.out).2.2 x7_1 p152 q152
                                      obtain rfl : ad130 = ad152 := (by injection e152)
                                      replace p152 := eq_true p152
                                      replace q152 := eq_true q152
                                      have p157 : 0 ≤ (x7_1 : Int) := of_decide_eq_true (by first | (with_reducible assumption) | assumption)
                                      have q157 : x7_1 < (t127.length : Int) := of_decide_eq_true (by first | (with_reducible assumption) | assumption)
                                      obtain ⟨ad157, e157, hx157_0⟩ := Kd.at_string (Kd.R_reads' HO_6.out).2.2 x7_1 p157 q157
                                      obtain rfl : ad130 = ad157 := (by injection e157)
                                      replace p157 := eq_true p157
                                      replace q157 := eq_true q157
                                      have p158 : 0 ≤ (x7_1 : Int) := of_decide_eq_true (by first | (with_reducible assumption) | assumption)
                                      have q158 : x7_1 < (t127.length : Int) := of_decide_eq_true (by first | (with_reducible assumption) | assumption)
                                      obtain ⟨ad158, e158, hx158_0⟩ := Kd.at_string (Kd.R_reads' HO_6.out).2.2 x7_1 p158 q158
                                      obtain rfl : ad130 = ad158 := (by injection e158)
                                      replace p158 := eq_true p158
                                      replace q158 := eq_true q158
                                      go_wp2_with (first | (go_at_call 12; (with_reducible refine (num_Floaty.calls k1 (rdOf ByteArray.empty t127 x7_1) t159 _ A56.out).mono ?_); rintro e w59 ⟨rfl, hb⟩; have n0_ := Aside0.mk (Kd.R_below (by (with_reducible repeat (first | apply Kd.R_alloc | apply Kd.R_drewN | apply Kd.R_drew)); exact HO_6.out) hb); have n1_ := Aside0.mk (below_step (by repeat (first | (with_reducible first | exact HB.out | apply below_alloc | apply pw_below_drewN | apply below_drew1) | exact HB.out)) hb); clear HO_6; clear HB; have HO_6 := n0_; have HB := n1_; clear n0_ n1_; (try clear hb); (try clear hb2); (try clear hk); (try clear hi)))
                                      repeat (go_quiet (first | (go_at_call 12; (with_reducible refine (num_Floaty.calls k1 (rdOf ByteArray.empty t127 x7_1) t159 _ A56.out).mono ?_); rintro e w59 ⟨rfl, hb⟩; have n0_ := Aside0.mk (Kd.R_below (by (with_reducible repeat (first | apply Kd.R_alloc | apply Kd.R_drewN | apply Kd.R_drew)); exact HO_6.out) hb); have n1_ := Aside0.mk (below_step (by repeat (first | (with_reducible first | exact HB.out | apply below_alloc | apply pw_below_drewN | apply below_drew1) | exact HB.out)) hb); clear HO_6; clear HB; have HO_6 := n0_; have HB := n1_; clear n0_ n1_; (try clear hb); (try clear hb2); (try clear hk); (try clear hi))); try go_wp2_with (first | (go_at_call 12; (with_reducible refine (num_Floaty.calls k1 (rdOf ByteArray.empty t127 x7_1) t159 _ A56.out).mono ?_); rintro e w59 ⟨rfl, hb⟩; have n0_ := Aside0.mk (Kd.R_below (by (with_reducible repeat (first | apply Kd.R_alloc | apply Kd.R_drewN | apply Kd.R_drew)); exact HO_6.out) hb); have n1_ := Aside0.mk (below_step (by repeat (first | (with_reducible first | exact HB.out | apply below_alloc | apply pw_below_drewN | apply below_drew1) | exact HB.out)) hb); clear HO_6; clear HB; have HO_6 := n0_; have HB := n1_; clear n0_ n1_; (try clear hb); (try clear hb2); (try clear hk); (try clear hi))))
                                      go_meet
                                      case rel => exact ⟨_, ((t159 != true)), (by first | rfl | (simp; done) | (simp [*]; done)), H', ⟨by have := HK1.out; first | omega | exact Nat.le_refl _⟩, ⟨by (with_reducible repeat (first | apply Kd.R_alloc | apply Kd.R_drewN | apply Kd.R_drew)); exact HO_6.out⟩, ⟨by repeat (first | (with_reducible first | exact HB.out | apply below_alloc | apply pw_below_drewN | apply below_drew1) | exact HB.out)⟩⟩
                                    · rw [if_neg c58] at H
                                      have c58b0 : decide (x7_1 ≤ 10) = false := decide_eq_false c58
                                      clear c58
                                      have H' := Aside0.mk H
                                      clear H
                                      have p137 : 0 ≤ (x7_1 : Int) := of_decide_eq_true (by first | (with_reducible assumption) | assumption)
                                      have q137 : x7_1 < (t127.length : Int) := of_decide_eq_true (by first | (with_reducible assumption) | assumption)
                                      obtain ⟨ad137, e137, hx137_0⟩ := Kd.at_string (Kd.R_reads' HO_6.out).2.2 x7_1 p137 q137
                                      obtain rfl : ad130 = ad137 := (by injection e137)
                                      replace p137 := eq_true p137
                                      replace q137 := eq_true q137
                                      have p152 : 0 ≤ (x7_1 : Int) := of_decide_eq_true (by first | (with_reducible assumption) | assumption)
                                      have q152 : x7_1 < (t127.length : Int) := of_decide_eq_true (by first | (with_reducible assumption) | assumption)
                                      obtain ⟨ad152, e152, hx152_0⟩ := Kd.at_string (Kd.R_reads' HO_6.out).2.2 x7_1 p152 q152
                                      obtain rfl : ad130 = ad152 := (by injection e152)
                                      replace p152 := eq_true p152
                                      replace q152 := eq_true q152
                                      have p157 : 0 ≤ (x7_1 : Int) := of_decide_eq_true (by first | (with_reducible assumption) | assumption)
                                      have q157 : x7_1 < (t127.length : Int) := of_decide_eq_true (by first | (with_reducible assumption) | assumption)
                                      obtain ⟨ad157, e157, hx157_0⟩ := Kd.at_string (Kd.R_reads' HO_6.out).2.2 x7_1 p157 q157
                                      obtain rfl : ad130 = ad157 := (by injection e157)
                                      replace p157 := eq_true p157
                                      replace q157 := eq_true q157
                                      have p158 : 0 ≤ (x7_1 : Int) := of_decide_eq_true (by first | (with_reducible assumption) | assumption)
                                      have q158 : x7_1 < (t127.length : Int) := of_decide_eq_true (by first | (with_reducible assumption) | assumption)
                                      obtain ⟨ad158, e158, hx158_0⟩ := Kd.at_string (Kd.R_reads' HO_6.out).2.2 x7_1 p158 q158
                                      obtain rfl : ad130 = ad158 := (by injection e158)
                                      replace p158 := eq_true p158
                                      replace q158 := eq_true q158
                                      go_wp2_with (first | (go_at_call 12; (with_reducible refine (num_Floaty.calls k1 (rdOf ByteArray.empty t127 x7_1) t159 _ A56.out).mono ?_); rintro e w60 ⟨rfl, hb⟩; have n0_ := Aside0.mk (Kd.R_below (by (with_reducible repeat (first | apply Kd.R_alloc | apply Kd.R_drewN | apply Kd.R_drew)); exact HO_6.out) hb); have n1_ := Aside0.mk (below_step (by repeat (first | (with_reducible first | exact HB.out | apply below_alloc | apply pw_below_drewN | apply below_drew1) | exact HB.out)) hb); clear HO_6; clear HB; have HO_6 := n0_; have HB := n1_; clear n0_ n1_; (try clear hb); (try clear hb2); (try clear hk); (try clear hi); have p160 : 0 ≤ (x7_1 : Int) := of_decide_eq_true (by first | (with_reducible assumption) | assumption); have q160 : x7_1 < (t127.length : Int) := of_decide_eq_true (by first | (with_reducible assumption) | assumption); obtain ⟨ad160, e160, hx160_0⟩ := Kd.at_string (Kd.R_reads' HO_6.out).2.2 x7_1 p160 q160; obtain rfl : ad130 = ad160 := (by injection e160); replace p160 := eq_true p160; replace q160 := eq_true q160))
                                      repeat (go_quiet (first | (go_at_call 12; (with_reducible refine (num_Floaty.calls k1 (rdOf ByteArray.empty t127 x7_1) t159 _ A56.out).mono ?_); rintro e w60 ⟨rfl, hb⟩; have n0_ := Aside0.mk (Kd.R_below (by (with_reducible repeat (first | apply Kd.R_alloc | apply Kd.R_drewN | apply Kd.R_drew)); exact HO_6.out) hb); have n1_ := Aside0.mk (below_step (by repeat (first | (with_reducible first | exact HB.out | apply below_alloc | apply pw_below_drewN | apply below_drew1) | exact HB.out)) hb); clear HO_6; clear HB; have HO_6 := n0_; have HB := n1_; clear n0_ n1_; (try clear hb); (try clear hb2); (try clear hk); (try clear hi); have p160 : 0 ≤ (x7_1 : Int) := of_decide_eq_true (by first | (with_reducible assumption) | assumption); have q160 : x7_1 < (t127.length : Int) := of_decide_eq_true (by first | (with_reducible assumption) | assumption); obtain ⟨ad160, e160, hx160_0⟩ := Kd.at_string (Kd.R_reads' HO_6.out).2.2 x7_1 p160 q160; obtain rfl : ad130 = ad160 := (by injection e160); replace p160 := eq_true p160; replace q160 := eq_true q160)); try go_wp2_with (first | (go_at_call 12; (with_reducible refine (num_Floaty.calls k1 (rdOf ByteArray.empty t127 x7_1) t159 _ A56.out).mono ?_); rintro e w60 ⟨rfl, hb⟩; have n0_ := Aside0.mk (Kd.R_below (by (with_reducible repeat (first | apply Kd.R_alloc | apply Kd.R_drewN | apply Kd.R_drew)); exact HO_6.out) hb); have n1_ := Aside0.mk (below_step (by repeat (first | (with_reducible first | exact HB.out | apply below_alloc | apply pw_below_drewN | apply below_drew1) | exact HB.out)) hb); clear HO_6; clear HB; have HO_6 := n0_; have HB := n1_; clear n0_ n1_; (try clear hb); (try clear hb2); (try clear hk); (try clear hi); have p160 : 0 ≤ (x7_1 : Int) := of_decide_eq_true (by first | (with_reducible assumption) | assumption); have q160 : x7_1 < (t127.length : Int) := of_decide_eq_true (by first | (with_reducible assumption) | assumption); obtain ⟨ad160, e160, hx160_0⟩ := Kd.at_string (Kd.R_reads' HO_6.out).2.2 x7_1 p160 q160; obtain rfl : ad130 = ad160 := (by injection e160); replace p160 := eq_true p160; replace q160 := eq_true q160)))
                                      go_meet
                                      case rel => exact ⟨_, ((t159 != ((rdOf ByteArray.empty t127 x7_1).toList == ([102, 108, 111, 97, 116] : List UInt8)))), (by first | rfl | (simp; done) | (simp [*]; done)), H', ⟨by have := HK1.out; first | omega | exact Nat.le_refl _⟩, ⟨by (with_reducible repeat (first | apply Kd.R_alloc | apply Kd.R_drewN | apply Kd.R_drew)); exact HO_6.out⟩, ⟨by repeat (first | (with_reducible first | exact HB.out | apply below_alloc | apply pw_below_drewN | apply below_drew1) | exact HB.out)⟩⟩
                                  · rw [if_neg c57] at H
                                    have c57b0 : decide (7 ≤ x7_1) = false := decide_eq_false c57
                                    clear c57
                                    have H' := Aside0.mk H
                                    clear H
                                    have p137 : 0 ≤ (x7_1 : Int) := of_decide_eq_true (by first | (with_reducible assumption) | assumption)
                                    have q137 : x7_1 < (t127.length : Int) := of_decide_eq_true (by first | (with_reducible assumption) | assumption)
                                    obtain ⟨ad137, e137, hx137_0⟩ := Kd.at_string (Kd.R_reads' HO_6.out).2.2 x7_1 p137 q137
                                    obtain rfl : ad130 = ad137 := (by injection e137)
                                    replace p137 := eq_true p137
                                    replace q137 := eq_true q137
                                    have p152 : 0 ≤ (x7_1 : Int) := of_decide_eq_true (by first | (with_reducible assumption) | assumption)
                                    have q152 : x7_1 < (t127.length : Int) := of_decide_eq_true (by first | (with_reducible assumption) | assumption)
                                    obtain ⟨ad152, e152, hx152_0⟩ := Kd.at_string (Kd.R_reads' HO_6.out).2.2 x7_1 p152 q152
                                    obtain rfl : ad130 = ad152 := (by injection e152)
                                    replace p152 := eq_true p152
                                    replace q152 := eq_true q152
                                    have p157 : 0 ≤ (x7_1 : Int) := of_decide_eq_true (by first | (with_reducible assumption) | assumption)
                                    have q157 : x7_1 < (t127.length : Int) := of_decide_eq_true (by first | (with_reducible assumption) | assumption)
                                    obtain ⟨ad157, e157, hx157_0⟩ := Kd.at_string (Kd.R_reads' HO_6.out).2.2 x7_1 p157 q157
                                    obtain rfl : ad130 = ad157 := (by injection e157)
                                    replace p157 := eq_true p157
                                    replace q157 := eq_true q157
                                    have p158 : 0 ≤ (x7_1 : Int) := of_decide_eq_true (by first | (with_reducible assumption) | assumption)
                                    have q158 : x7_1 < (t127.length : Int) := of_decide_eq_true (by first | (with_reducible assumption) | assumption)
                                    obtain ⟨ad158, e158, hx158_0⟩ := Kd.at_string (Kd.R_reads' HO_6.out).2.2 x7_1 p158 q158
                                    obtain rfl : ad130 = ad158 := (by injection e158)
                                    replace p158 := eq_true p158
                                    replace q158 := eq_true q158
                                    go_wp2_with (first | (go_at_call 12; (with_reducible refine (num_Floaty.calls k1 (rdOf ByteArray.empty t127 x7_1) t159 _ A56.out).mono ?_); rintro e w61 ⟨rfl, hb⟩; have n0_ := Aside0.mk (Kd.R_below (by (with_reducible repeat (first | apply Kd.R_alloc | apply Kd.R_drewN | apply Kd.R_drew)); exact HO_6.out) hb); have n1_ := Aside0.mk (below_step (by repeat (first | (with_reducible first | exact HB.out | apply below_alloc | apply pw_below_drewN | apply below_drew1) | exact HB.out)) hb); clear HO_6; clear HB; have HO_6 := n0_; have HB := n1_; clear n0_ n1_; (try clear hb); (try clear hb2); (try clear hk); (try clear hi); have p161 : 0 ≤ (x7_1 : Int) := of_decide_eq_true (by first | (with_reducible assumption) | assumption); have q161 : x7_1 < (t127.length : Int) := of_decide_eq_true (by first | (with_reducible assumption) | assumption); obtain ⟨ad161, e161, hx161_0⟩ := Kd.at_string (Kd.R_reads' HO_6.out).2.2 x7_1 p161 q161; obtain rfl : ad130 = ad161 := (by injection e161); replace p161 := eq_true p161; replace q161 := eq_true q161))
                                    repeat (go_quiet (first | (go_at_call 12; (with_reducible refine (num_Floaty.calls k1 (rdOf ByteArray.empty t127 x7_1) t159 _ A56.out).mono ?_); rintro e w61 ⟨rfl, hb⟩; have n0_ := Aside0.mk (Kd.R_below (by (with_reducible repeat (first | apply Kd.R_alloc | apply Kd.R_drewN | apply Kd.R_drew)); exact HO_6.out) hb); have n1_ := Aside0.mk (below_step (by repeat (first | (with_reducible first | exact HB.out | apply below_alloc | apply pw_below_drewN | apply below_drew1) | exact HB.out)) hb); clear HO_6; clear HB; have HO_6 := n0_; have HB := n1_; clear n0_ n1_; (try clear hb); (try clear hb2); (try clear hk); (try clear hi); have p161 : 0 ≤ (x7_1 : Int) := of_decide_eq_true (by first | (with_reducible assumption) | assumption); have q161 : x7_1 < (t127.length : Int) := of_decide_eq_true (by first | (with_reducible assumption) | assumption); obtain ⟨ad161, e161, hx161_0⟩ := Kd.at_string (Kd.R_reads' HO_6.out).2.2 x7_1 p161 q161; obtain rfl : ad130 = ad161 := (by injection e161); replace p161 := eq_true p161; replace q161 := eq_true q161)); try go_wp2_with (first | (go_at_call 12; (with_reducible refine (num_Floaty.calls k1 (rdOf ByteArray.empty t127 x7_1) t159 _ A56.out).mono ?_); rintro e w61 ⟨rfl, hb⟩; have n0_ := Aside0.mk (Kd.R_below (by (with_reducible repeat (first | apply Kd.R_alloc | apply Kd.R_drewN | apply Kd.R_drew)); exact HO_6.out) hb); have n1_ := Aside0.mk (below_step (by repeat (first | (with_reducible first | exact HB.out | apply below_alloc | apply pw_below_drewN | apply below_drew1) | exact HB.out)) hb); clear HO_6; clear HB; have HO_6 := n0_; have HB := n1_; clear n0_ n1_; (try clear hb); (try clear hb2); (try clear hk); (try clear hi); have p161 : 0 ≤ (x7_1 : Int) := of_decide_eq_true (by first | (with_reducible assumption) | assumption); have q161 : x7_1 < (t127.length : Int) := of_decide_eq_true (by first | (with_reducible assumption) | assumption); obtain ⟨ad161, e161, hx161_0⟩ := Kd.at_string (Kd.R_reads' HO_6.out).2.2 x7_1 p161 q161; obtain rfl : ad130 = ad161 := (by injection e161); replace p161 := eq_true p161; replace q161 := eq_true q161)))
                                    go_meet
                                    case rel => exact ⟨_, ((t159 != ((rdOf ByteArray.empty t127 x7_1).toList == ([102, 108, 111, 97, 116] : List UInt8)))), (by first | rfl | (simp; done) | (simp [*]; done)), H', ⟨by have := HK1.out; first | omega | exact Nat.le_refl _⟩, ⟨by (with_reducible repeat (first | apply Kd.R_alloc | apply Kd.R_drewN | apply Kd.R_drew)); exact HO_6.out⟩, ⟨by repeat (first | (with_reducible first | exact HB.out | apply below_alloc | apply pw_below_drewN | apply below_drew1) | exact HB.out)⟩⟩
                                · rw [if_neg c55] at H
                                  have c55b0 : ((rdOf ByteArray.empty t127 x7_1).toList == ([100, 105, 118] : List UInt8)) = false := beq_eq_false_iff_ne.mpr c55
                                  have c55b1 : ((rdOf ByteArray.empty t127 x7_1).toList != ([100, 105, 118] : List UInt8)) = true := bne_iff_ne.mpr c55
                                  by_cases c62 : (rdOf ByteArray.empty t127 x7_1).toList = ([109, 111, 100] : List UInt8)
                                  · rw [if_pos c62] at H
                                    have c62b0 : ((rdOf ByteArray.empty t127 x7_1).toList == ([109, 111, 100] : List UInt8)) = true := beq_iff_eq.mpr c62
                                    have c62b1 : ((rdOf ByteArray.empty t127 x7_1).toList != ([109, 111, 100] : List UInt8)) = false := bne_eq_false_iff_eq.mpr c62
                                    clear c62
                                    replace H := Option.bind_eq_some_iff.mp H
                                    obtain ⟨t164, A630, H⟩ := H
                                    replace H : (if x7_1 ≥ 7 then (if x7_1 ≤ 10 then (gristmilllaw2_NumWords.j1 k1 a0 a1 true t127 x7_1 (t164 != true)) else (gristmilllaw2_NumWords.j1 k1 a0 a1 true t127 x7_1 (t164 != ((rdOf ByteArray.empty t127 x7_1).toList == ([102, 108, 111, 97, 116] : List UInt8))))) else (gristmilllaw2_NumWords.j1 k1 a0 a1 true t127 x7_1 (t164 != ((rdOf ByteArray.empty t127 x7_1).toList == ([102, 108, 111, 97, 116] : List UInt8))))) = some r := H
                                    have A63 := Aside0.mk A630
                                    clear A630
                                    by_cases c64 : x7_1 ≥ 7
                                    · rw [if_pos c64] at H
                                      have c64b0 : decide (7 ≤ x7_1) = true := decide_eq_true c64
                                      clear c64
                                      by_cases c65 : x7_1 ≤ 10
                                      · rw [if_pos c65] at H
                                        have c65b0 : decide (x7_1 ≤ 10) = true := decide_eq_true c65
                                        clear c65
                                        have H' := Aside0.mk H
                                        clear H
                                        have p137 : 0 ≤ (x7_1 : Int) := of_decide_eq_true (by first | (with_reducible assumption) | assumption)
                                        have q137 : x7_1 < (t127.length : Int) := of_decide_eq_true (by first | (with_reducible assumption) | assumption)
                                        obtain ⟨ad137, e137, hx137_0⟩ := Kd.at_string (Kd.R_reads' HO_6.out).2.2 x7_1 p137 q137
                                        obtain rfl : ad130 = ad137 := (by injection e137)
                                        replace p137 := eq_true p137
                                        replace q137 := eq_true q137
                                        have p152 : 0 ≤ (x7_1 : Int) := of_decide_eq_true (by first | (with_reducible assumption) | assumption)
                                        have q152 : x7_1 < (t127.length : Int) := of_decide_eq_true (by first | (with_reducible assumption) | assumption)
                                        obtain ⟨ad152, e152, hx152_0⟩ := Kd.at_string (Kd.R_reads' HO_6.out).2.2 x7_1 p152 q152
                                        obtain rfl : ad130 = ad152 := (by injection e152)
                                        replace p152 := eq_true p152
                                        replace q152 := eq_true q152
                                        have p157 : 0 ≤ (x7_1 : Int) := of_decide_eq_true (by first | (with_reducible assumption) | assumption)
                                        have q157 : x7_1 < (t127.length : Int) := of_decide_eq_true (by first | (with_reducible assumption) | assumption)
                                        obtain ⟨ad157, e157, hx157_0⟩ := Kd.at_string (Kd.R_reads' HO_6.out).2.2 x7_1 p157 q157
                                        obtain rfl : ad130 = ad157 := (by injection e157)
                                        replace p157 := eq_true p157
                                        replace q157 := eq_true q157
                                        have p162 : 0 ≤ (x7_1 : Int) := of_decide_eq_true (by first | (with_reducible assumption) | assumption)
                                        have q162 : x7_1 < (t127.length : Int) := of_decide_eq_true (by first | (with_reducible assumption) | assumption)
                                        obtain ⟨ad162, e162, hx162_0⟩ := Kd.at_string (Kd.R_reads' HO_6.out).2.2 x7_1 p162 q162
                                        obtain rfl : ad130 = ad162 := (by injection e162)
                                        replace p162 := eq_true p162
                                        replace q162 := eq_true q162
                                        have p163 : 0 ≤ (x7_1 : Int) := of_decide_eq_true (by first | (with_reducible assumption) | assumption)
                                        have q163 : x7_1 < (t127.length : Int) := of_decide_eq_true (by first | (with_reducible assumption) | assumption)
                                        obtain ⟨ad163, e163, hx163_0⟩ := Kd.at_string (Kd.R_reads' HO_6.out).2.2 x7_1 p163 q163
                                        obtain rfl : ad130 = ad163 := (by injection e163)
                                        replace p163 := eq_true p163
                                        replace q163 := eq_true q163
                                        go_wp2_with (first | (go_at_call 12; (with_reducible refine (num_Floaty.calls k1 (rdOf ByteArray.empty t127 x7_1) t164 _ A63.out).mono ?_); rintro e w66 ⟨rfl, hb⟩; have n0_ := Aside0.mk (Kd.R_below (by (with_reducible repeat (first | apply Kd.R_alloc | apply Kd.R_drewN | apply Kd.R_drew)); exact HO_6.out) hb); have n1_ := Aside0.mk (below_step (by repeat (first | (with_reducible first | exact HB.out | apply below_alloc | apply pw_below_drewN | apply below_drew1) | exact HB.out)) hb); clear HO_6; clear HB; have HO_6 := n0_; have HB := n1_; clear n0_ n1_; (try clear hb); (try clear hb2); (try clear hk); (try clear hi)))
                                        repeat (go_quiet (first | (go_at_call 12; (with_reducible refine (num_Floaty.calls k1 (rdOf ByteArray.empty t127 x7_1) t164 _ A63.out).mono ?_); rintro e w66 ⟨rfl, hb⟩; have n0_ := Aside0.mk (Kd.R_below (by (with_reducible repeat (first | apply Kd.R_alloc | apply Kd.R_drewN | apply Kd.R_drew)); exact HO_6.out) hb); have n1_ := Aside0.mk (below_step (by repeat (first | (with_reducible first | exact HB.out | apply below_alloc | apply pw_below_drewN | apply below_drew1) | exact HB.out)) hb); clear HO_6; clear HB; have HO_6 := n0_; have HB := n1_; clear n0_ n1_; (try clear hb); (try clear hb2); (try clear hk); (try clear hi))); try go_wp2_with (first | (go_at_call 12; (with_reducible refine (num_Floaty.calls k1 (rdOf ByteArray.empty t127 x7_1) t164 _ A63.out).mono ?_); rintro e w66 ⟨rfl, hb⟩; have n0_ := Aside0.mk (Kd.R_below (by (with_reducible repeat (first | apply Kd.R_alloc | apply Kd.R_drewN | apply Kd.R_drew)); exact HO_6.out) hb); have n1_ := Aside0.mk (below_step (by repeat (first | (with_reducible first | exact HB.out | apply below_alloc | apply pw_below_drewN | apply below_drew1) | exact HB.out)) hb); clear HO_6; clear HB; have HO_6 := n0_; have HB := n1_; clear n0_ n1_; (try clear hb); (try clear hb2); (try clear hk); (try clear hi))))
                                        go_meet
                                        case rel => exact ⟨_, ((t164 != true)), (by first | rfl | (simp; done) | (simp [*]; done)), H', ⟨by have := HK1.out; first | omega | exact Nat.le_refl _⟩, ⟨by (with_reducible repeat (first | apply Kd.R_alloc | apply Kd.R_drewN | apply Kd.R_drew)); exact HO_6.out⟩, ⟨by repeat (first | (with_reducible first | exact HB.out | apply below_alloc | apply pw_below_drewN | apply below_drew1) | exact HB.out)⟩⟩
                                      · rw [if_neg c65] at H
                                        have c65b0 : decide (x7_1 ≤ 10) = false := decide_eq_false c65
                                        clear c65
                                        have H' := Aside0.mk H
                                        clear H
                                        have p137 : 0 ≤ (x7_1 : Int) := of_decide_eq_true (by first | (with_reducible assumption) | assumption)
                                        have q137 : x7_1 < (t127.length : Int) := of_decide_eq_true (by first | (with_reducible assumption) | assumption)
                                        obtain ⟨ad137, e137, hx137_0⟩ := Kd.at_string (Kd.R_reads' HO_6.out).2.2 x7_1 p137 q137
                                        obtain rfl : ad130 = ad137 := (by injection e137)
                                        replace p137 := eq_true p137
                                        replace q137 := eq_true q137
                                        have p152 : 0 ≤ (x7_1 : Int) := of_decide_eq_true (by first | (with_reducible assumption) | assumption)
                                        have q152 : x7_1 < (t127.length : Int) := of_decide_eq_true (by first | (with_reducible assumption) | assumption)
                                        obtain ⟨ad152, e152, hx152_0⟩ := Kd.at_string (Kd.R_reads' HO_6.out).2.2 x7_1 p152 q152
                                        obtain rfl : ad130 = ad152 := (by injection e152)
                                        replace p152 := eq_true p152
                                        replace q152 := eq_true q152
                                        have p157 : 0 ≤ (x7_1 : Int) := of_decide_eq_true (by first | (with_reducible assumption) | assumption)
                                        have q157 : x7_1 < (t127.length : Int) := of_decide_eq_true (by first | (with_reducible assumption) | assumption)
                                        obtain ⟨ad157, e157, hx157_0⟩ := Kd.at_string (Kd.R_reads' HO_6.out).2.2 x7_1 p157 q157
                                        obtain rfl : ad130 = ad157 := (by injection e157)
                                        replace p157 := eq_true p157
                                        replace q157 := eq_true q157
                                        have p162 : 0 ≤ (x7_1 : Int) := of_decide_eq_true (by first | (with_reducible assumption) | assumption)
                                        have q162 : x7_1 < (t127.length : Int) := of_decide_eq_true (by first | (with_reducible assumption) | assumption)
                                        obtain ⟨ad162, e162, hx162_0⟩ := Kd.at_string (Kd.R_reads' HO_6.out).2.2 x7_1 p162 q162
                                        obtain rfl : ad130 = ad162 := (by injection e162)
                                        replace p162 := eq_true p162
                                        replace q162 := eq_true q162
                                        have p163 : 0 ≤ (x7_1 : Int) := of_decide_eq_true (by first | (with_reducible assumption) | assumption)
                                        have q163 : x7_1 < (t127.length : Int) := of_decide_eq_true (by first | (with_reducible assumption) | assumption)
                                        obtain ⟨ad163, e163, hx163_0⟩ := Kd.at_string (Kd.R_reads' HO_6.out).2.2 x7_1 p163 q163
                                        obtain rfl : ad130 = ad163 := (by injection e163)
                                        replace p163 := eq_true p163
                                        replace q163 := eq_true q163
                                        go_wp2_with (first | (go_at_call 12; (with_reducible refine (num_Floaty.calls k1 (rdOf ByteArray.empty t127 x7_1) t164 _ A63.out).mono ?_); rintro e w67 ⟨rfl, hb⟩; have n0_ := Aside0.mk (Kd.R_below (by (with_reducible repeat (first | apply Kd.R_alloc | apply Kd.R_drewN | apply Kd.R_drew)); exact HO_6.out) hb); have n1_ := Aside0.mk (below_step (by repeat (first | (with_reducible first | exact HB.out | apply below_alloc | apply pw_below_drewN | apply below_drew1) | exact HB.out)) hb); clear HO_6; clear HB; have HO_6 := n0_; have HB := n1_; clear n0_ n1_; (try clear hb); (try clear hb2); (try clear hk); (try clear hi); have p165 : 0 ≤ (x7_1 : Int) := of_decide_eq_true (by first | (with_reducible assumption) | assumption); have q165 : x7_1 < (t127.length : Int) := of_decide_eq_true (by first | (with_reducible assumption) | assumption); obtain ⟨ad165, e165, hx165_0⟩ := Kd.at_string (Kd.R_reads' HO_6.out).2.2 x7_1 p165 q165; obtain rfl : ad130 = ad165 := (by injection e165); replace p165 := eq_true p165; replace q165 := eq_true q165))
                                        repeat (go_quiet (first | (go_at_call 12; (with_reducible refine (num_Floaty.calls k1 (rdOf ByteArray.empty t127 x7_1) t164 _ A63.out).mono ?_); rintro e w67 ⟨rfl, hb⟩; have n0_ := Aside0.mk (Kd.R_below (by (with_reducible repeat (first | apply Kd.R_alloc | apply Kd.R_drewN | apply Kd.R_drew)); exact HO_6.out) hb); have n1_ := Aside0.mk (below_step (by repeat (first | (with_reducible first | exact HB.out | apply below_alloc | apply pw_below_drewN | apply below_drew1) | exact HB.out)) hb); clear HO_6; clear HB; have HO_6 := n0_; have HB := n1_; clear n0_ n1_; (try clear hb); (try clear hb2); (try clear hk); (try clear hi); have p165 : 0 ≤ (x7_1 : Int) := of_decide_eq_true (by first | (with_reducible assumption) | assumption); have q165 : x7_1 < (t127.length : Int) := of_decide_eq_true (by first | (with_reducible assumption) | assumption); obtain ⟨ad165, e165, hx165_0⟩ := Kd.at_string (Kd.R_reads' HO_6.out).2.2 x7_1 p165 q165; obtain rfl : ad130 = ad165 := (by injection e165); replace p165 := eq_true p165; replace q165 := eq_true q165)); try go_wp2_with (first | (go_at_call 12; (with_reducible refine (num_Floaty.calls k1 (rdOf ByteArray.empty t127 x7_1) t164 _ A63.out).mono ?_); rintro e w67 ⟨rfl, hb⟩; have n0_ := Aside0.mk (Kd.R_below (by (with_reducible repeat (first | apply Kd.R_alloc | apply Kd.R_drewN | apply Kd.R_drew)); exact HO_6.out) hb); have n1_ := Aside0.mk (below_step (by repeat (first | (with_reducible first | exact HB.out | apply below_alloc | apply pw_below_drewN | apply below_drew1) | exact HB.out)) hb); clear HO_6; clear HB; have HO_6 := n0_; have HB := n1_; clear n0_ n1_; (try clear hb); (try clear hb2); (try clear hk); (try clear hi); have p165 : 0 ≤ (x7_1 : Int) := of_decide_eq_true (by first | (with_reducible assumption) | assumption); have q165 : x7_1 < (t127.length : Int) := of_decide_eq_true (by first | (with_reducible assumption) | assumption); obtain ⟨ad165, e165, hx165_0⟩ := Kd.at_string (Kd.R_reads' HO_6.out).2.2 x7_1 p165 q165; obtain rfl : ad130 = ad165 := (by injection e165); replace p165 := eq_true p165; replace q165 := eq_true q165)))
                                        go_meet
                                        case rel => exact ⟨_, ((t164 != ((rdOf ByteArray.empty t127 x7_1).toList == ([102, 108, 111, 97, 116] : List UInt8)))), (by first | rfl | (simp; done) | (simp [*]; done)), H', ⟨by have := HK1.out; first | omega | exact Nat.le_refl _⟩, ⟨by (with_reducible repeat (first | apply Kd.R_alloc | apply Kd.R_drewN | apply Kd.R_drew)); exact HO_6.out⟩, ⟨by repeat (first | (with_reducible first | exact HB.out | apply below_alloc | apply pw_below_drewN | apply below_drew1) | exact HB.out)⟩⟩
                                    · rw [if_neg c64] at H
                                      have c64b0 : decide (7 ≤ x7_1) = false := decide_eq_false c64
                                      clear c64
                                      have H' := Aside0.mk H
                                      clear H
                                      have p137 : 0 ≤ (x7_1 : Int) := of_decide_eq_true (by first | (with_reducible assumption) | assumption)
                                      have q137 : x7_1 < (t127.length : Int) := of_decide_eq_true (by first | (with_reducible assumption) | assumption)
                                      obtain ⟨ad137, e137, hx137_0⟩ := Kd.at_string (Kd.R_reads' HO_6.out).2.2 x7_1 p137 q137
                                      obtain rfl : ad130 = ad137 := (by injection e137)
                                      replace p137 := eq_true p137
                                      replace q137 := eq_true q137
                                      have p152 : 0 ≤ (x7_1 : Int) := of_decide_eq_true (by first | (with_reducible assumption) | assumption)
                                      have q152 : x7_1 < (t127.length : Int) := of_decide_eq_true (by first | (with_reducible assumption) | assumption)
                                      obtain ⟨ad152, e152, hx152_0⟩ := Kd.at_string (Kd.R_reads' HO_6.out).2.2 x7_1 p152 q152
                                      obtain rfl : ad130 = ad152 := (by injection e152)
                                      replace p152 := eq_true p152
                                      replace q152 := eq_true q152
                                      have p157 : 0 ≤ (x7_1 : Int) := of_decide_eq_true (by first | (with_reducible assumption) | assumption)
                                      have q157 : x7_1 < (t127.length : Int) := of_decide_eq_true (by first | (with_reducible assumption) | assumption)
                                      obtain ⟨ad157, e157, hx157_0⟩ := Kd.at_string (Kd.R_reads' HO_6.out).2.2 x7_1 p157 q157
                                      obtain rfl : ad130 = ad157 := (by injection e157)
                                      replace p157 := eq_true p157
                                      replace q157 := eq_true q157
                                      have p162 : 0 ≤ (x7_1 : Int) := of_decide_eq_true (by first | (with_reducible assumption) | assumption)
                                      have q162 : x7_1 < (t127.length : Int) := of_decide_eq_true (by first | (with_reducible assumption) | assumption)
                                      obtain ⟨ad162, e162, hx162_0⟩ := Kd.at_string (Kd.R_reads' HO_6.out).2.2 x7_1 p162 q162
                                      obtain rfl : ad130 = ad162 := (by injection e162)
                                      replace p162 := eq_true p162
                                      replace q162 := eq_true q162
                                      have p163 : 0 ≤ (x7_1 : Int) := of_decide_eq_true (by first | (with_reducible assumption) | assumption)
                                      have q163 : x7_1 < (t127.length : Int) := of_decide_eq_true (by first | (with_reducible assumption) | assumption)
                                      obtain ⟨ad163, e163, hx163_0⟩ := Kd.at_string (Kd.R_reads' HO_6.out).2.2 x7_1 p163 q163
                                      obtain rfl : ad130 = ad163 := (by injection e163)
                                      replace p163 := eq_true p163
                                      replace q163 := eq_true q163
                                      go_wp2_with (first | (go_at_call 12; (with_reducible refine (num_Floaty.calls k1 (rdOf ByteArray.empty t127 x7_1) t164 _ A63.out).mono ?_); rintro e w68 ⟨rfl, hb⟩; have n0_ := Aside0.mk (Kd.R_below (by (with_reducible repeat (first | apply Kd.R_alloc | apply Kd.R_drewN | apply Kd.R_drew)); exact HO_6.out) hb); have n1_ := Aside0.mk (below_step (by repeat (first | (with_reducible first | exact HB.out | apply below_alloc | apply pw_below_drewN | apply below_drew1) | exact HB.out)) hb); clear HO_6; clear HB; have HO_6 := n0_; have HB := n1_; clear n0_ n1_; (try clear hb); (try clear hb2); (try clear hk); (try clear hi); have p166 : 0 ≤ (x7_1 : Int) := of_decide_eq_true (by first | (with_reducible assumption) | assumption); have q166 : x7_1 < (t127.length : Int) := of_decide_eq_true (by first | (with_reducible assumption) | assumption); obtain ⟨ad166, e166, hx166_0⟩ := Kd.at_string (Kd.R_reads' HO_6.out).2.2 x7_1 p166 q166; obtain rfl : ad130 = ad166 := (by injection e166); replace p166 := eq_true p166; replace q166 := eq_true q166))
                                      repeat (go_quiet (first | (go_at_call 12; (with_reducible refine (num_Floaty.calls k1 (rdOf ByteArray.empty t127 x7_1) t164 _ A63.out).mono ?_); rintro e w68 ⟨rfl, hb⟩; have n0_ := Aside0.mk (Kd.R_below (by (with_reducible repeat (first | apply Kd.R_alloc | apply Kd.R_drewN | apply Kd.R_drew)); exact HO_6.out) hb); have n1_ := Aside0.mk (below_step (by repeat (first | (with_reducible first | exact HB.out | apply below_alloc | apply pw_below_drewN | apply below_drew1) | exact HB.out)) hb); clear HO_6; clear HB; have HO_6 := n0_; have HB := n1_; clear n0_ n1_; (try clear hb); (try clear hb2); (try clear hk); (try clear hi); have p166 : 0 ≤ (x7_1 : Int) := of_decide_eq_true (by first | (with_reducible assumption) | assumption); have q166 : x7_1 < (t127.length : Int) := of_decide_eq_true (by first | (with_reducible assumption) | assumption); obtain ⟨ad166, e166, hx166_0⟩ := Kd.at_string (Kd.R_reads' HO_6.out).2.2 x7_1 p166 q166; obtain rfl : ad130 = ad166 := (by injection e166); replace p166 := eq_true p166; replace q166 := eq_true q166)); try go_wp2_with (first | (go_at_call 12; (with_reducible refine (num_Floaty.calls k1 (rdOf ByteArray.empty t127 x7_1) t164 _ A63.out).mono ?_); rintro e w68 ⟨rfl, hb⟩; have n0_ := Aside0.mk (Kd.R_below (by (with_reducible repeat (first | apply Kd.R_alloc | apply Kd.R_drewN | apply Kd.R_drew)); exact HO_6.out) hb); have n1_ := Aside0.mk (below_step (by repeat (first | (with_reducible first | exact HB.out | apply below_alloc | apply pw_below_drewN | apply below_drew1) | exact HB.out)) hb); clear HO_6; clear HB; have HO_6 := n0_; have HB := n1_; clear n0_ n1_; (try clear hb); (try clear hb2); (try clear hk); (try clear hi); have p166 : 0 ≤ (x7_1 : Int) := of_decide_eq_true (by first | (with_reducible assumption) | assumption); have q166 : x7_1 < (t127.length : Int) := of_decide_eq_true (by first | (with_reducible assumption) | assumption); obtain ⟨ad166, e166, hx166_0⟩ := Kd.at_string (Kd.R_reads' HO_6.out).2.2 x7_1 p166 q166; obtain rfl : ad130 = ad166 := (by injection e166); replace p166 := eq_true p166; replace q166 := eq_true q166)))
                                      go_meet
                                      case rel => exact ⟨_, ((t164 != ((rdOf ByteArray.empty t127 x7_1).toList == ([102, 108, 111, 97, 116] : List UInt8)))), (by first | rfl | (simp; done) | (simp [*]; done)), H', ⟨by have := HK1.out; first | omega | exact Nat.le_refl _⟩, ⟨by (with_reducible repeat (first | apply Kd.R_alloc | apply Kd.R_drewN | apply Kd.R_drew)); exact HO_6.out⟩, ⟨by repeat (first | (with_reducible first | exact HB.out | apply below_alloc | apply pw_below_drewN | apply below_drew1) | exact HB.out)⟩⟩
                                  · rw [if_neg c62] at H
                                    exact absurd H (by simp)
                              · rw [if_neg c54] at H
                                exact absurd H (by simp)
                · replace c17 := Bool.eq_false_iff.mpr c17
                  subst c17
                  have H1 : (none) = some r := by rw [if_neg (show ¬ (false = true) by decide)] at H; exact H
                  clear H
                  have H := H1
                  clear H1
                  exact absurd H (by simp)
              case rest =>
                clear HC14
                try clear c1
                try clear p1
                try clear q1
                try clear hx1
                try clear c2
                try clear p2
                try clear c3
                try clear c4
                try clear c5
                try clear c6
                try clear p13
                try clear q13
                try clear hx13
                try clear p14
                try clear q14
                try clear hx14
                try clear p15
                try clear q15
                try clear hx15
                try clear p16
                try clear q16
                try clear hx16
                try clear c17
                try clear c20
                try clear c20b0
                try clear c20b1
                try clear c30
                try clear c31
                try clear c31b0
                try clear c31b1
                try clear c33
                try clear c33b0
                try clear c34
                try clear c34b0
                try clear c38
                try clear c38b0
                try clear c38b1
                try clear c40
                try clear c40b0
                try clear c41
                try clear c41b0
                try clear c45
                try clear c45b0
                try clear c45b1
                try clear c45b2
                try clear c46
                try clear c46b0
                try clear c46b1
                try clear c46b2
                try clear c47
                try clear c47b0
                try clear c47b1
                try clear c49
                try clear c49b0
                try clear c50
                try clear c50b0
                try clear c54
                try clear c54b0
                try clear c54b1
                try clear c55
                try clear c55b0
                try clear c55b1
                try clear c57
                try clear c57b0
                try clear c58
                try clear c58b0
                try clear c62
                try clear c62b0
                try clear c62b1
                try clear c64
                try clear c64b0
                try clear c65
                try clear c65b0
                try clear hx137_0
                try clear hx142_0
                try clear hx143_0
                try clear hx145_0
                try clear hx146_0
                try clear hx147_0
                try clear hx148_0
                try clear hx150_0
                try clear hx151_0
                try clear hx152_0
                try clear hx153_0
                try clear hx155_0
                try clear hx156_0
                try clear hx157_0
                try clear hx158_0
                try clear hx160_0
                try clear hx161_0
                try clear hx162_0
                try clear hx163_0
                try clear hx165_0
                try clear hx166_0
                try clear p137
                try clear p142
                try clear p143
                try clear p145
                try clear p146
                try clear p147
                try clear p148
                try clear p150
                try clear p151
                try clear p152
                try clear p153
                try clear p155
                try clear p156
                try clear p157
                try clear p158
                try clear p160
                try clear p161
                try clear p162
                try clear p163
                try clear p165
                try clear p166
                try clear q137
                try clear q142
                try clear q143
                try clear q145
                try clear q146
                try clear q147
                try clear q148
                try clear q150
                try clear q151
                try clear q152
                try clear q153
                try clear q155
                try clear q156
                try clear q157
                try clear q158
                try clear q160
                try clear q161
                try clear q162
                try clear q163
                try clear q165
                try clear q166
                obtain ⟨kq, x123_13, rfl, HA, HJ13, HO_6, HB⟩ := hcut
                cases kq with
                | zero => exact absurd HA.out (by simp [gristmilllaw2_NumWords.j1])
                | succ kj13 =>
                  have H := HA.out
                  clear HA
                  simp only [gristmilllaw2_NumWords.j1] at H
                  by_cases c69 : x123_13 = true
                  · subst c69
                    have H1 : (none) = some r := by rw [if_pos rfl] at H; exact H
                    clear H
                    have H := H1
                    clear H1
                    exact absurd H (by simp)
                  · replace c69 := Bool.eq_false_iff.mpr c69
                    subst c69
                    have H1 : (gristmilllaw2_NumWords.l1 kj13 a0 a1 true t127 x7_1 0) = some r := by rw [if_neg (show ¬ (false = true) by decide)] at H; exact H
                    clear H
                    have H := H1
                    clear H1
                    have H' := Aside0.mk H
                    clear H
                    go_wp2
                    repeat (go_quiet (fail); try go_wp2)
                    go_loopg [13] kj13 (fun kq v13 w' => ∃ (x13_3 : Int), v13 = .int .i64 x13_3 ∧ Aside0 (gristmilllaw2_NumWords.l1 kq a0 a1 true t127 x7_1 x13_3 = some r) ∧ Aside0 (kq ≤ kj13) ∧ Aside0 (Kd.R Kd.string 9 w' w.heap.size (fun _ => True) (.slice (some ad130) t127.length co9) t127) ∧ Aside0 (Below w.heap.size w w'))
                    case atStart => exact ⟨(0), (by first | rfl | (simp; done) | (simp [*]; done)), H', ⟨Nat.le_refl _⟩, ⟨by (with_reducible repeat (first | apply Kd.R_alloc | apply Kd.R_drewN | apply Kd.R_drew)); exact HO_6.out⟩, ⟨by repeat (first | (with_reducible first | exact HB.out | apply below_alloc | apply pw_below_drewN | apply below_drew1) | exact HB.out)⟩⟩
                    case round =>
                      clear H'
                      try clear c1
                      try clear p1
                      try clear q1
                      try clear hx1
                      try clear c2
                      try clear p2
                      try clear c3
                      try clear c4
                      try clear c5
                      try clear c6
                      try clear p13
                      try clear q13
                      try clear hx13
                      try clear p14
                      try clear q14
                      try clear hx14
                      try clear p15
                      try clear q15
                      try clear hx15
                      try clear p16
                      try clear q16
                      try clear hx16
                      try clear c17
                      try clear c20
                      try clear c20b0
                      try clear c20b1
                      try clear c30
                      try clear c31
                      try clear c31b0
                      try clear c31b1
                      try clear c33
                      try clear c33b0
                      try clear c34
                      try clear c34b0
                      try clear c38
                      try clear c38b0
                      try clear c38b1
                      try clear c40
                      try clear c40b0
                      try clear c41
                      try clear c41b0
                      try clear c45
                      try clear c45b0
                      try clear c45b1
                      try clear c45b2
                      try clear c46
                      try clear c46b0
                      try clear c46b1
                      try clear c46b2
                      try clear c47
                      try clear c47b0
                      try clear c47b1
                      try clear c49
                      try clear c49b0
                      try clear c50
                      try clear c50b0
                      try clear c54
                      try clear c54b0
                      try clear c54b1
                      try clear c55
                      try clear c55b0
                      try clear c55b1
                      try clear c57
                      try clear c57b0
                      try clear c58
                      try clear c58b0
                      try clear c62
                      try clear c62b0
                      try clear c62b1
                      try clear c64
                      try clear c64b0
                      try clear c65
                      try clear c65b0
                      try clear c69
                      try clear hx137_0
                      try clear hx142_0
                      try clear hx143_0
                      try clear hx145_0
                      try clear hx146_0
                      try clear hx147_0
                      try clear hx148_0
                      try clear hx150_0
                      try clear hx151_0
                      try clear hx152_0
                      try clear hx153_0
                      try clear hx155_0
                      try clear hx156_0
                      try clear hx157_0
                      try clear hx158_0
                      try clear hx160_0
                      try clear hx161_0
                      try clear hx162_0
                      try clear hx163_0
                      try clear hx165_0
                      try clear hx166_0
                      try clear p1
                      try clear p13
                      try clear p137
                      try clear p14
                      try clear p142
                      try clear p143
                      try clear p145
                      try clear p146
                      try clear p147
                      try clear p148
                      try clear p15
                      try clear p150
                      try clear p151
                      try clear p152
                      try clear p153
                      try clear p155
                      try clear p156
                      try clear p157
                      try clear p158
                      try clear p16
                      try clear p160
                      try clear p161
                      try clear p162
                      try clear p163
                      try clear p165
                      try clear p166
                      try clear p2
                      try clear q1
                      try clear q13
                      try clear q137
                      try clear q14
                      try clear q142
                      try clear q143
                      try clear q145
                      try clear q146
                      try clear q147
                      try clear q148
                      try clear q15
                      try clear q150
                      try clear q151
                      try clear q152
                      try clear q153
                      try clear q155
                      try clear q156
                      try clear q157
                      try clear q158
                      try clear q16
                      try clear q160
                      try clear q161
                      try clear q162
                      try clear q163
                      try clear q165
                      try clear q166
                      obtain ⟨x13_3, rfl, HA, HK3, HO_6, HB⟩ := hrel
                      cases gk with
                      | zero => exact absurd HA.out (by simp [gristmilllaw2_NumWords.l1])
                      | succ k3 =>
                        have H := HA.out
                        clear HA
                        simp only [gristmilllaw2_NumWords.l1] at H
                        by_cases c70 : x13_3 < x7_1
                        · rw [if_pos c70] at H
                          have c70b0 : decide (x13_3 < x7_1) = true := decide_eq_true c70
                          clear c70
                          by_cases c71 : 0 ≤ x13_3
                          · rw [if_pos c71] at H
                            have c71b0 : decide (0 ≤ x13_3) = true := decide_eq_true c71
                            clear c71
                            by_cases c72 : x13_3 < (t127.length : Int)
                            · rw [if_pos c72] at H
                              have c72b0 : decide (x13_3 < (t127.length : Int)) = true := decide_eq_true c72
                              clear c72
                              by_cases c73 : 0 ≤ x7_1
                              · rw [if_pos c73] at H
                                have c73b0 : decide (0 ≤ x7_1) = true := decide_eq_true c73
                                clear c73
                                by_cases c74 : x7_1 < (t127.length : Int)
                                · rw [if_pos c74] at H
                                  have c74b0 : decide (x7_1 < (t127.length : Int)) = true := decide_eq_true c74
                                  clear c74
                                  by_cases c75 : (rdOf ByteArray.empty t127 x13_3).toList = (rdOf ByteArray.empty t127 x7_1).toList
                                  · rw [if_pos c75] at H
                                    exact absurd H (by simp)
                                  · rw [if_neg c75] at H
                                    have c75b0 : ((rdOf ByteArray.empty t127 x13_3).toList == (rdOf ByteArray.empty t127 x7_1).toList) = false := beq_eq_false_iff_ne.mpr c75
                                    have c75b1 : ((rdOf ByteArray.empty t127 x13_3).toList != (rdOf ByteArray.empty t127 x7_1).toList) = true := bne_iff_ne.mpr c75
                                    have H' := Aside0.mk H
                                    clear H
                                    have p167 : 0 ≤ (x13_3 : Int) := of_decide_eq_true (by first | (with_reducible assumption) | assumption)
                                    have q167 : x13_3 < (t127.length : Int) := of_decide_eq_true (by first | (with_reducible assumption) | assumption)
                                    obtain ⟨ad167, e167, hx167_0⟩ := Kd.at_string (Kd.R_reads' HO_6.out).2.2 x13_3 p167 q167
                                    obtain rfl : ad130 = ad167 := (by injection e167)
                                    replace p167 := eq_true p167
                                    replace q167 := eq_true q167
                                    have p168 : 0 ≤ (x7_1 : Int) := of_decide_eq_true (by first | (with_reducible assumption) | assumption)
                                    have q168 : x7_1 < (t127.length : Int) := of_decide_eq_true (by first | (with_reducible assumption) | assumption)
                                    obtain ⟨ad168, e168, hx168_0⟩ := Kd.at_string (Kd.R_reads' HO_6.out).2.2 x7_1 p168 q168
                                    obtain rfl : ad130 = ad168 := (by injection e168)
                                    replace p168 := eq_true p168
                                    replace q168 := eq_true q168
                                    go_wp2
                                    repeat (go_quiet (fail); try go_wp2)
                                    go_roundg k3
                                    case measure => have := HK1.out; have := HJ13.out; have := HK3.out; omega
                                    case rel => exact ⟨(wrap64 (x13_3 + 1)), (by first | rfl | (simp; done) | (simp [*]; done)), H', ⟨by have := HK1.out; have := HJ13.out; have := HK3.out; omega⟩, ⟨by (with_reducible repeat (first | apply Kd.R_alloc | apply Kd.R_drewN | apply Kd.R_drew)); exact HO_6.out⟩, ⟨by repeat (first | (with_reducible first | exact HB.out | apply below_alloc | apply pw_below_drewN | apply below_drew1) | exact HB.out)⟩⟩
                                · rw [if_neg c74] at H
                                  exact absurd H (by simp)
                              · rw [if_neg c73] at H
                                exact absurd H (by simp)
                            · rw [if_neg c72] at H
                              exact absurd H (by simp)
                          · rw [if_neg c71] at H
                            exact absurd H (by simp)
                        · rw [if_neg c70] at H
                          have c70b0 : decide (x13_3 < x7_1) = false := decide_eq_false c70
                          clear c70
                          have H' := Aside0.mk H
                          clear H
                          go_wp2
                          repeat (go_quiet (fail); try go_wp2)
                          go_roundg k3
                          case measure => have := HK1.out; have := HJ13.out; have := HK3.out; omega
                          case rel => exact ⟨(wrap64 (x7_1 + 1)), (by first | rfl | (simp; done) | (simp [*]; done)), H', ⟨by have := HK1.out; have := HJ13.out; have := HK3.out; omega⟩, ⟨by (with_reducible repeat (first | apply Kd.R_alloc | apply Kd.R_drewN | apply Kd.R_drew)); exact HO_6.out⟩, ⟨by repeat (first | (with_reducible first | exact HB.out | apply below_alloc | apply pw_below_drewN | apply below_drew1) | exact HB.out)⟩⟩
            · rw [if_neg c11] at H
              exact absurd H (by simp)
          · rw [if_neg c10] at H
            have c10b0 : decide (x7_1 < (t127.length : Int)) = false := decide_eq_false c10
            clear c10
            replace H := Option.bind_eq_some_iff.mp H
            obtain ⟨⟨t169, t170⟩, A760, H⟩ := H
            replace H : (if true = true then (if t170 = true then (none) else ((gristmillref_Has.f k1 t127 (⟨#[115, 101, 113]⟩ : ByteArray)).bind fun t171 => (gristmilllaw2_NumWords.j3 k1 t171))) else (none)) = some r := H
            have A76 := Aside0.mk A760
            clear A760
            have HC77 := Aside0.mk H
            clear H
            go_upto_region 20 with (first | (go_at_call 11; (with_reducible refine (num_Arity.calls k1 (⟨#[]⟩ : ByteArray) t169 t170 _ A76.out).mono ?_); rintro e w78 ⟨rfl, hb⟩; have n0_ := Aside0.mk (Kd.R_below (by (with_reducible repeat (first | apply Kd.R_alloc | apply Kd.R_drewN | apply Kd.R_drew)); exact HO_6.out) hb); have n1_ := Aside0.mk (below_step (by repeat (first | (with_reducible first | exact HB.out | apply below_alloc | apply pw_below_drewN | apply below_drew1) | exact HB.out)) hb); clear HO_6; clear HB; have HO_6 := n0_; have HB := n1_; clear n0_ n1_; (try clear hb); (try clear hb2); (try clear hk); (try clear hi)))
            repeat (go_quiet (first | (go_at_call 11; (with_reducible refine (num_Arity.calls k1 (⟨#[]⟩ : ByteArray) t169 t170 _ A76.out).mono ?_); rintro e w78 ⟨rfl, hb⟩; have n0_ := Aside0.mk (Kd.R_below (by (with_reducible repeat (first | apply Kd.R_alloc | apply Kd.R_drewN | apply Kd.R_drew)); exact HO_6.out) hb); have n1_ := Aside0.mk (below_step (by repeat (first | (with_reducible first | exact HB.out | apply below_alloc | apply pw_below_drewN | apply below_drew1) | exact HB.out)) hb); clear HO_6; clear HB; have HO_6 := n0_; have HB := n1_; clear n0_ n1_; (try clear hb); (try clear hb2); (try clear hk); (try clear hi))); go_upto_region 20 with (first | (go_at_call 11; (with_reducible refine (num_Arity.calls k1 (⟨#[]⟩ : ByteArray) t169 t170 _ A76.out).mono ?_); rintro e w78 ⟨rfl, hb⟩; have n0_ := Aside0.mk (Kd.R_below (by (with_reducible repeat (first | apply Kd.R_alloc | apply Kd.R_drewN | apply Kd.R_drew)); exact HO_6.out) hb); have n1_ := Aside0.mk (below_step (by repeat (first | (with_reducible first | exact HB.out | apply below_alloc | apply pw_below_drewN | apply below_drew1) | exact HB.out)) hb); clear HO_6; clear HB; have HO_6 := n0_; have HB := n1_; clear n0_ n1_; (try clear hb); (try clear hb2); (try clear hk); (try clear hi))))
            (try simp only [Act.put, List.setIfInBounds_toArray, List.set_cons_zero, List.set_cons_succ])
            go_cut [4] (fun v4 wc => ∃ (kq : Nat) (x4_76 : Bool), v4 = .bool x4_76 ∧ Aside0 (gristmilllaw2_NumWords.j3 kq x4_76 = some r) ∧ Aside0 (kq ≤ k1) ∧ Aside0 (Below w.heap.size w wc))
            case first => as_aux_lemma =>
              (try simp only [List.append_eq, List.cons_append, List.nil_append])
              have H := HC77.out
              clear HC77
              have H1 : (if t170 = true then (none) else ((gristmillref_Has.f k1 t127 (⟨#[115, 101, 113]⟩ : ByteArray)).bind fun t171 => (gristmilllaw2_NumWords.j3 k1 t171))) = some r := by first | exact H | (rw [if_pos rfl] at H; exact H)
              clear H
              have H := H1
              clear H1
              by_cases c79 : t170 = true
              · subst c79
                have H1 : (none) = some r := by rw [if_pos rfl] at H; exact H
                clear H
                have H := H1
                clear H1
                exact absurd H (by simp)
              · replace c79 := Bool.eq_false_iff.mpr c79
                subst c79
                have H1 : ((gristmillref_Has.f k1 t127 (⟨#[115, 101, 113]⟩ : ByteArray)).bind fun t171 => (gristmilllaw2_NumWords.j3 k1 t171)) = some r := by rw [if_neg (show ¬ (false = true) by decide)] at H; exact H
                clear H
                have H := H1
                clear H1
                replace H := Option.bind_eq_some_iff.mp H
                obtain ⟨t171, A800, H⟩ := H
                replace H : (gristmilllaw2_NumWords.j3 k1 t171) = some r := H
                have A80 := Aside0.mk A800
                clear A800
                have H' := Aside0.mk H
                clear H
                go_wp2_with (first | (go_at_call 13; (with_reducible refine (gristmillref_Has.calls k1 _ _ t127 (⟨#[115, 101, 113]⟩ : ByteArray) t171 _ ?side1 ?side2 A80.out).mono ?_); (case side1 => repeat (first | exact (Kd.R_reads' HO_6.out).2.2 | (with_reducible refine Kd.C_alloc ?_ _) | (with_reducible refine Kd.C_drewN ?_ _) | (with_reducible refine Kd.C_drew ?_))); (case side2 => exact (Kd.R_reads' HO_6.out).2.1); rintro e w' ⟨rfl, ⟨nd, rfl⟩⟩; (try first | exact ⟨rfl, _, World.drewN_drewN _ _ _⟩ | exact ⟨rfl, _, Eq.trans (World.drewN_drewN _ _ _) (congrArg (World.drewN _) (Nat.add_assoc _ _ _))⟩)))
                repeat (go_quiet (first | (go_at_call 13; (with_reducible refine (gristmillref_Has.calls k1 _ _ t127 (⟨#[115, 101, 113]⟩ : ByteArray) t171 _ ?side1 ?side2 A80.out).mono ?_); (case side1 => repeat (first | exact (Kd.R_reads' HO_6.out).2.2 | (with_reducible refine Kd.C_alloc ?_ _) | (with_reducible refine Kd.C_drewN ?_ _) | (with_reducible refine Kd.C_drew ?_))); (case side2 => exact (Kd.R_reads' HO_6.out).2.1); rintro e w' ⟨rfl, ⟨nd, rfl⟩⟩; (try first | exact ⟨rfl, _, World.drewN_drewN _ _ _⟩ | exact ⟨rfl, _, Eq.trans (World.drewN_drewN _ _ _) (congrArg (World.drewN _) (Nat.add_assoc _ _ _))⟩))); try go_wp2_with (first | (go_at_call 13; (with_reducible refine (gristmillref_Has.calls k1 _ _ t127 (⟨#[115, 101, 113]⟩ : ByteArray) t171 _ ?side1 ?side2 A80.out).mono ?_); (case side1 => repeat (first | exact (Kd.R_reads' HO_6.out).2.2 | (with_reducible refine Kd.C_alloc ?_ _) | (with_reducible refine Kd.C_drewN ?_ _) | (with_reducible refine Kd.C_drew ?_))); (case side2 => exact (Kd.R_reads' HO_6.out).2.1); rintro e w' ⟨rfl, ⟨nd, rfl⟩⟩; (try first | exact ⟨rfl, _, World.drewN_drewN _ _ _⟩ | exact ⟨rfl, _, Eq.trans (World.drewN_drewN _ _ _) (congrArg (World.drewN _) (Nat.add_assoc _ _ _))⟩))))
                go_meet
                case rel => exact ⟨_, (t171), (by first | rfl | (simp; done) | (simp [*]; done)), H', ⟨by have := HK1.out; first | omega | exact Nat.le_refl _⟩, ⟨by repeat (first | (with_reducible first | exact HB.out | apply below_alloc | apply pw_below_drewN | apply below_drew1) | exact HB.out)⟩⟩
            case rest =>
              clear HC77
              try clear c1
              try clear p1
              try clear q1
              try clear hx1
              try clear c2
              try clear p2
              try clear c3
              try clear c4
              try clear c5
              try clear c6
              try clear p6
              try clear c7
              try clear c10
              try clear c10b0
              try clear c11
              try clear p13
              try clear q13
              try clear hx13
              try clear p14
              try clear q14
              try clear hx14
              try clear p15
              try clear q15
              try clear hx15
              try clear p16
              try clear q16
              try clear hx16
              try clear c17
              try clear c20
              try clear c20b0
              try clear c20b1
              try clear c30
              try clear c31
              try clear c31b0
              try clear c31b1
              try clear c33
              try clear c33b0
              try clear c34
              try clear c34b0
              try clear c38
              try clear c38b0
              try clear c38b1
              try clear c40
              try clear c40b0
              try clear c41
              try clear c41b0
              try clear c45
              try clear c45b0
              try clear c45b1
              try clear c45b2
              try clear c46
              try clear c46b0
              try clear c46b1
              try clear c46b2
              try clear c47
              try clear c47b0
              try clear c47b1
              try clear c49
              try clear c49b0
              try clear c50
              try clear c50b0
              try clear c54
              try clear c54b0
              try clear c54b1
              try clear c55
              try clear c55b0
              try clear c55b1
              try clear c57
              try clear c57b0
              try clear c58
              try clear c58b0
              try clear c62
              try clear c62b0
              try clear c62b1
              try clear c64
              try clear c64b0
              try clear p64
              try clear c65
              try clear c65b0
              try clear c69
              try clear c70
              try clear c70b0
              try clear c71
              try clear c71b0
              try clear c72
              try clear c72b0
              try clear c73
              try clear c73b0
              try clear c74
              try clear c74b0
              try clear c75
              try clear c75b0
              try clear c75b1
              try clear c79
              try clear hx137_0
              try clear hx142_0
              try clear hx143_0
              try clear hx145_0
              try clear hx146_0
              try clear hx147_0
              try clear hx148_0
              try clear hx150_0
              try clear hx151_0
              try clear hx152_0
              try clear hx153_0
              try clear hx155_0
              try clear hx156_0
              try clear hx157_0
              try clear hx158_0
              try clear hx160_0
              try clear hx161_0
              try clear hx162_0
              try clear hx163_0
              try clear hx165_0
              try clear hx166_0
              try clear hx167_0
              try clear hx168_0
              try clear p1
              try clear p13
              try clear p137
              try clear p14
              try clear p142
              try clear p143
              try clear p145
              try clear p146
              try clear p147
              try clear p148
              try clear p15
              try clear p150
              try clear p151
              try clear p152
              try clear p153
              try clear p155
              try clear p156
              try clear p157
              try clear p158
              try clear p16
              try clear p160
              try clear p161
              try clear p162
              try clear p163
              try clear p165
              try clear p166
              try clear p167
              try clear p168
              try clear p2
              try clear q1
              try clear q13
              try clear q137
              try clear q14
              try clear q142
              try clear q143
              try clear q145
              try clear q146
              try clear q147
              try clear q148
              try clear q15
              try clear q150
              try clear q151
              try clear q152
              try clear q153
              try clear q155
              try clear q156
              try clear q157
              try clear q158
              try clear q16
              try clear q160
              try clear q161
              try clear q162
              try clear q163
              try clear q165
              try clear q166
              try clear q167
              try clear q168
              obtain ⟨kq, x4_76, rfl, HA, HJ76, HB⟩ := hcut
              cases kq with
              | zero => exact absurd HA.out (by simp [gristmilllaw2_NumWords.j3])
              | succ kj76 =>
                have H := HA.out
                clear HA
                simp only [gristmilllaw2_NumWords.j3] at H
                obtain rfl := Option.some.inj H
                go_wp2
                repeat (go_quiet (fail); try go_wp2)
                go_ret
                exact ⟨by first | rfl | (simp [errW_none, errW_some] <;> rfl) | (simp [*, errW_none, errW_some] <;> rfl) | (simp [errW_none, errW_some] <;> (rw [Bool.eq_iff_iff]; simp; done)), by repeat (first | (with_reducible first | exact HB.out | apply below_alloc | apply pw_below_drewN | apply below_drew1) | exact HB.out)⟩
    · rw [if_neg c6] at H
      exact absurd H (by simp)
  · replace c4 := Bool.eq_false_iff.mpr c4
    subst c4
    have H1 : (none) = some r := by rw [if_neg (show ¬ (false = true) by decide)] at H; exact H
    clear H
    have H := H1
    clear H1
    exact absurd H (by simp)

/-- THE ONE PURE STATEMENT of gristmilllaw2_NumWords: yours. -/
def gristmilllaw2_NumWords.Pure : Prop := ∀ (a0 : Int) (a1 : Int), (Lit.int .i64 a0).wf = true → (Lit.int .i64 a1).wf = true → ∃ k, gristmilllaw2_NumWords.f k a0 a1 = some true
theorem gristmilllaw2_NumWords.walk (P : gristmilllaw2_NumWords.Pure) (a0 : Int) (a1 : Int) (w : World) (w0 : (Lit.int .i64 a0).wf = true) (w1 : (Lit.int .i64 a1).wf = true) (hGG : GG w) :
    Calls Tryd.prog 5 #[.int .i64 a0, .int .i64 a1] w fun e w' => e = .returned (.bool true) ∧ Below w.heap.size w w' := by
  obtain ⟨k, h⟩ := P a0 a1 w0 w1
  refine (gristmilllaw2_NumWords.calls k a0 a1 true w hGG h).mono ?_
  rintro e w' ⟨rfl, hd⟩
  exact ⟨rfl, hd⟩

end Go.Proofs.YtkikfkhonjobcaaDoor.PNumW
