/- For each Go function that the laws of this group reach: a plain function with the same answers, and the proof that the call comes to them wherever the plain function has an answer. No other condition. (Laid by a program of this session.) -/
import Derived.Test.YtpmpmgoddgcnjaaDoorPTagsBx0
import Derived.Test.YtpmpmgoddgcnjaaDoorPTagsBx2
import Derived.Test.YtpmpmgoddgcnjaaDoorPTagsBx3
import Derived.Test.YtpmpmgoddgcnjaaDoorPTagsBx4
import Derived.Test.YtpmpmgoddgcnjaaDoorPTagsBx6
import Derived.Test.YtpmpmgoddgcnjaaDoorExtT
namespace Go.Proofs.YtpmpmgoddgcnjaaDoor.PTagsB
open Go.RowKit Go.Proofs.YtpmpmgoddgcnjaaDoorW.PrintWords Go.Proofs.YtpmpmgoddgcnjaaDoorW.PrintLast Go.Proofs.YtpmpmgoddgcnjaaDoorW.PrintMore Go.Proofs.YtpmpmgoddgcnjaaDoor.ExtT
attribute [local go_sem] max2_int min2_int max_two min_two max_three min_three max_four min_four   -- for this text's walks alone
set_option linter.unusedVariables false
set_option linter.unusedSimpArgs false

/-! ### gristmilllaw14_TagsOrder: function 4 -/
mutual
def gristmilllaw14_TagsOrder.j0 : Nat → List (S23) → Bool → Bool → Bool → Int → ByteArray → Int → Int → ByteArray → Int → Option (Bool)
  | 0, _, _, _, _, _, _, _, _, _, _ => none
  | k + 1, x3, x9, x10, x59, x199000, x199001, x199002, x200000, x200001, x200002 => if x59 = true then (none) else ((tag_Set.f x3).bind fun t221 => (gristmilllaw14_TagsOrder.l0 k x3 x9 x10 t221 0 x199000 x199001 x199002 x200000 x200001 x200002))
def gristmilllaw14_TagsOrder.l0 : Nat → List (S23) → Bool → Bool → List (S23) → Int → Int → ByteArray → Int → Int → ByteArray → Int → Option (Bool)
  | 0, _, _, _, _, _, _, _, _, _, _, _ => none
  | k + 1, x3, x9, x10, x11, x12, x199000, x199001, x199002, x200000, x200001, x200002 => if x12 < (x11.length : Int) then (if x12 > 0 then (if 0 ≤ (wrap64 (x12 - 1)) then (if (wrap64 (x12 - 1)) < (x11.length : Int) then (if 0 ≤ x12 then ((tag_Less.f k ((rd_T23 x11 (wrap64 (x12 - 1))).f0) ((rd_T23 x11 (wrap64 (x12 - 1))).f1) ((rd_T23 x11 (wrap64 (x12 - 1))).f2) ((rd_T23 x11 x12).f0) ((rd_T23 x11 x12).f1) ((rd_T23 x11 x12).f2)).bind fun t226 => (if t226 = true then ((tag_Has.f k x3 ((rd_T23 x11 x12).f0) ((rd_T23 x11 x12).f1) ((rd_T23 x11 x12).f2)).bind fun t228 => (if t228 = true then (gristmilllaw14_TagsOrder.l0 k x3 x9 x10 x11 (wrap64 (x12 + 1)) x199000 x199001 x199002 x200000 x200001 x200002) else (none))) else (none))) else (none)) else (none)) else (none)) else (if 0 ≤ x12 then ((tag_Has.f k x3 ((rd_T23 x11 x12).f0) ((rd_T23 x11 x12).f1) ((rd_T23 x11 x12).f2)).bind fun t230 => (if t230 = true then (gristmilllaw14_TagsOrder.l0 k x3 x9 x10 x11 (wrap64 (x12 + 1)) x199000 x199001 x199002 x200000 x200001 x200002) else (none))) else (none))) else (gristmilllaw14_TagsOrder.l1 k x3 x9 x10 x11 0 x199000 x199001 x199002 x200000 x200001 x200002)
def gristmilllaw14_TagsOrder.l1 : Nat → List (S23) → Bool → Bool → List (S23) → Int → Int → ByteArray → Int → Int → ByteArray → Int → Option (Bool)
  | 0, _, _, _, _, _, _, _, _, _, _, _ => none
  | k + 1, x3, x9, x10, x11, x13, x199000, x199001, x199002, x200000, x200001, x200002 => if x13 < (x3.length : Int) then (if 0 ≤ x13 then ((tag_Has.f k x11 ((rd_T23 x3 x13).f0) ((rd_T23 x3 x13).f1) ((rd_T23 x3 x13).f2)).bind fun t232 => (if t232 = true then (gristmilllaw14_TagsOrder.l1 k x3 x9 x10 x11 (wrap64 (x13 + 1)) x199000 x199001 x199002 x200000 x200001 x200002) else (none))) else (none)) else ((tag_Valid.f k x199000 x199001 x199002).bind fun t233 => (if t233 = true then ((tag_Valid.f k x200000 x200001 x200002).bind fun t234 => (if t234 = true then ((tag_Text.f x199000 x199001 x199002).bind fun t235 => ((tag_Text.f x200000 x200001 x200002).bind fun t236 => (gristmilllaw14_TagsOrder.j3 k x9 ((t235.toList == t236.toList) != x10) x199000 x199001 x199002 x200000 x200001 x200002))) else (gristmilllaw14_TagsOrder.j3 k x9 false x199000 x199001 x199002 x200000 x200001 x200002))) else (gristmilllaw14_TagsOrder.j3 k x9 false x199000 x199001 x199002 x200000 x200001 x200002)))
def gristmilllaw14_TagsOrder.j3 : Nat → Bool → Bool → Int → ByteArray → Int → Int → ByteArray → Int → Option (Bool)
  | 0, _, _, _, _, _, _, _, _ => none
  | k + 1, x9, x119, x199000, x199001, x199002, x200000, x200001, x200002 => if x119 = true then (if x9 = true then (if x199000 = x200000 then (some (x199001.toList != x200001.toList)) else (none)) else (none)) else (if x9 = true then ((tag_Waits.f x199000 x199001 x199002).bind fun t237 => (if t237 = true then ((tag_Bare.f x199000 x199001 x199002).bind fun t238 => (some (!t238))) else (some (!false)))) else (none))
end
def gristmilllaw14_TagsOrder.f (k : Nat) (a0_0 : Int) (a0_1 : ByteArray) (a0_2 : Int) (a1_0 : Int) (a1_1 : ByteArray) (a1_2 : Int) (a2_0 : Int) (a2_1 : ByteArray) (a2_2 : Int) (l3 : List (S23)) : Option (Bool) := (gristmilllaw14_first.f).bind fun t201 => (if t201 = true then (if (l3.length : Int) > 20 then (some t201) else ((gristmillref_SameTag.f a0_0 a0_1 a0_2 a1_0 a1_1 a1_2).bind fun t202 => ((tag_Less.f k a0_0 a0_1 a0_2 a1_0 a1_1 a1_2).bind fun t203 => (if t203 = true then ((tag_Less.f k a1_0 a1_1 a1_2 a0_0 a0_1 a0_2).bind fun t204 => (if t204 = true then (none) else ((tag_Less.f k a0_0 a0_1 a0_2 a1_0 a1_1 a1_2).bind fun t205 => (if t205 = true then (if (true == t202) = true then (none) else ((tag_Less.f k a0_0 a0_1 a0_2 a1_0 a1_1 a1_2).bind fun t206 => (if t206 = true then ((tag_Less.f k a1_0 a1_1 a1_2 a2_0 a2_1 a2_2).bind fun t207 => (if t207 = true then ((tag_Less.f k a0_0 a0_1 a0_2 a2_0 a2_1 a2_2).bind fun t208 => (gristmilllaw14_TagsOrder.j0 k l3 t201 t202 (!t208) a0_0 a0_1 a0_2 a1_0 a1_1 a1_2)) else (gristmilllaw14_TagsOrder.j0 k l3 t201 t202 false a0_0 a0_1 a0_2 a1_0 a1_1 a1_2))) else (none)))) else (none))))) else ((tag_Less.f k a0_0 a0_1 a0_2 a1_0 a1_1 a1_2).bind fun t213 => (if t213 = true then (none) else ((tag_Less.f k a1_0 a1_1 a1_2 a0_0 a0_1 a0_2).bind fun t217 => (if (t217 == t202) = true then (none) else ((tag_Less.f k a0_0 a0_1 a0_2 a1_0 a1_1 a1_2).bind fun t218 => (if t218 = true then (none) else (gristmilllaw14_TagsOrder.j0 k l3 t201 t202 false a0_0 a0_1 a0_2 a1_0 a1_1 a1_2))))))))))) else (none))
theorem gristmilllaw14_TagsOrder.mono_l : ∀ k, (∀ y0 y1 y2 y3 y4 y5 y6 y7 y8 y9, LeO (gristmilllaw14_TagsOrder.j0 k y0 y1 y2 y3 y4 y5 y6 y7 y8 y9) (gristmilllaw14_TagsOrder.j0 (k + 1) y0 y1 y2 y3 y4 y5 y6 y7 y8 y9)) ∧ (∀ y0 y1 y2 y3 y4 y5 y6 y7 y8 y9 y10, LeO (gristmilllaw14_TagsOrder.l0 k y0 y1 y2 y3 y4 y5 y6 y7 y8 y9 y10) (gristmilllaw14_TagsOrder.l0 (k + 1) y0 y1 y2 y3 y4 y5 y6 y7 y8 y9 y10)) ∧ (∀ y0 y1 y2 y3 y4 y5 y6 y7 y8 y9 y10, LeO (gristmilllaw14_TagsOrder.l1 k y0 y1 y2 y3 y4 y5 y6 y7 y8 y9 y10) (gristmilllaw14_TagsOrder.l1 (k + 1) y0 y1 y2 y3 y4 y5 y6 y7 y8 y9 y10)) ∧ (∀ y0 y1 y2 y3 y4 y5 y6 y7, LeO (gristmilllaw14_TagsOrder.j3 k y0 y1 y2 y3 y4 y5 y6 y7) (gristmilllaw14_TagsOrder.j3 (k + 1) y0 y1 y2 y3 y4 y5 y6 y7))
  | 0 => ⟨fun _ _ _ _ _ _ _ _ _ _ r h => by simp [gristmilllaw14_TagsOrder.j0] at h, fun _ _ _ _ _ _ _ _ _ _ _ r h => by simp [gristmilllaw14_TagsOrder.l0] at h, fun _ _ _ _ _ _ _ _ _ _ _ r h => by simp [gristmilllaw14_TagsOrder.l1] at h, fun _ _ _ _ _ _ _ _ r h => by simp [gristmilllaw14_TagsOrder.j3] at h⟩
  | k + 1 => by
    obtain ⟨ih0, ih1, ih2, ih3⟩ := gristmilllaw14_TagsOrder.mono_l k
    refine ⟨?_, ?_, ?_, ?_⟩
    · intro y0 y1 y2 y3 y4 y5 y6 y7 y8 y9
      unfold gristmilllaw14_TagsOrder.j0
      repeat' first
      | (with_reducible exact ih0 _ _ _ _ _ _ _ _ _ _)
      | (with_reducible exact ih1 _ _ _ _ _ _ _ _ _ _ _)
      | (with_reducible exact ih2 _ _ _ _ _ _ _ _ _ _ _)
      | (with_reducible exact ih3 _ _ _ _ _ _ _ _)
      | (with_reducible exact tag_Has.mono _ _ _ _ _)
      | (with_reducible exact tag_Less.mono _ _ _ _ _ _ _)
      | (with_reducible exact tag_Valid.mono _ _ _ _)
      | (with_reducible exact LeO.refl _)
      | (with_reducible exact LeO.none _)
      | (with_reducible refine LeO.ite ?_ ?_)
      | (with_reducible refine LeO.bind ?_ (fun _ => ?_))
      | exact ih0 _ _ _ _ _ _ _ _ _ _
      | exact ih1 _ _ _ _ _ _ _ _ _ _ _
      | exact ih2 _ _ _ _ _ _ _ _ _ _ _
      | exact ih3 _ _ _ _ _ _ _ _
      | exact tag_Has.mono _ _ _ _ _
      | exact tag_Less.mono _ _ _ _ _ _ _
      | exact tag_Valid.mono _ _ _ _
      | exact LeO.none _
      | refine LeO.ite ?_ ?_
      | refine LeO.bind ?_ (fun _ => ?_)
    · intro y0 y1 y2 y3 y4 y5 y6 y7 y8 y9 y10
      unfold gristmilllaw14_TagsOrder.l0
      repeat' first
      | (with_reducible exact ih0 _ _ _ _ _ _ _ _ _ _)
      | (with_reducible exact ih1 _ _ _ _ _ _ _ _ _ _ _)
      | (with_reducible exact ih2 _ _ _ _ _ _ _ _ _ _ _)
      | (with_reducible exact ih3 _ _ _ _ _ _ _ _)
      | (with_reducible exact tag_Has.mono _ _ _ _ _)
      | (with_reducible exact tag_Less.mono _ _ _ _ _ _ _)
      | (with_reducible exact tag_Valid.mono _ _ _ _)
      | (with_reducible exact LeO.refl _)
      | (with_reducible exact LeO.none _)
      | (with_reducible refine LeO.ite ?_ ?_)
      | (with_reducible refine LeO.bind ?_ (fun _ => ?_))
      | exact ih0 _ _ _ _ _ _ _ _ _ _
      | exact ih1 _ _ _ _ _ _ _ _ _ _ _
      | exact ih2 _ _ _ _ _ _ _ _ _ _ _
      | exact ih3 _ _ _ _ _ _ _ _
      | exact tag_Has.mono _ _ _ _ _
      | exact tag_Less.mono _ _ _ _ _ _ _
      | exact tag_Valid.mono _ _ _ _
      | exact LeO.none _
      | refine LeO.ite ?_ ?_
      | refine LeO.bind ?_ (fun _ => ?_)
    · intro y0 y1 y2 y3 y4 y5 y6 y7 y8 y9 y10
      unfold gristmilllaw14_TagsOrder.l1
      repeat' first
      | (with_reducible exact ih0 _ _ _ _ _ _ _ _ _ _)
      | (with_reducible exact ih1 _ _ _ _ _ _ _ _ _ _ _)
      | (with_reducible exact ih2 _ _ _ _ _ _ _ _ _ _ _)
      | (with_reducible exact ih3 _ _ _ _ _ _ _ _)
      | (with_reducible exact tag_Has.mono _ _ _ _ _)
      | (with_reducible exact tag_Less.mono _ _ _ _ _ _ _)
      | (with_reducible exact tag_Valid.mono _ _ _ _)
      | (with_reducible exact LeO.refl _)
      | (with_reducible exact LeO.none _)
      | (with_reducible refine LeO.ite ?_ ?_)
      | (with_reducible refine LeO.bind ?_ (fun _ => ?_))
      | exact ih0 _ _ _ _ _ _ _ _ _ _
      | exact ih1 _ _ _ _ _ _ _ _ _ _ _
      | exact ih2 _ _ _ _ _ _ _ _ _ _ _
      | exact ih3 _ _ _ _ _ _ _ _
      | exact tag_Has.mono _ _ _ _ _
      | exact tag_Less.mono _ _ _ _ _ _ _
      | exact tag_Valid.mono _ _ _ _
      | exact LeO.none _
      | refine LeO.ite ?_ ?_
      | refine LeO.bind ?_ (fun _ => ?_)
    · intro y0 y1 y2 y3 y4 y5 y6 y7
      unfold gristmilllaw14_TagsOrder.j3
      repeat' first
      | (with_reducible exact ih0 _ _ _ _ _ _ _ _ _ _)
      | (with_reducible exact ih1 _ _ _ _ _ _ _ _ _ _ _)
      | (with_reducible exact ih2 _ _ _ _ _ _ _ _ _ _ _)
      | (with_reducible exact ih3 _ _ _ _ _ _ _ _)
      | (with_reducible exact tag_Has.mono _ _ _ _ _)
      | (with_reducible exact tag_Less.mono _ _ _ _ _ _ _)
      | (with_reducible exact tag_Valid.mono _ _ _ _)
      | (with_reducible exact LeO.refl _)
      | (with_reducible exact LeO.none _)
      | (with_reducible refine LeO.ite ?_ ?_)
      | (with_reducible refine LeO.bind ?_ (fun _ => ?_))
      | exact ih0 _ _ _ _ _ _ _ _ _ _
      | exact ih1 _ _ _ _ _ _ _ _ _ _ _
      | exact ih2 _ _ _ _ _ _ _ _ _ _ _
      | exact ih3 _ _ _ _ _ _ _ _
      | exact tag_Has.mono _ _ _ _ _
      | exact tag_Less.mono _ _ _ _ _ _ _
      | exact tag_Valid.mono _ _ _ _
      | exact LeO.none _
      | refine LeO.ite ?_ ?_
      | refine LeO.bind ?_ (fun _ => ?_)
theorem gristmilllaw14_TagsOrder.mono : ∀ a0 a1 a2 a3 a4 a5 a6 a7 a8 a9 k, LeO (gristmilllaw14_TagsOrder.f k a0 a1 a2 a3 a4 a5 a6 a7 a8 a9) (gristmilllaw14_TagsOrder.f (k + 1) a0 a1 a2 a3 a4 a5 a6 a7 a8 a9) := by
  intro a0 a1 a2 a3 a4 a5 a6 a7 a8 a9 k
  obtain ⟨ih0, ih1, ih2, ih3⟩ := gristmilllaw14_TagsOrder.mono_l k
  unfold gristmilllaw14_TagsOrder.f
  repeat' first
      | (with_reducible exact ih0 _ _ _ _ _ _ _ _ _ _)
      | (with_reducible exact ih1 _ _ _ _ _ _ _ _ _ _ _)
      | (with_reducible exact ih2 _ _ _ _ _ _ _ _ _ _ _)
      | (with_reducible exact ih3 _ _ _ _ _ _ _ _)
      | (with_reducible exact tag_Has.mono _ _ _ _ _)
      | (with_reducible exact tag_Less.mono _ _ _ _ _ _ _)
      | (with_reducible exact tag_Valid.mono _ _ _ _)
      | (with_reducible exact LeO.refl _)
      | (with_reducible exact LeO.none _)
      | (with_reducible refine LeO.ite ?_ ?_)
      | (with_reducible refine LeO.bind ?_ (fun _ => ?_))
      | exact ih0 _ _ _ _ _ _ _ _ _ _
      | exact ih1 _ _ _ _ _ _ _ _ _ _ _
      | exact ih2 _ _ _ _ _ _ _ _ _ _ _
      | exact ih3 _ _ _ _ _ _ _ _
      | exact tag_Has.mono _ _ _ _ _
      | exact tag_Less.mono _ _ _ _ _ _ _
      | exact tag_Valid.mono _ _ _ _
      | exact LeO.none _
      | refine LeO.ite ?_ ?_
      | refine LeO.bind ?_ (fun _ => ?_)
def gristmilllaw14_TagsOrder.T13 : Bool × List (List Nat × List Nat) := (true, [([], []), ([0], [0]), ([1], [1]), ([2], [2]), ([2], [2]), ([4, 2], [2, 4]), ([3, 5, 2], [2, 3, 5]), ([6, 2], [2, 6]), ([2], [2]), ([2], [2]), ([8, 9, 2], [2, 8, 9]), ([10, 2], [2, 10]), ([7, 11, 2, 2], [2, 7, 11]), ([12, 2], [2, 12]), ([2, 13], [2, 13]), ([14, 12], [14]), ([15], [15]), ([15], [15]), ([15], [15]), ([17, 18, 15], [15, 17, 18]), ([19, 15], [15, 19]), ([16, 20, 15, 15], [15, 16, 20]), ([21, 15], [15, 21]), ([15, 22], [15, 22])])
def gristmilllaw14_TagsOrder.B13 : List Nat := [0, 1, 3, 7, 7, 23, 63, 127, 7, 7, 775, 1799, 4095, 8191, 16383, 32767, 65535, 65535, 65535, 458751, 983039, 2097151, 4194303, 8388607]
theorem gristmilllaw14_TagsOrder.tab13 : rtab .any (opsOf Tryd.f4 13) = gristmilllaw14_TagsOrder.T13 := by kernel_rfl
theorem gristmilllaw14_TagsOrder.bits13 : waitsOk gristmilllaw14_TagsOrder.T13.2 gristmilllaw14_TagsOrder.B13 = true := by kernel_rfl
def gristmilllaw14_TagsOrder.T20 : Bool × List (List Nat × List Nat) := (true, [([], []), ([0], [0]), ([1, 1], [1]), ([2], [2]), ([3, 2, 2], [2, 3]), ([2, 4], [2, 4]), ([5, 4], [5]), ([6], [6]), ([7, 6, 6], [6, 7]), ([6], [6]), ([9, 8, 6], [6, 9]), ([8, 10, 6], [6, 8, 10]), ([6], [6]), ([11, 12, 6], [6, 11, 12]), ([6, 13], [6, 13])])
def gristmilllaw14_TagsOrder.B20 : List Nat := [0, 1, 3, 7, 15, 31, 63, 127, 255, 127, 1023, 2047, 127, 8191, 16383]
theorem gristmilllaw14_TagsOrder.tab20 : rtab .any (opsOf Tryd.f4 20) = gristmilllaw14_TagsOrder.T20 := by kernel_rfl
theorem gristmilllaw14_TagsOrder.bits20 : waitsOk gristmilllaw14_TagsOrder.T20.2 gristmilllaw14_TagsOrder.B20 = true := by kernel_rfl
set_option maxHeartbeats 8000000 in
set_option maxRecDepth 100000 in
theorem gristmilllaw14_TagsOrder.calls (k : Nat) (a0_0 : Int) (a0_1 : ByteArray) (a0_2 : Int) (a1_0 : Int) (a1_1 : ByteArray) (a1_2 : Int) (a2_0 : Int) (a2_1 : ByteArray) (a2_2 : Int) (A3 : Option Addr) (c3 : Nat) (l3 : List (S23)) (r : Bool) (w : World) (hr3 : Kd.C k23 w A3 l3.length l3) (hc3 : l3.length ≤ c3) (h : gristmilllaw14_TagsOrder.f k a0_0 a0_1 a0_2 a1_0 a1_1 a1_2 a2_0 a2_1 a2_2 l3 = some r) :
    Calls Tryd.prog 4 #[.agg #[.int .i64 a0_0, .string a0_1, .int .i64 a0_2], .agg #[.int .i64 a1_0, .string a1_1, .int .i64 a1_2], .agg #[.int .i64 a2_0, .string a2_1, .int .i64 a2_2], .slice A3 l3.length c3] w fun e w' => e = .returned (.bool r) ∧ Below w.heap.size w w' := by
  have hu23 := Tryd.underlying23
  have HR3 := Aside0.mk hr3
  have HC3 := Aside0.mk hc3
  clear hr3 hc3
  have HB := Aside0.mk (Below.refl w.heap.size w)
  have H : ((gristmilllaw14_first.f).bind fun t201 => (if t201 = true then (if (l3.length : Int) > 20 then (some t201) else ((gristmillref_SameTag.f a0_0 a0_1 a0_2 a1_0 a1_1 a1_2).bind fun t202 => ((tag_Less.f k a0_0 a0_1 a0_2 a1_0 a1_1 a1_2).bind fun t203 => (if t203 = true then ((tag_Less.f k a1_0 a1_1 a1_2 a0_0 a0_1 a0_2).bind fun t204 => (if t204 = true then (none) else ((tag_Less.f k a0_0 a0_1 a0_2 a1_0 a1_1 a1_2).bind fun t205 => (if t205 = true then (if (true == t202) = true then (none) else ((tag_Less.f k a0_0 a0_1 a0_2 a1_0 a1_1 a1_2).bind fun t206 => (if t206 = true then ((tag_Less.f k a1_0 a1_1 a1_2 a2_0 a2_1 a2_2).bind fun t207 => (if t207 = true then ((tag_Less.f k a0_0 a0_1 a0_2 a2_0 a2_1 a2_2).bind fun t208 => (gristmilllaw14_TagsOrder.j0 k l3 t201 t202 (!t208) a0_0 a0_1 a0_2 a1_0 a1_1 a1_2)) else (gristmilllaw14_TagsOrder.j0 k l3 t201 t202 false a0_0 a0_1 a0_2 a1_0 a1_1 a1_2))) else (none)))) else (none))))) else ((tag_Less.f k a0_0 a0_1 a0_2 a1_0 a1_1 a1_2).bind fun t213 => (if t213 = true then (none) else ((tag_Less.f k a1_0 a1_1 a1_2 a0_0 a0_1 a0_2).bind fun t217 => (if (t217 == t202) = true then (none) else ((tag_Less.f k a0_0 a0_1 a0_2 a1_0 a1_1 a1_2).bind fun t218 => (if t218 = true then (none) else (gristmilllaw14_TagsOrder.j0 k l3 t201 t202 false a0_0 a0_1 a0_2 a1_0 a1_1 a1_2))))))))))) else (none))) = some r := h
  clear h
  replace H := Option.bind_eq_some_iff.mp H
  obtain ⟨t201, A50, H⟩ := H
  replace H : (if t201 = true then (if (l3.length : Int) > 20 then (some t201) else ((gristmillref_SameTag.f a0_0 a0_1 a0_2 a1_0 a1_1 a1_2).bind fun t202 => ((tag_Less.f k a0_0 a0_1 a0_2 a1_0 a1_1 a1_2).bind fun t203 => (if t203 = true then ((tag_Less.f k a1_0 a1_1 a1_2 a0_0 a0_1 a0_2).bind fun t204 => (if t204 = true then (none) else ((tag_Less.f k a0_0 a0_1 a0_2 a1_0 a1_1 a1_2).bind fun t205 => (if t205 = true then (if (true == t202) = true then (none) else ((tag_Less.f k a0_0 a0_1 a0_2 a1_0 a1_1 a1_2).bind fun t206 => (if t206 = true then ((tag_Less.f k a1_0 a1_1 a1_2 a2_0 a2_1 a2_2).bind fun t207 => (if t207 = true then ((tag_Less.f k a0_0 a0_1 a0_2 a2_0 a2_1 a2_2).bind fun t208 => (gristmilllaw14_TagsOrder.j0 k l3 t201 t202 (!t208) a0_0 a0_1 a0_2 a1_0 a1_1 a1_2)) else (gristmilllaw14_TagsOrder.j0 k l3 t201 t202 false a0_0 a0_1 a0_2 a1_0 a1_1 a1_2))) else (none)))) else (none))))) else ((tag_Less.f k a0_0 a0_1 a0_2 a1_0 a1_1 a1_2).bind fun t213 => (if t213 = true then (none) else ((tag_Less.f k a1_0 a1_1 a1_2 a0_0 a0_1 a0_2).bind fun t217 => (if (t217 == t202) = true then (none) else ((tag_Less.f k a0_0 a0_1 a0_2 a1_0 a1_1 a1_2).bind fun t218 => (if t218 = true then (none) else (gristmilllaw14_TagsOrder.j0 k l3 t201 t202 false a0_0 a0_1 a0_2 a1_0 a1_1 a1_2))))))))))) else (none)) = some r := H
  have A5 := Aside0.mk A50
  clear A50
  by_cases c6 : t201 = true
  · subst c6
    have H1 : (if (l3.length : Int) > 20 then (some true) else ((gristmillref_SameTag.f a0_0 a0_1 a0_2 a1_0 a1_1 a1_2).bind fun t202 => ((tag_Less.f k a0_0 a0_1 a0_2 a1_0 a1_1 a1_2).bind fun t203 => (if t203 = true then ((tag_Less.f k a1_0 a1_1 a1_2 a0_0 a0_1 a0_2).bind fun t204 => (if t204 = true then (none) else ((tag_Less.f k a0_0 a0_1 a0_2 a1_0 a1_1 a1_2).bind fun t205 => (if t205 = true then (if (true == t202) = true then (none) else ((tag_Less.f k a0_0 a0_1 a0_2 a1_0 a1_1 a1_2).bind fun t206 => (if t206 = true then ((tag_Less.f k a1_0 a1_1 a1_2 a2_0 a2_1 a2_2).bind fun t207 => (if t207 = true then ((tag_Less.f k a0_0 a0_1 a0_2 a2_0 a2_1 a2_2).bind fun t208 => (gristmilllaw14_TagsOrder.j0 k l3 true t202 (!t208) a0_0 a0_1 a0_2 a1_0 a1_1 a1_2)) else (gristmilllaw14_TagsOrder.j0 k l3 true t202 false a0_0 a0_1 a0_2 a1_0 a1_1 a1_2))) else (none)))) else (none))))) else ((tag_Less.f k a0_0 a0_1 a0_2 a1_0 a1_1 a1_2).bind fun t213 => (if t213 = true then (none) else ((tag_Less.f k a1_0 a1_1 a1_2 a0_0 a0_1 a0_2).bind fun t217 => (if (t217 == t202) = true then (none) else ((tag_Less.f k a0_0 a0_1 a0_2 a1_0 a1_1 a1_2).bind fun t218 => (if t218 = true then (none) else (gristmilllaw14_TagsOrder.j0 k l3 true t202 false a0_0 a0_1 a0_2 a1_0 a1_1 a1_2))))))))))) = some r := by rw [if_pos rfl] at H; exact H
    clear H
    have H := H1
    clear H1
    by_cases c7 : (l3.length : Int) > 20
    · rw [if_pos c7] at H
      have c7b0 : decide (20 < (l3.length : Int)) = true := decide_eq_true c7
      have c7b1 : decide (20 < l3.length) = true := decide_eq_true (by omega)
      clear c7
      obtain rfl := Option.some.inj H
      go_enter Tryd.func4, Tryd.ntmps4
      go_wp2_with (first | ((with_reducible refine gate_dst (N := 4) rfl ?_); refine box_event ?hg (N := 4) ?hd (cs := #[.int .i64 a0_0, .string a0_1, .int .i64 a0_2]) (t := 23) ?hr ?_; (case hd => rfl); (case hg => rfl); (case hr => first | (go_simp; done) | (go_simp; rfl)); intro gb198 hg w8 hbox hb; have n0_ := Aside0.mk (below_step (by repeat (first | (with_reducible first | exact HB.out | apply below_alloc | apply pw_below_drewN | apply below_drew1) | exact HB.out)) hb); have n1_ := Aside0.mk (hbox); have n2_ := Aside0.mk ((by rw [hg]; exact (below_size (by repeat (first | (with_reducible first | exact HB.out | apply below_alloc | apply pw_below_drewN | apply below_drew1) | exact HB.out))) : w.heap.size ≤ gb198)); have n3_ := Aside0.mk ((by rw [hg]; exact (below_size (by repeat (first | (with_reducible first | exact HB.out | apply below_alloc | apply pw_below_drewN | apply below_drew1) | exact HB.out))) : w.heap.size ≤ gb198)); clear HB; have HB := n0_; have BK198 := n1_; have GW198 := n2_; have GE198 := n3_; clear n0_ n1_ n2_ n3_; clear hb hbox hg) | ((with_reducible refine gate_dst (N := 5) rfl ?_); refine box_event ?hg (N := 5) ?hd (cs := #[.int .i64 a1_0, .string a1_1, .int .i64 a1_2]) (t := 23) ?hr ?_; (case hd => rfl); (case hg => rfl); (case hr => first | (go_simp; done) | (go_simp; rfl)); intro gb199 hg w9 hbox hb; have n0_ := Aside0.mk (blk_below (g := gb198) (o := .cells #[.int .i64 a0_0, .string a0_1, .int .i64 a0_2] 23 (0, 0)) (by (with_reducible repeat (first | refine blk_drewN ?_ _ | refine blk_drew ?_ | refine blk_alloc ?_ _)); exact BK198.out) hb); have n1_ := Aside0.mk (below_step (by repeat (first | (with_reducible first | exact HB.out | apply below_alloc | apply pw_below_drewN | apply below_drew1 | refine below_set ?_ GE198.out) | exact HB.out)) hb); have n2_ := Aside0.mk (hbox); have n3_ := Aside0.mk ((by rw [hg]; exact (below_size (by repeat (first | (with_reducible first | exact HB.out | apply below_alloc | apply pw_below_drewN | apply below_drew1 | refine below_set ?_ GE198.out) | exact HB.out))) : w.heap.size ≤ gb199)); have n4_ := Aside0.mk ((by rw [hg]; exact (below_size (by repeat (first | (with_reducible first | exact HB.out | apply below_alloc | apply pw_below_drewN | apply below_drew1 | refine below_set ?_ GE198.out) | exact HB.out))) : w.heap.size ≤ gb199)); have n5_ := Aside0.mk ((by rw [hg]; exact Nat.ne_of_lt (blk_lt (g := gb198) (o := .cells #[.int .i64 a0_0, .string a0_1, .int .i64 a0_2] 23 (0, 0)) (by (with_reducible repeat (first | refine blk_drewN ?_ _ | refine blk_drew ?_ | refine blk_alloc ?_ _)); exact BK198.out)) : gb198 ≠ gb199)); have n6_ := Aside0.mk ((by rw [hg]; exact Nat.ne_of_gt (blk_lt (g := gb198) (o := .cells #[.int .i64 a0_0, .string a0_1, .int .i64 a0_2] 23 (0, 0)) (by (with_reducible repeat (first | refine blk_drewN ?_ _ | refine blk_drew ?_ | refine blk_alloc ?_ _)); exact BK198.out)) : gb199 ≠ gb198)); clear BK198; clear HB; have BK198 := n0_; have HB := n1_; have BK199 := n2_; have GW199 := n3_; have GE199 := n4_; have NB198_199 := n5_; have NB199_198 := n6_; clear n0_ n1_ n2_ n3_ n4_ n5_ n6_; clear hb hbox hg) | ((with_reducible refine gate_dst (N := 6) rfl ?_); refine box_event ?hg (N := 6) ?hd (cs := #[.int .i64 a2_0, .string a2_1, .int .i64 a2_2]) (t := 23) ?hr ?_; (case hd => rfl); (case hg => rfl); (case hr => first | (go_simp; done) | (go_simp; rfl)); intro gb200 hg w10 hbox hb; have n0_ := Aside0.mk (blk_below (g := gb198) (o := .cells #[.int .i64 a0_0, .string a0_1, .int .i64 a0_2] 23 (0, 0)) (by (with_reducible repeat (first | refine blk_drewN ?_ _ | refine blk_drew ?_ | refine blk_alloc ?_ _)); exact BK198.out) hb); have n1_ := Aside0.mk (blk_below (g := gb199) (o := .cells #[.int .i64 a1_0, .string a1_1, .int .i64 a1_2] 23 (0, 0)) (by (with_reducible repeat (first | refine blk_drewN ?_ _ | refine blk_drew ?_ | refine blk_alloc ?_ _)); exact BK199.out) hb); have n2_ := Aside0.mk (below_step (by repeat (first | (with_reducible first | exact HB.out | apply below_alloc | apply pw_below_drewN | apply below_drew1 | refine below_set ?_ GE198.out | refine below_set ?_ GE199.out) | exact HB.out)) hb); have n3_ := Aside0.mk (hbox); have n4_ := Aside0.mk ((by rw [hg]; exact (below_size (by repeat (first | (with_reducible first | exact HB.out | apply below_alloc | apply pw_below_drewN | apply below_drew1 | refine below_set ?_ GE198.out | refine below_set ?_ GE199.out) | exact HB.out))) : w.heap.size ≤ gb200)); have n5_ := Aside0.mk ((by rw [hg]; exact (below_size (by repeat (first | (with_reducible first | exact HB.out | apply below_alloc | apply pw_below_drewN | apply below_drew1 | refine below_set ?_ GE198.out | refine below_set ?_ GE199.out) | exact HB.out))) : w.heap.size ≤ gb200)); have n6_ := Aside0.mk ((by rw [hg]; exact Nat.ne_of_lt (blk_lt (g := gb198) (o := .cells #[.int .i64 a0_0, .string a0_1, .int .i64 a0_2] 23 (0, 0)) (by (with_reducible repeat (first | refine blk_drewN ?_ _ | refine blk_drew ?_ | refine blk_alloc ?_ _)); exact BK198.out)) : gb198 ≠ gb200)); have n7_ := Aside0.mk ((by rw [hg]; exact Nat.ne_of_gt (blk_lt (g := gb198) (o := .cells #[.int .i64 a0_0, .string a0_1, .int .i64 a0_2] 23 (0, 0)) (by (with_reducible repeat (first | refine blk_drewN ?_ _ | refine blk_drew ?_ | refine blk_alloc ?_ _)); exact BK198.out)) : gb200 ≠ gb198)); have n8_ := Aside0.mk ((by rw [hg]; exact Nat.ne_of_lt (blk_lt (g := gb199) (o := .cells #[.int .i64 a1_0, .string a1_1, .int .i64 a1_2] 23 (0, 0)) (by (with_reducible repeat (first | refine blk_drewN ?_ _ | refine blk_drew ?_ | refine blk_alloc ?_ _)); exact BK199.out)) : gb199 ≠ gb200)); have n9_ := Aside0.mk ((by rw [hg]; exact Nat.ne_of_gt (blk_lt (g := gb199) (o := .cells #[.int .i64 a1_0, .string a1_1, .int .i64 a1_2] 23 (0, 0)) (by (with_reducible repeat (first | refine blk_drewN ?_ _ | refine blk_drew ?_ | refine blk_alloc ?_ _)); exact BK199.out)) : gb200 ≠ gb199)); clear BK198; clear BK199; clear HB; have BK198 := n0_; have BK199 := n1_; have HB := n2_; have BK200 := n3_; have GW200 := n4_; have GE200 := n5_; have NB198_200 := n6_; have NB200_198 := n7_; have NB199_200 := n8_; have NB200_199 := n9_; clear n0_ n1_ n2_ n3_ n4_ n5_ n6_ n7_ n8_ n9_; clear hb hbox hg) | ((with_reducible refine gate_callee (f := 7) rfl ?_); refine goesL_ (some 14) rfl rfl Tryd.func7 (by kernel_rfl) rfl #[] rfl (by (try simp only [List.map_toArray, List.map_cons, List.map_nil]); first | done | rfl | (simp only [List.length_drop, List.length_take]; rfl)) ?_; (with_reducible refine (gristmilllaw14_first.calls  true _ A5.out).mono ?_); rintro e w11 ⟨rfl, hb⟩; refine ⟨_, rfl, ?_⟩; have n0_ := Aside0.mk (blk_below (g := gb198) (o := .cells #[.int .i64 a0_0, .string a0_1, .int .i64 a0_2] 23 (0, 0)) (by (with_reducible repeat (first | refine blk_drewN ?_ _ | refine blk_drew ?_ | refine blk_alloc ?_ _)); exact BK198.out) hb); have n1_ := Aside0.mk (blk_below (g := gb199) (o := .cells #[.int .i64 a1_0, .string a1_1, .int .i64 a1_2] 23 (0, 0)) (by (with_reducible repeat (first | refine blk_drewN ?_ _ | refine blk_drew ?_ | refine blk_alloc ?_ _)); exact BK199.out) hb); have n2_ := Aside0.mk (blk_below (g := gb200) (o := .cells #[.int .i64 a2_0, .string a2_1, .int .i64 a2_2] 23 (0, 0)) (by (with_reducible repeat (first | refine blk_drewN ?_ _ | refine blk_drew ?_ | refine blk_alloc ?_ _)); exact BK200.out) hb); have n3_ := Aside0.mk (below_step (by repeat (first | (with_reducible first | exact HB.out | apply below_alloc | apply pw_below_drewN | apply below_drew1 | refine below_set ?_ GE198.out | refine below_set ?_ GE199.out | refine below_set ?_ GE200.out) | exact HB.out)) hb); clear BK198; clear BK199; clear BK200; clear HB; have BK198 := n0_; have BK199 := n1_; have BK200 := n2_; have HB := n3_; clear n0_ n1_ n2_ n3_; (try clear hb); (try clear hb2); (try clear hk); (try clear hi)))
      go_ret
      exact ⟨by first | rfl | (simp [errW_none, errW_some] <;> rfl) | (simp [*, errW_none, errW_some] <;> rfl) | (simp [errW_none, errW_some] <;> (rw [Bool.eq_iff_iff]; simp; done)), by repeat (first | (with_reducible first | exact HB.out | apply below_alloc | apply pw_below_drewN | apply below_drew1 | refine below_set ?_ GE198.out | refine below_set ?_ GE199.out | refine below_set ?_ GE200.out) | exact HB.out)⟩
    · rw [if_neg c7] at H
      have c7b0 : decide (20 < (l3.length : Int)) = false := decide_eq_false c7
      have c7b1 : decide (20 < l3.length) = false := decide_eq_false (by omega)
      clear c7
      replace H := Option.bind_eq_some_iff.mp H
      obtain ⟨t202, A120, H⟩ := H
      replace H : ((tag_Less.f k a0_0 a0_1 a0_2 a1_0 a1_1 a1_2).bind fun t203 => (if t203 = true then ((tag_Less.f k a1_0 a1_1 a1_2 a0_0 a0_1 a0_2).bind fun t204 => (if t204 = true then (none) else ((tag_Less.f k a0_0 a0_1 a0_2 a1_0 a1_1 a1_2).bind fun t205 => (if t205 = true then (if (true == t202) = true then (none) else ((tag_Less.f k a0_0 a0_1 a0_2 a1_0 a1_1 a1_2).bind fun t206 => (if t206 = true then ((tag_Less.f k a1_0 a1_1 a1_2 a2_0 a2_1 a2_2).bind fun t207 => (if t207 = true then ((tag_Less.f k a0_0 a0_1 a0_2 a2_0 a2_1 a2_2).bind fun t208 => (gristmilllaw14_TagsOrder.j0 k l3 true t202 (!t208) a0_0 a0_1 a0_2 a1_0 a1_1 a1_2)) else (gristmilllaw14_TagsOrder.j0 k l3 true t202 false a0_0 a0_1 a0_2 a1_0 a1_1 a1_2))) else (none)))) else (none))))) else ((tag_Less.f k a0_0 a0_1 a0_2 a1_0 a1_1 a1_2).bind fun t213 => (if t213 = true then (none) else ((tag_Less.f k a1_0 a1_1 a1_2 a0_0 a0_1 a0_2).bind fun t217 => (if (t217 == t202) = true then (none) else ((tag_Less.f k a0_0 a0_1 a0_2 a1_0 a1_1 a1_2).bind fun t218 => (if t218 = true then (none) else (gristmilllaw14_TagsOrder.j0 k l3 true t202 false a0_0 a0_1 a0_2 a1_0 a1_1 a1_2))))))))) = some r := H
      have A12 := Aside0.mk A120
      clear A120
      have HC13 := Aside0.mk H
      clear H
      go_enter Tryd.func4, Tryd.ntmps4
      go_upto_region 7 with (first | ((with_reducible refine gate_dst (N := 4) rfl ?_); refine box_event ?hg (N := 4) ?hd (cs := #[.int .i64 a0_0, .string a0_1, .int .i64 a0_2]) (t := 23) ?hr ?_; (case hd => rfl); (case hg => rfl); (case hr => first | (go_simp; done) | (go_simp; rfl)); intro gb198 hg w14 hbox hb; have n0_ := Aside0.mk (below_step (by repeat (first | (with_reducible first | exact HB.out | apply below_alloc | apply pw_below_drewN | apply below_drew1) | exact HB.out)) hb); have n1_ := Aside0.mk (hbox); have n2_ := Aside0.mk ((by rw [hg]; exact (below_size (by repeat (first | (with_reducible first | exact HB.out | apply below_alloc | apply pw_below_drewN | apply below_drew1) | exact HB.out))) : w.heap.size ≤ gb198)); have n3_ := Aside0.mk ((by rw [hg]; exact (below_size (by repeat (first | (with_reducible first | exact HB.out | apply below_alloc | apply pw_below_drewN | apply below_drew1) | exact HB.out))) : w.heap.size ≤ gb198)); clear HB; have HB := n0_; have BK198 := n1_; have GW198 := n2_; have GE198 := n3_; clear n0_ n1_ n2_ n3_; clear hb hbox hg) | ((with_reducible refine gate_dst (N := 5) rfl ?_); refine box_event ?hg (N := 5) ?hd (cs := #[.int .i64 a1_0, .string a1_1, .int .i64 a1_2]) (t := 23) ?hr ?_; (case hd => rfl); (case hg => rfl); (case hr => first | (go_simp; done) | (go_simp; rfl)); intro gb199 hg w15 hbox hb; have n0_ := Aside0.mk (blk_below (g := gb198) (o := .cells #[.int .i64 a0_0, .string a0_1, .int .i64 a0_2] 23 (0, 0)) (by (with_reducible repeat (first | refine blk_drewN ?_ _ | refine blk_drew ?_ | refine blk_alloc ?_ _)); exact BK198.out) hb); have n1_ := Aside0.mk (below_step (by repeat (first | (with_reducible first | exact HB.out | apply below_alloc | apply pw_below_drewN | apply below_drew1 | refine below_set ?_ GE198.out) | exact HB.out)) hb); have n2_ := Aside0.mk (hbox); have n3_ := Aside0.mk ((by rw [hg]; exact (below_size (by repeat (first | (with_reducible first | exact HB.out | apply below_alloc | apply pw_below_drewN | apply below_drew1 | refine below_set ?_ GE198.out) | exact HB.out))) : w.heap.size ≤ gb199)); have n4_ := Aside0.mk ((by rw [hg]; exact (below_size (by repeat (first | (with_reducible first | exact HB.out | apply below_alloc | apply pw_below_drewN | apply below_drew1 | refine below_set ?_ GE198.out) | exact HB.out))) : w.heap.size ≤ gb199)); have n5_ := Aside0.mk ((by rw [hg]; exact Nat.ne_of_lt (blk_lt (g := gb198) (o := .cells #[.int .i64 a0_0, .string a0_1, .int .i64 a0_2] 23 (0, 0)) (by (with_reducible repeat (first | refine blk_drewN ?_ _ | refine blk_drew ?_ | refine blk_alloc ?_ _)); exact BK198.out)) : gb198 ≠ gb199)); have n6_ := Aside0.mk ((by rw [hg]; exact Nat.ne_of_gt (blk_lt (g := gb198) (o := .cells #[.int .i64 a0_0, .string a0_1, .int .i64 a0_2] 23 (0, 0)) (by (with_reducible repeat (first | refine blk_drewN ?_ _ | refine blk_drew ?_ | refine blk_alloc ?_ _)); exact BK198.out)) : gb199 ≠ gb198)); clear BK198; clear HB; have BK198 := n0_; have HB := n1_; have BK199 := n2_; have GW199 := n3_; have GE199 := n4_; have NB198_199 := n5_; have NB199_198 := n6_; clear n0_ n1_ n2_ n3_ n4_ n5_ n6_; clear hb hbox hg) | ((with_reducible refine gate_dst (N := 6) rfl ?_); refine box_event ?hg (N := 6) ?hd (cs := #[.int .i64 a2_0, .string a2_1, .int .i64 a2_2]) (t := 23) ?hr ?_; (case hd => rfl); (case hg => rfl); (case hr => first | (go_simp; done) | (go_simp; rfl)); intro gb200 hg w16 hbox hb; have n0_ := Aside0.mk (blk_below (g := gb198) (o := .cells #[.int .i64 a0_0, .string a0_1, .int .i64 a0_2] 23 (0, 0)) (by (with_reducible repeat (first | refine blk_drewN ?_ _ | refine blk_drew ?_ | refine blk_alloc ?_ _)); exact BK198.out) hb); have n1_ := Aside0.mk (blk_below (g := gb199) (o := .cells #[.int .i64 a1_0, .string a1_1, .int .i64 a1_2] 23 (0, 0)) (by (with_reducible repeat (first | refine blk_drewN ?_ _ | refine blk_drew ?_ | refine blk_alloc ?_ _)); exact BK199.out) hb); have n2_ := Aside0.mk (below_step (by repeat (first | (with_reducible first | exact HB.out | apply below_alloc | apply pw_below_drewN | apply below_drew1 | refine below_set ?_ GE198.out | refine below_set ?_ GE199.out) | exact HB.out)) hb); have n3_ := Aside0.mk (hbox); have n4_ := Aside0.mk ((by rw [hg]; exact (below_size (by repeat (first | (with_reducible first | exact HB.out | apply below_alloc | apply pw_below_drewN | apply below_drew1 | refine below_set ?_ GE198.out | refine below_set ?_ GE199.out) | exact HB.out))) : w.heap.size ≤ gb200)); have n5_ := Aside0.mk ((by rw [hg]; exact (below_size (by repeat (first | (with_reducible first | exact HB.out | apply below_alloc | apply pw_below_drewN | apply below_drew1 | refine below_set ?_ GE198.out | refine below_set ?_ GE199.out) | exact HB.out))) : w.heap.size ≤ gb200)); have n6_ := Aside0.mk ((by rw [hg]; exact Nat.ne_of_lt (blk_lt (g := gb198) (o := .cells #[.int .i64 a0_0, .string a0_1, .int .i64 a0_2] 23 (0, 0)) (by (with_reducible repeat (first | refine blk_drewN ?_ _ | refine blk_drew ?_ | refine blk_alloc ?_ _)); exact BK198.out)) : gb198 ≠ gb200)); have n7_ := Aside0.mk ((by rw [hg]; exact Nat.ne_of_gt (blk_lt (g := gb198) (o := .cells #[.int .i64 a0_0, .string a0_1, .int .i64 a0_2] 23 (0, 0)) (by (with_reducible repeat (first | refine blk_drewN ?_ _ | refine blk_drew ?_ | refine blk_alloc ?_ _)); exact BK198.out)) : gb200 ≠ gb198)); have n8_ := Aside0.mk ((by rw [hg]; exact Nat.ne_of_lt (blk_lt (g := gb199) (o := .cells #[.int .i64 a1_0, .string a1_1, .int .i64 a1_2] 23 (0, 0)) (by (with_reducible repeat (first | refine blk_drewN ?_ _ | refine blk_drew ?_ | refine blk_alloc ?_ _)); exact BK199.out)) : gb199 ≠ gb200)); have n9_ := Aside0.mk ((by rw [hg]; exact Nat.ne_of_gt (blk_lt (g := gb199) (o := .cells #[.int .i64 a1_0, .string a1_1, .int .i64 a1_2] 23 (0, 0)) (by (with_reducible repeat (first | refine blk_drewN ?_ _ | refine blk_drew ?_ | refine blk_alloc ?_ _)); exact BK199.out)) : gb200 ≠ gb199)); clear BK198; clear BK199; clear HB; have BK198 := n0_; have BK199 := n1_; have HB := n2_; have BK200 := n3_; have GW200 := n4_; have GE200 := n5_; have NB198_200 := n6_; have NB200_198 := n7_; have NB199_200 := n8_; have NB200_199 := n9_; clear n0_ n1_ n2_ n3_ n4_ n5_ n6_ n7_ n8_ n9_; clear hb hbox hg) | ((with_reducible refine gate_callee (f := 7) rfl ?_); refine goesL_ (some 14) rfl rfl Tryd.func7 (by kernel_rfl) rfl #[] rfl (by (try simp only [List.map_toArray, List.map_cons, List.map_nil]); first | done | rfl | (simp only [List.length_drop, List.length_take]; rfl)) ?_; (with_reducible refine (gristmilllaw14_first.calls  true _ A5.out).mono ?_); rintro e w17 ⟨rfl, hb⟩; refine ⟨_, rfl, ?_⟩; have n0_ := Aside0.mk (blk_below (g := gb198) (o := .cells #[.int .i64 a0_0, .string a0_1, .int .i64 a0_2] 23 (0, 0)) (by (with_reducible repeat (first | refine blk_drewN ?_ _ | refine blk_drew ?_ | refine blk_alloc ?_ _)); exact BK198.out) hb); have n1_ := Aside0.mk (blk_below (g := gb199) (o := .cells #[.int .i64 a1_0, .string a1_1, .int .i64 a1_2] 23 (0, 0)) (by (with_reducible repeat (first | refine blk_drewN ?_ _ | refine blk_drew ?_ | refine blk_alloc ?_ _)); exact BK199.out) hb); have n2_ := Aside0.mk (blk_below (g := gb200) (o := .cells #[.int .i64 a2_0, .string a2_1, .int .i64 a2_2] 23 (0, 0)) (by (with_reducible repeat (first | refine blk_drewN ?_ _ | refine blk_drew ?_ | refine blk_alloc ?_ _)); exact BK200.out) hb); have n3_ := Aside0.mk (below_step (by repeat (first | (with_reducible first | exact HB.out | apply below_alloc | apply pw_below_drewN | apply below_drew1 | refine below_set ?_ GE198.out | refine below_set ?_ GE199.out | refine below_set ?_ GE200.out) | exact HB.out)) hb); clear BK198; clear BK199; clear BK200; clear HB; have BK198 := n0_; have BK199 := n1_; have BK200 := n2_; have HB := n3_; clear n0_ n1_ n2_ n3_; (try clear hb); (try clear hb2); (try clear hk); (try clear hi); have hnb18 := NB198_199.out; have hnc18 := NB199_198.out; have hnb19 := NB198_200.out; have hnc19 := NB200_198.out; have hcz20_0 : w17.cell? ⟨gb198, 0, none⟩ = some (.int .i64 a0_0) := (blk_cell BK198.out 0).trans rfl; have hcz20_1 : w17.cell? ⟨gb198, 1, none⟩ = some (.string a0_1) := (blk_cell BK198.out 1).trans rfl; have hcz20_2 : w17.cell? ⟨gb198, 2, none⟩ = some (.int .i64 a0_2) := (blk_cell BK198.out 2).trans rfl; have hfz20_0 := blk_frozen BK198.out 0; have hfz20_1 := blk_frozen BK198.out 1; have hfz20_2 := blk_frozen BK198.out 2; have hnb21 := NB199_200.out; have hnc21 := NB200_199.out; have hcz22_0 : w17.cell? ⟨gb199, 0, none⟩ = some (.int .i64 a1_0) := (blk_cell BK199.out 0).trans rfl; have hcz22_1 : w17.cell? ⟨gb199, 1, none⟩ = some (.string a1_1) := (blk_cell BK199.out 1).trans rfl; have hcz22_2 : w17.cell? ⟨gb199, 2, none⟩ = some (.int .i64 a1_2) := (blk_cell BK199.out 2).trans rfl; have hfz22_0 := blk_frozen BK199.out 0; have hfz22_1 := blk_frozen BK199.out 1; have hfz22_2 := blk_frozen BK199.out 2) | ((with_reducible refine gate_callee (f := 23) rfl ?_); refine goesL_ (some 23) rfl rfl Tryd.func23 (by kernel_rfl) rfl #[.agg #[.int .i64 a0_0, .string a0_1, .int .i64 a0_2], .agg #[.int .i64 a1_0, .string a1_1, .int .i64 a1_2]] rfl (by (try simp only [List.map_toArray, List.map_cons, List.map_nil]); first | done | rfl | (simp only [List.length_drop, List.length_take]; rfl)) ?_; (with_reducible refine (gristmillref_SameTag.calls a0_0 a0_1 a0_2 a1_0 a1_1 a1_2 t202 _ A12.out).mono ?_); rintro e w23 ⟨rfl, hb⟩; refine ⟨_, rfl, ?_⟩; have n0_ := Aside0.mk (blk_below (g := gb198) (o := .cells #[.int .i64 a0_0, .string a0_1, .int .i64 a0_2] 23 (0, 0)) (by (with_reducible repeat (first | refine blk_drewN ?_ _ | refine blk_drew ?_ | refine blk_alloc ?_ _)); exact BK198.out) hb); have n1_ := Aside0.mk (blk_below (g := gb199) (o := .cells #[.int .i64 a1_0, .string a1_1, .int .i64 a1_2] 23 (0, 0)) (by (with_reducible repeat (first | refine blk_drewN ?_ _ | refine blk_drew ?_ | refine blk_alloc ?_ _)); exact BK199.out) hb); have n2_ := Aside0.mk (blk_below (g := gb200) (o := .cells #[.int .i64 a2_0, .string a2_1, .int .i64 a2_2] 23 (0, 0)) (by (with_reducible repeat (first | refine blk_drewN ?_ _ | refine blk_drew ?_ | refine blk_alloc ?_ _)); exact BK200.out) hb); have n3_ := Aside0.mk (below_step (by repeat (first | (with_reducible first | exact HB.out | apply below_alloc | apply pw_below_drewN | apply below_drew1 | refine below_set ?_ GE198.out | refine below_set ?_ GE199.out | refine below_set ?_ GE200.out) | exact HB.out)) hb); clear BK198; clear BK199; clear BK200; clear HB; have BK198 := n0_; have BK199 := n1_; have BK200 := n2_; have HB := n3_; clear n0_ n1_ n2_ n3_; (try clear hb); (try clear hb2); (try clear hk); (try clear hi)))
      (try simp only [Act.put, List.setIfInBounds_toArray, List.set_cons_zero, List.set_cons_succ])
      go_cut [59] (fun v59 wc => ∃ (kq : Nat) (x59_12 : Bool), v59 = .bool x59_12 ∧ Aside0 (gristmilllaw14_TagsOrder.j0 kq l3 true t202 x59_12 a0_0 a0_1 a0_2 a1_0 a1_1 a1_2 = some r) ∧ Aside0 (kq ≤ k) ∧ Aside0 (wc.heap[gb198]? = some (.cells #[.int .i64 a0_0, .string a0_1, .int .i64 a0_2] 23 (0, 0))) ∧ Aside0 (wc.heap[gb199]? = some (.cells #[.int .i64 a1_0, .string a1_1, .int .i64 a1_2] 23 (0, 0))) ∧ Aside0 (wc.heap[gb200]? = some (.cells #[.int .i64 a2_0, .string a2_1, .int .i64 a2_2] 23 (0, 0))) ∧ Aside0 (Below w.heap.size w wc))
      case first => as_aux_lemma =>
        have H := HC13.out
        clear HC13
        replace H := Option.bind_eq_some_iff.mp H
        obtain ⟨t203, A240, H⟩ := H
        replace H : (if t203 = true then ((tag_Less.f k a1_0 a1_1 a1_2 a0_0 a0_1 a0_2).bind fun t204 => (if t204 = true then (none) else ((tag_Less.f k a0_0 a0_1 a0_2 a1_0 a1_1 a1_2).bind fun t205 => (if t205 = true then (if (true == t202) = true then (none) else ((tag_Less.f k a0_0 a0_1 a0_2 a1_0 a1_1 a1_2).bind fun t206 => (if t206 = true then ((tag_Less.f k a1_0 a1_1 a1_2 a2_0 a2_1 a2_2).bind fun t207 => (if t207 = true then ((tag_Less.f k a0_0 a0_1 a0_2 a2_0 a2_1 a2_2).bind fun t208 => (gristmilllaw14_TagsOrder.j0 k l3 true t202 (!t208) a0_0 a0_1 a0_2 a1_0 a1_1 a1_2)) else (gristmilllaw14_TagsOrder.j0 k l3 true t202 false a0_0 a0_1 a0_2 a1_0 a1_1 a1_2))) else (none)))) else (none))))) else ((tag_Less.f k a0_0 a0_1 a0_2 a1_0 a1_1 a1_2).bind fun t213 => (if t213 = true then (none) else ((tag_Less.f k a1_0 a1_1 a1_2 a0_0 a0_1 a0_2).bind fun t217 => (if (t217 == t202) = true then (none) else ((tag_Less.f k a0_0 a0_1 a0_2 a1_0 a1_1 a1_2).bind fun t218 => (if t218 = true then (none) else (gristmilllaw14_TagsOrder.j0 k l3 true t202 false a0_0 a0_1 a0_2 a1_0 a1_1 a1_2)))))))) = some r := H
        have A24 := Aside0.mk A240
        clear A240
        by_cases c25 : t203 = true
        · subst c25
          have H1 : ((tag_Less.f k a1_0 a1_1 a1_2 a0_0 a0_1 a0_2).bind fun t204 => (if t204 = true then (none) else ((tag_Less.f k a0_0 a0_1 a0_2 a1_0 a1_1 a1_2).bind fun t205 => (if t205 = true then (if (true == t202) = true then (none) else ((tag_Less.f k a0_0 a0_1 a0_2 a1_0 a1_1 a1_2).bind fun t206 => (if t206 = true then ((tag_Less.f k a1_0 a1_1 a1_2 a2_0 a2_1 a2_2).bind fun t207 => (if t207 = true then ((tag_Less.f k a0_0 a0_1 a0_2 a2_0 a2_1 a2_2).bind fun t208 => (gristmilllaw14_TagsOrder.j0 k l3 true t202 (!t208) a0_0 a0_1 a0_2 a1_0 a1_1 a1_2)) else (gristmilllaw14_TagsOrder.j0 k l3 true t202 false a0_0 a0_1 a0_2 a1_0 a1_1 a1_2))) else (none)))) else (none))))) = some r := by rw [if_pos rfl] at H; exact H
          clear H
          have H := H1
          clear H1
          replace H := Option.bind_eq_some_iff.mp H
          obtain ⟨t204, A260, H⟩ := H
          replace H : (if t204 = true then (none) else ((tag_Less.f k a0_0 a0_1 a0_2 a1_0 a1_1 a1_2).bind fun t205 => (if t205 = true then (if (true == t202) = true then (none) else ((tag_Less.f k a0_0 a0_1 a0_2 a1_0 a1_1 a1_2).bind fun t206 => (if t206 = true then ((tag_Less.f k a1_0 a1_1 a1_2 a2_0 a2_1 a2_2).bind fun t207 => (if t207 = true then ((tag_Less.f k a0_0 a0_1 a0_2 a2_0 a2_1 a2_2).bind fun t208 => (gristmilllaw14_TagsOrder.j0 k l3 true t202 (!t208) a0_0 a0_1 a0_2 a1_0 a1_1 a1_2)) else (gristmilllaw14_TagsOrder.j0 k l3 true t202 false a0_0 a0_1 a0_2 a1_0 a1_1 a1_2))) else (none)))) else (none)))) = some r := H
          have A26 := Aside0.mk A260
          clear A260
          by_cases c27 : t204 = true
          · subst c27
            have H1 : (none) = some r := by rw [if_pos rfl] at H; exact H
            clear H
            have H := H1
            clear H1
            exact absurd H (by simp)
          · replace c27 := Bool.eq_false_iff.mpr c27
            subst c27
            have H1 : ((tag_Less.f k a0_0 a0_1 a0_2 a1_0 a1_1 a1_2).bind fun t205 => (if t205 = true then (if (true == t202) = true then (none) else ((tag_Less.f k a0_0 a0_1 a0_2 a1_0 a1_1 a1_2).bind fun t206 => (if t206 = true then ((tag_Less.f k a1_0 a1_1 a1_2 a2_0 a2_1 a2_2).bind fun t207 => (if t207 = true then ((tag_Less.f k a0_0 a0_1 a0_2 a2_0 a2_1 a2_2).bind fun t208 => (gristmilllaw14_TagsOrder.j0 k l3 true t202 (!t208) a0_0 a0_1 a0_2 a1_0 a1_1 a1_2)) else (gristmilllaw14_TagsOrder.j0 k l3 true t202 false a0_0 a0_1 a0_2 a1_0 a1_1 a1_2))) else (none)))) else (none))) = some r := by rw [if_neg (show ¬ (false = true) by decide)] at H; exact H
            clear H
            have H := H1
            clear H1
            replace H := Option.bind_eq_some_iff.mp H
            obtain ⟨t205, A280, H⟩ := H
            replace H : (if t205 = true then (if (true == t202) = true then (none) else ((tag_Less.f k a0_0 a0_1 a0_2 a1_0 a1_1 a1_2).bind fun t206 => (if t206 = true then ((tag_Less.f k a1_0 a1_1 a1_2 a2_0 a2_1 a2_2).bind fun t207 => (if t207 = true then ((tag_Less.f k a0_0 a0_1 a0_2 a2_0 a2_1 a2_2).bind fun t208 => (gristmilllaw14_TagsOrder.j0 k l3 true t202 (!t208) a0_0 a0_1 a0_2 a1_0 a1_1 a1_2)) else (gristmilllaw14_TagsOrder.j0 k l3 true t202 false a0_0 a0_1 a0_2 a1_0 a1_1 a1_2))) else (none)))) else (none)) = some r := H
            have A28 := Aside0.mk A280
            clear A280
            by_cases c29 : t205 = true
            · subst c29
              have H1 : (if (true == t202) = true then (none) else ((tag_Less.f k a0_0 a0_1 a0_2 a1_0 a1_1 a1_2).bind fun t206 => (if t206 = true then ((tag_Less.f k a1_0 a1_1 a1_2 a2_0 a2_1 a2_2).bind fun t207 => (if t207 = true then ((tag_Less.f k a0_0 a0_1 a0_2 a2_0 a2_1 a2_2).bind fun t208 => (gristmilllaw14_TagsOrder.j0 k l3 true t202 (!t208) a0_0 a0_1 a0_2 a1_0 a1_1 a1_2)) else (gristmilllaw14_TagsOrder.j0 k l3 true t202 false a0_0 a0_1 a0_2 a1_0 a1_1 a1_2))) else (none)))) = some r := by rw [if_pos rfl] at H; exact H
              clear H
              have H := H1
              clear H1
              by_cases c30 : (true == t202) = true
              · rw [if_pos c30] at H
                exact absurd H (by simp)
              · rw [if_neg c30] at H
                have c30b0 : (true == t202) = false := by simpa using c30
                (try (have c30b1 : decide (true = t202) = false := by simpa using c30))
                (try (have c30b2 : (true == t202) = false := by simpa using c30))
                (try (have c30b3 : ¬ (true = t202) := by simpa using c30))
                clear c30
                (first | rw [c30b0] | (simp only [i64_w, i32_w]; rw [c30b0]) | skip)
                replace H := Option.bind_eq_some_iff.mp H
                obtain ⟨t206, A310, H⟩ := H
                replace H : (if t206 = true then ((tag_Less.f k a1_0 a1_1 a1_2 a2_0 a2_1 a2_2).bind fun t207 => (if t207 = true then ((tag_Less.f k a0_0 a0_1 a0_2 a2_0 a2_1 a2_2).bind fun t208 => (gristmilllaw14_TagsOrder.j0 k l3 true t202 (!t208) a0_0 a0_1 a0_2 a1_0 a1_1 a1_2)) else (gristmilllaw14_TagsOrder.j0 k l3 true t202 false a0_0 a0_1 a0_2 a1_0 a1_1 a1_2))) else (none)) = some r := H
                have A31 := Aside0.mk A310
                clear A310
                by_cases c32 : t206 = true
                · subst c32
                  have H1 : ((tag_Less.f k a1_0 a1_1 a1_2 a2_0 a2_1 a2_2).bind fun t207 => (if t207 = true then ((tag_Less.f k a0_0 a0_1 a0_2 a2_0 a2_1 a2_2).bind fun t208 => (gristmilllaw14_TagsOrder.j0 k l3 true t202 (!t208) a0_0 a0_1 a0_2 a1_0 a1_1 a1_2)) else (gristmilllaw14_TagsOrder.j0 k l3 true t202 false a0_0 a0_1 a0_2 a1_0 a1_1 a1_2))) = some r := by rw [if_pos rfl] at H; exact H
                  clear H
                  have H := H1
                  clear H1
                  replace H := Option.bind_eq_some_iff.mp H
                  obtain ⟨t207, A330, H⟩ := H
                  replace H : (if t207 = true then ((tag_Less.f k a0_0 a0_1 a0_2 a2_0 a2_1 a2_2).bind fun t208 => (gristmilllaw14_TagsOrder.j0 k l3 true t202 (!t208) a0_0 a0_1 a0_2 a1_0 a1_1 a1_2)) else (gristmilllaw14_TagsOrder.j0 k l3 true t202 false a0_0 a0_1 a0_2 a1_0 a1_1 a1_2)) = some r := H
                  have A33 := Aside0.mk A330
                  clear A330
                  by_cases c34 : t207 = true
                  · subst c34
                    have H1 : ((tag_Less.f k a0_0 a0_1 a0_2 a2_0 a2_1 a2_2).bind fun t208 => (gristmilllaw14_TagsOrder.j0 k l3 true t202 (!t208) a0_0 a0_1 a0_2 a1_0 a1_1 a1_2)) = some r := by rw [if_pos rfl] at H; exact H
                    clear H
                    have H := H1
                    clear H1
                    replace H := Option.bind_eq_some_iff.mp H
                    obtain ⟨t208, A350, H⟩ := H
                    replace H : (gristmilllaw14_TagsOrder.j0 k l3 true t202 (!t208) a0_0 a0_1 a0_2 a1_0 a1_1 a1_2) = some r := H
                    have A35 := Aside0.mk A350
                    clear A350
                    have H' := Aside0.mk H
                    clear H
                    have hnb36 := NB198_199.out
                    have hnc36 := NB199_198.out
                    have hnb37 := NB198_200.out
                    have hnc37 := NB200_198.out
                    have hcz38_0 : w23.cell? ⟨gb198, 0, none⟩ = some (.int .i64 a0_0) := (blk_cell BK198.out 0).trans rfl
                    have hcz38_1 : w23.cell? ⟨gb198, 1, none⟩ = some (.string a0_1) := (blk_cell BK198.out 1).trans rfl
                    have hcz38_2 : w23.cell? ⟨gb198, 2, none⟩ = some (.int .i64 a0_2) := (blk_cell BK198.out 2).trans rfl
                    have hfz38_0 := blk_frozen BK198.out 0
                    have hfz38_1 := blk_frozen BK198.out 1
                    have hfz38_2 := blk_frozen BK198.out 2
                    have hnb39 := NB199_200.out
                    have hnc39 := NB200_199.out
                    have hcz40_0 : w23.cell? ⟨gb199, 0, none⟩ = some (.int .i64 a1_0) := (blk_cell BK199.out 0).trans rfl
                    have hcz40_1 : w23.cell? ⟨gb199, 1, none⟩ = some (.string a1_1) := (blk_cell BK199.out 1).trans rfl
                    have hcz40_2 : w23.cell? ⟨gb199, 2, none⟩ = some (.int .i64 a1_2) := (blk_cell BK199.out 2).trans rfl
                    have hfz40_0 := blk_frozen BK199.out 0
                    have hfz40_1 := blk_frozen BK199.out 1
                    have hfz40_2 := blk_frozen BK199.out 2
                    go_wp2_with (first | ((with_reducible refine gate_callee (f := 10) rfl ?_); refine goesL_ (some 26) rfl rfl Tryd.func10 (by kernel_rfl) rfl #[.agg #[.int .i64 a0_0, .string a0_1, .int .i64 a0_2], .agg #[.int .i64 a1_0, .string a1_1, .int .i64 a1_2]] rfl (by (try simp only [List.map_toArray, List.map_cons, List.map_nil]); first | done | rfl | (simp only [List.length_drop, List.length_take]; rfl)) ?_; (with_reducible refine (tag_Less.calls k a0_0 a0_1 a0_2 a1_0 a1_1 a1_2 true _ A24.out).mono ?_); rintro e w41 ⟨rfl, hb⟩; refine ⟨_, rfl, ?_⟩; have n0_ := Aside0.mk (blk_below (g := gb198) (o := .cells #[.int .i64 a0_0, .string a0_1, .int .i64 a0_2] 23 (0, 0)) (by (with_reducible repeat (first | refine blk_drewN ?_ _ | refine blk_drew ?_ | refine blk_alloc ?_ _)); exact BK198.out) hb); have n1_ := Aside0.mk (blk_below (g := gb199) (o := .cells #[.int .i64 a1_0, .string a1_1, .int .i64 a1_2] 23 (0, 0)) (by (with_reducible repeat (first | refine blk_drewN ?_ _ | refine blk_drew ?_ | refine blk_alloc ?_ _)); exact BK199.out) hb); have n2_ := Aside0.mk (blk_below (g := gb200) (o := .cells #[.int .i64 a2_0, .string a2_1, .int .i64 a2_2] 23 (0, 0)) (by (with_reducible repeat (first | refine blk_drewN ?_ _ | refine blk_drew ?_ | refine blk_alloc ?_ _)); exact BK200.out) hb); have n3_ := Aside0.mk (below_step (by repeat (first | (with_reducible first | exact HB.out | apply below_alloc | apply pw_below_drewN | apply below_drew1 | refine below_set ?_ GE198.out | refine below_set ?_ GE199.out | refine below_set ?_ GE200.out) | exact HB.out)) hb); clear BK198; clear BK199; clear BK200; clear HB; have BK198 := n0_; have BK199 := n1_; have BK200 := n2_; have HB := n3_; clear n0_ n1_ n2_ n3_; (try clear hb); (try clear hb2); (try clear hk); (try clear hi); have hcz42_0 : w41.cell? ⟨gb199, 0, none⟩ = some (.int .i64 a1_0) := (blk_cell BK199.out 0).trans rfl; have hcz42_1 : w41.cell? ⟨gb199, 1, none⟩ = some (.string a1_1) := (blk_cell BK199.out 1).trans rfl; have hcz42_2 : w41.cell? ⟨gb199, 2, none⟩ = some (.int .i64 a1_2) := (blk_cell BK199.out 2).trans rfl; have hfz42_0 := blk_frozen BK199.out 0; have hfz42_1 := blk_frozen BK199.out 1; have hfz42_2 := blk_frozen BK199.out 2; have hcz43_0 : w41.cell? ⟨gb198, 0, none⟩ = some (.int .i64 a0_0) := (blk_cell BK198.out 0).trans rfl; have hcz43_1 : w41.cell? ⟨gb198, 1, none⟩ = some (.string a0_1) := (blk_cell BK198.out 1).trans rfl; have hcz43_2 : w41.cell? ⟨gb198, 2, none⟩ = some (.int .i64 a0_2) := (blk_cell BK198.out 2).trans rfl; have hcz901_0 : w41.cell? ⟨gb200, 0, none⟩ = some (.int .i64 a2_0) := (blk_cell BK200.out 0).trans rfl; have hcz901_1 : w41.cell? ⟨gb200, 1, none⟩ = some (.string a2_1) := (blk_cell BK200.out 1).trans rfl; have hcz901_2 : w41.cell? ⟨gb200, 2, none⟩ = some (.int .i64 a2_2) := (blk_cell BK200.out 2).trans rfl; have hfz43_0 := blk_frozen BK198.out 0; have hfz43_1 := blk_frozen BK198.out 1; have hfz43_2 := blk_frozen BK198.out 2) | (go_at_call 10; (with_reducible refine (tag_Less.calls k a1_0 a1_1 a1_2 a0_0 a0_1 a0_2 false _ A26.out).mono ?_); rintro e w44 ⟨rfl, hb⟩; have n0_ := Aside0.mk (blk_below (g := gb198) (o := .cells #[.int .i64 a0_0, .string a0_1, .int .i64 a0_2] 23 (0, 0)) (by (with_reducible repeat (first | refine blk_drewN ?_ _ | refine blk_drew ?_ | refine blk_alloc ?_ _)); exact BK198.out) hb); have n1_ := Aside0.mk (blk_below (g := gb199) (o := .cells #[.int .i64 a1_0, .string a1_1, .int .i64 a1_2] 23 (0, 0)) (by (with_reducible repeat (first | refine blk_drewN ?_ _ | refine blk_drew ?_ | refine blk_alloc ?_ _)); exact BK199.out) hb); have n2_ := Aside0.mk (blk_below (g := gb200) (o := .cells #[.int .i64 a2_0, .string a2_1, .int .i64 a2_2] 23 (0, 0)) (by (with_reducible repeat (first | refine blk_drewN ?_ _ | refine blk_drew ?_ | refine blk_alloc ?_ _)); exact BK200.out) hb); have n3_ := Aside0.mk (below_step (by repeat (first | (with_reducible first | exact HB.out | apply below_alloc | apply pw_below_drewN | apply below_drew1 | refine below_set ?_ GE198.out | refine below_set ?_ GE199.out | refine below_set ?_ GE200.out) | exact HB.out)) hb); clear BK198; clear BK199; clear BK200; clear HB; have BK198 := n0_; have BK199 := n1_; have BK200 := n2_; have HB := n3_; clear n0_ n1_ n2_ n3_; (try clear hb); (try clear hb2); (try clear hk); (try clear hi); have hcz45_0 : w44.cell? ⟨gb198, 0, none⟩ = some (.int .i64 a0_0) := (blk_cell BK198.out 0).trans rfl; have hcz45_1 : w44.cell? ⟨gb198, 1, none⟩ = some (.string a0_1) := (blk_cell BK198.out 1).trans rfl; have hcz45_2 : w44.cell? ⟨gb198, 2, none⟩ = some (.int .i64 a0_2) := (blk_cell BK198.out 2).trans rfl; have hfz45_0 := blk_frozen BK198.out 0; have hfz45_1 := blk_frozen BK198.out 1; have hfz45_2 := blk_frozen BK198.out 2; have hcz46_0 : w44.cell? ⟨gb199, 0, none⟩ = some (.int .i64 a1_0) := (blk_cell BK199.out 0).trans rfl; have hcz46_1 : w44.cell? ⟨gb199, 1, none⟩ = some (.string a1_1) := (blk_cell BK199.out 1).trans rfl; have hcz46_2 : w44.cell? ⟨gb199, 2, none⟩ = some (.int .i64 a1_2) := (blk_cell BK199.out 2).trans rfl; have hcz902_0 : w44.cell? ⟨gb200, 0, none⟩ = some (.int .i64 a2_0) := (blk_cell BK200.out 0).trans rfl; have hcz902_1 : w44.cell? ⟨gb200, 1, none⟩ = some (.string a2_1) := (blk_cell BK200.out 1).trans rfl; have hcz902_2 : w44.cell? ⟨gb200, 2, none⟩ = some (.int .i64 a2_2) := (blk_cell BK200.out 2).trans rfl; have hfz46_0 := blk_frozen BK199.out 0; have hfz46_1 := blk_frozen BK199.out 1; have hfz46_2 := blk_frozen BK199.out 2) | (go_at_call 10; (with_reducible refine (tag_Less.calls k a0_0 a0_1 a0_2 a1_0 a1_1 a1_2 true _ A28.out).mono ?_); rintro e w47 ⟨rfl, hb⟩; have n0_ := Aside0.mk (blk_below (g := gb198) (o := .cells #[.int .i64 a0_0, .string a0_1, .int .i64 a0_2] 23 (0, 0)) (by (with_reducible repeat (first | refine blk_drewN ?_ _ | refine blk_drew ?_ | refine blk_alloc ?_ _)); exact BK198.out) hb); have n1_ := Aside0.mk (blk_below (g := gb199) (o := .cells #[.int .i64 a1_0, .string a1_1, .int .i64 a1_2] 23 (0, 0)) (by (with_reducible repeat (first | refine blk_drewN ?_ _ | refine blk_drew ?_ | refine blk_alloc ?_ _)); exact BK199.out) hb); have n2_ := Aside0.mk (blk_below (g := gb200) (o := .cells #[.int .i64 a2_0, .string a2_1, .int .i64 a2_2] 23 (0, 0)) (by (with_reducible repeat (first | refine blk_drewN ?_ _ | refine blk_drew ?_ | refine blk_alloc ?_ _)); exact BK200.out) hb); have n3_ := Aside0.mk (below_step (by repeat (first | (with_reducible first | exact HB.out | apply below_alloc | apply pw_below_drewN | apply below_drew1 | refine below_set ?_ GE198.out | refine below_set ?_ GE199.out | refine below_set ?_ GE200.out) | exact HB.out)) hb); clear BK198; clear BK199; clear BK200; clear HB; have BK198 := n0_; have BK199 := n1_; have BK200 := n2_; have HB := n3_; clear n0_ n1_ n2_ n3_; (try clear hb); (try clear hb2); (try clear hk); (try clear hi); have hcz48_0 : w47.cell? ⟨gb198, 0, none⟩ = some (.int .i64 a0_0) := (blk_cell BK198.out 0).trans rfl; have hcz48_1 : w47.cell? ⟨gb198, 1, none⟩ = some (.string a0_1) := (blk_cell BK198.out 1).trans rfl; have hcz48_2 : w47.cell? ⟨gb198, 2, none⟩ = some (.int .i64 a0_2) := (blk_cell BK198.out 2).trans rfl; have hfz48_0 := blk_frozen BK198.out 0; have hfz48_1 := blk_frozen BK198.out 1; have hfz48_2 := blk_frozen BK198.out 2; have hcz49_0 : w47.cell? ⟨gb199, 0, none⟩ = some (.int .i64 a1_0) := (blk_cell BK199.out 0).trans rfl; have hcz49_1 : w47.cell? ⟨gb199, 1, none⟩ = some (.string a1_1) := (blk_cell BK199.out 1).trans rfl; have hcz49_2 : w47.cell? ⟨gb199, 2, none⟩ = some (.int .i64 a1_2) := (blk_cell BK199.out 2).trans rfl; have hcz903_0 : w47.cell? ⟨gb200, 0, none⟩ = some (.int .i64 a2_0) := (blk_cell BK200.out 0).trans rfl; have hcz903_1 : w47.cell? ⟨gb200, 1, none⟩ = some (.string a2_1) := (blk_cell BK200.out 1).trans rfl; have hcz903_2 : w47.cell? ⟨gb200, 2, none⟩ = some (.int .i64 a2_2) := (blk_cell BK200.out 2).trans rfl; have hfz49_0 := blk_frozen BK199.out 0; have hfz49_1 := blk_frozen BK199.out 1; have hfz49_2 := blk_frozen BK199.out 2) | (go_at_call 10; (with_reducible refine (tag_Less.calls k a0_0 a0_1 a0_2 a1_0 a1_1 a1_2 true _ A31.out).mono ?_); rintro e w50 ⟨rfl, hb⟩; have n0_ := Aside0.mk (blk_below (g := gb198) (o := .cells #[.int .i64 a0_0, .string a0_1, .int .i64 a0_2] 23 (0, 0)) (by (with_reducible repeat (first | refine blk_drewN ?_ _ | refine blk_drew ?_ | refine blk_alloc ?_ _)); exact BK198.out) hb); have n1_ := Aside0.mk (blk_below (g := gb199) (o := .cells #[.int .i64 a1_0, .string a1_1, .int .i64 a1_2] 23 (0, 0)) (by (with_reducible repeat (first | refine blk_drewN ?_ _ | refine blk_drew ?_ | refine blk_alloc ?_ _)); exact BK199.out) hb); have n2_ := Aside0.mk (blk_below (g := gb200) (o := .cells #[.int .i64 a2_0, .string a2_1, .int .i64 a2_2] 23 (0, 0)) (by (with_reducible repeat (first | refine blk_drewN ?_ _ | refine blk_drew ?_ | refine blk_alloc ?_ _)); exact BK200.out) hb); have n3_ := Aside0.mk (below_step (by repeat (first | (with_reducible first | exact HB.out | apply below_alloc | apply pw_below_drewN | apply below_drew1 | refine below_set ?_ GE198.out | refine below_set ?_ GE199.out | refine below_set ?_ GE200.out) | exact HB.out)) hb); clear BK198; clear BK199; clear BK200; clear HB; have BK198 := n0_; have BK199 := n1_; have BK200 := n2_; have HB := n3_; clear n0_ n1_ n2_ n3_; (try clear hb); (try clear hb2); (try clear hk); (try clear hi); have hcz51_0 : w50.cell? ⟨gb199, 0, none⟩ = some (.int .i64 a1_0) := (blk_cell BK199.out 0).trans rfl; have hcz51_1 : w50.cell? ⟨gb199, 1, none⟩ = some (.string a1_1) := (blk_cell BK199.out 1).trans rfl; have hcz51_2 : w50.cell? ⟨gb199, 2, none⟩ = some (.int .i64 a1_2) := (blk_cell BK199.out 2).trans rfl; have hfz51_0 := blk_frozen BK199.out 0; have hfz51_1 := blk_frozen BK199.out 1; have hfz51_2 := blk_frozen BK199.out 2; have hcz52_0 : w50.cell? ⟨gb200, 0, none⟩ = some (.int .i64 a2_0) := (blk_cell BK200.out 0).trans rfl; have hcz52_1 : w50.cell? ⟨gb200, 1, none⟩ = some (.string a2_1) := (blk_cell BK200.out 1).trans rfl; have hcz52_2 : w50.cell? ⟨gb200, 2, none⟩ = some (.int .i64 a2_2) := (blk_cell BK200.out 2).trans rfl; have hcz904_0 : w50.cell? ⟨gb198, 0, none⟩ = some (.int .i64 a0_0) := (blk_cell BK198.out 0).trans rfl; have hcz904_1 : w50.cell? ⟨gb198, 1, none⟩ = some (.string a0_1) := (blk_cell BK198.out 1).trans rfl; have hcz904_2 : w50.cell? ⟨gb198, 2, none⟩ = some (.int .i64 a0_2) := (blk_cell BK198.out 2).trans rfl; have hfz52_0 := blk_frozen BK200.out 0; have hfz52_1 := blk_frozen BK200.out 1; have hfz52_2 := blk_frozen BK200.out 2) | (go_at_call 10; (with_reducible refine (tag_Less.calls k a1_0 a1_1 a1_2 a2_0 a2_1 a2_2 true _ A33.out).mono ?_); rintro e w53 ⟨rfl, hb⟩; have n0_ := Aside0.mk (blk_below (g := gb198) (o := .cells #[.int .i64 a0_0, .string a0_1, .int .i64 a0_2] 23 (0, 0)) (by (with_reducible repeat (first | refine blk_drewN ?_ _ | refine blk_drew ?_ | refine blk_alloc ?_ _)); exact BK198.out) hb); have n1_ := Aside0.mk (blk_below (g := gb199) (o := .cells #[.int .i64 a1_0, .string a1_1, .int .i64 a1_2] 23 (0, 0)) (by (with_reducible repeat (first | refine blk_drewN ?_ _ | refine blk_drew ?_ | refine blk_alloc ?_ _)); exact BK199.out) hb); have n2_ := Aside0.mk (blk_below (g := gb200) (o := .cells #[.int .i64 a2_0, .string a2_1, .int .i64 a2_2] 23 (0, 0)) (by (with_reducible repeat (first | refine blk_drewN ?_ _ | refine blk_drew ?_ | refine blk_alloc ?_ _)); exact BK200.out) hb); have n3_ := Aside0.mk (below_step (by repeat (first | (with_reducible first | exact HB.out | apply below_alloc | apply pw_below_drewN | apply below_drew1 | refine below_set ?_ GE198.out | refine below_set ?_ GE199.out | refine below_set ?_ GE200.out) | exact HB.out)) hb); clear BK198; clear BK199; clear BK200; clear HB; have BK198 := n0_; have BK199 := n1_; have BK200 := n2_; have HB := n3_; clear n0_ n1_ n2_ n3_; (try clear hb); (try clear hb2); (try clear hk); (try clear hi); have hcz54_0 : w53.cell? ⟨gb198, 0, none⟩ = some (.int .i64 a0_0) := (blk_cell BK198.out 0).trans rfl; have hcz54_1 : w53.cell? ⟨gb198, 1, none⟩ = some (.string a0_1) := (blk_cell BK198.out 1).trans rfl; have hcz54_2 : w53.cell? ⟨gb198, 2, none⟩ = some (.int .i64 a0_2) := (blk_cell BK198.out 2).trans rfl; have hfz54_0 := blk_frozen BK198.out 0; have hfz54_1 := blk_frozen BK198.out 1; have hfz54_2 := blk_frozen BK198.out 2; have hcz55_0 : w53.cell? ⟨gb200, 0, none⟩ = some (.int .i64 a2_0) := (blk_cell BK200.out 0).trans rfl; have hcz55_1 : w53.cell? ⟨gb200, 1, none⟩ = some (.string a2_1) := (blk_cell BK200.out 1).trans rfl; have hcz55_2 : w53.cell? ⟨gb200, 2, none⟩ = some (.int .i64 a2_2) := (blk_cell BK200.out 2).trans rfl; have hcz905_0 : w53.cell? ⟨gb199, 0, none⟩ = some (.int .i64 a1_0) := (blk_cell BK199.out 0).trans rfl; have hcz905_1 : w53.cell? ⟨gb199, 1, none⟩ = some (.string a1_1) := (blk_cell BK199.out 1).trans rfl; have hcz905_2 : w53.cell? ⟨gb199, 2, none⟩ = some (.int .i64 a1_2) := (blk_cell BK199.out 2).trans rfl; have hfz55_0 := blk_frozen BK200.out 0; have hfz55_1 := blk_frozen BK200.out 1; have hfz55_2 := blk_frozen BK200.out 2) | (go_at_call 10; (with_reducible refine (tag_Less.calls k a0_0 a0_1 a0_2 a2_0 a2_1 a2_2 t208 _ A35.out).mono ?_); rintro e w56 ⟨rfl, hb⟩; have n0_ := Aside0.mk (blk_below (g := gb198) (o := .cells #[.int .i64 a0_0, .string a0_1, .int .i64 a0_2] 23 (0, 0)) (by (with_reducible repeat (first | refine blk_drewN ?_ _ | refine blk_drew ?_ | refine blk_alloc ?_ _)); exact BK198.out) hb); have n1_ := Aside0.mk (blk_below (g := gb199) (o := .cells #[.int .i64 a1_0, .string a1_1, .int .i64 a1_2] 23 (0, 0)) (by (with_reducible repeat (first | refine blk_drewN ?_ _ | refine blk_drew ?_ | refine blk_alloc ?_ _)); exact BK199.out) hb); have n2_ := Aside0.mk (blk_below (g := gb200) (o := .cells #[.int .i64 a2_0, .string a2_1, .int .i64 a2_2] 23 (0, 0)) (by (with_reducible repeat (first | refine blk_drewN ?_ _ | refine blk_drew ?_ | refine blk_alloc ?_ _)); exact BK200.out) hb); have n3_ := Aside0.mk (below_step (by repeat (first | (with_reducible first | exact HB.out | apply below_alloc | apply pw_below_drewN | apply below_drew1 | refine below_set ?_ GE198.out | refine below_set ?_ GE199.out | refine below_set ?_ GE200.out) | exact HB.out)) hb); clear BK198; clear BK199; clear BK200; clear HB; have BK198 := n0_; have BK199 := n1_; have BK200 := n2_; have HB := n3_; clear n0_ n1_ n2_ n3_; (try clear hb); (try clear hb2); (try clear hk); (try clear hi)))
                    go_meet
                    case rel => exact ⟨_, (!t208), (by first | rfl | (simp; done) | (simp [*]; done)), H', ⟨by first | omega | exact Nat.le_refl _⟩, ⟨by (with_reducible repeat (first | refine blk_drewN ?_ _ | refine blk_drew ?_ | refine blk_alloc ?_ _)); exact BK198.out⟩, ⟨by (with_reducible repeat (first | refine blk_drewN ?_ _ | refine blk_drew ?_ | refine blk_alloc ?_ _)); exact BK199.out⟩, ⟨by (with_reducible repeat (first | refine blk_drewN ?_ _ | refine blk_drew ?_ | refine blk_alloc ?_ _)); exact BK200.out⟩, ⟨by repeat (first | (with_reducible first | exact HB.out | apply below_alloc | apply pw_below_drewN | apply below_drew1 | refine below_set ?_ GE198.out | refine below_set ?_ GE199.out | refine below_set ?_ GE200.out) | exact HB.out)⟩⟩
                  · replace c34 := Bool.eq_false_iff.mpr c34
                    subst c34
                    have H1 : (gristmilllaw14_TagsOrder.j0 k l3 true t202 false a0_0 a0_1 a0_2 a1_0 a1_1 a1_2) = some r := by rw [if_neg (show ¬ (false = true) by decide)] at H; exact H
                    clear H
                    have H := H1
                    clear H1
                    have H' := Aside0.mk H
                    clear H
                    have hnb57 := NB198_199.out
                    have hnc57 := NB199_198.out
                    have hnb58 := NB198_200.out
                    have hnc58 := NB200_198.out
                    have hcz59_0 : w23.cell? ⟨gb198, 0, none⟩ = some (.int .i64 a0_0) := (blk_cell BK198.out 0).trans rfl
                    have hcz59_1 : w23.cell? ⟨gb198, 1, none⟩ = some (.string a0_1) := (blk_cell BK198.out 1).trans rfl
                    have hcz59_2 : w23.cell? ⟨gb198, 2, none⟩ = some (.int .i64 a0_2) := (blk_cell BK198.out 2).trans rfl
                    have hfz59_0 := blk_frozen BK198.out 0
                    have hfz59_1 := blk_frozen BK198.out 1
                    have hfz59_2 := blk_frozen BK198.out 2
                    have hnb60 := NB199_200.out
                    have hnc60 := NB200_199.out
                    have hcz61_0 : w23.cell? ⟨gb199, 0, none⟩ = some (.int .i64 a1_0) := (blk_cell BK199.out 0).trans rfl
                    have hcz61_1 : w23.cell? ⟨gb199, 1, none⟩ = some (.string a1_1) := (blk_cell BK199.out 1).trans rfl
                    have hcz61_2 : w23.cell? ⟨gb199, 2, none⟩ = some (.int .i64 a1_2) := (blk_cell BK199.out 2).trans rfl
                    have hfz61_0 := blk_frozen BK199.out 0
                    have hfz61_1 := blk_frozen BK199.out 1
                    have hfz61_2 := blk_frozen BK199.out 2
                    go_wp2_with (first | ((with_reducible refine gate_callee (f := 10) rfl ?_); refine goesL_ (some 26) rfl rfl Tryd.func10 (by kernel_rfl) rfl #[.agg #[.int .i64 a0_0, .string a0_1, .int .i64 a0_2], .agg #[.int .i64 a1_0, .string a1_1, .int .i64 a1_2]] rfl (by (try simp only [List.map_toArray, List.map_cons, List.map_nil]); first | done | rfl | (simp only [List.length_drop, List.length_take]; rfl)) ?_; (with_reducible refine (tag_Less.calls k a0_0 a0_1 a0_2 a1_0 a1_1 a1_2 true _ A24.out).mono ?_); rintro e w62 ⟨rfl, hb⟩; refine ⟨_, rfl, ?_⟩; have n0_ := Aside0.mk (blk_below (g := gb198) (o := .cells #[.int .i64 a0_0, .string a0_1, .int .i64 a0_2] 23 (0, 0)) (by (with_reducible repeat (first | refine blk_drewN ?_ _ | refine blk_drew ?_ | refine blk_alloc ?_ _)); exact BK198.out) hb); have n1_ := Aside0.mk (blk_below (g := gb199) (o := .cells #[.int .i64 a1_0, .string a1_1, .int .i64 a1_2] 23 (0, 0)) (by (with_reducible repeat (first | refine blk_drewN ?_ _ | refine blk_drew ?_ | refine blk_alloc ?_ _)); exact BK199.out) hb); have n2_ := Aside0.mk (blk_below (g := gb200) (o := .cells #[.int .i64 a2_0, .string a2_1, .int .i64 a2_2] 23 (0, 0)) (by (with_reducible repeat (first | refine blk_drewN ?_ _ | refine blk_drew ?_ | refine blk_alloc ?_ _)); exact BK200.out) hb); have n3_ := Aside0.mk (below_step (by repeat (first | (with_reducible first | exact HB.out | apply below_alloc | apply pw_below_drewN | apply below_drew1 | refine below_set ?_ GE198.out | refine below_set ?_ GE199.out | refine below_set ?_ GE200.out) | exact HB.out)) hb); clear BK198; clear BK199; clear BK200; clear HB; have BK198 := n0_; have BK199 := n1_; have BK200 := n2_; have HB := n3_; clear n0_ n1_ n2_ n3_; (try clear hb); (try clear hb2); (try clear hk); (try clear hi); have hcz63_0 : w62.cell? ⟨gb199, 0, none⟩ = some (.int .i64 a1_0) := (blk_cell BK199.out 0).trans rfl; have hcz63_1 : w62.cell? ⟨gb199, 1, none⟩ = some (.string a1_1) := (blk_cell BK199.out 1).trans rfl; have hcz63_2 : w62.cell? ⟨gb199, 2, none⟩ = some (.int .i64 a1_2) := (blk_cell BK199.out 2).trans rfl; have hfz63_0 := blk_frozen BK199.out 0; have hfz63_1 := blk_frozen BK199.out 1; have hfz63_2 := blk_frozen BK199.out 2; have hcz64_0 : w62.cell? ⟨gb198, 0, none⟩ = some (.int .i64 a0_0) := (blk_cell BK198.out 0).trans rfl; have hcz64_1 : w62.cell? ⟨gb198, 1, none⟩ = some (.string a0_1) := (blk_cell BK198.out 1).trans rfl; have hcz64_2 : w62.cell? ⟨gb198, 2, none⟩ = some (.int .i64 a0_2) := (blk_cell BK198.out 2).trans rfl; have hcz906_0 : w62.cell? ⟨gb200, 0, none⟩ = some (.int .i64 a2_0) := (blk_cell BK200.out 0).trans rfl; have hcz906_1 : w62.cell? ⟨gb200, 1, none⟩ = some (.string a2_1) := (blk_cell BK200.out 1).trans rfl; have hcz906_2 : w62.cell? ⟨gb200, 2, none⟩ = some (.int .i64 a2_2) := (blk_cell BK200.out 2).trans rfl; have hfz64_0 := blk_frozen BK198.out 0; have hfz64_1 := blk_frozen BK198.out 1; have hfz64_2 := blk_frozen BK198.out 2) | (go_at_call 10; (with_reducible refine (tag_Less.calls k a1_0 a1_1 a1_2 a0_0 a0_1 a0_2 false _ A26.out).mono ?_); rintro e w65 ⟨rfl, hb⟩; have n0_ := Aside0.mk (blk_below (g := gb198) (o := .cells #[.int .i64 a0_0, .string a0_1, .int .i64 a0_2] 23 (0, 0)) (by (with_reducible repeat (first | refine blk_drewN ?_ _ | refine blk_drew ?_ | refine blk_alloc ?_ _)); exact BK198.out) hb); have n1_ := Aside0.mk (blk_below (g := gb199) (o := .cells #[.int .i64 a1_0, .string a1_1, .int .i64 a1_2] 23 (0, 0)) (by (with_reducible repeat (first | refine blk_drewN ?_ _ | refine blk_drew ?_ | refine blk_alloc ?_ _)); exact BK199.out) hb); have n2_ := Aside0.mk (blk_below (g := gb200) (o := .cells #[.int .i64 a2_0, .string a2_1, .int .i64 a2_2] 23 (0, 0)) (by (with_reducible repeat (first | refine blk_drewN ?_ _ | refine blk_drew ?_ | refine blk_alloc ?_ _)); exact BK200.out) hb); have n3_ := Aside0.mk (below_step (by repeat (first | (with_reducible first | exact HB.out | apply below_alloc | apply pw_below_drewN | apply below_drew1 | refine below_set ?_ GE198.out | refine below_set ?_ GE199.out | refine below_set ?_ GE200.out) | exact HB.out)) hb); clear BK198; clear BK199; clear BK200; clear HB; have BK198 := n0_; have BK199 := n1_; have BK200 := n2_; have HB := n3_; clear n0_ n1_ n2_ n3_; (try clear hb); (try clear hb2); (try clear hk); (try clear hi); have hcz66_0 : w65.cell? ⟨gb198, 0, none⟩ = some (.int .i64 a0_0) := (blk_cell BK198.out 0).trans rfl; have hcz66_1 : w65.cell? ⟨gb198, 1, none⟩ = some (.string a0_1) := (blk_cell BK198.out 1).trans rfl; have hcz66_2 : w65.cell? ⟨gb198, 2, none⟩ = some (.int .i64 a0_2) := (blk_cell BK198.out 2).trans rfl; have hfz66_0 := blk_frozen BK198.out 0; have hfz66_1 := blk_frozen BK198.out 1; have hfz66_2 := blk_frozen BK198.out 2; have hcz67_0 : w65.cell? ⟨gb199, 0, none⟩ = some (.int .i64 a1_0) := (blk_cell BK199.out 0).trans rfl; have hcz67_1 : w65.cell? ⟨gb199, 1, none⟩ = some (.string a1_1) := (blk_cell BK199.out 1).trans rfl; have hcz67_2 : w65.cell? ⟨gb199, 2, none⟩ = some (.int .i64 a1_2) := (blk_cell BK199.out 2).trans rfl; have hcz907_0 : w65.cell? ⟨gb200, 0, none⟩ = some (.int .i64 a2_0) := (blk_cell BK200.out 0).trans rfl; have hcz907_1 : w65.cell? ⟨gb200, 1, none⟩ = some (.string a2_1) := (blk_cell BK200.out 1).trans rfl; have hcz907_2 : w65.cell? ⟨gb200, 2, none⟩ = some (.int .i64 a2_2) := (blk_cell BK200.out 2).trans rfl; have hfz67_0 := blk_frozen BK199.out 0; have hfz67_1 := blk_frozen BK199.out 1; have hfz67_2 := blk_frozen BK199.out 2) | (go_at_call 10; (with_reducible refine (tag_Less.calls k a0_0 a0_1 a0_2 a1_0 a1_1 a1_2 true _ A28.out).mono ?_); rintro e w68 ⟨rfl, hb⟩; have n0_ := Aside0.mk (blk_below (g := gb198) (o := .cells #[.int .i64 a0_0, .string a0_1, .int .i64 a0_2] 23 (0, 0)) (by (with_reducible repeat (first | refine blk_drewN ?_ _ | refine blk_drew ?_ | refine blk_alloc ?_ _)); exact BK198.out) hb); have n1_ := Aside0.mk (blk_below (g := gb199) (o := .cells #[.int .i64 a1_0, .string a1_1, .int .i64 a1_2] 23 (0, 0)) (by (with_reducible repeat (first | refine blk_drewN ?_ _ | refine blk_drew ?_ | refine blk_alloc ?_ _)); exact BK199.out) hb); have n2_ := Aside0.mk (blk_below (g := gb200) (o := .cells #[.int .i64 a2_0, .string a2_1, .int .i64 a2_2] 23 (0, 0)) (by (with_reducible repeat (first | refine blk_drewN ?_ _ | refine blk_drew ?_ | refine blk_alloc ?_ _)); exact BK200.out) hb); have n3_ := Aside0.mk (below_step (by repeat (first | (with_reducible first | exact HB.out | apply below_alloc | apply pw_below_drewN | apply below_drew1 | refine below_set ?_ GE198.out | refine below_set ?_ GE199.out | refine below_set ?_ GE200.out) | exact HB.out)) hb); clear BK198; clear BK199; clear BK200; clear HB; have BK198 := n0_; have BK199 := n1_; have BK200 := n2_; have HB := n3_; clear n0_ n1_ n2_ n3_; (try clear hb); (try clear hb2); (try clear hk); (try clear hi); have hcz69_0 : w68.cell? ⟨gb198, 0, none⟩ = some (.int .i64 a0_0) := (blk_cell BK198.out 0).trans rfl; have hcz69_1 : w68.cell? ⟨gb198, 1, none⟩ = some (.string a0_1) := (blk_cell BK198.out 1).trans rfl; have hcz69_2 : w68.cell? ⟨gb198, 2, none⟩ = some (.int .i64 a0_2) := (blk_cell BK198.out 2).trans rfl; have hfz69_0 := blk_frozen BK198.out 0; have hfz69_1 := blk_frozen BK198.out 1; have hfz69_2 := blk_frozen BK198.out 2; have hcz70_0 : w68.cell? ⟨gb199, 0, none⟩ = some (.int .i64 a1_0) := (blk_cell BK199.out 0).trans rfl; have hcz70_1 : w68.cell? ⟨gb199, 1, none⟩ = some (.string a1_1) := (blk_cell BK199.out 1).trans rfl; have hcz70_2 : w68.cell? ⟨gb199, 2, none⟩ = some (.int .i64 a1_2) := (blk_cell BK199.out 2).trans rfl; have hcz908_0 : w68.cell? ⟨gb200, 0, none⟩ = some (.int .i64 a2_0) := (blk_cell BK200.out 0).trans rfl; have hcz908_1 : w68.cell? ⟨gb200, 1, none⟩ = some (.string a2_1) := (blk_cell BK200.out 1).trans rfl; have hcz908_2 : w68.cell? ⟨gb200, 2, none⟩ = some (.int .i64 a2_2) := (blk_cell BK200.out 2).trans rfl; have hfz70_0 := blk_frozen BK199.out 0; have hfz70_1 := blk_frozen BK199.out 1; have hfz70_2 := blk_frozen BK199.out 2) | (go_at_call 10; (with_reducible refine (tag_Less.calls k a0_0 a0_1 a0_2 a1_0 a1_1 a1_2 true _ A31.out).mono ?_); rintro e w71 ⟨rfl, hb⟩; have n0_ := Aside0.mk (blk_below (g := gb198) (o := .cells #[.int .i64 a0_0, .string a0_1, .int .i64 a0_2] 23 (0, 0)) (by (with_reducible repeat (first | refine blk_drewN ?_ _ | refine blk_drew ?_ | refine blk_alloc ?_ _)); exact BK198.out) hb); have n1_ := Aside0.mk (blk_below (g := gb199) (o := .cells #[.int .i64 a1_0, .string a1_1, .int .i64 a1_2] 23 (0, 0)) (by (with_reducible repeat (first | refine blk_drewN ?_ _ | refine blk_drew ?_ | refine blk_alloc ?_ _)); exact BK199.out) hb); have n2_ := Aside0.mk (blk_below (g := gb200) (o := .cells #[.int .i64 a2_0, .string a2_1, .int .i64 a2_2] 23 (0, 0)) (by (with_reducible repeat (first | refine blk_drewN ?_ _ | refine blk_drew ?_ | refine blk_alloc ?_ _)); exact BK200.out) hb); have n3_ := Aside0.mk (below_step (by repeat (first | (with_reducible first | exact HB.out | apply below_alloc | apply pw_below_drewN | apply below_drew1 | refine below_set ?_ GE198.out | refine below_set ?_ GE199.out | refine below_set ?_ GE200.out) | exact HB.out)) hb); clear BK198; clear BK199; clear BK200; clear HB; have BK198 := n0_; have BK199 := n1_; have BK200 := n2_; have HB := n3_; clear n0_ n1_ n2_ n3_; (try clear hb); (try clear hb2); (try clear hk); (try clear hi); have hcz72_0 : w71.cell? ⟨gb199, 0, none⟩ = some (.int .i64 a1_0) := (blk_cell BK199.out 0).trans rfl; have hcz72_1 : w71.cell? ⟨gb199, 1, none⟩ = some (.string a1_1) := (blk_cell BK199.out 1).trans rfl; have hcz72_2 : w71.cell? ⟨gb199, 2, none⟩ = some (.int .i64 a1_2) := (blk_cell BK199.out 2).trans rfl; have hfz72_0 := blk_frozen BK199.out 0; have hfz72_1 := blk_frozen BK199.out 1; have hfz72_2 := blk_frozen BK199.out 2; have hcz73_0 : w71.cell? ⟨gb200, 0, none⟩ = some (.int .i64 a2_0) := (blk_cell BK200.out 0).trans rfl; have hcz73_1 : w71.cell? ⟨gb200, 1, none⟩ = some (.string a2_1) := (blk_cell BK200.out 1).trans rfl; have hcz73_2 : w71.cell? ⟨gb200, 2, none⟩ = some (.int .i64 a2_2) := (blk_cell BK200.out 2).trans rfl; have hcz909_0 : w71.cell? ⟨gb198, 0, none⟩ = some (.int .i64 a0_0) := (blk_cell BK198.out 0).trans rfl; have hcz909_1 : w71.cell? ⟨gb198, 1, none⟩ = some (.string a0_1) := (blk_cell BK198.out 1).trans rfl; have hcz909_2 : w71.cell? ⟨gb198, 2, none⟩ = some (.int .i64 a0_2) := (blk_cell BK198.out 2).trans rfl; have hfz73_0 := blk_frozen BK200.out 0; have hfz73_1 := blk_frozen BK200.out 1; have hfz73_2 := blk_frozen BK200.out 2) | (go_at_call 10; (with_reducible refine (tag_Less.calls k a1_0 a1_1 a1_2 a2_0 a2_1 a2_2 false _ A33.out).mono ?_); rintro e w74 ⟨rfl, hb⟩; have n0_ := Aside0.mk (blk_below (g := gb198) (o := .cells #[.int .i64 a0_0, .string a0_1, .int .i64 a0_2] 23 (0, 0)) (by (with_reducible repeat (first | refine blk_drewN ?_ _ | refine blk_drew ?_ | refine blk_alloc ?_ _)); exact BK198.out) hb); have n1_ := Aside0.mk (blk_below (g := gb199) (o := .cells #[.int .i64 a1_0, .string a1_1, .int .i64 a1_2] 23 (0, 0)) (by (with_reducible repeat (first | refine blk_drewN ?_ _ | refine blk_drew ?_ | refine blk_alloc ?_ _)); exact BK199.out) hb); have n2_ := Aside0.mk (blk_below (g := gb200) (o := .cells #[.int .i64 a2_0, .string a2_1, .int .i64 a2_2] 23 (0, 0)) (by (with_reducible repeat (first | refine blk_drewN ?_ _ | refine blk_drew ?_ | refine blk_alloc ?_ _)); exact BK200.out) hb); have n3_ := Aside0.mk (below_step (by repeat (first | (with_reducible first | exact HB.out | apply below_alloc | apply pw_below_drewN | apply below_drew1 | refine below_set ?_ GE198.out | refine below_set ?_ GE199.out | refine below_set ?_ GE200.out) | exact HB.out)) hb); clear BK198; clear BK199; clear BK200; clear HB; have BK198 := n0_; have BK199 := n1_; have BK200 := n2_; have HB := n3_; clear n0_ n1_ n2_ n3_; (try clear hb); (try clear hb2); (try clear hk); (try clear hi)))
                    go_meet
                    case rel => exact ⟨_, (false), (by first | rfl | (simp; done) | (simp [*]; done)), H', ⟨by first | omega | exact Nat.le_refl _⟩, ⟨by (with_reducible repeat (first | refine blk_drewN ?_ _ | refine blk_drew ?_ | refine blk_alloc ?_ _)); exact BK198.out⟩, ⟨by (with_reducible repeat (first | refine blk_drewN ?_ _ | refine blk_drew ?_ | refine blk_alloc ?_ _)); exact BK199.out⟩, ⟨by (with_reducible repeat (first | refine blk_drewN ?_ _ | refine blk_drew ?_ | refine blk_alloc ?_ _)); exact BK200.out⟩, ⟨by repeat (first | (with_reducible first | exact HB.out | apply below_alloc | apply pw_below_drewN | apply below_drew1 | refine below_set ?_ GE198.out | refine below_set ?_ GE199.out | refine below_set ?_ GE200.out) | exact HB.out)⟩⟩
                · replace c32 := Bool.eq_false_iff.mpr c32
                  subst c32
                  have H1 : (none) = some r := by rw [if_neg (show ¬ (false = true) by decide)] at H; exact H
                  clear H
                  have H := H1
                  clear H1
                  exact absurd H (by simp)
            · replace c29 := Bool.eq_false_iff.mpr c29
              subst c29
              have H1 : (none) = some r := by rw [if_neg (show ¬ (false = true) by decide)] at H; exact H
              clear H
              have H := H1
              clear H1
              exact absurd H (by simp)
        · replace c25 := Bool.eq_false_iff.mpr c25
          subst c25
          have H1 : ((tag_Less.f k a0_0 a0_1 a0_2 a1_0 a1_1 a1_2).bind fun t213 => (if t213 = true then (none) else ((tag_Less.f k a1_0 a1_1 a1_2 a0_0 a0_1 a0_2).bind fun t217 => (if (t217 == t202) = true then (none) else ((tag_Less.f k a0_0 a0_1 a0_2 a1_0 a1_1 a1_2).bind fun t218 => (if t218 = true then (none) else (gristmilllaw14_TagsOrder.j0 k l3 true t202 false a0_0 a0_1 a0_2 a1_0 a1_1 a1_2))))))) = some r := by rw [if_neg (show ¬ (false = true) by decide)] at H; exact H
          clear H
          have H := H1
          clear H1
          replace H := Option.bind_eq_some_iff.mp H
          obtain ⟨t213, A750, H⟩ := H
          replace H : (if t213 = true then (none) else ((tag_Less.f k a1_0 a1_1 a1_2 a0_0 a0_1 a0_2).bind fun t217 => (if (t217 == t202) = true then (none) else ((tag_Less.f k a0_0 a0_1 a0_2 a1_0 a1_1 a1_2).bind fun t218 => (if t218 = true then (none) else (gristmilllaw14_TagsOrder.j0 k l3 true t202 false a0_0 a0_1 a0_2 a1_0 a1_1 a1_2)))))) = some r := H
          have A75 := Aside0.mk A750
          clear A750
          by_cases c76 : t213 = true
          · subst c76
            have H1 : (none) = some r := by rw [if_pos rfl] at H; exact H
            clear H
            have H := H1
            clear H1
            exact absurd H (by simp)
          · replace c76 := Bool.eq_false_iff.mpr c76
            subst c76
            have H1 : ((tag_Less.f k a1_0 a1_1 a1_2 a0_0 a0_1 a0_2).bind fun t217 => (if (t217 == t202) = true then (none) else ((tag_Less.f k a0_0 a0_1 a0_2 a1_0 a1_1 a1_2).bind fun t218 => (if t218 = true then (none) else (gristmilllaw14_TagsOrder.j0 k l3 true t202 false a0_0 a0_1 a0_2 a1_0 a1_1 a1_2))))) = some r := by rw [if_neg (show ¬ (false = true) by decide)] at H; exact H
            clear H
            have H := H1
            clear H1
            replace H := Option.bind_eq_some_iff.mp H
            obtain ⟨t217, A770, H⟩ := H
            replace H : (if (t217 == t202) = true then (none) else ((tag_Less.f k a0_0 a0_1 a0_2 a1_0 a1_1 a1_2).bind fun t218 => (if t218 = true then (none) else (gristmilllaw14_TagsOrder.j0 k l3 true t202 false a0_0 a0_1 a0_2 a1_0 a1_1 a1_2)))) = some r := H
            have A77 := Aside0.mk A770
            clear A770
            by_cases c78 : (t217 == t202) = true
            · rw [if_pos c78] at H
              exact absurd H (by simp)
            · rw [if_neg c78] at H
              have c78b0 : (t217 == t202) = false := by simpa using c78
              (try (have c78b1 : decide (t217 = t202) = false := by simpa using c78))
              (try (have c78b2 : (t217 == t202) = false := by simpa using c78))
              (try (have c78b3 : ¬ (t217 = t202) := by simpa using c78))
              clear c78
              replace H := Option.bind_eq_some_iff.mp H
              obtain ⟨t218, A790, H⟩ := H
              replace H : (if t218 = true then (none) else (gristmilllaw14_TagsOrder.j0 k l3 true t202 false a0_0 a0_1 a0_2 a1_0 a1_1 a1_2)) = some r := H
              have A79 := Aside0.mk A790
              clear A790
              by_cases c80 : t218 = true
              · subst c80
                have H1 : (none) = some r := by rw [if_pos rfl] at H; exact H
                clear H
                have H := H1
                clear H1
                exact absurd H (by simp)
              · replace c80 := Bool.eq_false_iff.mpr c80
                subst c80
                have H1 : (gristmilllaw14_TagsOrder.j0 k l3 true t202 false a0_0 a0_1 a0_2 a1_0 a1_1 a1_2) = some r := by rw [if_neg (show ¬ (false = true) by decide)] at H; exact H
                clear H
                have H := H1
                clear H1
                have H' := Aside0.mk H
                clear H
                have hnb81 := NB198_199.out
                have hnc81 := NB199_198.out
                have hnb82 := NB198_200.out
                have hnc82 := NB200_198.out
                have hcz83_0 : w23.cell? ⟨gb198, 0, none⟩ = some (.int .i64 a0_0) := (blk_cell BK198.out 0).trans rfl
                have hcz83_1 : w23.cell? ⟨gb198, 1, none⟩ = some (.string a0_1) := (blk_cell BK198.out 1).trans rfl
                have hcz83_2 : w23.cell? ⟨gb198, 2, none⟩ = some (.int .i64 a0_2) := (blk_cell BK198.out 2).trans rfl
                have hfz83_0 := blk_frozen BK198.out 0
                have hfz83_1 := blk_frozen BK198.out 1
                have hfz83_2 := blk_frozen BK198.out 2
                have hnb84 := NB199_200.out
                have hnc84 := NB200_199.out
                have hcz85_0 : w23.cell? ⟨gb199, 0, none⟩ = some (.int .i64 a1_0) := (blk_cell BK199.out 0).trans rfl
                have hcz85_1 : w23.cell? ⟨gb199, 1, none⟩ = some (.string a1_1) := (blk_cell BK199.out 1).trans rfl
                have hcz85_2 : w23.cell? ⟨gb199, 2, none⟩ = some (.int .i64 a1_2) := (blk_cell BK199.out 2).trans rfl
                have hfz85_0 := blk_frozen BK199.out 0
                have hfz85_1 := blk_frozen BK199.out 1
                have hfz85_2 := blk_frozen BK199.out 2
                go_wp2_with (first | ((with_reducible refine gate_callee (f := 10) rfl ?_); refine goesL_ (some 26) rfl rfl Tryd.func10 (by kernel_rfl) rfl #[.agg #[.int .i64 a0_0, .string a0_1, .int .i64 a0_2], .agg #[.int .i64 a1_0, .string a1_1, .int .i64 a1_2]] rfl (by (try simp only [List.map_toArray, List.map_cons, List.map_nil]); first | done | rfl | (simp only [List.length_drop, List.length_take]; rfl)) ?_; (with_reducible refine (tag_Less.calls k a0_0 a0_1 a0_2 a1_0 a1_1 a1_2 false _ A24.out).mono ?_); rintro e w86 ⟨rfl, hb⟩; refine ⟨_, rfl, ?_⟩; have n0_ := Aside0.mk (blk_below (g := gb198) (o := .cells #[.int .i64 a0_0, .string a0_1, .int .i64 a0_2] 23 (0, 0)) (by (with_reducible repeat (first | refine blk_drewN ?_ _ | refine blk_drew ?_ | refine blk_alloc ?_ _)); exact BK198.out) hb); have n1_ := Aside0.mk (blk_below (g := gb199) (o := .cells #[.int .i64 a1_0, .string a1_1, .int .i64 a1_2] 23 (0, 0)) (by (with_reducible repeat (first | refine blk_drewN ?_ _ | refine blk_drew ?_ | refine blk_alloc ?_ _)); exact BK199.out) hb); have n2_ := Aside0.mk (blk_below (g := gb200) (o := .cells #[.int .i64 a2_0, .string a2_1, .int .i64 a2_2] 23 (0, 0)) (by (with_reducible repeat (first | refine blk_drewN ?_ _ | refine blk_drew ?_ | refine blk_alloc ?_ _)); exact BK200.out) hb); have n3_ := Aside0.mk (below_step (by repeat (first | (with_reducible first | exact HB.out | apply below_alloc | apply pw_below_drewN | apply below_drew1 | refine below_set ?_ GE198.out | refine below_set ?_ GE199.out | refine below_set ?_ GE200.out) | exact HB.out)) hb); clear BK198; clear BK199; clear BK200; clear HB; have BK198 := n0_; have BK199 := n1_; have BK200 := n2_; have HB := n3_; clear n0_ n1_ n2_ n3_; (try clear hb); (try clear hb2); (try clear hk); (try clear hi); have hcz87_0 : w86.cell? ⟨gb198, 0, none⟩ = some (.int .i64 a0_0) := (blk_cell BK198.out 0).trans rfl; have hcz87_1 : w86.cell? ⟨gb198, 1, none⟩ = some (.string a0_1) := (blk_cell BK198.out 1).trans rfl; have hcz87_2 : w86.cell? ⟨gb198, 2, none⟩ = some (.int .i64 a0_2) := (blk_cell BK198.out 2).trans rfl; have hfz87_0 := blk_frozen BK198.out 0; have hfz87_1 := blk_frozen BK198.out 1; have hfz87_2 := blk_frozen BK198.out 2; have hcz88_0 : w86.cell? ⟨gb199, 0, none⟩ = some (.int .i64 a1_0) := (blk_cell BK199.out 0).trans rfl; have hcz88_1 : w86.cell? ⟨gb199, 1, none⟩ = some (.string a1_1) := (blk_cell BK199.out 1).trans rfl; have hcz88_2 : w86.cell? ⟨gb199, 2, none⟩ = some (.int .i64 a1_2) := (blk_cell BK199.out 2).trans rfl; have hcz910_0 : w86.cell? ⟨gb200, 0, none⟩ = some (.int .i64 a2_0) := (blk_cell BK200.out 0).trans rfl; have hcz910_1 : w86.cell? ⟨gb200, 1, none⟩ = some (.string a2_1) := (blk_cell BK200.out 1).trans rfl; have hcz910_2 : w86.cell? ⟨gb200, 2, none⟩ = some (.int .i64 a2_2) := (blk_cell BK200.out 2).trans rfl; have hfz88_0 := blk_frozen BK199.out 0; have hfz88_1 := blk_frozen BK199.out 1; have hfz88_2 := blk_frozen BK199.out 2) | (go_at_call 10; (with_reducible refine (tag_Less.calls k a0_0 a0_1 a0_2 a1_0 a1_1 a1_2 false _ A75.out).mono ?_); rintro e w89 ⟨rfl, hb⟩; have n0_ := Aside0.mk (blk_below (g := gb198) (o := .cells #[.int .i64 a0_0, .string a0_1, .int .i64 a0_2] 23 (0, 0)) (by (with_reducible repeat (first | refine blk_drewN ?_ _ | refine blk_drew ?_ | refine blk_alloc ?_ _)); exact BK198.out) hb); have n1_ := Aside0.mk (blk_below (g := gb199) (o := .cells #[.int .i64 a1_0, .string a1_1, .int .i64 a1_2] 23 (0, 0)) (by (with_reducible repeat (first | refine blk_drewN ?_ _ | refine blk_drew ?_ | refine blk_alloc ?_ _)); exact BK199.out) hb); have n2_ := Aside0.mk (blk_below (g := gb200) (o := .cells #[.int .i64 a2_0, .string a2_1, .int .i64 a2_2] 23 (0, 0)) (by (with_reducible repeat (first | refine blk_drewN ?_ _ | refine blk_drew ?_ | refine blk_alloc ?_ _)); exact BK200.out) hb); have n3_ := Aside0.mk (below_step (by repeat (first | (with_reducible first | exact HB.out | apply below_alloc | apply pw_below_drewN | apply below_drew1 | refine below_set ?_ GE198.out | refine below_set ?_ GE199.out | refine below_set ?_ GE200.out) | exact HB.out)) hb); clear BK198; clear BK199; clear BK200; clear HB; have BK198 := n0_; have BK199 := n1_; have BK200 := n2_; have HB := n3_; clear n0_ n1_ n2_ n3_; (try clear hb); (try clear hb2); (try clear hk); (try clear hi); have hcz90_0 : w89.cell? ⟨gb199, 0, none⟩ = some (.int .i64 a1_0) := (blk_cell BK199.out 0).trans rfl; have hcz90_1 : w89.cell? ⟨gb199, 1, none⟩ = some (.string a1_1) := (blk_cell BK199.out 1).trans rfl; have hcz90_2 : w89.cell? ⟨gb199, 2, none⟩ = some (.int .i64 a1_2) := (blk_cell BK199.out 2).trans rfl; have hfz90_0 := blk_frozen BK199.out 0; have hfz90_1 := blk_frozen BK199.out 1; have hfz90_2 := blk_frozen BK199.out 2; have hcz91_0 : w89.cell? ⟨gb198, 0, none⟩ = some (.int .i64 a0_0) := (blk_cell BK198.out 0).trans rfl; have hcz91_1 : w89.cell? ⟨gb198, 1, none⟩ = some (.string a0_1) := (blk_cell BK198.out 1).trans rfl; have hcz91_2 : w89.cell? ⟨gb198, 2, none⟩ = some (.int .i64 a0_2) := (blk_cell BK198.out 2).trans rfl; have hcz911_0 : w89.cell? ⟨gb200, 0, none⟩ = some (.int .i64 a2_0) := (blk_cell BK200.out 0).trans rfl; have hcz911_1 : w89.cell? ⟨gb200, 1, none⟩ = some (.string a2_1) := (blk_cell BK200.out 1).trans rfl; have hcz911_2 : w89.cell? ⟨gb200, 2, none⟩ = some (.int .i64 a2_2) := (blk_cell BK200.out 2).trans rfl; have hfz91_0 := blk_frozen BK198.out 0; have hfz91_1 := blk_frozen BK198.out 1; have hfz91_2 := blk_frozen BK198.out 2) | (go_at_call 10; (with_reducible refine (tag_Less.calls k a1_0 a1_1 a1_2 a0_0 a0_1 a0_2 t217 _ A77.out).mono ?_); rintro e w92 ⟨rfl, hb⟩; have n0_ := Aside0.mk (blk_below (g := gb198) (o := .cells #[.int .i64 a0_0, .string a0_1, .int .i64 a0_2] 23 (0, 0)) (by (with_reducible repeat (first | refine blk_drewN ?_ _ | refine blk_drew ?_ | refine blk_alloc ?_ _)); exact BK198.out) hb); have n1_ := Aside0.mk (blk_below (g := gb199) (o := .cells #[.int .i64 a1_0, .string a1_1, .int .i64 a1_2] 23 (0, 0)) (by (with_reducible repeat (first | refine blk_drewN ?_ _ | refine blk_drew ?_ | refine blk_alloc ?_ _)); exact BK199.out) hb); have n2_ := Aside0.mk (blk_below (g := gb200) (o := .cells #[.int .i64 a2_0, .string a2_1, .int .i64 a2_2] 23 (0, 0)) (by (with_reducible repeat (first | refine blk_drewN ?_ _ | refine blk_drew ?_ | refine blk_alloc ?_ _)); exact BK200.out) hb); have n3_ := Aside0.mk (below_step (by repeat (first | (with_reducible first | exact HB.out | apply below_alloc | apply pw_below_drewN | apply below_drew1 | refine below_set ?_ GE198.out | refine below_set ?_ GE199.out | refine below_set ?_ GE200.out) | exact HB.out)) hb); clear BK198; clear BK199; clear BK200; clear HB; have BK198 := n0_; have BK199 := n1_; have BK200 := n2_; have HB := n3_; clear n0_ n1_ n2_ n3_; (try clear hb); (try clear hb2); (try clear hk); (try clear hi); have hcz93_0 : w92.cell? ⟨gb198, 0, none⟩ = some (.int .i64 a0_0) := (blk_cell BK198.out 0).trans rfl; have hcz93_1 : w92.cell? ⟨gb198, 1, none⟩ = some (.string a0_1) := (blk_cell BK198.out 1).trans rfl; have hcz93_2 : w92.cell? ⟨gb198, 2, none⟩ = some (.int .i64 a0_2) := (blk_cell BK198.out 2).trans rfl; have hfz93_0 := blk_frozen BK198.out 0; have hfz93_1 := blk_frozen BK198.out 1; have hfz93_2 := blk_frozen BK198.out 2; have hcz94_0 : w92.cell? ⟨gb199, 0, none⟩ = some (.int .i64 a1_0) := (blk_cell BK199.out 0).trans rfl; have hcz94_1 : w92.cell? ⟨gb199, 1, none⟩ = some (.string a1_1) := (blk_cell BK199.out 1).trans rfl; have hcz94_2 : w92.cell? ⟨gb199, 2, none⟩ = some (.int .i64 a1_2) := (blk_cell BK199.out 2).trans rfl; have hcz912_0 : w92.cell? ⟨gb200, 0, none⟩ = some (.int .i64 a2_0) := (blk_cell BK200.out 0).trans rfl; have hcz912_1 : w92.cell? ⟨gb200, 1, none⟩ = some (.string a2_1) := (blk_cell BK200.out 1).trans rfl; have hcz912_2 : w92.cell? ⟨gb200, 2, none⟩ = some (.int .i64 a2_2) := (blk_cell BK200.out 2).trans rfl; have hfz94_0 := blk_frozen BK199.out 0; have hfz94_1 := blk_frozen BK199.out 1; have hfz94_2 := blk_frozen BK199.out 2) | (go_at_call 10; (with_reducible refine (tag_Less.calls k a0_0 a0_1 a0_2 a1_0 a1_1 a1_2 false _ A79.out).mono ?_); rintro e w95 ⟨rfl, hb⟩; have n0_ := Aside0.mk (blk_below (g := gb198) (o := .cells #[.int .i64 a0_0, .string a0_1, .int .i64 a0_2] 23 (0, 0)) (by (with_reducible repeat (first | refine blk_drewN ?_ _ | refine blk_drew ?_ | refine blk_alloc ?_ _)); exact BK198.out) hb); have n1_ := Aside0.mk (blk_below (g := gb199) (o := .cells #[.int .i64 a1_0, .string a1_1, .int .i64 a1_2] 23 (0, 0)) (by (with_reducible repeat (first | refine blk_drewN ?_ _ | refine blk_drew ?_ | refine blk_alloc ?_ _)); exact BK199.out) hb); have n2_ := Aside0.mk (blk_below (g := gb200) (o := .cells #[.int .i64 a2_0, .string a2_1, .int .i64 a2_2] 23 (0, 0)) (by (with_reducible repeat (first | refine blk_drewN ?_ _ | refine blk_drew ?_ | refine blk_alloc ?_ _)); exact BK200.out) hb); have n3_ := Aside0.mk (below_step (by repeat (first | (with_reducible first | exact HB.out | apply below_alloc | apply pw_below_drewN | apply below_drew1 | refine below_set ?_ GE198.out | refine below_set ?_ GE199.out | refine below_set ?_ GE200.out) | exact HB.out)) hb); clear BK198; clear BK199; clear BK200; clear HB; have BK198 := n0_; have BK199 := n1_; have BK200 := n2_; have HB := n3_; clear n0_ n1_ n2_ n3_; (try clear hb); (try clear hb2); (try clear hk); (try clear hi)))
                go_meet
                case rel => exact ⟨_, (false), (by first | rfl | (simp; done) | (simp [*]; done)), H', ⟨by first | omega | exact Nat.le_refl _⟩, ⟨by (with_reducible repeat (first | refine blk_drewN ?_ _ | refine blk_drew ?_ | refine blk_alloc ?_ _)); exact BK198.out⟩, ⟨by (with_reducible repeat (first | refine blk_drewN ?_ _ | refine blk_drew ?_ | refine blk_alloc ?_ _)); exact BK199.out⟩, ⟨by (with_reducible repeat (first | refine blk_drewN ?_ _ | refine blk_drew ?_ | refine blk_alloc ?_ _)); exact BK200.out⟩, ⟨by repeat (first | (with_reducible first | exact HB.out | apply below_alloc | apply pw_below_drewN | apply below_drew1 | refine below_set ?_ GE198.out | refine below_set ?_ GE199.out | refine below_set ?_ GE200.out) | exact HB.out)⟩⟩
      case rest =>
        clear HC13
        try clear c1
        try clear c2
        try clear p2
        try clear c3
        try clear c4
        try clear c5
        try clear c6
        try clear c7
        try clear c7b0
        try clear c7b1
        try clear c8
        try clear c10
        try clear c18
        try clear c19
        try clear c21
        try clear c23
        try clear c25
        try clear c27
        try clear c29
        try clear c30
        try clear c30b0
        try clear c30b1
        try clear c30b2
        try clear c32
        try clear c34
        try clear c36
        try clear c37
        try clear c39
        try clear c57
        try clear c58
        try clear c60
        try clear c76
        try clear c78
        try clear c78b0
        try clear c78b1
        try clear c78b2
        try clear c80
        try clear c81
        try clear c82
        try clear c84
        try clear hcz20_0
        try clear hcz20_1
        try clear hcz20_2
        try clear hcz22_0
        try clear hcz22_1
        try clear hcz22_2
        try clear hcz38_0
        try clear hcz38_1
        try clear hcz38_2
        try clear hcz40_0
        try clear hcz40_1
        try clear hcz40_2
        try clear hcz42_0
        try clear hcz42_1
        try clear hcz42_2
        try clear hcz43_0
        try clear hcz43_1
        try clear hcz43_2
        try clear hcz45_0
        try clear hcz45_1
        try clear hcz45_2
        try clear hcz46_0
        try clear hcz46_1
        try clear hcz46_2
        try clear hcz48_0
        try clear hcz48_1
        try clear hcz48_2
        try clear hcz49_0
        try clear hcz49_1
        try clear hcz49_2
        try clear hcz51_0
        try clear hcz51_1
        try clear hcz51_2
        try clear hcz52_0
        try clear hcz52_1
        try clear hcz52_2
        try clear hcz54_0
        try clear hcz54_1
        try clear hcz54_2
        try clear hcz55_0
        try clear hcz55_1
        try clear hcz55_2
        try clear hcz59_0
        try clear hcz59_1
        try clear hcz59_2
        try clear hcz61_0
        try clear hcz61_1
        try clear hcz61_2
        try clear hcz63_0
        try clear hcz63_1
        try clear hcz63_2
        try clear hcz64_0
        try clear hcz64_1
        try clear hcz64_2
        try clear hcz66_0
        try clear hcz66_1
        try clear hcz66_2
        try clear hcz67_0
        try clear hcz67_1
        try clear hcz67_2
        try clear hcz69_0
        try clear hcz69_1
        try clear hcz69_2
        try clear hcz70_0
        try clear hcz70_1
        try clear hcz70_2
        try clear hcz72_0
        try clear hcz72_1
        try clear hcz72_2
        try clear hcz73_0
        try clear hcz73_1
        try clear hcz73_2
        try clear hcz83_0
        try clear hcz83_1
        try clear hcz83_2
        try clear hcz85_0
        try clear hcz85_1
        try clear hcz85_2
        try clear hcz87_0
        try clear hcz87_1
        try clear hcz87_2
        try clear hcz88_0
        try clear hcz88_1
        try clear hcz88_2
        try clear hcz90_0
        try clear hcz90_1
        try clear hcz90_2
        try clear hcz91_0
        try clear hcz91_1
        try clear hcz91_2
        try clear hcz93_0
        try clear hcz93_1
        try clear hcz93_2
        try clear hcz94_0
        try clear hcz94_1
        try clear hcz94_2
        try clear hfz20_0
        try clear hfz20_1
        try clear hfz20_2
        try clear hfz22_0
        try clear hfz22_1
        try clear hfz22_2
        try clear hfz38_0
        try clear hfz38_1
        try clear hfz38_2
        try clear hfz40_0
        try clear hfz40_1
        try clear hfz40_2
        try clear hfz42_0
        try clear hfz42_1
        try clear hfz42_2
        try clear hfz43_0
        try clear hfz43_1
        try clear hfz43_2
        try clear hfz45_0
        try clear hfz45_1
        try clear hfz45_2
        try clear hfz46_0
        try clear hfz46_1
        try clear hfz46_2
        try clear hfz48_0
        try clear hfz48_1
        try clear hfz48_2
        try clear hfz49_0
        try clear hfz49_1
        try clear hfz49_2
        try clear hfz51_0
        try clear hfz51_1
        try clear hfz51_2
        try clear hfz52_0
        try clear hfz52_1
        try clear hfz52_2
        try clear hfz54_0
        try clear hfz54_1
        try clear hfz54_2
        try clear hfz55_0
        try clear hfz55_1
        try clear hfz55_2
        try clear hfz59_0
        try clear hfz59_1
        try clear hfz59_2
        try clear hfz61_0
        try clear hfz61_1
        try clear hfz61_2
        try clear hfz63_0
        try clear hfz63_1
        try clear hfz63_2
        try clear hfz64_0
        try clear hfz64_1
        try clear hfz64_2
        try clear hfz66_0
        try clear hfz66_1
        try clear hfz66_2
        try clear hfz67_0
        try clear hfz67_1
        try clear hfz67_2
        try clear hfz69_0
        try clear hfz69_1
        try clear hfz69_2
        try clear hfz70_0
        try clear hfz70_1
        try clear hfz70_2
        try clear hfz72_0
        try clear hfz72_1
        try clear hfz72_2
        try clear hfz73_0
        try clear hfz73_1
        try clear hfz73_2
        try clear hfz83_0
        try clear hfz83_1
        try clear hfz83_2
        try clear hfz85_0
        try clear hfz85_1
        try clear hfz85_2
        try clear hfz87_0
        try clear hfz87_1
        try clear hfz87_2
        try clear hfz88_0
        try clear hfz88_1
        try clear hfz88_2
        try clear hfz90_0
        try clear hfz90_1
        try clear hfz90_2
        try clear hfz91_0
        try clear hfz91_1
        try clear hfz91_2
        try clear hfz93_0
        try clear hfz93_1
        try clear hfz93_2
        try clear hfz94_0
        try clear hfz94_1
        try clear hfz94_2
        obtain ⟨kq, x59_12, rfl, HA, HJ12, BK198, BK199, BK200, HB⟩ := hcut
        cases kq with
        | zero => exact absurd HA.out (by simp [gristmilllaw14_TagsOrder.j0])
        | succ kj12 =>
          have H := HA.out
          clear HA
          simp only [gristmilllaw14_TagsOrder.j0] at H
          by_cases c96 : x59_12 = true
          · subst c96
            have H1 : (none) = some r := by rw [if_pos rfl] at H; exact H
            clear H
            have H := H1
            clear H1
            exact absurd H (by simp)
          · replace c96 := Bool.eq_false_iff.mpr c96
            subst c96
            have H1 : ((tag_Set.f l3).bind fun t221 => (gristmilllaw14_TagsOrder.l0 kj12 l3 true t202 t221 0 a0_0 a0_1 a0_2 a1_0 a1_1 a1_2)) = some r := by rw [if_neg (show ¬ (false = true) by decide)] at H; exact H
            clear H
            have H := H1
            clear H1
            replace H := Option.bind_eq_some_iff.mp H
            obtain ⟨t221, A970, H⟩ := H
            replace H : (gristmilllaw14_TagsOrder.l0 kj12 l3 true t202 t221 0 a0_0 a0_1 a0_2 a1_0 a1_1 a1_2) = some r := H
            have A97 := Aside0.mk A970
            clear A970
            have H' := Aside0.mk H
            clear H
            go_wp2_with (first | ((with_reducible refine gate_callee (f := 13) rfl ?_); refine goesL_ (some 61) rfl rfl Tryd.func13 (by kernel_rfl) rfl #[.slice A3 l3.length c3] rfl (by (try simp only [List.map_toArray, List.map_cons, List.map_nil]); first | done | rfl | (simp only [List.length_drop, List.length_take]; rfl)) ?_; (with_reducible refine (tag_Set.calls _ _ l3 t221 _ ?side1 ?side2 A97.out).mono ?_); (case side1 => repeat (first | exact (Kd.C_below HR3.out HB.out) | (with_reducible refine Kd.C_alloc ?_ _) | (with_reducible refine Kd.C_drewN ?_ _) | (with_reducible refine Kd.C_drew ?_))); (case side2 => exact HC3.out); rintro e w98 ⟨v222, rfl, ho0, hb⟩; refine ⟨_, rfl, ?_⟩; have n0_ := Aside0.mk (Kd.R_lower (Kd.R_newB (Kd.R_newB (Kd.R_newB ho0 (g := gb198) (o := .cells #[.int .i64 a0_0, .string a0_1, .int .i64 a0_2] 23 (0, 0)) (by (with_reducible repeat (first | refine blk_drewN ?_ _ | refine blk_drew ?_ | refine blk_alloc ?_ _)); exact BK198.out)) (g := gb199) (o := .cells #[.int .i64 a1_0, .string a1_1, .int .i64 a1_2] 23 (0, 0)) (by (with_reducible repeat (first | refine blk_drewN ?_ _ | refine blk_drew ?_ | refine blk_alloc ?_ _)); exact BK199.out)) (g := gb200) (o := .cells #[.int .i64 a2_0, .string a2_1, .int .i64 a2_2] 23 (0, 0)) (by (with_reducible repeat (first | refine blk_drewN ?_ _ | refine blk_drew ?_ | refine blk_alloc ?_ _)); exact BK200.out)) (below_size (by repeat (first | (with_reducible first | exact HB.out | apply below_alloc | apply pw_below_drewN | apply below_drew1 | refine below_set ?_ GE198.out | refine below_set ?_ GE199.out | refine below_set ?_ GE200.out) | exact HB.out)))); have n1_ := Aside0.mk (blk_below (g := gb198) (o := .cells #[.int .i64 a0_0, .string a0_1, .int .i64 a0_2] 23 (0, 0)) (by (with_reducible repeat (first | refine blk_drewN ?_ _ | refine blk_drew ?_ | refine blk_alloc ?_ _)); exact BK198.out) hb); have n2_ := Aside0.mk (blk_below (g := gb199) (o := .cells #[.int .i64 a1_0, .string a1_1, .int .i64 a1_2] 23 (0, 0)) (by (with_reducible repeat (first | refine blk_drewN ?_ _ | refine blk_drew ?_ | refine blk_alloc ?_ _)); exact BK199.out) hb); have n3_ := Aside0.mk (blk_below (g := gb200) (o := .cells #[.int .i64 a2_0, .string a2_1, .int .i64 a2_2] 23 (0, 0)) (by (with_reducible repeat (first | refine blk_drewN ?_ _ | refine blk_drew ?_ | refine blk_alloc ?_ _)); exact BK200.out) hb); have n4_ := Aside0.mk (below_step (by repeat (first | (with_reducible first | exact HB.out | apply below_alloc | apply pw_below_drewN | apply below_drew1 | refine below_set ?_ GE198.out | refine below_set ?_ GE199.out | refine below_set ?_ GE200.out) | exact HB.out)) hb); clear BK198; clear BK199; clear BK200; clear HB; have HO223 := n0_; have BK198 := n1_; have BK199 := n2_; have BK200 := n3_; have HB := n4_; clear n0_ n1_ n2_ n3_ n4_; (try clear hb); (try clear hb2); (try clear hk); (try clear hi); (try clear ho0)))
            go_loopg [12] kj12 (fun kq v12 w' => ∃ (x12_2 : Int), v12 = .int .i64 x12_2 ∧ Aside0 (gristmilllaw14_TagsOrder.l0 kq l3 true t202 t221 x12_2 a0_0 a0_1 a0_2 a1_0 a1_1 a1_2 = some r) ∧ Aside0 (kq ≤ kj12) ∧ Aside0 (Kd.R k23 23 w' w.heap.size (fun k_ => k_ ≠ gb198 ∧ k_ ≠ gb199 ∧ k_ ≠ gb200) v222 t221) ∧ Aside0 (w'.heap[gb198]? = some (.cells #[.int .i64 a0_0, .string a0_1, .int .i64 a0_2] 23 (0, 0))) ∧ Aside0 (w'.heap[gb199]? = some (.cells #[.int .i64 a1_0, .string a1_1, .int .i64 a1_2] 23 (0, 0))) ∧ Aside0 (w'.heap[gb200]? = some (.cells #[.int .i64 a2_0, .string a2_1, .int .i64 a2_2] 23 (0, 0))) ∧ Aside0 (Below w.heap.size w w'))
            case atStart => exact ⟨(0), (by first | rfl | (simp; done) | (simp [*]; done)), H', ⟨Nat.le_refl _⟩, ⟨by (with_reducible repeat (first | apply Kd.R_alloc | apply Kd.R_drewN | apply Kd.R_drew)); exact Kd.R_mono HO223.out (fun _ hk => ⟨hk.1.1.2, ⟨hk.1.2, hk.2⟩⟩)⟩, ⟨by (with_reducible repeat (first | refine blk_drewN ?_ _ | refine blk_drew ?_ | refine blk_alloc ?_ _)); exact BK198.out⟩, ⟨by (with_reducible repeat (first | refine blk_drewN ?_ _ | refine blk_drew ?_ | refine blk_alloc ?_ _)); exact BK199.out⟩, ⟨by (with_reducible repeat (first | refine blk_drewN ?_ _ | refine blk_drew ?_ | refine blk_alloc ?_ _)); exact BK200.out⟩, ⟨by repeat (first | (with_reducible first | exact HB.out | apply below_alloc | apply pw_below_drewN | apply below_drew1 | refine below_set ?_ GE198.out | refine below_set ?_ GE199.out | refine below_set ?_ GE200.out) | exact HB.out)⟩⟩
            case round =>
              clear H'
              try clear c1
              try clear c2
              try clear p2
              try clear c3
              try clear c4
              try clear c5
              try clear c6
              try clear c7
              try clear c7b0
              try clear c7b1
              try clear c8
              try clear c9
              try clear c10
              try clear c13
              try clear c18
              try clear c19
              try clear c21
              try clear c23
              try clear c25
              try clear c27
              try clear c29
              try clear c30
              try clear c30b0
              try clear c30b1
              try clear c30b2
              try clear c32
              try clear c34
              try clear c36
              try clear c37
              try clear c39
              try clear c57
              try clear c58
              try clear c60
              try clear c76
              try clear c78
              try clear c78b0
              try clear c78b1
              try clear c78b2
              try clear c80
              try clear c81
              try clear c82
              try clear c84
              try clear c96
              try clear hcz20_0
              try clear hcz20_1
              try clear hcz20_2
              try clear hcz22_0
              try clear hcz22_1
              try clear hcz22_2
              try clear hcz38_0
              try clear hcz38_1
              try clear hcz38_2
              try clear hcz40_0
              try clear hcz40_1
              try clear hcz40_2
              try clear hcz42_0
              try clear hcz42_1
              try clear hcz42_2
              try clear hcz43_0
              try clear hcz43_1
              try clear hcz43_2
              try clear hcz45_0
              try clear hcz45_1
              try clear hcz45_2
              try clear hcz46_0
              try clear hcz46_1
              try clear hcz46_2
              try clear hcz48_0
              try clear hcz48_1
              try clear hcz48_2
              try clear hcz49_0
              try clear hcz49_1
              try clear hcz49_2
              try clear hcz51_0
              try clear hcz51_1
              try clear hcz51_2
              try clear hcz52_0
              try clear hcz52_1
              try clear hcz52_2
              try clear hcz54_0
              try clear hcz54_1
              try clear hcz54_2
              try clear hcz55_0
              try clear hcz55_1
              try clear hcz55_2
              try clear hcz59_0
              try clear hcz59_1
              try clear hcz59_2
              try clear hcz61_0
              try clear hcz61_1
              try clear hcz61_2
              try clear hcz63_0
              try clear hcz63_1
              try clear hcz63_2
              try clear hcz64_0
              try clear hcz64_1
              try clear hcz64_2
              try clear hcz66_0
              try clear hcz66_1
              try clear hcz66_2
              try clear hcz67_0
              try clear hcz67_1
              try clear hcz67_2
              try clear hcz69_0
              try clear hcz69_1
              try clear hcz69_2
              try clear hcz70_0
              try clear hcz70_1
              try clear hcz70_2
              try clear hcz72_0
              try clear hcz72_1
              try clear hcz72_2
              try clear hcz73_0
              try clear hcz73_1
              try clear hcz73_2
              try clear hcz83_0
              try clear hcz83_1
              try clear hcz83_2
              try clear hcz85_0
              try clear hcz85_1
              try clear hcz85_2
              try clear hcz87_0
              try clear hcz87_1
              try clear hcz87_2
              try clear hcz88_0
              try clear hcz88_1
              try clear hcz88_2
              try clear hcz90_0
              try clear hcz90_1
              try clear hcz90_2
              try clear hcz91_0
              try clear hcz91_1
              try clear hcz91_2
              try clear hcz93_0
              try clear hcz93_1
              try clear hcz93_2
              try clear hcz94_0
              try clear hcz94_1
              try clear hcz94_2
              try clear hfz20_0
              try clear hfz20_1
              try clear hfz20_2
              try clear hfz22_0
              try clear hfz22_1
              try clear hfz22_2
              try clear hfz38_0
              try clear hfz38_1
              try clear hfz38_2
              try clear hfz40_0
              try clear hfz40_1
              try clear hfz40_2
              try clear hfz42_0
              try clear hfz42_1
              try clear hfz42_2
              try clear hfz43_0
              try clear hfz43_1
              try clear hfz43_2
              try clear hfz45_0
              try clear hfz45_1
              try clear hfz45_2
              try clear hfz46_0
              try clear hfz46_1
              try clear hfz46_2
              try clear hfz48_0
              try clear hfz48_1
              try clear hfz48_2
              try clear hfz49_0
              try clear hfz49_1
              try clear hfz49_2
              try clear hfz51_0
              try clear hfz51_1
              try clear hfz51_2
              try clear hfz52_0
              try clear hfz52_1
              try clear hfz52_2
              try clear hfz54_0
              try clear hfz54_1
              try clear hfz54_2
              try clear hfz55_0
              try clear hfz55_1
              try clear hfz55_2
              try clear hfz59_0
              try clear hfz59_1
              try clear hfz59_2
              try clear hfz61_0
              try clear hfz61_1
              try clear hfz61_2
              try clear hfz63_0
              try clear hfz63_1
              try clear hfz63_2
              try clear hfz64_0
              try clear hfz64_1
              try clear hfz64_2
              try clear hfz66_0
              try clear hfz66_1
              try clear hfz66_2
              try clear hfz67_0
              try clear hfz67_1
              try clear hfz67_2
              try clear hfz69_0
              try clear hfz69_1
              try clear hfz69_2
              try clear hfz70_0
              try clear hfz70_1
              try clear hfz70_2
              try clear hfz72_0
              try clear hfz72_1
              try clear hfz72_2
              try clear hfz73_0
              try clear hfz73_1
              try clear hfz73_2
              try clear hfz83_0
              try clear hfz83_1
              try clear hfz83_2
              try clear hfz85_0
              try clear hfz85_1
              try clear hfz85_2
              try clear hfz87_0
              try clear hfz87_1
              try clear hfz87_2
              try clear hfz88_0
              try clear hfz88_1
              try clear hfz88_2
              try clear hfz90_0
              try clear hfz90_1
              try clear hfz90_2
              try clear hfz91_0
              try clear hfz91_1
              try clear hfz91_2
              try clear hfz93_0
              try clear hfz93_1
              try clear hfz93_2
              try clear hfz94_0
              try clear hfz94_1
              try clear hfz94_2
              try clear p2
              obtain ⟨x12_2, rfl, HA, HK2, HO_11, BK198, BK199, BK200, HB⟩ := hrel
              cases gk with
              | zero => exact absurd HA.out (by simp [gristmilllaw14_TagsOrder.l0])
              | succ k2 =>
                have H := HA.out
                clear HA
                simp only [gristmilllaw14_TagsOrder.l0] at H
                by_cases c99 : x12_2 < (t221.length : Int)
                · rw [if_pos c99] at H
                  have c99b0 : decide (x12_2 < (t221.length : Int)) = true := decide_eq_true c99
                  clear c99
                  by_cases c100 : x12_2 > 0
                  · rw [if_pos c100] at H
                    have c100b0 : decide (0 < x12_2) = true := decide_eq_true c100
                    clear c100
                    obtain ⟨ji101, hji101⟩ : ∃ j_ : Int, (wrap64 (x12_2 - 1)) = j_ := ⟨_, rfl⟩
                    replace H : (if 0 ≤ (ji101) then (if (ji101) < (t221.length : Int) then (if 0 ≤ x12_2 then ((tag_Less.f k2 ((rd_T23 t221 (ji101)).f0) ((rd_T23 t221 (ji101)).f1) ((rd_T23 t221 (ji101)).f2) ((rd_T23 t221 x12_2).f0) ((rd_T23 t221 x12_2).f1) ((rd_T23 t221 x12_2).f2)).bind fun t226 => (if t226 = true then ((tag_Has.f k2 l3 ((rd_T23 t221 x12_2).f0) ((rd_T23 t221 x12_2).f1) ((rd_T23 t221 x12_2).f2)).bind fun t228 => (if t228 = true then (gristmilllaw14_TagsOrder.l0 k2 l3 true t202 t221 (wrap64 (x12_2 + 1)) a0_0 a0_1 a0_2 a1_0 a1_1 a1_2) else (none))) else (none))) else (none)) else (none)) else (none)) = some r := by first | (rw [hji101] at H; exact H) | (simp only [hji101] at H ⊢; exact H)
                    have hji101w : (IntKind.i64.wrap (x12_2 - 1)) = ji101 := (i64_w _).trans hji101
                    by_cases c102 : 0 ≤ (ji101)
                    · rw [if_pos c102] at H
                      have c102b0 : decide (0 ≤ (ji101)) = true := decide_eq_true c102
                      clear c102
                      by_cases c103 : (ji101) < (t221.length : Int)
                      · rw [if_pos c103] at H
                        have c103b0 : decide ((ji101) < (t221.length : Int)) = true := decide_eq_true c103
                        clear c103
                        by_cases c104 : 0 ≤ x12_2
                        · rw [if_pos c104] at H
                          have c104b0 : decide (0 ≤ x12_2) = true := decide_eq_true c104
                          clear c104
                          replace H := Option.bind_eq_some_iff.mp H
                          obtain ⟨t226, A1050, H⟩ := H
                          replace H : (if t226 = true then ((tag_Has.f k2 l3 ((rd_T23 t221 x12_2).f0) ((rd_T23 t221 x12_2).f1) ((rd_T23 t221 x12_2).f2)).bind fun t228 => (if t228 = true then (gristmilllaw14_TagsOrder.l0 k2 l3 true t202 t221 (wrap64 (x12_2 + 1)) a0_0 a0_1 a0_2 a1_0 a1_1 a1_2) else (none))) else (none)) = some r := H
                          have A105 := Aside0.mk A1050
                          clear A1050
                          by_cases c106 : t226 = true
                          · subst c106
                            have H1 : ((tag_Has.f k2 l3 ((rd_T23 t221 x12_2).f0) ((rd_T23 t221 x12_2).f1) ((rd_T23 t221 x12_2).f2)).bind fun t228 => (if t228 = true then (gristmilllaw14_TagsOrder.l0 k2 l3 true t202 t221 (wrap64 (x12_2 + 1)) a0_0 a0_1 a0_2 a1_0 a1_1 a1_2) else (none))) = some r := by rw [if_pos rfl] at H; exact H
                            clear H
                            have H := H1
                            clear H1
                            replace H := Option.bind_eq_some_iff.mp H
                            obtain ⟨t228, A1070, H⟩ := H
                            replace H : (if t228 = true then (gristmilllaw14_TagsOrder.l0 k2 l3 true t202 t221 (wrap64 (x12_2 + 1)) a0_0 a0_1 a0_2 a1_0 a1_1 a1_2) else (none)) = some r := H
                            have A107 := Aside0.mk A1070
                            clear A1070
                            by_cases c108 : t228 = true
                            · subst c108
                              have H1 : (gristmilllaw14_TagsOrder.l0 k2 l3 true t202 t221 (wrap64 (x12_2 + 1)) a0_0 a0_1 a0_2 a1_0 a1_1 a1_2) = some r := by rw [if_pos rfl] at H; exact H
                              clear H
                              have H := H1
                              clear H1
                              have H' := Aside0.mk H
                              clear H
                              obtain ⟨Ao109, co109, eo109⟩ := Kd.R_slice HO_11.out
                              subst eo109
                              try go_wp2
                              have n0_ := Aside0.mk (Kd.R_drew HO_11.out)
                              have n1_ := Aside0.mk (blk_drew BK198.out)
                              have n2_ := Aside0.mk (blk_drew BK199.out)
                              have n3_ := Aside0.mk (blk_drew BK200.out)
                              have n4_ := Aside0.mk (below_drew1 HB.out)
                              clear HO_11
                              clear BK198
                              clear BK199
                              clear BK200
                              clear HB
                              have HO_11 := n0_
                              have BK198 := n1_
                              have BK199 := n2_
                              have BK200 := n3_
                              have HB := n4_
                              clear n0_ n1_ n2_ n3_ n4_
                              have p224 : 0 ≤ ((ji101) : Int) := of_decide_eq_true (by first | (with_reducible assumption) | assumption)
                              have q224 : (ji101) < (t221.length : Int) := of_decide_eq_true (by first | (with_reducible assumption) | assumption)
                              obtain ⟨ad224, e224, hx224_0, hx224_1, hx224_2⟩ := at_T23 (Kd.R_reads' HO_11.out).2.2 (ji101) p224 q224
                              cases e224
                              replace p224 := eq_true p224
                              replace q224 := eq_true q224
                              have p225 : 0 ≤ (x12_2 : Int) := of_decide_eq_true (by first | (with_reducible assumption) | assumption)
                              have q225 : x12_2 < (t221.length : Int) := of_decide_eq_true (by first | (with_reducible assumption) | assumption)
                              obtain ⟨ad225, e225, hx225_0, hx225_1, hx225_2⟩ := at_T23 (Kd.R_reads' HO_11.out).2.2 x12_2 p225 q225
                              obtain rfl : ad224 = ad225 := (by injection e225)
                              replace p225 := eq_true p225
                              replace q225 := eq_true q225
                              have p227 : 0 ≤ (x12_2 : Int) := of_decide_eq_true (by first | (with_reducible assumption) | assumption)
                              have q227 : x12_2 < (t221.length : Int) := of_decide_eq_true (by first | (with_reducible assumption) | assumption)
                              obtain ⟨ad227, e227, hx227_0, hx227_1, hx227_2⟩ := at_T23 (Kd.R_reads' HO_11.out).2.2 x12_2 p227 q227
                              obtain rfl : ad224 = ad227 := (by injection e227)
                              replace p227 := eq_true p227
                              replace q227 := eq_true q227
                              refine start_ (n := 24) (S := fun w' => w'.cell? (ad224.add (((ji101)).toNat * 3)) = some (.int .i64 ((rd_T23 t221 (ji101)).f0)) ∧ w'.cell? ⟨(ad224.add (((ji101)).toNat * 3)).block, (ad224.add (((ji101)).toNat * 3)).off + 1, none⟩ = some (.string ((rd_T23 t221 (ji101)).f1)) ∧ w'.cell? ⟨(ad224.add (((ji101)).toNat * 3)).block, (ad224.add (((ji101)).toNat * 3)).off + 2, none⟩ = some (.int .i64 ((rd_T23 t221 (ji101)).f2)) ∧ w'.cell? (ad224.add ((x12_2).toNat * 3)) = some (.int .i64 ((rd_T23 t221 x12_2).f0)) ∧ w'.cell? ⟨(ad224.add ((x12_2).toNat * 3)).block, (ad224.add ((x12_2).toNat * 3)).off + 1, none⟩ = some (.string ((rd_T23 t221 x12_2).f1)) ∧ w'.cell? ⟨(ad224.add ((x12_2).toNat * 3)).block, (ad224.add ((x12_2).toNat * 3)).off + 2, none⟩ = some (.int .i64 ((rd_T23 t221 x12_2).f2)) ∧ w'.cell? (ad224.add ((x12_2).toNat * 3)) = some (.int .i64 ((rd_T23 t221 x12_2).f0)) ∧ w'.cell? ⟨(ad224.add ((x12_2).toNat * 3)).block, (ad224.add ((x12_2).toNat * 3)).off + 1, none⟩ = some (.string ((rd_T23 t221 x12_2).f1)) ∧ w'.cell? ⟨(ad224.add ((x12_2).toNat * 3)).block, (ad224.add ((x12_2).toNat * 3)).off + 2, none⟩ = some (.int .i64 ((rd_T23 t221 x12_2).f2))) (ds := []) #[false, false, false, false, false, false, false, false, false, false, false, false, false, false, false, false, false, false, false, false, false, false, false, false] (by kernel_rfl) rfl rfl ⟨hx224_0, hx224_1, hx224_2, hx225_0, hx225_1, hx225_2, hx227_0, hx227_1, hx227_2⟩ (fun hHeld => ?_); refine with_tabW gristmilllaw14_TagsOrder.tab13 gristmilllaw14_TagsOrder.bits13 (fun HT_ HW_ => ?_)
                              generalize wr.drew = w110 at HO_11 BK198 BK199 BK200 HB hx224_0 hx224_1 hx224_2 hx225_0 hx225_1 hx225_2 hx227_0 hx227_1 hx227_2 hHeld ⊢
                              refine pure_ (i := 0) (N := some 68) (v := ?_) (a' := ?_) #[true, false, false, false, false, false, false, false, false, false, false, false, false, false, false, false, false, false, false, false, false, false, false, false] rfl rfl (any_of HT_.out (by kernel_rfl)) (fun _ _ _ h => h) (Or.inl ⟨by rfl, ?_⟩) ?_ ?_
                              rotate_left
                              · intro w'
                                go_simp
                                with_reducible rfl
                              rotate_left
                              · simp only [Act.put, List.setIfInBounds_toArray, List.set_cons_zero, List.set_cons_succ, i64_w, i32_w]
                                rfl
                              refine pure_ (i := 1) (N := some 69) (v := ?_) (a' := ?_) #[true, true, false, false, false, false, false, false, false, false, false, false, false, false, false, false, false, false, false, false, false, false, false, false] rfl rfl (any_of HT_.out (by kernel_rfl)) (fun _ _ _ h => h) (Or.inl ⟨by rfl, ?_⟩) ?_ ?_
                              rotate_left
                              · intro w'
                                go_simp
                                with_reducible rfl
                              rotate_left
                              · simp only [Act.put, List.setIfInBounds_toArray, List.set_cons_zero, List.set_cons_succ, i64_w, i32_w]
                                rfl
                              refine pure_ (i := 2) (N := some 70) (v := ?_) (a' := ?_) #[true, true, true, false, false, false, false, false, false, false, false, false, false, false, false, false, false, false, false, false, false, false, false, false] rfl rfl (any_of HT_.out (by kernel_rfl)) (fun _ _ _ h => h) (Or.inl ⟨by rfl, ?_⟩) ?_ ?_
                              rotate_left
                              · intro w'
                                go_simp
                                with_reducible rfl
                              rotate_left
                              · simp only [Act.put, List.setIfInBounds_toArray, List.set_cons_zero, List.set_cons_succ, i64_w, i32_w]
                                rfl
                              refine pure_ (i := 3) (N := some 71) (v := ?_) (a' := ?_) #[true, true, true, true, false, false, false, false, false, false, false, false, false, false, false, false, false, false, false, false, false, false, false, false] rfl rfl (any_of HT_.out (by kernel_rfl)) (fun _ _ _ h => h) (Or.inl ⟨by rfl, ?_⟩) ?_ ?_
                              rotate_left
                              · intro w'
                                go_simp
                                with_reducible rfl
                              rotate_left
                              · simp only [Act.put, List.setIfInBounds_toArray, List.set_cons_zero, List.set_cons_succ, i64_w, i32_w]
                                rfl
                              refine pure_ (i := 4) (N := some 72) (v := ?_) (a' := ?_) #[true, true, true, true, true, false, false, false, false, false, false, false, false, false, false, false, false, false, false, false, false, false, false, false] rfl rfl (any_of HT_.out (by kernel_rfl)) (fun _ _ _ h => h) (Or.inl ⟨by rfl, ?_⟩) ?_ ?_
                              rotate_left
                              · intro w'
                                go_simp
                                with_reducible rfl
                              rotate_left
                              · simp only [Act.put, List.setIfInBounds_toArray, List.set_cons_zero, List.set_cons_succ, i64_w, i32_w]
                                rfl
                              refine pure_ (i := 5) (N := some 73) (v := ?_) (a' := ?_) #[true, true, true, true, true, true, false, false, false, false, false, false, false, false, false, false, false, false, false, false, false, false, false, false] rfl rfl (any_of HT_.out (by kernel_rfl)) (fun _ _ _ h => h) (Or.inl ⟨by rfl, ?_⟩) ?_ ?_
                              rotate_left
                              · intro w'
                                go_simp
                                with_reducible rfl
                              rotate_left
                              · simp only [Act.put, List.setIfInBounds_toArray, List.set_cons_zero, List.set_cons_succ, i64_w, i32_w]
                                rfl
                              refine pure_ (i := 6) (N := some 74) (v := ?_) (a' := ?_) #[true, true, true, true, true, true, true, false, false, false, false, false, false, false, false, false, false, false, false, false, false, false, false, false] rfl rfl (any_of HT_.out (by kernel_rfl)) (fun _ _ _ h => h) (Or.inl ⟨by rfl, ?_⟩) ?_ ?_
                              rotate_left
                              · intro w'
                                go_simp
                                with_reducible rfl
                              rotate_left
                              · simp only [Act.put, List.setIfInBounds_toArray, List.set_cons_zero, List.set_cons_succ, i64_w, i32_w]
                                rfl
                              refine pure_ (i := 8) (N := some 76) (v := ?_) (a' := ?_) #[true, true, true, true, true, true, true, false, true, false, false, false, false, false, false, false, false, false, false, false, false, false, false, false] rfl rfl (any_of HT_.out (by kernel_rfl)) (fun _ _ _ h => h) (Or.inl ⟨by rfl, ?_⟩) ?_ ?_
                              rotate_left
                              · intro w'
                                go_simp
                                with_reducible rfl
                              rotate_left
                              · simp only [Act.put, List.setIfInBounds_toArray, List.set_cons_zero, List.set_cons_succ, i64_w, i32_w]
                                rfl
                              refine pure_ (i := 9) (N := some 77) (v := ?_) (a' := ?_) #[true, true, true, true, true, true, true, false, true, true, false, false, false, false, false, false, false, false, false, false, false, false, false, false] rfl rfl (any_of HT_.out (by kernel_rfl)) (fun _ _ _ h => h) (Or.inl ⟨by rfl, ?_⟩) ?_ ?_
                              rotate_left
                              · intro w'
                                go_simp
                                with_reducible rfl
                              rotate_left
                              · simp only [Act.put, List.setIfInBounds_toArray, List.set_cons_zero, List.set_cons_succ, i64_w, i32_w]
                                rfl
                              refine pure_ (i := 10) (N := some 78) (v := ?_) (a' := ?_) #[true, true, true, true, true, true, true, false, true, true, true, false, false, false, false, false, false, false, false, false, false, false, false, false] rfl rfl (any_of HT_.out (by kernel_rfl)) (fun _ _ _ h => h) (Or.inl ⟨by rfl, ?_⟩) ?_ ?_
                              rotate_left
                              · intro w'
                                go_simp
                                with_reducible rfl
                              rotate_left
                              · simp only [Act.put, List.setIfInBounds_toArray, List.set_cons_zero, List.set_cons_succ, i64_w, i32_w]
                                rfl
                              refine take_ (i := 7) (N := some 75) (v := ?_) (a' := ?_) #[true, true, true, true, true, true, true, true, true, true, true, false, false, false, false, false, false, false, false, false, false, false, false, false] rfl rfl (take_ofW HT_.out HW_.out (by kernel_rfl)) (fun _ _ _ h => h) (Or.inl ⟨by rfl, ?_⟩) hHeld ?_ ?_
                              rotate_left
                              · rintro w' ⟨s0, s1, s2, s3, s4, s5, s6, s7, s8⟩
                                go_simp
                                with_reducible rfl
                              rotate_left
                              · simp only [Act.put, List.setIfInBounds_toArray, List.set_cons_zero, List.set_cons_succ, i64_w, i32_w]
                                rfl
                              refine take_ (i := 11) (N := some 79) (v := ?_) (a' := ?_) #[true, true, true, true, true, true, true, true, true, true, true, true, false, false, false, false, false, false, false, false, false, false, false, false] rfl rfl (take_ofW HT_.out HW_.out (by kernel_rfl)) (fun _ _ _ h => h) (Or.inl ⟨by rfl, ?_⟩) hHeld ?_ ?_
                              rotate_left
                              · rintro w' ⟨s0, s1, s2, s3, s4, s5, s6, s7, s8⟩
                                go_simp
                                with_reducible rfl
                              rotate_left
                              · simp only [Act.put, List.setIfInBounds_toArray, List.set_cons_zero, List.set_cons_succ, i64_w, i32_w]
                                rfl
                              refine one_ (i := 12) (N := some 80) #[true, true, true, true, true, true, true, true, true, true, true, true, true, false, false, false, false, false, false, false, false, false, false, false] rfl rfl (one_of HT_.out (by kernel_rfl)) (by decide) (fun K hK => ?_)
                              refine goes_ Tryd.func10 (by kernel_rfl) rfl #[.agg #[.int .i64 ((rd_T23 t221 (ji101)).f0), .string ((rd_T23 t221 (ji101)).f1), .int .i64 ((rd_T23 t221 (ji101)).f2)], .agg #[.int .i64 ((rd_T23 t221 x12_2).f0), .string ((rd_T23 t221 x12_2).f1), .int .i64 ((rd_T23 t221 x12_2).f2)]] (by rfl) rfl rfl (by (try simp only [List.map_toArray, List.map_cons, List.map_nil]); first | done | (simp only [hji101]; rfl) | rfl | (simp only [List.length_drop, List.length_take]; rfl)) ?_
                              with_reducible refine (tag_Less.calls k2 ((rd_T23 t221 (ji101)).f0) ((rd_T23 t221 (ji101)).f1) ((rd_T23 t221 (ji101)).f2) ((rd_T23 t221 x12_2).f0) ((rd_T23 t221 x12_2).f1) ((rd_T23 t221 x12_2).f2) true _ A105.out).mono ?_
                              rintro e w111 ⟨rfl, hb⟩
                              have HS0_ := (hb.cell (World.block_lt_of_cell? _ _ (hHeld.1))).trans (hHeld.1)
                              have HS1_ := (hb.cell (World.block_lt_of_cell? _ _ (hHeld.2.1))).trans (hHeld.2.1)
                              have HS2_ := (hb.cell (World.block_lt_of_cell? _ _ (hHeld.2.2.1))).trans (hHeld.2.2.1)
                              have HS3_ := (hb.cell (World.block_lt_of_cell? _ _ (hHeld.2.2.2.1))).trans (hHeld.2.2.2.1)
                              have HS4_ := (hb.cell (World.block_lt_of_cell? _ _ (hHeld.2.2.2.2.1))).trans (hHeld.2.2.2.2.1)
                              have HS5_ := (hb.cell (World.block_lt_of_cell? _ _ (hHeld.2.2.2.2.2.1))).trans (hHeld.2.2.2.2.2.1)
                              have HS6_ := (hb.cell (World.block_lt_of_cell? _ _ (hHeld.2.2.2.2.2.2.1))).trans (hHeld.2.2.2.2.2.2.1)
                              have HS7_ := (hb.cell (World.block_lt_of_cell? _ _ (hHeld.2.2.2.2.2.2.2.1))).trans (hHeld.2.2.2.2.2.2.2.1)
                              have HS8_ := (hb.cell (World.block_lt_of_cell? _ _ (hHeld.2.2.2.2.2.2.2.2))).trans (hHeld.2.2.2.2.2.2.2.2)
                              refine ⟨_, rfl, ?_⟩
                              have n0_ := Aside0.mk (Kd.R_below (by (with_reducible repeat (first | apply Kd.R_alloc | apply Kd.R_drewN | apply Kd.R_drew)); exact HO_11.out) hb)
                              have n1_ := Aside0.mk (blk_below (g := gb198) (o := .cells #[.int .i64 a0_0, .string a0_1, .int .i64 a0_2] 23 (0, 0)) (by (with_reducible repeat (first | refine blk_drewN ?_ _ | refine blk_drew ?_ | refine blk_alloc ?_ _)); exact BK198.out) hb)
                              have n2_ := Aside0.mk (blk_below (g := gb199) (o := .cells #[.int .i64 a1_0, .string a1_1, .int .i64 a1_2] 23 (0, 0)) (by (with_reducible repeat (first | refine blk_drewN ?_ _ | refine blk_drew ?_ | refine blk_alloc ?_ _)); exact BK199.out) hb)
                              have n3_ := Aside0.mk (blk_below (g := gb200) (o := .cells #[.int .i64 a2_0, .string a2_1, .int .i64 a2_2] 23 (0, 0)) (by (with_reducible repeat (first | refine blk_drewN ?_ _ | refine blk_drew ?_ | refine blk_alloc ?_ _)); exact BK200.out) hb)
                              have n4_ := Aside0.mk (below_step (by repeat (first | (with_reducible first | exact HB.out | apply below_alloc | apply pw_below_drewN | apply below_drew1 | refine below_set ?_ GE198.out | refine below_set ?_ GE199.out | refine below_set ?_ GE200.out) | exact HB.out)) hb)
                              clear HO_11
                              clear BK198
                              clear BK199
                              clear BK200
                              clear HB
                              have HO_11 := n0_
                              have BK198 := n1_
                              have BK199 := n2_
                              have BK200 := n3_
                              have HB := n4_
                              clear n0_ n1_ n2_ n3_ n4_
                              (try clear hb)
                              (try clear hb2)
                              (try clear hk)
                              (try clear hi)
                              refine hK.out _ _ ⟨HS0_, HS1_, HS2_, HS3_, HS4_, HS5_, HS6_, HS7_, HS8_⟩ (fun hHeld => ?_)
                              clear hK K
                              refine norm_ (a' := ?_) ?_ ?_
                              rotate_left
                              · show Act.put _ (some 80) _ = _
                                simp only [Act.put, List.setIfInBounds_toArray, List.set_cons_zero, List.set_cons_succ, i64_w, i32_w]
                                rfl
                              refine pure_ (i := 13) (N := some 81) (v := ?_) (a' := ?_) #[true, true, true, true, true, true, true, true, true, true, true, true, true, true, false, false, false, false, false, false, false, false, false, false] rfl rfl (any_of HT_.out (by kernel_rfl)) (fun _ _ _ h => h) (Or.inl ⟨by rfl, ?_⟩) ?_ ?_
                              rotate_left
                              · intro w'
                                go_simp
                                with_reducible rfl
                              rotate_left
                              · simp only [Act.put, List.setIfInBounds_toArray, List.set_cons_zero, List.set_cons_succ, i64_w, i32_w]
                                rfl
                              refine pure_ (i := 14) (N := some 82) (v := ?_) (a' := ?_) #[true, true, true, true, true, true, true, true, true, true, true, true, true, true, true, false, false, false, false, false, false, false, false, false] rfl rfl (any_of HT_.out (by kernel_rfl)) (fun _ _ _ h => h) (Or.inl ⟨by rfl, ?_⟩) ?_ ?_
                              rotate_left
                              · intro w'
                                go_simp
                                with_reducible rfl
                              rotate_left
                              · simp only [Act.put, List.setIfInBounds_toArray, List.set_cons_zero, List.set_cons_succ, i64_w, i32_w]
                                rfl
                              refine pure_ (i := 15) (N := some 83) (v := ?_) (a' := ?_) #[true, true, true, true, true, true, true, true, true, true, true, true, true, true, true, true, false, false, false, false, false, false, false, false] rfl rfl (any_of HT_.out (by kernel_rfl)) (fun _ _ _ h => h) (Or.inl ⟨by rfl, ?_⟩) ?_ ?_
                              rotate_left
                              · intro w'
                                go_simp
                                with_reducible rfl
                              rotate_left
                              · simp only [Act.put, List.setIfInBounds_toArray, List.set_cons_zero, List.set_cons_succ, i64_w, i32_w]
                                rfl
                              refine pure_ (i := 16) (N := some 84) (v := ?_) (a' := ?_) #[true, true, true, true, true, true, true, true, true, true, true, true, true, true, true, true, true, false, false, false, false, false, false, false] rfl rfl (any_of HT_.out (by kernel_rfl)) (fun _ _ _ h => h) (Or.inl ⟨by rfl, ?_⟩) ?_ ?_
                              rotate_left
                              · intro w'
                                go_simp
                                with_reducible rfl
                              rotate_left
                              · simp only [Act.put, List.setIfInBounds_toArray, List.set_cons_zero, List.set_cons_succ, i64_w, i32_w]
                                rfl
                              refine pure_ (i := 17) (N := some 85) (v := ?_) (a' := ?_) #[true, true, true, true, true, true, true, true, true, true, true, true, true, true, true, true, true, true, false, false, false, false, false, false] rfl rfl (any_of HT_.out (by kernel_rfl)) (fun _ _ _ h => h) (Or.inl ⟨by rfl, ?_⟩) ?_ ?_
                              rotate_left
                              · intro w'
                                go_simp
                                with_reducible rfl
                              rotate_left
                              · simp only [Act.put, List.setIfInBounds_toArray, List.set_cons_zero, List.set_cons_succ, i64_w, i32_w]
                                rfl
                              refine pure_ (i := 18) (N := some 86) (v := ?_) (a' := ?_) #[true, true, true, true, true, true, true, true, true, true, true, true, true, true, true, true, true, true, true, false, false, false, false, false] rfl rfl (any_of HT_.out (by kernel_rfl)) (fun _ _ _ h => h) (Or.inl ⟨by rfl, ?_⟩) ?_ ?_
                              rotate_left
                              · intro w'
                                go_simp
                                with_reducible rfl
                              rotate_left
                              · simp only [Act.put, List.setIfInBounds_toArray, List.set_cons_zero, List.set_cons_succ, i64_w, i32_w]
                                rfl
                              refine pure_ (i := 19) (N := some 87) (v := ?_) (a' := ?_) #[true, true, true, true, true, true, true, true, true, true, true, true, true, true, true, true, true, true, true, true, false, false, false, false] rfl rfl (any_of HT_.out (by kernel_rfl)) (fun _ _ _ h => h) (Or.inl ⟨by rfl, ?_⟩) ?_ ?_
                              rotate_left
                              · intro w'
                                go_simp
                                with_reducible rfl
                              rotate_left
                              · simp only [Act.put, List.setIfInBounds_toArray, List.set_cons_zero, List.set_cons_succ, i64_w, i32_w]
                                rfl
                              refine take_ (i := 20) (N := some 88) (v := ?_) (a' := ?_) #[true, true, true, true, true, true, true, true, true, true, true, true, true, true, true, true, true, true, true, true, true, false, false, false] rfl rfl (take_ofW HT_.out HW_.out (by kernel_rfl)) (fun _ _ _ h => h) (Or.inl ⟨by rfl, ?_⟩) hHeld ?_ ?_
                              rotate_left
                              · rintro w' ⟨s0, s1, s2, s3, s4, s5, s6, s7, s8⟩
                                go_simp
                                with_reducible rfl
                              rotate_left
                              · simp only [Act.put, List.setIfInBounds_toArray, List.set_cons_zero, List.set_cons_succ, i64_w, i32_w]
                                rfl
                              refine one_ (i := 21) (N := some 89) #[true, true, true, true, true, true, true, true, true, true, true, true, true, true, true, true, true, true, true, true, true, true, false, false] rfl rfl (one_of HT_.out (by kernel_rfl)) (by decide) (fun K hK => ?_)
                              refine goes_ Tryd.func15 (by kernel_rfl) rfl #[.slice A3 l3.length c3, .agg #[.int .i64 ((rd_T23 t221 x12_2).f0), .string ((rd_T23 t221 x12_2).f1), .int .i64 ((rd_T23 t221 x12_2).f2)]] (by rfl) rfl rfl (by (try simp only [List.map_toArray, List.map_cons, List.map_nil]); first | done | rfl | (simp only [List.length_drop, List.length_take]; rfl)) ?_
                              with_reducible refine (tag_Has.calls k2 _ _ l3 ((rd_T23 t221 x12_2).f0) ((rd_T23 t221 x12_2).f1) ((rd_T23 t221 x12_2).f2) true _ ?side1 ?side2 A107.out).mono ?_
                              (case side1 => repeat (first | exact (Kd.C_below HR3.out HB.out) | (with_reducible refine Kd.C_alloc ?_ _) | (with_reducible refine Kd.C_drewN ?_ _) | (with_reducible refine Kd.C_drew ?_)))
                              (case side2 => exact HC3.out)
                              rintro e w112 ⟨rfl, hb⟩
                              have HS0_ := (hb.cell (World.block_lt_of_cell? _ _ (hHeld.1))).trans (hHeld.1)
                              have HS1_ := (hb.cell (World.block_lt_of_cell? _ _ (hHeld.2.1))).trans (hHeld.2.1)
                              have HS2_ := (hb.cell (World.block_lt_of_cell? _ _ (hHeld.2.2.1))).trans (hHeld.2.2.1)
                              have HS3_ := (hb.cell (World.block_lt_of_cell? _ _ (hHeld.2.2.2.1))).trans (hHeld.2.2.2.1)
                              have HS4_ := (hb.cell (World.block_lt_of_cell? _ _ (hHeld.2.2.2.2.1))).trans (hHeld.2.2.2.2.1)
                              have HS5_ := (hb.cell (World.block_lt_of_cell? _ _ (hHeld.2.2.2.2.2.1))).trans (hHeld.2.2.2.2.2.1)
                              have HS6_ := (hb.cell (World.block_lt_of_cell? _ _ (hHeld.2.2.2.2.2.2.1))).trans (hHeld.2.2.2.2.2.2.1)
                              have HS7_ := (hb.cell (World.block_lt_of_cell? _ _ (hHeld.2.2.2.2.2.2.2.1))).trans (hHeld.2.2.2.2.2.2.2.1)
                              have HS8_ := (hb.cell (World.block_lt_of_cell? _ _ (hHeld.2.2.2.2.2.2.2.2))).trans (hHeld.2.2.2.2.2.2.2.2)
                              refine ⟨_, rfl, ?_⟩
                              have n0_ := Aside0.mk (Kd.R_below (by (with_reducible repeat (first | apply Kd.R_alloc | apply Kd.R_drewN | apply Kd.R_drew)); exact HO_11.out) hb)
                              have n1_ := Aside0.mk (blk_below (g := gb198) (o := .cells #[.int .i64 a0_0, .string a0_1, .int .i64 a0_2] 23 (0, 0)) (by (with_reducible repeat (first | refine blk_drewN ?_ _ | refine blk_drew ?_ | refine blk_alloc ?_ _)); exact BK198.out) hb)
                              have n2_ := Aside0.mk (blk_below (g := gb199) (o := .cells #[.int .i64 a1_0, .string a1_1, .int .i64 a1_2] 23 (0, 0)) (by (with_reducible repeat (first | refine blk_drewN ?_ _ | refine blk_drew ?_ | refine blk_alloc ?_ _)); exact BK199.out) hb)
                              have n3_ := Aside0.mk (blk_below (g := gb200) (o := .cells #[.int .i64 a2_0, .string a2_1, .int .i64 a2_2] 23 (0, 0)) (by (with_reducible repeat (first | refine blk_drewN ?_ _ | refine blk_drew ?_ | refine blk_alloc ?_ _)); exact BK200.out) hb)
                              have n4_ := Aside0.mk (below_step (by repeat (first | (with_reducible first | exact HB.out | apply below_alloc | apply pw_below_drewN | apply below_drew1 | refine below_set ?_ GE198.out | refine below_set ?_ GE199.out | refine below_set ?_ GE200.out) | exact HB.out)) hb)
                              clear HO_11
                              clear BK198
                              clear BK199
                              clear BK200
                              clear HB
                              have HO_11 := n0_
                              have BK198 := n1_
                              have BK199 := n2_
                              have BK200 := n3_
                              have HB := n4_
                              clear n0_ n1_ n2_ n3_ n4_
                              (try clear hb)
                              (try clear hb2)
                              (try clear hk)
                              (try clear hi)
                              refine hK.out _ _ ⟨HS0_, HS1_, HS2_, HS3_, HS4_, HS5_, HS6_, HS7_, HS8_⟩ (fun hHeld => ?_)
                              clear hK K
                              refine norm_ (a' := ?_) ?_ ?_
                              rotate_left
                              · show Act.put _ (some 89) _ = _
                                simp only [Act.put, List.setIfInBounds_toArray, List.set_cons_zero, List.set_cons_succ, i64_w, i32_w]
                                rfl
                              refine pure_ (i := 22) (N := some 90) (v := ?_) (a' := ?_) #[true, true, true, true, true, true, true, true, true, true, true, true, true, true, true, true, true, true, true, true, true, true, true, false] rfl rfl (any_of HT_.out (by kernel_rfl)) (fun _ _ _ h => h) (Or.inl ⟨by rfl, ?_⟩) ?_ ?_
                              rotate_left
                              · intro w'
                                go_simp
                                with_reducible rfl
                              rotate_left
                              · simp only [Act.put, List.setIfInBounds_toArray, List.set_cons_zero, List.set_cons_succ, i64_w, i32_w]
                                rfl
                              refine pure_ (i := 23) (N := some 91) (v := ?_) (a' := ?_) #[true, true, true, true, true, true, true, true, true, true, true, true, true, true, true, true, true, true, true, true, true, true, true, true] rfl rfl (any_of HT_.out (by kernel_rfl)) (fun _ _ _ h => h) (Or.inl ⟨by rfl, ?_⟩) ?_ ?_
                              rotate_left
                              · intro w'
                                go_simp
                                with_reducible rfl
                              rotate_left
                              · simp only [Act.put, List.setIfInBounds_toArray, List.set_cons_zero, List.set_cons_succ, i64_w, i32_w]
                                rfl
                              refine done_ (done_of HT_.out (by kernel_rfl)) ?_
                              try go_wp2
                              go_roundg k2
                              case measure => have := HJ12.out; have := HK2.out; omega
                              case rel => exact ⟨(wrap64 (x12_2 + 1)), (by first | rfl | (simp; done) | (simp [*]; done)), H', ⟨by have := HJ12.out; have := HK2.out; omega⟩, ⟨by (with_reducible repeat (first | apply Kd.R_alloc | apply Kd.R_drewN | apply Kd.R_drew)); exact HO_11.out⟩, ⟨by (with_reducible repeat (first | refine blk_drewN ?_ _ | refine blk_drew ?_ | refine blk_alloc ?_ _)); exact BK198.out⟩, ⟨by (with_reducible repeat (first | refine blk_drewN ?_ _ | refine blk_drew ?_ | refine blk_alloc ?_ _)); exact BK199.out⟩, ⟨by (with_reducible repeat (first | refine blk_drewN ?_ _ | refine blk_drew ?_ | refine blk_alloc ?_ _)); exact BK200.out⟩, ⟨by repeat (first | (with_reducible first | exact HB.out | apply below_alloc | apply pw_below_drewN | apply below_drew1 | refine below_set ?_ GE198.out | refine below_set ?_ GE199.out | refine below_set ?_ GE200.out) | exact HB.out)⟩⟩
                            · replace c108 := Bool.eq_false_iff.mpr c108
                              subst c108
                              have H1 : (none) = some r := by rw [if_neg (show ¬ (false = true) by decide)] at H; exact H
                              clear H
                              have H := H1
                              clear H1
                              exact absurd H (by simp)
                          · replace c106 := Bool.eq_false_iff.mpr c106
                            subst c106
                            have H1 : (none) = some r := by rw [if_neg (show ¬ (false = true) by decide)] at H; exact H
                            clear H
                            have H := H1
                            clear H1
                            exact absurd H (by simp)
                        · rw [if_neg c104] at H
                          exact absurd H (by simp)
                      · rw [if_neg c103] at H
                        exact absurd H (by simp)
                    · rw [if_neg c102] at H
                      exact absurd H (by simp)
                  · rw [if_neg c100] at H
                    have c100b0 : decide (0 < x12_2) = false := decide_eq_false c100
                    clear c100
                    by_cases c113 : 0 ≤ x12_2
                    · rw [if_pos c113] at H
                      have c113b0 : decide (0 ≤ x12_2) = true := decide_eq_true c113
                      clear c113
                      replace H := Option.bind_eq_some_iff.mp H
                      obtain ⟨t230, A1140, H⟩ := H
                      replace H : (if t230 = true then (gristmilllaw14_TagsOrder.l0 k2 l3 true t202 t221 (wrap64 (x12_2 + 1)) a0_0 a0_1 a0_2 a1_0 a1_1 a1_2) else (none)) = some r := H
                      have A114 := Aside0.mk A1140
                      clear A1140
                      by_cases c115 : t230 = true
                      · subst c115
                        have H1 : (gristmilllaw14_TagsOrder.l0 k2 l3 true t202 t221 (wrap64 (x12_2 + 1)) a0_0 a0_1 a0_2 a1_0 a1_1 a1_2) = some r := by rw [if_pos rfl] at H; exact H
                        clear H
                        have H := H1
                        clear H1
                        have H' := Aside0.mk H
                        clear H
                        obtain ⟨Ao116, co116, eo116⟩ := Kd.R_slice HO_11.out
                        subst eo116
                        try go_wp2
                        have n0_ := Aside0.mk (Kd.R_drew HO_11.out)
                        have n1_ := Aside0.mk (blk_drew BK198.out)
                        have n2_ := Aside0.mk (blk_drew BK199.out)
                        have n3_ := Aside0.mk (blk_drew BK200.out)
                        have n4_ := Aside0.mk (below_drew1 HB.out)
                        clear HO_11
                        clear BK198
                        clear BK199
                        clear BK200
                        clear HB
                        have HO_11 := n0_
                        have BK198 := n1_
                        have BK199 := n2_
                        have BK200 := n3_
                        have HB := n4_
                        clear n0_ n1_ n2_ n3_ n4_
                        have p229 : 0 ≤ (x12_2 : Int) := of_decide_eq_true (by first | (with_reducible assumption) | assumption)
                        have q229 : x12_2 < (t221.length : Int) := of_decide_eq_true (by first | (with_reducible assumption) | assumption)
                        obtain ⟨ad229, e229, hx229_0, hx229_1, hx229_2⟩ := at_T23 (Kd.R_reads' HO_11.out).2.2 x12_2 p229 q229
                        cases e229
                        replace p229 := eq_true p229
                        replace q229 := eq_true q229
                        refine start_ (n := 24) (S := fun w' => w'.cell? (ad229.add ((x12_2).toNat * 3)) = some (.int .i64 ((rd_T23 t221 x12_2).f0)) ∧ w'.cell? ⟨(ad229.add ((x12_2).toNat * 3)).block, (ad229.add ((x12_2).toNat * 3)).off + 1, none⟩ = some (.string ((rd_T23 t221 x12_2).f1)) ∧ w'.cell? ⟨(ad229.add ((x12_2).toNat * 3)).block, (ad229.add ((x12_2).toNat * 3)).off + 2, none⟩ = some (.int .i64 ((rd_T23 t221 x12_2).f2))) (ds := []) #[false, false, false, false, false, false, false, false, false, false, false, false, false, false, false, false, false, false, false, false, false, false, false, false] (by kernel_rfl) rfl rfl ⟨hx229_0, hx229_1, hx229_2⟩ (fun hHeld => ?_); refine with_tabW gristmilllaw14_TagsOrder.tab13 gristmilllaw14_TagsOrder.bits13 (fun HT_ HW_ => ?_)
                        generalize wr.drew = w117 at HO_11 BK198 BK199 BK200 HB hx229_0 hx229_1 hx229_2 hHeld ⊢
                        refine pure_ (i := 0) (N := some 68) (v := ?_) (a' := ?_) #[true, false, false, false, false, false, false, false, false, false, false, false, false, false, false, false, false, false, false, false, false, false, false, false] rfl rfl (any_of HT_.out (by kernel_rfl)) (fun _ _ _ h => h) (Or.inl ⟨by rfl, ?_⟩) ?_ ?_
                        rotate_left
                        · intro w'
                          go_simp
                          with_reducible rfl
                        rotate_left
                        · simp only [Act.put, List.setIfInBounds_toArray, List.set_cons_zero, List.set_cons_succ, i64_w, i32_w]
                          rfl
                        refine pure_ (i := 1) (N := some 69) (v := ?_) (a' := ?_) #[true, true, false, false, false, false, false, false, false, false, false, false, false, false, false, false, false, false, false, false, false, false, false, false] rfl rfl (any_of HT_.out (by kernel_rfl)) (fun _ _ _ h => h) (Or.inl ⟨by rfl, ?_⟩) ?_ ?_
                        rotate_left
                        · intro w'
                          go_simp
                          with_reducible rfl
                        rotate_left
                        · simp only [Act.put, List.setIfInBounds_toArray, List.set_cons_zero, List.set_cons_succ, i64_w, i32_w]
                          rfl
                        refine pure_ (i := 2) (N := some 70) (v := ?_) (a' := ?_) #[true, true, true, false, false, false, false, false, false, false, false, false, false, false, false, false, false, false, false, false, false, false, false, false] rfl rfl (any_of HT_.out (by kernel_rfl)) (fun _ _ _ h => h) (Or.inl ⟨by rfl, ?_⟩) ?_ ?_
                        rotate_left
                        · intro w'
                          go_simp
                          with_reducible rfl
                        rotate_left
                        · simp only [Act.put, List.setIfInBounds_toArray, List.set_cons_zero, List.set_cons_succ, i64_w, i32_w]
                          rfl
                        refine pure_ (i := 3) (N := some 71) (v := undef) (a' := ?_) #[true, true, true, true, false, false, false, false, false, false, false, false, false, false, false, false, false, false, false, false, false, false, false, false] rfl rfl (any_of HT_.out (by kernel_rfl)) (fun _ _ _ h => h) (Or.inr ⟨by rfl, rfl⟩) ?_ ?_
                        rotate_left
                        · simp only [Act.put, List.setIfInBounds_toArray, List.set_cons_zero, List.set_cons_succ, i64_w, i32_w]
                          rfl
                        refine pure_ (i := 4) (N := some 72) (v := undef) (a' := ?_) #[true, true, true, true, true, false, false, false, false, false, false, false, false, false, false, false, false, false, false, false, false, false, false, false] rfl rfl (any_of HT_.out (by kernel_rfl)) (fun _ _ _ h => h) (Or.inr ⟨by rfl, rfl⟩) ?_ ?_
                        rotate_left
                        · simp only [Act.put, List.setIfInBounds_toArray, List.set_cons_zero, List.set_cons_succ, i64_w, i32_w]
                          rfl
                        refine pure_ (i := 5) (N := some 73) (v := undef) (a' := ?_) #[true, true, true, true, true, true, false, false, false, false, false, false, false, false, false, false, false, false, false, false, false, false, false, false] rfl rfl (any_of HT_.out (by kernel_rfl)) (fun _ _ _ h => h) (Or.inr ⟨by rfl, rfl⟩) ?_ ?_
                        rotate_left
                        · simp only [Act.put, List.setIfInBounds_toArray, List.set_cons_zero, List.set_cons_succ, i64_w, i32_w]
                          rfl
                        refine pure_ (i := 6) (N := some 74) (v := undef) (a' := ?_) #[true, true, true, true, true, true, true, false, false, false, false, false, false, false, false, false, false, false, false, false, false, false, false, false] rfl rfl (any_of HT_.out (by kernel_rfl)) (fun _ _ _ h => h) (Or.inr ⟨by rfl, rfl⟩) ?_ ?_
                        rotate_left
                        · simp only [Act.put, List.setIfInBounds_toArray, List.set_cons_zero, List.set_cons_succ, i64_w, i32_w]
                          rfl
                        refine pure_ (i := 7) (N := some 75) (v := undef) (a' := ?_) #[true, true, true, true, true, true, true, true, false, false, false, false, false, false, false, false, false, false, false, false, false, false, false, false] rfl rfl (any_of HT_.out (by kernel_rfl)) (fun _ _ _ h => h) (Or.inr ⟨by rfl, rfl⟩) ?_ ?_
                        rotate_left
                        · simp only [Act.put, List.setIfInBounds_toArray, List.set_cons_zero, List.set_cons_succ, i64_w, i32_w]
                          rfl
                        refine pure_ (i := 8) (N := some 76) (v := undef) (a' := ?_) #[true, true, true, true, true, true, true, true, true, false, false, false, false, false, false, false, false, false, false, false, false, false, false, false] rfl rfl (any_of HT_.out (by kernel_rfl)) (fun _ _ _ h => h) (Or.inr ⟨by rfl, rfl⟩) ?_ ?_
                        rotate_left
                        · simp only [Act.put, List.setIfInBounds_toArray, List.set_cons_zero, List.set_cons_succ, i64_w, i32_w]
                          rfl
                        refine pure_ (i := 9) (N := some 77) (v := undef) (a' := ?_) #[true, true, true, true, true, true, true, true, true, true, false, false, false, false, false, false, false, false, false, false, false, false, false, false] rfl rfl (any_of HT_.out (by kernel_rfl)) (fun _ _ _ h => h) (Or.inr ⟨by rfl, rfl⟩) ?_ ?_
                        rotate_left
                        · simp only [Act.put, List.setIfInBounds_toArray, List.set_cons_zero, List.set_cons_succ, i64_w, i32_w]
                          rfl
                        refine pure_ (i := 10) (N := some 78) (v := undef) (a' := ?_) #[true, true, true, true, true, true, true, true, true, true, true, false, false, false, false, false, false, false, false, false, false, false, false, false] rfl rfl (any_of HT_.out (by kernel_rfl)) (fun _ _ _ h => h) (Or.inr ⟨by rfl, rfl⟩) ?_ ?_
                        rotate_left
                        · simp only [Act.put, List.setIfInBounds_toArray, List.set_cons_zero, List.set_cons_succ, i64_w, i32_w]
                          rfl
                        refine pure_ (i := 11) (N := some 79) (v := undef) (a' := ?_) #[true, true, true, true, true, true, true, true, true, true, true, true, false, false, false, false, false, false, false, false, false, false, false, false] rfl rfl (any_of HT_.out (by kernel_rfl)) (fun _ _ _ h => h) (Or.inr ⟨by rfl, rfl⟩) ?_ ?_
                        rotate_left
                        · simp only [Act.put, List.setIfInBounds_toArray, List.set_cons_zero, List.set_cons_succ, i64_w, i32_w]
                          rfl
                        refine pure_ (i := 12) (N := some 80) (v := undef) (a' := ?_) #[true, true, true, true, true, true, true, true, true, true, true, true, true, false, false, false, false, false, false, false, false, false, false, false] rfl rfl (any_of HT_.out (by kernel_rfl)) (fun _ _ _ h => h) (Or.inr ⟨by rfl, rfl⟩) ?_ ?_
                        rotate_left
                        · simp only [Act.put, List.setIfInBounds_toArray, List.set_cons_zero, List.set_cons_succ, i64_w, i32_w]
                          rfl
                        refine pure_ (i := 13) (N := some 81) (v := undef) (a' := ?_) #[true, true, true, true, true, true, true, true, true, true, true, true, true, true, false, false, false, false, false, false, false, false, false, false] rfl rfl (any_of HT_.out (by kernel_rfl)) (fun _ _ _ h => h) (Or.inr ⟨by rfl, rfl⟩) ?_ ?_
                        rotate_left
                        · simp only [Act.put, List.setIfInBounds_toArray, List.set_cons_zero, List.set_cons_succ, i64_w, i32_w]
                          rfl
                        refine pure_ (i := 14) (N := some 82) (v := ?_) (a' := ?_) #[true, true, true, true, true, true, true, true, true, true, true, true, true, true, true, false, false, false, false, false, false, false, false, false] rfl rfl (any_of HT_.out (by kernel_rfl)) (fun _ _ _ h => h) (Or.inl ⟨by rfl, ?_⟩) ?_ ?_
                        rotate_left
                        · intro w'
                          go_simp
                          with_reducible rfl
                        rotate_left
                        · simp only [Act.put, List.setIfInBounds_toArray, List.set_cons_zero, List.set_cons_succ, i64_w, i32_w]
                          rfl
                        refine pure_ (i := 15) (N := some 83) (v := ?_) (a' := ?_) #[true, true, true, true, true, true, true, true, true, true, true, true, true, true, true, true, false, false, false, false, false, false, false, false] rfl rfl (any_of HT_.out (by kernel_rfl)) (fun _ _ _ h => h) (Or.inl ⟨by rfl, ?_⟩) ?_ ?_
                        rotate_left
                        · intro w'
                          go_simp
                          with_reducible rfl
                        rotate_left
                        · simp only [Act.put, List.setIfInBounds_toArray, List.set_cons_zero, List.set_cons_succ, i64_w, i32_w]
                          rfl
                        refine pure_ (i := 16) (N := some 84) (v := ?_) (a' := ?_) #[true, true, true, true, true, true, true, true, true, true, true, true, true, true, true, true, true, false, false, false, false, false, false, false] rfl rfl (any_of HT_.out (by kernel_rfl)) (fun _ _ _ h => h) (Or.inl ⟨by rfl, ?_⟩) ?_ ?_
                        rotate_left
                        · intro w'
                          go_simp
                          with_reducible rfl
                        rotate_left
                        · simp only [Act.put, List.setIfInBounds_toArray, List.set_cons_zero, List.set_cons_succ, i64_w, i32_w]
                          rfl
                        refine pure_ (i := 17) (N := some 85) (v := ?_) (a' := ?_) #[true, true, true, true, true, true, true, true, true, true, true, true, true, true, true, true, true, true, false, false, false, false, false, false] rfl rfl (any_of HT_.out (by kernel_rfl)) (fun _ _ _ h => h) (Or.inl ⟨by rfl, ?_⟩) ?_ ?_
                        rotate_left
                        · intro w'
                          go_simp
                          with_reducible rfl
                        rotate_left
                        · simp only [Act.put, List.setIfInBounds_toArray, List.set_cons_zero, List.set_cons_succ, i64_w, i32_w]
                          rfl
                        refine pure_ (i := 18) (N := some 86) (v := ?_) (a' := ?_) #[true, true, true, true, true, true, true, true, true, true, true, true, true, true, true, true, true, true, true, false, false, false, false, false] rfl rfl (any_of HT_.out (by kernel_rfl)) (fun _ _ _ h => h) (Or.inl ⟨by rfl, ?_⟩) ?_ ?_
                        rotate_left
                        · intro w'
                          go_simp
                          with_reducible rfl
                        rotate_left
                        · simp only [Act.put, List.setIfInBounds_toArray, List.set_cons_zero, List.set_cons_succ, i64_w, i32_w]
                          rfl
                        refine pure_ (i := 19) (N := some 87) (v := ?_) (a' := ?_) #[true, true, true, true, true, true, true, true, true, true, true, true, true, true, true, true, true, true, true, true, false, false, false, false] rfl rfl (any_of HT_.out (by kernel_rfl)) (fun _ _ _ h => h) (Or.inl ⟨by rfl, ?_⟩) ?_ ?_
                        rotate_left
                        · intro w'
                          go_simp
                          with_reducible rfl
                        rotate_left
                        · simp only [Act.put, List.setIfInBounds_toArray, List.set_cons_zero, List.set_cons_succ, i64_w, i32_w]
                          rfl
                        refine take_ (i := 20) (N := some 88) (v := ?_) (a' := ?_) #[true, true, true, true, true, true, true, true, true, true, true, true, true, true, true, true, true, true, true, true, true, false, false, false] rfl rfl (take_ofW HT_.out HW_.out (by kernel_rfl)) (fun _ _ _ h => h) (Or.inl ⟨by rfl, ?_⟩) hHeld ?_ ?_
                        rotate_left
                        · rintro w' ⟨s0, s1, s2⟩
                          go_simp
                          with_reducible rfl
                        rotate_left
                        · simp only [Act.put, List.setIfInBounds_toArray, List.set_cons_zero, List.set_cons_succ, i64_w, i32_w]
                          rfl
                        refine one_ (i := 21) (N := some 89) #[true, true, true, true, true, true, true, true, true, true, true, true, true, true, true, true, true, true, true, true, true, true, false, false] rfl rfl (one_of HT_.out (by kernel_rfl)) (by decide) (fun K hK => ?_)
                        refine goes_ Tryd.func15 (by kernel_rfl) rfl #[.slice A3 l3.length c3, .agg #[.int .i64 ((rd_T23 t221 x12_2).f0), .string ((rd_T23 t221 x12_2).f1), .int .i64 ((rd_T23 t221 x12_2).f2)]] (by rfl) rfl rfl (by (try simp only [List.map_toArray, List.map_cons, List.map_nil]); first | done | rfl | (simp only [List.length_drop, List.length_take]; rfl)) ?_
                        with_reducible refine (tag_Has.calls k2 _ _ l3 ((rd_T23 t221 x12_2).f0) ((rd_T23 t221 x12_2).f1) ((rd_T23 t221 x12_2).f2) true _ ?side1 ?side2 A114.out).mono ?_
                        (case side1 => repeat (first | exact (Kd.C_below HR3.out HB.out) | (with_reducible refine Kd.C_alloc ?_ _) | (with_reducible refine Kd.C_drewN ?_ _) | (with_reducible refine Kd.C_drew ?_)))
                        (case side2 => exact HC3.out)
                        rintro e w118 ⟨rfl, hb⟩
                        have HS0_ := (hb.cell (World.block_lt_of_cell? _ _ (hHeld.1))).trans (hHeld.1)
                        have HS1_ := (hb.cell (World.block_lt_of_cell? _ _ (hHeld.2.1))).trans (hHeld.2.1)
                        have HS2_ := (hb.cell (World.block_lt_of_cell? _ _ (hHeld.2.2))).trans (hHeld.2.2)
                        refine ⟨_, rfl, ?_⟩
                        have n0_ := Aside0.mk (Kd.R_below (by (with_reducible repeat (first | apply Kd.R_alloc | apply Kd.R_drewN | apply Kd.R_drew)); exact HO_11.out) hb)
                        have n1_ := Aside0.mk (blk_below (g := gb198) (o := .cells #[.int .i64 a0_0, .string a0_1, .int .i64 a0_2] 23 (0, 0)) (by (with_reducible repeat (first | refine blk_drewN ?_ _ | refine blk_drew ?_ | refine blk_alloc ?_ _)); exact BK198.out) hb)
                        have n2_ := Aside0.mk (blk_below (g := gb199) (o := .cells #[.int .i64 a1_0, .string a1_1, .int .i64 a1_2] 23 (0, 0)) (by (with_reducible repeat (first | refine blk_drewN ?_ _ | refine blk_drew ?_ | refine blk_alloc ?_ _)); exact BK199.out) hb)
                        have n3_ := Aside0.mk (blk_below (g := gb200) (o := .cells #[.int .i64 a2_0, .string a2_1, .int .i64 a2_2] 23 (0, 0)) (by (with_reducible repeat (first | refine blk_drewN ?_ _ | refine blk_drew ?_ | refine blk_alloc ?_ _)); exact BK200.out) hb)
                        have n4_ := Aside0.mk (below_step (by repeat (first | (with_reducible first | exact HB.out | apply below_alloc | apply pw_below_drewN | apply below_drew1 | refine below_set ?_ GE198.out | refine below_set ?_ GE199.out | refine below_set ?_ GE200.out) | exact HB.out)) hb)
                        clear HO_11
                        clear BK198
                        clear BK199
                        clear BK200
                        clear HB
                        have HO_11 := n0_
                        have BK198 := n1_
                        have BK199 := n2_
                        have BK200 := n3_
                        have HB := n4_
                        clear n0_ n1_ n2_ n3_ n4_
                        (try clear hb)
                        (try clear hb2)
                        (try clear hk)
                        (try clear hi)
                        refine hK.out _ _ ⟨HS0_, HS1_, HS2_⟩ (fun hHeld => ?_)
                        clear hK K
                        refine norm_ (a' := ?_) ?_ ?_
                        rotate_left
                        · show Act.put _ (some 89) _ = _
                          simp only [Act.put, List.setIfInBounds_toArray, List.set_cons_zero, List.set_cons_succ, i64_w, i32_w]
                          rfl
                        refine pure_ (i := 22) (N := some 90) (v := ?_) (a' := ?_) #[true, true, true, true, true, true, true, true, true, true, true, true, true, true, true, true, true, true, true, true, true, true, true, false] rfl rfl (any_of HT_.out (by kernel_rfl)) (fun _ _ _ h => h) (Or.inl ⟨by rfl, ?_⟩) ?_ ?_
                        rotate_left
                        · intro w'
                          go_simp
                          with_reducible rfl
                        rotate_left
                        · simp only [Act.put, List.setIfInBounds_toArray, List.set_cons_zero, List.set_cons_succ, i64_w, i32_w]
                          rfl
                        refine pure_ (i := 23) (N := some 91) (v := ?_) (a' := ?_) #[true, true, true, true, true, true, true, true, true, true, true, true, true, true, true, true, true, true, true, true, true, true, true, true] rfl rfl (any_of HT_.out (by kernel_rfl)) (fun _ _ _ h => h) (Or.inl ⟨by rfl, ?_⟩) ?_ ?_
                        rotate_left
                        · intro w'
                          go_simp
                          with_reducible rfl
                        rotate_left
                        · simp only [Act.put, List.setIfInBounds_toArray, List.set_cons_zero, List.set_cons_succ, i64_w, i32_w]
                          rfl
                        refine done_ (done_of HT_.out (by kernel_rfl)) ?_
                        try go_wp2
                        go_roundg k2
                        case measure => have := HJ12.out; have := HK2.out; omega
                        case rel => exact ⟨(wrap64 (x12_2 + 1)), (by first | rfl | (simp; done) | (simp [*]; done)), H', ⟨by have := HJ12.out; have := HK2.out; omega⟩, ⟨by (with_reducible repeat (first | apply Kd.R_alloc | apply Kd.R_drewN | apply Kd.R_drew)); exact HO_11.out⟩, ⟨by (with_reducible repeat (first | refine blk_drewN ?_ _ | refine blk_drew ?_ | refine blk_alloc ?_ _)); exact BK198.out⟩, ⟨by (with_reducible repeat (first | refine blk_drewN ?_ _ | refine blk_drew ?_ | refine blk_alloc ?_ _)); exact BK199.out⟩, ⟨by (with_reducible repeat (first | refine blk_drewN ?_ _ | refine blk_drew ?_ | refine blk_alloc ?_ _)); exact BK200.out⟩, ⟨by repeat (first | (with_reducible first | exact HB.out | apply below_alloc | apply pw_below_drewN | apply below_drew1 | refine below_set ?_ GE198.out | refine below_set ?_ GE199.out | refine below_set ?_ GE200.out) | exact HB.out)⟩⟩
                      · replace c115 := Bool.eq_false_iff.mpr c115
                        subst c115
                        have H1 : (none) = some r := by rw [if_neg (show ¬ (false = true) by decide)] at H; exact H
                        clear H
                        have H := H1
                        clear H1
                        exact absurd H (by simp)
                    · rw [if_neg c113] at H
                      exact absurd H (by simp)
                · rw [if_neg c99] at H
                  have c99b0 : decide (x12_2 < (t221.length : Int)) = false := decide_eq_false c99
                  clear c99
                  have H' := Aside0.mk H
                  clear H
                  obtain ⟨Ao119, co119, eo119⟩ := Kd.R_slice HO_11.out
                  subst eo119
                  go_wp2
                  go_loopg [13] k2 (fun kq v13 w' => ∃ (x13_3 : Int), v13 = .int .i64 x13_3 ∧ Aside0 (gristmilllaw14_TagsOrder.l1 kq l3 true t202 t221 x13_3 a0_0 a0_1 a0_2 a1_0 a1_1 a1_2 = some r) ∧ Aside0 (kq ≤ k2) ∧ Aside0 (Kd.R k23 23 w' w.heap.size (fun k_ => k_ ≠ gb198 ∧ k_ ≠ gb199 ∧ k_ ≠ gb200) (.slice Ao119 t221.length co119) t221) ∧ Aside0 (w'.heap[gb198]? = some (.cells #[.int .i64 a0_0, .string a0_1, .int .i64 a0_2] 23 (0, 0))) ∧ Aside0 (w'.heap[gb199]? = some (.cells #[.int .i64 a1_0, .string a1_1, .int .i64 a1_2] 23 (0, 0))) ∧ Aside0 (w'.heap[gb200]? = some (.cells #[.int .i64 a2_0, .string a2_1, .int .i64 a2_2] 23 (0, 0))) ∧ Aside0 (Below w.heap.size w w'))
                  case atStart => exact ⟨(0), (by first | rfl | (simp; done) | (simp [*]; done)), H', ⟨Nat.le_refl _⟩, ⟨by (with_reducible repeat (first | apply Kd.R_alloc | apply Kd.R_drewN | apply Kd.R_drew)); exact HO_11.out⟩, ⟨by (with_reducible repeat (first | refine blk_drewN ?_ _ | refine blk_drew ?_ | refine blk_alloc ?_ _)); exact BK198.out⟩, ⟨by (with_reducible repeat (first | refine blk_drewN ?_ _ | refine blk_drew ?_ | refine blk_alloc ?_ _)); exact BK199.out⟩, ⟨by (with_reducible repeat (first | refine blk_drewN ?_ _ | refine blk_drew ?_ | refine blk_alloc ?_ _)); exact BK200.out⟩, ⟨by repeat (first | (with_reducible first | exact HB.out | apply below_alloc | apply pw_below_drewN | apply below_drew1 | refine below_set ?_ GE198.out | refine below_set ?_ GE199.out | refine below_set ?_ GE200.out) | exact HB.out)⟩⟩
                  case round =>
                    clear H'
                    try clear c1
                    try clear p2
                    try clear q2
                    try clear hx2
                    try clear c3
                    try clear p6
                    try clear c9
                    try clear c10
                    try clear c11
                    try clear c15
                    try clear p22
                    try clear q22
                    try clear hx22
                    try clear p64
                    try clear c99
                    try clear c99b0
                    try clear c100
                    try clear c100b0
                    try clear c102
                    try clear c103
                    try clear c104
                    try clear c104b0
                    try clear c106
                    try clear c108
                    try clear c113
                    try clear c113b0
                    try clear c115
                    try clear hx224_0
                    try clear hx224_1
                    try clear hx224_2
                    try clear hx225_0
                    try clear hx225_1
                    try clear hx225_2
                    try clear hx227_0
                    try clear hx227_1
                    try clear hx227_2
                    try clear hx229_0
                    try clear hx229_1
                    try clear hx229_2
                    try clear p224
                    try clear p225
                    try clear p227
                    try clear p229
                    try clear q224
                    try clear q225
                    try clear q227
                    try clear q229
                    obtain ⟨x13_3, rfl, HA, HK3, HO_11, BK198, BK199, BK200, HB⟩ := hrel
                    cases gk with
                    | zero => exact absurd HA.out (by simp [gristmilllaw14_TagsOrder.l1])
                    | succ k3 =>
                      have H := HA.out
                      clear HA
                      simp only [gristmilllaw14_TagsOrder.l1] at H
                      by_cases c120 : x13_3 < (l3.length : Int)
                      · rw [if_pos c120] at H
                        have c120b0 : decide (x13_3 < (l3.length : Int)) = true := decide_eq_true c120
                        clear c120
                        by_cases c121 : 0 ≤ x13_3
                        · rw [if_pos c121] at H
                          have c121b0 : decide (0 ≤ x13_3) = true := decide_eq_true c121
                          clear c121
                          replace H := Option.bind_eq_some_iff.mp H
                          obtain ⟨t232, A1220, H⟩ := H
                          replace H : (if t232 = true then (gristmilllaw14_TagsOrder.l1 k3 l3 true t202 t221 (wrap64 (x13_3 + 1)) a0_0 a0_1 a0_2 a1_0 a1_1 a1_2) else (none)) = some r := H
                          have A122 := Aside0.mk A1220
                          clear A1220
                          by_cases c123 : t232 = true
                          · subst c123
                            have H1 : (gristmilllaw14_TagsOrder.l1 k3 l3 true t202 t221 (wrap64 (x13_3 + 1)) a0_0 a0_1 a0_2 a1_0 a1_1 a1_2) = some r := by rw [if_pos rfl] at H; exact H
                            clear H
                            have H := H1
                            clear H1
                            have H' := Aside0.mk H
                            clear H
                            have p231 : 0 ≤ (x13_3 : Int) := of_decide_eq_true (by first | (with_reducible assumption) | assumption)
                            have q231 : x13_3 < (l3.length : Int) := of_decide_eq_true (by first | (with_reducible assumption) | assumption)
                            obtain ⟨ad231, e231, hx231_0, hx231_1, hx231_2⟩ := at_T23 HR3.out x13_3 p231 q231
                            cases e231
                            replace hx231_0 := (HB.out.cell (World.block_lt_of_cell? w _ hx231_0)).trans hx231_0
                            replace hx231_1 := (HB.out.cell (World.block_lt_of_cell? w _ hx231_1)).trans hx231_1
                            replace hx231_2 := (HB.out.cell (World.block_lt_of_cell? w _ hx231_2)).trans hx231_2
                            replace p231 := eq_true p231
                            replace q231 := eq_true q231
                            go_wp2_with (first | ((with_reducible refine gate_callee (f := 15) rfl ?_); refine goesL_ (some 103) rfl rfl Tryd.func15 (by kernel_rfl) rfl #[.slice Ao119 t221.length co119, .agg #[.int .i64 ((rd_T23 l3 x13_3).f0), .string ((rd_T23 l3 x13_3).f1), .int .i64 ((rd_T23 l3 x13_3).f2)]] rfl (by (try simp only [List.map_toArray, List.map_cons, List.map_nil]); first | done | rfl | (simp only [List.length_drop, List.length_take]; rfl)) ?_; (with_reducible refine (tag_Has.calls k3 _ _ t221 ((rd_T23 l3 x13_3).f0) ((rd_T23 l3 x13_3).f1) ((rd_T23 l3 x13_3).f2) true _ ?side1 ?side2 A122.out).mono ?_); (case side1 => repeat (first | exact (Kd.R_reads' HO_11.out).2.2 | (with_reducible refine Kd.C_alloc ?_ _) | (with_reducible refine Kd.C_drewN ?_ _) | (with_reducible refine Kd.C_drew ?_))); (case side2 => exact (Kd.R_reads' HO_11.out).2.1); rintro e w124 ⟨rfl, hb⟩; refine ⟨_, rfl, ?_⟩; have n0_ := Aside0.mk (Kd.R_below (by (with_reducible repeat (first | apply Kd.R_alloc | apply Kd.R_drewN | apply Kd.R_drew)); exact HO_11.out) hb); have n1_ := Aside0.mk (blk_below (g := gb198) (o := .cells #[.int .i64 a0_0, .string a0_1, .int .i64 a0_2] 23 (0, 0)) (by (with_reducible repeat (first | refine blk_drewN ?_ _ | refine blk_drew ?_ | refine blk_alloc ?_ _)); exact BK198.out) hb); have n2_ := Aside0.mk (blk_below (g := gb199) (o := .cells #[.int .i64 a1_0, .string a1_1, .int .i64 a1_2] 23 (0, 0)) (by (with_reducible repeat (first | refine blk_drewN ?_ _ | refine blk_drew ?_ | refine blk_alloc ?_ _)); exact BK199.out) hb); have n3_ := Aside0.mk (blk_below (g := gb200) (o := .cells #[.int .i64 a2_0, .string a2_1, .int .i64 a2_2] 23 (0, 0)) (by (with_reducible repeat (first | refine blk_drewN ?_ _ | refine blk_drew ?_ | refine blk_alloc ?_ _)); exact BK200.out) hb); have n4_ := Aside0.mk (below_step (by repeat (first | (with_reducible first | exact HB.out | apply below_alloc | apply pw_below_drewN | apply below_drew1 | refine below_set ?_ GE198.out | refine below_set ?_ GE199.out | refine below_set ?_ GE200.out) | exact HB.out)) hb); clear HO_11; clear BK198; clear BK199; clear BK200; clear HB; have HO_11 := n0_; have BK198 := n1_; have BK199 := n2_; have BK200 := n3_; have HB := n4_; clear n0_ n1_ n2_ n3_ n4_; (try clear hb); (try clear hb2); (try clear hk); (try clear hi)))
                            go_roundg k3
                            case measure => have := HJ12.out; have := HK2.out; have := HK3.out; omega
                            case rel => exact ⟨(wrap64 (x13_3 + 1)), (by first | rfl | (simp; done) | (simp [*]; done)), H', ⟨by have := HJ12.out; have := HK2.out; have := HK3.out; omega⟩, ⟨by (with_reducible repeat (first | apply Kd.R_alloc | apply Kd.R_drewN | apply Kd.R_drew)); exact HO_11.out⟩, ⟨by (with_reducible repeat (first | refine blk_drewN ?_ _ | refine blk_drew ?_ | refine blk_alloc ?_ _)); exact BK198.out⟩, ⟨by (with_reducible repeat (first | refine blk_drewN ?_ _ | refine blk_drew ?_ | refine blk_alloc ?_ _)); exact BK199.out⟩, ⟨by (with_reducible repeat (first | refine blk_drewN ?_ _ | refine blk_drew ?_ | refine blk_alloc ?_ _)); exact BK200.out⟩, ⟨by repeat (first | (with_reducible first | exact HB.out | apply below_alloc | apply pw_below_drewN | apply below_drew1 | refine below_set ?_ GE198.out | refine below_set ?_ GE199.out | refine below_set ?_ GE200.out) | exact HB.out)⟩⟩
                          · replace c123 := Bool.eq_false_iff.mpr c123
                            subst c123
                            have H1 : (none) = some r := by rw [if_neg (show ¬ (false = true) by decide)] at H; exact H
                            clear H
                            have H := H1
                            clear H1
                            exact absurd H (by simp)
                        · rw [if_neg c121] at H
                          exact absurd H (by simp)
                      · rw [if_neg c120] at H
                        have c120b0 : decide (x13_3 < (l3.length : Int)) = false := decide_eq_false c120
                        clear c120
                        have HC125 := Aside0.mk H
                        clear H
                        go_upto_region 20 with (fail)
                        go_cut [119] (fun v119 wc => ∃ (kq : Nat) (x119_124 : Bool), v119 = .bool x119_124 ∧ Aside0 (gristmilllaw14_TagsOrder.j3 kq true x119_124 a0_0 a0_1 a0_2 a1_0 a1_1 a1_2 = some r) ∧ Aside0 (kq ≤ k3) ∧ Aside0 (wc.heap[gb198]? = some (.cells #[.int .i64 a0_0, .string a0_1, .int .i64 a0_2] 23 (0, 0))) ∧ Aside0 (wc.heap[gb199]? = some (.cells #[.int .i64 a1_0, .string a1_1, .int .i64 a1_2] 23 (0, 0))) ∧ Aside0 (wc.heap[gb200]? = some (.cells #[.int .i64 a2_0, .string a2_1, .int .i64 a2_2] 23 (0, 0))) ∧ Aside0 (Below w.heap.size w wc))
                        case first => as_aux_lemma =>
                          have H := HC125.out
                          clear HC125
                          replace H := Option.bind_eq_some_iff.mp H
                          obtain ⟨t233, A1260, H⟩ := H
                          replace H : (if t233 = true then ((tag_Valid.f k3 a1_0 a1_1 a1_2).bind fun t234 => (if t234 = true then ((tag_Text.f a0_0 a0_1 a0_2).bind fun t235 => ((tag_Text.f a1_0 a1_1 a1_2).bind fun t236 => (gristmilllaw14_TagsOrder.j3 k3 true ((t235.toList == t236.toList) != t202) a0_0 a0_1 a0_2 a1_0 a1_1 a1_2))) else (gristmilllaw14_TagsOrder.j3 k3 true false a0_0 a0_1 a0_2 a1_0 a1_1 a1_2))) else (gristmilllaw14_TagsOrder.j3 k3 true false a0_0 a0_1 a0_2 a1_0 a1_1 a1_2)) = some r := H
                          have A126 := Aside0.mk A1260
                          clear A1260
                          by_cases c127 : t233 = true
                          · subst c127
                            have H1 : ((tag_Valid.f k3 a1_0 a1_1 a1_2).bind fun t234 => (if t234 = true then ((tag_Text.f a0_0 a0_1 a0_2).bind fun t235 => ((tag_Text.f a1_0 a1_1 a1_2).bind fun t236 => (gristmilllaw14_TagsOrder.j3 k3 true ((t235.toList == t236.toList) != t202) a0_0 a0_1 a0_2 a1_0 a1_1 a1_2))) else (gristmilllaw14_TagsOrder.j3 k3 true false a0_0 a0_1 a0_2 a1_0 a1_1 a1_2))) = some r := by rw [if_pos rfl] at H; exact H
                            clear H
                            have H := H1
                            clear H1
                            replace H := Option.bind_eq_some_iff.mp H
                            obtain ⟨t234, A1280, H⟩ := H
                            replace H : (if t234 = true then ((tag_Text.f a0_0 a0_1 a0_2).bind fun t235 => ((tag_Text.f a1_0 a1_1 a1_2).bind fun t236 => (gristmilllaw14_TagsOrder.j3 k3 true ((t235.toList == t236.toList) != t202) a0_0 a0_1 a0_2 a1_0 a1_1 a1_2))) else (gristmilllaw14_TagsOrder.j3 k3 true false a0_0 a0_1 a0_2 a1_0 a1_1 a1_2)) = some r := H
                            have A128 := Aside0.mk A1280
                            clear A1280
                            by_cases c129 : t234 = true
                            · subst c129
                              have H1 : ((tag_Text.f a0_0 a0_1 a0_2).bind fun t235 => ((tag_Text.f a1_0 a1_1 a1_2).bind fun t236 => (gristmilllaw14_TagsOrder.j3 k3 true ((t235.toList == t236.toList) != t202) a0_0 a0_1 a0_2 a1_0 a1_1 a1_2))) = some r := by rw [if_pos rfl] at H; exact H
                              clear H
                              have H := H1
                              clear H1
                              replace H := Option.bind_eq_some_iff.mp H
                              obtain ⟨t235, A1300, H⟩ := H
                              replace H : ((tag_Text.f a1_0 a1_1 a1_2).bind fun t236 => (gristmilllaw14_TagsOrder.j3 k3 true ((t235.toList == t236.toList) != t202) a0_0 a0_1 a0_2 a1_0 a1_1 a1_2)) = some r := H
                              have A130 := Aside0.mk A1300
                              clear A1300
                              replace H := Option.bind_eq_some_iff.mp H
                              obtain ⟨t236, A1310, H⟩ := H
                              replace H : (gristmilllaw14_TagsOrder.j3 k3 true ((t235.toList == t236.toList) != t202) a0_0 a0_1 a0_2 a1_0 a1_1 a1_2) = some r := H
                              have A131 := Aside0.mk A1310
                              clear A1310
                              have H' := Aside0.mk H
                              clear H
                              try go_wp2
                              have n0_ := Aside0.mk (Kd.R_drew HO_11.out)
                              have n1_ := Aside0.mk (blk_drew BK198.out)
                              have n2_ := Aside0.mk (blk_drew BK199.out)
                              have n3_ := Aside0.mk (blk_drew BK200.out)
                              have n4_ := Aside0.mk (below_drew1 HB.out)
                              clear HO_11
                              clear BK198
                              clear BK199
                              clear BK200
                              clear HB
                              have HO_11 := n0_
                              have BK198 := n1_
                              have BK199 := n2_
                              have BK200 := n3_
                              have HB := n4_
                              clear n0_ n1_ n2_ n3_ n4_
                              refine start_ (n := 15) (S := fun w' => w'.cell? ⟨gb198, 0, none⟩ = some (.int .i64 a0_0) ∧ w'.cell? ⟨gb198, 1, none⟩ = some (.string a0_1) ∧ w'.cell? ⟨gb198, 2, none⟩ = some (.int .i64 a0_2) ∧ w'.cell? ⟨gb199, 0, none⟩ = some (.int .i64 a1_0) ∧ w'.cell? ⟨gb199, 1, none⟩ = some (.string a1_1) ∧ w'.cell? ⟨gb199, 2, none⟩ = some (.int .i64 a1_2)) (ds := []) #[false, false, false, false, false, false, false, false, false, false, false, false, false, false, false] (by kernel_rfl) rfl rfl ⟨(blk_cell BK198.out 0).trans rfl, (blk_cell BK198.out 1).trans rfl, (blk_cell BK198.out 2).trans rfl, (blk_cell BK199.out 0).trans rfl, (blk_cell BK199.out 1).trans rfl, (blk_cell BK199.out 2).trans rfl⟩ (fun hHeld => ?_); refine with_tabW gristmilllaw14_TagsOrder.tab20 gristmilllaw14_TagsOrder.bits20 (fun HT_ HW_ => ?_)
                              generalize wr.drew = w132 at HO_11 BK198 BK199 BK200 HB hHeld ⊢
                              refine take_ (i := 0) (N := some 105) (v := ?_) (a' := ?_) #[true, false, false, false, false, false, false, false, false, false, false, false, false, false, false] rfl rfl (take_ofW HT_.out HW_.out (by kernel_rfl)) (fun _ _ _ h => h) (Or.inl ⟨by rfl, ?_⟩) hHeld ?_ ?_
                              rotate_left
                              · rintro w' ⟨s0, s1, s2, s3, s4, s5⟩
                                go_simp
                                with_reducible rfl
                              rotate_left
                              · simp only [Act.put, List.setIfInBounds_toArray, List.set_cons_zero, List.set_cons_succ, i64_w, i32_w]
                                rfl
                              refine one_ (i := 1) (N := some 106) #[true, true, false, false, false, false, false, false, false, false, false, false, false, false, false] rfl rfl (one_of HT_.out (by kernel_rfl)) (by decide) (fun K hK => ?_)
                              refine goes_ Tryd.func9 (by kernel_rfl) rfl #[.agg #[.int .i64 a0_0, .string a0_1, .int .i64 a0_2]] (by rfl) rfl rfl (by (try simp only [List.map_toArray, List.map_cons, List.map_nil]); first | done | rfl | (simp only [List.length_drop, List.length_take]; rfl)) ?_
                              with_reducible refine (tag_Valid.calls k3 a0_0 a0_1 a0_2 true _ A126.out).mono ?_
                              rintro e w133 ⟨rfl, hb⟩
                              refine ⟨_, rfl, ?_⟩
                              have n0_ := Aside0.mk (Kd.R_below (by (with_reducible repeat (first | apply Kd.R_alloc | apply Kd.R_drewN | apply Kd.R_drew)); exact HO_11.out) hb)
                              have n1_ := Aside0.mk (blk_below (g := gb198) (o := .cells #[.int .i64 a0_0, .string a0_1, .int .i64 a0_2] 23 (0, 0)) (by (with_reducible repeat (first | refine blk_drewN ?_ _ | refine blk_drew ?_ | refine blk_alloc ?_ _)); exact BK198.out) hb)
                              have n2_ := Aside0.mk (blk_below (g := gb199) (o := .cells #[.int .i64 a1_0, .string a1_1, .int .i64 a1_2] 23 (0, 0)) (by (with_reducible repeat (first | refine blk_drewN ?_ _ | refine blk_drew ?_ | refine blk_alloc ?_ _)); exact BK199.out) hb)
                              have n3_ := Aside0.mk (blk_below (g := gb200) (o := .cells #[.int .i64 a2_0, .string a2_1, .int .i64 a2_2] 23 (0, 0)) (by (with_reducible repeat (first | refine blk_drewN ?_ _ | refine blk_drew ?_ | refine blk_alloc ?_ _)); exact BK200.out) hb)
                              have n4_ := Aside0.mk (below_step (by repeat (first | (with_reducible first | exact HB.out | apply below_alloc | apply pw_below_drewN | apply below_drew1 | refine below_set ?_ GE198.out | refine below_set ?_ GE199.out | refine below_set ?_ GE200.out) | exact HB.out)) hb)
                              clear HO_11
                              clear BK198
                              clear BK199
                              clear BK200
                              clear HB
                              have HO_11 := n0_
                              have BK198 := n1_
                              have BK199 := n2_
                              have BK200 := n3_
                              have HB := n4_
                              clear n0_ n1_ n2_ n3_ n4_
                              (try clear hb)
                              (try clear hb2)
                              (try clear hk)
                              (try clear hi)
                              refine hK.out _ _ ⟨(blk_cell BK198.out 0).trans rfl, (blk_cell BK198.out 1).trans rfl, (blk_cell BK198.out 2).trans rfl, (blk_cell BK199.out 0).trans rfl, (blk_cell BK199.out 1).trans rfl, (blk_cell BK199.out 2).trans rfl⟩ (fun hHeld => ?_)
                              clear hK K
                              refine norm_ (a' := ?_) ?_ ?_
                              rotate_left
                              · show Act.put _ (some 106) _ = _
                                simp only [Act.put, List.setIfInBounds_toArray, List.set_cons_zero, List.set_cons_succ, i64_w, i32_w]
                                rfl
                              refine pure_ (i := 2) (N := some 107) (v := ?_) (a' := ?_) #[true, true, true, false, false, false, false, false, false, false, false, false, false, false, false] rfl rfl (any_of HT_.out (by kernel_rfl)) (fun _ _ _ h => h) (Or.inl ⟨by rfl, ?_⟩) ?_ ?_
                              rotate_left
                              · intro w'
                                go_simp
                                with_reducible rfl
                              rotate_left
                              · simp only [Act.put, List.setIfInBounds_toArray, List.set_cons_zero, List.set_cons_succ, i64_w, i32_w]
                                rfl
                              refine take_ (i := 3) (N := some 108) (v := ?_) (a' := ?_) #[true, true, true, true, false, false, false, false, false, false, false, false, false, false, false] rfl rfl (take_ofW HT_.out HW_.out (by kernel_rfl)) (fun _ _ _ h => h) (Or.inl ⟨by rfl, ?_⟩) hHeld ?_ ?_
                              rotate_left
                              · rintro w' ⟨s0, s1, s2, s3, s4, s5⟩
                                go_simp
                                with_reducible rfl
                              rotate_left
                              · simp only [Act.put, List.setIfInBounds_toArray, List.set_cons_zero, List.set_cons_succ, i64_w, i32_w]
                                rfl
                              refine one_ (i := 4) (N := some 109) #[true, true, true, true, true, false, false, false, false, false, false, false, false, false, false] rfl rfl (one_of HT_.out (by kernel_rfl)) (by decide) (fun K hK => ?_)
                              refine goes_ Tryd.func9 (by kernel_rfl) rfl #[.agg #[.int .i64 a1_0, .string a1_1, .int .i64 a1_2]] (by rfl) rfl rfl (by (try simp only [List.map_toArray, List.map_cons, List.map_nil]); first | done | rfl | (simp only [List.length_drop, List.length_take]; rfl)) ?_
                              with_reducible refine (tag_Valid.calls k3 a1_0 a1_1 a1_2 true _ A128.out).mono ?_
                              rintro e w134 ⟨rfl, hb⟩
                              refine ⟨_, rfl, ?_⟩
                              have n0_ := Aside0.mk (Kd.R_below (by (with_reducible repeat (first | apply Kd.R_alloc | apply Kd.R_drewN | apply Kd.R_drew)); exact HO_11.out) hb)
                              have n1_ := Aside0.mk (blk_below (g := gb198) (o := .cells #[.int .i64 a0_0, .string a0_1, .int .i64 a0_2] 23 (0, 0)) (by (with_reducible repeat (first | refine blk_drewN ?_ _ | refine blk_drew ?_ | refine blk_alloc ?_ _)); exact BK198.out) hb)
                              have n2_ := Aside0.mk (blk_below (g := gb199) (o := .cells #[.int .i64 a1_0, .string a1_1, .int .i64 a1_2] 23 (0, 0)) (by (with_reducible repeat (first | refine blk_drewN ?_ _ | refine blk_drew ?_ | refine blk_alloc ?_ _)); exact BK199.out) hb)
                              have n3_ := Aside0.mk (blk_below (g := gb200) (o := .cells #[.int .i64 a2_0, .string a2_1, .int .i64 a2_2] 23 (0, 0)) (by (with_reducible repeat (first | refine blk_drewN ?_ _ | refine blk_drew ?_ | refine blk_alloc ?_ _)); exact BK200.out) hb)
                              have n4_ := Aside0.mk (below_step (by repeat (first | (with_reducible first | exact HB.out | apply below_alloc | apply pw_below_drewN | apply below_drew1 | refine below_set ?_ GE198.out | refine below_set ?_ GE199.out | refine below_set ?_ GE200.out) | exact HB.out)) hb)
                              clear HO_11
                              clear BK198
                              clear BK199
                              clear BK200
                              clear HB
                              have HO_11 := n0_
                              have BK198 := n1_
                              have BK199 := n2_
                              have BK200 := n3_
                              have HB := n4_
                              clear n0_ n1_ n2_ n3_ n4_
                              (try clear hb)
                              (try clear hb2)
                              (try clear hk)
                              (try clear hi)
                              refine hK.out _ _ ⟨(blk_cell BK198.out 0).trans rfl, (blk_cell BK198.out 1).trans rfl, (blk_cell BK198.out 2).trans rfl, (blk_cell BK199.out 0).trans rfl, (blk_cell BK199.out 1).trans rfl, (blk_cell BK199.out 2).trans rfl⟩ (fun hHeld => ?_)
                              clear hK K
                              refine norm_ (a' := ?_) ?_ ?_
                              rotate_left
                              · show Act.put _ (some 109) _ = _
                                simp only [Act.put, List.setIfInBounds_toArray, List.set_cons_zero, List.set_cons_succ, i64_w, i32_w]
                                rfl
                              refine pure_ (i := 5) (N := some 110) (v := ?_) (a' := ?_) #[true, true, true, true, true, true, false, false, false, false, false, false, false, false, false] rfl rfl (any_of HT_.out (by kernel_rfl)) (fun _ _ _ h => h) (Or.inl ⟨by rfl, ?_⟩) ?_ ?_
                              rotate_left
                              · intro w'
                                go_simp
                                with_reducible rfl
                              rotate_left
                              · simp only [Act.put, List.setIfInBounds_toArray, List.set_cons_zero, List.set_cons_succ, i64_w, i32_w]
                                rfl
                              refine pure_ (i := 6) (N := some 111) (v := ?_) (a' := ?_) #[true, true, true, true, true, true, true, false, false, false, false, false, false, false, false] rfl rfl (any_of HT_.out (by kernel_rfl)) (fun _ _ _ h => h) (Or.inl ⟨by rfl, ?_⟩) ?_ ?_
                              rotate_left
                              · intro w'
                                go_simp
                                with_reducible rfl
                              rotate_left
                              · simp only [Act.put, List.setIfInBounds_toArray, List.set_cons_zero, List.set_cons_succ, i64_w, i32_w]
                                rfl
                              refine pure_ (i := 12) (N := some 117) (v := ?_) (a' := ?_) #[true, true, true, true, true, true, true, false, false, false, false, false, true, false, false] rfl rfl (any_of HT_.out (by kernel_rfl)) (fun _ _ _ h => h) (Or.inl ⟨by rfl, ?_⟩) ?_ ?_
                              rotate_left
                              · intro w'
                                go_simp
                                with_reducible rfl
                              rotate_left
                              · simp only [Act.put, List.setIfInBounds_toArray, List.set_cons_zero, List.set_cons_succ, i64_w, i32_w]
                                rfl
                              refine take_ (i := 7) (N := some 112) (v := ?_) (a' := ?_) #[true, true, true, true, true, true, true, true, false, false, false, false, true, false, false] rfl rfl (take_ofW HT_.out HW_.out (by kernel_rfl)) (fun _ _ _ h => h) (Or.inl ⟨by rfl, ?_⟩) hHeld ?_ ?_
                              rotate_left
                              · rintro w' ⟨s0, s1, s2, s3, s4, s5⟩
                                go_simp
                                with_reducible rfl
                              rotate_left
                              · simp only [Act.put, List.setIfInBounds_toArray, List.set_cons_zero, List.set_cons_succ, i64_w, i32_w]
                                rfl
                              refine take_ (i := 9) (N := some 114) (v := ?_) (a' := ?_) #[true, true, true, true, true, true, true, true, false, true, false, false, true, false, false] rfl rfl (take_ofW HT_.out HW_.out (by kernel_rfl)) (fun _ _ _ h => h) (Or.inl ⟨by rfl, ?_⟩) hHeld ?_ ?_
                              rotate_left
                              · rintro w' ⟨s0, s1, s2, s3, s4, s5⟩
                                go_simp
                                with_reducible rfl
                              rotate_left
                              · simp only [Act.put, List.setIfInBounds_toArray, List.set_cons_zero, List.set_cons_succ, i64_w, i32_w]
                                rfl
                              refine one_ (i := 8) (N := some 113) #[true, true, true, true, true, true, true, true, true, true, false, false, true, false, false] rfl rfl (one_of HT_.out (by kernel_rfl)) (by decide) (fun K hK => ?_)
                              refine goes_ Tryd.func21 (by kernel_rfl) rfl #[.agg #[.int .i64 a0_0, .string a0_1, .int .i64 a0_2]] (by rfl) rfl rfl (by (try simp only [List.map_toArray, List.map_cons, List.map_nil]); first | done | rfl | (simp only [List.length_drop, List.length_take]; rfl)) ?_
                              with_reducible refine (tag_Text.calls a0_0 a0_1 a0_2 t235 _ A130.out).mono ?_
                              rintro e w135 ⟨rfl, hb⟩
                              refine ⟨_, rfl, ?_⟩
                              have n0_ := Aside0.mk (Kd.R_below (by (with_reducible repeat (first | apply Kd.R_alloc | apply Kd.R_drewN | apply Kd.R_drew)); exact HO_11.out) hb)
                              have n1_ := Aside0.mk (blk_below (g := gb198) (o := .cells #[.int .i64 a0_0, .string a0_1, .int .i64 a0_2] 23 (0, 0)) (by (with_reducible repeat (first | refine blk_drewN ?_ _ | refine blk_drew ?_ | refine blk_alloc ?_ _)); exact BK198.out) hb)
                              have n2_ := Aside0.mk (blk_below (g := gb199) (o := .cells #[.int .i64 a1_0, .string a1_1, .int .i64 a1_2] 23 (0, 0)) (by (with_reducible repeat (first | refine blk_drewN ?_ _ | refine blk_drew ?_ | refine blk_alloc ?_ _)); exact BK199.out) hb)
                              have n3_ := Aside0.mk (blk_below (g := gb200) (o := .cells #[.int .i64 a2_0, .string a2_1, .int .i64 a2_2] 23 (0, 0)) (by (with_reducible repeat (first | refine blk_drewN ?_ _ | refine blk_drew ?_ | refine blk_alloc ?_ _)); exact BK200.out) hb)
                              have n4_ := Aside0.mk (below_step (by repeat (first | (with_reducible first | exact HB.out | apply below_alloc | apply pw_below_drewN | apply below_drew1 | refine below_set ?_ GE198.out | refine below_set ?_ GE199.out | refine below_set ?_ GE200.out) | exact HB.out)) hb)
                              clear HO_11
                              clear BK198
                              clear BK199
                              clear BK200
                              clear HB
                              have HO_11 := n0_
                              have BK198 := n1_
                              have BK199 := n2_
                              have BK200 := n3_
                              have HB := n4_
                              clear n0_ n1_ n2_ n3_ n4_
                              (try clear hb)
                              (try clear hb2)
                              (try clear hk)
                              (try clear hi)
                              refine hK.out _ _ ⟨(blk_cell BK198.out 0).trans rfl, (blk_cell BK198.out 1).trans rfl, (blk_cell BK198.out 2).trans rfl, (blk_cell BK199.out 0).trans rfl, (blk_cell BK199.out 1).trans rfl, (blk_cell BK199.out 2).trans rfl⟩ (fun hHeld => ?_)
                              clear hK K
                              refine norm_ (a' := ?_) ?_ ?_
                              rotate_left
                              · show Act.put _ (some 113) _ = _
                                simp only [Act.put, List.setIfInBounds_toArray, List.set_cons_zero, List.set_cons_succ, i64_w, i32_w]
                                rfl
                              refine one_ (i := 10) (N := some 115) #[true, true, true, true, true, true, true, true, true, true, true, false, true, false, false] rfl rfl (one_of HT_.out (by kernel_rfl)) (by decide) (fun K hK => ?_)
                              refine goes_ Tryd.func21 (by kernel_rfl) rfl #[.agg #[.int .i64 a1_0, .string a1_1, .int .i64 a1_2]] (by rfl) rfl rfl (by (try simp only [List.map_toArray, List.map_cons, List.map_nil]); first | done | rfl | (simp only [List.length_drop, List.length_take]; rfl)) ?_
                              with_reducible refine (tag_Text.calls a1_0 a1_1 a1_2 t236 _ A131.out).mono ?_
                              rintro e w136 ⟨rfl, hb⟩
                              refine ⟨_, rfl, ?_⟩
                              have n0_ := Aside0.mk (Kd.R_below (by (with_reducible repeat (first | apply Kd.R_alloc | apply Kd.R_drewN | apply Kd.R_drew)); exact HO_11.out) hb)
                              have n1_ := Aside0.mk (blk_below (g := gb198) (o := .cells #[.int .i64 a0_0, .string a0_1, .int .i64 a0_2] 23 (0, 0)) (by (with_reducible repeat (first | refine blk_drewN ?_ _ | refine blk_drew ?_ | refine blk_alloc ?_ _)); exact BK198.out) hb)
                              have n2_ := Aside0.mk (blk_below (g := gb199) (o := .cells #[.int .i64 a1_0, .string a1_1, .int .i64 a1_2] 23 (0, 0)) (by (with_reducible repeat (first | refine blk_drewN ?_ _ | refine blk_drew ?_ | refine blk_alloc ?_ _)); exact BK199.out) hb)
                              have n3_ := Aside0.mk (blk_below (g := gb200) (o := .cells #[.int .i64 a2_0, .string a2_1, .int .i64 a2_2] 23 (0, 0)) (by (with_reducible repeat (first | refine blk_drewN ?_ _ | refine blk_drew ?_ | refine blk_alloc ?_ _)); exact BK200.out) hb)
                              have n4_ := Aside0.mk (below_step (by repeat (first | (with_reducible first | exact HB.out | apply below_alloc | apply pw_below_drewN | apply below_drew1 | refine below_set ?_ GE198.out | refine below_set ?_ GE199.out | refine below_set ?_ GE200.out) | exact HB.out)) hb)
                              clear HO_11
                              clear BK198
                              clear BK199
                              clear BK200
                              clear HB
                              have HO_11 := n0_
                              have BK198 := n1_
                              have BK199 := n2_
                              have BK200 := n3_
                              have HB := n4_
                              clear n0_ n1_ n2_ n3_ n4_
                              (try clear hb)
                              (try clear hb2)
                              (try clear hk)
                              (try clear hi)
                              refine hK.out _ _ ⟨(blk_cell BK198.out 0).trans rfl, (blk_cell BK198.out 1).trans rfl, (blk_cell BK198.out 2).trans rfl, (blk_cell BK199.out 0).trans rfl, (blk_cell BK199.out 1).trans rfl, (blk_cell BK199.out 2).trans rfl⟩ (fun hHeld => ?_)
                              clear hK K
                              refine norm_ (a' := ?_) ?_ ?_
                              rotate_left
                              · show Act.put _ (some 115) _ = _
                                simp only [Act.put, List.setIfInBounds_toArray, List.set_cons_zero, List.set_cons_succ, i64_w, i32_w]
                                rfl
                              refine pure_ (i := 11) (N := some 116) (v := ?_) (a' := ?_) #[true, true, true, true, true, true, true, true, true, true, true, true, true, false, false] rfl rfl (any_of HT_.out (by kernel_rfl)) (fun _ _ _ h => h) (Or.inl ⟨by rfl, ?_⟩) ?_ ?_
                              rotate_left
                              · intro w'
                                go_simp
                                with_reducible rfl
                              rotate_left
                              · simp only [Act.put, List.setIfInBounds_toArray, List.set_cons_zero, List.set_cons_succ, i64_w, i32_w]
                                rfl
                              refine pure_ (i := 13) (N := some 118) (v := ?_) (a' := ?_) #[true, true, true, true, true, true, true, true, true, true, true, true, true, true, false] rfl rfl (any_of HT_.out (by kernel_rfl)) (fun _ _ _ h => h) (Or.inl ⟨by rfl, ?_⟩) ?_ ?_
                              rotate_left
                              · intro w'
                                go_simp
                                with_reducible rfl
                              rotate_left
                              · simp only [Act.put, List.setIfInBounds_toArray, List.set_cons_zero, List.set_cons_succ, i64_w, i32_w]
                                rfl
                              refine pure_ (i := 14) (N := some 119) (v := ?_) (a' := ?_) #[true, true, true, true, true, true, true, true, true, true, true, true, true, true, true] rfl rfl (any_of HT_.out (by kernel_rfl)) (fun _ _ _ h => h) (Or.inl ⟨by rfl, ?_⟩) ?_ ?_
                              rotate_left
                              · intro w'
                                go_simp
                                with_reducible rfl
                              rotate_left
                              · simp only [Act.put, List.setIfInBounds_toArray, List.set_cons_zero, List.set_cons_succ, i64_w, i32_w]
                                rfl
                              refine done_ (done_of HT_.out (by kernel_rfl)) ?_
                              try go_wp2
                              go_meet
                              case rel => exact ⟨_, (((t235.toList == t236.toList) != t202)), (by first | rfl | (simp; done) | (simp [*]; done)), H', ⟨by have := HJ12.out; have := HK2.out; have := HK3.out; first | omega | exact Nat.le_refl _⟩, ⟨by (with_reducible repeat (first | refine blk_drewN ?_ _ | refine blk_drew ?_ | refine blk_alloc ?_ _)); exact BK198.out⟩, ⟨by (with_reducible repeat (first | refine blk_drewN ?_ _ | refine blk_drew ?_ | refine blk_alloc ?_ _)); exact BK199.out⟩, ⟨by (with_reducible repeat (first | refine blk_drewN ?_ _ | refine blk_drew ?_ | refine blk_alloc ?_ _)); exact BK200.out⟩, ⟨by repeat (first | (with_reducible first | exact HB.out | apply below_alloc | apply pw_below_drewN | apply below_drew1 | refine below_set ?_ GE198.out | refine below_set ?_ GE199.out | refine below_set ?_ GE200.out) | exact HB.out)⟩⟩
                            · replace c129 := Bool.eq_false_iff.mpr c129
                              subst c129
                              have H1 : (gristmilllaw14_TagsOrder.j3 k3 true false a0_0 a0_1 a0_2 a1_0 a1_1 a1_2) = some r := by rw [if_neg (show ¬ (false = true) by decide)] at H; exact H
                              clear H
                              have H := H1
                              clear H1
                              have H' := Aside0.mk H
                              clear H
                              try go_wp2
                              have n0_ := Aside0.mk (Kd.R_drew HO_11.out)
                              have n1_ := Aside0.mk (blk_drew BK198.out)
                              have n2_ := Aside0.mk (blk_drew BK199.out)
                              have n3_ := Aside0.mk (blk_drew BK200.out)
                              have n4_ := Aside0.mk (below_drew1 HB.out)
                              clear HO_11
                              clear BK198
                              clear BK199
                              clear BK200
                              clear HB
                              have HO_11 := n0_
                              have BK198 := n1_
                              have BK199 := n2_
                              have BK200 := n3_
                              have HB := n4_
                              clear n0_ n1_ n2_ n3_ n4_
                              refine start_ (n := 15) (S := fun w' => w'.cell? ⟨gb198, 0, none⟩ = some (.int .i64 a0_0) ∧ w'.cell? ⟨gb198, 1, none⟩ = some (.string a0_1) ∧ w'.cell? ⟨gb198, 2, none⟩ = some (.int .i64 a0_2) ∧ w'.cell? ⟨gb199, 0, none⟩ = some (.int .i64 a1_0) ∧ w'.cell? ⟨gb199, 1, none⟩ = some (.string a1_1) ∧ w'.cell? ⟨gb199, 2, none⟩ = some (.int .i64 a1_2)) (ds := []) #[false, false, false, false, false, false, false, false, false, false, false, false, false, false, false] (by kernel_rfl) rfl rfl ⟨(blk_cell BK198.out 0).trans rfl, (blk_cell BK198.out 1).trans rfl, (blk_cell BK198.out 2).trans rfl, (blk_cell BK199.out 0).trans rfl, (blk_cell BK199.out 1).trans rfl, (blk_cell BK199.out 2).trans rfl⟩ (fun hHeld => ?_); refine with_tabW gristmilllaw14_TagsOrder.tab20 gristmilllaw14_TagsOrder.bits20 (fun HT_ HW_ => ?_)
                              generalize wr.drew = w137 at HO_11 BK198 BK199 BK200 HB hHeld ⊢
                              refine take_ (i := 0) (N := some 105) (v := ?_) (a' := ?_) #[true, false, false, false, false, false, false, false, false, false, false, false, false, false, false] rfl rfl (take_ofW HT_.out HW_.out (by kernel_rfl)) (fun _ _ _ h => h) (Or.inl ⟨by rfl, ?_⟩) hHeld ?_ ?_
                              rotate_left
                              · rintro w' ⟨s0, s1, s2, s3, s4, s5⟩
                                go_simp
                                with_reducible rfl
                              rotate_left
                              · simp only [Act.put, List.setIfInBounds_toArray, List.set_cons_zero, List.set_cons_succ, i64_w, i32_w]
                                rfl
                              refine one_ (i := 1) (N := some 106) #[true, true, false, false, false, false, false, false, false, false, false, false, false, false, false] rfl rfl (one_of HT_.out (by kernel_rfl)) (by decide) (fun K hK => ?_)
                              refine goes_ Tryd.func9 (by kernel_rfl) rfl #[.agg #[.int .i64 a0_0, .string a0_1, .int .i64 a0_2]] (by rfl) rfl rfl (by (try simp only [List.map_toArray, List.map_cons, List.map_nil]); first | done | rfl | (simp only [List.length_drop, List.length_take]; rfl)) ?_
                              with_reducible refine (tag_Valid.calls k3 a0_0 a0_1 a0_2 true _ A126.out).mono ?_
                              rintro e w138 ⟨rfl, hb⟩
                              refine ⟨_, rfl, ?_⟩
                              have n0_ := Aside0.mk (Kd.R_below (by (with_reducible repeat (first | apply Kd.R_alloc | apply Kd.R_drewN | apply Kd.R_drew)); exact HO_11.out) hb)
                              have n1_ := Aside0.mk (blk_below (g := gb198) (o := .cells #[.int .i64 a0_0, .string a0_1, .int .i64 a0_2] 23 (0, 0)) (by (with_reducible repeat (first | refine blk_drewN ?_ _ | refine blk_drew ?_ | refine blk_alloc ?_ _)); exact BK198.out) hb)
                              have n2_ := Aside0.mk (blk_below (g := gb199) (o := .cells #[.int .i64 a1_0, .string a1_1, .int .i64 a1_2] 23 (0, 0)) (by (with_reducible repeat (first | refine blk_drewN ?_ _ | refine blk_drew ?_ | refine blk_alloc ?_ _)); exact BK199.out) hb)
                              have n3_ := Aside0.mk (blk_below (g := gb200) (o := .cells #[.int .i64 a2_0, .string a2_1, .int .i64 a2_2] 23 (0, 0)) (by (with_reducible repeat (first | refine blk_drewN ?_ _ | refine blk_drew ?_ | refine blk_alloc ?_ _)); exact BK200.out) hb)
                              have n4_ := Aside0.mk (below_step (by repeat (first | (with_reducible first | exact HB.out | apply below_alloc | apply pw_below_drewN | apply below_drew1 | refine below_set ?_ GE198.out | refine below_set ?_ GE199.out | refine below_set ?_ GE200.out) | exact HB.out)) hb)
                              clear HO_11
                              clear BK198
                              clear BK199
                              clear BK200
                              clear HB
                              have HO_11 := n0_
                              have BK198 := n1_
                              have BK199 := n2_
                              have BK200 := n3_
                              have HB := n4_
                              clear n0_ n1_ n2_ n3_ n4_
                              (try clear hb)
                              (try clear hb2)
                              (try clear hk)
                              (try clear hi)
                              refine hK.out _ _ ⟨(blk_cell BK198.out 0).trans rfl, (blk_cell BK198.out 1).trans rfl, (blk_cell BK198.out 2).trans rfl, (blk_cell BK199.out 0).trans rfl, (blk_cell BK199.out 1).trans rfl, (blk_cell BK199.out 2).trans rfl⟩ (fun hHeld => ?_)
                              clear hK K
                              refine norm_ (a' := ?_) ?_ ?_
                              rotate_left
                              · show Act.put _ (some 106) _ = _
                                simp only [Act.put, List.setIfInBounds_toArray, List.set_cons_zero, List.set_cons_succ, i64_w, i32_w]
                                rfl
                              refine pure_ (i := 2) (N := some 107) (v := ?_) (a' := ?_) #[true, true, true, false, false, false, false, false, false, false, false, false, false, false, false] rfl rfl (any_of HT_.out (by kernel_rfl)) (fun _ _ _ h => h) (Or.inl ⟨by rfl, ?_⟩) ?_ ?_
                              rotate_left
                              · intro w'
                                go_simp
                                with_reducible rfl
                              rotate_left
                              · simp only [Act.put, List.setIfInBounds_toArray, List.set_cons_zero, List.set_cons_succ, i64_w, i32_w]
                                rfl
                              refine take_ (i := 3) (N := some 108) (v := ?_) (a' := ?_) #[true, true, true, true, false, false, false, false, false, false, false, false, false, false, false] rfl rfl (take_ofW HT_.out HW_.out (by kernel_rfl)) (fun _ _ _ h => h) (Or.inl ⟨by rfl, ?_⟩) hHeld ?_ ?_
                              rotate_left
                              · rintro w' ⟨s0, s1, s2, s3, s4, s5⟩
                                go_simp
                                with_reducible rfl
                              rotate_left
                              · simp only [Act.put, List.setIfInBounds_toArray, List.set_cons_zero, List.set_cons_succ, i64_w, i32_w]
                                rfl
                              refine one_ (i := 4) (N := some 109) #[true, true, true, true, true, false, false, false, false, false, false, false, false, false, false] rfl rfl (one_of HT_.out (by kernel_rfl)) (by decide) (fun K hK => ?_)
                              refine goes_ Tryd.func9 (by kernel_rfl) rfl #[.agg #[.int .i64 a1_0, .string a1_1, .int .i64 a1_2]] (by rfl) rfl rfl (by (try simp only [List.map_toArray, List.map_cons, List.map_nil]); first | done | rfl | (simp only [List.length_drop, List.length_take]; rfl)) ?_
                              with_reducible refine (tag_Valid.calls k3 a1_0 a1_1 a1_2 false _ A128.out).mono ?_
                              rintro e w139 ⟨rfl, hb⟩
                              refine ⟨_, rfl, ?_⟩
                              have n0_ := Aside0.mk (Kd.R_below (by (with_reducible repeat (first | apply Kd.R_alloc | apply Kd.R_drewN | apply Kd.R_drew)); exact HO_11.out) hb)
                              have n1_ := Aside0.mk (blk_below (g := gb198) (o := .cells #[.int .i64 a0_0, .string a0_1, .int .i64 a0_2] 23 (0, 0)) (by (with_reducible repeat (first | refine blk_drewN ?_ _ | refine blk_drew ?_ | refine blk_alloc ?_ _)); exact BK198.out) hb)
                              have n2_ := Aside0.mk (blk_below (g := gb199) (o := .cells #[.int .i64 a1_0, .string a1_1, .int .i64 a1_2] 23 (0, 0)) (by (with_reducible repeat (first | refine blk_drewN ?_ _ | refine blk_drew ?_ | refine blk_alloc ?_ _)); exact BK199.out) hb)
                              have n3_ := Aside0.mk (blk_below (g := gb200) (o := .cells #[.int .i64 a2_0, .string a2_1, .int .i64 a2_2] 23 (0, 0)) (by (with_reducible repeat (first | refine blk_drewN ?_ _ | refine blk_drew ?_ | refine blk_alloc ?_ _)); exact BK200.out) hb)
                              have n4_ := Aside0.mk (below_step (by repeat (first | (with_reducible first | exact HB.out | apply below_alloc | apply pw_below_drewN | apply below_drew1 | refine below_set ?_ GE198.out | refine below_set ?_ GE199.out | refine below_set ?_ GE200.out) | exact HB.out)) hb)
                              clear HO_11
                              clear BK198
                              clear BK199
                              clear BK200
                              clear HB
                              have HO_11 := n0_
                              have BK198 := n1_
                              have BK199 := n2_
                              have BK200 := n3_
                              have HB := n4_
                              clear n0_ n1_ n2_ n3_ n4_
                              (try clear hb)
                              (try clear hb2)
                              (try clear hk)
                              (try clear hi)
                              refine hK.out _ _ ⟨(blk_cell BK198.out 0).trans rfl, (blk_cell BK198.out 1).trans rfl, (blk_cell BK198.out 2).trans rfl, (blk_cell BK199.out 0).trans rfl, (blk_cell BK199.out 1).trans rfl, (blk_cell BK199.out 2).trans rfl⟩ (fun hHeld => ?_)
                              clear hK K
                              refine norm_ (a' := ?_) ?_ ?_
                              rotate_left
                              · show Act.put _ (some 109) _ = _
                                simp only [Act.put, List.setIfInBounds_toArray, List.set_cons_zero, List.set_cons_succ, i64_w, i32_w]
                                rfl
                              refine pure_ (i := 5) (N := some 110) (v := ?_) (a' := ?_) #[true, true, true, true, true, true, false, false, false, false, false, false, false, false, false] rfl rfl (any_of HT_.out (by kernel_rfl)) (fun _ _ _ h => h) (Or.inl ⟨by rfl, ?_⟩) ?_ ?_
                              rotate_left
                              · intro w'
                                go_simp
                                with_reducible rfl
                              rotate_left
                              · simp only [Act.put, List.setIfInBounds_toArray, List.set_cons_zero, List.set_cons_succ, i64_w, i32_w]
                                rfl
                              refine pure_ (i := 6) (N := some 111) (v := ?_) (a' := ?_) #[true, true, true, true, true, true, true, false, false, false, false, false, false, false, false] rfl rfl (any_of HT_.out (by kernel_rfl)) (fun _ _ _ h => h) (Or.inl ⟨by rfl, ?_⟩) ?_ ?_
                              rotate_left
                              · intro w'
                                go_simp
                                with_reducible rfl
                              rotate_left
                              · simp only [Act.put, List.setIfInBounds_toArray, List.set_cons_zero, List.set_cons_succ, i64_w, i32_w]
                                rfl
                              refine pure_ (i := 7) (N := some 112) (v := undef) (a' := ?_) #[true, true, true, true, true, true, true, true, false, false, false, false, false, false, false] rfl rfl (any_of HT_.out (by kernel_rfl)) (fun _ _ _ h => h) (Or.inr ⟨by rfl, rfl⟩) ?_ ?_
                              rotate_left
                              · simp only [Act.put, List.setIfInBounds_toArray, List.set_cons_zero, List.set_cons_succ, i64_w, i32_w]
                                rfl
                              refine pure_ (i := 8) (N := some 113) (v := undef) (a' := ?_) #[true, true, true, true, true, true, true, true, true, false, false, false, false, false, false] rfl rfl (any_of HT_.out (by kernel_rfl)) (fun _ _ _ h => h) (Or.inr ⟨by rfl, rfl⟩) ?_ ?_
                              rotate_left
                              · simp only [Act.put, List.setIfInBounds_toArray, List.set_cons_zero, List.set_cons_succ, i64_w, i32_w]
                                rfl
                              refine pure_ (i := 9) (N := some 114) (v := undef) (a' := ?_) #[true, true, true, true, true, true, true, true, true, true, false, false, false, false, false] rfl rfl (any_of HT_.out (by kernel_rfl)) (fun _ _ _ h => h) (Or.inr ⟨by rfl, rfl⟩) ?_ ?_
                              rotate_left
                              · simp only [Act.put, List.setIfInBounds_toArray, List.set_cons_zero, List.set_cons_succ, i64_w, i32_w]
                                rfl
                              refine pure_ (i := 10) (N := some 115) (v := undef) (a' := ?_) #[true, true, true, true, true, true, true, true, true, true, true, false, false, false, false] rfl rfl (any_of HT_.out (by kernel_rfl)) (fun _ _ _ h => h) (Or.inr ⟨by rfl, rfl⟩) ?_ ?_
                              rotate_left
                              · simp only [Act.put, List.setIfInBounds_toArray, List.set_cons_zero, List.set_cons_succ, i64_w, i32_w]
                                rfl
                              refine pure_ (i := 11) (N := some 116) (v := undef) (a' := ?_) #[true, true, true, true, true, true, true, true, true, true, true, true, false, false, false] rfl rfl (any_of HT_.out (by kernel_rfl)) (fun _ _ _ h => h) (Or.inr ⟨by rfl, rfl⟩) ?_ ?_
                              rotate_left
                              · simp only [Act.put, List.setIfInBounds_toArray, List.set_cons_zero, List.set_cons_succ, i64_w, i32_w]
                                rfl
                              refine pure_ (i := 12) (N := some 117) (v := undef) (a' := ?_) #[true, true, true, true, true, true, true, true, true, true, true, true, true, false, false] rfl rfl (any_of HT_.out (by kernel_rfl)) (fun _ _ _ h => h) (Or.inr ⟨by rfl, rfl⟩) ?_ ?_
                              rotate_left
                              · simp only [Act.put, List.setIfInBounds_toArray, List.set_cons_zero, List.set_cons_succ, i64_w, i32_w]
                                rfl
                              refine pure_ (i := 13) (N := some 118) (v := undef) (a' := ?_) #[true, true, true, true, true, true, true, true, true, true, true, true, true, true, false] rfl rfl (any_of HT_.out (by kernel_rfl)) (fun _ _ _ h => h) (Or.inr ⟨by rfl, rfl⟩) ?_ ?_
                              rotate_left
                              · simp only [Act.put, List.setIfInBounds_toArray, List.set_cons_zero, List.set_cons_succ, i64_w, i32_w]
                                rfl
                              refine pure_ (i := 14) (N := some 119) (v := ?_) (a' := ?_) #[true, true, true, true, true, true, true, true, true, true, true, true, true, true, true] rfl rfl (any_of HT_.out (by kernel_rfl)) (fun _ _ _ h => h) (Or.inl ⟨by rfl, ?_⟩) ?_ ?_
                              rotate_left
                              · intro w'
                                go_simp
                                with_reducible rfl
                              rotate_left
                              · simp only [Act.put, List.setIfInBounds_toArray, List.set_cons_zero, List.set_cons_succ, i64_w, i32_w]
                                rfl
                              refine done_ (done_of HT_.out (by kernel_rfl)) ?_
                              try go_wp2
                              go_meet
                              case rel => exact ⟨_, (false), (by first | rfl | (simp; done) | (simp [*]; done)), H', ⟨by have := HJ12.out; have := HK2.out; have := HK3.out; first | omega | exact Nat.le_refl _⟩, ⟨by (with_reducible repeat (first | refine blk_drewN ?_ _ | refine blk_drew ?_ | refine blk_alloc ?_ _)); exact BK198.out⟩, ⟨by (with_reducible repeat (first | refine blk_drewN ?_ _ | refine blk_drew ?_ | refine blk_alloc ?_ _)); exact BK199.out⟩, ⟨by (with_reducible repeat (first | refine blk_drewN ?_ _ | refine blk_drew ?_ | refine blk_alloc ?_ _)); exact BK200.out⟩, ⟨by repeat (first | (with_reducible first | exact HB.out | apply below_alloc | apply pw_below_drewN | apply below_drew1 | refine below_set ?_ GE198.out | refine below_set ?_ GE199.out | refine below_set ?_ GE200.out) | exact HB.out)⟩⟩
                          · replace c127 := Bool.eq_false_iff.mpr c127
                            subst c127
                            have H1 : (gristmilllaw14_TagsOrder.j3 k3 true false a0_0 a0_1 a0_2 a1_0 a1_1 a1_2) = some r := by rw [if_neg (show ¬ (false = true) by decide)] at H; exact H
                            clear H
                            have H := H1
                            clear H1
                            have H' := Aside0.mk H
                            clear H
                            try go_wp2
                            have n0_ := Aside0.mk (Kd.R_drew HO_11.out)
                            have n1_ := Aside0.mk (blk_drew BK198.out)
                            have n2_ := Aside0.mk (blk_drew BK199.out)
                            have n3_ := Aside0.mk (blk_drew BK200.out)
                            have n4_ := Aside0.mk (below_drew1 HB.out)
                            clear HO_11
                            clear BK198
                            clear BK199
                            clear BK200
                            clear HB
                            have HO_11 := n0_
                            have BK198 := n1_
                            have BK199 := n2_
                            have BK200 := n3_
                            have HB := n4_
                            clear n0_ n1_ n2_ n3_ n4_
                            refine start_ (n := 15) (S := fun w' => w'.cell? ⟨gb198, 0, none⟩ = some (.int .i64 a0_0) ∧ w'.cell? ⟨gb198, 1, none⟩ = some (.string a0_1) ∧ w'.cell? ⟨gb198, 2, none⟩ = some (.int .i64 a0_2)) (ds := []) #[false, false, false, false, false, false, false, false, false, false, false, false, false, false, false] (by kernel_rfl) rfl rfl ⟨(blk_cell BK198.out 0).trans rfl, (blk_cell BK198.out 1).trans rfl, (blk_cell BK198.out 2).trans rfl⟩ (fun hHeld => ?_); refine with_tabW gristmilllaw14_TagsOrder.tab20 gristmilllaw14_TagsOrder.bits20 (fun HT_ HW_ => ?_)
                            generalize wr.drew = w140 at HO_11 BK198 BK199 BK200 HB hHeld ⊢
                            refine take_ (i := 0) (N := some 105) (v := ?_) (a' := ?_) #[true, false, false, false, false, false, false, false, false, false, false, false, false, false, false] rfl rfl (take_ofW HT_.out HW_.out (by kernel_rfl)) (fun _ _ _ h => h) (Or.inl ⟨by rfl, ?_⟩) hHeld ?_ ?_
                            rotate_left
                            · rintro w' ⟨s0, s1, s2⟩
                              go_simp
                              with_reducible rfl
                            rotate_left
                            · simp only [Act.put, List.setIfInBounds_toArray, List.set_cons_zero, List.set_cons_succ, i64_w, i32_w]
                              rfl
                            refine one_ (i := 1) (N := some 106) #[true, true, false, false, false, false, false, false, false, false, false, false, false, false, false] rfl rfl (one_of HT_.out (by kernel_rfl)) (by decide) (fun K hK => ?_)
                            refine goes_ Tryd.func9 (by kernel_rfl) rfl #[.agg #[.int .i64 a0_0, .string a0_1, .int .i64 a0_2]] (by rfl) rfl rfl (by (try simp only [List.map_toArray, List.map_cons, List.map_nil]); first | done | rfl | (simp only [List.length_drop, List.length_take]; rfl)) ?_
                            with_reducible refine (tag_Valid.calls k3 a0_0 a0_1 a0_2 false _ A126.out).mono ?_
                            rintro e w141 ⟨rfl, hb⟩
                            refine ⟨_, rfl, ?_⟩
                            have n0_ := Aside0.mk (Kd.R_below (by (with_reducible repeat (first | apply Kd.R_alloc | apply Kd.R_drewN | apply Kd.R_drew)); exact HO_11.out) hb)
                            have n1_ := Aside0.mk (blk_below (g := gb198) (o := .cells #[.int .i64 a0_0, .string a0_1, .int .i64 a0_2] 23 (0, 0)) (by (with_reducible repeat (first | refine blk_drewN ?_ _ | refine blk_drew ?_ | refine blk_alloc ?_ _)); exact BK198.out) hb)
                            have n2_ := Aside0.mk (blk_below (g := gb199) (o := .cells #[.int .i64 a1_0, .string a1_1, .int .i64 a1_2] 23 (0, 0)) (by (with_reducible repeat (first | refine blk_drewN ?_ _ | refine blk_drew ?_ | refine blk_alloc ?_ _)); exact BK199.out) hb)
                            have n3_ := Aside0.mk (blk_below (g := gb200) (o := .cells #[.int .i64 a2_0, .string a2_1, .int .i64 a2_2] 23 (0, 0)) (by (with_reducible repeat (first | refine blk_drewN ?_ _ | refine blk_drew ?_ | refine blk_alloc ?_ _)); exact BK200.out) hb)
                            have n4_ := Aside0.mk (below_step (by repeat (first | (with_reducible first | exact HB.out | apply below_alloc | apply pw_below_drewN | apply below_drew1 | refine below_set ?_ GE198.out | refine below_set ?_ GE199.out | refine below_set ?_ GE200.out) | exact HB.out)) hb)
                            clear HO_11
                            clear BK198
                            clear BK199
                            clear BK200
                            clear HB
                            have HO_11 := n0_
                            have BK198 := n1_
                            have BK199 := n2_
                            have BK200 := n3_
                            have HB := n4_
                            clear n0_ n1_ n2_ n3_ n4_
                            (try clear hb)
                            (try clear hb2)
                            (try clear hk)
                            (try clear hi)
                            refine hK.out _ _ ⟨(blk_cell BK198.out 0).trans rfl, (blk_cell BK198.out 1).trans rfl, (blk_cell BK198.out 2).trans rfl⟩ (fun hHeld => ?_)
                            clear hK K
                            refine norm_ (a' := ?_) ?_ ?_
                            rotate_left
                            · show Act.put _ (some 106) _ = _
                              simp only [Act.put, List.setIfInBounds_toArray, List.set_cons_zero, List.set_cons_succ, i64_w, i32_w]
                              rfl
                            refine pure_ (i := 2) (N := some 107) (v := ?_) (a' := ?_) #[true, true, true, false, false, false, false, false, false, false, false, false, false, false, false] rfl rfl (any_of HT_.out (by kernel_rfl)) (fun _ _ _ h => h) (Or.inl ⟨by rfl, ?_⟩) ?_ ?_
                            rotate_left
                            · intro w'
                              go_simp
                              with_reducible rfl
                            rotate_left
                            · simp only [Act.put, List.setIfInBounds_toArray, List.set_cons_zero, List.set_cons_succ, i64_w, i32_w]
                              rfl
                            refine pure_ (i := 3) (N := some 108) (v := undef) (a' := ?_) #[true, true, true, true, false, false, false, false, false, false, false, false, false, false, false] rfl rfl (any_of HT_.out (by kernel_rfl)) (fun _ _ _ h => h) (Or.inr ⟨by rfl, rfl⟩) ?_ ?_
                            rotate_left
                            · simp only [Act.put, List.setIfInBounds_toArray, List.set_cons_zero, List.set_cons_succ, i64_w, i32_w]
                              rfl
                            refine pure_ (i := 4) (N := some 109) (v := undef) (a' := ?_) #[true, true, true, true, true, false, false, false, false, false, false, false, false, false, false] rfl rfl (any_of HT_.out (by kernel_rfl)) (fun _ _ _ h => h) (Or.inr ⟨by rfl, rfl⟩) ?_ ?_
                            rotate_left
                            · simp only [Act.put, List.setIfInBounds_toArray, List.set_cons_zero, List.set_cons_succ, i64_w, i32_w]
                              rfl
                            refine pure_ (i := 5) (N := some 110) (v := ?_) (a' := ?_) #[true, true, true, true, true, true, false, false, false, false, false, false, false, false, false] rfl rfl (any_of HT_.out (by kernel_rfl)) (fun _ _ _ h => h) (Or.inl ⟨by rfl, ?_⟩) ?_ ?_
                            rotate_left
                            · intro w'
                              go_simp
                              with_reducible rfl
                            rotate_left
                            · simp only [Act.put, List.setIfInBounds_toArray, List.set_cons_zero, List.set_cons_succ, i64_w, i32_w]
                              rfl
                            refine pure_ (i := 6) (N := some 111) (v := ?_) (a' := ?_) #[true, true, true, true, true, true, true, false, false, false, false, false, false, false, false] rfl rfl (any_of HT_.out (by kernel_rfl)) (fun _ _ _ h => h) (Or.inl ⟨by rfl, ?_⟩) ?_ ?_
                            rotate_left
                            · intro w'
                              go_simp
                              with_reducible rfl
                            rotate_left
                            · simp only [Act.put, List.setIfInBounds_toArray, List.set_cons_zero, List.set_cons_succ, i64_w, i32_w]
                              rfl
                            refine pure_ (i := 7) (N := some 112) (v := undef) (a' := ?_) #[true, true, true, true, true, true, true, true, false, false, false, false, false, false, false] rfl rfl (any_of HT_.out (by kernel_rfl)) (fun _ _ _ h => h) (Or.inr ⟨by rfl, rfl⟩) ?_ ?_
                            rotate_left
                            · simp only [Act.put, List.setIfInBounds_toArray, List.set_cons_zero, List.set_cons_succ, i64_w, i32_w]
                              rfl
                            refine pure_ (i := 8) (N := some 113) (v := undef) (a' := ?_) #[true, true, true, true, true, true, true, true, true, false, false, false, false, false, false] rfl rfl (any_of HT_.out (by kernel_rfl)) (fun _ _ _ h => h) (Or.inr ⟨by rfl, rfl⟩) ?_ ?_
                            rotate_left
                            · simp only [Act.put, List.setIfInBounds_toArray, List.set_cons_zero, List.set_cons_succ, i64_w, i32_w]
                              rfl
                            refine pure_ (i := 9) (N := some 114) (v := undef) (a' := ?_) #[true, true, true, true, true, true, true, true, true, true, false, false, false, false, false] rfl rfl (any_of HT_.out (by kernel_rfl)) (fun _ _ _ h => h) (Or.inr ⟨by rfl, rfl⟩) ?_ ?_
                            rotate_left
                            · simp only [Act.put, List.setIfInBounds_toArray, List.set_cons_zero, List.set_cons_succ, i64_w, i32_w]
                              rfl
                            refine pure_ (i := 10) (N := some 115) (v := undef) (a' := ?_) #[true, true, true, true, true, true, true, true, true, true, true, false, false, false, false] rfl rfl (any_of HT_.out (by kernel_rfl)) (fun _ _ _ h => h) (Or.inr ⟨by rfl, rfl⟩) ?_ ?_
                            rotate_left
                            · simp only [Act.put, List.setIfInBounds_toArray, List.set_cons_zero, List.set_cons_succ, i64_w, i32_w]
                              rfl
                            refine pure_ (i := 11) (N := some 116) (v := undef) (a' := ?_) #[true, true, true, true, true, true, true, true, true, true, true, true, false, false, false] rfl rfl (any_of HT_.out (by kernel_rfl)) (fun _ _ _ h => h) (Or.inr ⟨by rfl, rfl⟩) ?_ ?_
                            rotate_left
                            · simp only [Act.put, List.setIfInBounds_toArray, List.set_cons_zero, List.set_cons_succ, i64_w, i32_w]
                              rfl
                            refine pure_ (i := 12) (N := some 117) (v := undef) (a' := ?_) #[true, true, true, true, true, true, true, true, true, true, true, true, true, false, false] rfl rfl (any_of HT_.out (by kernel_rfl)) (fun _ _ _ h => h) (Or.inr ⟨by rfl, rfl⟩) ?_ ?_
                            rotate_left
                            · simp only [Act.put, List.setIfInBounds_toArray, List.set_cons_zero, List.set_cons_succ, i64_w, i32_w]
                              rfl
                            refine pure_ (i := 13) (N := some 118) (v := undef) (a' := ?_) #[true, true, true, true, true, true, true, true, true, true, true, true, true, true, false] rfl rfl (any_of HT_.out (by kernel_rfl)) (fun _ _ _ h => h) (Or.inr ⟨by rfl, rfl⟩) ?_ ?_
                            rotate_left
                            · simp only [Act.put, List.setIfInBounds_toArray, List.set_cons_zero, List.set_cons_succ, i64_w, i32_w]
                              rfl
                            refine pure_ (i := 14) (N := some 119) (v := ?_) (a' := ?_) #[true, true, true, true, true, true, true, true, true, true, true, true, true, true, true] rfl rfl (any_of HT_.out (by kernel_rfl)) (fun _ _ _ h => h) (Or.inl ⟨by rfl, ?_⟩) ?_ ?_
                            rotate_left
                            · intro w'
                              go_simp
                              with_reducible rfl
                            rotate_left
                            · simp only [Act.put, List.setIfInBounds_toArray, List.set_cons_zero, List.set_cons_succ, i64_w, i32_w]
                              rfl
                            refine done_ (done_of HT_.out (by kernel_rfl)) ?_
                            try go_wp2
                            go_meet
                            case rel => exact ⟨_, (false), (by first | rfl | (simp; done) | (simp [*]; done)), H', ⟨by have := HJ12.out; have := HK2.out; have := HK3.out; first | omega | exact Nat.le_refl _⟩, ⟨by (with_reducible repeat (first | refine blk_drewN ?_ _ | refine blk_drew ?_ | refine blk_alloc ?_ _)); exact BK198.out⟩, ⟨by (with_reducible repeat (first | refine blk_drewN ?_ _ | refine blk_drew ?_ | refine blk_alloc ?_ _)); exact BK199.out⟩, ⟨by (with_reducible repeat (first | refine blk_drewN ?_ _ | refine blk_drew ?_ | refine blk_alloc ?_ _)); exact BK200.out⟩, ⟨by repeat (first | (with_reducible first | exact HB.out | apply below_alloc | apply pw_below_drewN | apply below_drew1 | refine below_set ?_ GE198.out | refine below_set ?_ GE199.out | refine below_set ?_ GE200.out) | exact HB.out)⟩⟩
                        case rest =>
                          clear HC125
                          try clear c1
                          try clear c2
                          try clear p2
                          try clear c9
                          try clear c12
                          try clear c21
                          try clear c120
                          try clear c120b0
                          try clear c121
                          try clear c127
                          try clear c129
                          obtain ⟨kq, x119_124, rfl, HA, HJ124, BK198, BK199, BK200, HB⟩ := hcut
                          cases kq with
                          | zero => exact absurd HA.out (by simp [gristmilllaw14_TagsOrder.j3])
                          | succ kj124 =>
                            have H := HA.out
                            clear HA
                            simp only [gristmilllaw14_TagsOrder.j3] at H
                            by_cases c142 : x119_124 = true
                            · subst c142
                              have H1 : (if true = true then (if a0_0 = a1_0 then (some (a0_1.toList != a1_1.toList)) else (none)) else (none)) = some r := by rw [if_pos rfl] at H; exact H
                              clear H
                              have H := H1
                              clear H1
                              have H1 : (if a0_0 = a1_0 then (some (a0_1.toList != a1_1.toList)) else (none)) = some r := by first | exact H | (rw [if_pos rfl] at H; exact H)
                              clear H
                              have H := H1
                              clear H1
                              by_cases c143 : a0_0 = a1_0
                              · rw [if_pos c143] at H
                                have c143b0 : (a0_0 == a1_0) = true := beq_iff_eq.mpr c143
                                have c143b1 : (a0_0 != a1_0) = false := bne_eq_false_iff_eq.mpr c143
                                clear c143
                                obtain rfl := Option.some.inj H
                                have hnb144 := NB198_199.out
                                have hnc144 := NB199_198.out
                                have hnb145 := NB198_200.out
                                have hnc145 := NB200_198.out
                                have hcz146_0 : wc.cell? ⟨gb198, 0, none⟩ = some (.int .i64 a0_0) := (blk_cell BK198.out 0).trans rfl
                                have hcz146_1 : wc.cell? ⟨gb198, 1, none⟩ = some (.string a0_1) := (blk_cell BK198.out 1).trans rfl
                                have hcz146_2 : wc.cell? ⟨gb198, 2, none⟩ = some (.int .i64 a0_2) := (blk_cell BK198.out 2).trans rfl
                                have hfz146_0 := blk_frozen BK198.out 0
                                have hfz146_1 := blk_frozen BK198.out 1
                                have hfz146_2 := blk_frozen BK198.out 2
                                have hnb147 := NB199_200.out
                                have hnc147 := NB200_199.out
                                have hcz148_0 : wc.cell? ⟨gb199, 0, none⟩ = some (.int .i64 a1_0) := (blk_cell BK199.out 0).trans rfl
                                have hcz148_1 : wc.cell? ⟨gb199, 1, none⟩ = some (.string a1_1) := (blk_cell BK199.out 1).trans rfl
                                have hcz148_2 : wc.cell? ⟨gb199, 2, none⟩ = some (.int .i64 a1_2) := (blk_cell BK199.out 2).trans rfl
                                have hfz148_0 := blk_frozen BK199.out 0
                                have hfz148_1 := blk_frozen BK199.out 1
                                have hfz148_2 := blk_frozen BK199.out 2
                                go_wp2
                                go_ret
                                exact ⟨by first | rfl | (simp [errW_none, errW_some] <;> rfl) | (simp [*, errW_none, errW_some] <;> rfl) | (simp [errW_none, errW_some] <;> (rw [Bool.eq_iff_iff]; simp; done)), by repeat (first | (with_reducible first | exact HB.out | apply below_alloc | apply pw_below_drewN | apply below_drew1 | refine below_set ?_ GE198.out | refine below_set ?_ GE199.out | refine below_set ?_ GE200.out) | exact HB.out)⟩
                              · rw [if_neg c143] at H
                                exact absurd H (by simp)
                            · replace c142 := Bool.eq_false_iff.mpr c142
                              subst c142
                              have H1 : (if true = true then ((tag_Waits.f a0_0 a0_1 a0_2).bind fun t237 => (if t237 = true then ((tag_Bare.f a0_0 a0_1 a0_2).bind fun t238 => (some (!t238))) else (some (!false)))) else (none)) = some r := by rw [if_neg (show ¬ (false = true) by decide)] at H; exact H
                              clear H
                              have H := H1
                              clear H1
                              have H1 : ((tag_Waits.f a0_0 a0_1 a0_2).bind fun t237 => (if t237 = true then ((tag_Bare.f a0_0 a0_1 a0_2).bind fun t238 => (some (!t238))) else (some (!false)))) = some r := by first | exact H | (rw [if_pos rfl] at H; exact H)
                              clear H
                              have H := H1
                              clear H1
                              replace H := Option.bind_eq_some_iff.mp H
                              obtain ⟨t237, A1490, H⟩ := H
                              replace H : (if t237 = true then ((tag_Bare.f a0_0 a0_1 a0_2).bind fun t238 => (some (!t238))) else (some (!false))) = some r := H
                              have A149 := Aside0.mk A1490
                              clear A1490
                              by_cases c150 : t237 = true
                              · subst c150
                                have H1 : ((tag_Bare.f a0_0 a0_1 a0_2).bind fun t238 => (some (!t238))) = some r := by rw [if_pos rfl] at H; exact H
                                clear H
                                have H := H1
                                clear H1
                                replace H := Option.bind_eq_some_iff.mp H
                                obtain ⟨t238, A1510, H⟩ := H
                                replace H : (some (!t238)) = some r := H
                                have A151 := Aside0.mk A1510
                                clear A1510
                                obtain rfl := Option.some.inj H
                                have hnb152 := NB198_199.out
                                have hnc152 := NB199_198.out
                                have hnb153 := NB198_200.out
                                have hnc153 := NB200_198.out
                                have hcz154_0 : wc.cell? ⟨gb198, 0, none⟩ = some (.int .i64 a0_0) := (blk_cell BK198.out 0).trans rfl
                                have hcz154_1 : wc.cell? ⟨gb198, 1, none⟩ = some (.string a0_1) := (blk_cell BK198.out 1).trans rfl
                                have hcz154_2 : wc.cell? ⟨gb198, 2, none⟩ = some (.int .i64 a0_2) := (blk_cell BK198.out 2).trans rfl
                                have hfz154_0 := blk_frozen BK198.out 0
                                have hfz154_1 := blk_frozen BK198.out 1
                                have hfz154_2 := blk_frozen BK198.out 2
                                go_wp2_with (first | (go_at_call 17; (with_reducible refine (tag_Waits.calls a0_0 a0_1 a0_2 true _ A149.out).mono ?_); rintro e w155 ⟨rfl, hb⟩; have n0_ := Aside0.mk (blk_below (g := gb198) (o := .cells #[.int .i64 a0_0, .string a0_1, .int .i64 a0_2] 23 (0, 0)) (by (with_reducible repeat (first | refine blk_drewN ?_ _ | refine blk_drew ?_ | refine blk_alloc ?_ _)); exact BK198.out) hb); have n1_ := Aside0.mk (blk_below (g := gb199) (o := .cells #[.int .i64 a1_0, .string a1_1, .int .i64 a1_2] 23 (0, 0)) (by (with_reducible repeat (first | refine blk_drewN ?_ _ | refine blk_drew ?_ | refine blk_alloc ?_ _)); exact BK199.out) hb); have n2_ := Aside0.mk (blk_below (g := gb200) (o := .cells #[.int .i64 a2_0, .string a2_1, .int .i64 a2_2] 23 (0, 0)) (by (with_reducible repeat (first | refine blk_drewN ?_ _ | refine blk_drew ?_ | refine blk_alloc ?_ _)); exact BK200.out) hb); have n3_ := Aside0.mk (below_step (by repeat (first | (with_reducible first | exact HB.out | apply below_alloc | apply pw_below_drewN | apply below_drew1 | refine below_set ?_ GE198.out | refine below_set ?_ GE199.out | refine below_set ?_ GE200.out) | exact HB.out)) hb); clear BK198; clear BK199; clear BK200; clear HB; have BK198 := n0_; have BK199 := n1_; have BK200 := n2_; have HB := n3_; clear n0_ n1_ n2_ n3_; (try clear hb); (try clear hb2); (try clear hk); (try clear hi); have hcz156_0 : w155.cell? ⟨gb198, 0, none⟩ = some (.int .i64 a0_0) := (blk_cell BK198.out 0).trans rfl; have hcz156_1 : w155.cell? ⟨gb198, 1, none⟩ = some (.string a0_1) := (blk_cell BK198.out 1).trans rfl; have hcz156_2 : w155.cell? ⟨gb198, 2, none⟩ = some (.int .i64 a0_2) := (blk_cell BK198.out 2).trans rfl; have hfz156_0 := blk_frozen BK198.out 0; have hfz156_1 := blk_frozen BK198.out 1; have hfz156_2 := blk_frozen BK198.out 2) | (go_at_call 19; (with_reducible refine (tag_Bare.calls a0_0 a0_1 a0_2 t238 _ A151.out).mono ?_); rintro e w157 ⟨rfl, hb⟩; have n0_ := Aside0.mk (blk_below (g := gb198) (o := .cells #[.int .i64 a0_0, .string a0_1, .int .i64 a0_2] 23 (0, 0)) (by (with_reducible repeat (first | refine blk_drewN ?_ _ | refine blk_drew ?_ | refine blk_alloc ?_ _)); exact BK198.out) hb); have n1_ := Aside0.mk (blk_below (g := gb199) (o := .cells #[.int .i64 a1_0, .string a1_1, .int .i64 a1_2] 23 (0, 0)) (by (with_reducible repeat (first | refine blk_drewN ?_ _ | refine blk_drew ?_ | refine blk_alloc ?_ _)); exact BK199.out) hb); have n2_ := Aside0.mk (blk_below (g := gb200) (o := .cells #[.int .i64 a2_0, .string a2_1, .int .i64 a2_2] 23 (0, 0)) (by (with_reducible repeat (first | refine blk_drewN ?_ _ | refine blk_drew ?_ | refine blk_alloc ?_ _)); exact BK200.out) hb); have n3_ := Aside0.mk (below_step (by repeat (first | (with_reducible first | exact HB.out | apply below_alloc | apply pw_below_drewN | apply below_drew1 | refine below_set ?_ GE198.out | refine below_set ?_ GE199.out | refine below_set ?_ GE200.out) | exact HB.out)) hb); clear BK198; clear BK199; clear BK200; clear HB; have BK198 := n0_; have BK199 := n1_; have BK200 := n2_; have HB := n3_; clear n0_ n1_ n2_ n3_; (try clear hb); (try clear hb2); (try clear hk); (try clear hi)))
                                go_ret
                                exact ⟨by first | rfl | (simp [errW_none, errW_some] <;> rfl) | (simp [*, errW_none, errW_some] <;> rfl) | (simp [errW_none, errW_some] <;> (rw [Bool.eq_iff_iff]; simp; done)), by repeat (first | (with_reducible first | exact HB.out | apply below_alloc | apply pw_below_drewN | apply below_drew1 | refine below_set ?_ GE198.out | refine below_set ?_ GE199.out | refine below_set ?_ GE200.out) | exact HB.out)⟩
                              · replace c150 := Bool.eq_false_iff.mpr c150
                                subst c150
                                have H1 : (some (!false)) = some r := by rw [if_neg (show ¬ (false = true) by decide)] at H; exact H
                                clear H
                                have H := H1
                                clear H1
                                obtain rfl := Option.some.inj H
                                have hnb158 := NB198_199.out
                                have hnc158 := NB199_198.out
                                have hnb159 := NB198_200.out
                                have hnc159 := NB200_198.out
                                have hcz160_0 : wc.cell? ⟨gb198, 0, none⟩ = some (.int .i64 a0_0) := (blk_cell BK198.out 0).trans rfl
                                have hcz160_1 : wc.cell? ⟨gb198, 1, none⟩ = some (.string a0_1) := (blk_cell BK198.out 1).trans rfl
                                have hcz160_2 : wc.cell? ⟨gb198, 2, none⟩ = some (.int .i64 a0_2) := (blk_cell BK198.out 2).trans rfl
                                have hfz160_0 := blk_frozen BK198.out 0
                                have hfz160_1 := blk_frozen BK198.out 1
                                have hfz160_2 := blk_frozen BK198.out 2
                                go_wp2_with (first | (go_at_call 17; (with_reducible refine (tag_Waits.calls a0_0 a0_1 a0_2 false _ A149.out).mono ?_); rintro e w161 ⟨rfl, hb⟩; have n0_ := Aside0.mk (blk_below (g := gb198) (o := .cells #[.int .i64 a0_0, .string a0_1, .int .i64 a0_2] 23 (0, 0)) (by (with_reducible repeat (first | refine blk_drewN ?_ _ | refine blk_drew ?_ | refine blk_alloc ?_ _)); exact BK198.out) hb); have n1_ := Aside0.mk (blk_below (g := gb199) (o := .cells #[.int .i64 a1_0, .string a1_1, .int .i64 a1_2] 23 (0, 0)) (by (with_reducible repeat (first | refine blk_drewN ?_ _ | refine blk_drew ?_ | refine blk_alloc ?_ _)); exact BK199.out) hb); have n2_ := Aside0.mk (blk_below (g := gb200) (o := .cells #[.int .i64 a2_0, .string a2_1, .int .i64 a2_2] 23 (0, 0)) (by (with_reducible repeat (first | refine blk_drewN ?_ _ | refine blk_drew ?_ | refine blk_alloc ?_ _)); exact BK200.out) hb); have n3_ := Aside0.mk (below_step (by repeat (first | (with_reducible first | exact HB.out | apply below_alloc | apply pw_below_drewN | apply below_drew1 | refine below_set ?_ GE198.out | refine below_set ?_ GE199.out | refine below_set ?_ GE200.out) | exact HB.out)) hb); clear BK198; clear BK199; clear BK200; clear HB; have BK198 := n0_; have BK199 := n1_; have BK200 := n2_; have HB := n3_; clear n0_ n1_ n2_ n3_; (try clear hb); (try clear hb2); (try clear hk); (try clear hi)))
                                go_ret
                                exact ⟨by first | rfl | (simp [errW_none, errW_some] <;> rfl) | (simp [*, errW_none, errW_some] <;> rfl) | (simp [errW_none, errW_some] <;> (rw [Bool.eq_iff_iff]; simp; done)), by repeat (first | (with_reducible first | exact HB.out | apply below_alloc | apply pw_below_drewN | apply below_drew1 | refine below_set ?_ GE198.out | refine below_set ?_ GE199.out | refine below_set ?_ GE200.out) | exact HB.out)⟩
  · replace c6 := Bool.eq_false_iff.mpr c6
    subst c6
    have H1 : (none) = some r := by rw [if_neg (show ¬ (false = true) by decide)] at H; exact H
    clear H
    have H := H1
    clear H1
    exact absurd H (by simp)

end Go.Proofs.YtpmpmgoddgcnjaaDoor.PTagsB
