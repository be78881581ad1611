/- For each Go function that the laws of this group reach: a plain function with the same answers, and the proof that the call comes to them wherever the plain function has an answer. No other condition. (Laid by a program of this session.) -/
import Derived.Test.YtpmpmgoddgcnjaaDoorPTagsx0
import Derived.Test.YtpmpmgoddgcnjaaDoorPTagsx2
import Derived.Test.YtpmpmgoddgcnjaaDoorPTagsx3
import Derived.Test.YtpmpmgoddgcnjaaDoorPTagsx4
import Derived.Test.YtpmpmgoddgcnjaaDoorPTagsx5
import Derived.Test.YtpmpmgoddgcnjaaDoorExt
namespace Go.Proofs.YtpmpmgoddgcnjaaDoor.PTags
open Go.RowKit Go.Proofs.YtpmpmgoddgcnjaaDoorW.PrintWords Go.Proofs.YtpmpmgoddgcnjaaDoorW.PrintLast Go.Proofs.YtpmpmgoddgcnjaaDoorW.PrintMore Go.Proofs.YtpmpmgoddgcnjaaDoor.Ext
attribute [local go_sem] max2_int min2_int max_two min_two max_three min_three max_four min_four   -- for this text's walks alone
set_option linter.unusedVariables false
set_option linter.unusedSimpArgs false

/-! ### gristmilllaw14_TagsKinds: function 5 -/
mutual
def gristmilllaw14_TagsKinds.j4 : Nat → Int → Bool → Bool → Int → ByteArray → Int → Option (Bool)
  | 0, _, _, _, _, _, _ => none
  | k + 1, x0, x7, x12, x132000, x132001, x132002 => if x0 = 5 then (gristmilllaw14_TagsKinds.j5 k x7 x12 true x132000 x132001 x132002) else (gristmilllaw14_TagsKinds.j5 k x7 x12 (x0 == 6) x132000 x132001 x132002)
def gristmilllaw14_TagsKinds.j5 : Nat → Bool → Bool → Bool → Int → ByteArray → Int → Option (Bool)
  | 0, _, _, _, _, _, _ => none
  | k + 1, x7, x12, x13, x132000, x132001, x132002 => if x7 = true then ((tag_Waits.f k x132000 x132001 x132002).bind fun t133 => (if (t133 == x12) = true then ((tag_Bare.f k x132000 x132001 x132002).bind fun t134 => (if (t134 == x13) = true then ((tag_Text.f x132000 x132001 x132002).bind fun t135 => (if (t135.size : Int) ≥ 3 then ((tag_Has.f k (([(⟨x132000, x132001, x132002⟩ : S23)] : List (S23))) x132000 x132001 x132002).bind fun t139 => (if t139 = true then ((tag_Less.f k x132000 x132001 x132002 x132000 x132001 x132002).bind fun t140 => (gristmilllaw14_TagsKinds.j6 k (!t140))) else (gristmilllaw14_TagsKinds.j6 k false))) else (gristmilllaw14_TagsKinds.j6 k false))) else (gristmilllaw14_TagsKinds.j6 k false))) else (gristmilllaw14_TagsKinds.j6 k false))) else (gristmilllaw14_TagsKinds.j6 k false)
def gristmilllaw14_TagsKinds.j6 : Nat → Bool → Option (Bool)
  | 0, _ => none
  | k + 1, x6 => some x6
def gristmilllaw14_TagsKinds.j0 : Nat → Int → Int → ByteArray → Bool → Bool → Option (Bool)
  | 0, _, _, _, _, _ => none
  | k + 1, x0, x1, x2, x7, x9 => if x2.toList = ([] : List UInt8) then (gristmilllaw14_TagsKinds.j1 k x0 x1 x2 x7 x9 false) else (if 0 < (x2.size : Int) then (if (bt x2 0) ≥ 65 then (gristmilllaw14_TagsKinds.j1 k x0 x1 x2 x7 x9 (decide ((bt x2 0) ≤ 90))) else (gristmilllaw14_TagsKinds.j1 k x0 x1 x2 x7 x9 false)) else (none))
def gristmilllaw14_TagsKinds.j1 : Nat → Int → Int → ByteArray → Bool → Bool → Bool → Option (Bool)
  | 0, _, _, _, _, _, _ => none
  | k + 1, x0, x1, x2, x7, x9, x10 => if x0 < 1 then (gristmilllaw14_TagsKinds.j2 k x7 true) else (if x0 > 6 then (gristmilllaw14_TagsKinds.j2 k x7 true) else (if x1 < 0 then (gristmilllaw14_TagsKinds.j2 k x7 true) else (if x1 > 60 then (gristmilllaw14_TagsKinds.j2 k x7 true) else (if (x9 == x2.toList.isEmpty) = true then (gristmilllaw14_TagsKinds.j2 k x7 true) else (if x0 = 1 then (if x10 = true then (if x0 = 3 then (if x1 = 0 then (gristmilllaw14_TagsKinds.j2 k x7 true) else (if x0 ≥ 5 then (gristmilllaw14_TagsKinds.j2 k x7 (x1 != 0)) else (gristmilllaw14_TagsKinds.j2 k x7 false))) else (if x0 = 4 then (if x1 = 0 then (gristmilllaw14_TagsKinds.j2 k x7 true) else (if x0 ≥ 5 then (gristmilllaw14_TagsKinds.j2 k x7 (x1 != 0)) else (gristmilllaw14_TagsKinds.j2 k x7 false))) else (if x0 ≥ 5 then (gristmilllaw14_TagsKinds.j2 k x7 (x1 != 0)) else (gristmilllaw14_TagsKinds.j2 k x7 false)))) else (gristmilllaw14_TagsKinds.j2 k x7 true)) else (if x0 = 3 then (if x1 = 0 then (gristmilllaw14_TagsKinds.j2 k x7 true) else (if x0 ≥ 5 then (gristmilllaw14_TagsKinds.j2 k x7 (x1 != 0)) else (gristmilllaw14_TagsKinds.j2 k x7 false))) else (if x0 = 4 then (if x1 = 0 then (gristmilllaw14_TagsKinds.j2 k x7 true) else (if x0 ≥ 5 then (gristmilllaw14_TagsKinds.j2 k x7 (x1 != 0)) else (gristmilllaw14_TagsKinds.j2 k x7 false))) else (if x0 ≥ 5 then (gristmilllaw14_TagsKinds.j2 k x7 (x1 != 0)) else (gristmilllaw14_TagsKinds.j2 k x7 false)))))))))
def gristmilllaw14_TagsKinds.j2 : Nat → Bool → Bool → Option (Bool)
  | 0, _, _ => none
  | k + 1, x7, x11 => if x7 = true then (gristmilllaw14_TagsKinds.j3 k x11) else (gristmilllaw14_TagsKinds.j3 k false)
def gristmilllaw14_TagsKinds.j3 : Nat → Bool → Option (Bool)
  | 0, _ => none
  | k + 1, x6 => some x6
end
def gristmilllaw14_TagsKinds.f (k : Nat) (a0 : Int) (a1 : Int) (a2 : ByteArray) : Option (Bool) := (gristmilllaw14_first.f).bind fun t130 => (if t130 = true then (if (a2.size : Int) > 60 then (some t130) else ((tag_Valid.f k a0 a2 a1).bind fun t132 => (if t132 = true then (if a0 = 2 then (gristmilllaw14_TagsKinds.j4 k a0 t130 true a0 a2 a1) else (gristmilllaw14_TagsKinds.j4 k a0 t130 (a0 == 4) a0 a2 a1)) else (if a0 ≥ 1 then (gristmilllaw14_TagsKinds.j0 k a0 a1 a2 t130 (decide (a0 ≤ 3))) else (gristmilllaw14_TagsKinds.j0 k a0 a1 a2 t130 false))))) else (some false))
theorem gristmilllaw14_TagsKinds.mono_l : ∀ k, (∀ y0 y1 y2 y3 y4 y5, LeO (gristmilllaw14_TagsKinds.j4 k y0 y1 y2 y3 y4 y5) (gristmilllaw14_TagsKinds.j4 (k + 1) y0 y1 y2 y3 y4 y5)) ∧ (∀ y0 y1 y2 y3 y4 y5, LeO (gristmilllaw14_TagsKinds.j5 k y0 y1 y2 y3 y4 y5) (gristmilllaw14_TagsKinds.j5 (k + 1) y0 y1 y2 y3 y4 y5)) ∧ (∀ y0, LeO (gristmilllaw14_TagsKinds.j6 k y0) (gristmilllaw14_TagsKinds.j6 (k + 1) y0)) ∧ (∀ y0 y1 y2 y3 y4, LeO (gristmilllaw14_TagsKinds.j0 k y0 y1 y2 y3 y4) (gristmilllaw14_TagsKinds.j0 (k + 1) y0 y1 y2 y3 y4)) ∧ (∀ y0 y1 y2 y3 y4 y5, LeO (gristmilllaw14_TagsKinds.j1 k y0 y1 y2 y3 y4 y5) (gristmilllaw14_TagsKinds.j1 (k + 1) y0 y1 y2 y3 y4 y5)) ∧ (∀ y0 y1, LeO (gristmilllaw14_TagsKinds.j2 k y0 y1) (gristmilllaw14_TagsKinds.j2 (k + 1) y0 y1)) ∧ (∀ y0, LeO (gristmilllaw14_TagsKinds.j3 k y0) (gristmilllaw14_TagsKinds.j3 (k + 1) y0))
  | 0 => ⟨fun _ _ _ _ _ _ r h => by simp [gristmilllaw14_TagsKinds.j4] at h, fun _ _ _ _ _ _ r h => by simp [gristmilllaw14_TagsKinds.j5] at h, fun _ r h => by simp [gristmilllaw14_TagsKinds.j6] at h, fun _ _ _ _ _ r h => by simp [gristmilllaw14_TagsKinds.j0] at h, fun _ _ _ _ _ _ r h => by simp [gristmilllaw14_TagsKinds.j1] at h, fun _ _ r h => by simp [gristmilllaw14_TagsKinds.j2] at h, fun _ r h => by simp [gristmilllaw14_TagsKinds.j3] at h⟩
  | k + 1 => by
    obtain ⟨ih0, ih1, ih2, ih3, ih4, ih5, ih6⟩ := gristmilllaw14_TagsKinds.mono_l k
    refine ⟨?_, ?_, ?_, ?_, ?_, ?_, ?_⟩
    · intro y0 y1 y2 y3 y4 y5
      unfold gristmilllaw14_TagsKinds.j4
      repeat' first
      | (with_reducible exact ih0 _ _ _ _ _ _)
      | (with_reducible exact ih1 _ _ _ _ _ _)
      | (with_reducible exact ih2 _)
      | (with_reducible exact ih3 _ _ _ _ _)
      | (with_reducible exact ih4 _ _ _ _ _ _)
      | (with_reducible exact ih5 _ _)
      | (with_reducible exact ih6 _)
      | (with_reducible exact tag_Bare.mono _ _ _ _)
      | (with_reducible exact tag_Has.mono _ _ _ _ _)
      | (with_reducible exact tag_Less.mono _ _ _ _ _ _ _)
      | (with_reducible exact tag_Valid.mono _ _ _ _)
      | (with_reducible exact tag_Waits.mono _ _ _ _)
      | (with_reducible exact LeO.refl _)
      | (with_reducible exact LeO.none _)
      | (with_reducible refine LeO.ite ?_ ?_)
      | (with_reducible refine LeO.bind ?_ (fun _ => ?_))
      | exact ih0 _ _ _ _ _ _
      | exact ih1 _ _ _ _ _ _
      | exact ih2 _
      | exact ih3 _ _ _ _ _
      | exact ih4 _ _ _ _ _ _
      | exact ih5 _ _
      | exact ih6 _
      | exact tag_Bare.mono _ _ _ _
      | exact tag_Has.mono _ _ _ _ _
      | exact tag_Less.mono _ _ _ _ _ _ _
      | exact tag_Valid.mono _ _ _ _
      | exact tag_Waits.mono _ _ _ _
      | exact LeO.none _
      | refine LeO.ite ?_ ?_
      | refine LeO.bind ?_ (fun _ => ?_)
    · intro y0 y1 y2 y3 y4 y5
      unfold gristmilllaw14_TagsKinds.j5
      repeat' first
      | (with_reducible exact ih0 _ _ _ _ _ _)
      | (with_reducible exact ih1 _ _ _ _ _ _)
      | (with_reducible exact ih2 _)
      | (with_reducible exact ih3 _ _ _ _ _)
      | (with_reducible exact ih4 _ _ _ _ _ _)
      | (with_reducible exact ih5 _ _)
      | (with_reducible exact ih6 _)
      | (with_reducible exact tag_Bare.mono _ _ _ _)
      | (with_reducible exact tag_Has.mono _ _ _ _ _)
      | (with_reducible exact tag_Less.mono _ _ _ _ _ _ _)
      | (with_reducible exact tag_Valid.mono _ _ _ _)
      | (with_reducible exact tag_Waits.mono _ _ _ _)
      | (with_reducible exact LeO.refl _)
      | (with_reducible exact LeO.none _)
      | (with_reducible refine LeO.ite ?_ ?_)
      | (with_reducible refine LeO.bind ?_ (fun _ => ?_))
      | exact ih0 _ _ _ _ _ _
      | exact ih1 _ _ _ _ _ _
      | exact ih2 _
      | exact ih3 _ _ _ _ _
      | exact ih4 _ _ _ _ _ _
      | exact ih5 _ _
      | exact ih6 _
      | exact tag_Bare.mono _ _ _ _
      | exact tag_Has.mono _ _ _ _ _
      | exact tag_Less.mono _ _ _ _ _ _ _
      | exact tag_Valid.mono _ _ _ _
      | exact tag_Waits.mono _ _ _ _
      | exact LeO.none _
      | refine LeO.ite ?_ ?_
      | refine LeO.bind ?_ (fun _ => ?_)
    · intro y0
      unfold gristmilllaw14_TagsKinds.j6
      repeat' first
      | (with_reducible exact ih0 _ _ _ _ _ _)
      | (with_reducible exact ih1 _ _ _ _ _ _)
      | (with_reducible exact ih2 _)
      | (with_reducible exact ih3 _ _ _ _ _)
      | (with_reducible exact ih4 _ _ _ _ _ _)
      | (with_reducible exact ih5 _ _)
      | (with_reducible exact ih6 _)
      | (with_reducible exact tag_Bare.mono _ _ _ _)
      | (with_reducible exact tag_Has.mono _ _ _ _ _)
      | (with_reducible exact tag_Less.mono _ _ _ _ _ _ _)
      | (with_reducible exact tag_Valid.mono _ _ _ _)
      | (with_reducible exact tag_Waits.mono _ _ _ _)
      | (with_reducible exact LeO.refl _)
      | (with_reducible exact LeO.none _)
      | (with_reducible refine LeO.ite ?_ ?_)
      | (with_reducible refine LeO.bind ?_ (fun _ => ?_))
      | exact ih0 _ _ _ _ _ _
      | exact ih1 _ _ _ _ _ _
      | exact ih2 _
      | exact ih3 _ _ _ _ _
      | exact ih4 _ _ _ _ _ _
      | exact ih5 _ _
      | exact ih6 _
      | exact tag_Bare.mono _ _ _ _
      | exact tag_Has.mono _ _ _ _ _
      | exact tag_Less.mono _ _ _ _ _ _ _
      | exact tag_Valid.mono _ _ _ _
      | exact tag_Waits.mono _ _ _ _
      | exact LeO.none _
      | refine LeO.ite ?_ ?_
      | refine LeO.bind ?_ (fun _ => ?_)
    · intro y0 y1 y2 y3 y4
      unfold gristmilllaw14_TagsKinds.j0
      repeat' first
      | (with_reducible exact ih0 _ _ _ _ _ _)
      | (with_reducible exact ih1 _ _ _ _ _ _)
      | (with_reducible exact ih2 _)
      | (with_reducible exact ih3 _ _ _ _ _)
      | (with_reducible exact ih4 _ _ _ _ _ _)
      | (with_reducible exact ih5 _ _)
      | (with_reducible exact ih6 _)
      | (with_reducible exact tag_Bare.mono _ _ _ _)
      | (with_reducible exact tag_Has.mono _ _ _ _ _)
      | (with_reducible exact tag_Less.mono _ _ _ _ _ _ _)
      | (with_reducible exact tag_Valid.mono _ _ _ _)
      | (with_reducible exact tag_Waits.mono _ _ _ _)
      | (with_reducible exact LeO.refl _)
      | (with_reducible exact LeO.none _)
      | (with_reducible refine LeO.ite ?_ ?_)
      | (with_reducible refine LeO.bind ?_ (fun _ => ?_))
      | exact ih0 _ _ _ _ _ _
      | exact ih1 _ _ _ _ _ _
      | exact ih2 _
      | exact ih3 _ _ _ _ _
      | exact ih4 _ _ _ _ _ _
      | exact ih5 _ _
      | exact ih6 _
      | exact tag_Bare.mono _ _ _ _
      | exact tag_Has.mono _ _ _ _ _
      | exact tag_Less.mono _ _ _ _ _ _ _
      | exact tag_Valid.mono _ _ _ _
      | exact tag_Waits.mono _ _ _ _
      | exact LeO.none _
      | refine LeO.ite ?_ ?_
      | refine LeO.bind ?_ (fun _ => ?_)
    · intro y0 y1 y2 y3 y4 y5
      unfold gristmilllaw14_TagsKinds.j1
      repeat' first
      | (with_reducible exact ih0 _ _ _ _ _ _)
      | (with_reducible exact ih1 _ _ _ _ _ _)
      | (with_reducible exact ih2 _)
      | (with_reducible exact ih3 _ _ _ _ _)
      | (with_reducible exact ih4 _ _ _ _ _ _)
      | (with_reducible exact ih5 _ _)
      | (with_reducible exact ih6 _)
      | (with_reducible exact tag_Bare.mono _ _ _ _)
      | (with_reducible exact tag_Has.mono _ _ _ _ _)
      | (with_reducible exact tag_Less.mono _ _ _ _ _ _ _)
      | (with_reducible exact tag_Valid.mono _ _ _ _)
      | (with_reducible exact tag_Waits.mono _ _ _ _)
      | (with_reducible exact LeO.refl _)
      | (with_reducible exact LeO.none _)
      | (with_reducible refine LeO.ite ?_ ?_)
      | (with_reducible refine LeO.bind ?_ (fun _ => ?_))
      | exact ih0 _ _ _ _ _ _
      | exact ih1 _ _ _ _ _ _
      | exact ih2 _
      | exact ih3 _ _ _ _ _
      | exact ih4 _ _ _ _ _ _
      | exact ih5 _ _
      | exact ih6 _
      | exact tag_Bare.mono _ _ _ _
      | exact tag_Has.mono _ _ _ _ _
      | exact tag_Less.mono _ _ _ _ _ _ _
      | exact tag_Valid.mono _ _ _ _
      | exact tag_Waits.mono _ _ _ _
      | exact LeO.none _
      | refine LeO.ite ?_ ?_
      | refine LeO.bind ?_ (fun _ => ?_)
    · intro y0 y1
      unfold gristmilllaw14_TagsKinds.j2
      repeat' first
      | (with_reducible exact ih0 _ _ _ _ _ _)
      | (with_reducible exact ih1 _ _ _ _ _ _)
      | (with_reducible exact ih2 _)
      | (with_reducible exact ih3 _ _ _ _ _)
      | (with_reducible exact ih4 _ _ _ _ _ _)
      | (with_reducible exact ih5 _ _)
      | (with_reducible exact ih6 _)
      | (with_reducible exact tag_Bare.mono _ _ _ _)
      | (with_reducible exact tag_Has.mono _ _ _ _ _)
      | (with_reducible exact tag_Less.mono _ _ _ _ _ _ _)
      | (with_reducible exact tag_Valid.mono _ _ _ _)
      | (with_reducible exact tag_Waits.mono _ _ _ _)
      | (with_reducible exact LeO.refl _)
      | (with_reducible exact LeO.none _)
      | (with_reducible refine LeO.ite ?_ ?_)
      | (with_reducible refine LeO.bind ?_ (fun _ => ?_))
      | exact ih0 _ _ _ _ _ _
      | exact ih1 _ _ _ _ _ _
      | exact ih2 _
      | exact ih3 _ _ _ _ _
      | exact ih4 _ _ _ _ _ _
      | exact ih5 _ _
      | exact ih6 _
      | exact tag_Bare.mono _ _ _ _
      | exact tag_Has.mono _ _ _ _ _
      | exact tag_Less.mono _ _ _ _ _ _ _
      | exact tag_Valid.mono _ _ _ _
      | exact tag_Waits.mono _ _ _ _
      | exact LeO.none _
      | refine LeO.ite ?_ ?_
      | refine LeO.bind ?_ (fun _ => ?_)
    · intro y0
      unfold gristmilllaw14_TagsKinds.j3
      repeat' first
      | (with_reducible exact ih0 _ _ _ _ _ _)
      | (with_reducible exact ih1 _ _ _ _ _ _)
      | (with_reducible exact ih2 _)
      | (with_reducible exact ih3 _ _ _ _ _)
      | (with_reducible exact ih4 _ _ _ _ _ _)
      | (with_reducible exact ih5 _ _)
      | (with_reducible exact ih6 _)
      | (with_reducible exact tag_Bare.mono _ _ _ _)
      | (with_reducible exact tag_Has.mono _ _ _ _ _)
      | (with_reducible exact tag_Less.mono _ _ _ _ _ _ _)
      | (with_reducible exact tag_Valid.mono _ _ _ _)
      | (with_reducible exact tag_Waits.mono _ _ _ _)
      | (with_reducible exact LeO.refl _)
      | (with_reducible exact LeO.none _)
      | (with_reducible refine LeO.ite ?_ ?_)
      | (with_reducible refine LeO.bind ?_ (fun _ => ?_))
      | exact ih0 _ _ _ _ _ _
      | exact ih1 _ _ _ _ _ _
      | exact ih2 _
      | exact ih3 _ _ _ _ _
      | exact ih4 _ _ _ _ _ _
      | exact ih5 _ _
      | exact ih6 _
      | exact tag_Bare.mono _ _ _ _
      | exact tag_Has.mono _ _ _ _ _
      | exact tag_Less.mono _ _ _ _ _ _ _
      | exact tag_Valid.mono _ _ _ _
      | exact tag_Waits.mono _ _ _ _
      | exact LeO.none _
      | refine LeO.ite ?_ ?_
      | refine LeO.bind ?_ (fun _ => ?_)
theorem gristmilllaw14_TagsKinds.mono : ∀ a0 a1 a2 k, LeO (gristmilllaw14_TagsKinds.f k a0 a1 a2) (gristmilllaw14_TagsKinds.f (k + 1) a0 a1 a2) := by
  intro a0 a1 a2 k
  obtain ⟨ih0, ih1, ih2, ih3, ih4, ih5, ih6⟩ := gristmilllaw14_TagsKinds.mono_l k
  unfold gristmilllaw14_TagsKinds.f
  repeat' first
      | (with_reducible exact ih0 _ _ _ _ _ _)
      | (with_reducible exact ih1 _ _ _ _ _ _)
      | (with_reducible exact ih2 _)
      | (with_reducible exact ih3 _ _ _ _ _)
      | (with_reducible exact ih4 _ _ _ _ _ _)
      | (with_reducible exact ih5 _ _)
      | (with_reducible exact ih6 _)
      | (with_reducible exact tag_Bare.mono _ _ _ _)
      | (with_reducible exact tag_Has.mono _ _ _ _ _)
      | (with_reducible exact tag_Less.mono _ _ _ _ _ _ _)
      | (with_reducible exact tag_Valid.mono _ _ _ _)
      | (with_reducible exact tag_Waits.mono _ _ _ _)
      | (with_reducible exact LeO.refl _)
      | (with_reducible exact LeO.none _)
      | (with_reducible refine LeO.ite ?_ ?_)
      | (with_reducible refine LeO.bind ?_ (fun _ => ?_))
      | exact ih0 _ _ _ _ _ _
      | exact ih1 _ _ _ _ _ _
      | exact ih2 _
      | exact ih3 _ _ _ _ _
      | exact ih4 _ _ _ _ _ _
      | exact ih5 _ _
      | exact ih6 _
      | exact tag_Bare.mono _ _ _ _
      | exact tag_Has.mono _ _ _ _ _
      | exact tag_Less.mono _ _ _ _ _ _ _
      | exact tag_Valid.mono _ _ _ _
      | exact tag_Waits.mono _ _ _ _
      | exact LeO.none _
      | refine LeO.ite ?_ ?_
      | refine LeO.bind ?_ (fun _ => ?_)
set_option maxHeartbeats 8000000 in
set_option maxRecDepth 100000 in
theorem gristmilllaw14_TagsKinds.calls (k : Nat) (a0 : Int) (a1 : Int) (a2 : ByteArray) (r : Bool) (w : World) (h : gristmilllaw14_TagsKinds.f k a0 a1 a2 = some r) :
    Calls Tryd.prog 5 #[.int .i64 a0, .int .i64 a1, .string a2] w fun e w' => e = .returned (.bool r) ∧ Below w.heap.size w w' := by
  have hu23 := Tryd.underlying23
  have HB := Aside0.mk (Below.refl w.heap.size w)
  have H : ((gristmilllaw14_first.f).bind fun t130 => (if t130 = true then (if (a2.size : Int) > 60 then (some t130) else ((tag_Valid.f k a0 a2 a1).bind fun t132 => (if t132 = true then (if a0 = 2 then (gristmilllaw14_TagsKinds.j4 k a0 t130 true a0 a2 a1) else (gristmilllaw14_TagsKinds.j4 k a0 t130 (a0 == 4) a0 a2 a1)) else (if a0 ≥ 1 then (gristmilllaw14_TagsKinds.j0 k a0 a1 a2 t130 (decide (a0 ≤ 3))) else (gristmilllaw14_TagsKinds.j0 k a0 a1 a2 t130 false))))) else (some false))) = some r := h
  clear h
  replace H := Option.bind_eq_some_iff.mp H
  obtain ⟨t130, A40, H⟩ := H
  replace H : (if t130 = true then (if (a2.size : Int) > 60 then (some t130) else ((tag_Valid.f k a0 a2 a1).bind fun t132 => (if t132 = true then (if a0 = 2 then (gristmilllaw14_TagsKinds.j4 k a0 t130 true a0 a2 a1) else (gristmilllaw14_TagsKinds.j4 k a0 t130 (a0 == 4) a0 a2 a1)) else (if a0 ≥ 1 then (gristmilllaw14_TagsKinds.j0 k a0 a1 a2 t130 (decide (a0 ≤ 3))) else (gristmilllaw14_TagsKinds.j0 k a0 a1 a2 t130 false))))) else (some false)) = some r := H
  have A4 := Aside0.mk A40
  clear A40
  by_cases c5 : t130 = true
  · subst c5
    have H1 : (if (a2.size : Int) > 60 then (some true) else ((tag_Valid.f k a0 a2 a1).bind fun t132 => (if t132 = true then (if a0 = 2 then (gristmilllaw14_TagsKinds.j4 k a0 true true a0 a2 a1) else (gristmilllaw14_TagsKinds.j4 k a0 true (a0 == 4) a0 a2 a1)) else (if a0 ≥ 1 then (gristmilllaw14_TagsKinds.j0 k a0 a1 a2 true (decide (a0 ≤ 3))) else (gristmilllaw14_TagsKinds.j0 k a0 a1 a2 true false))))) = some r := by rw [if_pos rfl] at H; exact H
    clear H
    have H := H1
    clear H1
    by_cases c6 : (a2.size : Int) > 60
    · rw [if_pos c6] at H
      have c6b0 : decide (60 < (a2.size : Int)) = true := decide_eq_true c6
      have c6b1 : decide (60 < a2.size) = true := decide_eq_true (by omega)
      clear c6
      obtain rfl := Option.some.inj H
      go_enter Tryd.func5, Tryd.ntmps5
      go_wp2_with (first | ((with_reducible refine gate_callee (f := 7) rfl ?_); refine goesL_ (some 14) rfl rfl Tryd.func7 (by kernel_rfl) rfl #[] rfl (by (try simp only [List.map_toArray, List.map_cons, List.map_nil]); first | done | rfl | (simp only [List.length_drop, List.length_take]; rfl)) ?_; (with_reducible refine (gristmilllaw14_first.calls  true _ A4.out).mono ?_); rintro e w7 ⟨rfl, hb⟩; refine ⟨_, rfl, ?_⟩; have n0_ := Aside0.mk (below_step (by repeat (first | (with_reducible first | exact HB.out | apply below_alloc | apply pw_below_drewN | apply below_drew1) | exact HB.out)) hb); clear HB; have HB := n0_; clear n0_; (try clear hb); (try clear hb2); (try clear hk); (try clear hi)))
      go_ret
      exact ⟨by first | rfl | (simp [errW_none, errW_some] <;> rfl) | (simp [*, errW_none, errW_some] <;> rfl) | (simp [errW_none, errW_some] <;> (rw [Bool.eq_iff_iff]; simp; done)), by repeat (first | (with_reducible first | exact HB.out | apply below_alloc | apply pw_below_drewN | apply below_drew1) | exact HB.out)⟩
    · rw [if_neg c6] at H
      have c6b0 : decide (60 < (a2.size : Int)) = false := decide_eq_false c6
      have c6b1 : decide (60 < a2.size) = false := decide_eq_false (by omega)
      clear c6
      replace H := Option.bind_eq_some_iff.mp H
      obtain ⟨t132, A80, H⟩ := H
      replace H : (if t132 = true then (if a0 = 2 then (gristmilllaw14_TagsKinds.j4 k a0 true true a0 a2 a1) else (gristmilllaw14_TagsKinds.j4 k a0 true (a0 == 4) a0 a2 a1)) else (if a0 ≥ 1 then (gristmilllaw14_TagsKinds.j0 k a0 a1 a2 true (decide (a0 ≤ 3))) else (gristmilllaw14_TagsKinds.j0 k a0 a1 a2 true false))) = some r := H
      have A8 := Aside0.mk A80
      clear A80
      by_cases c9 : t132 = true
      · subst c9
        have H1 : (if a0 = 2 then (gristmilllaw14_TagsKinds.j4 k a0 true true a0 a2 a1) else (gristmilllaw14_TagsKinds.j4 k a0 true (a0 == 4) a0 a2 a1)) = some r := by rw [if_pos rfl] at H; exact H
        clear H
        have H := H1
        clear H1
        have HC10 := Aside0.mk H
        clear H
        go_enter Tryd.func5, Tryd.ntmps5
        go_upto_region 12 with (first | ((with_reducible refine gate_callee (f := 7) rfl ?_); refine goesL_ (some 14) rfl rfl Tryd.func7 (by kernel_rfl) rfl #[] rfl (by (try simp only [List.map_toArray, List.map_cons, List.map_nil]); first | done | rfl | (simp only [List.length_drop, List.length_take]; rfl)) ?_; (with_reducible refine (gristmilllaw14_first.calls  true _ A4.out).mono ?_); rintro e w11 ⟨rfl, hb⟩; refine ⟨_, rfl, ?_⟩; have n0_ := Aside0.mk (below_step (by repeat (first | (with_reducible first | exact HB.out | apply below_alloc | apply pw_below_drewN | apply below_drew1) | exact HB.out)) hb); clear HB; have HB := n0_; clear n0_; (try clear hb); (try clear hb2); (try clear hk); (try clear hi)) | ((with_reducible refine gate_dst (N := 8) rfl ?_); (try (refine gate_guard (by rfl) ?_; dsimp only)); refine box_event ?hg (N := 8) ?hd (cs := #[.int .i64 0, .string (⟨#[]⟩ : ByteArray), .int .i64 0]) (t := 23) ?hr ?_; (case hd => rfl); (case hg => rfl); (case hr => first | (go_simp; done) | (go_simp; rfl)); intro gb131 hg w12 hbox hb; have n0_ := Aside0.mk (below_step (by repeat (first | (with_reducible first | exact HB.out | apply below_alloc | apply pw_below_drewN | apply below_drew1) | exact HB.out)) hb); have n1_ := Aside0.mk (hbox); have n2_ := Aside0.mk ((by rw [hg]; exact (below_size (by repeat (first | (with_reducible first | exact HB.out | apply below_alloc | apply pw_below_drewN | apply below_drew1) | exact HB.out))) : w.heap.size ≤ gb131)); have n3_ := Aside0.mk ((by rw [hg]; exact (below_size (by repeat (first | (with_reducible first | exact HB.out | apply below_alloc | apply pw_below_drewN | apply below_drew1) | exact HB.out))) : w.heap.size ≤ gb131)); clear HB; have HB := n0_; have BK131 := n1_; have GW131 := n2_; have GE131 := n3_; clear n0_ n1_ n2_ n3_; clear hb hbox hg; have hcz13_0 : w12.cell? ⟨gb131, 0, none⟩ = some (.int .i64 0) := (blk_cell BK131.out 0).trans rfl; have hcz13_1 : w12.cell? ⟨gb131, 1, none⟩ = some (.string (⟨#[]⟩ : ByteArray)) := (blk_cell BK131.out 1).trans rfl; have hcz13_2 : w12.cell? ⟨gb131, 2, none⟩ = some (.int .i64 0) := (blk_cell BK131.out 2).trans rfl; have hfz13_0 := blk_frozen BK131.out 0; have hfz13_1 := blk_frozen BK131.out 1; have hfz13_2 := blk_frozen BK131.out 2) | ((with_reducible refine gate_callee (f := 9) rfl ?_); refine goesL_ (some 26) rfl rfl Tryd.func9 (by kernel_rfl) rfl #[.agg #[.int .i64 a0, .string a2, .int .i64 a1]] rfl (by (try simp only [List.map_toArray, List.map_cons, List.map_nil]); first | done | rfl | (simp only [List.length_drop, List.length_take]; rfl)) ?_; (with_reducible refine (tag_Valid.calls k a0 a2 a1 true _ A8.out).mono ?_); rintro e w14 ⟨rfl, hb⟩; refine ⟨_, rfl, ?_⟩; have n0_ := Aside0.mk (blk_below (g := gb131) (o := .cells #[.int .i64 a0, .string a2, .int .i64 a1] 23 (0, 0)) (by (with_reducible repeat (first | refine blk_drewN ?_ _ | refine blk_drew ?_ | refine blk_alloc ?_ _)); refine blk_put (cs := #[.int .i64 a0, .string a2, .int .i64 0]) ?_ 2 _ rfl; (with_reducible repeat (first | refine blk_drewN ?_ _ | refine blk_drew ?_ | refine blk_alloc ?_ _)); refine blk_put (cs := #[.int .i64 a0, .string (⟨#[]⟩ : ByteArray), .int .i64 0]) ?_ 1 _ rfl; (with_reducible repeat (first | refine blk_drewN ?_ _ | refine blk_drew ?_ | refine blk_alloc ?_ _)); refine blk_put (cs := #[.int .i64 0, .string (⟨#[]⟩ : ByteArray), .int .i64 0]) ?_ 0 _ rfl; (with_reducible repeat (first | refine blk_drewN ?_ _ | refine blk_drew ?_ | refine blk_alloc ?_ _)); exact BK131.out) hb); have n1_ := Aside0.mk (below_step (by repeat (first | (with_reducible first | exact HB.out | apply below_alloc | apply pw_below_drewN | apply below_drew1 | refine below_set ?_ GE131.out) | exact HB.out)) hb); clear BK131; clear HB; have BK131 := n0_; have HB := n1_; clear n0_ n1_; (try clear hb); (try clear hb2); (try clear hk); (try clear hi)))
        (try simp only [Act.put, List.setIfInBounds_toArray, List.set_cons_zero, List.set_cons_succ])
        go_cut [12] (fun v12 wc => ∃ (kq : Nat) (x12_9 : Bool), v12 = .bool x12_9 ∧ Aside0 (gristmilllaw14_TagsKinds.j4 kq a0 true x12_9 a0 a2 a1 = some r) ∧ Aside0 (kq ≤ k) ∧ Aside0 (wc.heap[gb131]? = some (.cells #[.int .i64 a0, .string a2, .int .i64 a1] 23 (0, 0))) ∧ Aside0 (Below w.heap.size w wc))
        case first => as_aux_lemma =>
          have H := HC10.out
          clear HC10
          by_cases c15 : a0 = 2
          · rw [if_pos c15] at H
            have c15b0 : (a0 == 2) = true := beq_iff_eq.mpr c15
            have c15b1 : (a0 != 2) = false := bne_eq_false_iff_eq.mpr c15
            clear c15
            (first | rw [c15b0] | (simp only [i64_w, i32_w]; rw [c15b0]) | skip)
            have H' := Aside0.mk H
            clear H
            go_wp2
            go_meet
            case rel => exact ⟨_, (true), (by first | rfl | (simp; done) | (simp [*]; done)), H', ⟨by first | omega | exact Nat.le_refl _⟩, ⟨by (with_reducible repeat (first | refine blk_drewN ?_ _ | refine blk_drew ?_ | refine blk_alloc ?_ _)); exact BK131.out⟩, ⟨by repeat (first | (with_reducible first | exact HB.out | apply below_alloc | apply pw_below_drewN | apply below_drew1 | refine below_set ?_ GE131.out) | exact HB.out)⟩⟩
          · rw [if_neg c15] at H
            have c15b0 : (a0 == 2) = false := beq_eq_false_iff_ne.mpr c15
            have c15b1 : (a0 != 2) = true := bne_iff_ne.mpr c15
            (first | rw [c15b0] | (simp only [i64_w, i32_w]; rw [c15b0]) | skip)
            have H' := Aside0.mk H
            clear H
            go_wp2
            go_meet
            case rel => exact ⟨_, ((a0 == 4)), (by first | rfl | (simp; done) | (simp [*]; done)), H', ⟨by first | omega | exact Nat.le_refl _⟩, ⟨by (with_reducible repeat (first | refine blk_drewN ?_ _ | refine blk_drew ?_ | refine blk_alloc ?_ _)); exact BK131.out⟩, ⟨by repeat (first | (with_reducible first | exact HB.out | apply below_alloc | apply pw_below_drewN | apply below_drew1 | refine below_set ?_ GE131.out) | exact HB.out)⟩⟩
        case rest =>
          clear HC10
          try clear c1
          try clear p2
          try clear c5
          try clear c6
          try clear c6b0
          try clear c6b1
          try clear c7
          try clear c9
          try clear c15
          try clear c15b0
          try clear c15b1
          try clear hcz13_0
          try clear hcz13_1
          try clear hcz13_2
          try clear hfz13_0
          try clear hfz13_1
          try clear hfz13_2
          obtain ⟨kq, x12_9, rfl, HA, HJ9, BK131, HB⟩ := hcut
          cases kq with
          | zero => exact absurd HA.out (by simp [gristmilllaw14_TagsKinds.j4])
          | succ kj9 =>
            have H := HA.out
            clear HA
            simp only [gristmilllaw14_TagsKinds.j4] at H
            have HC16 := Aside0.mk H
            clear H
            go_upto_region 13 with (fail)
            go_cut [13] (fun v13 wc => ∃ (kq : Nat) (x13_15 : Bool), v13 = .bool x13_15 ∧ Aside0 (gristmilllaw14_TagsKinds.j5 kq true x12_9 x13_15 a0 a2 a1 = some r) ∧ Aside0 (kq ≤ kj9) ∧ Aside0 (wc.heap[gb131]? = some (.cells #[.int .i64 a0, .string a2, .int .i64 a1] 23 (0, 0))) ∧ Aside0 (Below w.heap.size w wc))
            case first => as_aux_lemma =>
              have H := HC16.out
              clear HC16
              by_cases c17 : a0 = 5
              · rw [if_pos c17] at H
                have c17b0 : (a0 == 5) = true := beq_iff_eq.mpr c17
                have c17b1 : (a0 != 5) = false := bne_eq_false_iff_eq.mpr c17
                clear c17
                (first | rw [c17b0] | (simp only [i64_w, i32_w]; rw [c17b0]) | skip)
                have H' := Aside0.mk H
                clear H
                go_wp2
                go_meet
                case rel => exact ⟨_, (true), (by first | rfl | (simp; done) | (simp [*]; done)), H', ⟨by have := HJ9.out; first | omega | exact Nat.le_refl _⟩, ⟨by (with_reducible repeat (first | refine blk_drewN ?_ _ | refine blk_drew ?_ | refine blk_alloc ?_ _)); exact BK131.out⟩, ⟨by repeat (first | (with_reducible first | exact HB.out | apply below_alloc | apply pw_below_drewN | apply below_drew1 | refine below_set ?_ GE131.out) | exact HB.out)⟩⟩
              · rw [if_neg c17] at H
                have c17b0 : (a0 == 5) = false := beq_eq_false_iff_ne.mpr c17
                have c17b1 : (a0 != 5) = true := bne_iff_ne.mpr c17
                (first | rw [c17b0] | (simp only [i64_w, i32_w]; rw [c17b0]) | skip)
                have H' := Aside0.mk H
                clear H
                go_wp2
                go_meet
                case rel => exact ⟨_, ((a0 == 6)), (by first | rfl | (simp; done) | (simp [*]; done)), H', ⟨by have := HJ9.out; first | omega | exact Nat.le_refl _⟩, ⟨by (with_reducible repeat (first | refine blk_drewN ?_ _ | refine blk_drew ?_ | refine blk_alloc ?_ _)); exact BK131.out⟩, ⟨by repeat (first | (with_reducible first | exact HB.out | apply below_alloc | apply pw_below_drewN | apply below_drew1 | refine below_set ?_ GE131.out) | exact HB.out)⟩⟩
            case rest =>
              clear HC16
              try clear c1
              try clear p2
              try clear c5
              try clear c6
              try clear c6b0
              try clear c6b1
              try clear c7
              try clear c9
              try clear c15
              try clear c15b0
              try clear c15b1
              try clear c17
              try clear c17b0
              try clear c17b1
              try clear hcz13_0
              try clear hcz13_1
              try clear hcz13_2
              try clear hfz13_0
              try clear hfz13_1
              try clear hfz13_2
              try clear p2
              obtain ⟨kq, x13_15, rfl, HA, HJ15, BK131, HB⟩ := hcut
              cases kq with
              | zero => exact absurd HA.out (by simp [gristmilllaw14_TagsKinds.j5])
              | succ kj15 =>
                have H := HA.out
                clear HA
                simp only [gristmilllaw14_TagsKinds.j5] at H
                have HC18 := Aside0.mk H
                clear H
                go_upto_region 14 with (fail)
                go_cut [6] (fun v6 wc => ∃ (kq : Nat) (x6_17 : Bool), v6 = .bool x6_17 ∧ Aside0 (gristmilllaw14_TagsKinds.j6 kq x6_17 = some r) ∧ Aside0 (kq ≤ kj15) ∧ Aside0 (wc.heap[gb131]? = some (.cells #[.int .i64 a0, .string a2, .int .i64 a1] 23 (0, 0))) ∧ Aside0 (Below w.heap.size w wc))
                case first => as_aux_lemma =>
                  have H := HC18.out
                  clear HC18
                  have H1 : ((tag_Waits.f kj15 a0 a2 a1).bind fun t133 => (if (t133 == x12_9) = true then ((tag_Bare.f kj15 a0 a2 a1).bind fun t134 => (if (t134 == x13_15) = true then ((tag_Text.f a0 a2 a1).bind fun t135 => (if (t135.size : Int) ≥ 3 then ((tag_Has.f kj15 (([(⟨a0, a2, a1⟩ : S23)] : List (S23))) a0 a2 a1).bind fun t139 => (if t139 = true then ((tag_Less.f kj15 a0 a2 a1 a0 a2 a1).bind fun t140 => (gristmilllaw14_TagsKinds.j6 kj15 (!t140))) else (gristmilllaw14_TagsKinds.j6 kj15 false))) else (gristmilllaw14_TagsKinds.j6 kj15 false))) else (gristmilllaw14_TagsKinds.j6 kj15 false))) else (gristmilllaw14_TagsKinds.j6 kj15 false))) = some r := by first | exact H | (rw [if_pos rfl] at H; exact H)
                  clear H
                  have H := H1
                  clear H1
                  replace H := Option.bind_eq_some_iff.mp H
                  obtain ⟨t133, A190, H⟩ := H
                  replace H : (if (t133 == x12_9) = true then ((tag_Bare.f kj15 a0 a2 a1).bind fun t134 => (if (t134 == x13_15) = true then ((tag_Text.f a0 a2 a1).bind fun t135 => (if (t135.size : Int) ≥ 3 then ((tag_Has.f kj15 (([(⟨a0, a2, a1⟩ : S23)] : List (S23))) a0 a2 a1).bind fun t139 => (if t139 = true then ((tag_Less.f kj15 a0 a2 a1 a0 a2 a1).bind fun t140 => (gristmilllaw14_TagsKinds.j6 kj15 (!t140))) else (gristmilllaw14_TagsKinds.j6 kj15 false))) else (gristmilllaw14_TagsKinds.j6 kj15 false))) else (gristmilllaw14_TagsKinds.j6 kj15 false))) else (gristmilllaw14_TagsKinds.j6 kj15 false)) = some r := H
                  have A19 := Aside0.mk A190
                  clear A190
                  by_cases c20 : (t133 == x12_9) = true
                  · rw [if_pos c20] at H
                    have c20b0 : (t133 == x12_9) = true := c20
                    (try (have c20b1 : decide (t133 = x12_9) = true := by simpa using c20))
                    (try (have c20b2 : (t133 == x12_9) = true := by simpa using c20))
                    clear c20
                    (first | rw [c20b0] | (simp only [i64_w, i32_w]; rw [c20b0]) | skip)
                    replace H := Option.bind_eq_some_iff.mp H
                    obtain ⟨t134, A210, H⟩ := H
                    replace H : (if (t134 == x13_15) = true then ((tag_Text.f a0 a2 a1).bind fun t135 => (if (t135.size : Int) ≥ 3 then ((tag_Has.f kj15 (([(⟨a0, a2, a1⟩ : S23)] : List (S23))) a0 a2 a1).bind fun t139 => (if t139 = true then ((tag_Less.f kj15 a0 a2 a1 a0 a2 a1).bind fun t140 => (gristmilllaw14_TagsKinds.j6 kj15 (!t140))) else (gristmilllaw14_TagsKinds.j6 kj15 false))) else (gristmilllaw14_TagsKinds.j6 kj15 false))) else (gristmilllaw14_TagsKinds.j6 kj15 false)) = some r := H
                    have A21 := Aside0.mk A210
                    clear A210
                    by_cases c22 : (t134 == x13_15) = true
                    · rw [if_pos c22] at H
                      have c22b0 : (t134 == x13_15) = true := c22
                      (try (have c22b1 : decide (t134 = x13_15) = true := by simpa using c22))
                      (try (have c22b2 : (t134 == x13_15) = true := by simpa using c22))
                      clear c22
                      replace H := Option.bind_eq_some_iff.mp H
                      obtain ⟨t135, A230, H⟩ := H
                      replace H : (if (t135.size : Int) ≥ 3 then ((tag_Has.f kj15 (([(⟨a0, a2, a1⟩ : S23)] : List (S23))) a0 a2 a1).bind fun t139 => (if t139 = true then ((tag_Less.f kj15 a0 a2 a1 a0 a2 a1).bind fun t140 => (gristmilllaw14_TagsKinds.j6 kj15 (!t140))) else (gristmilllaw14_TagsKinds.j6 kj15 false))) else (gristmilllaw14_TagsKinds.j6 kj15 false)) = some r := H
                      have A23 := Aside0.mk A230
                      clear A230
                      by_cases c24 : (t135.size : Int) ≥ 3
                      · rw [if_pos c24] at H
                        have c24b0 : decide (3 ≤ (t135.size : Int)) = true := decide_eq_true c24
                        have c24b1 : decide (3 ≤ t135.size) = true := decide_eq_true (by omega)
                        clear c24
                        obtain ⟨y136, hy136⟩ : ∃ y_ : List (S23), y_ = (([(⟨a0, a2, a1⟩ : S23)] : List (S23))) := ⟨_, rfl⟩
                        replace H : ((tag_Has.f kj15 y136 a0 a2 a1).bind fun t139 => (if t139 = true then ((tag_Less.f kj15 a0 a2 a1 a0 a2 a1).bind fun t140 => (gristmilllaw14_TagsKinds.j6 kj15 (!t140))) else (gristmilllaw14_TagsKinds.j6 kj15 false))) = some r := by first | (rw [hy136]; with_reducible exact H) | (have H2_ := (Option.bind_some _ _).symm.trans H; rw [hy136]; with_reducible exact H2_) | (have H2_ := (Option.bind_some _ _).symm.trans H; with_reducible exact H2_) | with_reducible exact H | (rw [hy136]; exact H) | exact H
                        have Ny136 := Aside0.mk hy136
                        clear hy136
                        replace H := Option.bind_eq_some_iff.mp H
                        obtain ⟨t139, A250, H⟩ := H
                        replace H : (if t139 = true then ((tag_Less.f kj15 a0 a2 a1 a0 a2 a1).bind fun t140 => (gristmilllaw14_TagsKinds.j6 kj15 (!t140))) else (gristmilllaw14_TagsKinds.j6 kj15 false)) = some r := H
                        have A25 := Aside0.mk A250
                        clear A250
                        by_cases c26 : t139 = true
                        · subst c26
                          have H1 : ((tag_Less.f kj15 a0 a2 a1 a0 a2 a1).bind fun t140 => (gristmilllaw14_TagsKinds.j6 kj15 (!t140))) = some r := by rw [if_pos rfl] at H; exact H
                          clear H
                          have H := H1
                          clear H1
                          replace H := Option.bind_eq_some_iff.mp H
                          obtain ⟨t140, A270, H⟩ := H
                          replace H : (gristmilllaw14_TagsKinds.j6 kj15 (!t140)) = some r := H
                          have A27 := Aside0.mk A270
                          clear A270
                          have H' := Aside0.mk H
                          clear H
                          have hcz28_0 : wc.cell? ⟨gb131, 0, none⟩ = some (.int .i64 a0) := (blk_cell BK131.out 0).trans rfl
                          have hcz28_1 : wc.cell? ⟨gb131, 1, none⟩ = some (.string a2) := (blk_cell BK131.out 1).trans rfl
                          have hcz28_2 : wc.cell? ⟨gb131, 2, none⟩ = some (.int .i64 a1) := (blk_cell BK131.out 2).trans rfl
                          have hfz28_0 := blk_frozen BK131.out 0
                          have hfz28_1 := blk_frozen BK131.out 1
                          have hfz28_2 := blk_frozen BK131.out 2
                          go_wp2_with (first | (go_at_call 17; (with_reducible refine (tag_Waits.calls kj15 a0 a2 a1 t133 _ A19.out).mono ?_); rintro e w29 ⟨rfl, hb⟩; have n0_ := Aside0.mk (blk_below (g := gb131) (o := .cells #[.int .i64 a0, .string a2, .int .i64 a1] 23 (0, 0)) (by (with_reducible repeat (first | refine blk_drewN ?_ _ | refine blk_drew ?_ | refine blk_alloc ?_ _)); exact BK131.out) hb); have n1_ := Aside0.mk (below_step (by repeat (first | (with_reducible first | exact HB.out | apply below_alloc | apply pw_below_drewN | apply below_drew1 | refine below_set ?_ GE131.out) | exact HB.out)) hb); clear BK131; clear HB; have BK131 := n0_; have HB := n1_; clear n0_ n1_; (try clear hb); (try clear hb2); (try clear hk); (try clear hi); have hcz30_0 : w29.cell? ⟨gb131, 0, none⟩ = some (.int .i64 a0) := (blk_cell BK131.out 0).trans rfl; have hcz30_1 : w29.cell? ⟨gb131, 1, none⟩ = some (.string a2) := (blk_cell BK131.out 1).trans rfl; have hcz30_2 : w29.cell? ⟨gb131, 2, none⟩ = some (.int .i64 a1) := (blk_cell BK131.out 2).trans rfl; have hfz30_0 := blk_frozen BK131.out 0; have hfz30_1 := blk_frozen BK131.out 1; have hfz30_2 := blk_frozen BK131.out 2) | (go_at_call 19; (with_reducible refine (tag_Bare.calls kj15 a0 a2 a1 t134 _ A21.out).mono ?_); rintro e w31 ⟨rfl, hb⟩; have n0_ := Aside0.mk (blk_below (g := gb131) (o := .cells #[.int .i64 a0, .string a2, .int .i64 a1] 23 (0, 0)) (by (with_reducible repeat (first | refine blk_drewN ?_ _ | refine blk_drew ?_ | refine blk_alloc ?_ _)); exact BK131.out) hb); have n1_ := Aside0.mk (below_step (by repeat (first | (with_reducible first | exact HB.out | apply below_alloc | apply pw_below_drewN | apply below_drew1 | refine below_set ?_ GE131.out) | exact HB.out)) hb); clear BK131; clear HB; have BK131 := n0_; have HB := n1_; clear n0_ n1_; (try clear hb); (try clear hb2); (try clear hk); (try clear hi); have hcz32_0 : w31.cell? ⟨gb131, 0, none⟩ = some (.int .i64 a0) := (blk_cell BK131.out 0).trans rfl; have hcz32_1 : w31.cell? ⟨gb131, 1, none⟩ = some (.string a2) := (blk_cell BK131.out 1).trans rfl; have hcz32_2 : w31.cell? ⟨gb131, 2, none⟩ = some (.int .i64 a1) := (blk_cell BK131.out 2).trans rfl; have hfz32_0 := blk_frozen BK131.out 0; have hfz32_1 := blk_frozen BK131.out 1; have hfz32_2 := blk_frozen BK131.out 2) | (go_at_call 21; (with_reducible refine (tag_Text.calls a0 a2 a1 t135 _ A23.out).mono ?_); rintro e w33 ⟨rfl, hb⟩; have n0_ := Aside0.mk (blk_below (g := gb131) (o := .cells #[.int .i64 a0, .string a2, .int .i64 a1] 23 (0, 0)) (by (with_reducible repeat (first | refine blk_drewN ?_ _ | refine blk_drew ?_ | refine blk_alloc ?_ _)); exact BK131.out) hb); have n1_ := Aside0.mk (below_step (by repeat (first | (with_reducible first | exact HB.out | apply below_alloc | apply pw_below_drewN | apply below_drew1 | refine below_set ?_ GE131.out) | exact HB.out)) hb); clear BK131; clear HB; have BK131 := n0_; have HB := n1_; clear n0_ n1_; (try clear hb); (try clear hb2); (try clear hk); (try clear hi); have hcz34_0 : w33.cell? ⟨gb131, 0, none⟩ = some (.int .i64 a0) := (blk_cell BK131.out 0).trans rfl; have hcz34_1 : w33.cell? ⟨gb131, 1, none⟩ = some (.string a2) := (blk_cell BK131.out 1).trans rfl; have hcz34_2 : w33.cell? ⟨gb131, 2, none⟩ = some (.int .i64 a1) := (blk_cell BK131.out 2).trans rfl; have hfz34_0 := blk_frozen BK131.out 0; have hfz34_1 := blk_frozen BK131.out 1; have hfz34_2 := blk_frozen BK131.out 2) | ((with_reducible refine gate_dst (N := 131) rfl ?_); (try (refine gate_guard (by rfl) ?_; dsimp only)); refine Kd.R_lit k23 _ 23 ?hg (N := 131) ?hd (xs := ([(⟨a0, a2, a1⟩ : S23)] : List (S23))) (inner := [.int .i64 a0, .string a2, .int .i64 a1]) (ok := fun _ => True) (okp := fun _ => True) ?hr ?hp (fun _ hk => hk) trivial (Below.refl _ _) (Nat.le_refl _) (by simp) ?_; (case hd => rfl); (case hg => rfl); (case hr => first | (go_simp; done) | (go_simp; rfl)); (case hp => exact (Reps.c3 (show Kd.M k23 _ _ _ (⟨a0, a2, a1⟩ : S23) [.int .i64 a0, .string a2, .int .i64 a1] from (k23_mkM _ _ _ (⟨a0, a2, a1⟩ : S23) )) (Reps.none _ _))); intro v137 w35 ho36 hb hg_ hnew_; clear hg_ hnew_; (first | rw [← Ny136.out] at ho36 | (simp only [Int.reduceToNat] at ho36; rw [← Ny136.out] at ho36)); have n0_ := Aside0.mk (Kd.R_lower (Kd.R_newB ho36 (g := gb131) (o := .cells #[.int .i64 a0, .string a2, .int .i64 a1] 23 (0, 0)) (by (with_reducible repeat (first | refine blk_drewN ?_ _ | refine blk_drew ?_ | refine blk_alloc ?_ _)); exact BK131.out)) (below_size (by repeat (first | (with_reducible first | exact HB.out | apply below_alloc | apply pw_below_drewN | apply below_drew1 | refine below_set ?_ GE131.out) | exact HB.out)))); have n1_ := Aside0.mk (blk_below (g := gb131) (o := .cells #[.int .i64 a0, .string a2, .int .i64 a1] 23 (0, 0)) (by (with_reducible repeat (first | refine blk_drewN ?_ _ | refine blk_drew ?_ | refine blk_alloc ?_ _)); exact BK131.out) hb); have n2_ := Aside0.mk (below_step (by repeat (first | (with_reducible first | exact HB.out | apply below_alloc | apply pw_below_drewN | apply below_drew1 | refine below_set ?_ GE131.out) | exact HB.out)) hb); clear BK131; clear HB; have HO138 := n0_; have BK131 := n1_; have HB := n2_; clear n0_ n1_ n2_; clear hb ho36; have hcz37_0 : w35.cell? ⟨gb131, 0, none⟩ = some (.int .i64 a0) := (blk_cell BK131.out 0).trans rfl; have hcz37_1 : w35.cell? ⟨gb131, 1, none⟩ = some (.string a2) := (blk_cell BK131.out 1).trans rfl; have hcz37_2 : w35.cell? ⟨gb131, 2, none⟩ = some (.int .i64 a1) := (blk_cell BK131.out 2).trans rfl; have hfz37_0 := blk_frozen BK131.out 0; have hfz37_1 := blk_frozen BK131.out 1; have hfz37_2 := blk_frozen BK131.out 2; obtain ⟨Ao38, co38, eo38⟩ := Kd.R_slice HO138.out; subst eo38) | (go_at_call 15; (with_reducible refine (tag_Has.calls kj15 _ _ y136 a0 a2 a1 true _ ?side1 ?side2 A25.out).mono ?_); (case side1 => repeat (first | exact (Kd.R_reads' HO138.out).2.2 | (with_reducible refine Kd.C_alloc ?_ _) | (with_reducible refine Kd.C_drewN ?_ _) | (with_reducible refine Kd.C_drew ?_))); (case side2 => exact (Kd.R_reads' HO138.out).2.1); rintro e w39 ⟨rfl, hb⟩; have n0_ := Aside0.mk (Kd.R_below (by (with_reducible repeat (first | apply Kd.R_alloc | apply Kd.R_drewN | apply Kd.R_drew)); exact HO138.out) hb); have n1_ := Aside0.mk (blk_below (g := gb131) (o := .cells #[.int .i64 a0, .string a2, .int .i64 a1] 23 (0, 0)) (by (with_reducible repeat (first | refine blk_drewN ?_ _ | refine blk_drew ?_ | refine blk_alloc ?_ _)); exact BK131.out) hb); have n2_ := Aside0.mk (below_step (by repeat (first | (with_reducible first | exact HB.out | apply below_alloc | apply pw_below_drewN | apply below_drew1 | refine below_set ?_ GE131.out) | exact HB.out)) hb); clear HO138; clear BK131; clear HB; have HO138 := n0_; have BK131 := n1_; have HB := n2_; clear n0_ n1_ n2_; (try clear hb); (try clear hb2); (try clear hk); (try clear hi); have hcz40_0 : w39.cell? ⟨gb131, 0, none⟩ = some (.int .i64 a0) := (blk_cell BK131.out 0).trans rfl; have hcz40_1 : w39.cell? ⟨gb131, 1, none⟩ = some (.string a2) := (blk_cell BK131.out 1).trans rfl; have hcz40_2 : w39.cell? ⟨gb131, 2, none⟩ = some (.int .i64 a1) := (blk_cell BK131.out 2).trans rfl; have hfz40_0 := blk_frozen BK131.out 0; have hfz40_1 := blk_frozen BK131.out 1; have hfz40_2 := blk_frozen BK131.out 2) | (go_at_call 10; (with_reducible refine (tag_Less.calls kj15 a0 a2 a1 a0 a2 a1 t140 _ A27.out).mono ?_); rintro e w41 ⟨rfl, hb⟩; have n0_ := Aside0.mk (Kd.R_below (by (with_reducible repeat (first | apply Kd.R_alloc | apply Kd.R_drewN | apply Kd.R_drew)); exact HO138.out) hb); have n1_ := Aside0.mk (blk_below (g := gb131) (o := .cells #[.int .i64 a0, .string a2, .int .i64 a1] 23 (0, 0)) (by (with_reducible repeat (first | refine blk_drewN ?_ _ | refine blk_drew ?_ | refine blk_alloc ?_ _)); exact BK131.out) hb); have n2_ := Aside0.mk (below_step (by repeat (first | (with_reducible first | exact HB.out | apply below_alloc | apply pw_below_drewN | apply below_drew1 | refine below_set ?_ GE131.out) | exact HB.out)) hb); clear HO138; clear BK131; clear HB; have HO138 := n0_; have BK131 := n1_; have HB := n2_; clear n0_ n1_ n2_; (try clear hb); (try clear hb2); (try clear hk); (try clear hi)))
                          go_meet
                          case rel => exact ⟨_, (!t140), (by first | rfl | (simp; done) | (simp [*]; done)), H', ⟨by have := HJ9.out; have := HJ15.out; first | omega | exact Nat.le_refl _⟩, ⟨by (with_reducible repeat (first | refine blk_drewN ?_ _ | refine blk_drew ?_ | refine blk_alloc ?_ _)); exact BK131.out⟩, ⟨by repeat (first | (with_reducible first | exact HB.out | apply below_alloc | apply pw_below_drewN | apply below_drew1 | refine below_set ?_ GE131.out) | exact HB.out)⟩⟩
                        · replace c26 := Bool.eq_false_iff.mpr c26
                          subst c26
                          have H1 : (gristmilllaw14_TagsKinds.j6 kj15 false) = some r := by rw [if_neg (show ¬ (false = true) by decide)] at H; exact H
                          clear H
                          have H := H1
                          clear H1
                          have H' := Aside0.mk H
                          clear H
                          have hcz42_0 : wc.cell? ⟨gb131, 0, none⟩ = some (.int .i64 a0) := (blk_cell BK131.out 0).trans rfl
                          have hcz42_1 : wc.cell? ⟨gb131, 1, none⟩ = some (.string a2) := (blk_cell BK131.out 1).trans rfl
                          have hcz42_2 : wc.cell? ⟨gb131, 2, none⟩ = some (.int .i64 a1) := (blk_cell BK131.out 2).trans rfl
                          have hfz42_0 := blk_frozen BK131.out 0
                          have hfz42_1 := blk_frozen BK131.out 1
                          have hfz42_2 := blk_frozen BK131.out 2
                          go_wp2_with (first | (go_at_call 17; (with_reducible refine (tag_Waits.calls kj15 a0 a2 a1 t133 _ A19.out).mono ?_); rintro e w43 ⟨rfl, hb⟩; have n0_ := Aside0.mk (blk_below (g := gb131) (o := .cells #[.int .i64 a0, .string a2, .int .i64 a1] 23 (0, 0)) (by (with_reducible repeat (first | refine blk_drewN ?_ _ | refine blk_drew ?_ | refine blk_alloc ?_ _)); exact BK131.out) hb); have n1_ := Aside0.mk (below_step (by repeat (first | (with_reducible first | exact HB.out | apply below_alloc | apply pw_below_drewN | apply below_drew1 | refine below_set ?_ GE131.out) | exact HB.out)) hb); clear BK131; clear HB; have BK131 := n0_; have HB := n1_; clear n0_ n1_; (try clear hb); (try clear hb2); (try clear hk); (try clear hi); have hcz44_0 : w43.cell? ⟨gb131, 0, none⟩ = some (.int .i64 a0) := (blk_cell BK131.out 0).trans rfl; have hcz44_1 : w43.cell? ⟨gb131, 1, none⟩ = some (.string a2) := (blk_cell BK131.out 1).trans rfl; have hcz44_2 : w43.cell? ⟨gb131, 2, none⟩ = some (.int .i64 a1) := (blk_cell BK131.out 2).trans rfl; have hfz44_0 := blk_frozen BK131.out 0; have hfz44_1 := blk_frozen BK131.out 1; have hfz44_2 := blk_frozen BK131.out 2) | (go_at_call 19; (with_reducible refine (tag_Bare.calls kj15 a0 a2 a1 t134 _ A21.out).mono ?_); rintro e w45 ⟨rfl, hb⟩; have n0_ := Aside0.mk (blk_below (g := gb131) (o := .cells #[.int .i64 a0, .string a2, .int .i64 a1] 23 (0, 0)) (by (with_reducible repeat (first | refine blk_drewN ?_ _ | refine blk_drew ?_ | refine blk_alloc ?_ _)); exact BK131.out) hb); have n1_ := Aside0.mk (below_step (by repeat (first | (with_reducible first | exact HB.out | apply below_alloc | apply pw_below_drewN | apply below_drew1 | refine below_set ?_ GE131.out) | exact HB.out)) hb); clear BK131; clear HB; have BK131 := n0_; have HB := n1_; clear n0_ n1_; (try clear hb); (try clear hb2); (try clear hk); (try clear hi); have hcz46_0 : w45.cell? ⟨gb131, 0, none⟩ = some (.int .i64 a0) := (blk_cell BK131.out 0).trans rfl; have hcz46_1 : w45.cell? ⟨gb131, 1, none⟩ = some (.string a2) := (blk_cell BK131.out 1).trans rfl; have hcz46_2 : w45.cell? ⟨gb131, 2, none⟩ = some (.int .i64 a1) := (blk_cell BK131.out 2).trans rfl; have hfz46_0 := blk_frozen BK131.out 0; have hfz46_1 := blk_frozen BK131.out 1; have hfz46_2 := blk_frozen BK131.out 2) | (go_at_call 21; (with_reducible refine (tag_Text.calls a0 a2 a1 t135 _ A23.out).mono ?_); rintro e w47 ⟨rfl, hb⟩; have n0_ := Aside0.mk (blk_below (g := gb131) (o := .cells #[.int .i64 a0, .string a2, .int .i64 a1] 23 (0, 0)) (by (with_reducible repeat (first | refine blk_drewN ?_ _ | refine blk_drew ?_ | refine blk_alloc ?_ _)); exact BK131.out) hb); have n1_ := Aside0.mk (below_step (by repeat (first | (with_reducible first | exact HB.out | apply below_alloc | apply pw_below_drewN | apply below_drew1 | refine below_set ?_ GE131.out) | exact HB.out)) hb); clear BK131; clear HB; have BK131 := n0_; have HB := n1_; clear n0_ n1_; (try clear hb); (try clear hb2); (try clear hk); (try clear hi); have hcz48_0 : w47.cell? ⟨gb131, 0, none⟩ = some (.int .i64 a0) := (blk_cell BK131.out 0).trans rfl; have hcz48_1 : w47.cell? ⟨gb131, 1, none⟩ = some (.string a2) := (blk_cell BK131.out 1).trans rfl; have hcz48_2 : w47.cell? ⟨gb131, 2, none⟩ = some (.int .i64 a1) := (blk_cell BK131.out 2).trans rfl; have hfz48_0 := blk_frozen BK131.out 0; have hfz48_1 := blk_frozen BK131.out 1; have hfz48_2 := blk_frozen BK131.out 2) | ((with_reducible refine gate_dst (N := 131) rfl ?_); (try (refine gate_guard (by rfl) ?_; dsimp only)); refine Kd.R_lit k23 _ 23 ?hg (N := 131) ?hd (xs := ([(⟨a0, a2, a1⟩ : S23)] : List (S23))) (inner := [.int .i64 a0, .string a2, .int .i64 a1]) (ok := fun _ => True) (okp := fun _ => True) ?hr ?hp (fun _ hk => hk) trivial (Below.refl _ _) (Nat.le_refl _) (by simp) ?_; (case hd => rfl); (case hg => rfl); (case hr => first | (go_simp; done) | (go_simp; rfl)); (case hp => exact (Reps.c3 (show Kd.M k23 _ _ _ (⟨a0, a2, a1⟩ : S23) [.int .i64 a0, .string a2, .int .i64 a1] from (k23_mkM _ _ _ (⟨a0, a2, a1⟩ : S23) )) (Reps.none _ _))); intro v137 w49 ho50 hb hg_ hnew_; clear hg_ hnew_; (first | rw [← Ny136.out] at ho50 | (simp only [Int.reduceToNat] at ho50; rw [← Ny136.out] at ho50)); have n0_ := Aside0.mk (Kd.R_lower (Kd.R_newB ho50 (g := gb131) (o := .cells #[.int .i64 a0, .string a2, .int .i64 a1] 23 (0, 0)) (by (with_reducible repeat (first | refine blk_drewN ?_ _ | refine blk_drew ?_ | refine blk_alloc ?_ _)); exact BK131.out)) (below_size (by repeat (first | (with_reducible first | exact HB.out | apply below_alloc | apply pw_below_drewN | apply below_drew1 | refine below_set ?_ GE131.out) | exact HB.out)))); have n1_ := Aside0.mk (blk_below (g := gb131) (o := .cells #[.int .i64 a0, .string a2, .int .i64 a1] 23 (0, 0)) (by (with_reducible repeat (first | refine blk_drewN ?_ _ | refine blk_drew ?_ | refine blk_alloc ?_ _)); exact BK131.out) hb); have n2_ := Aside0.mk (below_step (by repeat (first | (with_reducible first | exact HB.out | apply below_alloc | apply pw_below_drewN | apply below_drew1 | refine below_set ?_ GE131.out) | exact HB.out)) hb); clear BK131; clear HB; have HO138 := n0_; have BK131 := n1_; have HB := n2_; clear n0_ n1_ n2_; clear hb ho50; have hcz51_0 : w49.cell? ⟨gb131, 0, none⟩ = some (.int .i64 a0) := (blk_cell BK131.out 0).trans rfl; have hcz51_1 : w49.cell? ⟨gb131, 1, none⟩ = some (.string a2) := (blk_cell BK131.out 1).trans rfl; have hcz51_2 : w49.cell? ⟨gb131, 2, none⟩ = some (.int .i64 a1) := (blk_cell BK131.out 2).trans rfl; have hfz51_0 := blk_frozen BK131.out 0; have hfz51_1 := blk_frozen BK131.out 1; have hfz51_2 := blk_frozen BK131.out 2; obtain ⟨Ao52, co52, eo52⟩ := Kd.R_slice HO138.out; subst eo52) | (go_at_call 15; (with_reducible refine (tag_Has.calls kj15 _ _ y136 a0 a2 a1 false _ ?side1 ?side2 A25.out).mono ?_); (case side1 => repeat (first | exact (Kd.R_reads' HO138.out).2.2 | (with_reducible refine Kd.C_alloc ?_ _) | (with_reducible refine Kd.C_drewN ?_ _) | (with_reducible refine Kd.C_drew ?_))); (case side2 => exact (Kd.R_reads' HO138.out).2.1); rintro e w53 ⟨rfl, hb⟩; have n0_ := Aside0.mk (Kd.R_below (by (with_reducible repeat (first | apply Kd.R_alloc | apply Kd.R_drewN | apply Kd.R_drew)); exact HO138.out) hb); have n1_ := Aside0.mk (blk_below (g := gb131) (o := .cells #[.int .i64 a0, .string a2, .int .i64 a1] 23 (0, 0)) (by (with_reducible repeat (first | refine blk_drewN ?_ _ | refine blk_drew ?_ | refine blk_alloc ?_ _)); exact BK131.out) hb); have n2_ := Aside0.mk (below_step (by repeat (first | (with_reducible first | exact HB.out | apply below_alloc | apply pw_below_drewN | apply below_drew1 | refine below_set ?_ GE131.out) | exact HB.out)) hb); clear HO138; clear BK131; clear HB; have HO138 := n0_; have BK131 := n1_; have HB := n2_; clear n0_ n1_ n2_; (try clear hb); (try clear hb2); (try clear hk); (try clear hi)))
                          go_meet
                          case rel => exact ⟨_, (false), (by first | rfl | (simp; done) | (simp [*]; done)), H', ⟨by have := HJ9.out; have := HJ15.out; first | omega | exact Nat.le_refl _⟩, ⟨by (with_reducible repeat (first | refine blk_drewN ?_ _ | refine blk_drew ?_ | refine blk_alloc ?_ _)); exact BK131.out⟩, ⟨by repeat (first | (with_reducible first | exact HB.out | apply below_alloc | apply pw_below_drewN | apply below_drew1 | refine below_set ?_ GE131.out) | exact HB.out)⟩⟩
                      · rw [if_neg c24] at H
                        have c24b0 : decide (3 ≤ (t135.size : Int)) = false := decide_eq_false c24
                        have c24b1 : decide (3 ≤ t135.size) = false := decide_eq_false (by omega)
                        clear c24
                        have H' := Aside0.mk H
                        clear H
                        have hcz54_0 : wc.cell? ⟨gb131, 0, none⟩ = some (.int .i64 a0) := (blk_cell BK131.out 0).trans rfl
                        have hcz54_1 : wc.cell? ⟨gb131, 1, none⟩ = some (.string a2) := (blk_cell BK131.out 1).trans rfl
                        have hcz54_2 : wc.cell? ⟨gb131, 2, none⟩ = some (.int .i64 a1) := (blk_cell BK131.out 2).trans rfl
                        have hfz54_0 := blk_frozen BK131.out 0
                        have hfz54_1 := blk_frozen BK131.out 1
                        have hfz54_2 := blk_frozen BK131.out 2
                        go_wp2_with (first | (go_at_call 17; (with_reducible refine (tag_Waits.calls kj15 a0 a2 a1 t133 _ A19.out).mono ?_); rintro e w55 ⟨rfl, hb⟩; have n0_ := Aside0.mk (blk_below (g := gb131) (o := .cells #[.int .i64 a0, .string a2, .int .i64 a1] 23 (0, 0)) (by (with_reducible repeat (first | refine blk_drewN ?_ _ | refine blk_drew ?_ | refine blk_alloc ?_ _)); exact BK131.out) hb); have n1_ := Aside0.mk (below_step (by repeat (first | (with_reducible first | exact HB.out | apply below_alloc | apply pw_below_drewN | apply below_drew1 | refine below_set ?_ GE131.out) | exact HB.out)) hb); clear BK131; clear HB; have BK131 := n0_; have HB := n1_; clear n0_ n1_; (try clear hb); (try clear hb2); (try clear hk); (try clear hi); have hcz56_0 : w55.cell? ⟨gb131, 0, none⟩ = some (.int .i64 a0) := (blk_cell BK131.out 0).trans rfl; have hcz56_1 : w55.cell? ⟨gb131, 1, none⟩ = some (.string a2) := (blk_cell BK131.out 1).trans rfl; have hcz56_2 : w55.cell? ⟨gb131, 2, none⟩ = some (.int .i64 a1) := (blk_cell BK131.out 2).trans rfl; have hfz56_0 := blk_frozen BK131.out 0; have hfz56_1 := blk_frozen BK131.out 1; have hfz56_2 := blk_frozen BK131.out 2) | (go_at_call 19; (with_reducible refine (tag_Bare.calls kj15 a0 a2 a1 t134 _ A21.out).mono ?_); rintro e w57 ⟨rfl, hb⟩; have n0_ := Aside0.mk (blk_below (g := gb131) (o := .cells #[.int .i64 a0, .string a2, .int .i64 a1] 23 (0, 0)) (by (with_reducible repeat (first | refine blk_drewN ?_ _ | refine blk_drew ?_ | refine blk_alloc ?_ _)); exact BK131.out) hb); have n1_ := Aside0.mk (below_step (by repeat (first | (with_reducible first | exact HB.out | apply below_alloc | apply pw_below_drewN | apply below_drew1 | refine below_set ?_ GE131.out) | exact HB.out)) hb); clear BK131; clear HB; have BK131 := n0_; have HB := n1_; clear n0_ n1_; (try clear hb); (try clear hb2); (try clear hk); (try clear hi); have hcz58_0 : w57.cell? ⟨gb131, 0, none⟩ = some (.int .i64 a0) := (blk_cell BK131.out 0).trans rfl; have hcz58_1 : w57.cell? ⟨gb131, 1, none⟩ = some (.string a2) := (blk_cell BK131.out 1).trans rfl; have hcz58_2 : w57.cell? ⟨gb131, 2, none⟩ = some (.int .i64 a1) := (blk_cell BK131.out 2).trans rfl; have hfz58_0 := blk_frozen BK131.out 0; have hfz58_1 := blk_frozen BK131.out 1; have hfz58_2 := blk_frozen BK131.out 2) | (go_at_call 21; (with_reducible refine (tag_Text.calls a0 a2 a1 t135 _ A23.out).mono ?_); rintro e w59 ⟨rfl, hb⟩; have n0_ := Aside0.mk (blk_below (g := gb131) (o := .cells #[.int .i64 a0, .string a2, .int .i64 a1] 23 (0, 0)) (by (with_reducible repeat (first | refine blk_drewN ?_ _ | refine blk_drew ?_ | refine blk_alloc ?_ _)); exact BK131.out) hb); have n1_ := Aside0.mk (below_step (by repeat (first | (with_reducible first | exact HB.out | apply below_alloc | apply pw_below_drewN | apply below_drew1 | refine below_set ?_ GE131.out) | exact HB.out)) hb); clear BK131; clear HB; have BK131 := n0_; have HB := n1_; clear n0_ n1_; (try clear hb); (try clear hb2); (try clear hk); (try clear hi)))
                        go_meet
                        case rel => exact ⟨_, (false), (by first | rfl | (simp; done) | (simp [*]; done)), H', ⟨by have := HJ9.out; have := HJ15.out; first | omega | exact Nat.le_refl _⟩, ⟨by (with_reducible repeat (first | refine blk_drewN ?_ _ | refine blk_drew ?_ | refine blk_alloc ?_ _)); exact BK131.out⟩, ⟨by repeat (first | (with_reducible first | exact HB.out | apply below_alloc | apply pw_below_drewN | apply below_drew1 | refine below_set ?_ GE131.out) | exact HB.out)⟩⟩
                    · rw [if_neg c22] at H
                      have c22b0 : (t134 == x13_15) = false := by simpa using c22
                      (try (have c22b1 : decide (t134 = x13_15) = false := by simpa using c22))
                      (try (have c22b2 : (t134 == x13_15) = false := by simpa using c22))
                      (try (have c22b3 : ¬ (t134 = x13_15) := by simpa using c22))
                      clear c22
                      have H' := Aside0.mk H
                      clear H
                      have hcz60_0 : wc.cell? ⟨gb131, 0, none⟩ = some (.int .i64 a0) := (blk_cell BK131.out 0).trans rfl
                      have hcz60_1 : wc.cell? ⟨gb131, 1, none⟩ = some (.string a2) := (blk_cell BK131.out 1).trans rfl
                      have hcz60_2 : wc.cell? ⟨gb131, 2, none⟩ = some (.int .i64 a1) := (blk_cell BK131.out 2).trans rfl
                      have hfz60_0 := blk_frozen BK131.out 0
                      have hfz60_1 := blk_frozen BK131.out 1
                      have hfz60_2 := blk_frozen BK131.out 2
                      go_wp2_with (first | (go_at_call 17; (with_reducible refine (tag_Waits.calls kj15 a0 a2 a1 t133 _ A19.out).mono ?_); rintro e w61 ⟨rfl, hb⟩; have n0_ := Aside0.mk (blk_below (g := gb131) (o := .cells #[.int .i64 a0, .string a2, .int .i64 a1] 23 (0, 0)) (by (with_reducible repeat (first | refine blk_drewN ?_ _ | refine blk_drew ?_ | refine blk_alloc ?_ _)); exact BK131.out) hb); have n1_ := Aside0.mk (below_step (by repeat (first | (with_reducible first | exact HB.out | apply below_alloc | apply pw_below_drewN | apply below_drew1 | refine below_set ?_ GE131.out) | exact HB.out)) hb); clear BK131; clear HB; have BK131 := n0_; have HB := n1_; clear n0_ n1_; (try clear hb); (try clear hb2); (try clear hk); (try clear hi); have hcz62_0 : w61.cell? ⟨gb131, 0, none⟩ = some (.int .i64 a0) := (blk_cell BK131.out 0).trans rfl; have hcz62_1 : w61.cell? ⟨gb131, 1, none⟩ = some (.string a2) := (blk_cell BK131.out 1).trans rfl; have hcz62_2 : w61.cell? ⟨gb131, 2, none⟩ = some (.int .i64 a1) := (blk_cell BK131.out 2).trans rfl; have hfz62_0 := blk_frozen BK131.out 0; have hfz62_1 := blk_frozen BK131.out 1; have hfz62_2 := blk_frozen BK131.out 2) | (go_at_call 19; (with_reducible refine (tag_Bare.calls kj15 a0 a2 a1 t134 _ A21.out).mono ?_); rintro e w63 ⟨rfl, hb⟩; have n0_ := Aside0.mk (blk_below (g := gb131) (o := .cells #[.int .i64 a0, .string a2, .int .i64 a1] 23 (0, 0)) (by (with_reducible repeat (first | refine blk_drewN ?_ _ | refine blk_drew ?_ | refine blk_alloc ?_ _)); exact BK131.out) hb); have n1_ := Aside0.mk (below_step (by repeat (first | (with_reducible first | exact HB.out | apply below_alloc | apply pw_below_drewN | apply below_drew1 | refine below_set ?_ GE131.out) | exact HB.out)) hb); clear BK131; clear HB; have BK131 := n0_; have HB := n1_; clear n0_ n1_; (try clear hb); (try clear hb2); (try clear hk); (try clear hi)))
                      go_meet
                      case rel => exact ⟨_, (false), (by first | rfl | (simp; done) | (simp [*]; done)), H', ⟨by have := HJ9.out; have := HJ15.out; first | omega | exact Nat.le_refl _⟩, ⟨by (with_reducible repeat (first | refine blk_drewN ?_ _ | refine blk_drew ?_ | refine blk_alloc ?_ _)); exact BK131.out⟩, ⟨by repeat (first | (with_reducible first | exact HB.out | apply below_alloc | apply pw_below_drewN | apply below_drew1 | refine below_set ?_ GE131.out) | exact HB.out)⟩⟩
                  · rw [if_neg c20] at H
                    have c20b0 : (t133 == x12_9) = false := by simpa using c20
                    (try (have c20b1 : decide (t133 = x12_9) = false := by simpa using c20))
                    (try (have c20b2 : (t133 == x12_9) = false := by simpa using c20))
                    (try (have c20b3 : ¬ (t133 = x12_9) := by simpa using c20))
                    clear c20
                    (first | rw [c20b0] | (simp only [i64_w, i32_w]; rw [c20b0]) | skip)
                    have H' := Aside0.mk H
                    clear H
                    have hcz64_0 : wc.cell? ⟨gb131, 0, none⟩ = some (.int .i64 a0) := (blk_cell BK131.out 0).trans rfl
                    have hcz64_1 : wc.cell? ⟨gb131, 1, none⟩ = some (.string a2) := (blk_cell BK131.out 1).trans rfl
                    have hcz64_2 : wc.cell? ⟨gb131, 2, none⟩ = some (.int .i64 a1) := (blk_cell BK131.out 2).trans rfl
                    have hfz64_0 := blk_frozen BK131.out 0
                    have hfz64_1 := blk_frozen BK131.out 1
                    have hfz64_2 := blk_frozen BK131.out 2
                    go_wp2_with (first | (go_at_call 17; (with_reducible refine (tag_Waits.calls kj15 a0 a2 a1 t133 _ A19.out).mono ?_); rintro e w65 ⟨rfl, hb⟩; have n0_ := Aside0.mk (blk_below (g := gb131) (o := .cells #[.int .i64 a0, .string a2, .int .i64 a1] 23 (0, 0)) (by (with_reducible repeat (first | refine blk_drewN ?_ _ | refine blk_drew ?_ | refine blk_alloc ?_ _)); exact BK131.out) hb); have n1_ := Aside0.mk (below_step (by repeat (first | (with_reducible first | exact HB.out | apply below_alloc | apply pw_below_drewN | apply below_drew1 | refine below_set ?_ GE131.out) | exact HB.out)) hb); clear BK131; clear HB; have BK131 := n0_; have HB := n1_; clear n0_ n1_; (try clear hb); (try clear hb2); (try clear hk); (try clear hi)))
                    go_meet
                    case rel => exact ⟨_, (false), (by first | rfl | (simp; done) | (simp [*]; done)), H', ⟨by have := HJ9.out; have := HJ15.out; first | omega | exact Nat.le_refl _⟩, ⟨by (with_reducible repeat (first | refine blk_drewN ?_ _ | refine blk_drew ?_ | refine blk_alloc ?_ _)); exact BK131.out⟩, ⟨by repeat (first | (with_reducible first | exact HB.out | apply below_alloc | apply pw_below_drewN | apply below_drew1 | refine below_set ?_ GE131.out) | exact HB.out)⟩⟩
                case rest =>
                  clear HC18
                  try clear c1
                  try clear c2
                  try clear p2
                  try clear c3
                  try clear c5
                  try clear c6
                  try clear c6b0
                  try clear c6b1
                  try clear c7
                  try clear c9
                  try clear c15
                  try clear c15b0
                  try clear c15b1
                  try clear c17
                  try clear c17b0
                  try clear c17b1
                  try clear c20
                  try clear c20b0
                  try clear c20b1
                  try clear c20b2
                  try clear c22
                  try clear c22b0
                  try clear c22b1
                  try clear c22b2
                  try clear c24
                  try clear c24b0
                  try clear c24b1
                  try clear c26
                  try clear hcz13_0
                  try clear hcz13_1
                  try clear hcz13_2
                  try clear hcz28_0
                  try clear hcz28_1
                  try clear hcz28_2
                  try clear hcz30_0
                  try clear hcz30_1
                  try clear hcz30_2
                  try clear hcz32_0
                  try clear hcz32_1
                  try clear hcz32_2
                  try clear hcz34_0
                  try clear hcz34_1
                  try clear hcz34_2
                  try clear hcz37_0
                  try clear hcz37_1
                  try clear hcz37_2
                  try clear hcz40_0
                  try clear hcz40_1
                  try clear hcz40_2
                  try clear hcz42_0
                  try clear hcz42_1
                  try clear hcz42_2
                  try clear hcz44_0
                  try clear hcz44_1
                  try clear hcz44_2
                  try clear hcz46_0
                  try clear hcz46_1
                  try clear hcz46_2
                  try clear hcz48_0
                  try clear hcz48_1
                  try clear hcz48_2
                  try clear hcz51_0
                  try clear hcz51_1
                  try clear hcz51_2
                  try clear hcz54_0
                  try clear hcz54_1
                  try clear hcz54_2
                  try clear hcz56_0
                  try clear hcz56_1
                  try clear hcz56_2
                  try clear hcz58_0
                  try clear hcz58_1
                  try clear hcz58_2
                  try clear hcz60_0
                  try clear hcz60_1
                  try clear hcz60_2
                  try clear hcz62_0
                  try clear hcz62_1
                  try clear hcz62_2
                  try clear hcz64_0
                  try clear hcz64_1
                  try clear hcz64_2
                  try clear hfz13_0
                  try clear hfz13_1
                  try clear hfz13_2
                  try clear hfz28_0
                  try clear hfz28_1
                  try clear hfz28_2
                  try clear hfz30_0
                  try clear hfz30_1
                  try clear hfz30_2
                  try clear hfz32_0
                  try clear hfz32_1
                  try clear hfz32_2
                  try clear hfz34_0
                  try clear hfz34_1
                  try clear hfz34_2
                  try clear hfz37_0
                  try clear hfz37_1
                  try clear hfz37_2
                  try clear hfz40_0
                  try clear hfz40_1
                  try clear hfz40_2
                  try clear hfz42_0
                  try clear hfz42_1
                  try clear hfz42_2
                  try clear hfz44_0
                  try clear hfz44_1
                  try clear hfz44_2
                  try clear hfz46_0
                  try clear hfz46_1
                  try clear hfz46_2
                  try clear hfz48_0
                  try clear hfz48_1
                  try clear hfz48_2
                  try clear hfz51_0
                  try clear hfz51_1
                  try clear hfz51_2
                  try clear hfz54_0
                  try clear hfz54_1
                  try clear hfz54_2
                  try clear hfz56_0
                  try clear hfz56_1
                  try clear hfz56_2
                  try clear hfz58_0
                  try clear hfz58_1
                  try clear hfz58_2
                  try clear hfz60_0
                  try clear hfz60_1
                  try clear hfz60_2
                  try clear hfz62_0
                  try clear hfz62_1
                  try clear hfz62_2
                  try clear hfz64_0
                  try clear hfz64_1
                  try clear hfz64_2
                  try clear p2
                  obtain ⟨kq, x6_17, rfl, HA, HJ17, BK131, HB⟩ := hcut
                  cases kq with
                  | zero => exact absurd HA.out (by simp [gristmilllaw14_TagsKinds.j6])
                  | succ kj17 =>
                    have H := HA.out
                    clear HA
                    simp only [gristmilllaw14_TagsKinds.j6] at H
                    obtain rfl := Option.some.inj H
                    go_wp2
                    go_ret
                    exact ⟨by first | rfl | (simp [errW_none, errW_some] <;> rfl) | (simp [*, errW_none, errW_some] <;> rfl) | (simp [errW_none, errW_some] <;> (rw [Bool.eq_iff_iff]; simp; done)), by repeat (first | (with_reducible first | exact HB.out | apply below_alloc | apply pw_below_drewN | apply below_drew1 | refine below_set ?_ GE131.out) | exact HB.out)⟩
      · replace c9 := Bool.eq_false_iff.mpr c9
        subst c9
        have H1 : (if a0 ≥ 1 then (gristmilllaw14_TagsKinds.j0 k a0 a1 a2 true (decide (a0 ≤ 3))) else (gristmilllaw14_TagsKinds.j0 k a0 a1 a2 true false)) = some r := by rw [if_neg (show ¬ (false = true) by decide)] at H; exact H
        clear H
        have H := H1
        clear H1
        have HC66 := Aside0.mk H
        clear H
        go_enter Tryd.func5, Tryd.ntmps5
        go_upto_region 8 with (first | ((with_reducible refine gate_callee (f := 7) rfl ?_); refine goesL_ (some 14) rfl rfl Tryd.func7 (by kernel_rfl) rfl #[] rfl (by (try simp only [List.map_toArray, List.map_cons, List.map_nil]); first | done | rfl | (simp only [List.length_drop, List.length_take]; rfl)) ?_; (with_reducible refine (gristmilllaw14_first.calls  true _ A4.out).mono ?_); rintro e w67 ⟨rfl, hb⟩; refine ⟨_, rfl, ?_⟩; have n0_ := Aside0.mk (below_step (by repeat (first | (with_reducible first | exact HB.out | apply below_alloc | apply pw_below_drewN | apply below_drew1) | exact HB.out)) hb); clear HB; have HB := n0_; clear n0_; (try clear hb); (try clear hb2); (try clear hk); (try clear hi)) | ((with_reducible refine gate_dst (N := 8) rfl ?_); (try (refine gate_guard (by rfl) ?_; dsimp only)); refine box_event ?hg (N := 8) ?hd (cs := #[.int .i64 0, .string (⟨#[]⟩ : ByteArray), .int .i64 0]) (t := 23) ?hr ?_; (case hd => rfl); (case hg => rfl); (case hr => first | (go_simp; done) | (go_simp; rfl)); intro gb131 hg w68 hbox hb; have n0_ := Aside0.mk (below_step (by repeat (first | (with_reducible first | exact HB.out | apply below_alloc | apply pw_below_drewN | apply below_drew1) | exact HB.out)) hb); have n1_ := Aside0.mk (hbox); have n2_ := Aside0.mk ((by rw [hg]; exact (below_size (by repeat (first | (with_reducible first | exact HB.out | apply below_alloc | apply pw_below_drewN | apply below_drew1) | exact HB.out))) : w.heap.size ≤ gb131)); have n3_ := Aside0.mk ((by rw [hg]; exact (below_size (by repeat (first | (with_reducible first | exact HB.out | apply below_alloc | apply pw_below_drewN | apply below_drew1) | exact HB.out))) : w.heap.size ≤ gb131)); clear HB; have HB := n0_; have BK131 := n1_; have GW131 := n2_; have GE131 := n3_; clear n0_ n1_ n2_ n3_; clear hb hbox hg; have hcz69_0 : w68.cell? ⟨gb131, 0, none⟩ = some (.int .i64 0) := (blk_cell BK131.out 0).trans rfl; have hcz69_1 : w68.cell? ⟨gb131, 1, none⟩ = some (.string (⟨#[]⟩ : ByteArray)) := (blk_cell BK131.out 1).trans rfl; have hcz69_2 : w68.cell? ⟨gb131, 2, none⟩ = some (.int .i64 0) := (blk_cell BK131.out 2).trans rfl; have hfz69_0 := blk_frozen BK131.out 0; have hfz69_1 := blk_frozen BK131.out 1; have hfz69_2 := blk_frozen BK131.out 2) | ((with_reducible refine gate_callee (f := 9) rfl ?_); refine goesL_ (some 26) rfl rfl Tryd.func9 (by kernel_rfl) rfl #[.agg #[.int .i64 a0, .string a2, .int .i64 a1]] rfl (by (try simp only [List.map_toArray, List.map_cons, List.map_nil]); first | done | rfl | (simp only [List.length_drop, List.length_take]; rfl)) ?_; (with_reducible refine (tag_Valid.calls k a0 a2 a1 false _ A8.out).mono ?_); rintro e w70 ⟨rfl, hb⟩; refine ⟨_, rfl, ?_⟩; have n0_ := Aside0.mk (blk_below (g := gb131) (o := .cells #[.int .i64 a0, .string a2, .int .i64 a1] 23 (0, 0)) (by (with_reducible repeat (first | refine blk_drewN ?_ _ | refine blk_drew ?_ | refine blk_alloc ?_ _)); refine blk_put (cs := #[.int .i64 a0, .string a2, .int .i64 0]) ?_ 2 _ rfl; (with_reducible repeat (first | refine blk_drewN ?_ _ | refine blk_drew ?_ | refine blk_alloc ?_ _)); refine blk_put (cs := #[.int .i64 a0, .string (⟨#[]⟩ : ByteArray), .int .i64 0]) ?_ 1 _ rfl; (with_reducible repeat (first | refine blk_drewN ?_ _ | refine blk_drew ?_ | refine blk_alloc ?_ _)); refine blk_put (cs := #[.int .i64 0, .string (⟨#[]⟩ : ByteArray), .int .i64 0]) ?_ 0 _ rfl; (with_reducible repeat (first | refine blk_drewN ?_ _ | refine blk_drew ?_ | refine blk_alloc ?_ _)); exact BK131.out) hb); have n1_ := Aside0.mk (below_step (by repeat (first | (with_reducible first | exact HB.out | apply below_alloc | apply pw_below_drewN | apply below_drew1 | refine below_set ?_ GE131.out) | exact HB.out)) hb); clear BK131; clear HB; have BK131 := n0_; have HB := n1_; clear n0_ n1_; (try clear hb); (try clear hb2); (try clear hk); (try clear hi)))
        (try simp only [Act.put, List.setIfInBounds_toArray, List.set_cons_zero, List.set_cons_succ])
        go_cut [9] (fun v9 wc => ∃ (kq : Nat) (x9_65 : Bool), v9 = .bool x9_65 ∧ Aside0 (gristmilllaw14_TagsKinds.j0 kq a0 a1 a2 true x9_65 = some r) ∧ Aside0 (kq ≤ k) ∧ Aside0 (wc.heap[gb131]? = some (.cells #[.int .i64 a0, .string a2, .int .i64 a1] 23 (0, 0))) ∧ Aside0 (Below w.heap.size w wc))
        case first => as_aux_lemma =>
          have H := HC66.out
          clear HC66
          by_cases c71 : a0 ≥ 1
          · rw [if_pos c71] at H
            have c71b0 : decide (1 ≤ a0) = true := decide_eq_true c71
            clear c71
            (first | rw [c71b0] | (simp only [i64_w, i32_w]; rw [c71b0]) | skip)
            have H' := Aside0.mk H
            clear H
            go_wp2
            go_meet
            case rel => exact ⟨_, (decide (a0 ≤ 3)), (by first | rfl | (simp; done) | (simp [*]; done)), H', ⟨by first | omega | exact Nat.le_refl _⟩, ⟨by (with_reducible repeat (first | refine blk_drewN ?_ _ | refine blk_drew ?_ | refine blk_alloc ?_ _)); exact BK131.out⟩, ⟨by repeat (first | (with_reducible first | exact HB.out | apply below_alloc | apply pw_below_drewN | apply below_drew1 | refine below_set ?_ GE131.out) | exact HB.out)⟩⟩
          · rw [if_neg c71] at H
            have c71b0 : decide (1 ≤ a0) = false := decide_eq_false c71
            clear c71
            (first | rw [c71b0] | (simp only [i64_w, i32_w]; rw [c71b0]) | skip)
            have H' := Aside0.mk H
            clear H
            go_wp2
            go_meet
            case rel => exact ⟨_, (false), (by first | rfl | (simp; done) | (simp [*]; done)), H', ⟨by first | omega | exact Nat.le_refl _⟩, ⟨by (with_reducible repeat (first | refine blk_drewN ?_ _ | refine blk_drew ?_ | refine blk_alloc ?_ _)); exact BK131.out⟩, ⟨by repeat (first | (with_reducible first | exact HB.out | apply below_alloc | apply pw_below_drewN | apply below_drew1 | refine below_set ?_ GE131.out) | exact HB.out)⟩⟩
        case rest =>
          clear HC66
          try clear c1
          try clear c2
          try clear p2
          try clear c3
          try clear c5
          try clear c6
          try clear c6b0
          try clear c6b1
          try clear c7
          try clear c9
          try clear c15
          try clear c15b0
          try clear c15b1
          try clear c17
          try clear c17b0
          try clear c17b1
          try clear c20
          try clear c20b0
          try clear c20b1
          try clear c20b2
          try clear c22
          try clear c22b0
          try clear c22b1
          try clear c22b2
          try clear c24
          try clear c24b0
          try clear c24b1
          try clear c26
          try clear c71
          try clear c71b0
          try clear hcz13_0
          try clear hcz13_1
          try clear hcz13_2
          try clear hcz28_0
          try clear hcz28_1
          try clear hcz28_2
          try clear hcz30_0
          try clear hcz30_1
          try clear hcz30_2
          try clear hcz32_0
          try clear hcz32_1
          try clear hcz32_2
          try clear hcz34_0
          try clear hcz34_1
          try clear hcz34_2
          try clear hcz37_0
          try clear hcz37_1
          try clear hcz37_2
          try clear hcz40_0
          try clear hcz40_1
          try clear hcz40_2
          try clear hcz42_0
          try clear hcz42_1
          try clear hcz42_2
          try clear hcz44_0
          try clear hcz44_1
          try clear hcz44_2
          try clear hcz46_0
          try clear hcz46_1
          try clear hcz46_2
          try clear hcz48_0
          try clear hcz48_1
          try clear hcz48_2
          try clear hcz51_0
          try clear hcz51_1
          try clear hcz51_2
          try clear hcz54_0
          try clear hcz54_1
          try clear hcz54_2
          try clear hcz56_0
          try clear hcz56_1
          try clear hcz56_2
          try clear hcz58_0
          try clear hcz58_1
          try clear hcz58_2
          try clear hcz60_0
          try clear hcz60_1
          try clear hcz60_2
          try clear hcz62_0
          try clear hcz62_1
          try clear hcz62_2
          try clear hcz64_0
          try clear hcz64_1
          try clear hcz64_2
          try clear hcz69_0
          try clear hcz69_1
          try clear hcz69_2
          try clear hfz13_0
          try clear hfz13_1
          try clear hfz13_2
          try clear hfz28_0
          try clear hfz28_1
          try clear hfz28_2
          try clear hfz30_0
          try clear hfz30_1
          try clear hfz30_2
          try clear hfz32_0
          try clear hfz32_1
          try clear hfz32_2
          try clear hfz34_0
          try clear hfz34_1
          try clear hfz34_2
          try clear hfz37_0
          try clear hfz37_1
          try clear hfz37_2
          try clear hfz40_0
          try clear hfz40_1
          try clear hfz40_2
          try clear hfz42_0
          try clear hfz42_1
          try clear hfz42_2
          try clear hfz44_0
          try clear hfz44_1
          try clear hfz44_2
          try clear hfz46_0
          try clear hfz46_1
          try clear hfz46_2
          try clear hfz48_0
          try clear hfz48_1
          try clear hfz48_2
          try clear hfz51_0
          try clear hfz51_1
          try clear hfz51_2
          try clear hfz54_0
          try clear hfz54_1
          try clear hfz54_2
          try clear hfz56_0
          try clear hfz56_1
          try clear hfz56_2
          try clear hfz58_0
          try clear hfz58_1
          try clear hfz58_2
          try clear hfz60_0
          try clear hfz60_1
          try clear hfz60_2
          try clear hfz62_0
          try clear hfz62_1
          try clear hfz62_2
          try clear hfz64_0
          try clear hfz64_1
          try clear hfz64_2
          try clear hfz69_0
          try clear hfz69_1
          try clear hfz69_2
          try clear p2
          obtain ⟨kq, x9_65, rfl, HA, HJ65, BK131, HB⟩ := hcut
          cases kq with
          | zero => exact absurd HA.out (by simp [gristmilllaw14_TagsKinds.j0])
          | succ kj65 =>
            have H := HA.out
            clear HA
            simp only [gristmilllaw14_TagsKinds.j0] at H
            have HC72 := Aside0.mk H
            clear H
            go_upto_region 9 with (fail)
            go_cut [10] (fun v10 wc => ∃ (kq : Nat) (x10_71 : Bool), v10 = .bool x10_71 ∧ Aside0 (gristmilllaw14_TagsKinds.j1 kq a0 a1 a2 true x9_65 x10_71 = some r) ∧ Aside0 (kq ≤ kj65) ∧ Aside0 (wc.heap[gb131]? = some (.cells #[.int .i64 a0, .string a2, .int .i64 a1] 23 (0, 0))) ∧ Aside0 (Below w.heap.size w wc))
            case first => as_aux_lemma =>
              have H := HC72.out
              clear HC72
              by_cases c73 : a2.toList = ([] : List UInt8)
              · rw [if_pos c73] at H
                have c73b0 : (a2.toList == ([] : List UInt8)) = true := beq_iff_eq.mpr c73
                have c73b1 : (a2.toList != ([] : List UInt8)) = false := bne_eq_false_iff_eq.mpr c73
                clear c73
                (first | rw [c73b0] | (simp only [i64_w, i32_w]; rw [c73b0]) | skip)
                have H' := Aside0.mk H
                clear H
                go_wp2
                go_meet
                case rel => exact ⟨_, (false), (by first | rfl | (simp; done) | (simp [*]; done)), H', ⟨by have := HJ65.out; first | omega | exact Nat.le_refl _⟩, ⟨by (with_reducible repeat (first | refine blk_drewN ?_ _ | refine blk_drew ?_ | refine blk_alloc ?_ _)); exact BK131.out⟩, ⟨by repeat (first | (with_reducible first | exact HB.out | apply below_alloc | apply pw_below_drewN | apply below_drew1 | refine below_set ?_ GE131.out) | exact HB.out)⟩⟩
              · rw [if_neg c73] at H
                have c73b0 : (a2.toList == ([] : List UInt8)) = false := beq_eq_false_iff_ne.mpr c73
                have c73b1 : (a2.toList != ([] : List UInt8)) = true := bne_iff_ne.mpr c73
                (first | rw [c73b0] | (simp only [i64_w, i32_w]; rw [c73b0]) | skip)
                by_cases c74 : 0 < (a2.size : Int)
                · rw [if_pos c74] at H
                  have c74b0 : decide (0 < (a2.size : Int)) = true := decide_eq_true c74
                  have c74b1 : decide (0 < a2.size) = true := decide_eq_true (by omega)
                  clear c74
                  by_cases c76 : (bt a2 0) ≥ 65
                  · rw [if_pos c76] at H
                    have c76b0 : decide (65 ≤ (bt a2 0)) = true := decide_eq_true c76
                    clear c76
                    have H' := Aside0.mk H
                    clear H
                    have p75 : 0 ≤ (0 : Int) := (by omega)
                    have q75 : 0 < a2.size := (by have : (0 : Int) < (a2.size : Int) := of_decide_eq_true (by first | (with_reducible assumption) | assumption); omega)
                    have hx75 : ∀ h : 0 < a2.size, ((a2[0]'h).toNat : Int) = bt a2 0 := bt_at a2 0
                    clear p75
                    have qi75 : (0 < (a2.size : Int)) = True := eq_true (of_decide_eq_true (by first | (with_reducible assumption) | assumption))
                    replace q75 := eq_true q75
                    have p77 : 0 ≤ (0 : Int) := (by omega)
                    have q77 : 0 < a2.size := (by have : (0 : Int) < (a2.size : Int) := of_decide_eq_true (by first | (with_reducible assumption) | assumption); omega)
                    have hx77 : ∀ h : 0 < a2.size, ((a2[0]'h).toNat : Int) = bt a2 0 := bt_at a2 0
                    clear p77
                    have qi77 : (0 < (a2.size : Int)) = True := eq_true (of_decide_eq_true (by first | (with_reducible assumption) | assumption))
                    replace q77 := eq_true q77
                    go_wp2
                    go_meet
                    case rel => exact ⟨_, (decide ((bt a2 0) ≤ 90)), (by first | rfl | (simp; done) | (simp [*]; done)), H', ⟨by have := HJ65.out; first | omega | exact Nat.le_refl _⟩, ⟨by (with_reducible repeat (first | refine blk_drewN ?_ _ | refine blk_drew ?_ | refine blk_alloc ?_ _)); exact BK131.out⟩, ⟨by repeat (first | (with_reducible first | exact HB.out | apply below_alloc | apply pw_below_drewN | apply below_drew1 | refine below_set ?_ GE131.out) | exact HB.out)⟩⟩
                  · rw [if_neg c76] at H
                    have c76b0 : decide (65 ≤ (bt a2 0)) = false := decide_eq_false c76
                    clear c76
                    have H' := Aside0.mk H
                    clear H
                    have p75 : 0 ≤ (0 : Int) := (by omega)
                    have q75 : 0 < a2.size := (by have : (0 : Int) < (a2.size : Int) := of_decide_eq_true (by first | (with_reducible assumption) | assumption); omega)
                    have hx75 : ∀ h : 0 < a2.size, ((a2[0]'h).toNat : Int) = bt a2 0 := bt_at a2 0
                    clear p75
                    have qi75 : (0 < (a2.size : Int)) = True := eq_true (of_decide_eq_true (by first | (with_reducible assumption) | assumption))
                    replace q75 := eq_true q75
                    go_wp2
                    go_meet
                    case rel => exact ⟨_, (false), (by first | rfl | (simp; done) | (simp [*]; done)), H', ⟨by have := HJ65.out; first | omega | exact Nat.le_refl _⟩, ⟨by (with_reducible repeat (first | refine blk_drewN ?_ _ | refine blk_drew ?_ | refine blk_alloc ?_ _)); exact BK131.out⟩, ⟨by repeat (first | (with_reducible first | exact HB.out | apply below_alloc | apply pw_below_drewN | apply below_drew1 | refine below_set ?_ GE131.out) | exact HB.out)⟩⟩
                · rw [if_neg c74] at H
                  exact absurd H (by simp)
            case rest =>
              clear HC72
              try clear c1
              try clear c2
              try clear p2
              try clear c3
              try clear c5
              try clear c6
              try clear c6b0
              try clear c6b1
              try clear c7
              try clear p7
              try clear q7
              try clear hx7
              try clear qi7
              try clear c9
              try clear c15
              try clear c15b0
              try clear c15b1
              try clear c17
              try clear c17b0
              try clear c17b1
              try clear c20
              try clear c20b0
              try clear c20b1
              try clear c20b2
              try clear c22
              try clear c22b0
              try clear c22b1
              try clear c22b2
              try clear c24
              try clear c24b0
              try clear c24b1
              try clear c26
              try clear c71
              try clear c71b0
              try clear c73
              try clear c73b0
              try clear c73b1
              try clear c74
              try clear c74b0
              try clear c74b1
              try clear p75
              try clear q75
              try clear hx75
              try clear qi75
              try clear c76
              try clear c76b0
              try clear p77
              try clear q77
              try clear hx77
              try clear qi77
              try clear hcz13_0
              try clear hcz13_1
              try clear hcz13_2
              try clear hcz28_0
              try clear hcz28_1
              try clear hcz28_2
              try clear hcz30_0
              try clear hcz30_1
              try clear hcz30_2
              try clear hcz32_0
              try clear hcz32_1
              try clear hcz32_2
              try clear hcz34_0
              try clear hcz34_1
              try clear hcz34_2
              try clear hcz37_0
              try clear hcz37_1
              try clear hcz37_2
              try clear hcz40_0
              try clear hcz40_1
              try clear hcz40_2
              try clear hcz42_0
              try clear hcz42_1
              try clear hcz42_2
              try clear hcz44_0
              try clear hcz44_1
              try clear hcz44_2
              try clear hcz46_0
              try clear hcz46_1
              try clear hcz46_2
              try clear hcz48_0
              try clear hcz48_1
              try clear hcz48_2
              try clear hcz51_0
              try clear hcz51_1
              try clear hcz51_2
              try clear hcz54_0
              try clear hcz54_1
              try clear hcz54_2
              try clear hcz56_0
              try clear hcz56_1
              try clear hcz56_2
              try clear hcz58_0
              try clear hcz58_1
              try clear hcz58_2
              try clear hcz60_0
              try clear hcz60_1
              try clear hcz60_2
              try clear hcz62_0
              try clear hcz62_1
              try clear hcz62_2
              try clear hcz64_0
              try clear hcz64_1
              try clear hcz64_2
              try clear hcz69_0
              try clear hcz69_1
              try clear hcz69_2
              try clear hfz13_0
              try clear hfz13_1
              try clear hfz13_2
              try clear hfz28_0
              try clear hfz28_1
              try clear hfz28_2
              try clear hfz30_0
              try clear hfz30_1
              try clear hfz30_2
              try clear hfz32_0
              try clear hfz32_1
              try clear hfz32_2
              try clear hfz34_0
              try clear hfz34_1
              try clear hfz34_2
              try clear hfz37_0
              try clear hfz37_1
              try clear hfz37_2
              try clear hfz40_0
              try clear hfz40_1
              try clear hfz40_2
              try clear hfz42_0
              try clear hfz42_1
              try clear hfz42_2
              try clear hfz44_0
              try clear hfz44_1
              try clear hfz44_2
              try clear hfz46_0
              try clear hfz46_1
              try clear hfz46_2
              try clear hfz48_0
              try clear hfz48_1
              try clear hfz48_2
              try clear hfz51_0
              try clear hfz51_1
              try clear hfz51_2
              try clear hfz54_0
              try clear hfz54_1
              try clear hfz54_2
              try clear hfz56_0
              try clear hfz56_1
              try clear hfz56_2
              try clear hfz58_0
              try clear hfz58_1
              try clear hfz58_2
              try clear hfz60_0
              try clear hfz60_1
              try clear hfz60_2
              try clear hfz62_0
              try clear hfz62_1
              try clear hfz62_2
              try clear hfz64_0
              try clear hfz64_1
              try clear hfz64_2
              try clear hfz69_0
              try clear hfz69_1
              try clear hfz69_2
              try clear p2
              try clear p75
              try clear p77
              try clear q75
              try clear q77
              obtain ⟨kq, x10_71, rfl, HA, HJ71, BK131, HB⟩ := hcut
              cases kq with
              | zero => exact absurd HA.out (by simp [gristmilllaw14_TagsKinds.j1])
              | succ kj71 =>
                have H := HA.out
                clear HA
                simp only [gristmilllaw14_TagsKinds.j1] at H
                have HC78 := Aside0.mk H
                clear H
                go_upto_region 10 with (fail)
                go_cut [11] (fun v11 wc => ∃ (kq : Nat) (x11_77 : Bool), v11 = .bool x11_77 ∧ Aside0 (gristmilllaw14_TagsKinds.j2 kq true x11_77 = some r) ∧ Aside0 (kq ≤ kj71) ∧ Aside0 (wc.heap[gb131]? = some (.cells #[.int .i64 a0, .string a2, .int .i64 a1] 23 (0, 0))) ∧ Aside0 (Below w.heap.size w wc))
                case first => as_aux_lemma =>
                  have H := HC78.out
                  clear HC78
                  by_cases c79 : a0 < 1
                  · rw [if_pos c79] at H
                    have c79b0 : decide (a0 < 1) = true := decide_eq_true c79
                    clear c79
                    (first | rw [c79b0] | (simp only [i64_w, i32_w]; rw [c79b0]) | skip)
                    have H' := Aside0.mk H
                    clear H
                    go_wp2
                    go_meet
                    case rel => exact ⟨_, (true), (by first | rfl | (simp; done) | (simp [*]; done)), H', ⟨by have := HJ65.out; have := HJ71.out; first | omega | exact Nat.le_refl _⟩, ⟨by (with_reducible repeat (first | refine blk_drewN ?_ _ | refine blk_drew ?_ | refine blk_alloc ?_ _)); exact BK131.out⟩, ⟨by repeat (first | (with_reducible first | exact HB.out | apply below_alloc | apply pw_below_drewN | apply below_drew1 | refine below_set ?_ GE131.out) | exact HB.out)⟩⟩
                  · rw [if_neg c79] at H
                    have c79b0 : decide (a0 < 1) = false := decide_eq_false c79
                    clear c79
                    (first | rw [c79b0] | (simp only [i64_w, i32_w]; rw [c79b0]) | skip)
                    by_cases c80 : a0 > 6
                    · rw [if_pos c80] at H
                      have c80b0 : decide (6 < a0) = true := decide_eq_true c80
                      clear c80
                      have H' := Aside0.mk H
                      clear H
                      go_wp2
                      go_meet
                      case rel => exact ⟨_, (true), (by first | rfl | (simp; done) | (simp [*]; done)), H', ⟨by have := HJ65.out; have := HJ71.out; first | omega | exact Nat.le_refl _⟩, ⟨by (with_reducible repeat (first | refine blk_drewN ?_ _ | refine blk_drew ?_ | refine blk_alloc ?_ _)); exact BK131.out⟩, ⟨by repeat (first | (with_reducible first | exact HB.out | apply below_alloc | apply pw_below_drewN | apply below_drew1 | refine below_set ?_ GE131.out) | exact HB.out)⟩⟩
                    · rw [if_neg c80] at H
                      have c80b0 : decide (6 < a0) = false := decide_eq_false c80
                      clear c80
                      by_cases c81 : a1 < 0
                      · rw [if_pos c81] at H
                        have c81b0 : decide (a1 < 0) = true := decide_eq_true c81
                        clear c81
                        have H' := Aside0.mk H
                        clear H
                        go_wp2
                        go_meet
                        case rel => exact ⟨_, (true), (by first | rfl | (simp; done) | (simp [*]; done)), H', ⟨by have := HJ65.out; have := HJ71.out; first | omega | exact Nat.le_refl _⟩, ⟨by (with_reducible repeat (first | refine blk_drewN ?_ _ | refine blk_drew ?_ | refine blk_alloc ?_ _)); exact BK131.out⟩, ⟨by repeat (first | (with_reducible first | exact HB.out | apply below_alloc | apply pw_below_drewN | apply below_drew1 | refine below_set ?_ GE131.out) | exact HB.out)⟩⟩
                      · rw [if_neg c81] at H
                        have c81b0 : decide (a1 < 0) = false := decide_eq_false c81
                        clear c81
                        by_cases c82 : a1 > 60
                        · rw [if_pos c82] at H
                          have c82b0 : decide (60 < a1) = true := decide_eq_true c82
                          clear c82
                          have H' := Aside0.mk H
                          clear H
                          go_wp2
                          go_meet
                          case rel => exact ⟨_, (true), (by first | rfl | (simp; done) | (simp [*]; done)), H', ⟨by have := HJ65.out; have := HJ71.out; first | omega | exact Nat.le_refl _⟩, ⟨by (with_reducible repeat (first | refine blk_drewN ?_ _ | refine blk_drew ?_ | refine blk_alloc ?_ _)); exact BK131.out⟩, ⟨by repeat (first | (with_reducible first | exact HB.out | apply below_alloc | apply pw_below_drewN | apply below_drew1 | refine below_set ?_ GE131.out) | exact HB.out)⟩⟩
                        · rw [if_neg c82] at H
                          have c82b0 : decide (60 < a1) = false := decide_eq_false c82
                          clear c82
                          by_cases c83 : (x9_65 == a2.toList.isEmpty) = true
                          · rw [if_pos c83] at H
                            have c83b0 : (x9_65 == a2.toList.isEmpty) = true := c83
                            (try (have c83b1 : decide (x9_65 = a2.toList.isEmpty) = true := by simpa using c83))
                            (try (have c83b2 : (x9_65 == a2.toList.isEmpty) = true := by simpa using c83))
                            clear c83
                            have H' := Aside0.mk H
                            clear H
                            go_wp2
                            go_meet
                            case rel => exact ⟨_, (true), (by first | rfl | (simp; done) | (simp [*]; done)), H', ⟨by have := HJ65.out; have := HJ71.out; first | omega | exact Nat.le_refl _⟩, ⟨by (with_reducible repeat (first | refine blk_drewN ?_ _ | refine blk_drew ?_ | refine blk_alloc ?_ _)); exact BK131.out⟩, ⟨by repeat (first | (with_reducible first | exact HB.out | apply below_alloc | apply pw_below_drewN | apply below_drew1 | refine below_set ?_ GE131.out) | exact HB.out)⟩⟩
                          · rw [if_neg c83] at H
                            have c83b0 : (x9_65 == a2.toList.isEmpty) = false := by simpa using c83
                            (try (have c83b1 : decide (x9_65 = a2.toList.isEmpty) = false := by simpa using c83))
                            (try (have c83b2 : (x9_65 == a2.toList.isEmpty) = false := by simpa using c83))
                            (try (have c83b3 : ¬ (x9_65 = a2.toList.isEmpty) := by simpa using c83))
                            clear c83
                            by_cases c84 : a0 = 1
                            · rw [if_pos c84] at H
                              have c84b0 : (a0 == 1) = true := beq_iff_eq.mpr c84
                              have c84b1 : (a0 != 1) = false := bne_eq_false_iff_eq.mpr c84
                              clear c84
                              by_cases c85 : x10_71 = true
                              · subst c85
                                have H1 : (if a0 = 3 then (if a1 = 0 then (gristmilllaw14_TagsKinds.j2 kj71 true true) else (if a0 ≥ 5 then (gristmilllaw14_TagsKinds.j2 kj71 true (a1 != 0)) else (gristmilllaw14_TagsKinds.j2 kj71 true false))) else (if a0 = 4 then (if a1 = 0 then (gristmilllaw14_TagsKinds.j2 kj71 true true) else (if a0 ≥ 5 then (gristmilllaw14_TagsKinds.j2 kj71 true (a1 != 0)) else (gristmilllaw14_TagsKinds.j2 kj71 true false))) else (if a0 ≥ 5 then (gristmilllaw14_TagsKinds.j2 kj71 true (a1 != 0)) else (gristmilllaw14_TagsKinds.j2 kj71 true false)))) = some r := by rw [if_pos rfl] at H; exact H
                                clear H
                                have H := H1
                                clear H1
                                by_cases c86 : a0 = 3
                                · rw [if_pos c86] at H
                                  have c86b0 : (a0 == 3) = true := beq_iff_eq.mpr c86
                                  have c86b1 : (a0 != 3) = false := bne_eq_false_iff_eq.mpr c86
                                  clear c86
                                  by_cases c87 : a1 = 0
                                  · rw [if_pos c87] at H
                                    have c87b0 : (a1 == 0) = true := beq_iff_eq.mpr c87
                                    have c87b1 : (a1 != 0) = false := bne_eq_false_iff_eq.mpr c87
                                    clear c87
                                    have H' := Aside0.mk H
                                    clear H
                                    go_wp2
                                    go_meet
                                    case rel => exact ⟨_, (true), (by first | rfl | (simp; done) | (simp [*]; done)), H', ⟨by have := HJ65.out; have := HJ71.out; first | omega | exact Nat.le_refl _⟩, ⟨by (with_reducible repeat (first | refine blk_drewN ?_ _ | refine blk_drew ?_ | refine blk_alloc ?_ _)); exact BK131.out⟩, ⟨by repeat (first | (with_reducible first | exact HB.out | apply below_alloc | apply pw_below_drewN | apply below_drew1 | refine below_set ?_ GE131.out) | exact HB.out)⟩⟩
                                  · rw [if_neg c87] at H
                                    have c87b0 : (a1 == 0) = false := beq_eq_false_iff_ne.mpr c87
                                    have c87b1 : (a1 != 0) = true := bne_iff_ne.mpr c87
                                    by_cases c88 : a0 ≥ 5
                                    · rw [if_pos c88] at H
                                      have c88b0 : decide (5 ≤ a0) = true := decide_eq_true c88
                                      clear c88
                                      have H' := Aside0.mk H
                                      clear H
                                      go_wp2
                                      go_meet
                                      case rel => exact ⟨_, ((a1 != 0)), (by first | rfl | (simp; done) | (simp [*]; done)), H', ⟨by have := HJ65.out; have := HJ71.out; first | omega | exact Nat.le_refl _⟩, ⟨by (with_reducible repeat (first | refine blk_drewN ?_ _ | refine blk_drew ?_ | refine blk_alloc ?_ _)); exact BK131.out⟩, ⟨by repeat (first | (with_reducible first | exact HB.out | apply below_alloc | apply pw_below_drewN | apply below_drew1 | refine below_set ?_ GE131.out) | exact HB.out)⟩⟩
                                    · rw [if_neg c88] at H
                                      have c88b0 : decide (5 ≤ a0) = false := decide_eq_false c88
                                      clear c88
                                      have H' := Aside0.mk H
                                      clear H
                                      go_wp2
                                      go_meet
                                      case rel => exact ⟨_, (false), (by first | rfl | (simp; done) | (simp [*]; done)), H', ⟨by have := HJ65.out; have := HJ71.out; first | omega | exact Nat.le_refl _⟩, ⟨by (with_reducible repeat (first | refine blk_drewN ?_ _ | refine blk_drew ?_ | refine blk_alloc ?_ _)); exact BK131.out⟩, ⟨by repeat (first | (with_reducible first | exact HB.out | apply below_alloc | apply pw_below_drewN | apply below_drew1 | refine below_set ?_ GE131.out) | exact HB.out)⟩⟩
                                · rw [if_neg c86] at H
                                  have c86b0 : (a0 == 3) = false := beq_eq_false_iff_ne.mpr c86
                                  have c86b1 : (a0 != 3) = true := bne_iff_ne.mpr c86
                                  by_cases c89 : a0 = 4
                                  · rw [if_pos c89] at H
                                    have c89b0 : (a0 == 4) = true := beq_iff_eq.mpr c89
                                    have c89b1 : (a0 != 4) = false := bne_eq_false_iff_eq.mpr c89
                                    clear c89
                                    by_cases c90 : a1 = 0
                                    · rw [if_pos c90] at H
                                      have c90b0 : (a1 == 0) = true := beq_iff_eq.mpr c90
                                      have c90b1 : (a1 != 0) = false := bne_eq_false_iff_eq.mpr c90
                                      clear c90
                                      have H' := Aside0.mk H
                                      clear H
                                      go_wp2
                                      go_meet
                                      case rel => exact ⟨_, (true), (by first | rfl | (simp; done) | (simp [*]; done)), H', ⟨by have := HJ65.out; have := HJ71.out; first | omega | exact Nat.le_refl _⟩, ⟨by (with_reducible repeat (first | refine blk_drewN ?_ _ | refine blk_drew ?_ | refine blk_alloc ?_ _)); exact BK131.out⟩, ⟨by repeat (first | (with_reducible first | exact HB.out | apply below_alloc | apply pw_below_drewN | apply below_drew1 | refine below_set ?_ GE131.out) | exact HB.out)⟩⟩
                                    · rw [if_neg c90] at H
                                      have c90b0 : (a1 == 0) = false := beq_eq_false_iff_ne.mpr c90
                                      have c90b1 : (a1 != 0) = true := bne_iff_ne.mpr c90
                                      by_cases c91 : a0 ≥ 5
                                      · rw [if_pos c91] at H
                                        have c91b0 : decide (5 ≤ a0) = true := decide_eq_true c91
                                        clear c91
                                        have H' := Aside0.mk H
                                        clear H
                                        go_wp2
                                        go_meet
                                        case rel => exact ⟨_, ((a1 != 0)), (by first | rfl | (simp; done) | (simp [*]; done)), H', ⟨by have := HJ65.out; have := HJ71.out; first | omega | exact Nat.le_refl _⟩, ⟨by (with_reducible repeat (first | refine blk_drewN ?_ _ | refine blk_drew ?_ | refine blk_alloc ?_ _)); exact BK131.out⟩, ⟨by repeat (first | (with_reducible first | exact HB.out | apply below_alloc | apply pw_below_drewN | apply below_drew1 | refine below_set ?_ GE131.out) | exact HB.out)⟩⟩
                                      · rw [if_neg c91] at H
                                        have c91b0 : decide (5 ≤ a0) = false := decide_eq_false c91
                                        clear c91
                                        have H' := Aside0.mk H
                                        clear H
                                        go_wp2
                                        go_meet
                                        case rel => exact ⟨_, (false), (by first | rfl | (simp; done) | (simp [*]; done)), H', ⟨by have := HJ65.out; have := HJ71.out; first | omega | exact Nat.le_refl _⟩, ⟨by (with_reducible repeat (first | refine blk_drewN ?_ _ | refine blk_drew ?_ | refine blk_alloc ?_ _)); exact BK131.out⟩, ⟨by repeat (first | (with_reducible first | exact HB.out | apply below_alloc | apply pw_below_drewN | apply below_drew1 | refine below_set ?_ GE131.out) | exact HB.out)⟩⟩
                                  · rw [if_neg c89] at H
                                    have c89b0 : (a0 == 4) = false := beq_eq_false_iff_ne.mpr c89
                                    have c89b1 : (a0 != 4) = true := bne_iff_ne.mpr c89
                                    by_cases c92 : a0 ≥ 5
                                    · rw [if_pos c92] at H
                                      have c92b0 : decide (5 ≤ a0) = true := decide_eq_true c92
                                      clear c92
                                      have H' := Aside0.mk H
                                      clear H
                                      go_wp2
                                      go_meet
                                      case rel => exact ⟨_, ((a1 != 0)), (by first | rfl | (simp; done) | (simp [*]; done)), H', ⟨by have := HJ65.out; have := HJ71.out; first | omega | exact Nat.le_refl _⟩, ⟨by (with_reducible repeat (first | refine blk_drewN ?_ _ | refine blk_drew ?_ | refine blk_alloc ?_ _)); exact BK131.out⟩, ⟨by repeat (first | (with_reducible first | exact HB.out | apply below_alloc | apply pw_below_drewN | apply below_drew1 | refine below_set ?_ GE131.out) | exact HB.out)⟩⟩
                                    · rw [if_neg c92] at H
                                      have c92b0 : decide (5 ≤ a0) = false := decide_eq_false c92
                                      clear c92
                                      have H' := Aside0.mk H
                                      clear H
                                      go_wp2
                                      go_meet
                                      case rel => exact ⟨_, (false), (by first | rfl | (simp; done) | (simp [*]; done)), H', ⟨by have := HJ65.out; have := HJ71.out; first | omega | exact Nat.le_refl _⟩, ⟨by (with_reducible repeat (first | refine blk_drewN ?_ _ | refine blk_drew ?_ | refine blk_alloc ?_ _)); exact BK131.out⟩, ⟨by repeat (first | (with_reducible first | exact HB.out | apply below_alloc | apply pw_below_drewN | apply below_drew1 | refine below_set ?_ GE131.out) | exact HB.out)⟩⟩
                              · replace c85 := Bool.eq_false_iff.mpr c85
                                subst c85
                                have H1 : (gristmilllaw14_TagsKinds.j2 kj71 true true) = some r := by rw [if_neg (show ¬ (false = true) by decide)] at H; exact H
                                clear H
                                have H := H1
                                clear H1
                                have H' := Aside0.mk H
                                clear H
                                go_wp2
                                go_meet
                                case rel => exact ⟨_, (true), (by first | rfl | (simp; done) | (simp [*]; done)), H', ⟨by have := HJ65.out; have := HJ71.out; first | omega | exact Nat.le_refl _⟩, ⟨by (with_reducible repeat (first | refine blk_drewN ?_ _ | refine blk_drew ?_ | refine blk_alloc ?_ _)); exact BK131.out⟩, ⟨by repeat (first | (with_reducible first | exact HB.out | apply below_alloc | apply pw_below_drewN | apply below_drew1 | refine below_set ?_ GE131.out) | exact HB.out)⟩⟩
                            · rw [if_neg c84] at H
                              have c84b0 : (a0 == 1) = false := beq_eq_false_iff_ne.mpr c84
                              have c84b1 : (a0 != 1) = true := bne_iff_ne.mpr c84
                              by_cases c93 : a0 = 3
                              · rw [if_pos c93] at H
                                have c93b0 : (a0 == 3) = true := beq_iff_eq.mpr c93
                                have c93b1 : (a0 != 3) = false := bne_eq_false_iff_eq.mpr c93
                                clear c93
                                by_cases c94 : a1 = 0
                                · rw [if_pos c94] at H
                                  have c94b0 : (a1 == 0) = true := beq_iff_eq.mpr c94
                                  have c94b1 : (a1 != 0) = false := bne_eq_false_iff_eq.mpr c94
                                  clear c94
                                  have H' := Aside0.mk H
                                  clear H
                                  go_wp2
                                  go_meet
                                  case rel => exact ⟨_, (true), (by first | rfl | (simp; done) | (simp [*]; done)), H', ⟨by have := HJ65.out; have := HJ71.out; first | omega | exact Nat.le_refl _⟩, ⟨by (with_reducible repeat (first | refine blk_drewN ?_ _ | refine blk_drew ?_ | refine blk_alloc ?_ _)); exact BK131.out⟩, ⟨by repeat (first | (with_reducible first | exact HB.out | apply below_alloc | apply pw_below_drewN | apply below_drew1 | refine below_set ?_ GE131.out) | exact HB.out)⟩⟩
                                · rw [if_neg c94] at H
                                  have c94b0 : (a1 == 0) = false := beq_eq_false_iff_ne.mpr c94
                                  have c94b1 : (a1 != 0) = true := bne_iff_ne.mpr c94
                                  by_cases c95 : a0 ≥ 5
                                  · rw [if_pos c95] at H
                                    have c95b0 : decide (5 ≤ a0) = true := decide_eq_true c95
                                    clear c95
                                    have H' := Aside0.mk H
                                    clear H
                                    go_wp2
                                    go_meet
                                    case rel => exact ⟨_, ((a1 != 0)), (by first | rfl | (simp; done) | (simp [*]; done)), H', ⟨by have := HJ65.out; have := HJ71.out; first | omega | exact Nat.le_refl _⟩, ⟨by (with_reducible repeat (first | refine blk_drewN ?_ _ | refine blk_drew ?_ | refine blk_alloc ?_ _)); exact BK131.out⟩, ⟨by repeat (first | (with_reducible first | exact HB.out | apply below_alloc | apply pw_below_drewN | apply below_drew1 | refine below_set ?_ GE131.out) | exact HB.out)⟩⟩
                                  · rw [if_neg c95] at H
                                    have c95b0 : decide (5 ≤ a0) = false := decide_eq_false c95
                                    clear c95
                                    have H' := Aside0.mk H
                                    clear H
                                    go_wp2
                                    go_meet
                                    case rel => exact ⟨_, (false), (by first | rfl | (simp; done) | (simp [*]; done)), H', ⟨by have := HJ65.out; have := HJ71.out; first | omega | exact Nat.le_refl _⟩, ⟨by (with_reducible repeat (first | refine blk_drewN ?_ _ | refine blk_drew ?_ | refine blk_alloc ?_ _)); exact BK131.out⟩, ⟨by repeat (first | (with_reducible first | exact HB.out | apply below_alloc | apply pw_below_drewN | apply below_drew1 | refine below_set ?_ GE131.out) | exact HB.out)⟩⟩
                              · rw [if_neg c93] at H
                                have c93b0 : (a0 == 3) = false := beq_eq_false_iff_ne.mpr c93
                                have c93b1 : (a0 != 3) = true := bne_iff_ne.mpr c93
                                by_cases c96 : a0 = 4
                                · rw [if_pos c96] at H
                                  have c96b0 : (a0 == 4) = true := beq_iff_eq.mpr c96
                                  have c96b1 : (a0 != 4) = false := bne_eq_false_iff_eq.mpr c96
                                  clear c96
                                  by_cases c97 : a1 = 0
                                  · rw [if_pos c97] at H
                                    have c97b0 : (a1 == 0) = true := beq_iff_eq.mpr c97
                                    have c97b1 : (a1 != 0) = false := bne_eq_false_iff_eq.mpr c97
                                    clear c97
                                    have H' := Aside0.mk H
                                    clear H
                                    go_wp2
                                    go_meet
                                    case rel => exact ⟨_, (true), (by first | rfl | (simp; done) | (simp [*]; done)), H', ⟨by have := HJ65.out; have := HJ71.out; first | omega | exact Nat.le_refl _⟩, ⟨by (with_reducible repeat (first | refine blk_drewN ?_ _ | refine blk_drew ?_ | refine blk_alloc ?_ _)); exact BK131.out⟩, ⟨by repeat (first | (with_reducible first | exact HB.out | apply below_alloc | apply pw_below_drewN | apply below_drew1 | refine below_set ?_ GE131.out) | exact HB.out)⟩⟩
                                  · rw [if_neg c97] at H
                                    have c97b0 : (a1 == 0) = false := beq_eq_false_iff_ne.mpr c97
                                    have c97b1 : (a1 != 0) = true := bne_iff_ne.mpr c97
                                    by_cases c98 : a0 ≥ 5
                                    · rw [if_pos c98] at H
                                      have c98b0 : decide (5 ≤ a0) = true := decide_eq_true c98
                                      clear c98
                                      have H' := Aside0.mk H
                                      clear H
                                      go_wp2
                                      go_meet
                                      case rel => exact ⟨_, ((a1 != 0)), (by first | rfl | (simp; done) | (simp [*]; done)), H', ⟨by have := HJ65.out; have := HJ71.out; first | omega | exact Nat.le_refl _⟩, ⟨by (with_reducible repeat (first | refine blk_drewN ?_ _ | refine blk_drew ?_ | refine blk_alloc ?_ _)); exact BK131.out⟩, ⟨by repeat (first | (with_reducible first | exact HB.out | apply below_alloc | apply pw_below_drewN | apply below_drew1 | refine below_set ?_ GE131.out) | exact HB.out)⟩⟩
                                    · rw [if_neg c98] at H
                                      have c98b0 : decide (5 ≤ a0) = false := decide_eq_false c98
                                      clear c98
                                      have H' := Aside0.mk H
                                      clear H
                                      go_wp2
                                      go_meet
                                      case rel => exact ⟨_, (false), (by first | rfl | (simp; done) | (simp [*]; done)), H', ⟨by have := HJ65.out; have := HJ71.out; first | omega | exact Nat.le_refl _⟩, ⟨by (with_reducible repeat (first | refine blk_drewN ?_ _ | refine blk_drew ?_ | refine blk_alloc ?_ _)); exact BK131.out⟩, ⟨by repeat (first | (with_reducible first | exact HB.out | apply below_alloc | apply pw_below_drewN | apply below_drew1 | refine below_set ?_ GE131.out) | exact HB.out)⟩⟩
                                · rw [if_neg c96] at H
                                  have c96b0 : (a0 == 4) = false := beq_eq_false_iff_ne.mpr c96
                                  have c96b1 : (a0 != 4) = true := bne_iff_ne.mpr c96
                                  by_cases c99 : a0 ≥ 5
                                  · rw [if_pos c99] at H
                                    have c99b0 : decide (5 ≤ a0) = true := decide_eq_true c99
                                    clear c99
                                    have H' := Aside0.mk H
                                    clear H
                                    go_wp2
                                    go_meet
                                    case rel => exact ⟨_, ((a1 != 0)), (by first | rfl | (simp; done) | (simp [*]; done)), H', ⟨by have := HJ65.out; have := HJ71.out; first | omega | exact Nat.le_refl _⟩, ⟨by (with_reducible repeat (first | refine blk_drewN ?_ _ | refine blk_drew ?_ | refine blk_alloc ?_ _)); exact BK131.out⟩, ⟨by repeat (first | (with_reducible first | exact HB.out | apply below_alloc | apply pw_below_drewN | apply below_drew1 | refine below_set ?_ GE131.out) | exact HB.out)⟩⟩
                                  · rw [if_neg c99] at H
                                    have c99b0 : decide (5 ≤ a0) = false := decide_eq_false c99
                                    clear c99
                                    have H' := Aside0.mk H
                                    clear H
                                    go_wp2
                                    go_meet
                                    case rel => exact ⟨_, (false), (by first | rfl | (simp; done) | (simp [*]; done)), H', ⟨by have := HJ65.out; have := HJ71.out; first | omega | exact Nat.le_refl _⟩, ⟨by (with_reducible repeat (first | refine blk_drewN ?_ _ | refine blk_drew ?_ | refine blk_alloc ?_ _)); exact BK131.out⟩, ⟨by repeat (first | (with_reducible first | exact HB.out | apply below_alloc | apply pw_below_drewN | apply below_drew1 | refine below_set ?_ GE131.out) | exact HB.out)⟩⟩
                case rest =>
                  clear HC78
                  try clear c1
                  try clear c2
                  try clear p2
                  try clear c3
                  try clear c5
                  try clear c6
                  try clear c6b0
                  try clear c6b1
                  try clear c7
                  try clear p7
                  try clear q7
                  try clear hx7
                  try clear qi7
                  try clear c8
                  try clear c9
                  try clear c15
                  try clear c15b0
                  try clear c15b1
                  try clear c17
                  try clear c17b0
                  try clear c17b1
                  try clear c20
                  try clear c20b0
                  try clear c20b1
                  try clear c20b2
                  try clear c22
                  try clear c22b0
                  try clear c22b1
                  try clear c22b2
                  try clear c24
                  try clear c24b0
                  try clear c24b1
                  try clear c26
                  try clear c71
                  try clear c71b0
                  try clear c73
                  try clear c73b0
                  try clear c73b1
                  try clear c74
                  try clear c74b0
                  try clear c74b1
                  try clear p75
                  try clear q75
                  try clear hx75
                  try clear qi75
                  try clear c76
                  try clear c76b0
                  try clear p77
                  try clear q77
                  try clear hx77
                  try clear qi77
                  try clear c79
                  try clear c79b0
                  try clear c80
                  try clear c80b0
                  try clear c81
                  try clear c81b0
                  try clear c82
                  try clear c82b0
                  try clear c83
                  try clear c83b0
                  try clear c83b1
                  try clear c83b2
                  try clear c84
                  try clear c84b0
                  try clear c84b1
                  try clear c85
                  try clear c86
                  try clear c86b0
                  try clear c86b1
                  try clear c87
                  try clear c87b0
                  try clear c87b1
                  try clear c88
                  try clear c88b0
                  try clear c89
                  try clear c89b0
                  try clear c89b1
                  try clear c90
                  try clear c90b0
                  try clear c90b1
                  try clear c91
                  try clear c91b0
                  try clear c92
                  try clear c92b0
                  try clear c93
                  try clear c93b0
                  try clear c93b1
                  try clear c94
                  try clear c94b0
                  try clear c94b1
                  try clear c95
                  try clear c95b0
                  try clear c96
                  try clear c96b0
                  try clear c96b1
                  try clear c97
                  try clear c97b0
                  try clear c97b1
                  try clear c98
                  try clear c98b0
                  try clear c99
                  try clear c99b0
                  try clear hcz13_0
                  try clear hcz13_1
                  try clear hcz13_2
                  try clear hcz28_0
                  try clear hcz28_1
                  try clear hcz28_2
                  try clear hcz30_0
                  try clear hcz30_1
                  try clear hcz30_2
                  try clear hcz32_0
                  try clear hcz32_1
                  try clear hcz32_2
                  try clear hcz34_0
                  try clear hcz34_1
                  try clear hcz34_2
                  try clear hcz37_0
                  try clear hcz37_1
                  try clear hcz37_2
                  try clear hcz40_0
                  try clear hcz40_1
                  try clear hcz40_2
                  try clear hcz42_0
                  try clear hcz42_1
                  try clear hcz42_2
                  try clear hcz44_0
                  try clear hcz44_1
                  try clear hcz44_2
                  try clear hcz46_0
                  try clear hcz46_1
                  try clear hcz46_2
                  try clear hcz48_0
                  try clear hcz48_1
                  try clear hcz48_2
                  try clear hcz51_0
                  try clear hcz51_1
                  try clear hcz51_2
                  try clear hcz54_0
                  try clear hcz54_1
                  try clear hcz54_2
                  try clear hcz56_0
                  try clear hcz56_1
                  try clear hcz56_2
                  try clear hcz58_0
                  try clear hcz58_1
                  try clear hcz58_2
                  try clear hcz60_0
                  try clear hcz60_1
                  try clear hcz60_2
                  try clear hcz62_0
                  try clear hcz62_1
                  try clear hcz62_2
                  try clear hcz64_0
                  try clear hcz64_1
                  try clear hcz64_2
                  try clear hcz69_0
                  try clear hcz69_1
                  try clear hcz69_2
                  try clear hfz13_0
                  try clear hfz13_1
                  try clear hfz13_2
                  try clear hfz28_0
                  try clear hfz28_1
                  try clear hfz28_2
                  try clear hfz30_0
                  try clear hfz30_1
                  try clear hfz30_2
                  try clear hfz32_0
                  try clear hfz32_1
                  try clear hfz32_2
                  try clear hfz34_0
                  try clear hfz34_1
                  try clear hfz34_2
                  try clear hfz37_0
                  try clear hfz37_1
                  try clear hfz37_2
                  try clear hfz40_0
                  try clear hfz40_1
                  try clear hfz40_2
                  try clear hfz42_0
                  try clear hfz42_1
                  try clear hfz42_2
                  try clear hfz44_0
                  try clear hfz44_1
                  try clear hfz44_2
                  try clear hfz46_0
                  try clear hfz46_1
                  try clear hfz46_2
                  try clear hfz48_0
                  try clear hfz48_1
                  try clear hfz48_2
                  try clear hfz51_0
                  try clear hfz51_1
                  try clear hfz51_2
                  try clear hfz54_0
                  try clear hfz54_1
                  try clear hfz54_2
                  try clear hfz56_0
                  try clear hfz56_1
                  try clear hfz56_2
                  try clear hfz58_0
                  try clear hfz58_1
                  try clear hfz58_2
                  try clear hfz60_0
                  try clear hfz60_1
                  try clear hfz60_2
                  try clear hfz62_0
                  try clear hfz62_1
                  try clear hfz62_2
                  try clear hfz64_0
                  try clear hfz64_1
                  try clear hfz64_2
                  try clear hfz69_0
                  try clear hfz69_1
                  try clear hfz69_2
                  try clear p2
                  try clear p7
                  try clear p75
                  try clear p77
                  try clear q7
                  try clear q75
                  try clear q77
                  obtain ⟨kq, x11_77, rfl, HA, HJ77, BK131, HB⟩ := hcut
                  cases kq with
                  | zero => exact absurd HA.out (by simp [gristmilllaw14_TagsKinds.j2])
                  | succ kj77 =>
                    have H := HA.out
                    clear HA
                    simp only [gristmilllaw14_TagsKinds.j2] at H
                    have HC100 := Aside0.mk H
                    clear H
                    go_upto_region 11 with (fail)
                    go_cut [6] (fun v6 wc => ∃ (kq : Nat) (x6_99 : Bool), v6 = .bool x6_99 ∧ Aside0 (gristmilllaw14_TagsKinds.j3 kq x6_99 = some r) ∧ Aside0 (kq ≤ kj77) ∧ Aside0 (wc.heap[gb131]? = some (.cells #[.int .i64 a0, .string a2, .int .i64 a1] 23 (0, 0))) ∧ Aside0 (Below w.heap.size w wc))
                    case first => as_aux_lemma =>
                      have H := HC100.out
                      clear HC100
                      have H1 : (gristmilllaw14_TagsKinds.j3 kj77 x11_77) = some r := by first | exact H | (rw [if_pos rfl] at H; exact H)
                      clear H
                      have H := H1
                      clear H1
                      have H' := Aside0.mk H
                      clear H
                      go_wp2
                      go_meet
                      case rel => exact ⟨_, (x11_77), (by first | rfl | (simp; done) | (simp [*]; done)), H', ⟨by have := HJ65.out; have := HJ71.out; have := HJ77.out; first | omega | exact Nat.le_refl _⟩, ⟨by (with_reducible repeat (first | refine blk_drewN ?_ _ | refine blk_drew ?_ | refine blk_alloc ?_ _)); exact BK131.out⟩, ⟨by repeat (first | (with_reducible first | exact HB.out | apply below_alloc | apply pw_below_drewN | apply below_drew1 | refine below_set ?_ GE131.out) | exact HB.out)⟩⟩
                    case rest =>
                      clear HC100
                      try clear c1
                      try clear c2
                      try clear p2
                      try clear c3
                      try clear c5
                      try clear c6
                      try clear c6b0
                      try clear c6b1
                      try clear c7
                      try clear p7
                      try clear q7
                      try clear hx7
                      try clear qi7
                      try clear c8
                      try clear c9
                      try clear c15
                      try clear c15b0
                      try clear c15b1
                      try clear c17
                      try clear c17b0
                      try clear c17b1
                      try clear c20
                      try clear c20b0
                      try clear c20b1
                      try clear c20b2
                      try clear c22
                      try clear c22b0
                      try clear c22b1
                      try clear c22b2
                      try clear c24
                      try clear c24b0
                      try clear c24b1
                      try clear c26
                      try clear c71
                      try clear c71b0
                      try clear c73
                      try clear c73b0
                      try clear c73b1
                      try clear c74
                      try clear c74b0
                      try clear c74b1
                      try clear p75
                      try clear q75
                      try clear hx75
                      try clear qi75
                      try clear c76
                      try clear c76b0
                      try clear p77
                      try clear q77
                      try clear hx77
                      try clear qi77
                      try clear c79
                      try clear c79b0
                      try clear c80
                      try clear c80b0
                      try clear c81
                      try clear c81b0
                      try clear c82
                      try clear c82b0
                      try clear c83
                      try clear c83b0
                      try clear c83b1
                      try clear c83b2
                      try clear c84
                      try clear c84b0
                      try clear c84b1
                      try clear c85
                      try clear c86
                      try clear c86b0
                      try clear c86b1
                      try clear c87
                      try clear c87b0
                      try clear c87b1
                      try clear c88
                      try clear c88b0
                      try clear c89
                      try clear c89b0
                      try clear c89b1
                      try clear c90
                      try clear c90b0
                      try clear c90b1
                      try clear c91
                      try clear c91b0
                      try clear c92
                      try clear c92b0
                      try clear c93
                      try clear c93b0
                      try clear c93b1
                      try clear c94
                      try clear c94b0
                      try clear c94b1
                      try clear c95
                      try clear c95b0
                      try clear c96
                      try clear c96b0
                      try clear c96b1
                      try clear c97
                      try clear c97b0
                      try clear c97b1
                      try clear c98
                      try clear c98b0
                      try clear c99
                      try clear c99b0
                      try clear hcz13_0
                      try clear hcz13_1
                      try clear hcz13_2
                      try clear hcz28_0
                      try clear hcz28_1
                      try clear hcz28_2
                      try clear hcz30_0
                      try clear hcz30_1
                      try clear hcz30_2
                      try clear hcz32_0
                      try clear hcz32_1
                      try clear hcz32_2
                      try clear hcz34_0
                      try clear hcz34_1
                      try clear hcz34_2
                      try clear hcz37_0
                      try clear hcz37_1
                      try clear hcz37_2
                      try clear hcz40_0
                      try clear hcz40_1
                      try clear hcz40_2
                      try clear hcz42_0
                      try clear hcz42_1
                      try clear hcz42_2
                      try clear hcz44_0
                      try clear hcz44_1
                      try clear hcz44_2
                      try clear hcz46_0
                      try clear hcz46_1
                      try clear hcz46_2
                      try clear hcz48_0
                      try clear hcz48_1
                      try clear hcz48_2
                      try clear hcz51_0
                      try clear hcz51_1
                      try clear hcz51_2
                      try clear hcz54_0
                      try clear hcz54_1
                      try clear hcz54_2
                      try clear hcz56_0
                      try clear hcz56_1
                      try clear hcz56_2
                      try clear hcz58_0
                      try clear hcz58_1
                      try clear hcz58_2
                      try clear hcz60_0
                      try clear hcz60_1
                      try clear hcz60_2
                      try clear hcz62_0
                      try clear hcz62_1
                      try clear hcz62_2
                      try clear hcz64_0
                      try clear hcz64_1
                      try clear hcz64_2
                      try clear hcz69_0
                      try clear hcz69_1
                      try clear hcz69_2
                      try clear hfz13_0
                      try clear hfz13_1
                      try clear hfz13_2
                      try clear hfz28_0
                      try clear hfz28_1
                      try clear hfz28_2
                      try clear hfz30_0
                      try clear hfz30_1
                      try clear hfz30_2
                      try clear hfz32_0
                      try clear hfz32_1
                      try clear hfz32_2
                      try clear hfz34_0
                      try clear hfz34_1
                      try clear hfz34_2
                      try clear hfz37_0
                      try clear hfz37_1
                      try clear hfz37_2
                      try clear hfz40_0
                      try clear hfz40_1
                      try clear hfz40_2
                      try clear hfz42_0
                      try clear hfz42_1
                      try clear hfz42_2
                      try clear hfz44_0
                      try clear hfz44_1
                      try clear hfz44_2
                      try clear hfz46_0
                      try clear hfz46_1
                      try clear hfz46_2
                      try clear hfz48_0
                      try clear hfz48_1
                      try clear hfz48_2
                      try clear hfz51_0
                      try clear hfz51_1
                      try clear hfz51_2
                      try clear hfz54_0
                      try clear hfz54_1
                      try clear hfz54_2
                      try clear hfz56_0
                      try clear hfz56_1
                      try clear hfz56_2
                      try clear hfz58_0
                      try clear hfz58_1
                      try clear hfz58_2
                      try clear hfz60_0
                      try clear hfz60_1
                      try clear hfz60_2
                      try clear hfz62_0
                      try clear hfz62_1
                      try clear hfz62_2
                      try clear hfz64_0
                      try clear hfz64_1
                      try clear hfz64_2
                      try clear hfz69_0
                      try clear hfz69_1
                      try clear hfz69_2
                      try clear p2
                      try clear p7
                      try clear p75
                      try clear p77
                      try clear q7
                      try clear q75
                      try clear q77
                      obtain ⟨kq, x6_99, rfl, HA, HJ99, BK131, HB⟩ := hcut
                      cases kq with
                      | zero => exact absurd HA.out (by simp [gristmilllaw14_TagsKinds.j3])
                      | succ kj99 =>
                        have H := HA.out
                        clear HA
                        simp only [gristmilllaw14_TagsKinds.j3] at H
                        obtain rfl := Option.some.inj H
                        go_wp2
                        go_ret
                        exact ⟨by first | rfl | (simp [errW_none, errW_some] <;> rfl) | (simp [*, errW_none, errW_some] <;> rfl) | (simp [errW_none, errW_some] <;> (rw [Bool.eq_iff_iff]; simp; done)), by repeat (first | (with_reducible first | exact HB.out | apply below_alloc | apply pw_below_drewN | apply below_drew1 | refine below_set ?_ GE131.out) | exact HB.out)⟩
  · replace c5 := Bool.eq_false_iff.mpr c5
    subst c5
    have H1 : (some false) = some r := by rw [if_neg (show ¬ (false = true) by decide)] at H; exact H
    clear H
    have H := H1
    clear H1
    obtain rfl := Option.some.inj H
    go_enter Tryd.func5, Tryd.ntmps5
    go_wp2_with (first | ((with_reducible refine gate_callee (f := 7) rfl ?_); refine goesL_ (some 14) rfl rfl Tryd.func7 (by kernel_rfl) rfl #[] rfl (by (try simp only [List.map_toArray, List.map_cons, List.map_nil]); first | done | rfl | (simp only [List.length_drop, List.length_take]; rfl)) ?_; (with_reducible refine (gristmilllaw14_first.calls  false _ A4.out).mono ?_); rintro e w101 ⟨rfl, hb⟩; refine ⟨_, rfl, ?_⟩; have n0_ := Aside0.mk (below_step (by repeat (first | (with_reducible first | exact HB.out | apply below_alloc | apply pw_below_drewN | apply below_drew1) | exact HB.out)) hb); clear HB; have HB := n0_; clear n0_; (try clear hb); (try clear hb2); (try clear hk); (try clear hi)))
    go_ret
    exact ⟨by first | rfl | (simp [errW_none, errW_some] <;> rfl) | (simp [*, errW_none, errW_some] <;> rfl) | (simp [errW_none, errW_some] <;> (rw [Bool.eq_iff_iff]; simp; done)), by repeat (first | (with_reducible first | exact HB.out | apply below_alloc | apply pw_below_drewN | apply below_drew1) | exact HB.out)⟩

/-- THE ONE PURE STATEMENT of gristmilllaw14_TagsKinds: yours. -/
def gristmilllaw14_TagsKinds.Pure : Prop := ∀ (a0 : Int) (a1 : Int) (a2 : ByteArray), (Lit.int .i64 a0).wf = true → (Lit.int .i64 a1).wf = true → a2.size ≤ 140737488351232 → ∃ k, gristmilllaw14_TagsKinds.f k a0 a1 a2 = some true
theorem gristmilllaw14_TagsKinds.walk (P : gristmilllaw14_TagsKinds.Pure) (a0 : Int) (a1 : Int) (a2 : ByteArray) (w : World) (w0 : (Lit.int .i64 a0).wf = true) (w1 : (Lit.int .i64 a1).wf = true) (w2 : a2.size ≤ 140737488351232) :
    Calls Tryd.prog 5 #[.int .i64 a0, .int .i64 a1, .string a2] w fun e w' => e = .returned (.bool true) ∧ Below w.heap.size w w' := by
  obtain ⟨k, h⟩ := P a0 a1 a2 w0 w1 w2
  refine (gristmilllaw14_TagsKinds.calls k a0 a1 a2 true w h).mono ?_
  rintro e w' ⟨rfl, hd⟩
  exact ⟨rfl, hd⟩

end Go.Proofs.YtpmpmgoddgcnjaaDoor.PTags
