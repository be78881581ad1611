/- HeapLists: plain. No condition beyond those that each states. -/
import Derived.Test.YtepaddjjdhpmpaaDoorHeapL
namespace Go.Proofs.YtepaddjjdhpmpaaDoor.HeapA
open Go.RowKit Go.Proofs.YtepaddjjdhpmpaaDoorW.PrintWords Go.Proofs.YtepaddjjdhpmpaaDoorW.PrintLast Go.Proofs.YtepaddjjdhpmpaaDoorW.PrintMore Go.Proofs.YtepaddjjdhpmpaaDoor.HeapK Go.Proofs.YtepaddjjdhpmpaaDoor.PHeapP
set_option linter.unusedVariables false
set_option linter.unusedSimpArgs false
def lsP0 : PH := ⟨4, 1, [(0, ⟨7, [⟨false, 0⟩, ⟨false, -1⟩], -1⟩)]⟩
theorem ls_first : pAlloc 1000 ⟨0, 0, []⟩ 7 [⟨false, 0⟩, ⟨false, -1⟩] = some (lsP0, (0, true)) := by kernel_rfl
def lsB (p : Int) : Nat → PH → Option PH
  | 0, P => some P
  | k + 1, P => match pAlloc 1000 P 9 [⟨true, p⟩] with
    | some (P', _) => lsB p k P'
    | none => none
def lsA (m : Nat) : Nat → Nat → Int → PH → Option (PH × Int)
  | 0, _, p, P => some (P, p)
  | k + 1, i, p, P => match lsB p m P with
    | none => none
    | some P1 => match pAlloc 1000 P1 7 [⟨false, (i : Int)⟩, ⟨true, p⟩] with
      | some (P2, (q, true)) => lsA m k (i + 1) q P2
      | _ => none
def lsW (ring : Bool) (P : PH) (r : Int) : Nat → Int → Bool
  | 0, p => ring && decide (p = r)
  | j + 1, p => match pNode P p with
    | none => false
    | some nd => match nd.fs with
      | [x, y] => decide (nd.tag = 7) && !x.f0 && decide (x.f1 = (j : Int)) && (if decide (j = 0) && !ring then !y.f0 && decide (y.f1 = -1) else y.f0 && lsW ring P r j y.f1)
      | _ => false
def lsC (ring : Bool) (n : Nat) (P : PH) (p : Int) : Bool := match pCollect P [⟨false, 5⟩, ⟨true, p⟩] with
  | some (P3, [r0, r1]) => !r0.f0 && decide (r0.f1 = 5) && r1.f0 && decide (P3.used = 4 * (n : Int)) && lsW ring P3 r1.f1 n r1.f1
  | _ => false
def lsOk (k m : Nat) (ring : Bool) : Bool := match lsA m k 1 0 lsP0 with
  | none => false
  | some (P1, p) => if ring then match pSet P1 0 1 ⟨true, p⟩ with
    | none => false
    | some P2 => lsC true (k + 1) P2 p
    else lsC false (k + 1) P1 p
theorem ls_all : ∀ k < 30, ∀ m < 5, lsOk k m true = true ∧ lsOk k m false = true := by decide +kernel
theorem lsB_step {p : Int} {k : Nat} {P Q : PH} (h : lsB p (k + 1) P = some Q) : ∃ P' r, pAlloc 1000 P 9 [⟨true, p⟩] = some (P', r) ∧ lsB p k P' = some Q := by
  simp only [lsB] at h
  split at h
  · rename_i P' r hp
    exact ⟨P', r, hp, h⟩
  · cases h
theorem lsA_step {m k i : Nat} {p : Int} {P : PH} {Q : PH × Int} (h : lsA m (k + 1) i p P = some Q) : ∃ P1 P2 q, lsB p m P = some P1 ∧ pAlloc 1000 P1 7 [⟨false, (i : Int)⟩, ⟨true, p⟩] = some (P2, (q, true)) ∧ lsA m k (i + 1) q P2 = some Q := by
  simp only [lsA] at h
  split at h
  · cases h
  · rename_i P1 h1
    split at h
    · rename_i P2 q h2
      exact ⟨P1, P2, q, h1, h2, h⟩
    · cases h
theorem lsC_all {ring : Bool} {n : Nat} {P : PH} {p : Int} (h : lsC ring n P p = true) : ∃ P3 r, pCollect P [⟨false, 5⟩, ⟨true, p⟩] = some (P3, [⟨false, 5⟩, ⟨true, r⟩]) ∧ P3.used = 4 * (n : Int) ∧ lsW ring P3 r n r = true := by
  unfold lsC at h
  split at h
  · rename_i P3 r0 r1 h1
    simp only [Bool.and_eq_true, decide_eq_true_eq, Bool.not_eq_true'] at h
    obtain ⟨⟨⟨⟨a0, a1⟩, a2⟩, a3⟩, a4⟩ := h
    refine ⟨P3, r1.f1, ?_, a3, a4⟩
    rw [h1]
    cases r0
    cases r1
    simp_all
  · cases h
theorem lsW_step {ring : Bool} {P : PH} {r p : Int} {j : Nat} (h : lsW ring P r (j + 1) p = true) : ∃ nd y, pNode P p = some nd ∧ nd.fs = [⟨false, (j : Int)⟩, y] ∧ nd.tag = 7 ∧ ((j = 0 ∧ ring = false ∧ y = ⟨false, -1⟩) ∨ ((j ≠ 0 ∨ ring = true) ∧ y.f0 = true ∧ lsW ring P r j y.f1 = true)) := by
  simp only [lsW] at h
  split at h
  · cases h
  · rename_i nd h1
    split at h
    · rename_i x y h2
      simp only [Bool.and_eq_true, decide_eq_true_eq, Bool.not_eq_true'] at h
      obtain ⟨⟨⟨a0, a1⟩, a2⟩, a3⟩ := h
      refine ⟨nd, y, h1, ?_, a0, ?_⟩
      · rw [h2]
        cases x
        simp_all
      · split at a3
        · rename_i hc
          simp only [Bool.and_eq_true, decide_eq_true_eq, Bool.not_eq_true'] at a3
          exact .inl ⟨hc.1, hc.2, by cases y; simp_all⟩
        · rename_i hc
          simp only [Bool.and_eq_true] at a3
          refine .inr ⟨?_, a3.1, a3.2⟩
          by_cases hj : j = 0
          · right
            cases ring
            · exact absurd ⟨hj, rfl⟩ hc
            · rfl
          · exact .inl hj
    · cases h
end Go.Proofs.YtepaddjjdhpmpaaDoor.HeapA
