/- HeapFull: plain. No condition beyond those that each states. -/
import Derived.Test.YtepaddjjdhpmpaaDoorHeapSharesP
namespace Go.Proofs.YtepaddjjdhpmpaaDoor.HeapA
open Go.RowKit Go.Proofs.YtepaddjjdhpmpaaDoorW.PrintWords Go.Proofs.YtepaddjjdhpmpaaDoorW.PrintLast Go.Proofs.YtepaddjjdhpmpaaDoorW.PrintMore Go.Proofs.YtepaddjjdhpmpaaDoor.HeapK Go.Proofs.YtepaddjjdhpmpaaDoor.PHeapP
set_option linter.unusedVariables false
set_option linter.unusedSimpArgs false
def fuZ (m : Nat) : List S33 := List.replicate m ⟨false, 0⟩
/-- Nodes until one is refused: the heap then, the roots, how many. -/
def fuA (half : Int) (m : Nat) : Nat → Nat → PH → List S33 → Option (PH × List S33 × Nat)
  | 0, _, _, _ => none
  | k + 1, n, P, rs => match pAlloc half P 3 (fuZ m) with
    | none => none
    | some (P', (p, true)) => if p = (n : Int) * szI m ∧ n ≤ 400 then fuA half m k (n + 1) P' (if n % 2 = 0 then rs ++ [⟨true, p⟩] else rs) else none
    | some (P', (_, false)) => some (P, rs, n)
def fuR (m : Nat) : Nat → List S33 → Bool
  | _, [] => true
  | i, r :: rs => r.f0 && decide (r.f1 = (i : Int) * szI m) && fuR m (i + 1) rs
def fuOk (h m : Nat) : Bool := match fuA (h : Int) m 72 0 ⟨0, 0, []⟩ [] with
  | none => false
  | some (P, rs, n) => decide ((n : Int) = (h : Int) / szI m) && decide (P.used = (n : Int) * szI m) && (match pCollect P rs with
    | none => false
    | some (P2, us) => decide (us.length = (n + 1) / 2) && fuR m 0 us && (match pAlloc (h : Int) P2 3 (fuZ m) with
      | none => false
      | some (_, (_, is)) => is == (decide (2 ≤ n) || decide (((n : Int) + 1) * szI m ≤ (h : Int)))))
theorem fu_all : ∀ h < 210, 10 ≤ h → ∀ m < 6, fuOk h m = true := by decide +kernel
theorem pAlloc_false {half : Int} {P P' : PH} {tag p : Int} {ws : List S33} (h : pAlloc half P tag ws = some (P', (p, false))) : P' = P ∧ p = 0 := by
  unfold pAlloc at h
  split at h
  · split at h
    · simp only [Option.some.injEq, Prod.mk.injEq] at h
      exact ⟨h.1.symm, h.2.1.symm⟩
    · simp at h
  · cases h
theorem fuA_step {half : Int} {m k n : Nat} {P : PH} {rs : List S33} {Q : PH × List S33 × Nat} (h : fuA half m (k + 1) n P rs = some Q) :
    (∃ P', pAlloc half P 3 (fuZ m) = some (P', ((n : Int) * szI m, true)) ∧ n ≤ 400 ∧ fuA half m k (n + 1) P' (if n % 2 = 0 then rs ++ [⟨true, (n : Int) * szI m⟩] else rs) = some Q) ∨ (pAlloc half P 3 (fuZ m) = some (P, (0, false)) ∧ Q = (P, rs, n)) := by
  simp only [fuA] at h
  split at h
  · cases h
  · rename_i P' p hp
    split at h
    · rename_i e
      obtain ⟨rfl, he⟩ := e
      exact .inl ⟨P', hp, he, h⟩
    · cases h
  · rename_i P' p hp
    obtain ⟨rfl, rfl⟩ := pAlloc_false hp
    exact .inr ⟨hp, (Option.some.inj h).symm⟩
end Go.Proofs.YtepaddjjdhpmpaaDoor.HeapA
