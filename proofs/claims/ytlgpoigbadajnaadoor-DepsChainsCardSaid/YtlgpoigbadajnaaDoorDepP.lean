/- DepsChains: what it builds. No condition beyond those that each states. -/
import Derived.Test.YtlgpoigbadajnaaDoorDepL
import Derived.Test.YtlgpoigbadajnaaDoorShelf
namespace Go.Proofs.YtlgpoigbadajnaaDoor.DepA
open Go.RowKit Go.Proofs.YtlgpoigbadajnaaDoorW.PrintWords Go.Proofs.YtlgpoigbadajnaaDoorW.PrintLast Go.Proofs.YtlgpoigbadajnaaDoorW.PrintMore Go.Proofs.YtlgpoigbadajnaaDoor.PDepA
set_option linter.unusedVariables false
set_option linter.unusedSimpArgs false
def numT (i : Nat) : ByteArray := ⟨(Lib.decDigits i).toArray⟩
theorem num_all : ((List.range 100).all fun i => decide ((numT i).size ≤ 20)) = true := by decide +kernel
theorem num_size {i : Nat} (hi : i < 100) : ¬ 9223372036854775807 < 1 + (numT i).size := by
  have h := List.all_eq_true.1 num_all i (List.mem_range.2 hi)
  simp only [decide_eq_true_eq] at h
  omega
def dn (i : Nat) : ByteArray := ⟨#[100]⟩ ++ numT i
def d0 : ByteArray := ⟨#[100, 48]⟩
theorem num_calls (i : Nat) (hi : i < 100) (w : World) : Calls Tryd.prog 10 #[.int .i64 (i : Int)] w fun e w' => e = .returned (.string (numT i)) ∧ Below w.heap.size w w' := by
  have T1 := Tryd.strconv_Itoa_small i hi w
  go_enter Tryd.func10, Tryd.ntmps10
  go_wp2_with (first | (go_at_call 26; go_loud (with_reducible refine T1.mono ?_); rintro e w1 ⟨rfl, rfl⟩; clear T1))
  go_ret
  exact ⟨rfl, Below.refl _ _⟩
theorem number9 (k : Int) : ∃ r : Nat, PDepS.gristmillworld_Number.f k 9 = some (r : Int) ∧ r < 9 := by
  unfold PDepS.gristmillworld_Number.f
  rw [if_neg (by decide)]
  have h1 := Int.tmod_lt_of_pos k (b := 9) (by decide)
  have h2 : -9 < Int.tmod k 9 := by
    rcases Int.le_total 0 k with h | h
    · have := Int.tmod_nonneg 9 h; omega
    · have h3 := Int.tmod_lt_of_pos (-k) (b := 9) (by decide)
      rw [Int.neg_tmod] at h3
      omega
  split
  · refine ⟨(Int.tmod k 9 + 9).toNat, ?_, by omega⟩
    rw [show wrap64 (Int.tmod k 9 + 9) = Int.tmod k 9 + 9 by unfold wrap64; omega, Int.toNat_of_nonneg (by omega)]
  · exact ⟨(Int.tmod k 9).toNat, by rw [Int.toNat_of_nonneg (by omega)], by omega⟩
def chE (n : Nat) (ring : Bool) (i : Nat) : S29 := if i + 1 < n then eV (dn (i + 1)) else if ring then eV d0 else eI 1
def chD (n : Nat) (ring : Bool) (i : Nat) : S34 := ⟨dn i, [], chE n ring i⟩
def chL (n : Nat) (ring : Bool) : List S34 := (List.range n).map (chD n ring)
def chM : S34 := ⟨⟨#[109, 97, 105, 110]⟩, [], eV d0⟩
def chA (n : Nat) (ring : Bool) : List S34 := chL n ring ++ [chM]
def chR (n : Nat) (ring : Bool) : List (List Int) := if ring then [(List.range n).map (fun i : Nat => (i : Int)), [(n : Int)]] else ((List.range n).map fun i : Nat => [((n - 1 - i : Nat) : Int)]) ++ [[(n : Int)]]
def chOk (n : Nat) (ring : Bool) : Bool := ok3 (chA n ring) && (decide (grps (rsL (allL (chA n ring))) 2000 [] [] = some (chR n ring)) && decide ((needL (chA n ring) n).length = n + 1))
theorem ch_all : ((List.range 9).all fun r => chOk (r + 1) true && chOk (r + 1) false) = true := by decide +kernel
theorem ch_at {r : Nat} (hr : r < 9) (ring : Bool) : ok3 (chA (r + 1) ring) = true ∧ grps (rsL (allL (chA (r + 1) ring))) 2000 [] [] = some (chR (r + 1) ring) ∧ (needL (chA (r + 1) ring) (r + 1)).length = r + 1 + 1 := by
  have h := List.all_eq_true.1 ch_all r (List.mem_range.2 hr)
  simp only [Bool.and_eq_true] at h
  have h2 : chOk (r + 1) ring = true := by cases ring; exact h.2; exact h.1
  simp only [chOk, Bool.and_eq_true, decide_eq_true_eq] at h2
  exact h2
end Go.Proofs.YtlgpoigbadajnaaDoor.DepA
