/- What the calls of num.divide and strconv.FormatInt (base 10) come to: the quotient or the rest, or the fault; the number's decimal numeral. Condition, for FormatInt alone: the library's table of powers of ten reads as it is laid. -/
import Derived.Test.YtkikfkhonjobcaaDoorShelf
import Derived.Test.YtkikfkhonjobcaaDoorRows
import Derived.Test.YtkikfkhonjobcaaDoorWWords
import Derived.Tactics
import Derived.Tactics2
import Derived.Defers
import Derived.Recover
import Derived.Laws.Pointers
import Derived.Lib.AppendIntMem
import Derived.Lib.LaidTab
import Derived.WalkSmall
import Derived.MakeChecks
import Derived.Stop.LaidErr
namespace Go.Proofs.YtkikfkhonjobcaaDoor.Ext
open Go.RowKit Go.Proofs.YtkikfkhonjobcaaDoorW.PrintWords
set_option linter.unusedVariables false

/-! ### The package-level variables that are read -/
theorem gPow : Tryd.prog.globalNamed "internal/strconv.uint64pow10" = some 3 := by kernel_rfl
theorem gPowType : (Tryd.prog.globals[3]?).map (·.type) = some 84 := by kernel_rfl
structure GG (w : World) : Prop where
  tab : Lib.TabIs Tryd.prog w "internal/strconv.uint64pow10" .u64 Lib.pow10Tab
  lt : 3 < w.heap.size
theorem GG.below {w W : World} (h : GG w) (hb : Below w.heap.size w W) : GG W :=
  ⟨var?_below hb gPow h.lt h.tab, Nat.lt_of_lt_of_le h.lt hb.size⟩
theorem GG.drewN {w : World} (h : GG w) (n : Nat) : GG (w.drewN n) := h.below ⟨rfl, rfl, rfl, Nat.le_refl _, fun _ _ => rfl⟩

theorem gg_of_pow {W : World} {r : List (String × DataW Unit)} (h : laidMet Tryd.prog (("internal/strconv.uint64pow10", Rows.laid_internal_strconv_uint64pow10) :: r) W) : GG W := by
  have e : (Rows.laid_internal_strconv_uint64pow10 : DataW Unit) = Lib.tabData .u64 Lib.pow10Tab := rfl
  rw [e] at h
  have hT := Lib.tabIs_of_head gPow gPowType Tryd.underlying84 Tryd.underlying48 (by kernel_rfl) (by kernel_rfl) h
  exact ⟨hT, World.block_lt_of_cell? _ _ (hT.cell gPow 0 (by decide))⟩

/-! ### strconv.FormatInt, base 10 -/
def strconv_FormatInt.f (a0 a1 : Int) : Option ByteArray := if a1 = 10 then (if -9223372036854775808 ≤ a0 then (if a0 ≤ 9223372036854775807 then some (⟨(Lib.itoa a0).toArray⟩ : ByteArray) else none) else none) else none
theorem strconv_FormatInt.calls (a0 a1 : Int) (r : ByteArray) (w : World) (hGG : GG w) (h : strconv_FormatInt.f a0 a1 = some r) :
    Calls Tryd.prog 29 #[.int .i64 a0, .int .i64 a1] w fun e w' => e = .returned (.string r) ∧ Below w.heap.size w w' := by
  unfold strconv_FormatInt.f at h
  by_cases h1 : a1 = 10
  · by_cases h2 : -9223372036854775808 ≤ a0
    · by_cases h3 : a0 ≤ 9223372036854775807
      · rw [if_pos h1, if_pos h2, if_pos h3] at h
        obtain rfl := Option.some.inj h
        subst h1
        refine (Tryd.strconv_FormatInt_10 a0 h2 h3 w hGG.tab).mono fun e w' ⟨he, k, os, hw⟩ => ⟨he, ?_⟩
        rw [hw]
        exact Lib.below_grow _ w (Nat.le_refl _) k os
      · rw [if_pos h1, if_pos h2, if_neg h3] at h
        cases h
    · rw [if_pos h1, if_neg h2] at h
      cases h
  · rw [if_neg h1] at h
    cases h

/-! ### num.divide -/
theorem catch_panicking (p q : Addr) (x y : Int) (u : TypeId) (pv : Value) (older : List PanicEntry) (w : World) (hpq : p ≠ q) (hc : w.cell? p = some (.int .i64 x)) (hz : w.frozen? p = false) (hc2 : w.cell? q = some (.int .i64 y)) (hz2 : w.frozen? q = false) :
    CallsD Tryd.prog 33 #[.pointer (some p), .pointer (some q)] (.panicking ({ v := .iface u pv, recovered := false } :: older)) w fun e u' w' =>
      e = .returned (.tuple #[]) ∧ u' = .panicking ({ v := .iface u pv, recovered := true } :: older) ∧ w' = (w.setCell p (.int .i64 0)).setCell q (.int .i64 (-2)) := by
  have hc3 : (w.setCell p (.int .i64 0)).cell? q = some (.int .i64 y) := by rw [World.cell?_setCell_other _ _ _ _ hpq]; exact hc2
  refine callsD_of_wpS Tryd.func33 rfl fun c₀ cs hu => ?_
  apply wpS_seq
  apply wpS_region
  simp [wpOpsS, go_sem, recoverD, hu, Tryd.ntmps33, Exit.thenS]
  refine wpS_cond (t := true) (by simp [Act.eval, Array.replicate]) ?_
  simp only [if_true]
  apply wpS_region
  simp [wpOpsS, go_sem, hc, hz, hc3, hz2, bodyPostS, results, Tryd.results33]

theorem catch_idle (p q : Addr) (w : World) :
    CallsD Tryd.prog 33 #[.pointer (some p), .pointer (some q)] .returning w fun e u' w' => e = .returned (.tuple #[]) ∧ u' = .returning ∧ w' = w := by
  refine callsD_of_wpS Tryd.func33 rfl fun c₀ cs hu => ?_
  apply wpS_seq
  apply wpS_region
  simp [wpOpsS, go_sem, recoverD, hu, Tryd.ntmps33, Exit.thenS]
  refine wpS_cond (t := false) (by simp [Act.eval, Array.replicate]) ?_
  simp only [Bool.false_eq_true, if_false]
  refine wpS_of_wp (wp_skip ?_)
  cases c₀
  simp_all [bodyPostS, results, Tryd.results33]

theorem divide_zero (s : ByteArray) (a : Int) (w : World) :
    Calls Tryd.prog 25 #[.string s, .int .i64 a, .int .i64 0] w fun e w' => e = .returned (.tuple #[.int .i64 0, .int .i64 (-2), .bool true]) ∧ Below w.heap.size w w' := by
  have hmf : ∀ (fn : Fn) (first cap : Array Value) (w : World), (Instr.makeFunc fn first cap).run Tryd.prog w = .ok (.func fn first cap) w := fun _ _ _ _ => rfl
  by_cases hs : s.toList = [100, 105, 118]
  · have hs' : (s.toList == [100, 105, 118]) = true := by simpa using hs
    go_enter_defers Tryd.func25, Tryd.ntmps25
    go_wp2
    refine leaves_cons (f := 33) (args := #[.pointer (some ⟨w.heap.size, 0, none⟩), .pointer (some ⟨w.heap.size + 1, 0, none⟩)]) (by simp) (by simp [go_sem]) ?_
    refine (catch_panicking ⟨w.heap.size, 0, none⟩ ⟨w.heap.size + 1, 0, none⟩ 0 0 10 _ [] _ ?_ ?_ ?_ ?_ ?_).mono ?_
    · simp
    · simp [go_sem]
    · simp [go_sem]
    · simp [go_sem]
    · simp [go_sem]
    rintro e u' w'' ⟨rfl, rfl, rfl⟩
    simp [Leaves, settle, results, Tryd.results25, go_sem]
    exact ((Below.refl _ _).alloc (Nat.le_refl _) _).alloc (by simp) _
  · have hs' : (s.toList == [100, 105, 118]) = false := by simpa using hs
    go_enter_defers Tryd.func25, Tryd.ntmps25
    go_wp2
    refine leaves_cons (f := 33) (args := #[.pointer (some ⟨w.heap.size, 0, none⟩), .pointer (some ⟨w.heap.size + 1, 0, none⟩)]) (by simp) (by simp [go_sem]) ?_
    refine (catch_panicking ⟨w.heap.size, 0, none⟩ ⟨w.heap.size + 1, 0, none⟩ 0 0 10 _ [] _ ?_ ?_ ?_ ?_ ?_).mono ?_
    · simp
    · simp [go_sem]
    · simp [go_sem]
    · simp [go_sem]
    · simp [go_sem]
    rintro e u' w'' ⟨rfl, rfl, rfl⟩
    simp [Leaves, settle, results, Tryd.results25, go_sem]
    exact ((Below.refl _ _).alloc (Nat.le_refl _) _).alloc (by simp) _

theorem divide_some (s : ByteArray) (a b : Int) (hb : ¬ b = 0) (w : World) :
    Calls Tryd.prog 25 #[.string s, .int .i64 a, .int .i64 b] w fun e w' => e = .returned (.tuple #[.int .i64 (if s.toList = [100, 105, 118] then wrap64 (Int.tdiv a b) else Int.tmod a b), .int .i64 0, .bool true]) ∧ Below w.heap.size w w' := by
  have hmf : ∀ (fn : Fn) (first cap : Array Value) (w : World), (Instr.makeFunc fn first cap).run Tryd.prog w = .ok (.func fn first cap) w := fun _ _ _ _ => rfl
  by_cases hs : s.toList = [100, 105, 118]
  · rw [if_pos hs]
    have hs' : (s.toList == [100, 105, 118]) = true := by simpa using hs
    go_enter_defers Tryd.func25, Tryd.ntmps25
    go_wp2
    refine leaves_cons (f := 33) (args := #[.pointer (some ⟨w.heap.size, 0, none⟩), .pointer (some ⟨w.heap.size + 1, 0, none⟩)]) (by simp) (by simp [go_sem]) ?_
    refine (catch_idle ⟨w.heap.size, 0, none⟩ ⟨w.heap.size + 1, 0, none⟩ _).mono ?_
    rintro e u' w'' ⟨rfl, rfl, rfl⟩
    simp [Leaves, settle, results, Tryd.results25, go_sem]
    exact ((Below.refl _ _).alloc (Nat.le_refl _) _).alloc (by simp) _
  · rw [if_neg hs]
    have hs' : (s.toList == [100, 105, 118]) = false := by simpa using hs
    go_enter_defers Tryd.func25, Tryd.ntmps25
    go_wp2
    refine leaves_cons (f := 33) (args := #[.pointer (some ⟨w.heap.size, 0, none⟩), .pointer (some ⟨w.heap.size + 1, 0, none⟩)]) (by simp) (by simp [go_sem]) ?_
    refine (catch_idle ⟨w.heap.size, 0, none⟩ ⟨w.heap.size + 1, 0, none⟩ _).mono ?_
    rintro e u' w'' ⟨rfl, rfl, rfl⟩
    simp [Leaves, settle, results, Tryd.results25, go_sem]
    exact ((Below.refl _ _).alloc (Nat.le_refl _) _).alloc (by simp) _

def num_divide.f (a0 : ByteArray) (a1 a2 : Int) : Option (Int × Int × Bool) :=
  if a2 = 0 then some (0, -2, true) else if a0.toList = [100, 105, 118] then some (wrap64 (Int.tdiv a1 a2), 0, true) else some (Int.tmod a1 a2, 0, true)
theorem num_divide.calls (a0 : ByteArray) (a1 a2 : Int) (r1 r2 : Int) (r3 : Bool) (w : World) (h : num_divide.f a0 a1 a2 = some (r1, r2, r3)) :
    Calls Tryd.prog 25 #[.string a0, .int .i64 a1, .int .i64 a2] w fun e w' => e = .returned (.tuple #[.int .i64 r1, .int .i64 r2, .bool r3]) ∧ Below w.heap.size w w' := by
  unfold num_divide.f at h
  by_cases h0 : a2 = 0
  · rw [if_pos h0] at h
    simp only [Option.some.injEq, Prod.mk.injEq] at h
    obtain ⟨rfl, rfl, rfl⟩ := h
    subst h0
    exact divide_zero a0 a1 w
  · rw [if_neg h0] at h
    have hd := divide_some a0 a1 a2 h0 w
    by_cases h1 : a0.toList = [100, 105, 118]
    · rw [if_pos h1] at h hd
      simp only [Option.some.injEq, Prod.mk.injEq] at h
      obtain ⟨rfl, rfl, rfl⟩ := h
      exact hd
    · rw [if_neg h1] at h hd
      simp only [Option.some.injEq, Prod.mk.injEq] at h
      obtain ⟨rfl, rfl, rfl⟩ := h
      exact hd
end Go.Proofs.YtkikfkhonjobcaaDoor.Ext
