/- The decimal numeral of a whole number: its digits, its value, that it is read as that number, and that no other number has it. Plain lists, no program. -/
import Derived.Test.YtkikfkhonjobcaaDoorExtE
import Derived.Lib.ParseIntBCases
import Derived.Lib.ItoaLen
import Derived.Lib.ItoaMem
namespace Go.Proofs.YtkikfkhonjobcaaDoor.NumText
open Go.Lib
set_option linter.unusedVariables false

/-- What digits come to, behind a number. -/
def fold : Nat → List UInt8 → Nat
  | acc, [] => acc
  | acc, c :: r => fold (acc * 10 + (c.toNat - 48)) r
def Dig (l : List UInt8) : Prop := ∀ c ∈ l, 48 ≤ c.toNat ∧ c.toNat ≤ 57

theorem fold_append (l m : List UInt8) : ∀ acc, fold acc (l ++ m) = fold (fold acc l) m := by
  induction l with
  | nil => intro acc; rfl
  | cons c r ih => intro acc; exact ih _
theorem fold_ge (l : List UInt8) : ∀ acc, acc ≤ fold acc l := by
  induction l with
  | nil => intro acc; exact Nat.le_refl _
  | cons c r ih =>
    intro acc
    have := ih (acc * 10 + (c.toNat - 48))
    show acc ≤ fold (acc * 10 + (c.toNat - 48)) r
    omega
theorem ofNat_toNat {n : Nat} (h : n < 10) : (UInt8.ofNat (48 + n)).toNat = 48 + n := by
  rw [UInt8.toNat_ofNat']; omega
theorem dig_dec : ∀ u : Nat, Dig (decDigits u) := by
  intro u
  induction u using Nat.strongRecOn with
  | _ u ih =>
    rw [decDigits]
    split
    · rename_i h
      intro c hc
      rw [List.mem_singleton.1 hc, ofNat_toNat h]
      omega
    · rename_i h
      intro c hc
      rcases List.mem_append.1 hc with hc | hc
      · exact ih (u / 10) (by omega) c hc
      · rw [List.mem_singleton.1 hc, ofNat_toNat (Nat.mod_lt _ (by omega))]
        omega
theorem fold_dec : ∀ u : Nat, fold 0 (decDigits u) = u := by
  intro u
  induction u using Nat.strongRecOn with
  | _ u ih =>
    rw [decDigits]
    split
    · rename_i h
      show 0 * 10 + ((UInt8.ofNat (48 + u)).toNat - 48) = u
      rw [ofNat_toNat h]
      omega
    · rename_i h
      rw [fold_append, ih (u / 10) (by omega)]
      show u / 10 * 10 + ((UInt8.ofNat (48 + u % 10)).toNat - 48) = u
      rw [ofNat_toNat (Nat.mod_lt _ (by omega))]
      omega
theorem dec_inj {a b : Nat} (h : decDigits a = decDigits b) : a = b := by
  rw [← fold_dec a, ← fold_dec b, h]
theorem dec_ne (u : Nat) : decDigits u ≠ [] := by
  rw [decDigits]
  split <;> simp
theorem dec_cons (u : Nat) : ∃ c r, decDigits u = c :: r ∧ 48 ≤ c.toNat ∧ c.toNat ≤ 57 := by
  cases h : decDigits u with
  | nil => exact absurd h (dec_ne u)
  | cons c r => exact ⟨c, r, rfl, dig_dec u c (by rw [h]; exact List.mem_cons_self ..)⟩
/-- A numeral that begins with '0' is that of 0. -/
theorem dec_head : ∀ u : Nat, 1 ≤ u → ∀ r, decDigits u ≠ 48 :: r := by
  intro u
  induction u using Nat.strongRecOn with
  | _ u ih =>
    intro h1 r
    rw [decDigits]
    split
    · rename_i h
      intro e
      have e1 := (List.cons.inj e).1
      have e2 := ofNat_toNat h
      rw [e1] at e2
      have : (48 : UInt8).toNat = 48 := rfl
      omega
    · rename_i h
      cases hd : decDigits (u / 10) with
      | nil => exact absurd hd (dec_ne _)
      | cons c q =>
        intro e
        have e1 : c = 48 := (List.cons.inj e).1
        subst e1
        exact ih (u / 10) (by omega) (by omega) q hd
theorem parse_fold (M : Nat) (hM : M ≤ 18446744073709551615) : ∀ (l : List UInt8) (acc : Nat), Dig l → fold acc l ≤ M → parseUintM M acc l = .ok (fold acc l) := by
  intro l
  induction l with
  | nil => intro acc _ _; rfl
  | cons c r ih =>
    intro acc hd hf
    have hf : fold (acc * 10 + (c.toNat - 48)) r ≤ M := hf
    have hc := hd c (List.mem_cons_self ..)
    have hg := fold_ge r (acc * 10 + (c.toNat - 48))
    have hr := ih (acc * 10 + (c.toNat - 48)) (fun x hx => hd x (List.mem_cons_of_mem _ hx)) hf
    simp only [parseUintM]
    rw [if_pos hc, if_neg (by omega), if_neg (by omega), hr]
    rfl
theorem parse_dec (u : Nat) (h : u ≤ 18446744073709551615) : parseUintB 64 (decDigits u) = .ok u := by
  unfold parseUintB
  rw [if_neg (dec_ne u)]
  have e : 2 ^ 64 - 1 = 18446744073709551615 := by decide
  rw [e]
  have h2 := parse_fold 18446744073709551615 (Nat.le_refl _) (decDigits u) 0 (dig_dec u) (by rw [fold_dec]; exact h)
  rw [fold_dec] at h2
  exact h2
theorem parse_itoa (v : Int) (h0 : -9223372036854775808 ≤ v) (h1 : v ≤ 9223372036854775807) : parseIntB 64 (itoa v) = .ok v := by
  have e63 : 2 ^ (64 - 1) = 9223372036854775808 := by decide
  unfold itoa
  split
  · rename_i hn
    rw [parseIntB_minus, parse_dec _ (by omega), e63]
    simp only [signedC]
    rw [if_neg (by omega)]
    congr 1
    omega
  · rename_i hn
    obtain ⟨c, r, hc, h2, h3⟩ := dec_cons v.toNat
    rw [hc, parseIntB_plain _ c r (by omega) (by omega), ← hc, parse_dec _ (by omega), e63]
    simp only [signlessC]
    rw [if_neg (by omega)]
    congr 1
    omega
theorem itoa_inj {a b : Int} (h : itoa a = itoa b) : a = b := by
  have key : ∀ x y : Int, x < 0 → ¬ y < 0 → itoa x ≠ itoa y := by
    intro x y hx hy
    unfold itoa
    rw [if_pos hx, if_neg hy]
    obtain ⟨c, r, hc, h2, h3⟩ := dec_cons y.toNat
    rw [hc]
    intro e
    have e1 : (45 : UInt8) = c := (List.cons.inj e).1
    rw [← e1] at h2
    exact absurd h2 (by decide)
  by_cases ha : a < 0
  · by_cases hb : b < 0
    · unfold itoa at h
      rw [if_pos ha, if_pos hb] at h
      have := dec_inj (List.cons.inj h).2
      omega
    · exact absurd h (key a b ha hb)
  · by_cases hb : b < 0
    · exact absurd h.symm (key b a hb ha)
    · unfold itoa at h
      rw [if_neg ha, if_neg hb] at h
      have := dec_inj h
      omega

/-! ### num.Parse at numerals, and at what is none -/
open ExtE in
theorem parse_at (s : ByteArray) (v : Int) (h0 : -9223372036854775808 ≤ v) (h1 : v ≤ 9223372036854775807) (hs : s.data.toList = itoa v) : num_Parse.f s = some (v, none) := by
  have hl := itoa_length_le v h0 h1
  have hz : s.size ≤ 281474976710656 := by
    have : s.size = s.data.toList.length := by show s.data.size = _; rw [Array.length_toList]
    rw [this, hs]
    omega
  unfold num_Parse.f
  rw [if_pos hz, hs, parse_itoa v h0 h1]
  simp
open ExtE in
theorem parse_none (s : ByteArray) (hz : s.size ≤ 281474976710656) (hn : ∀ v : Int, -9223372036854775808 ≤ v → v ≤ 9223372036854775807 → itoa v ≠ s.data.toList) : num_Parse.f s = some (0, some 118) := by
  unfold num_Parse.f
  rw [if_pos hz]
  cases hp : parseIntB 64 s.data.toList with
  | ok v =>
    have hvb := parseIntB_bounds hp
    have e63 : ((2 ^ (64 - 1) : Nat) : Int) = 9223372036854775808 := by decide
    rw [e63] at hvb
    simp only [if_neg (hn v hvb.1 (by omega))]
  | «syntax» => rfl
  | range => rfl
open ExtE in
theorem text_at (v : Int) (h0 : -9223372036854775808 ≤ v) (h1 : v ≤ 9223372036854775807) : num_Text.f v = some (⟨(itoa v).toArray⟩ : ByteArray) := by
  unfold num_Text.f Ext.strconv_FormatInt.f
  rw [if_pos rfl, if_pos h0, if_pos h1]
end Go.Proofs.YtkikfkhonjobcaaDoor.NumText
