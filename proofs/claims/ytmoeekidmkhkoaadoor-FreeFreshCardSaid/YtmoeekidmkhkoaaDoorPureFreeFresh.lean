/- A name that is not used is it; else the first of its numbers that is not: the pure law of FreeFresh, for every text, number, list of texts. -/
import Derived.Test.YtmoeekidmkhkoaaDoorPFreeFx2
import Derived.Laws.Strings
import Derived.OpenShut
namespace Go.Proofs.YtmoeekidmkhkoaaDoor.Pure
open Go.RowKit Go.Proofs.YtmoeekidmkhkoaaDoor.PFreeF Go.Proofs.YtmoeekidmkhkoaaDoorW.PrintWords Go.Proofs.YtmoeekidmkhkoaaDoorW.PrintLast Go.Proofs.YtmoeekidmkhkoaaDoor.Ext Go.Proofs.YtmoeekidmkhkoaaDoor.FreeA
set_option linter.unusedVariables false
set_option linter.unusedSimpArgs false
namespace Fr
theorem tl_data (s : ByteArray) : s.toList = s.data.toList := by
  have := ByteArray.toList_mk s.data.toList
  simpa using this
theorem tl_inj {s t : ByteArray} : s.toList = t.toList ↔ s = t := by
  constructor
  · intro h
    rw [tl_data, tl_data] at h
    exact ByteArray.ext (Array.toList_inj.1 h)
  · rintro rfl; rfl
theorem w64 {n : Nat} (h : n < 1000000000000000) : wrap64 ((n : Int) + 1) = ((n + 1 : Nat) : Int) := by unfold wrap64; omega
theorem rd_get {l : List ByteArray} {i : Nat} (h : i < l.length) : rdOf ByteArray.empty l (i : Int) = l[i] := by simp [rdOf, h]
theorem isIn_drop {l : List ByteArray} {i : Nat} (h : i < l.length) (a : ByteArray) : isIn (l.drop i) a = (decide (l[i] = a) || isIn (l.drop (i + 1)) a) := by rw [List.drop_eq_getElem_cons h]; rfl
/-- An index, or -1. -/
theorem index_run {l : List ByteArray} (a : ByteArray) (hl : l.length < 1000000000000) : ∀ (d i k : Nat), i + d = l.length → d < k → ∃ r : Int, slices_Index_string_string.l0 k l a (l.length : Int) (i : Int) = some r ∧ decide (r ≥ 0) = isIn (l.drop i) a
  | d, i, 0, _, hk => absurd hk (Nat.not_lt_zero _)
  | 0, i, k + 1, hd, _ => by
    refine ⟨-1, ?_, ?_⟩
    · simp only [slices_Index_string_string.l0]
      rw [if_neg (by omega)]
    · rw [List.drop_eq_nil_of_le (by omega)]
      simp [isIn]
  | d + 1, i, k + 1, hd, hk => by
    have hi : i < l.length := by omega
    have ih := index_run a hl d (i + 1) k (by omega) (by omega)
    simp only [slices_Index_string_string.l0]
    rw [if_pos (by omega), if_pos (by omega), if_pos (by omega), rd_get hi, w64 (by omega), isIn_drop hi]
    by_cases h : a.toList = l[i].toList
    · rw [if_pos h]
      have e := (tl_inj.1 h).symm
      exact ⟨(i : Int), rfl, by simp [e]⟩
    · rw [if_neg h]
      have e : ¬ l[i] = a := fun e => h (tl_inj.2 e.symm)
      simpa [e] using ih
theorem contains_run {l : List ByteArray} (a : ByteArray) (hl : l.length < 1000000000000) {k : Nat} (hk : l.length < k) : slices_Contains_string_string.f k l a = some (isIn l a) := by
  obtain ⟨r, h1, h2⟩ := index_run a hl l.length 0 k (by omega) hk
  simp only [slices_Contains_string_string.f, slices_Index_string_string.f]
  have h3 := h1
  rw [show ((0 : Nat) : Int) = 0 from rfl] at h3
  rw [h3]
  simp only [Option.bind_some]
  rw [h2]
  rfl
theorem place_run {l : List ByteArray} (a : ByteArray) (hl : l.length < 1000000000000) : ∀ (d i k : Nat), i + d = l.length → d < k → ∃ r : Int, gristmillref_Place.l0 k l a (i : Int) = some r ∧ decide (r ≥ 0) = isIn (l.drop i) a
  | d, i, 0, _, hk => absurd hk (Nat.not_lt_zero _)
  | 0, i, k + 1, hd, _ => by
    refine ⟨-1, ?_, ?_⟩
    · simp only [gristmillref_Place.l0]
      rw [if_neg (by omega)]
    · rw [List.drop_eq_nil_of_le (by omega)]
      simp [isIn]
  | d + 1, i, k + 1, hd, hk => by
    have hi : i < l.length := by omega
    have ih := place_run a hl d (i + 1) k (by omega) (by omega)
    simp only [gristmillref_Place.l0]
    rw [if_pos (by omega), if_pos (by omega), rd_get hi, w64 (by omega), isIn_drop hi]
    by_cases h : l[i].toList = a.toList
    · rw [if_pos h]
      have e := tl_inj.1 h
      exact ⟨(i : Int), rfl, by simp [e]⟩
    · rw [if_neg h]
      have e : ¬ l[i] = a := fun e => h (tl_inj.2 e)
      simpa [e] using ih
theorem has_run {l : List ByteArray} (a : ByteArray) (hl : l.length < 1000000000000) {k : Nat} (hk : l.length < k) : gristmillref_Has.f k l a = some (isIn l a) := by
  obtain ⟨r, h1, h2⟩ := place_run a hl l.length 0 k (by omega) hk
  simp only [gristmillref_Has.f, gristmillref_Place.f]
  have h3 := h1
  rw [show ((0 : Nat) : Int) = 0 from rfl] at h3
  rw [h3]
  simp only [Option.bind_some]
  rw [h2]
  rfl
/-! ### the names in their order -/
def dg (i : Nat) : ByteArray := ⟨(Lib.decDigits i).toArray⟩
def S (b : ByteArray) : Nat → ByteArray
  | 0 => b
  | i + 1 => b ++ (⟨#[95]⟩ : ByteArray) ++ dg (i + 1)
theorem dg_inj : ∀ i < 100, ∀ j < 100, Lib.decDigits i = Lib.decDigits j → i = j := by decide +kernel
theorem dg_len : ∀ i < 100, (Lib.decDigits i).length ≤ 2 := by decide +kernel
theorem app_inj {a b c : ByteArray} (h : a ++ b = a ++ c) : b = c := by
  have h1 : (a ++ b).data.toList = (a ++ c).data.toList := by rw [h]
  rw [ByteArray.data_append, ByteArray.data_append, Array.toList_append, Array.toList_append, List.append_cancel_left_eq] at h1
  exact ByteArray.ext (Array.toList_inj.1 h1)
theorem S_inj (b : ByteArray) {i j : Nat} (hi : i < 100) (hj : j < 100) (h : S b i = S b j) : i = j := by
  have size : ∀ n, (S b (n + 1)).size = b.size + 1 + (Lib.decDigits (n + 1)).length := by
    intro n
    simp only [S, ByteArray.size_append, dg]
    rfl
  cases i with
  | zero =>
    cases j with
    | zero => rfl
    | succ j =>
      have h1 := congrArg ByteArray.size h
      rw [size] at h1
      simp only [S] at h1
      omega
  | succ i =>
    cases j with
    | zero =>
      have h1 := congrArg ByteArray.size h
      rw [size] at h1
      simp only [S] at h1
      omega
    | succ j =>
      simp only [S] at h
      have h2 := app_inj h
      have h3 : Lib.decDigits (i + 1) = Lib.decDigits (j + 1) := by
        have := congrArg (fun x : ByteArray => x.data.toList) h2
        simpa [dg] using this
      exact dg_inj _ hi _ hj h3
theorem itoa_eq (i : Nat) (h : i < 100) : strconv_Itoa.f (i : Int) = some (dg i) := by
  unfold strconv_Itoa.f
  rw [if_pos (by omega), if_pos (by omega)]
  rfl
theorem dg_size (i : Nat) (h : i < 100) : (dg i).size ≤ 2 := by
  have := dg_len i h
  simpa [dg, ByteArray.size] using this
theorem fresh_run {b : ByteArray} (hb : b.size ≤ 40) {used : List ByteArray} (hu : used.length < 100) : ∀ (d i k : Nat), (∀ j, i ≤ j → j < i + d → isIn used (S b j) = true) → isIn used (S b (i + d)) = false → i + d < 99 → used.length + d + 1 < k → free_Fresh.l0 k b used (S b i) ((i + 1 : Nat) : Int) = some (S b (i + d))
  | d, i, 0, _, _, _, hk => absurd hk (Nat.not_lt_zero _)
  | 0, i, k + 1, _, h1, _, hk => by
    simp only [free_Fresh.l0]
    rw [contains_run _ (by omega) (by omega)]
    simp only [Option.bind_some]
    rw [Nat.add_zero] at h1
    rw [h1]
    rfl
  | d + 1, i, k + 1, h0, h1, hi, hk => by
    simp only [free_Fresh.l0]
    rw [contains_run _ (by omega) (by omega)]
    simp only [Option.bind_some]
    rw [h0 i (Nat.le_refl _) (by omega), if_pos rfl, if_pos (by omega), itoa_eq _ (by omega)]
    simp only [Option.bind_some]
    have hs := dg_size (i + 1) (by omega)
    rw [if_pos (by rw [ByteArray.size_append]; have : (⟨#[95]⟩ : ByteArray).size = 1 := rfl; omega), w64 (by omega)]
    have := fresh_run hb hu d (i + 1) k (fun j hj hj2 => h0 j (by omega) (by omega)) (by rw [show i + 1 + d = i + (d + 1) by omega]; exact h1) (by omega) (by omega)
    rw [show i + (d + 1) = i + 1 + d by omega]
    exact this
theorem fresh_f {b : ByteArray} (hb : b.size ≤ 40) {used : List ByteArray} (hu : used.length < 90) {m : Nat} (h0 : ∀ j, j < m → isIn used (S b j) = true) (h1 : isIn used (S b m) = false) (hm : m < 99) {k : Nat} (hk : used.length + m + 1 < k) : free_Fresh.f k b used = some (S b m) := by
  have := fresh_run hb (by omega) m 0 k (fun j _ hj => h0 j (by omega)) (by simpa using h1) (by omega) (by omega)
  simpa [free_Fresh.f, S] using this
theorem pigeon (b : ByteArray) : ∀ (n : Nat) (u : List ByteArray), n ≤ 100 → (∀ j, j < n → S b j ∈ u) → n ≤ u.length
  | 0, _, _, _ => Nat.zero_le _
  | n + 1, u, hn, h => by
    have ih := pigeon b n (u.filter (fun x => decide (x ≠ S b n))) (by omega) (fun j hj => List.mem_filter.2 ⟨h j (by omega), by
      have : S b j ≠ S b n := fun e => by have := S_inj b (by omega) (by omega) e; omega
      simpa using this⟩)
    have hlt : (u.filter (fun x => decide (x ≠ S b n))).length < u.length := List.length_filter_lt_length_iff_exists.2 ⟨S b n, h n (by omega), by simp⟩
    omega
theorem least (b : ByteArray) (u : List ByteArray) : ∀ n : Nat, (∀ j, j < n → isIn u (S b j) = true) ∨ ∃ m, m < n ∧ isIn u (S b m) = false ∧ ∀ j, j < m → isIn u (S b j) = true
  | 0 => .inl (fun j hj => absurd hj (Nat.not_lt_zero _))
  | n + 1 => by
    rcases least b u n with h | ⟨m, hm, h1, h2⟩
    · cases hn : isIn u (S b n) with
      | true => exact .inl (fun j hj => by
          rcases Nat.lt_or_ge j n with h3 | h3
          · exact h j h3
          · rw [show j = n by omega]; exact hn)
      | false => exact .inr ⟨n, by omega, hn, h⟩
    · exact .inr ⟨m, by omega, h1, h2⟩
theorem first_free (b : ByteArray) (u : List ByteArray) (hu : u.length < 90) : ∃ m, m ≤ u.length ∧ isIn u (S b m) = false ∧ ∀ j, j < m → isIn u (S b j) = true := by
  rcases least b u (u.length + 1) with h | ⟨m, hm, h1, h2⟩
  · have := pigeon b (u.length + 1) u (by omega) (fun j hj => isIn_iff.1 (h j hj))
    omega
  · exact ⟨m, by omega, h1, h2⟩
/-! ### the law -/
def used (b : ByteArray) (n : Nat) : List ByteArray := (List.range n).map (S b)
theorem used_in (b : ByteArray) {n m : Nat} (hn : n < 100) (hm : m < 100) : isIn (used b n) (S b m) = decide (m < n) := by
  rw [Bool.eq_iff_iff, isIn_iff, decide_eq_true_eq]
  simp only [used, List.mem_map, List.mem_range]
  constructor
  · rintro ⟨j, hj, e⟩
    have := S_inj b (by omega) hm e
    omega
  · intro h
    exact ⟨m, h, rfl⟩
theorem isIn_append (l r : List ByteArray) (a : ByteArray) : isIn (l ++ r) a = (isIn l a || isIn r a) := by simp [isIn]
theorem last {b : ByteArray} (hb : b.size ≤ 40) {more : List ByteArray} (hm : more.length ≤ 10) {n : Nat} (hn : n < 21) {k : Nat} (hk : 100 < k) : gristmilllaw10_FreeFresh.j2 k b more true (used b n) (S b n) (S b n) = some true := by
  obtain ⟨k, rfl⟩ : ∃ k', k = k' + 1 := ⟨k - 1, by omega⟩
  have hul : (used b n).length = n := by simp [used]
  have hal : (used b n ++ more).length ≤ 30 := by rw [List.length_append, hul]; omega
  simp only [gristmilllaw10_FreeFresh.j2, gristmillref_Texts.f]
  rw [if_pos (by omega)]
  simp only [Option.bind_some]
  rw [if_pos (by omega)]
  obtain ⟨m, hml, h1, h2⟩ := first_free b (used b n ++ more) (by omega)
  rw [fresh_f hb (by omega) h2 h1 (by omega) (by omega)]
  simp only [Option.bind_some, if_true]
  rw [has_run _ (by omega) (by omega), h1]
  simp only [Option.bind_some]
  rw [if_neg (by simp), has_run _ (by omega) (by omega)]
  simp only [Option.bind_some]
  cases hw : isIn more (S b n) with
  | true => rfl
  | false =>
    have hmn : m = n := by
      rcases Nat.lt_trichotomy m n with h | h | h
      · rw [isIn_append, used_in b (by omega) (by omega), decide_eq_true h] at h1
        cases h1
      · exact h
      · have := h2 n h
        rw [isIn_append, used_in b (by omega) (by omega), hw] at this
        simp at this
    rw [hmn]
    simp
theorem number_le (a : Int) : ∃ n : Nat, gristmillworld_Number.f a 20 = some (n : Int) ∧ n < 20 := by
  have t1 := Int.tmod_lt_of_pos a (show (0 : Int) < 20 by decide)
  have t2 := Int.lt_tmod_of_pos a (show (0 : Int) < 20 by decide)
  unfold gristmillworld_Number.f
  rw [if_neg (by decide)]
  by_cases h : Int.tmod a 20 < 0
  · rw [if_pos h]
    exact ⟨(Int.tmod a 20 + 20).toNat, by rw [show wrap64 (Int.tmod a 20 + 20) = Int.tmod a 20 + 20 by unfold wrap64; omega]; congr 1; omega, by omega⟩
  · rw [if_neg h]
    exact ⟨(Int.tmod a 20).toNat, by congr 1; omega, by omega⟩
theorem used_succ (b : ByteArray) (i : Nat) : used b (i + 1) = used b i ++ [S b i] := by simp [used, List.range_succ]
theorem loop {b : ByteArray} (hb : b.size ≤ 40) {more : List ByteArray} (hm : more.length ≤ 10) {n : Nat} (hn : n < 20) : ∀ (d i k : Nat), i + d = n → d + 150 < k → gristmilllaw10_FreeFresh.l0 k b (n : Int) more true (used b i) (i : Int) = some true
  | d, i, 0, _, hk => absurd hk (Nat.not_lt_zero _)
  | 0, i, k + 1, hd, hk => by
    have hi : i = n := by omega
    subst hi
    have hul : (used b i).length = i := by simp [used]
    simp only [gristmilllaw10_FreeFresh.l0]
    rw [if_neg (by omega), fresh_f hb (by omega) (m := i) (fun j hj => by rw [used_in b (by omega) (by omega)]; simpa using hj) (by rw [used_in b (by omega) (by omega)]; simp) (by omega) (by omega)]
    simp only [Option.bind_some]
    cases i with
    | zero =>
      rw [if_neg (by simp)]
      exact last hb hm (n := 0) (by omega) (by omega)
    | succ i =>
      rw [if_pos (by omega), if_pos (by omega)]
      simp only [gristmillworld_Num.f]
      rw [itoa_eq _ (by omega)]
      simp only [Option.bind_some]
      have hs := dg_size (i + 1) (by omega)
      rw [if_pos (by rw [ByteArray.size_append]; have : (⟨#[95]⟩ : ByteArray).size = 1 := rfl; omega)]
      exact last hb hm (n := i + 1) (by omega) (by omega)
  | d + 1, i, k + 1, hd, hk => by
    have ih := loop hb hm hn d (i + 1) k (by omega) (by omega)
    have hul : (used b i).length = i := by simp [used]
    simp only [gristmilllaw10_FreeFresh.l0]
    rw [if_pos (by omega), w64 (by omega), hul]
    rw [used_succ] at ih
    cases i with
    | zero =>
      rw [if_neg (by simp), if_pos (by omega)]
      exact ih
    | succ i =>
      rw [if_pos (by omega), if_pos (by omega)]
      simp only [gristmillworld_Num.f]
      rw [itoa_eq _ (by omega)]
      simp only [Option.bind_some]
      have hs := dg_size (i + 1) (by omega)
      rw [if_pos (by rw [ByteArray.size_append]; have : (⟨#[95]⟩ : ByteArray).size = 1 := rfl; omega), if_pos (by omega)]
      exact ih
end Fr
theorem FreeFresh : ∀ (a0 : ByteArray) (a1 : Int) (l2 : List ByteArray), a0.size ≤ 140737488351232 → (Lit.int .i64 a1).wf = true → l2.length * 16 ≤ 140737488351232 → ∃ k, PFreeF.gristmilllaw10_FreeFresh.f k a0 a1 l2 = some true := by
  intro b a more _ _ _
  obtain ⟨K, hK⟩ : ∃ K : Nat, 300 < K := ⟨301, by decide⟩
  refine ⟨K + 1, ?_⟩
  simp only [gristmilllaw10_FreeFresh.f]
  simp only [gristmilllaw10_first.f, Option.bind_some, if_true]
  by_cases hb : (b.size : Int) > 40
  · rw [if_pos hb]
    simp only [gristmilllaw10_FreeFresh.j0, if_true]
  · rw [if_neg hb]
    by_cases hm : (more.length : Int) > 10
    · rw [decide_eq_true hm]
      simp only [gristmilllaw10_FreeFresh.j0, if_true]
    · rw [decide_eq_false hm]
      obtain ⟨n, hn, hlt⟩ := Fr.number_le a
      simp only [gristmilllaw10_FreeFresh.j0]
      rw [if_neg (by simp), hn]
      simp only [Option.bind_some]
      exact Fr.loop (by omega) (by omega) hlt n 0 K (by omega) (by omega)
end Go.Proofs.YtmoeekidmkhkoaaDoor.Pure
