/- strconv.FormatUint at base 10, gristmillref1.NumText, gristmillref1.FloText, gristmillref5.w, l, ws: their calls end, and make memory of their own alone. Condition: the library's table of powers of ten reads as it is laid. -/
import Derived.Test.YtmoeekidmkhkoaaDoorPFreeAx3
import Derived.Test.YtmoeekidmkhkoaaDoorShelf
import Derived.Test.YtmoeekidmkhkoaaDoorRows
import Derived.Lib.AppendIntMem
import Derived.Lib.LaidTab
import Derived.WalkSmall
import Derived.BigCall
import Derived.BigGuard
import Derived.Lib.ItoaMem
import Derived.Lib.ItoaWalk
namespace Go.Proofs.YtmoeekidmkhkoaaDoor.FreeA
open Go.RowKit Go.Sort Go.Lib Go.Proofs.YtmoeekidmkhkoaaDoorW.PrintWords Go.Proofs.YtmoeekidmkhkoaaDoorW.PrintLast Go.Proofs.YtmoeekidmkhkoaaDoorW.PrintMore Go.Proofs.YtmoeekidmkhkoaaDoor.PFreeA
set_option linter.unusedVariables false
set_option linter.unusedSimpArgs false
theorem gPow : Tryd.prog.globalNamed "internal/strconv.uint64pow10" = some 0 := by kernel_rfl
theorem gPowType : (Tryd.prog.globals[0]?).map (·.type) = some 92 := by kernel_rfl
structure GG (w : World) : Prop where
  tab : Lib.TabIs Tryd.prog w "internal/strconv.uint64pow10" .u64 Lib.pow10Tab
  lt : 0 < w.heap.size
theorem GG.below {w W : World} (h : GG w) (hb : Below w.heap.size w W) : GG W :=
  ⟨var?_below hb gPow h.lt h.tab, Nat.lt_of_lt_of_le h.lt hb.size⟩
theorem gg_of_pow {W : World} {r : List (String × DataW Unit)} (h : laidMet Tryd.prog (("internal/strconv.uint64pow10", Rows.laid_internal_strconv_uint64pow10) :: r) W) : GG W := by
  have e : (Rows.laid_internal_strconv_uint64pow10 : DataW Unit) = Lib.tabData .u64 Lib.pow10Tab := rfl
  rw [e] at h
  have hT := Lib.tabIs_of_head gPow gPowType Tryd.underlying92 Tryd.underlying69 (by kernel_rfl) (by kernel_rfl) h
  exact ⟨hT, World.block_lt_of_cell? _ _ (hT.cell gPow 0 (by decide))⟩
theorem fin0 (w : World) (o : Obj) (dk : Array UInt8) (k : Nat) : ∃ os, (putRow (fun (b : UInt8) => Value.int .u8 (b.toNat : Int)) (w.alloc o) w.heap.size 0 dk).drewN k = grow (w.drewN k) os := by
  rw [alloc_eq_grow]
  obtain ⟨os', _, e⟩ := putRow_grow_new (fun (b : UInt8) => Value.int .u8 (b.toNat : Int)) w #[o] w.heap.size 0 dk (Nat.le_refl _)
  exact ⟨os', by rw [e]; rfl⟩
set_option maxHeartbeats 6400000 in
set_option maxRecDepth 100000 in
theorem iFormatUint (u : Nat) (hu64 : u < 18446744073709551616) (w : World) (hg : GG w) :
    Calls Tryd.prog 71 #[.int .u64 u, .int .i64 10] w fun e w' => e = .returned (.string ⟨(Lib.decDigits u).toArray⟩) ∧ ∃ k os, w' = grow (w.drewN k) os := by
  have e66 : ∀ args w, (callFunc 66 args).run Tryd.prog w = .ok (.enter 66 args) w := enters_of Tryd.func66 (by kernel_rfl) rfl
  have e67 : ∀ args w, (callFunc 67 args).run Tryd.prog w = .ok (.enter 67 args) w := enters_of Tryd.func67 (by kernel_rfl) rfl
  have e68 : ∀ args w, (callFunc 68 args).run Tryd.prog w = .ok (.enter 68 args) w := enters_of Tryd.func68 (by kernel_rfl) rfl
  have htab := hg.tab
  by_cases hs : u < 100
  · have hd : decide ((u : Int) < 100) = true := decide_eq_true (by omega)
    go_enter Tryd.func71, Tryd.ntmps71
    go_wp2_with (go_at_fn 66; refine (Any.internal_strconv_small { Tryd.laysM171 with } u hs _).mono ?_; rintro e w' ⟨rfl, rfl⟩)
    go_ret
    exact ⟨rfl, 0, #[], by simp [World.drewN_zero]⟩
  · have hd : decide ((u : Int) < 100) = false := decide_eq_false (by omega)
    have hu1 : 1 ≤ u := by omega
    have hnd20 : Lib.nDigits u ≤ 20 := by have := Lib.numDigits_eq u hu1 hu64; split at this <;> omega
    have hal : Tryd.prog.arrayLen 83 = 24 := by simp [Program.arrayLen, Tryd.underlying83]
    have hsl1 : ∀ W, (Instr.sliceAt 83 (.pointer (some ⟨w.heap.size, 0, none⟩)) none (some (.int .i64 (Lib.nDigits u : Int))) none).run Tryd.prog W = .ok (.slice (some ⟨w.heap.size, 0, none⟩) (Lib.nDigits u) 24) W := fun W => by
      rw [run_sliceAt_array_h W 83 ⟨w.heap.size, 0, none⟩ (by simp [Program.arrayLen, Program.elem, Tryd.underlying83]) .i64 (Lib.nDigits u : Int) (by omega) (by rw [hal]; omega)]
      go_simp
      first | done | omega
    have hH0 : Holds (fun (b : UInt8) => Value.int .u8 (b.toNat : Int)) (w.alloc (.cells Lib.zeros24 83)) w.heap.size 0 (Array.replicate (Lib.nDigits u) 0) := by
      intro t ht
      rw [Array.size_replicate] at ht
      refine ⟨?_, World.frozen?_alloc_new _ _ _ _⟩
      rw [World.cell?_alloc_new, Nat.zero_add, Lib.zeros24_at t (by omega), getElem!_pos _ t (by rw [Array.size_replicate]; exact ht)]
      simp
    have hfmt := Any.internal_strconv_formatBase10 { Tryd.laysM171 with } w.heap.size 0 24 u (Array.replicate (Lib.nDigits u) 0) (w.alloc (.cells Lib.zeros24 83)) hH0 (by rw [Array.size_replicate]; exact Lib.lt_pow_nDigits u) hu64 (by rw [Array.size_replicate]; omega)
    rw [Array.size_replicate] at hfmt
    have HH0 := Lib.hid hH0
    clear hH0 hal
    go_enter Tryd.func71, Tryd.ntmps71
    go_wp2_with (first
      | (go_at_fn 67; refine (Any.internal_strconv_numDigits { Tryd.laysM171 with } u hu1 hu64 _ (Lib.tabIs_alloc htab _)).mono ?_; rintro e w' ⟨rfl, rfl⟩))
    go_at_fn 68
    refine hfmt.mono ?_
    rintro e w' ⟨rfl, k, v', dk, rfl, hF⟩
    have hal : Tryd.prog.arrayLen 83 = 24 := by simp [Program.arrayLen, Tryd.underlying83]
    have hcv : (convert 86 9 (.slice (some ⟨w.heap.size, 0, none⟩) (Lib.nDigits u) 24)).run Tryd.prog ((putRow (fun (b : UInt8) => Value.int .u8 (b.toNat : Int)) (w.alloc (.cells Lib.zeros24 83)) w.heap.size 0 dk).drewN k) = .ok (.string ⟨(Lib.decDigits u).toArray⟩) ((putRow (fun (b : UInt8) => Value.int .u8 (b.toNat : Int)) (w.alloc (.cells Lib.zeros24 83)) w.heap.size 0 dk).drewN k) := by
      have h := run_convert_bytes_back (P := Tryd.prog) ((putRow (fun (b : UInt8) => Value.int .u8 (b.toNat : Int)) (w.alloc (.cells Lib.zeros24 83)) w.heap.size 0 dk).drewN k) 86 9 5 ⟨w.heap.size, 0, none⟩ 24 (Lib.decDigits u) Tryd.underlying86 Tryd.underlying5 Tryd.underlying9 (fun j hj => by
        rw [Lib.row_is_numeral hF j hj, Lib.add_plain, World.cell?_drewN]
        exact cell?_putRow (fun (b : UInt8) => Value.int .u8 (b.toNat : Int)) _ w.heap.size 0 _ dk HH0.out (by rw [hF.size, Array.size_replicate]) j (by rw [hF.size]; rw [Lib.decDigits_length] at hj; exact hj))
      rw [Lib.decDigits_length] at h
      exact h
    go_wp2
    go_ret
    obtain ⟨os, eo⟩ := fin0 w (.cells Lib.zeros24 83) dk k
    exact ⟨rfl, k, os, eo⟩
theorem nDigits20 (u : Nat) (h : u < 18446744073709551616) : (Lib.decDigits u).length ≤ 20 := by
  rw [Lib.decDigits_length]
  by_cases h1 : 1 ≤ u
  · have := Lib.numDigits_eq u h1 h; split at this <;> omega
  · rw [Lib.nDigits_small (by omega)]; omega
theorem dec_size (u : Nat) (h : u < 18446744073709551616) : (⟨(Lib.decDigits u).toArray⟩ : ByteArray).size ≤ 21 := by
  have := nDigits20 u h
  show (Lib.decDigits u).toArray.size ≤ 21
  rw [List.size_toArray]
  omega
theorem itoa_size (n : Int) (h0 : -9223372036854775808 ≤ n) (h1 : n ≤ 9223372036854775807) : (⟨(Lib.itoa n).toArray⟩ : ByteArray).size ≤ 21 := by
  show (Lib.itoa n).toArray.size ≤ 21
  rw [List.size_toArray]
  by_cases hn : n < 0
  · obtain ⟨u, rfl⟩ : ∃ u : Nat, n = -(u : Int) := ⟨n.natAbs, by omega⟩
    rw [Lib.itoa_neg u (by omega)]
    have := nDigits20 u (by omega)
    simp only [List.length_cons]
    omega
  · obtain ⟨u, rfl⟩ : ∃ u : Nat, n = u := ⟨n.toNat, by omega⟩
    rw [Lib.itoa_nonneg]
    have := nDigits20 u (by omega)
    omega
theorem formatUint (u : Nat) (hu64 : u < 18446744073709551616) (w : World) (hg : GG w) :
    Calls Tryd.prog 65 #[.int .u64 u, .int .i64 10] w fun e w' => e = .returned (.string ⟨(Lib.decDigits u).toArray⟩) ∧ Below w.heap.size w w' := by
  have T1 := iFormatUint u hu64 w hg
  go_enter Tryd.func65, Tryd.ntmps65
  go_wp2_with (first | (go_at_call 71; go_loud (with_reducible refine T1.mono ?_); rintro e w1 ⟨rfl, k, os, hw⟩; have HB := Aside0.mk (show Below w.heap.size w w1 by rw [hw]; exact Lib.below_grow _ w (Nat.le_refl _) k os); clear hw T1))
  go_ret
  exact ⟨rfl, HB.out⟩
theorem itoa_calls (n : Int) (h0 : -9223372036854775808 ≤ n) (h1 : n ≤ 9223372036854775807) (w : World) (hg : GG w) :
    Calls Tryd.prog 31 #[.int .i64 n] w fun e w' => e = .returned (.string ⟨(Lib.itoa n).toArray⟩) ∧ Below w.heap.size w w' :=
  (Tryd.strconv_Itoa n h0 h1 w hg.tab).mono fun e w' ⟨he, k, os, hw⟩ => ⟨he, by rw [hw]; exact Lib.below_grow _ w (Nat.le_refl _) k os⟩
theorem formatInt (n : Int) (h0 : -9223372036854775808 ≤ n) (h1 : n ≤ 9223372036854775807) (w : World) (hg : GG w) :
    Calls Tryd.prog 64 #[.int .i64 n, .int .i64 10] w fun e w' => e = .returned (.string ⟨(Lib.itoa n).toArray⟩) ∧ Below w.heap.size w w' :=
  (Tryd.strconv_FormatInt_10 n h0 h1 w hg.tab).mono fun e w' ⟨he, k, os, hw⟩ => ⟨he, by rw [hw]; exact Lib.below_grow _ w (Nat.le_refl _) k os⟩
theorem numText_calls (n : Int) (h0 : -9223372036854775808 ≤ n) (h1 : n ≤ 9223372036854775807) (w : World) (hg : GG w) :
    Calls Tryd.prog 50 #[.int .i64 n] w fun e w' => ∃ s : ByteArray, e = .returned (.string s) ∧ Below w.heap.size w w' := by
  have T1 := formatInt n h0 h1 w hg
  go_enter Tryd.func50, Tryd.ntmps50
  go_wp2_with (first | (go_at_call 64; go_loud (with_reducible refine T1.mono ?_); rintro e w1 ⟨rfl, hb⟩; have HB := Aside0.mk hb; clear hb T1))
  go_ret
  exact ⟨_, rfl, HB.out⟩
theorem w_calls (s : ByteArray) (w : World) : Calls Tryd.prog 49 #[.string s] w fun e w' => e = .returned (.agg #[.string s, .slice none 0 0, .int .i64 0]) ∧ Below w.heap.size w w' := by
  go_enter Tryd.func49, Tryd.ntmps49
  go_wp2
  refine bodyPost_ret (v := .agg #[.string s, .slice none 0 0, .int .i64 0]) (by simp [results, Tryd.results49, go_sem]) rfl ⟨rfl, below_alloc (Below.refl _ _) _⟩
theorem l_calls (A : Option Addr) (n c : Nat) (w : World) : Calls Tryd.prog 52 #[.slice A n c] w fun e w' => e = .returned (.agg #[.string ⟨#[]⟩, .slice A n c, .int .i64 0]) ∧ Below w.heap.size w w' := by
  go_enter Tryd.func52, Tryd.ntmps52
  go_wp2
  refine bodyPost_ret (v := .agg #[.string ⟨#[]⟩, .slice A n c, .int .i64 0]) (by simp [results, Tryd.results52, go_sem]) rfl ⟨rfl, below_alloc (Below.refl _ _) _⟩
set_option maxHeartbeats 6400000 in
set_option maxRecDepth 100000 in
theorem floText_calls (a : Int) (h0 : 0 ≤ a) (h1 : a < 18446744073709551616) (w : World) (hg : GG w) :
    Calls Tryd.prog 51 #[.int .u64 a] w fun e w' => ∃ s : ByteArray, e = .returned (.string s) ∧ Below w.heap.size w w' := by
  obtain ⟨r, hr⟩ : ∃ r, gristmillref1_Canon.f a = some r := by unfold gristmillref1_Canon.f; split <;> (try split) <;> exact ⟨_, rfl⟩
  have hrr : 0 ≤ r ∧ r < 18446744073709551616 := by
    unfold gristmillref1_Canon.f at hr
    split at hr <;> (try split at hr) <;> (injection hr with hr; omega)
  have T1 := gristmillref1_Canon.calls a r w hr
  have hg := Aside0.mk hg
  clear hr
  by_cases hn : r = 9221120237041090560
  · have q1 : (r == 9221120237041090560) = true := beq_iff_eq.2 hn
    clear hn
    go_enter Tryd.func51, Tryd.ntmps51
    go_wp2_with (first | (go_at_call 61; go_loud (with_reducible refine T1.mono ?_); rintro e w1 ⟨rfl, hd⟩; have HB := Aside0.mk hd.below; clear hd T1))
    go_ret
    exact ⟨_, rfl, HB.out⟩
  have q1 : (r == 9221120237041090560) = false := beq_eq_false_iff_ne.2 hn
  obtain ⟨b2, q2⟩ : ∃ b, (r / 9223372036854775808 == 1) = b := ⟨_, rfl⟩
  obtain ⟨E0, hE⟩ : ∃ x, wrap64 (bits BinOp.and IntKind.u64 (r / 4503599627370496) 2047) = x := ⟨_, rfl⟩
  obtain ⟨M0, hM⟩ : ∃ x, bits BinOp.and IntKind.u64 r 4503599627370495 = x := ⟨_, rfl⟩
  obtain ⟨M1, hO⟩ : ∃ x, bits BinOp.or IntKind.u64 M0 4503599627370496 = x := ⟨_, rfl⟩
  obtain ⟨E1, hE1⟩ : ∃ x, wrap64 (E0 - 1075) = x := ⟨_, rfl⟩
  have rM0 : Aside0 (0 ≤ M0 ∧ M0 < 18446744073709551616) := ⟨by have h1 := bits_lo_u64 .and r 4503599627370495; have h2 := bits_hi_u64 .and r 4503599627370495; omega⟩
  have rM1 : Aside0 (0 ≤ M1 ∧ M1 < 18446744073709551616) := ⟨by have h1 := bits_lo_u64 .or M0 4503599627370496; have h2 := bits_hi_u64 .or M0 4503599627370496; omega⟩
  obtain ⟨b3, q3⟩ : ∃ b, (E0 == 2047) = b := ⟨_, rfl⟩
  obtain ⟨b4, q4⟩ : ∃ b, (E0 == 0) = b := ⟨_, rfl⟩
  obtain ⟨b5, q5⟩ : ∃ b, (M0 == 0) = b := ⟨_, rfl⟩
  obtain ⟨b6, q6⟩ : ∃ b, (M1 == 0) = b := ⟨_, rfl⟩
  have n0 : Aside0 (b5 = false → M0 ≠ 0) := ⟨fun h => by rw [h] at q5; exact beq_eq_false_iff_ne.1 q5⟩
  have n1 : Aside0 (b6 = false → M1 ≠ 0) := ⟨fun h => by rw [h] at q6; exact beq_eq_false_iff_ne.1 q6⟩
  clear hn hrr h0 h1
  cases b2 <;> cases b3 <;> cases b4 <;> cases b5 <;> cases b6
  all_goals go_enter Tryd.func51, Tryd.ntmps51
  all_goals go_wp2_with (first | (go_at_call 61; go_loud (with_reducible refine T1.mono ?_); rintro e w1 ⟨rfl, hd⟩; have HB := Aside0.mk hd.below; clear hd T1))
  all_goals first | (go_ret; exact ⟨_, rfl, HB.out⟩) | skip
  · have hm0 := n1.out (by first | rfl | trivial)
    have hrM := rM1.out
    have hgs := Aside0.mk (GG.below hg.out HB.out)
    go_loopg [4, 5] (M1.toNat + 2) (fun gk v4 v5 w' => ∃ (m : Nat) (e : Int), v4 = .int .i64 e ∧ v5 = .int .u64 (m : Int) ∧ m + 1 ≤ gk ∧ Aside0 (0 < m ∧ m < 18446744073709551616 ∧ -9223372036854775808 ≤ e ∧ e ≤ 9223372036854775807) ∧ Aside0 (Below w.heap.size w w'))
    case atStart => exact ⟨M1.toNat, E1, by rw [hE1], by congr 1; omega, by omega, ⟨by omega, by omega, by rw [← hE1]; unfold wrap64; omega, by rw [← hE1]; unfold wrap64; omega⟩, HB⟩
    case round =>
      clear HB hgs
      obtain ⟨m, e, rfl, rfl, hk, hme, hB⟩ := hrel
      have hme0 := hme.out
      by_cases hev : m % 2 = 0
      · have p1 : ((m : Int) % 2 == 0) = true := beq_iff_eq.2 (by omega)
        obtain ⟨m2, hm2⟩ : ∃ m2 : Nat, m2 = m / 2 := ⟨_, rfl⟩
        have p2 : (m : Int) / 2 = (m2 : Int) := by omega
        have hmn : 0 < m2 ∧ m2 < 18446744073709551616 ∧ m2 + 2 ≤ gk := by omega
        obtain ⟨e2, he2⟩ : ∃ e2, wrap64 (e + 1) = e2 := ⟨_, rfl⟩
        have hen : -9223372036854775808 ≤ e2 ∧ e2 ≤ 9223372036854775807 := by rw [← he2]; unfold wrap64; omega
        have hmn := Aside0.mk hmn
        have hen := Aside0.mk hen
        clear hme0 hev hm2 hk
        go_wp2
        go_roundg (gk - 1)
        case measure => have := hmn.out; omega
        case rel => exact ⟨m2, e2, by rw [he2], rfl, by have := hmn.out; omega, ⟨by have := hmn.out; have := hen.out; omega⟩, hB⟩
      · have p1 : ((m : Int) % 2 == 0) = false := beq_eq_false_iff_ne.2 (by omega)
        have hgr := GG.below hg.out hB.out
        have CU := formatUint m (by omega) wr hgr
        have d1 := dec_size m (by omega)
        have d2 := itoa_size e (by omega) (by omega)
        have he1 := hme0.2.2.1
        have he2 := hme0.2.2.2
        generalize (⟨(Lib.decDigits m).toArray⟩ : ByteArray) = t1 at CU d1
        have CI : ∀ w2, GG w2 → _ := fun w2 h2 => itoa_calls e he1 he2 w2 h2
        generalize (⟨(Lib.itoa e).toArray⟩ : ByteArray) = t2 at CI d2
        have z1 : ¬ 9223372036854775807 < t1.size := by omega
        have z2 : ¬ 9223372036854775807 < 1 + t1.size := by omega
        have z3 : ¬ 9223372036854775807 < t1.size + 1 := by omega
        have z4 : ¬ 9223372036854775807 < 1 + t1.size + 1 := by omega
        have z5 : ¬ 9223372036854775807 < t1.size + 1 + t2.size := by omega
        have z6 : ¬ 9223372036854775807 < 1 + t1.size + 1 + t2.size := by omega
        have hgr := Aside0.mk hgr
        clear hev hk hme0 he1 he2 d1 d2
        go_wp2_with (first | (go_at_call 65; go_loud (with_reducible refine CU.mono ?_); rintro e w2 ⟨rfl, hb2⟩; have CI2 := CI w2 (GG.below hgr.out hb2); have HB2 := Aside0.mk (below_step hB.out hb2); clear CU hb2) | (go_at_call 31; go_loud (with_reducible refine CI2.mono ?_); rintro e w3 ⟨rfl, hb3⟩; have HB3 := Aside0.mk (below_step HB2.out hb3); clear CI2 hb3))
        go_ret
        exact ⟨_, rfl, HB3.out⟩
  · have hm0 := n1.out (by first | rfl | trivial)
    have hrM := rM1.out
    have hgs := Aside0.mk (GG.below hg.out HB.out)
    go_loopg [4, 5] (M1.toNat + 2) (fun gk v4 v5 w' => ∃ (m : Nat) (e : Int), v4 = .int .i64 e ∧ v5 = .int .u64 (m : Int) ∧ m + 1 ≤ gk ∧ Aside0 (0 < m ∧ m < 18446744073709551616 ∧ -9223372036854775808 ≤ e ∧ e ≤ 9223372036854775807) ∧ Aside0 (Below w.heap.size w w'))
    case atStart => exact ⟨M1.toNat, E1, by rw [hE1], by congr 1; omega, by omega, ⟨by omega, by omega, by rw [← hE1]; unfold wrap64; omega, by rw [← hE1]; unfold wrap64; omega⟩, HB⟩
    case round =>
      clear HB hgs
      obtain ⟨m, e, rfl, rfl, hk, hme, hB⟩ := hrel
      have hme0 := hme.out
      by_cases hev : m % 2 = 0
      · have p1 : ((m : Int) % 2 == 0) = true := beq_iff_eq.2 (by omega)
        obtain ⟨m2, hm2⟩ : ∃ m2 : Nat, m2 = m / 2 := ⟨_, rfl⟩
        have p2 : (m : Int) / 2 = (m2 : Int) := by omega
        have hmn : 0 < m2 ∧ m2 < 18446744073709551616 ∧ m2 + 2 ≤ gk := by omega
        obtain ⟨e2, he2⟩ : ∃ e2, wrap64 (e + 1) = e2 := ⟨_, rfl⟩
        have hen : -9223372036854775808 ≤ e2 ∧ e2 ≤ 9223372036854775807 := by rw [← he2]; unfold wrap64; omega
        have hmn := Aside0.mk hmn
        have hen := Aside0.mk hen
        clear hme0 hev hm2 hk
        go_wp2
        go_roundg (gk - 1)
        case measure => have := hmn.out; omega
        case rel => exact ⟨m2, e2, by rw [he2], rfl, by have := hmn.out; omega, ⟨by have := hmn.out; have := hen.out; omega⟩, hB⟩
      · have p1 : ((m : Int) % 2 == 0) = false := beq_eq_false_iff_ne.2 (by omega)
        have hgr := GG.below hg.out hB.out
        have CU := formatUint m (by omega) wr hgr
        have d1 := dec_size m (by omega)
        have d2 := itoa_size e (by omega) (by omega)
        have he1 := hme0.2.2.1
        have he2 := hme0.2.2.2
        generalize (⟨(Lib.decDigits m).toArray⟩ : ByteArray) = t1 at CU d1
        have CI : ∀ w2, GG w2 → _ := fun w2 h2 => itoa_calls e he1 he2 w2 h2
        generalize (⟨(Lib.itoa e).toArray⟩ : ByteArray) = t2 at CI d2
        have z1 : ¬ 9223372036854775807 < t1.size := by omega
        have z2 : ¬ 9223372036854775807 < 1 + t1.size := by omega
        have z3 : ¬ 9223372036854775807 < t1.size + 1 := by omega
        have z4 : ¬ 9223372036854775807 < 1 + t1.size + 1 := by omega
        have z5 : ¬ 9223372036854775807 < t1.size + 1 + t2.size := by omega
        have z6 : ¬ 9223372036854775807 < 1 + t1.size + 1 + t2.size := by omega
        have hgr := Aside0.mk hgr
        clear hev hk hme0 he1 he2 d1 d2
        go_wp2_with (first | (go_at_call 65; go_loud (with_reducible refine CU.mono ?_); rintro e w2 ⟨rfl, hb2⟩; have CI2 := CI w2 (GG.below hgr.out hb2); have HB2 := Aside0.mk (below_step hB.out hb2); clear CU hb2) | (go_at_call 31; go_loud (with_reducible refine CI2.mono ?_); rintro e w3 ⟨rfl, hb3⟩; have HB3 := Aside0.mk (below_step HB2.out hb3); clear CI2 hb3))
        go_ret
        exact ⟨_, rfl, HB3.out⟩
  · have hm0 := n0.out (by first | rfl | trivial)
    have hrM := rM0.out
    have hgs := Aside0.mk (GG.below hg.out HB.out)
    go_loopg [4, 5] (M0.toNat + 2) (fun gk v4 v5 w' => ∃ (m : Nat) (e : Int), v4 = .int .i64 e ∧ v5 = .int .u64 (m : Int) ∧ m + 1 ≤ gk ∧ Aside0 (0 < m ∧ m < 18446744073709551616 ∧ -9223372036854775808 ≤ e ∧ e ≤ 9223372036854775807) ∧ Aside0 (Below w.heap.size w w'))
    case atStart => exact ⟨M0.toNat, (-1074), rfl, by congr 1; omega, by omega, ⟨by omega, by omega, by omega, by omega⟩, HB⟩
    case round =>
      clear HB hgs
      obtain ⟨m, e, rfl, rfl, hk, hme, hB⟩ := hrel
      have hme0 := hme.out
      by_cases hev : m % 2 = 0
      · have p1 : ((m : Int) % 2 == 0) = true := beq_iff_eq.2 (by omega)
        obtain ⟨m2, hm2⟩ : ∃ m2 : Nat, m2 = m / 2 := ⟨_, rfl⟩
        have p2 : (m : Int) / 2 = (m2 : Int) := by omega
        have hmn : 0 < m2 ∧ m2 < 18446744073709551616 ∧ m2 + 2 ≤ gk := by omega
        obtain ⟨e2, he2⟩ : ∃ e2, wrap64 (e + 1) = e2 := ⟨_, rfl⟩
        have hen : -9223372036854775808 ≤ e2 ∧ e2 ≤ 9223372036854775807 := by rw [← he2]; unfold wrap64; omega
        have hmn := Aside0.mk hmn
        have hen := Aside0.mk hen
        clear hme0 hev hm2 hk
        go_wp2
        go_roundg (gk - 1)
        case measure => have := hmn.out; omega
        case rel => exact ⟨m2, e2, by rw [he2], rfl, by have := hmn.out; omega, ⟨by have := hmn.out; have := hen.out; omega⟩, hB⟩
      · have p1 : ((m : Int) % 2 == 0) = false := beq_eq_false_iff_ne.2 (by omega)
        have hgr := GG.below hg.out hB.out
        have CU := formatUint m (by omega) wr hgr
        have d1 := dec_size m (by omega)
        have d2 := itoa_size e (by omega) (by omega)
        have he1 := hme0.2.2.1
        have he2 := hme0.2.2.2
        generalize (⟨(Lib.decDigits m).toArray⟩ : ByteArray) = t1 at CU d1
        have CI : ∀ w2, GG w2 → _ := fun w2 h2 => itoa_calls e he1 he2 w2 h2
        generalize (⟨(Lib.itoa e).toArray⟩ : ByteArray) = t2 at CI d2
        have z1 : ¬ 9223372036854775807 < t1.size := by omega
        have z2 : ¬ 9223372036854775807 < 1 + t1.size := by omega
        have z3 : ¬ 9223372036854775807 < t1.size + 1 := by omega
        have z4 : ¬ 9223372036854775807 < 1 + t1.size + 1 := by omega
        have z5 : ¬ 9223372036854775807 < t1.size + 1 + t2.size := by omega
        have z6 : ¬ 9223372036854775807 < 1 + t1.size + 1 + t2.size := by omega
        have hgr := Aside0.mk hgr
        clear hev hk hme0 he1 he2 d1 d2
        go_wp2_with (first | (go_at_call 65; go_loud (with_reducible refine CU.mono ?_); rintro e w2 ⟨rfl, hb2⟩; have CI2 := CI w2 (GG.below hgr.out hb2); have HB2 := Aside0.mk (below_step hB.out hb2); clear CU hb2) | (go_at_call 31; go_loud (with_reducible refine CI2.mono ?_); rintro e w3 ⟨rfl, hb3⟩; have HB3 := Aside0.mk (below_step HB2.out hb3); clear CI2 hb3))
        go_ret
        exact ⟨_, rfl, HB3.out⟩
  · have hm0 := n0.out (by first | rfl | trivial)
    have hrM := rM0.out
    have hgs := Aside0.mk (GG.below hg.out HB.out)
    go_loopg [4, 5] (M0.toNat + 2) (fun gk v4 v5 w' => ∃ (m : Nat) (e : Int), v4 = .int .i64 e ∧ v5 = .int .u64 (m : Int) ∧ m + 1 ≤ gk ∧ Aside0 (0 < m ∧ m < 18446744073709551616 ∧ -9223372036854775808 ≤ e ∧ e ≤ 9223372036854775807) ∧ Aside0 (Below w.heap.size w w'))
    case atStart => exact ⟨M0.toNat, (-1074), rfl, by congr 1; omega, by omega, ⟨by omega, by omega, by omega, by omega⟩, HB⟩
    case round =>
      clear HB hgs
      obtain ⟨m, e, rfl, rfl, hk, hme, hB⟩ := hrel
      have hme0 := hme.out
      by_cases hev : m % 2 = 0
      · have p1 : ((m : Int) % 2 == 0) = true := beq_iff_eq.2 (by omega)
        obtain ⟨m2, hm2⟩ : ∃ m2 : Nat, m2 = m / 2 := ⟨_, rfl⟩
        have p2 : (m : Int) / 2 = (m2 : Int) := by omega
        have hmn : 0 < m2 ∧ m2 < 18446744073709551616 ∧ m2 + 2 ≤ gk := by omega
        obtain ⟨e2, he2⟩ : ∃ e2, wrap64 (e + 1) = e2 := ⟨_, rfl⟩
        have hen : -9223372036854775808 ≤ e2 ∧ e2 ≤ 9223372036854775807 := by rw [← he2]; unfold wrap64; omega
        have hmn := Aside0.mk hmn
        have hen := Aside0.mk hen
        clear hme0 hev hm2 hk
        go_wp2
        go_roundg (gk - 1)
        case measure => have := hmn.out; omega
        case rel => exact ⟨m2, e2, by rw [he2], rfl, by have := hmn.out; omega, ⟨by have := hmn.out; have := hen.out; omega⟩, hB⟩
      · have p1 : ((m : Int) % 2 == 0) = false := beq_eq_false_iff_ne.2 (by omega)
        have hgr := GG.below hg.out hB.out
        have CU := formatUint m (by omega) wr hgr
        have d1 := dec_size m (by omega)
        have d2 := itoa_size e (by omega) (by omega)
        have he1 := hme0.2.2.1
        have he2 := hme0.2.2.2
        generalize (⟨(Lib.decDigits m).toArray⟩ : ByteArray) = t1 at CU d1
        have CI : ∀ w2, GG w2 → _ := fun w2 h2 => itoa_calls e he1 he2 w2 h2
        generalize (⟨(Lib.itoa e).toArray⟩ : ByteArray) = t2 at CI d2
        have z1 : ¬ 9223372036854775807 < t1.size := by omega
        have z2 : ¬ 9223372036854775807 < 1 + t1.size := by omega
        have z3 : ¬ 9223372036854775807 < t1.size + 1 := by omega
        have z4 : ¬ 9223372036854775807 < 1 + t1.size + 1 := by omega
        have z5 : ¬ 9223372036854775807 < t1.size + 1 + t2.size := by omega
        have z6 : ¬ 9223372036854775807 < 1 + t1.size + 1 + t2.size := by omega
        have hgr := Aside0.mk hgr
        clear hev hk hme0 he1 he2 d1 d2
        go_wp2_with (first | (go_at_call 65; go_loud (with_reducible refine CU.mono ?_); rintro e w2 ⟨rfl, hb2⟩; have CI2 := CI w2 (GG.below hgr.out hb2); have HB2 := Aside0.mk (below_step hB.out hb2); clear CU hb2) | (go_at_call 31; go_loud (with_reducible refine CI2.mono ?_); rintro e w3 ⟨rfl, hb3⟩; have HB3 := Aside0.mk (below_step HB2.out hb3); clear CI2 hb3))
        go_ret
        exact ⟨_, rfl, HB3.out⟩
  · have hm0 := n1.out (by first | rfl | trivial)
    have hrM := rM1.out
    have hgs := Aside0.mk (GG.below hg.out HB.out)
    go_loopg [4, 5] (M1.toNat + 2) (fun gk v4 v5 w' => ∃ (m : Nat) (e : Int), v4 = .int .i64 e ∧ v5 = .int .u64 (m : Int) ∧ m + 1 ≤ gk ∧ Aside0 (0 < m ∧ m < 18446744073709551616 ∧ -9223372036854775808 ≤ e ∧ e ≤ 9223372036854775807) ∧ Aside0 (Below w.heap.size w w'))
    case atStart => exact ⟨M1.toNat, E1, by rw [hE1], by congr 1; omega, by omega, ⟨by omega, by omega, by rw [← hE1]; unfold wrap64; omega, by rw [← hE1]; unfold wrap64; omega⟩, HB⟩
    case round =>
      clear HB hgs
      obtain ⟨m, e, rfl, rfl, hk, hme, hB⟩ := hrel
      have hme0 := hme.out
      by_cases hev : m % 2 = 0
      · have p1 : ((m : Int) % 2 == 0) = true := beq_iff_eq.2 (by omega)
        obtain ⟨m2, hm2⟩ : ∃ m2 : Nat, m2 = m / 2 := ⟨_, rfl⟩
        have p2 : (m : Int) / 2 = (m2 : Int) := by omega
        have hmn : 0 < m2 ∧ m2 < 18446744073709551616 ∧ m2 + 2 ≤ gk := by omega
        obtain ⟨e2, he2⟩ : ∃ e2, wrap64 (e + 1) = e2 := ⟨_, rfl⟩
        have hen : -9223372036854775808 ≤ e2 ∧ e2 ≤ 9223372036854775807 := by rw [← he2]; unfold wrap64; omega
        have hmn := Aside0.mk hmn
        have hen := Aside0.mk hen
        clear hme0 hev hm2 hk
        go_wp2
        go_roundg (gk - 1)
        case measure => have := hmn.out; omega
        case rel => exact ⟨m2, e2, by rw [he2], rfl, by have := hmn.out; omega, ⟨by have := hmn.out; have := hen.out; omega⟩, hB⟩
      · have p1 : ((m : Int) % 2 == 0) = false := beq_eq_false_iff_ne.2 (by omega)
        have hgr := GG.below hg.out hB.out
        have CU := formatUint m (by omega) wr hgr
        have d1 := dec_size m (by omega)
        have d2 := itoa_size e (by omega) (by omega)
        have he1 := hme0.2.2.1
        have he2 := hme0.2.2.2
        generalize (⟨(Lib.decDigits m).toArray⟩ : ByteArray) = t1 at CU d1
        have CI : ∀ w2, GG w2 → _ := fun w2 h2 => itoa_calls e he1 he2 w2 h2
        generalize (⟨(Lib.itoa e).toArray⟩ : ByteArray) = t2 at CI d2
        have z1 : ¬ 9223372036854775807 < t1.size := by omega
        have z2 : ¬ 9223372036854775807 < 1 + t1.size := by omega
        have z3 : ¬ 9223372036854775807 < t1.size + 1 := by omega
        have z4 : ¬ 9223372036854775807 < 1 + t1.size + 1 := by omega
        have z5 : ¬ 9223372036854775807 < t1.size + 1 + t2.size := by omega
        have z6 : ¬ 9223372036854775807 < 1 + t1.size + 1 + t2.size := by omega
        have hgr := Aside0.mk hgr
        clear hev hk hme0 he1 he2 d1 d2
        go_wp2_with (first | (go_at_call 65; go_loud (with_reducible refine CU.mono ?_); rintro e w2 ⟨rfl, hb2⟩; have CI2 := CI w2 (GG.below hgr.out hb2); have HB2 := Aside0.mk (below_step hB.out hb2); clear CU hb2) | (go_at_call 31; go_loud (with_reducible refine CI2.mono ?_); rintro e w3 ⟨rfl, hb3⟩; have HB3 := Aside0.mk (below_step HB2.out hb3); clear CI2 hb3))
        go_ret
        exact ⟨_, rfl, HB3.out⟩
  · have hm0 := n1.out (by first | rfl | trivial)
    have hrM := rM1.out
    have hgs := Aside0.mk (GG.below hg.out HB.out)
    go_loopg [4, 5] (M1.toNat + 2) (fun gk v4 v5 w' => ∃ (m : Nat) (e : Int), v4 = .int .i64 e ∧ v5 = .int .u64 (m : Int) ∧ m + 1 ≤ gk ∧ Aside0 (0 < m ∧ m < 18446744073709551616 ∧ -9223372036854775808 ≤ e ∧ e ≤ 9223372036854775807) ∧ Aside0 (Below w.heap.size w w'))
    case atStart => exact ⟨M1.toNat, E1, by rw [hE1], by congr 1; omega, by omega, ⟨by omega, by omega, by rw [← hE1]; unfold wrap64; omega, by rw [← hE1]; unfold wrap64; omega⟩, HB⟩
    case round =>
      clear HB hgs
      obtain ⟨m, e, rfl, rfl, hk, hme, hB⟩ := hrel
      have hme0 := hme.out
      by_cases hev : m % 2 = 0
      · have p1 : ((m : Int) % 2 == 0) = true := beq_iff_eq.2 (by omega)
        obtain ⟨m2, hm2⟩ : ∃ m2 : Nat, m2 = m / 2 := ⟨_, rfl⟩
        have p2 : (m : Int) / 2 = (m2 : Int) := by omega
        have hmn : 0 < m2 ∧ m2 < 18446744073709551616 ∧ m2 + 2 ≤ gk := by omega
        obtain ⟨e2, he2⟩ : ∃ e2, wrap64 (e + 1) = e2 := ⟨_, rfl⟩
        have hen : -9223372036854775808 ≤ e2 ∧ e2 ≤ 9223372036854775807 := by rw [← he2]; unfold wrap64; omega
        have hmn := Aside0.mk hmn
        have hen := Aside0.mk hen
        clear hme0 hev hm2 hk
        go_wp2
        go_roundg (gk - 1)
        case measure => have := hmn.out; omega
        case rel => exact ⟨m2, e2, by rw [he2], rfl, by have := hmn.out; omega, ⟨by have := hmn.out; have := hen.out; omega⟩, hB⟩
      · have p1 : ((m : Int) % 2 == 0) = false := beq_eq_false_iff_ne.2 (by omega)
        have hgr := GG.below hg.out hB.out
        have CU := formatUint m (by omega) wr hgr
        have d1 := dec_size m (by omega)
        have d2 := itoa_size e (by omega) (by omega)
        have he1 := hme0.2.2.1
        have he2 := hme0.2.2.2
        generalize (⟨(Lib.decDigits m).toArray⟩ : ByteArray) = t1 at CU d1
        have CI : ∀ w2, GG w2 → _ := fun w2 h2 => itoa_calls e he1 he2 w2 h2
        generalize (⟨(Lib.itoa e).toArray⟩ : ByteArray) = t2 at CI d2
        have z1 : ¬ 9223372036854775807 < t1.size := by omega
        have z2 : ¬ 9223372036854775807 < 1 + t1.size := by omega
        have z3 : ¬ 9223372036854775807 < t1.size + 1 := by omega
        have z4 : ¬ 9223372036854775807 < 1 + t1.size + 1 := by omega
        have z5 : ¬ 9223372036854775807 < t1.size + 1 + t2.size := by omega
        have z6 : ¬ 9223372036854775807 < 1 + t1.size + 1 + t2.size := by omega
        have hgr := Aside0.mk hgr
        clear hev hk hme0 he1 he2 d1 d2
        go_wp2_with (first | (go_at_call 65; go_loud (with_reducible refine CU.mono ?_); rintro e w2 ⟨rfl, hb2⟩; have CI2 := CI w2 (GG.below hgr.out hb2); have HB2 := Aside0.mk (below_step hB.out hb2); clear CU hb2) | (go_at_call 31; go_loud (with_reducible refine CI2.mono ?_); rintro e w3 ⟨rfl, hb3⟩; have HB3 := Aside0.mk (below_step HB2.out hb3); clear CI2 hb3))
        go_ret
        exact ⟨_, rfl, HB3.out⟩
  · have hm0 := n0.out (by first | rfl | trivial)
    have hrM := rM0.out
    have hgs := Aside0.mk (GG.below hg.out HB.out)
    go_loopg [4, 5] (M0.toNat + 2) (fun gk v4 v5 w' => ∃ (m : Nat) (e : Int), v4 = .int .i64 e ∧ v5 = .int .u64 (m : Int) ∧ m + 1 ≤ gk ∧ Aside0 (0 < m ∧ m < 18446744073709551616 ∧ -9223372036854775808 ≤ e ∧ e ≤ 9223372036854775807) ∧ Aside0 (Below w.heap.size w w'))
    case atStart => exact ⟨M0.toNat, (-1074), rfl, by congr 1; omega, by omega, ⟨by omega, by omega, by omega, by omega⟩, HB⟩
    case round =>
      clear HB hgs
      obtain ⟨m, e, rfl, rfl, hk, hme, hB⟩ := hrel
      have hme0 := hme.out
      by_cases hev : m % 2 = 0
      · have p1 : ((m : Int) % 2 == 0) = true := beq_iff_eq.2 (by omega)
        obtain ⟨m2, hm2⟩ : ∃ m2 : Nat, m2 = m / 2 := ⟨_, rfl⟩
        have p2 : (m : Int) / 2 = (m2 : Int) := by omega
        have hmn : 0 < m2 ∧ m2 < 18446744073709551616 ∧ m2 + 2 ≤ gk := by omega
        obtain ⟨e2, he2⟩ : ∃ e2, wrap64 (e + 1) = e2 := ⟨_, rfl⟩
        have hen : -9223372036854775808 ≤ e2 ∧ e2 ≤ 9223372036854775807 := by rw [← he2]; unfold wrap64; omega
        have hmn := Aside0.mk hmn
        have hen := Aside0.mk hen
        clear hme0 hev hm2 hk
        go_wp2
        go_roundg (gk - 1)
        case measure => have := hmn.out; omega
        case rel => exact ⟨m2, e2, by rw [he2], rfl, by have := hmn.out; omega, ⟨by have := hmn.out; have := hen.out; omega⟩, hB⟩
      · have p1 : ((m : Int) % 2 == 0) = false := beq_eq_false_iff_ne.2 (by omega)
        have hgr := GG.below hg.out hB.out
        have CU := formatUint m (by omega) wr hgr
        have d1 := dec_size m (by omega)
        have d2 := itoa_size e (by omega) (by omega)
        have he1 := hme0.2.2.1
        have he2 := hme0.2.2.2
        generalize (⟨(Lib.decDigits m).toArray⟩ : ByteArray) = t1 at CU d1
        have CI : ∀ w2, GG w2 → _ := fun w2 h2 => itoa_calls e he1 he2 w2 h2
        generalize (⟨(Lib.itoa e).toArray⟩ : ByteArray) = t2 at CI d2
        have z1 : ¬ 9223372036854775807 < t1.size := by omega
        have z2 : ¬ 9223372036854775807 < 1 + t1.size := by omega
        have z3 : ¬ 9223372036854775807 < t1.size + 1 := by omega
        have z4 : ¬ 9223372036854775807 < 1 + t1.size + 1 := by omega
        have z5 : ¬ 9223372036854775807 < t1.size + 1 + t2.size := by omega
        have z6 : ¬ 9223372036854775807 < 1 + t1.size + 1 + t2.size := by omega
        have hgr := Aside0.mk hgr
        clear hev hk hme0 he1 he2 d1 d2
        go_wp2_with (first | (go_at_call 65; go_loud (with_reducible refine CU.mono ?_); rintro e w2 ⟨rfl, hb2⟩; have CI2 := CI w2 (GG.below hgr.out hb2); have HB2 := Aside0.mk (below_step hB.out hb2); clear CU hb2) | (go_at_call 31; go_loud (with_reducible refine CI2.mono ?_); rintro e w3 ⟨rfl, hb3⟩; have HB3 := Aside0.mk (below_step HB2.out hb3); clear CI2 hb3))
        go_ret
        exact ⟨_, rfl, HB3.out⟩
  · have hm0 := n0.out (by first | rfl | trivial)
    have hrM := rM0.out
    have hgs := Aside0.mk (GG.below hg.out HB.out)
    go_loopg [4, 5] (M0.toNat + 2) (fun gk v4 v5 w' => ∃ (m : Nat) (e : Int), v4 = .int .i64 e ∧ v5 = .int .u64 (m : Int) ∧ m + 1 ≤ gk ∧ Aside0 (0 < m ∧ m < 18446744073709551616 ∧ -9223372036854775808 ≤ e ∧ e ≤ 9223372036854775807) ∧ Aside0 (Below w.heap.size w w'))
    case atStart => exact ⟨M0.toNat, (-1074), rfl, by congr 1; omega, by omega, ⟨by omega, by omega, by omega, by omega⟩, HB⟩
    case round =>
      clear HB hgs
      obtain ⟨m, e, rfl, rfl, hk, hme, hB⟩ := hrel
      have hme0 := hme.out
      by_cases hev : m % 2 = 0
      · have p1 : ((m : Int) % 2 == 0) = true := beq_iff_eq.2 (by omega)
        obtain ⟨m2, hm2⟩ : ∃ m2 : Nat, m2 = m / 2 := ⟨_, rfl⟩
        have p2 : (m : Int) / 2 = (m2 : Int) := by omega
        have hmn : 0 < m2 ∧ m2 < 18446744073709551616 ∧ m2 + 2 ≤ gk := by omega
        obtain ⟨e2, he2⟩ : ∃ e2, wrap64 (e + 1) = e2 := ⟨_, rfl⟩
        have hen : -9223372036854775808 ≤ e2 ∧ e2 ≤ 9223372036854775807 := by rw [← he2]; unfold wrap64; omega
        have hmn := Aside0.mk hmn
        have hen := Aside0.mk hen
        clear hme0 hev hm2 hk
        go_wp2
        go_roundg (gk - 1)
        case measure => have := hmn.out; omega
        case rel => exact ⟨m2, e2, by rw [he2], rfl, by have := hmn.out; omega, ⟨by have := hmn.out; have := hen.out; omega⟩, hB⟩
      · have p1 : ((m : Int) % 2 == 0) = false := beq_eq_false_iff_ne.2 (by omega)
        have hgr := GG.below hg.out hB.out
        have CU := formatUint m (by omega) wr hgr
        have d1 := dec_size m (by omega)
        have d2 := itoa_size e (by omega) (by omega)
        have he1 := hme0.2.2.1
        have he2 := hme0.2.2.2
        generalize (⟨(Lib.decDigits m).toArray⟩ : ByteArray) = t1 at CU d1
        have CI : ∀ w2, GG w2 → _ := fun w2 h2 => itoa_calls e he1 he2 w2 h2
        generalize (⟨(Lib.itoa e).toArray⟩ : ByteArray) = t2 at CI d2
        have z1 : ¬ 9223372036854775807 < t1.size := by omega
        have z2 : ¬ 9223372036854775807 < 1 + t1.size := by omega
        have z3 : ¬ 9223372036854775807 < t1.size + 1 := by omega
        have z4 : ¬ 9223372036854775807 < 1 + t1.size + 1 := by omega
        have z5 : ¬ 9223372036854775807 < t1.size + 1 + t2.size := by omega
        have z6 : ¬ 9223372036854775807 < 1 + t1.size + 1 + t2.size := by omega
        have hgr := Aside0.mk hgr
        clear hev hk hme0 he1 he2 d1 d2
        go_wp2_with (first | (go_at_call 65; go_loud (with_reducible refine CU.mono ?_); rintro e w2 ⟨rfl, hb2⟩; have CI2 := CI w2 (GG.below hgr.out hb2); have HB2 := Aside0.mk (below_step hB.out hb2); clear CU hb2) | (go_at_call 31; go_loud (with_reducible refine CI2.mono ?_); rintro e w3 ⟨rfl, hb3⟩; have HB3 := Aside0.mk (below_step HB2.out hb3); clear CI2 hb3))
        go_ret
        exact ⟨_, rfl, HB3.out⟩
end Go.Proofs.YtmoeekidmkhkoaaDoor.FreeA

