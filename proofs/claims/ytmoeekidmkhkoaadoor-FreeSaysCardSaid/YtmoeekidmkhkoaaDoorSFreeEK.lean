/- Texts of the walks put together: FreeE, FreeF, FreeG, FreeH, FreeI, FreeJ, FreeK. Conditions: as each states. -/
import Derived.Test.YtmoeekidmkhkoaaDoorSPFreeAx3
import Derived.Test.YtmoeekidmkhkoaaDoorSShelf
import Derived.Test.YtmoeekidmkhkoaaDoorRows
import Derived.Lib.AppendIntMem
import Derived.Lib.LaidTab
import Derived.WalkSmall
import Derived.BigCall
import Derived.BigGuard
import Derived.Lib.ItoaMem
import Derived.Lib.ItoaWalk
import Derived.Test.YtmoeekidmkhkoaaDoorSFreeAD
import Derived.Test.YtmoeekidmkhkoaaDoorSWAll
namespace Go.Proofs.YtmoeekidmkhkoaaDoor.FreeA
open Go.RowKit Go.Sort Go.Lib Go.Proofs.YtmoeekidmkhkoaaDoorW.PrintWords Go.Proofs.YtmoeekidmkhkoaaDoorW.PrintLast Go.Proofs.YtmoeekidmkhkoaaDoorW.PrintMore Go.Proofs.YtmoeekidmkhkoaaDoor.PFreeA
set_option linter.unusedVariables false
set_option linter.unusedSimpArgs false
theorem gPow : Tryd.prog.globalNamed "internal/strconv.uint64pow10" = some 0 := by kernel_rfl
theorem gPowType : (Tryd.prog.globals[0]?).map (·.type) = some 92 := by kernel_rfl
structure GG (w : World) : Prop where
 tab : Lib.TabIs Tryd.prog w "internal/strconv.uint64pow10" .u64 Lib.pow10Tab
 lt : 0 < w.heap.size
theorem GG.below {w W : World} (h : GG w) (hb : Below w.heap.size w W) : GG W :=
 ⟨var?_below hb gPow h.lt h.tab, Nat.lt_of_lt_of_le h.lt hb.size⟩
theorem gg_of_pow {W : World} {r : List (String × DataW Unit)} (h : laidMet Tryd.prog (("internal/strconv.uint64pow10", Rows.laid_internal_strconv_uint64pow10) :: r) W) : GG W := by
 have e : (Rows.laid_internal_strconv_uint64pow10 : DataW Unit) = Lib.tabData .u64 Lib.pow10Tab := rfl
 rw [e] at h
 have hT := Lib.tabIs_of_head gPow gPowType Tryd.underlying92 Tryd.underlying69 (by kernel_rfl) (by kernel_rfl) h
 exact ⟨hT, World.block_lt_of_cell? _ _ (hT.cell gPow 0 (by decide))⟩
theorem fin0 (w : World) (o : Obj) (dk : Array UInt8) (k : Nat) : ∃ os, (putRow (fun (b : UInt8) => Value.int .u8 (b.toNat : Int)) (w.alloc o) w.heap.size 0 dk).drewN k = grow (w.drewN k) os := by
 rw [alloc_eq_grow]
 obtain ⟨os', _, e⟩ := putRow_grow_new (fun (b : UInt8) => Value.int .u8 (b.toNat : Int)) w #[o] w.heap.size 0 dk (Nat.le_refl _)
 exact ⟨os', by rw [e]; rfl⟩
set_option maxHeartbeats 6400000 in
set_option maxRecDepth 100000 in
theorem iFormatUint (u : Nat) (hu64 : u < 18446744073709551616) (w : World) (hg : GG w) :
  Calls Tryd.prog 71 #[.int .u64 u, .int .i64 10] w fun e w' => e = .returned (.string ⟨(Lib.decDigits u).toArray⟩) ∧ ∃ k os, w' = grow (w.drewN k) os := by
 have e66 : ∀ args w, (callFunc 66 args).run Tryd.prog w = .ok (.enter 66 args) w := enters_of Tryd.func66 (by kernel_rfl) rfl
 have e67 : ∀ args w, (callFunc 67 args).run Tryd.prog w = .ok (.enter 67 args) w := enters_of Tryd.func67 (by kernel_rfl) rfl
 have e68 : ∀ args w, (callFunc 68 args).run Tryd.prog w = .ok (.enter 68 args) w := enters_of Tryd.func68 (by kernel_rfl) rfl
 have htab := hg.tab
 by_cases hs : u < 100
 ·have hd : decide ((u : Int) < 100) = true := decide_eq_true (by omega)
  go_enter Tryd.func71, Tryd.ntmps71
  go_wp2_with (go_at_fn 66; refine (Any.internal_strconv_small { Tryd.laysM171 with } u hs _).mono ?_; rintro e w' ⟨rfl, rfl⟩)
  go_ret
  exact ⟨rfl, 0, #[], by simp [World.drewN_zero]⟩
 ·have hd : decide ((u : Int) < 100) = false := decide_eq_false (by omega)
  have hu1 : 1 ≤ u := by omega
  have hnd20 : Lib.nDigits u ≤ 20 := by have := Lib.numDigits_eq u hu1 hu64; split at this <;> omega
  have hal : Tryd.prog.arrayLen 83 = 24 := by simp [Program.arrayLen, Tryd.underlying83]
  have hsl1 : ∀ W, (Instr.sliceAt 83 (.pointer (some ⟨w.heap.size, 0, none⟩)) none (some (.int .i64 (Lib.nDigits u : Int))) none).run Tryd.prog W = .ok (.slice (some ⟨w.heap.size, 0, none⟩) (Lib.nDigits u) 24) W := fun W => by
   rw [run_sliceAt_array_h W 83 ⟨w.heap.size, 0, none⟩ (by simp [Program.arrayLen, Program.elem, Tryd.underlying83]) .i64 (Lib.nDigits u : Int) (by omega) (by rw [hal]; omega)]
   go_simp
   first | done | omega
  have hH0 : Holds (fun (b : UInt8) => Value.int .u8 (b.toNat : Int)) (w.alloc (.cells Lib.zeros24 83)) w.heap.size 0 (Array.replicate (Lib.nDigits u) 0) := by
   intro t ht
   rw [Array.size_replicate] at ht
   refine ⟨?_, World.frozen?_alloc_new _ _ _ _⟩
   rw [World.cell?_alloc_new, Nat.zero_add, Lib.zeros24_at t (by omega), getElem!_pos _ t (by rw [Array.size_replicate]; exact ht)]
   simp
  have hfmt := Any.internal_strconv_formatBase10 { Tryd.laysM171 with } w.heap.size 0 24 u (Array.replicate (Lib.nDigits u) 0) (w.alloc (.cells Lib.zeros24 83)) hH0 (by rw [Array.size_replicate]; exact Lib.lt_pow_nDigits u) hu64 (by rw [Array.size_replicate]; omega)
  rw [Array.size_replicate] at hfmt
  have HH0 := Lib.hid hH0
  clear hH0 hal
  go_enter Tryd.func71, Tryd.ntmps71
  go_wp2_with (first
   | (go_at_fn 67; refine (Any.internal_strconv_numDigits { Tryd.laysM171 with } u hu1 hu64 _ (Lib.tabIs_alloc htab _)).mono ?_; rintro e w' ⟨rfl, rfl⟩))
  go_at_fn 68
  refine hfmt.mono ?_
  rintro e w' ⟨rfl, k, v', dk, rfl, hF⟩
  have hal : Tryd.prog.arrayLen 83 = 24 := by simp [Program.arrayLen, Tryd.underlying83]
  have hcv : (convert 86 9 (.slice (some ⟨w.heap.size, 0, none⟩) (Lib.nDigits u) 24)).run Tryd.prog ((putRow (fun (b : UInt8) => Value.int .u8 (b.toNat : Int)) (w.alloc (.cells Lib.zeros24 83)) w.heap.size 0 dk).drewN k) = .ok (.string ⟨(Lib.decDigits u).toArray⟩) ((putRow (fun (b : UInt8) => Value.int .u8 (b.toNat : Int)) (w.alloc (.cells Lib.zeros24 83)) w.heap.size 0 dk).drewN k) := by
   have h := run_convert_bytes_back (P := Tryd.prog) ((putRow (fun (b : UInt8) => Value.int .u8 (b.toNat : Int)) (w.alloc (.cells Lib.zeros24 83)) w.heap.size 0 dk).drewN k) 86 9 5 ⟨w.heap.size, 0, none⟩ 24 (Lib.decDigits u) Tryd.underlying86 Tryd.underlying5 Tryd.underlying9 (fun j hj => by
    rw [Lib.row_is_numeral hF j hj, Lib.add_plain, World.cell?_drewN]
    exact cell?_putRow (fun (b : UInt8) => Value.int .u8 (b.toNat : Int)) _ w.heap.size 0 _ dk HH0.out (by rw [hF.size, Array.size_replicate]) j (by rw [hF.size]; rw [Lib.decDigits_length] at hj; exact hj))
   rw [Lib.decDigits_length] at h
   exact h
  go_wp2
  go_ret
  obtain ⟨os, eo⟩ := fin0 w (.cells Lib.zeros24 83) dk k
  exact ⟨rfl, k, os, eo⟩
theorem nDigits20 (u : Nat) (h : u < 18446744073709551616) : (Lib.decDigits u).length ≤ 20 := by
 rw [Lib.decDigits_length]
 by_cases h1 : 1 ≤ u
 ·have := Lib.numDigits_eq u h1 h; split at this <;> omega
 ·rw [Lib.nDigits_small (by omega)]; omega
theorem dec_size (u : Nat) (h : u < 18446744073709551616) : (⟨(Lib.decDigits u).toArray⟩ : ByteArray).size ≤ 21 := by
 have := nDigits20 u h
 show (Lib.decDigits u).toArray.size ≤ 21
 rw [List.size_toArray]
 omega
theorem itoa_size (n : Int) (h0 : -9223372036854775808 ≤ n) (h1 : n ≤ 9223372036854775807) : (⟨(Lib.itoa n).toArray⟩ : ByteArray).size ≤ 21 := by
 show (Lib.itoa n).toArray.size ≤ 21
 rw [List.size_toArray]
 by_cases hn : n < 0
 ·obtain ⟨u, rfl⟩ : ∃ u : Nat, n = -(u : Int) := ⟨n.natAbs, by omega⟩
  rw [Lib.itoa_neg u (by omega)]
  have := nDigits20 u (by omega)
  simp only [List.length_cons]
  omega
 ·obtain ⟨u, rfl⟩ : ∃ u : Nat, n = u := ⟨n.toNat, by omega⟩
  rw [Lib.itoa_nonneg]
  have := nDigits20 u (by omega)
  omega
theorem formatUint (u : Nat) (hu64 : u < 18446744073709551616) (w : World) (hg : GG w) :
  Calls Tryd.prog 65 #[.int .u64 u, .int .i64 10] w fun e w' => e = .returned (.string ⟨(Lib.decDigits u).toArray⟩) ∧ Below w.heap.size w w' := by
 have T1 := iFormatUint u hu64 w hg
 go_enter Tryd.func65, Tryd.ntmps65
 go_wp2_with (first | (go_at_call 71; go_loud (with_reducible refine T1.mono ?_); rintro e w1 ⟨rfl, k, os, hw⟩; have HB := Aside0.mk (show Below w.heap.size w w1 by rw [hw]; exact Lib.below_grow _ w (Nat.le_refl _) k os); clear hw T1))
 go_ret
 exact ⟨rfl, HB.out⟩
theorem itoa_calls (n : Int) (h0 : -9223372036854775808 ≤ n) (h1 : n ≤ 9223372036854775807) (w : World) (hg : GG w) :
  Calls Tryd.prog 31 #[.int .i64 n] w fun e w' => e = .returned (.string ⟨(Lib.itoa n).toArray⟩) ∧ Below w.heap.size w w' :=
 (Tryd.strconv_Itoa n h0 h1 w hg.tab).mono fun e w' ⟨he, k, os, hw⟩ => ⟨he, by rw [hw]; exact Lib.below_grow _ w (Nat.le_refl _) k os⟩
theorem formatInt (n : Int) (h0 : -9223372036854775808 ≤ n) (h1 : n ≤ 9223372036854775807) (w : World) (hg : GG w) :
  Calls Tryd.prog 64 #[.int .i64 n, .int .i64 10] w fun e w' => e = .returned (.string ⟨(Lib.itoa n).toArray⟩) ∧ Below w.heap.size w w' :=
 (Tryd.strconv_FormatInt_10 n h0 h1 w hg.tab).mono fun e w' ⟨he, k, os, hw⟩ => ⟨he, by rw [hw]; exact Lib.below_grow _ w (Nat.le_refl _) k os⟩
theorem numText_calls (n : Int) (h0 : -9223372036854775808 ≤ n) (h1 : n ≤ 9223372036854775807) (w : World) (hg : GG w) :
  Calls Tryd.prog 50 #[.int .i64 n] w fun e w' => ∃ s : ByteArray, e = .returned (.string s) ∧ Below w.heap.size w w' := by
 have T1 := formatInt n h0 h1 w hg
 go_enter Tryd.func50, Tryd.ntmps50
 go_wp2_with (first | (go_at_call 64; go_loud (with_reducible refine T1.mono ?_); rintro e w1 ⟨rfl, hb⟩; have HB := Aside0.mk hb; clear hb T1))
 go_ret
 exact ⟨_, rfl, HB.out⟩
theorem w_calls (s : ByteArray) (w : World) : Calls Tryd.prog 49 #[.string s] w fun e w' => e = .returned (.agg #[.string s, .slice none 0 0, .int .i64 0]) ∧ Below w.heap.size w w' := by
 go_enter Tryd.func49, Tryd.ntmps49
 go_wp2
 refine bodyPost_ret (v := .agg #[.string s, .slice none 0 0, .int .i64 0]) (by simp [results, Tryd.results49, go_sem]) rfl ⟨rfl, below_alloc (Below.refl _ _) _⟩
theorem l_calls (A : Option Addr) (n c : Nat) (w : World) : Calls Tryd.prog 52 #[.slice A n c] w fun e w' => e = .returned (.agg #[.string ⟨#[]⟩, .slice A n c, .int .i64 0]) ∧ Below w.heap.size w w' := by
 go_enter Tryd.func52, Tryd.ntmps52
 go_wp2
 refine bodyPost_ret (v := .agg #[.string ⟨#[]⟩, .slice A n c, .int .i64 0]) (by simp [results, Tryd.results52, go_sem]) rfl ⟨rfl, below_alloc (Below.refl _ _) _⟩
set_option maxHeartbeats 6400000 in
set_option maxRecDepth 100000 in
theorem floText_calls (a : Int) (h0 : 0 ≤ a) (h1 : a < 18446744073709551616) (w : World) (hg : GG w) :
  Calls Tryd.prog 51 #[.int .u64 a] w fun e w' => ∃ s : ByteArray, e = .returned (.string s) ∧ Below w.heap.size w w' := by
 obtain ⟨r, hr⟩ : ∃ r, gristmillref1_Canon.f a = some r := by unfold gristmillref1_Canon.f; split <;> (try split) <;> exact ⟨_, rfl⟩
 have hrr : 0 ≤ r ∧ r < 18446744073709551616 := by
  unfold gristmillref1_Canon.f at hr
  split at hr <;> (try split at hr) <;> (injection hr with hr; omega)
 have T1 := gristmillref1_Canon.calls a r w hr
 have hg := Aside0.mk hg
 clear hr
 by_cases hn : r = 9221120237041090560
 ·have q1 : (r == 9221120237041090560) = true := beq_iff_eq.2 hn
  clear hn
  go_enter Tryd.func51, Tryd.ntmps51
  go_wp2_with (first | (go_at_call 61; go_loud (with_reducible refine T1.mono ?_); rintro e w1 ⟨rfl, hd⟩; have HB := Aside0.mk hd.below; clear hd T1))
  go_ret
  exact ⟨_, rfl, HB.out⟩
 have q1 : (r == 9221120237041090560) = false := beq_eq_false_iff_ne.2 hn
 obtain ⟨b2, q2⟩ : ∃ b, (r / 9223372036854775808 == 1) = b := ⟨_, rfl⟩
 obtain ⟨E0, hE⟩ : ∃ x, wrap64 (bits BinOp.and IntKind.u64 (r / 4503599627370496) 2047) = x := ⟨_, rfl⟩
 obtain ⟨M0, hM⟩ : ∃ x, bits BinOp.and IntKind.u64 r 4503599627370495 = x := ⟨_, rfl⟩
 obtain ⟨M1, hO⟩ : ∃ x, bits BinOp.or IntKind.u64 M0 4503599627370496 = x := ⟨_, rfl⟩
 obtain ⟨E1, hE1⟩ : ∃ x, wrap64 (E0 - 1075) = x := ⟨_, rfl⟩
 have rM0 : Aside0 (0 ≤ M0 ∧ M0 < 18446744073709551616) := ⟨by have h1 := bits_lo_u64 .and r 4503599627370495; have h2 := bits_hi_u64 .and r 4503599627370495; omega⟩
 have rM1 : Aside0 (0 ≤ M1 ∧ M1 < 18446744073709551616) := ⟨by have h1 := bits_lo_u64 .or M0 4503599627370496; have h2 := bits_hi_u64 .or M0 4503599627370496; omega⟩
 obtain ⟨b3, q3⟩ : ∃ b, (E0 == 2047) = b := ⟨_, rfl⟩
 obtain ⟨b4, q4⟩ : ∃ b, (E0 == 0) = b := ⟨_, rfl⟩
 obtain ⟨b5, q5⟩ : ∃ b, (M0 == 0) = b := ⟨_, rfl⟩
 obtain ⟨b6, q6⟩ : ∃ b, (M1 == 0) = b := ⟨_, rfl⟩
 have n0 : Aside0 (b5 = false → M0 ≠ 0) := ⟨fun h => by rw [h] at q5; exact beq_eq_false_iff_ne.1 q5⟩
 have n1 : Aside0 (b6 = false → M1 ≠ 0) := ⟨fun h => by rw [h] at q6; exact beq_eq_false_iff_ne.1 q6⟩
 clear hn hrr h0 h1
 cases b2 <;> cases b3 <;> cases b4 <;> cases b5 <;> cases b6
 all_goals go_enter Tryd.func51, Tryd.ntmps51
 all_goals go_wp2_with (first | (go_at_call 61; go_loud (with_reducible refine T1.mono ?_); rintro e w1 ⟨rfl, hd⟩; have HB := Aside0.mk hd.below; clear hd T1))
 all_goals first | (go_ret; exact ⟨_, rfl, HB.out⟩) | skip
 ·have hm0 := n1.out (by first | rfl | trivial)
  have hrM := rM1.out
  have hgs := Aside0.mk (GG.below hg.out HB.out)
  go_loopg [4, 5] (M1.toNat + 2) (fun gk v4 v5 w' => ∃ (m : Nat) (e : Int), v4 = .int .i64 e ∧ v5 = .int .u64 (m : Int) ∧ m + 1 ≤ gk ∧ Aside0 (0 < m ∧ m < 18446744073709551616 ∧ -9223372036854775808 ≤ e ∧ e ≤ 9223372036854775807) ∧ Aside0 (Below w.heap.size w w'))
  case atStart => exact ⟨M1.toNat, E1, by rw [hE1], by congr 1; omega, by omega, ⟨by omega, by omega, by rw [← hE1]; unfold wrap64; omega, by rw [← hE1]; unfold wrap64; omega⟩, HB⟩
  case round =>
   clear HB hgs
   obtain ⟨m, e, rfl, rfl, hk, hme, hB⟩ := hrel
   have hme0 := hme.out
   by_cases hev : m % 2 = 0
   ·have p1 : ((m : Int) % 2 == 0) = true := beq_iff_eq.2 (by omega)
    obtain ⟨m2, hm2⟩ : ∃ m2 : Nat, m2 = m / 2 := ⟨_, rfl⟩
    have p2 : (m : Int) / 2 = (m2 : Int) := by omega
    have hmn : 0 < m2 ∧ m2 < 18446744073709551616 ∧ m2 + 2 ≤ gk := by omega
    obtain ⟨e2, he2⟩ : ∃ e2, wrap64 (e + 1) = e2 := ⟨_, rfl⟩
    have hen : -9223372036854775808 ≤ e2 ∧ e2 ≤ 9223372036854775807 := by rw [← he2]; unfold wrap64; omega
    have hmn := Aside0.mk hmn
    have hen := Aside0.mk hen
    clear hme0 hev hm2 hk
    go_wp2
    go_roundg (gk - 1)
    case measure => have := hmn.out; omega
    case rel => exact ⟨m2, e2, by rw [he2], rfl, by have := hmn.out; omega, ⟨by have := hmn.out; have := hen.out; omega⟩, hB⟩
   ·have p1 : ((m : Int) % 2 == 0) = false := beq_eq_false_iff_ne.2 (by omega)
    have hgr := GG.below hg.out hB.out
    have CU := formatUint m (by omega) wr hgr
    have d1 := dec_size m (by omega)
    have d2 := itoa_size e (by omega) (by omega)
    have he1 := hme0.2.2.1
    have he2 := hme0.2.2.2
    generalize (⟨(Lib.decDigits m).toArray⟩ : ByteArray) = t1 at CU d1
    have CI : ∀ w2, GG w2 → _ := fun w2 h2 => itoa_calls e he1 he2 w2 h2
    generalize (⟨(Lib.itoa e).toArray⟩ : ByteArray) = t2 at CI d2
    have z1 : ¬ 9223372036854775807 < t1.size := by omega
    have z2 : ¬ 9223372036854775807 < 1 + t1.size := by omega
    have z3 : ¬ 9223372036854775807 < t1.size + 1 := by omega
    have z4 : ¬ 9223372036854775807 < 1 + t1.size + 1 := by omega
    have z5 : ¬ 9223372036854775807 < t1.size + 1 + t2.size := by omega
    have z6 : ¬ 9223372036854775807 < 1 + t1.size + 1 + t2.size := by omega
    have hgr := Aside0.mk hgr
    clear hev hk hme0 he1 he2 d1 d2
    go_wp2_with (first | (go_at_call 65; go_loud (with_reducible refine CU.mono ?_); rintro e w2 ⟨rfl, hb2⟩; have CI2 := CI w2 (GG.below hgr.out hb2); have HB2 := Aside0.mk (below_step hB.out hb2); clear CU hb2) | (go_at_call 31; go_loud (with_reducible refine CI2.mono ?_); rintro e w3 ⟨rfl, hb3⟩; have HB3 := Aside0.mk (below_step HB2.out hb3); clear CI2 hb3))
    go_ret
    exact ⟨_, rfl, HB3.out⟩
 ·have hm0 := n1.out (by first | rfl | trivial)
  have hrM := rM1.out
  have hgs := Aside0.mk (GG.below hg.out HB.out)
  go_loopg [4, 5] (M1.toNat + 2) (fun gk v4 v5 w' => ∃ (m : Nat) (e : Int), v4 = .int .i64 e ∧ v5 = .int .u64 (m : Int) ∧ m + 1 ≤ gk ∧ Aside0 (0 < m ∧ m < 18446744073709551616 ∧ -9223372036854775808 ≤ e ∧ e ≤ 9223372036854775807) ∧ Aside0 (Below w.heap.size w w'))
  case atStart => exact ⟨M1.toNat, E1, by rw [hE1], by congr 1; omega, by omega, ⟨by omega, by omega, by rw [← hE1]; unfold wrap64; omega, by rw [← hE1]; unfold wrap64; omega⟩, HB⟩
  case round =>
   clear HB hgs
   obtain ⟨m, e, rfl, rfl, hk, hme, hB⟩ := hrel
   have hme0 := hme.out
   by_cases hev : m % 2 = 0
   ·have p1 : ((m : Int) % 2 == 0) = true := beq_iff_eq.2 (by omega)
    obtain ⟨m2, hm2⟩ : ∃ m2 : Nat, m2 = m / 2 := ⟨_, rfl⟩
    have p2 : (m : Int) / 2 = (m2 : Int) := by omega
    have hmn : 0 < m2 ∧ m2 < 18446744073709551616 ∧ m2 + 2 ≤ gk := by omega
    obtain ⟨e2, he2⟩ : ∃ e2, wrap64 (e + 1) = e2 := ⟨_, rfl⟩
    have hen : -9223372036854775808 ≤ e2 ∧ e2 ≤ 9223372036854775807 := by rw [← he2]; unfold wrap64; omega
    have hmn := Aside0.mk hmn
    have hen := Aside0.mk hen
    clear hme0 hev hm2 hk
    go_wp2
    go_roundg (gk - 1)
    case measure => have := hmn.out; omega
    case rel => exact ⟨m2, e2, by rw [he2], rfl, by have := hmn.out; omega, ⟨by have := hmn.out; have := hen.out; omega⟩, hB⟩
   ·have p1 : ((m : Int) % 2 == 0) = false := beq_eq_false_iff_ne.2 (by omega)
    have hgr := GG.below hg.out hB.out
    have CU := formatUint m (by omega) wr hgr
    have d1 := dec_size m (by omega)
    have d2 := itoa_size e (by omega) (by omega)
    have he1 := hme0.2.2.1
    have he2 := hme0.2.2.2
    generalize (⟨(Lib.decDigits m).toArray⟩ : ByteArray) = t1 at CU d1
    have CI : ∀ w2, GG w2 → _ := fun w2 h2 => itoa_calls e he1 he2 w2 h2
    generalize (⟨(Lib.itoa e).toArray⟩ : ByteArray) = t2 at CI d2
    have z1 : ¬ 9223372036854775807 < t1.size := by omega
    have z2 : ¬ 9223372036854775807 < 1 + t1.size := by omega
    have z3 : ¬ 9223372036854775807 < t1.size + 1 := by omega
    have z4 : ¬ 9223372036854775807 < 1 + t1.size + 1 := by omega
    have z5 : ¬ 9223372036854775807 < t1.size + 1 + t2.size := by omega
    have z6 : ¬ 9223372036854775807 < 1 + t1.size + 1 + t2.size := by omega
    have hgr := Aside0.mk hgr
    clear hev hk hme0 he1 he2 d1 d2
    go_wp2_with (first | (go_at_call 65; go_loud (with_reducible refine CU.mono ?_); rintro e w2 ⟨rfl, hb2⟩; have CI2 := CI w2 (GG.below hgr.out hb2); have HB2 := Aside0.mk (below_step hB.out hb2); clear CU hb2) | (go_at_call 31; go_loud (with_reducible refine CI2.mono ?_); rintro e w3 ⟨rfl, hb3⟩; have HB3 := Aside0.mk (below_step HB2.out hb3); clear CI2 hb3))
    go_ret
    exact ⟨_, rfl, HB3.out⟩
 ·have hm0 := n0.out (by first | rfl | trivial)
  have hrM := rM0.out
  have hgs := Aside0.mk (GG.below hg.out HB.out)
  go_loopg [4, 5] (M0.toNat + 2) (fun gk v4 v5 w' => ∃ (m : Nat) (e : Int), v4 = .int .i64 e ∧ v5 = .int .u64 (m : Int) ∧ m + 1 ≤ gk ∧ Aside0 (0 < m ∧ m < 18446744073709551616 ∧ -9223372036854775808 ≤ e ∧ e ≤ 9223372036854775807) ∧ Aside0 (Below w.heap.size w w'))
  case atStart => exact ⟨M0.toNat, (-1074), rfl, by congr 1; omega, by omega, ⟨by omega, by omega, by omega, by omega⟩, HB⟩
  case round =>
   clear HB hgs
   obtain ⟨m, e, rfl, rfl, hk, hme, hB⟩ := hrel
   have hme0 := hme.out
   by_cases hev : m % 2 = 0
   ·have p1 : ((m : Int) % 2 == 0) = true := beq_iff_eq.2 (by omega)
    obtain ⟨m2, hm2⟩ : ∃ m2 : Nat, m2 = m / 2 := ⟨_, rfl⟩
    have p2 : (m : Int) / 2 = (m2 : Int) := by omega
    have hmn : 0 < m2 ∧ m2 < 18446744073709551616 ∧ m2 + 2 ≤ gk := by omega
    obtain ⟨e2, he2⟩ : ∃ e2, wrap64 (e + 1) = e2 := ⟨_, rfl⟩
    have hen : -9223372036854775808 ≤ e2 ∧ e2 ≤ 9223372036854775807 := by rw [← he2]; unfold wrap64; omega
    have hmn := Aside0.mk hmn
    have hen := Aside0.mk hen
    clear hme0 hev hm2 hk
    go_wp2
    go_roundg (gk - 1)
    case measure => have := hmn.out; omega
    case rel => exact ⟨m2, e2, by rw [he2], rfl, by have := hmn.out; omega, ⟨by have := hmn.out; have := hen.out; omega⟩, hB⟩
   ·have p1 : ((m : Int) % 2 == 0) = false := beq_eq_false_iff_ne.2 (by omega)
    have hgr := GG.below hg.out hB.out
    have CU := formatUint m (by omega) wr hgr
    have d1 := dec_size m (by omega)
    have d2 := itoa_size e (by omega) (by omega)
    have he1 := hme0.2.2.1
    have he2 := hme0.2.2.2
    generalize (⟨(Lib.decDigits m).toArray⟩ : ByteArray) = t1 at CU d1
    have CI : ∀ w2, GG w2 → _ := fun w2 h2 => itoa_calls e he1 he2 w2 h2
    generalize (⟨(Lib.itoa e).toArray⟩ : ByteArray) = t2 at CI d2
    have z1 : ¬ 9223372036854775807 < t1.size := by omega
    have z2 : ¬ 9223372036854775807 < 1 + t1.size := by omega
    have z3 : ¬ 9223372036854775807 < t1.size + 1 := by omega
    have z4 : ¬ 9223372036854775807 < 1 + t1.size + 1 := by omega
    have z5 : ¬ 9223372036854775807 < t1.size + 1 + t2.size := by omega
    have z6 : ¬ 9223372036854775807 < 1 + t1.size + 1 + t2.size := by omega
    have hgr := Aside0.mk hgr
    clear hev hk hme0 he1 he2 d1 d2
    go_wp2_with (first | (go_at_call 65; go_loud (with_reducible refine CU.mono ?_); rintro e w2 ⟨rfl, hb2⟩; have CI2 := CI w2 (GG.below hgr.out hb2); have HB2 := Aside0.mk (below_step hB.out hb2); clear CU hb2) | (go_at_call 31; go_loud (with_reducible refine CI2.mono ?_); rintro e w3 ⟨rfl, hb3⟩; have HB3 := Aside0.mk (below_step HB2.out hb3); clear CI2 hb3))
    go_ret
    exact ⟨_, rfl, HB3.out⟩
 ·have hm0 := n0.out (by first | rfl | trivial)
  have hrM := rM0.out
  have hgs := Aside0.mk (GG.below hg.out HB.out)
  go_loopg [4, 5] (M0.toNat + 2) (fun gk v4 v5 w' => ∃ (m : Nat) (e : Int), v4 = .int .i64 e ∧ v5 = .int .u64 (m : Int) ∧ m + 1 ≤ gk ∧ Aside0 (0 < m ∧ m < 18446744073709551616 ∧ -9223372036854775808 ≤ e ∧ e ≤ 9223372036854775807) ∧ Aside0 (Below w.heap.size w w'))
  case atStart => exact ⟨M0.toNat, (-1074), rfl, by congr 1; omega, by omega, ⟨by omega, by omega, by omega, by omega⟩, HB⟩
  case round =>
   clear HB hgs
   obtain ⟨m, e, rfl, rfl, hk, hme, hB⟩ := hrel
   have hme0 := hme.out
   by_cases hev : m % 2 = 0
   ·have p1 : ((m : Int) % 2 == 0) = true := beq_iff_eq.2 (by omega)
    obtain ⟨m2, hm2⟩ : ∃ m2 : Nat, m2 = m / 2 := ⟨_, rfl⟩
    have p2 : (m : Int) / 2 = (m2 : Int) := by omega
    have hmn : 0 < m2 ∧ m2 < 18446744073709551616 ∧ m2 + 2 ≤ gk := by omega
    obtain ⟨e2, he2⟩ : ∃ e2, wrap64 (e + 1) = e2 := ⟨_, rfl⟩
    have hen : -9223372036854775808 ≤ e2 ∧ e2 ≤ 9223372036854775807 := by rw [← he2]; unfold wrap64; omega
    have hmn := Aside0.mk hmn
    have hen := Aside0.mk hen
    clear hme0 hev hm2 hk
    go_wp2
    go_roundg (gk - 1)
    case measure => have := hmn.out; omega
    case rel => exact ⟨m2, e2, by rw [he2], rfl, by have := hmn.out; omega, ⟨by have := hmn.out; have := hen.out; omega⟩, hB⟩
   ·have p1 : ((m : Int) % 2 == 0) = false := beq_eq_false_iff_ne.2 (by omega)
    have hgr := GG.below hg.out hB.out
    have CU := formatUint m (by omega) wr hgr
    have d1 := dec_size m (by omega)
    have d2 := itoa_size e (by omega) (by omega)
    have he1 := hme0.2.2.1
    have he2 := hme0.2.2.2
    generalize (⟨(Lib.decDigits m).toArray⟩ : ByteArray) = t1 at CU d1
    have CI : ∀ w2, GG w2 → _ := fun w2 h2 => itoa_calls e he1 he2 w2 h2
    generalize (⟨(Lib.itoa e).toArray⟩ : ByteArray) = t2 at CI d2
    have z1 : ¬ 9223372036854775807 < t1.size := by omega
    have z2 : ¬ 9223372036854775807 < 1 + t1.size := by omega
    have z3 : ¬ 9223372036854775807 < t1.size + 1 := by omega
    have z4 : ¬ 9223372036854775807 < 1 + t1.size + 1 := by omega
    have z5 : ¬ 9223372036854775807 < t1.size + 1 + t2.size := by omega
    have z6 : ¬ 9223372036854775807 < 1 + t1.size + 1 + t2.size := by omega
    have hgr := Aside0.mk hgr
    clear hev hk hme0 he1 he2 d1 d2
    go_wp2_with (first | (go_at_call 65; go_loud (with_reducible refine CU.mono ?_); rintro e w2 ⟨rfl, hb2⟩; have CI2 := CI w2 (GG.below hgr.out hb2); have HB2 := Aside0.mk (below_step hB.out hb2); clear CU hb2) | (go_at_call 31; go_loud (with_reducible refine CI2.mono ?_); rintro e w3 ⟨rfl, hb3⟩; have HB3 := Aside0.mk (below_step HB2.out hb3); clear CI2 hb3))
    go_ret
    exact ⟨_, rfl, HB3.out⟩
 ·have hm0 := n1.out (by first | rfl | trivial)
  have hrM := rM1.out
  have hgs := Aside0.mk (GG.below hg.out HB.out)
  go_loopg [4, 5] (M1.toNat + 2) (fun gk v4 v5 w' => ∃ (m : Nat) (e : Int), v4 = .int .i64 e ∧ v5 = .int .u64 (m : Int) ∧ m + 1 ≤ gk ∧ Aside0 (0 < m ∧ m < 18446744073709551616 ∧ -9223372036854775808 ≤ e ∧ e ≤ 9223372036854775807) ∧ Aside0 (Below w.heap.size w w'))
  case atStart => exact ⟨M1.toNat, E1, by rw [hE1], by congr 1; omega, by omega, ⟨by omega, by omega, by rw [← hE1]; unfold wrap64; omega, by rw [← hE1]; unfold wrap64; omega⟩, HB⟩
  case round =>
   clear HB hgs
   obtain ⟨m, e, rfl, rfl, hk, hme, hB⟩ := hrel
   have hme0 := hme.out
   by_cases hev : m % 2 = 0
   ·have p1 : ((m : Int) % 2 == 0) = true := beq_iff_eq.2 (by omega)
    obtain ⟨m2, hm2⟩ : ∃ m2 : Nat, m2 = m / 2 := ⟨_, rfl⟩
    have p2 : (m : Int) / 2 = (m2 : Int) := by omega
    have hmn : 0 < m2 ∧ m2 < 18446744073709551616 ∧ m2 + 2 ≤ gk := by omega
    obtain ⟨e2, he2⟩ : ∃ e2, wrap64 (e + 1) = e2 := ⟨_, rfl⟩
    have hen : -9223372036854775808 ≤ e2 ∧ e2 ≤ 9223372036854775807 := by rw [← he2]; unfold wrap64; omega
    have hmn := Aside0.mk hmn
    have hen := Aside0.mk hen
    clear hme0 hev hm2 hk
    go_wp2
    go_roundg (gk - 1)
    case measure => have := hmn.out; omega
    case rel => exact ⟨m2, e2, by rw [he2], rfl, by have := hmn.out; omega, ⟨by have := hmn.out; have := hen.out; omega⟩, hB⟩
   ·have p1 : ((m : Int) % 2 == 0) = false := beq_eq_false_iff_ne.2 (by omega)
    have hgr := GG.below hg.out hB.out
    have CU := formatUint m (by omega) wr hgr
    have d1 := dec_size m (by omega)
    have d2 := itoa_size e (by omega) (by omega)
    have he1 := hme0.2.2.1
    have he2 := hme0.2.2.2
    generalize (⟨(Lib.decDigits m).toArray⟩ : ByteArray) = t1 at CU d1
    have CI : ∀ w2, GG w2 → _ := fun w2 h2 => itoa_calls e he1 he2 w2 h2
    generalize (⟨(Lib.itoa e).toArray⟩ : ByteArray) = t2 at CI d2
    have z1 : ¬ 9223372036854775807 < t1.size := by omega
    have z2 : ¬ 9223372036854775807 < 1 + t1.size := by omega
    have z3 : ¬ 9223372036854775807 < t1.size + 1 := by omega
    have z4 : ¬ 9223372036854775807 < 1 + t1.size + 1 := by omega
    have z5 : ¬ 9223372036854775807 < t1.size + 1 + t2.size := by omega
    have z6 : ¬ 9223372036854775807 < 1 + t1.size + 1 + t2.size := by omega
    have hgr := Aside0.mk hgr
    clear hev hk hme0 he1 he2 d1 d2
    go_wp2_with (first | (go_at_call 65; go_loud (with_reducible refine CU.mono ?_); rintro e w2 ⟨rfl, hb2⟩; have CI2 := CI w2 (GG.below hgr.out hb2); have HB2 := Aside0.mk (below_step hB.out hb2); clear CU hb2) | (go_at_call 31; go_loud (with_reducible refine CI2.mono ?_); rintro e w3 ⟨rfl, hb3⟩; have HB3 := Aside0.mk (below_step HB2.out hb3); clear CI2 hb3))
    go_ret
    exact ⟨_, rfl, HB3.out⟩
 ·have hm0 := n1.out (by first | rfl | trivial)
  have hrM := rM1.out
  have hgs := Aside0.mk (GG.below hg.out HB.out)
  go_loopg [4, 5] (M1.toNat + 2) (fun gk v4 v5 w' => ∃ (m : Nat) (e : Int), v4 = .int .i64 e ∧ v5 = .int .u64 (m : Int) ∧ m + 1 ≤ gk ∧ Aside0 (0 < m ∧ m < 18446744073709551616 ∧ -9223372036854775808 ≤ e ∧ e ≤ 9223372036854775807) ∧ Aside0 (Below w.heap.size w w'))
  case atStart => exact ⟨M1.toNat, E1, by rw [hE1], by congr 1; omega, by omega, ⟨by omega, by omega, by rw [← hE1]; unfold wrap64; omega, by rw [← hE1]; unfold wrap64; omega⟩, HB⟩
  case round =>
   clear HB hgs
   obtain ⟨m, e, rfl, rfl, hk, hme, hB⟩ := hrel
   have hme0 := hme.out
   by_cases hev : m % 2 = 0
   ·have p1 : ((m : Int) % 2 == 0) = true := beq_iff_eq.2 (by omega)
    obtain ⟨m2, hm2⟩ : ∃ m2 : Nat, m2 = m / 2 := ⟨_, rfl⟩
    have p2 : (m : Int) / 2 = (m2 : Int) := by omega
    have hmn : 0 < m2 ∧ m2 < 18446744073709551616 ∧ m2 + 2 ≤ gk := by omega
    obtain ⟨e2, he2⟩ : ∃ e2, wrap64 (e + 1) = e2 := ⟨_, rfl⟩
    have hen : -9223372036854775808 ≤ e2 ∧ e2 ≤ 9223372036854775807 := by rw [← he2]; unfold wrap64; omega
    have hmn := Aside0.mk hmn
    have hen := Aside0.mk hen
    clear hme0 hev hm2 hk
    go_wp2
    go_roundg (gk - 1)
    case measure => have := hmn.out; omega
    case rel => exact ⟨m2, e2, by rw [he2], rfl, by have := hmn.out; omega, ⟨by have := hmn.out; have := hen.out; omega⟩, hB⟩
   ·have p1 : ((m : Int) % 2 == 0) = false := beq_eq_false_iff_ne.2 (by omega)
    have hgr := GG.below hg.out hB.out
    have CU := formatUint m (by omega) wr hgr
    have d1 := dec_size m (by omega)
    have d2 := itoa_size e (by omega) (by omega)
    have he1 := hme0.2.2.1
    have he2 := hme0.2.2.2
    generalize (⟨(Lib.decDigits m).toArray⟩ : ByteArray) = t1 at CU d1
    have CI : ∀ w2, GG w2 → _ := fun w2 h2 => itoa_calls e he1 he2 w2 h2
    generalize (⟨(Lib.itoa e).toArray⟩ : ByteArray) = t2 at CI d2
    have z1 : ¬ 9223372036854775807 < t1.size := by omega
    have z2 : ¬ 9223372036854775807 < 1 + t1.size := by omega
    have z3 : ¬ 9223372036854775807 < t1.size + 1 := by omega
    have z4 : ¬ 9223372036854775807 < 1 + t1.size + 1 := by omega
    have z5 : ¬ 9223372036854775807 < t1.size + 1 + t2.size := by omega
    have z6 : ¬ 9223372036854775807 < 1 + t1.size + 1 + t2.size := by omega
    have hgr := Aside0.mk hgr
    clear hev hk hme0 he1 he2 d1 d2
    go_wp2_with (first | (go_at_call 65; go_loud (with_reducible refine CU.mono ?_); rintro e w2 ⟨rfl, hb2⟩; have CI2 := CI w2 (GG.below hgr.out hb2); have HB2 := Aside0.mk (below_step hB.out hb2); clear CU hb2) | (go_at_call 31; go_loud (with_reducible refine CI2.mono ?_); rintro e w3 ⟨rfl, hb3⟩; have HB3 := Aside0.mk (below_step HB2.out hb3); clear CI2 hb3))
    go_ret
    exact ⟨_, rfl, HB3.out⟩
 ·have hm0 := n0.out (by first | rfl | trivial)
  have hrM := rM0.out
  have hgs := Aside0.mk (GG.below hg.out HB.out)
  go_loopg [4, 5] (M0.toNat + 2) (fun gk v4 v5 w' => ∃ (m : Nat) (e : Int), v4 = .int .i64 e ∧ v5 = .int .u64 (m : Int) ∧ m + 1 ≤ gk ∧ Aside0 (0 < m ∧ m < 18446744073709551616 ∧ -9223372036854775808 ≤ e ∧ e ≤ 9223372036854775807) ∧ Aside0 (Below w.heap.size w w'))
  case atStart => exact ⟨M0.toNat, (-1074), rfl, by congr 1; omega, by omega, ⟨by omega, by omega, by omega, by omega⟩, HB⟩
  case round =>
   clear HB hgs
   obtain ⟨m, e, rfl, rfl, hk, hme, hB⟩ := hrel
   have hme0 := hme.out
   by_cases hev : m % 2 = 0
   ·have p1 : ((m : Int) % 2 == 0) = true := beq_iff_eq.2 (by omega)
    obtain ⟨m2, hm2⟩ : ∃ m2 : Nat, m2 = m / 2 := ⟨_, rfl⟩
    have p2 : (m : Int) / 2 = (m2 : Int) := by omega
    have hmn : 0 < m2 ∧ m2 < 18446744073709551616 ∧ m2 + 2 ≤ gk := by omega
    obtain ⟨e2, he2⟩ : ∃ e2, wrap64 (e + 1) = e2 := ⟨_, rfl⟩
    have hen : -9223372036854775808 ≤ e2 ∧ e2 ≤ 9223372036854775807 := by rw [← he2]; unfold wrap64; omega
    have hmn := Aside0.mk hmn
    have hen := Aside0.mk hen
    clear hme0 hev hm2 hk
    go_wp2
    go_roundg (gk - 1)
    case measure => have := hmn.out; omega
    case rel => exact ⟨m2, e2, by rw [he2], rfl, by have := hmn.out; omega, ⟨by have := hmn.out; have := hen.out; omega⟩, hB⟩
   ·have p1 : ((m : Int) % 2 == 0) = false := beq_eq_false_iff_ne.2 (by omega)
    have hgr := GG.below hg.out hB.out
    have CU := formatUint m (by omega) wr hgr
    have d1 := dec_size m (by omega)
    have d2 := itoa_size e (by omega) (by omega)
    have he1 := hme0.2.2.1
    have he2 := hme0.2.2.2
    generalize (⟨(Lib.decDigits m).toArray⟩ : ByteArray) = t1 at CU d1
    have CI : ∀ w2, GG w2 → _ := fun w2 h2 => itoa_calls e he1 he2 w2 h2
    generalize (⟨(Lib.itoa e).toArray⟩ : ByteArray) = t2 at CI d2
    have z1 : ¬ 9223372036854775807 < t1.size := by omega
    have z2 : ¬ 9223372036854775807 < 1 + t1.size := by omega
    have z3 : ¬ 9223372036854775807 < t1.size + 1 := by omega
    have z4 : ¬ 9223372036854775807 < 1 + t1.size + 1 := by omega
    have z5 : ¬ 9223372036854775807 < t1.size + 1 + t2.size := by omega
    have z6 : ¬ 9223372036854775807 < 1 + t1.size + 1 + t2.size := by omega
    have hgr := Aside0.mk hgr
    clear hev hk hme0 he1 he2 d1 d2
    go_wp2_with (first | (go_at_call 65; go_loud (with_reducible refine CU.mono ?_); rintro e w2 ⟨rfl, hb2⟩; have CI2 := CI w2 (GG.below hgr.out hb2); have HB2 := Aside0.mk (below_step hB.out hb2); clear CU hb2) | (go_at_call 31; go_loud (with_reducible refine CI2.mono ?_); rintro e w3 ⟨rfl, hb3⟩; have HB3 := Aside0.mk (below_step HB2.out hb3); clear CI2 hb3))
    go_ret
    exact ⟨_, rfl, HB3.out⟩
 ·have hm0 := n0.out (by first | rfl | trivial)
  have hrM := rM0.out
  have hgs := Aside0.mk (GG.below hg.out HB.out)
  go_loopg [4, 5] (M0.toNat + 2) (fun gk v4 v5 w' => ∃ (m : Nat) (e : Int), v4 = .int .i64 e ∧ v5 = .int .u64 (m : Int) ∧ m + 1 ≤ gk ∧ Aside0 (0 < m ∧ m < 18446744073709551616 ∧ -9223372036854775808 ≤ e ∧ e ≤ 9223372036854775807) ∧ Aside0 (Below w.heap.size w w'))
  case atStart => exact ⟨M0.toNat, (-1074), rfl, by congr 1; omega, by omega, ⟨by omega, by omega, by omega, by omega⟩, HB⟩
  case round =>
   clear HB hgs
   obtain ⟨m, e, rfl, rfl, hk, hme, hB⟩ := hrel
   have hme0 := hme.out
   by_cases hev : m % 2 = 0
   ·have p1 : ((m : Int) % 2 == 0) = true := beq_iff_eq.2 (by omega)
    obtain ⟨m2, hm2⟩ : ∃ m2 : Nat, m2 = m / 2 := ⟨_, rfl⟩
    have p2 : (m : Int) / 2 = (m2 : Int) := by omega
    have hmn : 0 < m2 ∧ m2 < 18446744073709551616 ∧ m2 + 2 ≤ gk := by omega
    obtain ⟨e2, he2⟩ : ∃ e2, wrap64 (e + 1) = e2 := ⟨_, rfl⟩
    have hen : -9223372036854775808 ≤ e2 ∧ e2 ≤ 9223372036854775807 := by rw [← he2]; unfold wrap64; omega
    have hmn := Aside0.mk hmn
    have hen := Aside0.mk hen
    clear hme0 hev hm2 hk
    go_wp2
    go_roundg (gk - 1)
    case measure => have := hmn.out; omega
    case rel => exact ⟨m2, e2, by rw [he2], rfl, by have := hmn.out; omega, ⟨by have := hmn.out; have := hen.out; omega⟩, hB⟩
   ·have p1 : ((m : Int) % 2 == 0) = false := beq_eq_false_iff_ne.2 (by omega)
    have hgr := GG.below hg.out hB.out
    have CU := formatUint m (by omega) wr hgr
    have d1 := dec_size m (by omega)
    have d2 := itoa_size e (by omega) (by omega)
    have he1 := hme0.2.2.1
    have he2 := hme0.2.2.2
    generalize (⟨(Lib.decDigits m).toArray⟩ : ByteArray) = t1 at CU d1
    have CI : ∀ w2, GG w2 → _ := fun w2 h2 => itoa_calls e he1 he2 w2 h2
    generalize (⟨(Lib.itoa e).toArray⟩ : ByteArray) = t2 at CI d2
    have z1 : ¬ 9223372036854775807 < t1.size := by omega
    have z2 : ¬ 9223372036854775807 < 1 + t1.size := by omega
    have z3 : ¬ 9223372036854775807 < t1.size + 1 := by omega
    have z4 : ¬ 9223372036854775807 < 1 + t1.size + 1 := by omega
    have z5 : ¬ 9223372036854775807 < t1.size + 1 + t2.size := by omega
    have z6 : ¬ 9223372036854775807 < 1 + t1.size + 1 + t2.size := by omega
    have hgr := Aside0.mk hgr
    clear hev hk hme0 he1 he2 d1 d2
    go_wp2_with (first | (go_at_call 65; go_loud (with_reducible refine CU.mono ?_); rintro e w2 ⟨rfl, hb2⟩; have CI2 := CI w2 (GG.below hgr.out hb2); have HB2 := Aside0.mk (below_step hB.out hb2); clear CU hb2) | (go_at_call 31; go_loud (with_reducible refine CI2.mono ?_); rintro e w3 ⟨rfl, hb3⟩; have HB3 := Aside0.mk (below_step HB2.out hb3); clear CI2 hb3))
    go_ret
    exact ⟨_, rfl, HB3.out⟩
end Go.Proofs.YtmoeekidmkhkoaaDoor.FreeA
namespace Go.Proofs.YtmoeekidmkhkoaaDoor.FreeA
open Go.RowKit Go.Proofs.YtmoeekidmkhkoaaDoorW.PrintWords Go.Proofs.YtmoeekidmkhkoaaDoorW.PrintLast Go.Proofs.YtmoeekidmkhkoaaDoorW.PrintMore Go.Proofs.YtmoeekidmkhkoaaDoor.PFreeA
set_option linter.unusedVariables false
set_option linter.unusedSimpArgs false
theorem add_i (b i : Nat) : (⟨b, 0, none⟩ : Addr).add i = ⟨b, i, none⟩ := by
 unfold Addr.add
 split
 ·rename_i h; subst h; rfl
 ·simp
theorem C_cells {α : Type} {d : Kd α} {W : World} {b : Nat} {cs : Array Value} {e : TypeId} (hb : W.heap[b]? = some (.cells cs e (0, 0))) {xs : List α} (h : Reps (d.K W) d.sz xs cs.toList) (hm : xs.length ≤ 9223372036854775807) : d.C W (some ⟨b, 0, none⟩) xs.length xs := by
 refine ⟨rfl, hm, fun _ => ⟨_, rfl, fun j p hj => ?_⟩⟩
 have hK := h.2 j p hj
 refine ⟨(cs.toList.drop (j * d.sz)).take d.sz, d.K_len hK, hK, fun i u hu => ?_⟩
 rw [add_i, blk_cell hb]
 rw [List.getElem?_take] at hu
 split at hu
 ·rw [List.getElem?_drop] at hu
  rw [← Array.getElem?_toList]
  exact hu
 ·cases hu
theorem info56 : (Tryd.prog.info? 56).map (fun i => (i.zero, i.size, i.bytes)) = some (some (.agg #[.string ⟨#[]⟩, .slice none 0 0, .int .i64 0]), 3, 48) := by kernel_rfl
def NL (W : World) (b : Nat) (A : Option Addr) (n : Nat) : Prop := ∃ xs : List S56, Kd.F k56 W (fun k => b ≤ k) A n xs
theorem NL.nil (W : World) (b : Nat) : NL W b none 0 := ⟨[], Kd.F_nil _ _ _⟩
theorem NL.below {W W1 : World} {b n : Nat} {A : Option Addr} (h : NL W b A n) (hb : Below W.heap.size W W1) : NL W1 b A n := h.elim fun xs h => ⟨xs, Kd.F_below h hb⟩
theorem NL.mono {W : World} {b b' n : Nat} {A : Option Addr} (h : NL W b A n) (hb : b' ≤ b) : NL W b' A n := h.elim fun xs h => ⟨xs, Kd.F_mono h (fun k hk => Nat.le_trans hb hk)⟩
theorem NL.far {W : World} {b n : Nat} {A : Option Addr} (h : NL W b A n) {p : Addr} (hp : p.block < b) (v : Value) : NL (W.setCell p v) b A n := h.elim fun xs h => ⟨xs, Kd.F_far h (fun k hk => by omega) v⟩
theorem NL.bound {W : World} {b n : Nat} {A : Option Addr} (h : NL W b A n) : ∃ xs : List S56, xs.length = n ∧ Kd.F k56 W (fun k => b ≤ k ∧ k < W.heap.size) A n xs := h.elim fun xs h => ⟨xs, Kd.F_len h, Kd.F_bound h⟩
theorem nodeK {W : World} {ok : Nat → Prop} {A : Option Addr} {n c : Nat} {xs : List S56} (h : Kd.F k56 W ok A n xs) (hc : n ≤ c) (s : ByteArray) : Kd.FK k56 W ok ⟨s, xs, 0⟩ [.string s, .slice A n c, .int .i64 0] := by
 intro W' hW
 have hl := Kd.F_len h
 subst hl
 exact k56_mk W' ⟨s, xs, 0⟩ hc (h W' hW)
theorem NL.one {W : World} {b blk : Nat} {s1 : ByteArray} {A1 : Option Addr} {n1 c1 : Nat} (hb : W.heap[blk]? = some (.cells #[.string s1, .slice A1 n1 c1, .int .i64 0] 56 (0, 0))) (hk : b ≤ blk) (h1 : NL W b A1 n1) (hc1 : n1 ≤ c1) : NL W b (some ⟨blk, 0, none⟩) 1 := by
 obtain ⟨x1, h1⟩ := h1
 refine ⟨[⟨s1, x1, 0⟩], fun W' hW => ?_⟩
 have hlt := (Array.getElem?_eq_some_iff.1 hb).1
 exact C_cells ((hW blk hk hlt).trans hb) (Reps.c3 (nodeK h1 hc1 s1 W' hW) (Reps.none _ _)) (by simp)
theorem NL.two {W : World} {b blk : Nat} {s1 s2 : ByteArray} {A1 A2 : Option Addr} {n1 c1 n2 c2 : Nat} (hb : W.heap[blk]? = some (.cells #[.string s1, .slice A1 n1 c1, .int .i64 0, .string s2, .slice A2 n2 c2, .int .i64 0] 56 (0, 0))) (hk : b ≤ blk) (h1 : NL W b A1 n1) (hc1 : n1 ≤ c1) (h2 : NL W b A2 n2) (hc2 : n2 ≤ c2) : NL W b (some ⟨blk, 0, none⟩) 2 := by
 obtain ⟨x1, h1⟩ := h1
 obtain ⟨x2, h2⟩ := h2
 refine ⟨[⟨s1, x1, 0⟩, ⟨s2, x2, 0⟩], fun W' hW => ?_⟩
 have hlt := (Array.getElem?_eq_some_iff.1 hb).1
 exact C_cells ((hW blk hk hlt).trans hb) (Reps.c3 (nodeK h1 hc1 s1 W' hW) (Reps.c3 (nodeK h2 hc2 s2 W' hW) (Reps.none _ _))) (by simp)
theorem NL.three {W : World} {b blk : Nat} {s1 s2 s3 : ByteArray} {A1 A2 A3 : Option Addr} {n1 c1 n2 c2 n3 c3 : Nat} (hb : W.heap[blk]? = some (.cells #[.string s1, .slice A1 n1 c1, .int .i64 0, .string s2, .slice A2 n2 c2, .int .i64 0, .string s3, .slice A3 n3 c3, .int .i64 0] 56 (0, 0))) (hk : b ≤ blk) (h1 : NL W b A1 n1) (hc1 : n1 ≤ c1) (h2 : NL W b A2 n2) (hc2 : n2 ≤ c2) (h3 : NL W b A3 n3) (hc3 : n3 ≤ c3) : NL W b (some ⟨blk, 0, none⟩) 3 := by
 obtain ⟨x1, h1⟩ := h1
 obtain ⟨x2, h2⟩ := h2
 obtain ⟨x3, h3⟩ := h3
 refine ⟨[⟨s1, x1, 0⟩, ⟨s2, x2, 0⟩, ⟨s3, x3, 0⟩], fun W' hW => ?_⟩
 have hlt := (Array.getElem?_eq_some_iff.1 hb).1
 exact C_cells ((hW blk hk hlt).trans hb) (Reps.c3 (nodeK h1 hc1 s1 W' hW) (Reps.c3 (nodeK h2 hc2 s2 W' hW) (Reps.c3 (nodeK h3 hc3 s3 W' hW) (Reps.none _ _)))) (by simp)
def NX (W : World) (b : Nat) (x : Option Nat) (A : Option Addr) (n : Nat) : Prop := ∃ xs : List S56, Kd.F k56 W (fun k => b ≤ k ∧ some k ≠ x) A n xs
theorem NX.below {W W1 : World} {b n : Nat} {x : Option Nat} {A : Option Addr} (h : NX W b x A n) (hb : Below W.heap.size W W1) : NX W1 b x A n := h.elim fun xs h => ⟨xs, Kd.F_below h hb⟩
theorem NX.far {W : World} {b n : Nat} {x : Option Nat} {A : Option Addr} (h : NX W b x A n) {p : Addr} (hp : p.block < b ∨ some p.block = x) (v : Value) : NX (W.setCell p v) b x A n := h.elim fun xs h => ⟨xs, Kd.F_far h (fun k hk e => by subst e; rcases hp with hp | hp; have := hk.1; omega; exact hk.2 hp) v⟩
theorem NX.list {W : World} {b n : Nat} {x : Option Nat} {A : Option Addr} (h : NX W b x A n) : NL W b A n := h.elim fun xs h => ⟨xs, Kd.F_mono h (fun k hk => hk.1)⟩
def NR (W : World) (b : Nat) (x : Option Nat) (A : Option Addr) (n c : Nat) : Prop := ∃ xs : List S56, xs.length = n ∧ Kd.N k56 56 W b (fun k => b ≤ k ∧ some k ≠ x) (.slice A n c) xs
theorem NR.nil (W : World) (b : Nat) (x : Option Nat) : NR W b x none 0 0 := ⟨[], rfl, Kd.N_nil _ _ _ _ _⟩
theorem NR.below {W W1 : World} {b n c : Nat} {x : Option Nat} {A : Option Addr} (h : NR W b x A n c) (hb : Below W.heap.size W W1) : NR W1 b x A n c := h.elim fun xs h => ⟨xs, h.1, Kd.N_below h.2 hb⟩
theorem NR.far {W : World} {b n c : Nat} {x : Option Nat} {A : Option Addr} (h : NR W b x A n c) {p : Addr} (hp : p.block < b ∨ some p.block = x) (v : Value) : NR (W.setCell p v) b x A n c := h.elim fun xs h => ⟨xs, h.1, Kd.N_far h.2 (fun k hk e => by subst e; rcases hp with hp | hp; have := hk.1; omega; exact hk.2 hp) v⟩
theorem NR.lt {W : World} {b n c : Nat} {x : Option Nat} {A : Option Addr} (h : NR W b x A n c) : ∀ k, (Value.slice A n c).ownBlock = some k → k < W.heap.size := h.elim fun xs h => Kd.N_lt h.2
theorem NR.ne {W : World} {b n c x : Nat} {A : Option Addr} (h : NR W b (some x) A n c) : some x ≠ (Value.slice A n c).ownBlock := fun e => h.elim fun xs h => (h.2.1 x e.symm).2 rfl
theorem NR.keep {W W1 : World} {b n c x : Nat} {A : Option Addr} (h : NR W b (some x) A n c) (hg : W.grownBy W1 (Value.slice A n c).ownBlock) (hx : x < W.heap.size) : W1.heap[x]? = W.heap[x]? := hg.block x hx (NR.ne h)
theorem NR.list {W : World} {b n c : Nat} {x : Option Nat} {A : Option Addr} (h : NR W b x A n c) : NX W b x A n ∧ n ≤ c := by
 obtain ⟨xs, hl, h⟩ := h
 exact ⟨⟨xs, Kd.N_F h⟩, (Kd.N_reads' h).2.1⟩
theorem NR.lit {W : World} {b : Nat} {x : Option Nat} {xs : List S56} {inner : List Value} {okp : Nat → Prop} (hrep : Reps (Kd.FK k56 W okp) k56.sz xs inner) (hok : ∀ k, okp k → b ≤ k ∧ some k ≠ x) (hfresh : b ≤ W.heap.size ∧ some W.heap.size ≠ x) (hm : xs.length ≤ 9223372036854775807) :
  NR (W.alloc (.cells inner.toArray 56)) b x (some ⟨W.heap.size, 0, none⟩) xs.length xs.length := by
 have hrep' := Kd.reps_raw hrep (fun y c hk => ⟨k56.K_len (Kd.FK_now hk), k56.K_one (Kd.FK_now hk)⟩)
 have hR : (Kd.raw k56.sz).R 56 (W.alloc (.cells inner.toArray 56)) b (fun k => k = W.heap.size) (.slice (some ⟨W.heap.size, 0, none⟩) xs.length xs.length) (Kd.chunks k56.sz xs.length inner) := by
  refine ⟨fun k hk => ?_, inner, ?_, hrep'⟩
  ·have : W.heap.size = k := by simpa [Value.ownBlock] using hk
   exact this.symm
  ·rw [Kd.chunks_length]
   have h2 := World.ownsRow_lit (base := b) (e := 56) (size := k56.sz) W inner.toArray xs.length hfresh.1 (by simpa [maxLen] using hm) (by simpa using hrep.1)
   have h3 : (W.alloc (.cells inner.toArray 56)).ownsRow b 56 k56.sz (.slice (some ⟨W.heap.size, 0, none⟩) xs.length xs.length) xs.length inner := by simpa using h2
   exact h3
 exact ⟨xs, rfl, Kd.N_made hR (World.grownBy_alloc W _ none) ⟨W.heap.size, by simp [Value.ownBlock], Nat.le_refl _⟩ (Kd.chunks_length _ _ _) (fun j y c hy hc => by rw [Kd.chunks_get hc]; exact hrep.2 j y hy) hok hfresh⟩
theorem NR.lit1 {W : World} {b q : Nat} {x : Option Nat} {s1 : ByteArray} {A1 : Option Addr} {n1 c1 : Nat} (h1 : NL W q A1 n1) (hc1 : n1 ≤ c1) (hbq : b ≤ q) (hxq : ∀ y, x = some y → y < q ∨ W.heap.size < y) (hb : b ≤ W.heap.size) (hx : some W.heap.size ≠ x) :
  NR (W.alloc (.cells #[.string s1, .slice A1 n1 c1, .int .i64 0] 56)) b x (some ⟨W.heap.size, 0, none⟩) 1 1 := by
 obtain ⟨ys, hy⟩ := h1
 exact NR.lit (xs := [⟨s1, ys, 0⟩]) (inner := [.string s1, .slice A1 n1 c1, .int .i64 0]) (okp := fun k => q ≤ k ∧ k < W.heap.size) (Reps.c3 (nodeK (Kd.F_bound hy) hc1 s1) (Reps.none _ _)) (fun k hk => ⟨Nat.le_trans hbq hk.1, fun e => by have := hxq k e.symm; omega⟩) ⟨hb, hx⟩ (by simp)
section
variable {P : Program} {ops : Array Oper} {rest : List Oper} {o : Oper} {a : Act} {Q : Exit → Act → World → Prop} {Kc : Act → World → Prop}
theorem app_list {w0 W : World} (b : Nat) (hgd : o.guard = none) (s x : Operand) (ho : o.op = .call { callee := .builtin .append, args := #[s, x], argTypes := #[54, 54] }) {A A1 : Option Addr} {x0 : Option Nat} {n c n1 c1 q : Nat} {s1 : ByteArray}
  (hs : a.eval s = .slice A n c) (hx : a.eval x = .slice (some ⟨W.heap.size, 0, none⟩) 1 1) (HO : NR W b x0 A n c) (h1 : NL W q A1 n1) (hc1 : n1 ≤ c1) (hq : ∀ k, (Value.slice A n c).ownBlock = some k → k < q) (hbq : b ≤ q) (hxq : ∀ y, x0 = some y → y < q ∧ y < W.heap.size) (HB : Below b w0 W) (hbase : b ≤ W.heap.size) (hl : n ≤ 2000000000000)
  (h : ∀ A3 c3 w3, NR w3 b x0 A3 (n + 1) c3 → Below b w0 w3 → W.grownBy w3 (Value.slice A n c).ownBlock → wpList Tryd.prog ops Q rest (a.put o.dst (.slice A3 (n + 1) c3)) w3) :
  wpList Tryd.prog ops Q (o :: rest) a (W.alloc (.cells #[.string s1, .slice A1 n1 c1, .int .i64 0] 56)) := by
 obtain ⟨xs, hxs, HN⟩ := HO
 obtain ⟨ys, hy⟩ := h1
 refine Kd.N_append k56 (w0 := w0) b hgd s x 54 56 _ 48 ho Tryd.underlying54 info56 rfl (by decide) (by decide) (.slice A n c) xs ⟨s1, ys, 0⟩ [.string s1, .slice A1 n1 c1, .int .i64 0] (fun k => b ≤ k ∧ some k ≠ x0) (fun k => q ≤ k) hs hx (nodeK hy hc1 s1) (fun k hk => ⟨⟨Nat.le_trans hbq hk, fun e => by have := (hxq k e.symm).1; omega⟩, fun e => by have := hq k e.symm; omega⟩) (fun k hk => ⟨Nat.le_trans hbase hk, fun e => by have := (hxq k e.symm).2; omega⟩) HN HB hbase (by rw [hxs]; omega) ?_
 intro v1 w1 hn hb hg hat
 obtain ⟨A3, c3, hv⟩ := Kd.N_slice hn
 have hl3 : (xs ++ [(⟨s1, ys, 0⟩ : S56)]).length = n + 1 := by simp [hxs]
 rw [hl3] at hv
 subst hv
 exact h A3 c3 w1 ⟨_, hl3, hn⟩ hb hg
theorem app_step {w0 W : World} (b : Nat) (hw : Region.wanted o (yielded ops a.tmps) = true) (s x : Operand) (ho : o.op = .call { callee := .builtin .append, args := #[s, x], argTypes := #[54, 54] }) {A A1 : Option Addr} {x0 : Option Nat} {n c n1 c1 q : Nat} {s1 : ByteArray}
  (hs : a.eval s = .slice A n c) (hx : a.eval x = .slice (some ⟨W.heap.size, 0, none⟩) 1 1) (HO : NR W b x0 A n c) (h1 : NL W q A1 n1) (hc1 : n1 ≤ c1) (hq : ∀ k, (Value.slice A n c).ownBlock = some k → k < q) (hbq : b ≤ q) (hxq : ∀ y, x0 = some y → y < q ∧ y < W.heap.size) (HB : Below b w0 W) (hbase : b ≤ W.heap.size) (hl : n ≤ 2000000000000)
  (h : ∀ A3 c3 w3, NR w3 b x0 A3 (n + 1) c3 → Below b w0 w3 → W.grownBy w3 (Value.slice A n c).ownBlock → Kc (a.put o.dst (.slice A3 (n + 1) c3)) w3) :
  if Region.wanted o (yielded ops a.tmps) = true then Oper.wp Tryd.prog o a (W.alloc (.cells #[.string s1, .slice A1 n1 c1, .int .i64 0] 56)) Kc Q else Kc (a.put o.dst undef) (W.alloc (.cells #[.string s1, .slice A1 n1 c1, .int .i64 0] 56)) := by
 obtain ⟨xs, hxs, HN⟩ := HO
 obtain ⟨ys, hy⟩ := h1
 refine Kd.N_append_step k56 (w0 := w0) b hw s x 54 56 _ 48 ho Tryd.underlying54 info56 rfl (by decide) (by decide) (.slice A n c) xs ⟨s1, ys, 0⟩ [.string s1, .slice A1 n1 c1, .int .i64 0] (fun k => b ≤ k ∧ some k ≠ x0) (fun k => q ≤ k) hs hx (nodeK hy hc1 s1) (fun k hk => ⟨⟨Nat.le_trans hbq hk, fun e => by have := (hxq k e.symm).1; omega⟩, fun e => by have := hq k e.symm; omega⟩) (fun k hk => ⟨Nat.le_trans hbase hk, fun e => by have := (hxq k e.symm).2; omega⟩) HN HB hbase (by rw [hxs]; omega) ?_
 intro v1 w1 hn hb hg hat
 obtain ⟨A3, c3, hv⟩ := Kd.N_slice hn
 have hl3 : (xs ++ [(⟨s1, ys, 0⟩ : S56)]).length = n + 1 := by simp [hxs]
 rw [hl3] at hv
 subst hv
 exact h A3 c3 w1 ⟨_, hl3, hn⟩ hb hg
theorem apps_step {w0 W : World} (b : Nat) (hw : Region.wanted o (yielded ops a.tmps) = true) (s x : Operand) (ho : o.op = .call { callee := .builtin .append, args := #[s, x], argTypes := #[54, 54] }) {A A1 : Option Addr} {x0 : Option Nat} {n c n1 c1 q : Nat}
  (hs : a.eval s = .slice A n c) (hx : a.eval x = .slice A1 n1 c1) (HO : NR W b x0 A n c) (h1 : NL W q A1 n1) (hq : ∀ k, (Value.slice A n c).ownBlock = some k → k < q) (hbq : b ≤ q) (hxq : ∀ y, x0 = some y → y < q ∧ y < W.heap.size) (HB : Below b w0 W) (hbase : b ≤ W.heap.size) (hl : n + n1 ≤ 2000000000000)
  (h : ∀ A3 c3 w3, NR w3 b x0 A3 (n + n1) c3 → Below b w0 w3 → W.grownBy w3 (Value.slice A n c).ownBlock → Kc (a.put o.dst (.slice A3 (n + n1) c3)) w3) :
  if Region.wanted o (yielded ops a.tmps) = true then Oper.wp Tryd.prog o a W Kc Q else Kc (a.put o.dst undef) W := by
 obtain ⟨xs, hxs, HN⟩ := HO
 obtain ⟨ys, hy⟩ := h1
 have hyl := Kd.F_len hy
 refine Kd.N_append_rows_step k56 (w0 := w0) b hw s x 54 56 _ 48 ho Tryd.underlying54 info56 rfl (by decide) (by decide) (.slice A n c) xs ys A1 n1 c1 (fun k => b ≤ k ∧ some k ≠ x0) (fun k => q ≤ k) hs hx HN hy (fun k hk => ⟨⟨Nat.le_trans hbq hk, fun e => by have := (hxq k e.symm).1; omega⟩, fun e => by have := hq k e.symm; omega⟩) (fun k hk => ⟨Nat.le_trans hbase hk, fun e => by have := (hxq k e.symm).2; omega⟩) HB hbase (by rw [hxs]; omega) ?_
 intro v1 w1 hn hb hg hat
 obtain ⟨A3, c3, hv⟩ := Kd.N_slice hn
 have hl3 : (xs ++ ys).length = n + n1 := by simp [hxs, hyl]
 rw [hl3] at hv
 subst hv
 exact h A3 c3 w1 ⟨_, hl3, hn⟩ hb hg
end
set_option maxHeartbeats 4000000 in
set_option maxRecDepth 100000 in
theorem ws_calls (l : List ByteArray) (w : World) (hl : l.length ≤ 1000000000000) {A : Option Addr} {c : Nat} (hC : Kd.C Kd.string w A l.length l) :
  Calls Tryd.prog 53 #[.slice A l.length c] w fun e w' => ∃ A1 c1, e = .returned (.slice A1 l.length c1) ∧ l.length ≤ c1 ∧ NL w' w.heap.size A1 l.length ∧ Below w.heap.size w w' := by
 have hR : Aside0 (NR w w.heap.size none none 0 0) := ⟨NR.nil _ _ _⟩
 have hB : Aside0 (Below w.heap.size w w) := ⟨Below.refl _ _⟩
 have hC9 := Aside0.mk hC
 clear hC
 go_enter Tryd.func53, Tryd.ntmps53
 go_wp2
 go_loopg [3, 4] (l.length + 1) (fun kq v3 v4 w' => ∃ (i : Nat) (A1 : Option Addr) (c1 : Nat), v3 = .slice A1 i c1 ∧ v4 = .int .i64 (i : Int) ∧ i + kq = l.length + 1 ∧ 1 ≤ kq ∧ Aside0 (NR w' w.heap.size none A1 i c1) ∧ Aside0 (Below w.heap.size w w'))
 case atStart => exact ⟨0, none, 0, rfl, rfl, by omega, by omega, hR, hB⟩
 case round =>
  clear hR hB
  obtain ⟨i, A1, c1, rfl, rfl, hi, hk, hRr, hBr⟩ := hrel
  by_cases hlt : i < l.length
  ·obtain ⟨ad, rfl, hv⟩ := at_str (Kd.C_below hC9.out hBr.out) i hlt hlt
   have p0 : (0 : Int) ≤ (i : Int) := by omega
   have q0 : (i : Int) < (l.length : Int) := by omega
   have q1 : decide ((i : Int) < (l.length : Int)) = true := decide_eq_true q0
   have hwj : wrap64 ((i : Int) + 1) = (i : Int) + 1 := by unfold wrap64; omega
   generalize l[i] = s at *
   go_wp2_with (first | (go_at_call 49; go_loud (with_reducible refine (w_calls s wr).mono ?_); rintro e w2 ⟨rfl, hb2⟩; have hb2 := Aside0.mk hb2) | ((with_reducible refine gate_builtin (b := .append) (xs := #[.tmp 11, .tmp 17]) rfl ?_); at_builtin; go_loud (refine app_list (w0 := w) w.heap.size rfl (.tmp 11) (.tmp 17) rfl (x0 := Option.none) (A := A1) (n := i) (c := c1) (q := w2.heap.size) (s1 := s) (A1 := none) (n1 := 0) (c1 := 0) rfl rfl ?aR ?aN ?aC ?aK ?aQ ?aX ?aB ?aS ?aL ?_); (case aR => exact NR.below hRr.out hb2.out); (case aN => exact NL.nil _ _); (case aC => exact Nat.le_refl _); (case aK => exact NR.lt (NR.below hRr.out hb2.out)); (case aQ => exact Nat.le_trans hBr.out.size hb2.out.size); (case aX => exact fun y hy => by cases hy); (case aB => exact below_step hBr.out hb2.out); (case aS => exact Nat.le_trans hBr.out.size hb2.out.size); (case aL => omega); intro A3 c3 w3 hr3 hb3 hg3; clear hg3; have hr3 := Aside0.mk hr3; have hb3 := Aside0.mk hb3))
   go_roundg (gk - 1)
   case measure => omega
   case rel => exact ⟨i + 1, A3, c3, rfl, rfl, by omega, by omega, hr3, hb3⟩
  ·have q1 : decide ((i : Int) < (l.length : Int)) = false := decide_eq_false (by omega)
   have hil : i = l.length := by omega
   subst hil
   have hfin := Aside0.mk hRr.out.list
   go_wp2
   go_ret
   exact ⟨_, _, rfl, hfin.out.2, hfin.out.1.list, hBr.out⟩
set_option maxHeartbeats 8000000 in
set_option maxRecDepth 100000 in
theorem altNode_calls (a : S40) (h0 : -9223372036854775808 ≤ a.f2) (h1 : a.f2 ≤ 9223372036854775807) (hl : a.f3.length ≤ 100000000000) (w : World) (hg : GG w) {A3 A7 A8 A9 : Option Addr} {c3 n7 c7 n8 c8 n9 c9 : Nat} (hC3 : Kd.C Kd.string w A3 a.f3.length a.f3) (x0 x2 : Int) (x1 : ByteArray) :
  Calls Tryd.prog 54 #[.agg #[.int .i64 a.f0, .string a.f1, .int .i64 a.f2, .slice A3 a.f3.length c3, .int .i64 x0, .string x1, .int .i64 x2, .slice A7 n7 c7, .slice A8 n8 c8, .slice A9 n9 c9]] w fun r w' => ∃ s A n c, r = .returned (.agg #[.string s, .slice A n c, .int .i64 0]) ∧ n ≤ c ∧ NL w' w.heap.size A n ∧ Below w.heap.size w w' := by
 have E : ∀ W : World, ∀ o : Obj, (W.alloc o).heap.size = W.heap.size + 1 := fun W o => Array.size_push _
 obtain ⟨f0, f1, f2, f3, f4⟩ := a
 dsimp only at *
 obtain ⟨W0, hW0⟩ : ∃ W0, (w.alloc (.cells #[.int .i64 f0, .string f1, .int .i64 f2, .slice A3 f3.length c3, .int .i64 x0, .string x1, .int .i64 x2, .slice A7 n7 c7, .slice A8 n8 c8, .slice A9 n9 c9] 40)).alloc (.cells #[.string ⟨#[]⟩, .slice none 0 0, .int .i64 0] 56) = W0 := ⟨_, rfl⟩
 have HB0 : Aside0 (Below w.heap.size w W0) := ⟨by rw [← hW0]; exact below_alloc (below_alloc (Below.refl _ _) _) _⟩
 have hbx : Aside0 (W0.heap[w.heap.size]? = some (.cells #[.int .i64 f0, .string f1, .int .i64 f2, .slice A3 f3.length c3, .int .i64 x0, .string x1, .int .i64 x2, .slice A7 n7 c7, .slice A8 n8 c8, .slice A9 n9 c9] 40 (0, 0))) := ⟨by rw [← hW0]; exact (Below.heap_alloc _ _ _ (by rw [E]; omega)).trans (blk_new w _)⟩
 have hrx : Aside0 (W0.heap[w.heap.size + 1]? = some (.cells #[.string ⟨#[]⟩, .slice none 0 0, .int .i64 0] 56 (0, 0))) := ⟨by rw [← hW0, ← E w]; exact blk_new _ _⟩
 have hl1 : Aside0 (W0.heap.size = w.heap.size + 2) := ⟨by rw [← hW0, E, E]⟩
 have hg0 := Aside0.mk (GG.below hg HB0.out)
 have hC := Aside0.mk (Kd.C_below hC3 HB0.out)
 obtain ⟨b1, q1⟩ : ∃ b, (f0 == 3) = b := ⟨_, rfl⟩
 obtain ⟨b2, q2⟩ : ∃ b, (f0 == 2) = b := ⟨_, rfl⟩
 obtain ⟨b3, q3⟩ : ∃ b, ((f3.length : Int) == 0) = b := ⟨_, rfl⟩
 have k0 := (blk_cell hbx.out 0).trans rfl
 have k1 := (blk_cell hbx.out 1).trans rfl
 have k2 := (blk_cell hbx.out 2).trans rfl
 have k3 := (blk_cell hbx.out 3).trans rfl
 cases b1
 ·cases b2
  ·cases b3
   ·skip
    go_enter Tryd.func54, Tryd.ntmps54
    go_wp2_with (first | (go_at_call 49; (try rw [hW0]); go_loud (with_reducible refine (w_calls f1 W0).mono ?_); rintro r w2 ⟨rfl, hb2⟩; have HB2 := Aside0.mk hb2; clear hb2) | (go_at_call 52; go_loud (with_reducible refine (l_calls _ _ _ _).mono ?_); rintro r w3 ⟨rfl, hb3⟩; have HB3 := Aside0.mk hb3; clear hb3))
    obtain ⟨xb, hxb⟩ : ∃ xb, w3.heap.size = xb := ⟨_, rfl⟩
    obtain ⟨rb, hrb⟩ : ∃ rb, w2.heap.size = rb := ⟨_, rfl⟩
    have hrl : rb < xb ∧ W0.heap.size ≤ rb := by have h1 := HB3.out.size; rw [E] at h1; have h2 := HB2.out.size; omega
    obtain ⟨Wx, hWx⟩ : ∃ Wx, w3.alloc (.cells #[.string ⟨#[]⟩, .slice (some ⟨rb, 0, none⟩) 1 1, .int .i64 0] 56) = Wx := ⟨_, rfl⟩
    have hB3' : Below W0.heap.size W0 w3 := below_step (below_alloc HB2.out _) HB3.out
    have hBx : Aside0 (Below W0.heap.size W0 Wx) := ⟨by rw [← hWx]; exact below_alloc hB3' _⟩
    have hrow : Aside0 (NR Wx W0.heap.size (some xb) (some ⟨rb, 0, none⟩) 1 1) := ⟨by have h1 : NR (w2.alloc (.cells #[.string f1, .slice none 0 0, .int .i64 0] 56)) W0.heap.size (some xb) (some ⟨w2.heap.size, 0, none⟩) 1 1 := NR.lit1 (q := W0.heap.size) (NL.nil _ _) (Nat.le_refl _) (Nat.le_refl _) (fun y hy => .inr (by obtain rfl := Option.some.inj hy; omega)) HB2.out.size (fun e => by have := Option.some.inj e; omega); rw [hrb] at h1; rw [← hWx]; exact NR.below (NR.below h1 HB3.out) (below_alloc (Below.refl _ _) _)⟩
    have hXb : Aside0 (Wx.heap[xb]? = some (.cells #[.string ⟨#[]⟩, .slice (some ⟨rb, 0, none⟩) 1 1, .int .i64 0] 56 (0, 0))) := ⟨by rw [← hWx, ← hxb]; exact blk_new _ _⟩
    have hXs : Aside0 (Wx.heap.size = xb + 1 ∧ W0.heap.size ≤ rb ∧ rb < xb) := ⟨by rw [← hWx, E]; omega⟩
    have hbX := Aside0.mk (blk_below hbx.out hBx.out)
    have hrX := Aside0.mk (blk_below hrx.out hBx.out)
    have hCX := Aside0.mk (Kd.C_below hC.out hBx.out)
    rw [hrb, hxb, hWx]
    clear hWx hxb hrb hB3' hrl k0 k1 k2 k3 HB2 HB3 hW0
    have HB_ : Below Wx.heap.size Wx Wx.drew := below_drew1 (Below.refl _ _)
    refine start_ (n := 8) (S := fun w' => w'.cell? ⟨xb, 1, none⟩ = some (.slice (some ⟨rb, 0, none⟩) 1 1) ∧ w'.cell? ⟨w.heap.size, 3, none⟩ = some (.slice A3 f3.length c3)) (ds := [5, 7]) (bm 8 0) (by kernel_rfl) rfl rfl ⟨(blk_cell (blk_below hXb.out HB_) 1).trans rfl, (blk_cell (blk_below hbX.out HB_) 3).trans rfl⟩ (fun hHeld => ?_)
    generalize Wx.drew = W9 at *
    refine pure_ (i := 0) (N := some 30) (v := ?_) (a' := ?_) (bm 8 1) rfl rfl (by kernel_rfl) (fun _ _ _ h => h) (Or.inl ⟨by rfl, ?_⟩) ?_ ?_
    rotate_left
    ·intro w'
     go_simp
     with_reducible rfl
    rotate_left
    ·simp only [Act.put, sA, sB, sC, i64_w, i32_w]
     rfl
    refine pure_ (i := 2) (N := some 32) (v := ?_) (a' := ?_) (bm 8 5) rfl rfl (by kernel_rfl) (fun _ _ _ h => h) (Or.inl ⟨by rfl, ?_⟩) ?_ ?_
    rotate_left
    ·intro w'
     go_simp
     with_reducible rfl
    rotate_left
    ·simp only [Act.put, sA, sB, sC, i64_w, i32_w]
     rfl
    refine take_ (i := 1) (N := some 31) (v := ?_) (a' := ?_) (bm 8 7) rfl rfl (by kernel_rfl) (fun _ _ _ h => h) (Or.inl ⟨by rfl, ?_⟩) hHeld ?_ ?_
    rotate_left
    ·rintro w' ⟨s0, s1⟩
     go_simp
     with_reducible rfl
    rotate_left
    ·simp only [Act.put, sA, sB, sC, i64_w, i32_w]
     rfl
    refine take_ (i := 3) (N := some 33) (v := ?_) (a' := ?_) (bm 8 15) rfl rfl (by kernel_rfl) (fun _ _ _ h => h) (Or.inl ⟨by rfl, ?_⟩) hHeld ?_ ?_
    rotate_left
    ·rintro w' ⟨s0, s1⟩
     go_simp
     with_reducible rfl
    rotate_left
    ·simp only [Act.put, sA, sB, sC, i64_w, i32_w]
     rfl
    refine one_ (i := 4) (N := some 34) (bm 8 31) rfl rfl (by kernel_rfl) (by decide) (fun K hK => ?_)
    refine goes_ Tryd.func53 (by kernel_rfl) rfl #[.slice A3 f3.length c3] (by rfl) rfl rfl (by simp only [List.map_toArray, List.map_cons, List.map_nil]; rfl) ?_
    (with_reducible refine (ws_calls f3 W9 (by omega) (Kd.C_below hCX.out HB_)).mono ?_)
    rintro e w5 ⟨A1, c1, rfl, hc1, hn1, hb5⟩
    refine ⟨_, rfl, ?_⟩
    have HB5 := below_step HB_ hb5
    refine hK.out _ _ ⟨(blk_cell (blk_below hXb.out HB5) 1).trans rfl, (blk_cell (blk_below hbX.out HB5) 3).trans rfl⟩ (fun hHeld => ?_)
    clear hK K
    refine norm_ (a' := ?_) ?_ ?_
    rotate_left
    ·show Act.put _ (some 34) _ = _
     simp only [Act.put, sA, sB, sC, i64_w, i32_w]
     rfl
    refine last_ (i := 5) (N := some 35) (bm 8 63) rfl rfl (by kernel_rfl) (by decide) (fun K hK => ?_)
    refine apps_step (w0 := w5) W0.heap.size (by rfl) (.tmp 31) (.tmp 34) rfl (A := some ⟨rb, 0, none⟩) (x0 := some xb) (n := 1) (c := 1) (A1 := A1) (n1 := f3.length) (c1 := c1) (q := W9.heap.size) rfl rfl (NR.below hrow.out HB5) hn1 ?_ ?_ ?_ (Below.refl _ _) ?_ (by omega) ?_
    ·intro k hk; have := NR.lt hrow.out k hk; have := HB_.size; omega
    ·have := hXs.out; have := HB_.size; omega
    ·intro y hy; obtain rfl := Option.some.inj hy; have := hXs.out; have := HB_.size; have := HB5.size; omega
    ·have := hXs.out; have := HB5.size; omega
    intro A6 c6 w6 hr6 hb6 hg6
    have hx5 := blk_below hXb.out HB5
    have hx6 := (NR.keep (NR.below hrow.out HB5) hg6 (Array.getElem?_eq_some_iff.1 hx5).1).trans hx5
    have hcz := (blk_cell hx6 1).trans rfl
    have hfz := blk_frozen hx6 1
    refine hK.out _ _ ?_
    clear hK K
    refine norm_ (a' := ?_) ?_ ?_
    rotate_left
    ·show Act.put _ (some 35) _ = _
     simp only [Act.put, sA, sB, sC, i64_w, i32_w]
     rfl
    refine pure_ (i := 6) (N := some 36) (v := ?_) (a' := ?_) (bm 8 127) rfl rfl (by kernel_rfl) (fun _ _ _ h => h) (Or.inl ⟨by rfl, ?_⟩) ?_ ?_
    rotate_left
    ·intro w'
     go_simp
     with_reducible rfl
    rotate_left
    ·simp only [Act.put, sA, sB, sC, i64_w, i32_w]
     rfl
    refine last_ (i := 7) (N := none) (bm 8 255) rfl rfl (by kernel_rfl) (by decide) (fun K hK => ?_)
    refine skip_ (w1 := ?_) (by rfl) rfl ?_ ?_
    rotate_left
    ·go_simp
     rfl
    refine hK.out _ _ ?_
    clear hK K
    refine done_ (by kernel_rfl) ?_
    obtain ⟨W7, hW7⟩ : ∃ W7, w6.setCell ⟨xb, 1, none⟩ (.slice A6 (1 + f3.length) c6) = W7 := ⟨_, rfl⟩
    have hX7 : W7.heap[xb]? = some (.cells #[.string ⟨#[]⟩, .slice A6 (1 + f3.length) c6, .int .i64 0] 56 (0, 0)) := by rw [← hW7]; exact blk_put hx6 1 _ rfl
    have hl5 : w.heap.size + 1 < W0.heap.size := by have := hl1.out; omega
    have hR7 : W7.heap[w.heap.size + 1]? = some (.cells #[.string ⟨#[]⟩, .slice none 0 0, .int .i64 0] 56 (0, 0)) := by
     rw [← hW7]
     exact (Below.heap_setCell w6 _ _ _ (by have := hXs.out; show w.heap.size + 1 ≠ xb; omega)).trans ((hb6.block _ hl5).trans (blk_below hrX.out HB5))
    have hr7 : Aside0 (NR W7 W0.heap.size (some xb) A6 (1 + f3.length) c6) := ⟨by rw [← hW7]; exact NR.far hr6 (.inr rfl) _⟩
    have hB7 : Aside0 (Below W0.heap.size W0 W7) := ⟨by rw [← hW7]; exact ((hBx.out.trans (HB5.mono hBx.out.size)).trans hb6).setCell (p := ⟨xb, 1, none⟩) (by have := hXs.out; show W0.heap.size ≤ xb; omega) _⟩
    rw [hW7]
    clear hW7 hcz hfz hx6 hx5 hg6 hb6 hr6 hHeld hb5 HB5 hn1 HB_
    have x0 := (blk_cell hX7 0).trans rfl
    have x1 := (blk_cell hX7 1).trans rfl
    have x2 := (blk_cell hX7 2).trans rfl
    have r0 := (blk_cell hR7 0).trans rfl
    have r1 := (blk_cell hR7 1).trans rfl
    have r2 := (blk_cell hR7 2).trans rfl
    have z0 := blk_frozen hR7 0
    have z1 := blk_frozen hR7 1
    have z2 := blk_frozen hR7 2
    go_wp2
    refine bodyPost_ret (v := .agg #[.string ⟨#[]⟩, .slice A6 (1 + f3.length) c6, .int .i64 0]) (by simp [results, Tryd.results54, go_sem, *]) rfl ⟨_, A6, _, c6, rfl, hr7.out.list.2, ?_, ?_⟩
    ·exact (((hr7.out.list.1.far (p := ⟨w.heap.size + 1, 0, none⟩) (.inl hl5) _).far (p := ⟨w.heap.size + 1, 1, none⟩) (.inl hl5) _).far (p := ⟨w.heap.size + 1, 2, none⟩) (.inl hl5) _).list.mono (by omega)
    ·exact (((HB0.out.trans (hB7.out.mono HB0.out.size)).setCell (p := ⟨w.heap.size + 1, 0, none⟩) (Nat.le_succ _) _).setCell (p := ⟨w.heap.size + 1, 1, none⟩) (Nat.le_succ _) _).setCell (p := ⟨w.heap.size + 1, 2, none⟩) (Nat.le_succ _) _
   ·go_enter Tryd.func54, Tryd.ntmps54
    go_wp2_with (first | (go_at_call 49; (try rw [hW0]); go_loud (with_reducible refine (w_calls f1 W0).mono ?_); rintro r w2 ⟨rfl, hb2⟩; have HB2 := Aside0.mk hb2; have hr1 := Aside0.mk (blk_below hrx.out hb2); have j0 := (blk_cell hr1.out 0).trans rfl; have j1 := (blk_cell hr1.out 1).trans rfl; have j2 := (blk_cell hr1.out 2).trans rfl; have z0 := blk_frozen hr1.out 0; have z1 := blk_frozen hr1.out 1; have z2 := blk_frozen hr1.out 2; clear hb2 k0 k1 k2 k3))
    refine bodyPost_ret (v := .agg #[.string f1, .slice none 0 0, .int .i64 0]) (by simp [results, Tryd.results54, go_sem, *]) rfl ⟨f1, none, 0, 0, rfl, Nat.le_refl _, NL.nil _ _, ?_⟩
    exact (((HB0.out.trans (HB2.out.mono HB0.out.size)).setCell (p := ⟨w.heap.size + 1, 0, none⟩) (Nat.le_succ _) _).setCell (p := ⟨w.heap.size + 1, 1, none⟩) (Nat.le_succ _) _).setCell (p := ⟨w.heap.size + 1, 2, none⟩) (Nat.le_succ _) _
  ·have TN := numText_calls f2 h0 h1 W0 hg0.out
   go_enter Tryd.func54, Tryd.ntmps54
   go_wp2_with (first | (go_at_call 50; (try rw [hW0]); go_loud (with_reducible refine TN.mono ?_); rintro r w1 ⟨s1, rfl, hb1⟩; have HB1 := Aside0.mk hb1; clear TN hb1) | (go_at_call 49; (try rw [hW0]); go_loud (with_reducible refine (w_calls s1 w1).mono ?_); rintro r w2 ⟨rfl, hb2⟩; have HB2 := Aside0.mk (below_step HB1.out hb2); have hr1 := Aside0.mk (blk_below hrx.out HB2.out); have j0 := (blk_cell hr1.out 0).trans rfl; have j1 := (blk_cell hr1.out 1).trans rfl; have j2 := (blk_cell hr1.out 2).trans rfl; have z0 := blk_frozen hr1.out 0; have z1 := blk_frozen hr1.out 1; have z2 := blk_frozen hr1.out 2; clear hb2 k0 k1 k2 k3))
   refine bodyPost_ret (v := .agg #[.string s1, .slice none 0 0, .int .i64 0]) (by simp [results, Tryd.results54, go_sem, *]) rfl ⟨s1, none, 0, 0, rfl, Nat.le_refl _, NL.nil _ _, ?_⟩
   exact (((HB0.out.trans (HB2.out.mono HB0.out.size)).setCell (p := ⟨w.heap.size + 1, 0, none⟩) (Nat.le_succ _) _).setCell (p := ⟨w.heap.size + 1, 1, none⟩) (Nat.le_succ _) _).setCell (p := ⟨w.heap.size + 1, 2, none⟩) (Nat.le_succ _) _
 ·go_enter Tryd.func54, Tryd.ntmps54
  go_wp2_with (first | (go_at_call 49; (try rw [hW0]); go_loud (with_reducible refine (w_calls ⟨#[95]⟩ W0).mono ?_); rintro r w2 ⟨rfl, hb2⟩; have HB2 := Aside0.mk hb2; have hr1 := Aside0.mk (blk_below hrx.out hb2); have j0 := (blk_cell hr1.out 0).trans rfl; have j1 := (blk_cell hr1.out 1).trans rfl; have j2 := (blk_cell hr1.out 2).trans rfl; have z0 := blk_frozen hr1.out 0; have z1 := blk_frozen hr1.out 1; have z2 := blk_frozen hr1.out 2; clear hb2 k0 k1 k2 k3))
  refine bodyPost_ret (v := .agg #[.string ⟨#[95]⟩, .slice none 0 0, .int .i64 0]) (by simp [results, Tryd.results54, go_sem, *]) rfl ⟨⟨#[95]⟩, none, 0, 0, rfl, Nat.le_refl _, NL.nil _ _, ?_⟩
  exact (((HB0.out.trans (HB2.out.mono HB0.out.size)).setCell (p := ⟨w.heap.size + 1, 0, none⟩) (Nat.le_succ _) _).setCell (p := ⟨w.heap.size + 1, 1, none⟩) (Nat.le_succ _) _).setCell (p := ⟨w.heap.size + 1, 2, none⟩) (Nat.le_succ _) _
def ND (w : World) (r : Ending) (w' : World) : Prop := ∃ s A n c, r = .returned (.agg #[.string s, .slice A n c, .int .i64 0]) ∧ n ≤ c ∧ NL w' w.heap.size A n ∧ Below w.heap.size w w'
def XN (e : S33) : Prop := ∀ (w : World), GG w → ∀ {A3 A4 A5 : Option Addr} {c3 c4 c5 : Nat}, Kd.C Kd.string w A3 e.f3.length e.f3 → Kd.C k33 w A4 e.f4.length e.f4 → Kd.C k40 w A5 e.f5.length e.f5 →
 Calls Tryd.prog 37 #[.agg #[.int .i64 e.f0, .string e.f1, .int .i64 e.f2, .slice A3 e.f3.length c3, .slice A4 e.f4.length c4, .slice A5 e.f5.length c5]] w (ND w)
theorem XN.at {e : S33} (h : XN e) (w : World) (hg : GG w) {A3 A4 A5 : Option Addr} {c3 c4 c5 : Nat} (h3 : Kd.C Kd.string w A3 e.f3.length e.f3) (h4 : Kd.C k33 w A4 e.f4.length e.f4) (h5 : Kd.C k40 w A5 e.f5.length e.f5) :
 Calls Tryd.prog 37 #[.agg #[.int .i64 e.f0, .string e.f1, .int .i64 e.f2, .slice A3 e.f3.length c3, .slice A4 e.f4.length c4, .slice A5 e.f5.length c5]] w (ND w) := h w hg h3 h4 h5
theorem wrapU (a : Int) : 0 ≤ IntKind.u64.wrap a ∧ IntKind.u64.wrap a < 18446744073709551616 := by rw [IntKind.wrap_u64]; omega
def EC (W : World) (p : Addr) (x : S33) (B3 B4 B5 : Option Addr) (d3 d4 d5 : Nat) : Prop := W.cell? p = some (.int .i64 x.f0) ∧ W.cell? ⟨p.block, p.off + 1, none⟩ = some (.string x.f1) ∧ W.cell? ⟨p.block, p.off + 2, none⟩ = some (.int .i64 x.f2) ∧ W.cell? ⟨p.block, p.off + 3, none⟩ = some (.slice B3 x.f3.length d3) ∧ W.cell? ⟨p.block, p.off + 4, none⟩ = some (.slice B4 x.f4.length d4) ∧ W.cell? ⟨p.block, p.off + 5, none⟩ = some (.slice B5 x.f5.length d5)
theorem elem33 {W : World} {A : Option Addr} {n : Nat} {l : List S33} (hC : k33.C W A n l) (i : Nat) {x : S33} (hx : l[i]? = some x) : ∃ ad B3 d3 B4 d4 B5 d5, A = some ad ∧ EC W (ad.add (i * 6)) x B3 B4 B5 d3 d4 d5 ∧ Kd.string.C W B3 x.f3.length x.f3 ∧ k33.C W B4 x.f4.length x.f4 ∧ k40.C W B5 x.f5.length x.f5 ∧ x.f3.length ≤ d3 ∧ x.f4.length ≤ d4 ∧ x.f5.length ≤ d5 := by
 have hi := (List.getElem?_eq_some_iff.1 hx).1
 obtain ⟨ad, B3, d3, B4, d4, B5, d5, e, c0, c1, c2, c3, c4, c5, l3, g3, l4, g4, l5, g5⟩ := at_T33 hC (i : Int) (by omega) (by have := hC.1; omega)
 have hr : rd_T33 l (i : Int) = x := by
  unfold rd_T33
  rw [Int.toNat_natCast, List.getD_eq_getElem?_getD, hx]
  rfl
 rw [hr] at c0 c1 c2 c3 c4 c5 l3 g3 l4 g4 l5 g5
 rw [Int.toNat_natCast] at c0 c1 c2 c3 c4 c5
 exact ⟨ad, B3, d3, B4, d4, B5, d5, e, ⟨c0, c1, c2, c3, c4, c5⟩, g3, g4, g5, l3, l4, l5⟩
theorem EC.below {W W1 : World} {p : Addr} {x : S33} {B3 B4 B5 : Option Addr} {d3 d4 d5 : Nat} (h : EC W p x B3 B4 B5 d3 d4 d5) (hb : Below W.heap.size W W1) : EC W1 p x B3 B4 B5 d3 d4 d5 :=
 ⟨(hb.cell (World.block_lt_of_cell? _ _ h.1)).trans h.1, (hb.cell (World.block_lt_of_cell? _ _ h.2.1)).trans h.2.1, (hb.cell (World.block_lt_of_cell? _ _ h.2.2.1)).trans h.2.2.1, (hb.cell (World.block_lt_of_cell? _ _ h.2.2.2.1)).trans h.2.2.2.1, (hb.cell (World.block_lt_of_cell? _ _ h.2.2.2.2.1)).trans h.2.2.2.2.1, (hb.cell (World.block_lt_of_cell? _ _ h.2.2.2.2.2)).trans h.2.2.2.2.2⟩
set_option maxHeartbeats 8000000 in
set_option maxRecDepth 100000 in
theorem exprNode_var (f1 : ByteArray) (f2 : Int) (w : World) (hg : GG w) {A3 A4 A5 : Option Addr} {n3 c3 n4 c4 n5 c5 : Nat} :
  Calls Tryd.prog 37 #[.agg #[.int .i64 1, .string f1, .int .i64 f2, .slice A3 n3 c3, .slice A4 n4 c4, .slice A5 n5 c5]] w (ND w) := by
 have E : ∀ W : World, ∀ o : Obj, (W.alloc o).heap.size = W.heap.size + 1 := fun W o => Array.size_push _
 obtain ⟨W0, hW0⟩ : ∃ W0, (w.alloc (.cells #[.int .i64 1, .string f1, .int .i64 f2, .slice A3 n3 c3, .slice A4 n4 c4, .slice A5 n5 c5] 33)).alloc (.cells #[.string ⟨#[]⟩, .slice none 0 0, .int .i64 0] 56) = W0 := ⟨_, rfl⟩
 have HB0 : Aside0 (Below w.heap.size w W0) := ⟨by rw [← hW0]; exact below_alloc (below_alloc (Below.refl _ _) _) _⟩
 have hbx : Aside0 (W0.heap[w.heap.size]? = some (.cells #[.int .i64 1, .string f1, .int .i64 f2, .slice A3 n3 c3, .slice A4 n4 c4, .slice A5 n5 c5] 33 (0, 0))) := ⟨by rw [← hW0]; exact (Below.heap_alloc _ _ _ (by rw [E]; omega)).trans (blk_new w _)⟩
 have hrx : Aside0 (W0.heap[w.heap.size + 1]? = some (.cells #[.string ⟨#[]⟩, .slice none 0 0, .int .i64 0] 56 (0, 0))) := ⟨by rw [← hW0, ← E w]; exact blk_new _ _⟩
 have hl1 : Aside0 (W0.heap.size = w.heap.size + 2) := ⟨by rw [← hW0, E, E]⟩
 have hg0 := Aside0.mk (GG.below hg HB0.out)
 have k0 := (blk_cell hbx.out 0).trans rfl
 have k1 := (blk_cell hbx.out 1).trans rfl
 have k2 := (blk_cell hbx.out 2).trans rfl
 have k3 := (blk_cell hbx.out 3).trans rfl
 have k4 := (blk_cell hbx.out 4).trans rfl
 have k5 := (blk_cell hbx.out 5).trans rfl
 go_enter Tryd.func37, Tryd.ntmps37
 go_wp2_with (first | (go_at_call 49; (try rw [hW0]); go_loud (with_reducible refine (w_calls f1 W0).mono ?_); rintro r w2 ⟨rfl, hb2⟩; have HB2 := Aside0.mk hb2; have hr1 := Aside0.mk (blk_below hrx.out hb2); have j0 := (blk_cell hr1.out 0).trans rfl; have j1 := (blk_cell hr1.out 1).trans rfl; have j2 := (blk_cell hr1.out 2).trans rfl; have z0 := blk_frozen hr1.out 0; have z1 := blk_frozen hr1.out 1; have z2 := blk_frozen hr1.out 2; clear hb2 k0 k1 k2 k3 k4 k5))
 refine bodyPost_ret (v := .agg #[.string f1, .slice none 0 0, .int .i64 0]) (by simp [results, Tryd.results37, go_sem, *]) rfl ⟨f1, none, 0, 0, rfl, Nat.le_refl _, NL.nil _ _, ?_⟩
 exact (((HB0.out.trans (HB2.out.mono HB0.out.size)).setCell (p := ⟨w.heap.size + 1, 0, none⟩) (Nat.le_succ _) _).setCell (p := ⟨w.heap.size + 1, 1, none⟩) (Nat.le_succ _) _).setCell (p := ⟨w.heap.size + 1, 2, none⟩) (Nat.le_succ _) _
set_option maxHeartbeats 8000000 in
set_option maxRecDepth 100000 in
theorem exprNode_con (f1 : ByteArray) (f2 : Int) (w : World) (hg : GG w) {A3 A4 A5 : Option Addr} {n3 c3 n4 c4 n5 c5 : Nat} :
  Calls Tryd.prog 37 #[.agg #[.int .i64 4, .string f1, .int .i64 f2, .slice A3 n3 c3, .slice A4 n4 c4, .slice A5 n5 c5]] w (ND w) := by
 have E : ∀ W : World, ∀ o : Obj, (W.alloc o).heap.size = W.heap.size + 1 := fun W o => Array.size_push _
 obtain ⟨W0, hW0⟩ : ∃ W0, (w.alloc (.cells #[.int .i64 4, .string f1, .int .i64 f2, .slice A3 n3 c3, .slice A4 n4 c4, .slice A5 n5 c5] 33)).alloc (.cells #[.string ⟨#[]⟩, .slice none 0 0, .int .i64 0] 56) = W0 := ⟨_, rfl⟩
 have HB0 : Aside0 (Below w.heap.size w W0) := ⟨by rw [← hW0]; exact below_alloc (below_alloc (Below.refl _ _) _) _⟩
 have hbx : Aside0 (W0.heap[w.heap.size]? = some (.cells #[.int .i64 4, .string f1, .int .i64 f2, .slice A3 n3 c3, .slice A4 n4 c4, .slice A5 n5 c5] 33 (0, 0))) := ⟨by rw [← hW0]; exact (Below.heap_alloc _ _ _ (by rw [E]; omega)).trans (blk_new w _)⟩
 have hrx : Aside0 (W0.heap[w.heap.size + 1]? = some (.cells #[.string ⟨#[]⟩, .slice none 0 0, .int .i64 0] 56 (0, 0))) := ⟨by rw [← hW0, ← E w]; exact blk_new _ _⟩
 have hl1 : Aside0 (W0.heap.size = w.heap.size + 2) := ⟨by rw [← hW0, E, E]⟩
 have hg0 := Aside0.mk (GG.below hg HB0.out)
 have k0 := (blk_cell hbx.out 0).trans rfl
 have k1 := (blk_cell hbx.out 1).trans rfl
 have k2 := (blk_cell hbx.out 2).trans rfl
 have k3 := (blk_cell hbx.out 3).trans rfl
 have k4 := (blk_cell hbx.out 4).trans rfl
 have k5 := (blk_cell hbx.out 5).trans rfl
 go_enter Tryd.func37, Tryd.ntmps37
 go_wp2_with (first | (go_at_call 49; (try rw [hW0]); go_loud (with_reducible refine (w_calls f1 W0).mono ?_); rintro r w2 ⟨rfl, hb2⟩; have HB2 := Aside0.mk hb2; have hr1 := Aside0.mk (blk_below hrx.out hb2); have j0 := (blk_cell hr1.out 0).trans rfl; have j1 := (blk_cell hr1.out 1).trans rfl; have j2 := (blk_cell hr1.out 2).trans rfl; have z0 := blk_frozen hr1.out 0; have z1 := blk_frozen hr1.out 1; have z2 := blk_frozen hr1.out 2; clear hb2 k0 k1 k2 k3 k4 k5))
 refine bodyPost_ret (v := .agg #[.string f1, .slice none 0 0, .int .i64 0]) (by simp [results, Tryd.results37, go_sem, *]) rfl ⟨f1, none, 0, 0, rfl, Nat.le_refl _, NL.nil _ _, ?_⟩
 exact (((HB0.out.trans (HB2.out.mono HB0.out.size)).setCell (p := ⟨w.heap.size + 1, 0, none⟩) (Nat.le_succ _) _).setCell (p := ⟨w.heap.size + 1, 1, none⟩) (Nat.le_succ _) _).setCell (p := ⟨w.heap.size + 1, 2, none⟩) (Nat.le_succ _) _
set_option maxHeartbeats 8000000 in
set_option maxRecDepth 100000 in
theorem exprNode_int (f1 : ByteArray) (f2 : Int) (w : World) (hg : GG w) {A3 A4 A5 : Option Addr} {n3 c3 n4 c4 n5 c5 : Nat} (h0 : -9223372036854775808 ≤ f2) (h1 : f2 ≤ 9223372036854775807) :
  Calls Tryd.prog 37 #[.agg #[.int .i64 2, .string f1, .int .i64 f2, .slice A3 n3 c3, .slice A4 n4 c4, .slice A5 n5 c5]] w (ND w) := by
 have E : ∀ W : World, ∀ o : Obj, (W.alloc o).heap.size = W.heap.size + 1 := fun W o => Array.size_push _
 obtain ⟨W0, hW0⟩ : ∃ W0, (w.alloc (.cells #[.int .i64 2, .string f1, .int .i64 f2, .slice A3 n3 c3, .slice A4 n4 c4, .slice A5 n5 c5] 33)).alloc (.cells #[.string ⟨#[]⟩, .slice none 0 0, .int .i64 0] 56) = W0 := ⟨_, rfl⟩
 have HB0 : Aside0 (Below w.heap.size w W0) := ⟨by rw [← hW0]; exact below_alloc (below_alloc (Below.refl _ _) _) _⟩
 have hbx : Aside0 (W0.heap[w.heap.size]? = some (.cells #[.int .i64 2, .string f1, .int .i64 f2, .slice A3 n3 c3, .slice A4 n4 c4, .slice A5 n5 c5] 33 (0, 0))) := ⟨by rw [← hW0]; exact (Below.heap_alloc _ _ _ (by rw [E]; omega)).trans (blk_new w _)⟩
 have hrx : Aside0 (W0.heap[w.heap.size + 1]? = some (.cells #[.string ⟨#[]⟩, .slice none 0 0, .int .i64 0] 56 (0, 0))) := ⟨by rw [← hW0, ← E w]; exact blk_new _ _⟩
 have hl1 : Aside0 (W0.heap.size = w.heap.size + 2) := ⟨by rw [← hW0, E, E]⟩
 have hg0 := Aside0.mk (GG.below hg HB0.out)
 have k0 := (blk_cell hbx.out 0).trans rfl
 have k1 := (blk_cell hbx.out 1).trans rfl
 have k2 := (blk_cell hbx.out 2).trans rfl
 have k3 := (blk_cell hbx.out 3).trans rfl
 have k4 := (blk_cell hbx.out 4).trans rfl
 have k5 := (blk_cell hbx.out 5).trans rfl
 have TN := numText_calls f2 h0 h1 W0 hg0.out
 go_enter Tryd.func37, Tryd.ntmps37
 go_wp2_with (first | (go_at_call 50; (try rw [hW0]); go_loud (with_reducible refine TN.mono ?_); rintro r w1 ⟨s1, rfl, hb1⟩; have HB1 := Aside0.mk hb1; clear TN hb1) | (go_at_call 49; (try rw [hW0]); go_loud (with_reducible refine (w_calls s1 w1).mono ?_); rintro r w2 ⟨rfl, hb2⟩; have HB2 := Aside0.mk (below_step HB1.out hb2); have hr1 := Aside0.mk (blk_below hrx.out HB2.out); have j0 := (blk_cell hr1.out 0).trans rfl; have j1 := (blk_cell hr1.out 1).trans rfl; have j2 := (blk_cell hr1.out 2).trans rfl; have z0 := blk_frozen hr1.out 0; have z1 := blk_frozen hr1.out 1; have z2 := blk_frozen hr1.out 2; clear hb2 k0 k1 k2 k3 k4 k5))
 refine bodyPost_ret (v := .agg #[.string s1, .slice none 0 0, .int .i64 0]) (by simp [results, Tryd.results37, go_sem, *]) rfl ⟨s1, none, 0, 0, rfl, Nat.le_refl _, NL.nil _ _, ?_⟩
 exact (((HB0.out.trans (HB2.out.mono HB0.out.size)).setCell (p := ⟨w.heap.size + 1, 0, none⟩) (Nat.le_succ _) _).setCell (p := ⟨w.heap.size + 1, 1, none⟩) (Nat.le_succ _) _).setCell (p := ⟨w.heap.size + 1, 2, none⟩) (Nat.le_succ _) _
set_option maxHeartbeats 8000000 in
set_option maxRecDepth 100000 in
theorem exprNode_flo (f1 : ByteArray) (f2 : Int) (w : World) (hg : GG w) {A3 A4 A5 : Option Addr} {n3 c3 n4 c4 n5 c5 : Nat} :
  Calls Tryd.prog 37 #[.agg #[.int .i64 3, .string f1, .int .i64 f2, .slice A3 n3 c3, .slice A4 n4 c4, .slice A5 n5 c5]] w (ND w) := by
 have E : ∀ W : World, ∀ o : Obj, (W.alloc o).heap.size = W.heap.size + 1 := fun W o => Array.size_push _
 obtain ⟨W0, hW0⟩ : ∃ W0, (w.alloc (.cells #[.int .i64 3, .string f1, .int .i64 f2, .slice A3 n3 c3, .slice A4 n4 c4, .slice A5 n5 c5] 33)).alloc (.cells #[.string ⟨#[]⟩, .slice none 0 0, .int .i64 0] 56) = W0 := ⟨_, rfl⟩
 have HB0 : Aside0 (Below w.heap.size w W0) := ⟨by rw [← hW0]; exact below_alloc (below_alloc (Below.refl _ _) _) _⟩
 have hbx : Aside0 (W0.heap[w.heap.size]? = some (.cells #[.int .i64 3, .string f1, .int .i64 f2, .slice A3 n3 c3, .slice A4 n4 c4, .slice A5 n5 c5] 33 (0, 0))) := ⟨by rw [← hW0]; exact (Below.heap_alloc _ _ _ (by rw [E]; omega)).trans (blk_new w _)⟩
 have hrx : Aside0 (W0.heap[w.heap.size + 1]? = some (.cells #[.string ⟨#[]⟩, .slice none 0 0, .int .i64 0] 56 (0, 0))) := ⟨by rw [← hW0, ← E w]; exact blk_new _ _⟩
 have hl1 : Aside0 (W0.heap.size = w.heap.size + 2) := ⟨by rw [← hW0, E, E]⟩
 have hg0 := Aside0.mk (GG.below hg HB0.out)
 have k0 := (blk_cell hbx.out 0).trans rfl
 have k1 := (blk_cell hbx.out 1).trans rfl
 have k2 := (blk_cell hbx.out 2).trans rfl
 have k3 := (blk_cell hbx.out 3).trans rfl
 have k4 := (blk_cell hbx.out 4).trans rfl
 have k5 := (blk_cell hbx.out 5).trans rfl
 have TN := floText_calls (IntKind.u64.wrap f2) (wrapU f2).1 (wrapU f2).2 W0 hg0.out
 go_enter Tryd.func37, Tryd.ntmps37
 go_wp2_with (first | (go_at_call 51; (try rw [hW0]); go_loud (with_reducible refine TN.mono ?_); rintro r w1 ⟨s1, rfl, hb1⟩; have HB1 := Aside0.mk hb1; clear TN hb1) | (go_at_call 49; (try rw [hW0]); go_loud (with_reducible refine (w_calls s1 w1).mono ?_); rintro r w2 ⟨rfl, hb2⟩; have HB2 := Aside0.mk (below_step HB1.out hb2); have hr1 := Aside0.mk (blk_below hrx.out HB2.out); have j0 := (blk_cell hr1.out 0).trans rfl; have j1 := (blk_cell hr1.out 1).trans rfl; have j2 := (blk_cell hr1.out 2).trans rfl; have z0 := blk_frozen hr1.out 0; have z1 := blk_frozen hr1.out 1; have z2 := blk_frozen hr1.out 2; clear hb2 k0 k1 k2 k3 k4 k5))
 refine bodyPost_ret (v := .agg #[.string s1, .slice none 0 0, .int .i64 0]) (by simp [results, Tryd.results37, go_sem, *]) rfl ⟨s1, none, 0, 0, rfl, Nat.le_refl _, NL.nil _ _, ?_⟩
 exact (((HB0.out.trans (HB2.out.mono HB0.out.size)).setCell (p := ⟨w.heap.size + 1, 0, none⟩) (Nat.le_succ _) _).setCell (p := ⟨w.heap.size + 1, 1, none⟩) (Nat.le_succ _) _).setCell (p := ⟨w.heap.size + 1, 2, none⟩) (Nat.le_succ _) _
set_option maxHeartbeats 8000000 in
set_option maxRecDepth 100000 in
theorem exprNode_fail (f1 : ByteArray) (f2 : Int) (w : World) (hg : GG w) {A3 A4 A5 : Option Addr} {n3 c3 n4 c4 n5 c5 : Nat} (h0 : -9223372036854775808 ≤ f2) (h1 : f2 ≤ 9223372036854775807) :
  Calls Tryd.prog 37 #[.agg #[.int .i64 10, .string f1, .int .i64 f2, .slice A3 n3 c3, .slice A4 n4 c4, .slice A5 n5 c5]] w (ND w) := by
 have E : ∀ W : World, ∀ o : Obj, (W.alloc o).heap.size = W.heap.size + 1 := fun W o => Array.size_push _
 obtain ⟨W0, hW0⟩ : ∃ W0, (w.alloc (.cells #[.int .i64 10, .string f1, .int .i64 f2, .slice A3 n3 c3, .slice A4 n4 c4, .slice A5 n5 c5] 33)).alloc (.cells #[.string ⟨#[]⟩, .slice none 0 0, .int .i64 0] 56) = W0 := ⟨_, rfl⟩
 have HB0 : Aside0 (Below w.heap.size w W0) := ⟨by rw [← hW0]; exact below_alloc (below_alloc (Below.refl _ _) _) _⟩
 have hbx : Aside0 (W0.heap[w.heap.size]? = some (.cells #[.int .i64 10, .string f1, .int .i64 f2, .slice A3 n3 c3, .slice A4 n4 c4, .slice A5 n5 c5] 33 (0, 0))) := ⟨by rw [← hW0]; exact (Below.heap_alloc _ _ _ (by rw [E]; omega)).trans (blk_new w _)⟩
 have hrx : Aside0 (W0.heap[w.heap.size + 1]? = some (.cells #[.string ⟨#[]⟩, .slice none 0 0, .int .i64 0] 56 (0, 0))) := ⟨by rw [← hW0, ← E w]; exact blk_new _ _⟩
 have hl1 : Aside0 (W0.heap.size = w.heap.size + 2) := ⟨by rw [← hW0, E, E]⟩
 have hg0 := Aside0.mk (GG.below hg HB0.out)
 have k0 := (blk_cell hbx.out 0).trans rfl
 have k1 := (blk_cell hbx.out 1).trans rfl
 have k2 := (blk_cell hbx.out 2).trans rfl
 have k3 := (blk_cell hbx.out 3).trans rfl
 have k4 := (blk_cell hbx.out 4).trans rfl
 have k5 := (blk_cell hbx.out 5).trans rfl
 have hl5 : Aside0 (w.heap.size + 1 < W0.heap.size) := ⟨by have := hl1.out; omega⟩
 go_enter Tryd.func37, Tryd.ntmps37
 go_wp2
 (try rw [hW0])
 clear hW0 k0 k1 k2 k3 k4 k5
 have HB_ : Below W0.heap.size W0 W0.drew := below_drew1 (Below.refl _ _)
 have hg9 := Aside0.mk (GG.below hg0.out HB_)
 refine start_ (n := 8) (S := fun w' => w'.cell? ⟨w.heap.size, 2, none⟩ = some (.int .i64 f2)) (ds := [7]) (bm 8 0) (by kernel_rfl) rfl rfl ((blk_cell (blk_below hbx.out HB_) 2).trans rfl) (fun hHeld => ?_)
 generalize W0.drew = W9 at *
 refine pure_ (i := 1) (N := some 121) (v := ?_) (a' := ?_) (bm 8 2) rfl rfl (by kernel_rfl) (fun _ _ _ h => h) (Or.inl ⟨by rfl, ?_⟩) ?_ ?_
 rotate_left
 ·intro w'
  go_simp
  with_reducible rfl
 rotate_left
 ·simp only [Act.put, sA, sB, sC, i64_w, i32_w]
  rfl
 refine take_ (i := 2) (N := some 122) (v := ?_) (a' := ?_) (bm 8 6) rfl rfl (by kernel_rfl) (fun _ _ _ h => h) (Or.inl ⟨by rfl, ?_⟩) hHeld ?_ ?_
 rotate_left
 ·intro w' s0
  go_simp
  with_reducible rfl
 rotate_left
 ·simp only [Act.put, sA, sB, sC, i64_w, i32_w]
  rfl
 refine one_ (i := 0) (N := some 120) (bm 8 7) rfl rfl (by kernel_rfl) (by decide) (fun K hK => ?_)
 refine goes_ Tryd.func49 (by kernel_rfl) rfl #[.string ⟨#[102, 97, 105, 108]⟩] (by rfl) rfl rfl (by simp only [List.map_toArray, List.map_cons, List.map_nil]; rfl) ?_
 (with_reducible refine (w_calls _ W9).mono ?_)
 rintro e w2 ⟨rfl, hbq2⟩
 refine ⟨_, rfl, ?_⟩
 have HB2 := below_step HB_ hbq2
 refine hK.out _ _ ((blk_cell (blk_below hbx.out HB2) 2).trans rfl) (fun hHeld => ?_)
 clear hK K
 refine norm_ (a' := ?_) ?_ ?_
 rotate_left
 ·show Act.put _ (some 120) _ = _
  simp only [Act.put, sA, sB, sC, i64_w, i32_w]
  rfl
 refine one_ (i := 3) (N := some 123) (bm 8 15) rfl rfl (by kernel_rfl) (by decide) (fun K hK => ?_)
 refine goes_ Tryd.func50 (by kernel_rfl) rfl #[.int .i64 f2] (by rfl) rfl rfl (by simp only [List.map_toArray, List.map_cons, List.map_nil]; rfl) ?_
 (with_reducible refine (numText_calls f2 h0 h1 w2 (GG.below hg0.out HB2)).mono ?_)
 rintro e w3 ⟨s1, rfl, hbq3⟩
 refine ⟨_, rfl, ?_⟩
 have HB3 := below_step HB2 hbq3
 refine hK.out _ _ ((blk_cell (blk_below hbx.out HB3) 2).trans rfl) (fun hHeld => ?_)
 clear hK K
 refine norm_ (a' := ?_) ?_ ?_
 rotate_left
 ·show Act.put _ (some 123) _ = _
  simp only [Act.put, sA, sB, sC, i64_w, i32_w]
  rfl
 refine one_ (i := 4) (N := some 124) (bm 8 31) rfl rfl (by kernel_rfl) (by decide) (fun K hK => ?_)
 refine goes_ Tryd.func49 (by kernel_rfl) rfl #[.string s1] (by rfl) rfl rfl (by simp only [List.map_toArray, List.map_cons, List.map_nil]; rfl) ?_
 (with_reducible refine (w_calls s1 w3).mono ?_)
 rintro e w4 ⟨rfl, hbq4⟩
 refine ⟨_, rfl, ?_⟩
 have HB4 := below_step HB3 hbq4
 refine hK.out _ _ ((blk_cell (blk_below hbx.out HB4) 2).trans rfl) (fun hHeld => ?_)
 clear hK K
 refine norm_ (a' := ?_) ?_ ?_
 rotate_left
 ·show Act.put _ (some 124) _ = _
  simp only [Act.put, sA, sB, sC, i64_w, i32_w]
  rfl
 refine one_ (i := 5) (N := some 125) (bm 8 63) rfl rfl (by kernel_rfl) (by decide) (fun K hK => ?_)
 refine value_ (w1 := ?_) (v := ?_) (by rfl) rfl ?_ ?_
 rotate_left 2
 ·go_simp
  constructor
  ·rfl
  ·rfl
 have HB5 := below_alloc HB4 (.cells #[.string ⟨#[102, 97, 105, 108]⟩, .slice none 0 0, .int .i64 0, .string s1, .slice none 0 0, .int .i64 0] 56)
 have hbk := blk_new w4 (.cells #[.string ⟨#[102, 97, 105, 108]⟩, .slice none 0 0, .int .i64 0, .string s1, .slice none 0 0, .int .i64 0] 56 (0, 0))
 refine hK.out _ _ ((blk_cell (blk_below hbx.out HB5) 2).trans rfl) (fun hHeld => ?_)
 clear hK K
 refine norm_ (a' := ?_) ?_ ?_
 rotate_left
 ·show Act.put _ (some 125) _ = _
  simp only [Act.put, sA, sB, sC, i64_w, i32_w]
  rfl
 refine one_ (i := 6) (N := some 126) (bm 8 127) rfl rfl (by kernel_rfl) (by decide) (fun K hK => ?_)
 refine goes_ Tryd.func52 (by kernel_rfl) rfl #[.slice (some ⟨w4.heap.size, 0, none⟩) 2 2] (by rfl) rfl rfl (by simp only [List.map_toArray, List.map_cons, List.map_nil]; rfl) ?_
 (with_reducible refine (l_calls _ _ _ _).mono ?_)
 rintro e w6 ⟨rfl, hbq6⟩
 refine ⟨_, rfl, ?_⟩
 have HB6 := below_step HB5 hbq6
 have hNL : NL w6 W0.heap.size (some ⟨w4.heap.size, 0, none⟩) 2 := NL.two (blk_below hbk hbq6) HB4.size (NL.nil _ _) (Nat.le_refl _) (NL.nil _ _) (Nat.le_refl _)
 have hr1 := blk_below hrx.out HB6
 have j0 := (blk_cell hr1 0).trans rfl
 have j1 := (blk_cell hr1 1).trans rfl
 have j2 := (blk_cell hr1 2).trans rfl
 have z0 := blk_frozen hr1 0
 have z1 := blk_frozen hr1 1
 have z2 := blk_frozen hr1 2
 refine hK.out _ _ ((blk_cell (blk_below hbx.out HB6) 2).trans rfl) (fun hHeld => ?_)
 clear hK K
 refine norm_ (a' := ?_) ?_ ?_
 rotate_left
 ·show Act.put _ (some 126) _ = _
  simp only [Act.put, sA, sB, sC, i64_w, i32_w]
  rfl
 refine last_ (i := 7) (N := none) (bm 8 255) rfl rfl (by kernel_rfl) (by decide) (fun K hK => ?_)
 refine skip_ (w1 := ?_) (by rfl) rfl ?_ ?_
 rotate_left
 ·go_simp
  rfl
 refine hK.out _ _ ?_
 clear hK K
 refine done_ (by kernel_rfl) ?_
 clear hHeld
 go_wp2
 refine bodyPost_ret (v := .agg #[.string ⟨#[]⟩, .slice (some ⟨w4.heap.size, 0, none⟩) 2 2, .int .i64 0]) (by simp [results, Tryd.results37, go_sem, *]) rfl ⟨_, (some ⟨w4.heap.size, 0, none⟩), _, 2, rfl, Nat.le_refl _, ?_, ?_⟩
 ·exact ((((hNL).far (p := ⟨w.heap.size + 1, 0, none⟩) hl5.out _).far (p := ⟨w.heap.size + 1, 1, none⟩) hl5.out _).far (p := ⟨w.heap.size + 1, 2, none⟩) hl5.out _).mono (by have := hl5.out; omega)
 ·exact (((HB0.out.trans (HB6.mono HB0.out.size)).setCell (p := ⟨w.heap.size + 1, 0, none⟩) (Nat.le_succ _) _).setCell (p := ⟨w.heap.size + 1, 1, none⟩) (Nat.le_succ _) _).setCell (p := ⟨w.heap.size + 1, 2, none⟩) (Nat.le_succ _) _
set_option maxHeartbeats 8000000 in
set_option maxRecDepth 100000 in
theorem exprNode_fn (f1 : ByteArray) (f2 : Int) (w : World) (hg : GG w) {A3 A4 A5 : Option Addr} {n3 c3 n4 c4 n5 c5 : Nat} (ns : List ByteArray) (hns : ns.length = n3) (hn3 : n3 ≤ 100000000000) (hC3 : Kd.string.C w A3 n3 ns) (l : List S33) (x : S33) (hx : XN x) (hi : l[0]? = some x) (hC4 : k33.C w A4 n4 l):
  Calls Tryd.prog 37 #[.agg #[.int .i64 6, .string f1, .int .i64 f2, .slice A3 n3 c3, .slice A4 n4 c4, .slice A5 n5 c5]] w (ND w) := by
 have E : ∀ W : World, ∀ o : Obj, (W.alloc o).heap.size = W.heap.size + 1 := fun W o => Array.size_push _
 obtain ⟨W0, hW0⟩ : ∃ W0, (w.alloc (.cells #[.int .i64 6, .string f1, .int .i64 f2, .slice A3 n3 c3, .slice A4 n4 c4, .slice A5 n5 c5] 33)).alloc (.cells #[.string ⟨#[]⟩, .slice none 0 0, .int .i64 0] 56) = W0 := ⟨_, rfl⟩
 have HB0 : Aside0 (Below w.heap.size w W0) := ⟨by rw [← hW0]; exact below_alloc (below_alloc (Below.refl _ _) _) _⟩
 have hbx : Aside0 (W0.heap[w.heap.size]? = some (.cells #[.int .i64 6, .string f1, .int .i64 f2, .slice A3 n3 c3, .slice A4 n4 c4, .slice A5 n5 c5] 33 (0, 0))) := ⟨by rw [← hW0]; exact (Below.heap_alloc _ _ _ (by rw [E]; omega)).trans (blk_new w _)⟩
 have hrx : Aside0 (W0.heap[w.heap.size + 1]? = some (.cells #[.string ⟨#[]⟩, .slice none 0 0, .int .i64 0] 56 (0, 0))) := ⟨by rw [← hW0, ← E w]; exact blk_new _ _⟩
 have hl1 : Aside0 (W0.heap.size = w.heap.size + 2) := ⟨by rw [← hW0, E, E]⟩
 have hg0 := Aside0.mk (GG.below hg HB0.out)
 have k0 := (blk_cell hbx.out 0).trans rfl
 have k1 := (blk_cell hbx.out 1).trans rfl
 have k2 := (blk_cell hbx.out 2).trans rfl
 have k3 := (blk_cell hbx.out 3).trans rfl
 have k4 := (blk_cell hbx.out 4).trans rfl
 have k5 := (blk_cell hbx.out 5).trans rfl
 have hl5 : Aside0 (w.heap.size + 1 < W0.heap.size) := ⟨by have := hl1.out; omega⟩
 have hp4 : 0 < n4 := by have h1 := (List.getElem?_eq_some_iff.1 hi).1; have h2 := hC4.1; omega
 obtain ⟨ad, B3, d3, B4, d4, B5, d5, rfl, he, g3, g4, g5, _, _, _⟩ := elem33 (Kd.C_below hC4 HB0.out) 0 hi
 rw [show ad.add (0 * 6) = ad by simp [Addr.add]] at he
 have he := Aside0.mk he
 have h3 := Aside0.mk g3
 have h4 := Aside0.mk g4
 have h5 := Aside0.mk g5
 clear g3 g4 g5 hC4
 have CW : ∀ w2, Below W0.heap.size W0 w2 → Calls Tryd.prog 53 #[.slice A3 n3 c3] w2 fun e w' => ∃ A1 c1, e = .returned (.slice A1 n3 c1) ∧ n3 ≤ c1 ∧ NL w' w2.heap.size A1 n3 ∧ Below w2.heap.size w2 w' := by
  intro w2 hb
  subst hns
  exact ws_calls ns w2 (by omega) (Kd.C_below (Kd.C_below hC3 HB0.out) hb)
 clear hC3
 go_enter Tryd.func37, Tryd.ntmps37
 go_wp2
 (try rw [hW0])
 clear hW0 k0 k1 k2 k3 k4 k5
 have HB_ : Below W0.heap.size W0 W0.drew := below_drew1 (Below.refl _ _)
 have hg9 := Aside0.mk (GG.below hg0.out HB_)
 refine start_ (n := 13) (S := fun w' => w'.cell? ⟨w.heap.size, 3, none⟩ = some (.slice A3 n3 c3) ∧ w'.cell? ⟨w.heap.size, 4, none⟩ = some (.slice (some ad) n4 c4) ∧ w'.cell? ad = some (.int .i64 x.f0) ∧ w'.cell? ⟨(ad).block, (ad).off + 1, none⟩ = some (.string x.f1) ∧ w'.cell? ⟨(ad).block, (ad).off + 2, none⟩ = some (.int .i64 x.f2) ∧ w'.cell? ⟨(ad).block, (ad).off + 3, none⟩ = some (.slice B3 x.f3.length d3) ∧ w'.cell? ⟨(ad).block, (ad).off + 4, none⟩ = some (.slice B4 x.f4.length d4) ∧ w'.cell? ⟨(ad).block, (ad).off + 5, none⟩ = some (.slice B5 x.f5.length d5)) (ds := [12]) (bm 13 0) (by kernel_rfl) rfl rfl ⟨(blk_cell (blk_below hbx.out HB_) 3).trans rfl, (blk_cell (blk_below hbx.out HB_) 4).trans rfl, (he.out.below HB_).1, (he.out.below HB_).2.1, (he.out.below HB_).2.2.1, (he.out.below HB_).2.2.2.1, (he.out.below HB_).2.2.2.2.1, (he.out.below HB_).2.2.2.2.2⟩ (fun hHeld => ?_)
 generalize W0.drew = W9 at *
 refine pure_ (i := 1) (N := some 27) (v := ?_) (a' := ?_) (bm 13 2) rfl rfl (by kernel_rfl) (fun _ _ _ h => h) (Or.inl ⟨by rfl, ?_⟩) ?_ ?_
 rotate_left
 ·intro w'
  go_simp
  with_reducible rfl
 rotate_left
 ·simp only [Act.put, sA, sB, sC, i64_w, i32_w]
  rfl
 refine pure_ (i := 5) (N := some 31) (v := ?_) (a' := ?_) (bm 13 34) rfl rfl (by kernel_rfl) (fun _ _ _ h => h) (Or.inl ⟨by rfl, ?_⟩) ?_ ?_
 rotate_left
 ·intro w'
  go_simp
  with_reducible rfl
 rotate_left
 ·simp only [Act.put, sA, sB, sC, i64_w, i32_w]
  rfl
 refine take_ (i := 2) (N := some 28) (v := ?_) (a' := ?_) (bm 13 38) rfl rfl (by kernel_rfl) (fun _ _ _ h => h) (Or.inl ⟨by rfl, ?_⟩) hHeld ?_ ?_
 rotate_left
 ·rintro w' ⟨s0, s1, s2, s3, s4, s5, s6, s7⟩
  go_simp
  with_reducible rfl
 rotate_left
 ·simp only [Act.put, sA, sB, sC, i64_w, i32_w]
  rfl
 refine take_ (i := 6) (N := some 32) (v := ?_) (a' := ?_) (bm 13 102) rfl rfl (by kernel_rfl) (fun _ _ _ h => h) (Or.inl ⟨by rfl, ?_⟩) hHeld ?_ ?_
 rotate_left
 ·rintro w' ⟨s0, s1, s2, s3, s4, s5, s6, s7⟩
  go_simp
  with_reducible rfl
 rotate_left
 ·simp only [Act.put, sA, sB, sC, i64_w, i32_w]
  rfl
 refine pure_ (i := 7) (N := some 33) (v := ?_) (a' := ?_) (bm 13 230) rfl rfl (by kernel_rfl) (fun _ _ _ h => h) (Or.inl ⟨by rfl, ?_⟩) ?_ ?_
 rotate_left
 ·intro w'
  go_simp
  with_reducible rfl
 rotate_left
 ·simp only [Act.put, sA, sB, sC, i64_w, i32_w]
  rfl
 refine take_ (i := 8) (N := some 34) (v := ?_) (a' := ?_) (bm 13 486) rfl rfl (by kernel_rfl) (fun _ _ _ h => h) (Or.inl ⟨by rfl, ?_⟩) hHeld ?_ ?_
 rotate_left
 ·rintro w' ⟨s0, s1, s2, s3, s4, s5, s6, s7⟩
  go_simp
  with_reducible rfl
 rotate_left
 ·simp only [Act.put, sA, sB, sC, i64_w, i32_w]
  rfl
 refine one_ (i := 0) (N := some 26) (bm 13 487) rfl rfl (by kernel_rfl) (by decide) (fun K hK => ?_)
 refine goes_ Tryd.func49 (by kernel_rfl) rfl #[.string ⟨#[102, 110]⟩] (by rfl) rfl rfl (by simp only [List.map_toArray, List.map_cons, List.map_nil]; rfl) ?_
 (with_reducible refine (w_calls _ W9).mono ?_)
 rintro e w2 ⟨rfl, hbq2⟩
 refine ⟨_, rfl, ?_⟩
 have HB2 := below_step HB_ hbq2
 refine hK.out _ _ ⟨(blk_cell (blk_below hbx.out HB2) 3).trans rfl, (blk_cell (blk_below hbx.out HB2) 4).trans rfl, (he.out.below HB2).1, (he.out.below HB2).2.1, (he.out.below HB2).2.2.1, (he.out.below HB2).2.2.2.1, (he.out.below HB2).2.2.2.2.1, (he.out.below HB2).2.2.2.2.2⟩ (fun hHeld => ?_)
 clear hK K
 refine norm_ (a' := ?_) ?_ ?_
 rotate_left
 ·show Act.put _ (some 26) _ = _
  simp only [Act.put, sA, sB, sC, i64_w, i32_w]
  rfl
 refine one_ (i := 3) (N := some 29) (bm 13 495) rfl rfl (by kernel_rfl) (by decide) (fun K hK => ?_)
 refine goes_ Tryd.func53 (by kernel_rfl) rfl #[.slice A3 n3 c3] (by rfl) rfl rfl (by simp only [List.map_toArray, List.map_cons, List.map_nil]; rfl) ?_
 (with_reducible refine (CW w2 HB2).mono ?_)
 rintro e w3 ⟨A1, c1, rfl, hc1, hn1, hbq3⟩
 refine ⟨_, rfl, ?_⟩
 have HB3 := below_step HB2 hbq3
 refine hK.out _ _ ⟨(blk_cell (blk_below hbx.out HB3) 3).trans rfl, (blk_cell (blk_below hbx.out HB3) 4).trans rfl, (he.out.below HB3).1, (he.out.below HB3).2.1, (he.out.below HB3).2.2.1, (he.out.below HB3).2.2.2.1, (he.out.below HB3).2.2.2.2.1, (he.out.below HB3).2.2.2.2.2⟩ (fun hHeld => ?_)
 clear hK K
 refine norm_ (a' := ?_) ?_ ?_
 rotate_left
 ·show Act.put _ (some 29) _ = _
  simp only [Act.put, sA, sB, sC, i64_w, i32_w]
  rfl
 refine one_ (i := 4) (N := some 30) (bm 13 511) rfl rfl (by kernel_rfl) (by decide) (fun K hK => ?_)
 refine goes_ Tryd.func52 (by kernel_rfl) rfl #[.slice A1 n3 c1] (by rfl) rfl rfl (by simp only [List.map_toArray, List.map_cons, List.map_nil]; rfl) ?_
 (with_reducible refine (l_calls _ _ _ _).mono ?_)
 rintro e w4 ⟨rfl, hbq4⟩
 refine ⟨_, rfl, ?_⟩
 have HB4 := below_step HB3 hbq4
 refine hK.out _ _ ⟨(blk_cell (blk_below hbx.out HB4) 3).trans rfl, (blk_cell (blk_below hbx.out HB4) 4).trans rfl, (he.out.below HB4).1, (he.out.below HB4).2.1, (he.out.below HB4).2.2.1, (he.out.below HB4).2.2.2.1, (he.out.below HB4).2.2.2.2.1, (he.out.below HB4).2.2.2.2.2⟩ (fun hHeld => ?_)
 clear hK K
 refine norm_ (a' := ?_) ?_ ?_
 rotate_left
 ·show Act.put _ (some 30) _ = _
  simp only [Act.put, sA, sB, sC, i64_w, i32_w]
  rfl
 refine one_ (i := 9) (N := some 35) (bm 13 1023) rfl rfl (by kernel_rfl) (by decide) (fun K hK => ?_)
 refine goes_ Tryd.func37 (by kernel_rfl) rfl #[.agg #[.int .i64 x.f0, .string x.f1, .int .i64 x.f2, .slice B3 x.f3.length d3, .slice B4 x.f4.length d4, .slice B5 x.f5.length d5]] (by rfl) rfl rfl (by simp only [List.map_toArray, List.map_cons, List.map_nil]; rfl) ?_
 (with_reducible refine (hx.at w4 (GG.below hg0.out HB4) (Kd.C_below h3.out HB4) (Kd.C_below h4.out HB4) (Kd.C_below h5.out HB4)).mono ?_)
 rintro e w5 ⟨s5, A5', n5', c5', rfl, hc5, hn5, hbq5⟩
 refine ⟨_, rfl, ?_⟩
 have HB5 := below_step HB4 hbq5
 refine hK.out _ _ ⟨(blk_cell (blk_below hbx.out HB5) 3).trans rfl, (blk_cell (blk_below hbx.out HB5) 4).trans rfl, (he.out.below HB5).1, (he.out.below HB5).2.1, (he.out.below HB5).2.2.1, (he.out.below HB5).2.2.2.1, (he.out.below HB5).2.2.2.2.1, (he.out.below HB5).2.2.2.2.2⟩ (fun hHeld => ?_)
 clear hK K
 refine norm_ (a' := ?_) ?_ ?_
 rotate_left
 ·show Act.put _ (some 35) _ = _
  simp only [Act.put, sA, sB, sC, i64_w, i32_w]
  rfl
 refine one_ (i := 10) (N := some 36) (bm 13 2047) rfl rfl (by kernel_rfl) (by decide) (fun K hK => ?_)
 refine value_ (w1 := ?_) (v := ?_) (by rfl) rfl ?_ ?_
 rotate_left 2
 ·go_simp
  constructor
  ·rfl
  ·rfl
 have HB6 := below_alloc HB5 (.cells #[.string ⟨#[102, 110]⟩, .slice none 0 0, .int .i64 0, .string ⟨#[]⟩, .slice A1 n3 c1, .int .i64 0, .string s5, .slice A5' n5' c5', .int .i64 0] 56)
 have hbk := blk_new w5 (.cells #[.string ⟨#[102, 110]⟩, .slice none 0 0, .int .i64 0, .string ⟨#[]⟩, .slice A1 n3 c1, .int .i64 0, .string s5, .slice A5' n5' c5', .int .i64 0] 56 (0, 0))
 refine hK.out _ _ ⟨(blk_cell (blk_below hbx.out HB6) 3).trans rfl, (blk_cell (blk_below hbx.out HB6) 4).trans rfl, (he.out.below HB6).1, (he.out.below HB6).2.1, (he.out.below HB6).2.2.1, (he.out.below HB6).2.2.2.1, (he.out.below HB6).2.2.2.2.1, (he.out.below HB6).2.2.2.2.2⟩ (fun hHeld => ?_)
 clear hK K
 refine norm_ (a' := ?_) ?_ ?_
 rotate_left
 ·show Act.put _ (some 36) _ = _
  simp only [Act.put, sA, sB, sC, i64_w, i32_w]
  rfl
 refine one_ (i := 11) (N := some 37) (bm 13 4095) rfl rfl (by kernel_rfl) (by decide) (fun K hK => ?_)
 refine goes_ Tryd.func52 (by kernel_rfl) rfl #[.slice (some ⟨w5.heap.size, 0, none⟩) 3 3] (by rfl) rfl rfl (by simp only [List.map_toArray, List.map_cons, List.map_nil]; rfl) ?_
 (with_reducible refine (l_calls _ _ _ _).mono ?_)
 rintro e w7 ⟨rfl, hbq7⟩
 refine ⟨_, rfl, ?_⟩
 have HB7 := below_step HB6 hbq7
 have hNL : NL w7 W0.heap.size (some ⟨w5.heap.size, 0, none⟩) 3 := NL.three (blk_below hbk hbq7) HB5.size (NL.nil _ _) (Nat.le_refl _) ((((((hn1.mono HB2.size).below hbq4).below hbq5).below (below_alloc (Below.refl _ _) _)).below hbq7)) hc1 (((hn5.mono HB4.size).below (below_alloc (Below.refl _ _) _)).below hbq7) hc5
 have hr1 := blk_below hrx.out HB7
 have j0 := (blk_cell hr1 0).trans rfl
 have j1 := (blk_cell hr1 1).trans rfl
 have j2 := (blk_cell hr1 2).trans rfl
 have z0 := blk_frozen hr1 0
 have z1 := blk_frozen hr1 1
 have z2 := blk_frozen hr1 2
 refine hK.out _ _ ⟨(blk_cell (blk_below hbx.out HB7) 3).trans rfl, (blk_cell (blk_below hbx.out HB7) 4).trans rfl, (he.out.below HB7).1, (he.out.below HB7).2.1, (he.out.below HB7).2.2.1, (he.out.below HB7).2.2.2.1, (he.out.below HB7).2.2.2.2.1, (he.out.below HB7).2.2.2.2.2⟩ (fun hHeld => ?_)
 clear hK K
 refine norm_ (a' := ?_) ?_ ?_
 rotate_left
 ·show Act.put _ (some 37) _ = _
  simp only [Act.put, sA, sB, sC, i64_w, i32_w]
  rfl
 refine last_ (i := 12) (N := none) (bm 13 8191) rfl rfl (by kernel_rfl) (by decide) (fun K hK => ?_)
 refine skip_ (w1 := ?_) (by rfl) rfl ?_ ?_
 rotate_left
 ·go_simp
  rfl
 refine hK.out _ _ ?_
 clear hK K
 refine done_ (by kernel_rfl) ?_
 clear hHeld
 go_wp2
 refine bodyPost_ret (v := .agg #[.string ⟨#[]⟩, .slice (some ⟨w5.heap.size, 0, none⟩) 3 3, .int .i64 0]) (by simp [results, Tryd.results37, go_sem, *]) rfl ⟨_, (some ⟨w5.heap.size, 0, none⟩), _, 3, rfl, Nat.le_refl _, ?_, ?_⟩
 ·exact ((((hNL).far (p := ⟨w.heap.size + 1, 0, none⟩) hl5.out _).far (p := ⟨w.heap.size + 1, 1, none⟩) hl5.out _).far (p := ⟨w.heap.size + 1, 2, none⟩) hl5.out _).mono (by have := hl5.out; omega)
 ·exact (((HB0.out.trans (HB7.mono HB0.out.size)).setCell (p := ⟨w.heap.size + 1, 0, none⟩) (Nat.le_succ _) _).setCell (p := ⟨w.heap.size + 1, 1, none⟩) (Nat.le_succ _) _).setCell (p := ⟨w.heap.size + 1, 2, none⟩) (Nat.le_succ _) _
set_option maxHeartbeats 8000000 in
set_option maxRecDepth 100000 in
theorem exprNode_rest (f0 : Int) (f1 : ByteArray) (f2 : Int) (w : World) (hg : GG w) {A3 A4 A5 : Option Addr} {n3 c3 n4 c4 n5 c5 : Nat} (hop : ∀ k : Int, k = 1 ∨ k = 2 ∨ k = 3 ∨ k = 4 ∨ k = 6 ∨ k = 7 ∨ k = 8 ∨ k = 10 → f0 ≠ k) (l : List S33) (hx : ∀ x ∈ l, XN x) (hl : l.length ≤ 100000000000) (hC4 : k33.C w A4 n4 l):
  Calls Tryd.prog 37 #[.agg #[.int .i64 f0, .string f1, .int .i64 f2, .slice A3 n3 c3, .slice A4 n4 c4, .slice A5 n5 c5]] w (ND w) := by
 have E : ∀ W : World, ∀ o : Obj, (W.alloc o).heap.size = W.heap.size + 1 := fun W o => Array.size_push _
 obtain ⟨W0, hW0⟩ : ∃ W0, (w.alloc (.cells #[.int .i64 f0, .string f1, .int .i64 f2, .slice A3 n3 c3, .slice A4 n4 c4, .slice A5 n5 c5] 33)).alloc (.cells #[.string ⟨#[]⟩, .slice none 0 0, .int .i64 0] 56) = W0 := ⟨_, rfl⟩
 have HB0 : Aside0 (Below w.heap.size w W0) := ⟨by rw [← hW0]; exact below_alloc (below_alloc (Below.refl _ _) _) _⟩
 have hbx : Aside0 (W0.heap[w.heap.size]? = some (.cells #[.int .i64 f0, .string f1, .int .i64 f2, .slice A3 n3 c3, .slice A4 n4 c4, .slice A5 n5 c5] 33 (0, 0))) := ⟨by rw [← hW0]; exact (Below.heap_alloc _ _ _ (by rw [E]; omega)).trans (blk_new w _)⟩
 have hrx : Aside0 (W0.heap[w.heap.size + 1]? = some (.cells #[.string ⟨#[]⟩, .slice none 0 0, .int .i64 0] 56 (0, 0))) := ⟨by rw [← hW0, ← E w]; exact blk_new _ _⟩
 have hl1 : Aside0 (W0.heap.size = w.heap.size + 2) := ⟨by rw [← hW0, E, E]⟩
 have hg0 := Aside0.mk (GG.below hg HB0.out)
 obtain ⟨b9, q9⟩ : ∃ b, (f0 == 9) = b := ⟨_, rfl⟩
 have q1 : (f0 == 1) = false := beq_eq_false_iff_ne.2 (hop 1 (by omega))
 have q2 : (f0 == 2) = false := beq_eq_false_iff_ne.2 (hop 2 (by omega))
 have q3 : (f0 == 3) = false := beq_eq_false_iff_ne.2 (hop 3 (by omega))
 have q4 : (f0 == 4) = false := beq_eq_false_iff_ne.2 (hop 4 (by omega))
 have q6 : (f0 == 6) = false := beq_eq_false_iff_ne.2 (hop 6 (by omega))
 have q7 : (f0 == 7) = false := beq_eq_false_iff_ne.2 (hop 7 (by omega))
 have q8 : (f0 == 8) = false := beq_eq_false_iff_ne.2 (hop 8 (by omega))
 have q10 : (f0 == 10) = false := beq_eq_false_iff_ne.2 (hop 10 (by omega))
 have hC := Aside0.mk (Kd.C_below hC4 HB0.out)
 have hn4 : Aside0 (l.length = n4) := ⟨hC4.1⟩
 clear hop hC4
 have k0 := (blk_cell hbx.out 0).trans rfl
 have k1 := (blk_cell hbx.out 1).trans rfl
 have k2 := (blk_cell hbx.out 2).trans rfl
 have k3 := (blk_cell hbx.out 3).trans rfl
 have k4 := (blk_cell hbx.out 4).trans rfl
 have k5 := (blk_cell hbx.out 5).trans rfl
 cases b9
 ·go_enter Tryd.func37, Tryd.ntmps37
  go_wp2_with (first | (go_at_call 52; (try rw [hW0]); go_loud (with_reducible refine (l_calls none 0 0 W0).mono ?_); rintro r w2 ⟨rfl, hb2⟩; have HB2 := Aside0.mk hb2; (have kk := (blk_cell (blk_below hbx.out (below_alloc hb2 (.cells #[.string ⟨#[]⟩, .slice none 0 0, .int .i64 0] 56))) 0).trans rfl); clear hb2 k0 k1 k2 k3 k4 k5))
  obtain ⟨xb, hxb⟩ : ∃ xb, w2.heap.size = xb := ⟨_, rfl⟩
  obtain ⟨Wx, hWx⟩ : ∃ Wx, w2.alloc (.cells #[.string ⟨#[]⟩, .slice none 0 0, .int .i64 0] 56) = Wx := ⟨_, rfl⟩
  have hBx : Aside0 (Below W0.heap.size W0 Wx) := ⟨by rw [← hWx]; exact below_alloc HB2.out _⟩
  have hXx : Aside0 (Wx.heap[xb]? = some (.cells #[.string ⟨#[]⟩, .slice none 0 0, .int .i64 0] 56 (0, 0))) := ⟨by rw [← hWx, ← hxb]; exact blk_new _ _⟩
  have hsx : Aside0 (xb + 1 ≤ Wx.heap.size ∧ W0.heap.size ≤ xb) := ⟨by have := HB2.out.size; rw [← hWx, E]; omega⟩
  have hrX : Aside0 (NR Wx (xb + 1) none none 0 0) := ⟨NR.nil _ _ _⟩
  rw [hxb, hWx]
  clear hWx hxb HB2 hW0
  have hn4 := hn4.out
  go_loopg [8] (n4 + 1) (fun kq v8 w' => ∃ (i m c : Nat) (A : Option Addr), v8 = .int .i64 (i : Int) ∧ i + kq = n4 + 1 ∧ 1 ≤ kq ∧ Aside0 (m ≤ i + 1) ∧ Aside0 (w'.heap[xb]? = some (.cells #[.string ⟨#[]⟩, .slice A m c, .int .i64 0] 56 (0, 0))) ∧ Aside0 (NR w' (xb + 1) none A m c) ∧ Aside0 (Below W0.heap.size W0 w') ∧ Aside0 (xb + 1 ≤ w'.heap.size ∧ W0.heap.size ≤ xb))
  case atStart => exact ⟨0, 0, 0, none, rfl, by omega, by omega, ⟨by omega⟩, hXx, hrX, hBx, hsx⟩
  case round =>
   obtain ⟨i, m, c, A, rfl, hi, hk, hm, hX, hr, hB, hs⟩ := hrel
   have hXb := hX
   have hrow := hr
   have hxs := hs
   have hBr := hB
   have hms : Aside0 (m ≤ 200000000000) := ⟨by have := hm.out; omega⟩
   have hgr := Aside0.mk (GG.below hg0.out hBr.out)
   clear hX hr hs hB
   have k4 := (blk_cell (blk_below hbx.out hBr.out) 4).trans rfl
   by_cases hlt : i < n4
   ·have hli : i < l.length := by omega
    have hxi : l[i]? = some l[i] := List.getElem?_eq_getElem hli
    have hx := hx _ (List.getElem_mem hli)
    generalize l[i] = x at hxi hx
    obtain ⟨ad, B3, d3, B4, d4, B5, d5, rfl, he, g3, g4, g5, _, _, _⟩ := elem33 (Kd.C_below hC.out hBr.out) i hxi
    have he := Aside0.mk he
    have h3 := Aside0.mk g3
    have h4 := Aside0.mk g4
    have h5 := Aside0.mk g5
    clear g3 g4 g5
    have p0 : (0 : Int) ≤ (i : Int) := by omega
    have p1 : (i : Int) < (n4 : Int) := by omega
    have q1 : decide ((i : Int) < (n4 : Int)) = true := decide_eq_true p1
    go_wp2
    have HB_ : Below wr.heap.size wr wr.drew := below_drew1 (Below.refl _ _)
    have hg9 := Aside0.mk (GG.below hgr.out HB_)
    refine start_ (n := 12) (S := fun w' => w'.cell? ⟨xb, 1, none⟩ = some (.slice A m c) ∧ w'.cell? ⟨w.heap.size, 4, none⟩ = some (.slice (some ad) n4 c4) ∧ w'.cell? (ad.add (i * 6)) = some (.int .i64 x.f0) ∧ w'.cell? ⟨((ad.add (i * 6))).block, ((ad.add (i * 6))).off + 1, none⟩ = some (.string x.f1) ∧ w'.cell? ⟨((ad.add (i * 6))).block, ((ad.add (i * 6))).off + 2, none⟩ = some (.int .i64 x.f2) ∧ w'.cell? ⟨((ad.add (i * 6))).block, ((ad.add (i * 6))).off + 3, none⟩ = some (.slice B3 x.f3.length d3) ∧ w'.cell? ⟨((ad.add (i * 6))).block, ((ad.add (i * 6))).off + 4, none⟩ = some (.slice B4 x.f4.length d4) ∧ w'.cell? ⟨((ad.add (i * 6))).block, ((ad.add (i * 6))).off + 5, none⟩ = some (.slice B5 x.f5.length d5)) (ds := [9, 11]) (bm 12 0) (by kernel_rfl) rfl rfl ⟨(blk_cell (blk_below hXb.out HB_) 1).trans rfl, (blk_cell (blk_below (blk_below hbx.out hBr.out) HB_) 4).trans rfl, (he.out.below HB_).1, (he.out.below HB_).2.1, (he.out.below HB_).2.2.1, (he.out.below HB_).2.2.2.1, (he.out.below HB_).2.2.2.2.1, (he.out.below HB_).2.2.2.2.2⟩ (fun hHeld => ?_)
    generalize wr.drew = W9 at *
    refine pure_ (i := 0) (N := some 152) (v := ?_) (a' := ?_) (bm 12 1) rfl rfl (by kernel_rfl) (fun _ _ _ h => h) (Or.inl ⟨by rfl, ?_⟩) ?_ ?_
    rotate_left
    ·intro w'
     go_simp
     with_reducible rfl
    rotate_left
    ·simp only [Act.put, sA, sB, sC, i64_w, i32_w]
     rfl
    refine pure_ (i := 2) (N := some 154) (v := ?_) (a' := ?_) (bm 12 5) rfl rfl (by kernel_rfl) (fun _ _ _ h => h) (Or.inl ⟨by rfl, ?_⟩) ?_ ?_
    rotate_left
    ·intro w'
     go_simp
     with_reducible rfl
    rotate_left
    ·simp only [Act.put, sA, sB, sC, i64_w, i32_w]
     rfl
    refine pure_ (i := 4) (N := some 156) (v := ?_) (a' := ?_) (bm 12 21) rfl rfl (by kernel_rfl) (fun _ _ _ h => h) (Or.inl ⟨by rfl, ?_⟩) ?_ ?_
    rotate_left
    ·intro w'
     go_simp
     with_reducible rfl
    rotate_left
    ·simp only [Act.put, sA, sB, sC, i64_w, i32_w]
     rfl
    refine take_ (i := 1) (N := some 153) (v := ?_) (a' := ?_) (bm 12 23) rfl rfl (by kernel_rfl) (fun _ _ _ h => h) (Or.inl ⟨by rfl, ?_⟩) hHeld ?_ ?_
    rotate_left
    ·rintro w' ⟨s0, s1, s2, s3, s4, s5, s6, s7⟩
     go_simp
     with_reducible rfl
    rotate_left
    ·simp only [Act.put, sA, sB, sC, i64_w, i32_w]
     rfl
    refine take_ (i := 3) (N := some 155) (v := ?_) (a' := ?_) (bm 12 31) rfl rfl (by kernel_rfl) (fun _ _ _ h => h) (Or.inl ⟨by rfl, ?_⟩) hHeld ?_ ?_
    rotate_left
    ·rintro w' ⟨s0, s1, s2, s3, s4, s5, s6, s7⟩
     go_simp
     with_reducible rfl
    rotate_left
    ·simp only [Act.put, sA, sB, sC, i64_w, i32_w]
     rfl
    refine pure_ (i := 5) (N := some 157) (v := ?_) (a' := ?_) (bm 12 63) rfl rfl (by kernel_rfl) (fun _ _ _ h => h) (Or.inl ⟨by rfl, ?_⟩) ?_ ?_
    rotate_left
    ·intro w'
     go_simp
     with_reducible rfl
    rotate_left
    ·simp only [Act.put, sA, sB, sC, i64_w, i32_w]
     rfl
    refine take_ (i := 6) (N := some 158) (v := ?_) (a' := ?_) (bm 12 127) rfl rfl (by kernel_rfl) (fun _ _ _ h => h) (Or.inl ⟨by rfl, ?_⟩) hHeld ?_ ?_
    rotate_left
    ·rintro w' ⟨s0, s1, s2, s3, s4, s5, s6, s7⟩
     go_simp
     with_reducible rfl
    rotate_left
    ·simp only [Act.put, sA, sB, sC, i64_w, i32_w]
     rfl
    refine one_ (i := 7) (N := some 159) (bm 12 255) rfl rfl (by kernel_rfl) (by decide) (fun K hK => ?_)
    refine goes_ Tryd.func37 (by kernel_rfl) rfl #[.agg #[.int .i64 x.f0, .string x.f1, .int .i64 x.f2, .slice B3 x.f3.length d3, .slice B4 x.f4.length d4, .slice B5 x.f5.length d5]] (by rfl) rfl rfl (by simp only [List.map_toArray, List.map_cons, List.map_nil]; rfl) ?_
    (with_reducible refine (hx.at W9 (GG.below hgr.out HB_) (Kd.C_below h3.out HB_) (Kd.C_below h4.out HB_) (Kd.C_below h5.out HB_)).mono ?_)
    rintro e w5 ⟨s5, A5', n5', c5', rfl, hc5, hn5, hbq5⟩
    refine ⟨_, rfl, ?_⟩
    have HB5 := below_step HB_ hbq5
    refine hK.out _ _ ⟨(blk_cell (blk_below hXb.out HB5) 1).trans rfl, (blk_cell (blk_below (blk_below hbx.out hBr.out) HB5) 4).trans rfl, (he.out.below HB5).1, (he.out.below HB5).2.1, (he.out.below HB5).2.2.1, (he.out.below HB5).2.2.2.1, (he.out.below HB5).2.2.2.2.1, (he.out.below HB5).2.2.2.2.2⟩ (fun hHeld => ?_)
    clear hK K
    refine norm_ (a' := ?_) ?_ ?_
    rotate_left
    ·show Act.put _ (some 159) _ = _
     simp only [Act.put, sA, sB, sC, i64_w, i32_w]
     rfl
    refine one_ (i := 8) (N := some 160) (bm 12 511) rfl rfl (by kernel_rfl) (by decide) (fun K hK => ?_)
    refine value_ (w1 := ?_) (v := ?_) (by rfl) rfl ?_ ?_
    rotate_left 2
    ·go_simp
     constructor
     ·rfl
     ·rfl
    have HBb := below_alloc HB5 (.cells #[.string s5, .slice A5' n5' c5', .int .i64 0] 56)
    refine hK.out _ _ ⟨(blk_cell (blk_below hXb.out HBb) 1).trans rfl, (blk_cell (blk_below (blk_below hbx.out hBr.out) HBb) 4).trans rfl, (he.out.below HBb).1, (he.out.below HBb).2.1, (he.out.below HBb).2.2.1, (he.out.below HBb).2.2.2.1, (he.out.below HBb).2.2.2.2.1, (he.out.below HBb).2.2.2.2.2⟩ (fun hHeld => ?_)
    clear hK K
    refine norm_ (a' := ?_) ?_ ?_
    rotate_left
    ·show Act.put _ (some 160) _ = _
     simp only [Act.put, sA, sB, sC, i64_w, i32_w]
     rfl
    refine last_ (i := 9) (N := some 161) (bm 12 1023) rfl rfl (by kernel_rfl) (by decide) (fun K hK => ?_)
    refine app_step (w0 := w5) (xb + 1) (by rfl) (.tmp 153) (.tmp 160) rfl (A := A) (x0 := Option.none) (n := m) (c := c) (s1 := s5) (A1 := A5') (n1 := n5') (c1 := c5') (q := W9.heap.size) rfl rfl (NR.below hrow.out HB5) hn5 hc5 ?_ ?_ (fun y hy => by cases hy) (Below.refl _ _) ?_ ?_ ?_
    ·intro k hk; have h1 := NR.lt hrow.out k hk; have h2 := HB_.size; omega
    ·have h1 := hxs.out; have h2 := HB_.size; omega
    ·have h1 := hxs.out; have h2 := HB5.size; omega
    ·have h1 := hms.out; omega
    intro A6 c6 w6 hr6 hb6 hg6
    clear hg6
    have hx6 := (hb6.block xb (Nat.lt_succ_self _)).trans (blk_below hXb.out HB5)
    have hcz := (blk_cell hx6 1).trans rfl
    have hfz := blk_frozen hx6 1
    refine hK.out _ _ ?_
    clear hK K
    refine norm_ (a' := ?_) ?_ ?_
    rotate_left
    ·show Act.put _ (some 161) _ = _
     simp only [Act.put, sA, sB, sC, i64_w, i32_w]
     rfl
    refine pure_ (i := 10) (N := some 162) (v := ?_) (a' := ?_) (bm 12 2047) rfl rfl (by kernel_rfl) (fun _ _ _ h => h) (Or.inl ⟨by rfl, ?_⟩) ?_ ?_
    rotate_left
    ·intro w'
     go_simp
     with_reducible rfl
    rotate_left
    ·simp only [Act.put, sA, sB, sC, i64_w, i32_w]
     rfl
    refine last_ (i := 11) (N := none) (bm 12 4095) rfl rfl (by kernel_rfl) (by decide) (fun K hK => ?_)
    refine skip_ (w1 := ?_) (by rfl) rfl ?_ ?_
    rotate_left
    ·go_simp
     rfl
    refine hK.out _ _ ?_
    clear hK K
    refine done_ (by kernel_rfl) ?_
    obtain ⟨W7, hW7⟩ : ∃ W7, w6.setCell ⟨xb, 1, none⟩ (.slice A6 (m + 1) c6) = W7 := ⟨_, rfl⟩
    have hX7 : Aside0 (W7.heap[xb]? = some (.cells #[.string ⟨#[]⟩, .slice A6 (m + 1) c6, .int .i64 0] 56 (0, 0))) := ⟨by rw [← hW7]; exact blk_put hx6 1 _ rfl⟩
    have hr7 : Aside0 (NR W7 (xb + 1) none A6 (m + 1) c6) := ⟨by rw [← hW7]; exact NR.far hr6 (.inl (Nat.lt_succ_self _)) _⟩
    have hB7 : Aside0 (Below W0.heap.size W0 W7) := ⟨by rw [← hW7]; exact ((hBr.out.trans (HB5.mono hBr.out.size)).trans (hb6.mono (by have h1 := hxs.out; omega))).setCell (p := ⟨xb, 1, none⟩) (by have h1 := hxs.out; show W0.heap.size ≤ xb; omega) _⟩
    have hs7 : Aside0 (xb + 1 ≤ W7.heap.size ∧ W0.heap.size ≤ xb) := ⟨by have h1 := (Array.getElem?_eq_some_iff.1 hX7.out).1; have h2 := hxs.out; omega⟩
    rw [hW7]
    clear hHeld
    have hjn : Value.int .i64 (wrap64 ((i : Int) + 1)) = .int .i64 ((i + 1 : Nat) : Int) := by rw [show wrap64 ((i : Int) + 1) = (i : Int) + 1 by unfold wrap64; omega]; rfl
    have hi7 : i + 1 + (gk - 1) = n4 + 1 ∧ 1 ≤ gk - 1 ∧ gk - 1 < gk := by omega
    have hm7 : Aside0 (m + 1 ≤ i + 1 + 1) := ⟨by have := hm.out; omega⟩
    clear q1 p0 p1
    go_wp2
    go_roundg (gk - 1)
    case measure => exact hi7.2.2
    case rel => exact ⟨i + 1, m + 1, c6, A6, by first | exact hjn | rfl, hi7.1, hi7.2.1, hm7, hX7, hr7, hB7, hs7⟩
   ·have q1 : decide ((i : Int) < (n4 : Int)) = false := decide_eq_false (by omega)
    have x0 := (blk_cell hXb.out 0).trans rfl
    have x1 := (blk_cell hXb.out 1).trans rfl
    have x2 := (blk_cell hXb.out 2).trans rfl
    have hr1 := blk_below hrx.out hBr.out
    have j0 := (blk_cell hr1 0).trans rfl
    have j1 := (blk_cell hr1 1).trans rfl
    have j2 := (blk_cell hr1 2).trans rfl
    have z0 := blk_frozen hr1 0
    have z1 := blk_frozen hr1 1
    have z2 := blk_frozen hr1 2
    have hl5 : Aside0 (w.heap.size + 1 < xb + 1 ∧ w.heap.size ≤ xb + 1) := ⟨by have h1 := hl1.out; have h2 := hxs.out; omega⟩
    go_wp2
    refine bodyPost_ret (v := .agg #[.string ⟨#[]⟩, .slice A m c, .int .i64 0]) (by simp [results, Tryd.results37, go_sem, *]) rfl ⟨_, A, _, c, rfl, hrow.out.list.2, ?_, ?_⟩
    ·exact ((((hrow.out.list.1).far (p := ⟨w.heap.size + 1, 0, none⟩) (.inl hl5.out.1) _).far (p := ⟨w.heap.size + 1, 1, none⟩) (.inl hl5.out.1) _).far (p := ⟨w.heap.size + 1, 2, none⟩) (.inl hl5.out.1) _).list.mono hl5.out.2
    ·exact (((HB0.out.trans (hBr.out.mono HB0.out.size)).setCell (p := ⟨w.heap.size + 1, 0, none⟩) (Nat.le_succ _) _).setCell (p := ⟨w.heap.size + 1, 1, none⟩) (Nat.le_succ _) _).setCell (p := ⟨w.heap.size + 1, 2, none⟩) (Nat.le_succ _) _
 ·go_enter Tryd.func37, Tryd.ntmps37
  go_wp2_with (first | (go_at_call 52; (try rw [hW0]); go_loud (with_reducible refine (l_calls none 0 0 W0).mono ?_); rintro r w2 ⟨rfl, hb2⟩; have HB2 := Aside0.mk hb2; (have kk := (blk_cell (blk_below hbx.out (below_alloc hb2 (.cells #[.string ⟨#[]⟩, .slice none 0 0, .int .i64 0] 56))) 0).trans rfl); clear hb2 k0 k1 k2 k3 k4 k5))
  obtain ⟨xb, hxb⟩ : ∃ xb, w2.heap.size = xb := ⟨_, rfl⟩
  obtain ⟨Wx, hWx⟩ : ∃ Wx, w2.alloc (.cells #[.string ⟨#[]⟩, .slice none 0 0, .int .i64 0] 56) = Wx := ⟨_, rfl⟩
  have hBx : Aside0 (Below W0.heap.size W0 Wx) := ⟨by rw [← hWx]; exact below_alloc HB2.out _⟩
  have hXx : Aside0 (Wx.heap[xb]? = some (.cells #[.string ⟨#[]⟩, .slice none 0 0, .int .i64 0] 56 (0, 0))) := ⟨by rw [← hWx, ← hxb]; exact blk_new _ _⟩
  have hsx : Aside0 (xb + 1 ≤ Wx.heap.size ∧ W0.heap.size ≤ xb) := ⟨by have := HB2.out.size; rw [← hWx, E]; omega⟩
  have hrX : Aside0 (NR Wx (xb + 1) none none 0 0) := ⟨NR.nil _ _ _⟩
  rw [hxb, hWx]
  clear hWx hxb HB2 hW0
  have hXb := hXx
  have hrow := hrX
  have hxs := hsx
  have hBr := hBx
  have hms : Aside0 (0 ≤ 200000000000) := ⟨by omega⟩
  have hgr := Aside0.mk (GG.below hg0.out hBr.out)
  have HB_ : Below Wx.heap.size Wx Wx.drew := below_drew1 (Below.refl _ _)
  have hg9 := Aside0.mk (GG.below hgr.out HB_)
  refine start_ (n := 9) (S := fun w' => w'.cell? ⟨xb, 1, none⟩ = some (.slice none 0 0) ∧ w'.cell? ⟨w.heap.size, 1, none⟩ = some (.string f1)) (ds := [6, 8]) (bm 9 0) (by kernel_rfl) rfl rfl ⟨(blk_cell (blk_below hXb.out HB_) 1).trans rfl, (blk_cell (blk_below (blk_below hbx.out hBr.out) HB_) 1).trans rfl⟩ (fun hHeld => ?_)
  generalize Wx.drew = W9 at *
  refine pure_ (i := 0) (N := some 137) (v := ?_) (a' := ?_) (bm 9 1) rfl rfl (by kernel_rfl) (fun _ _ _ h => h) (Or.inl ⟨by rfl, ?_⟩) ?_ ?_
  rotate_left
  ·intro w'
   go_simp
   with_reducible rfl
  rotate_left
  ·simp only [Act.put, sA, sB, sC, i64_w, i32_w]
   rfl
  refine pure_ (i := 2) (N := some 139) (v := ?_) (a' := ?_) (bm 9 5) rfl rfl (by kernel_rfl) (fun _ _ _ h => h) (Or.inl ⟨by rfl, ?_⟩) ?_ ?_
  rotate_left
  ·intro w'
   go_simp
   with_reducible rfl
  rotate_left
  ·simp only [Act.put, sA, sB, sC, i64_w, i32_w]
   rfl
  refine take_ (i := 1) (N := some 138) (v := ?_) (a' := ?_) (bm 9 7) rfl rfl (by kernel_rfl) (fun _ _ _ h => h) (Or.inl ⟨by rfl, ?_⟩) hHeld ?_ ?_
  rotate_left
  ·rintro w' ⟨s0, s1⟩
   go_simp
   with_reducible rfl
  rotate_left
  ·simp only [Act.put, sA, sB, sC, i64_w, i32_w]
   rfl
  refine take_ (i := 3) (N := some 140) (v := ?_) (a' := ?_) (bm 9 15) rfl rfl (by kernel_rfl) (fun _ _ _ h => h) (Or.inl ⟨by rfl, ?_⟩) hHeld ?_ ?_
  rotate_left
  ·rintro w' ⟨s0, s1⟩
   go_simp
   with_reducible rfl
  rotate_left
  ·simp only [Act.put, sA, sB, sC, i64_w, i32_w]
   rfl
  refine one_ (i := 4) (N := some 141) (bm 9 31) rfl rfl (by kernel_rfl) (by decide) (fun K hK => ?_)
  refine goes_ Tryd.func49 (by kernel_rfl) rfl #[.string f1] (by rfl) rfl rfl (by simp only [List.map_toArray, List.map_cons, List.map_nil]; rfl) ?_
  (with_reducible refine (w_calls f1 W9).mono ?_)
  rintro e w5 ⟨rfl, hbq5⟩
  refine ⟨_, rfl, ?_⟩
  have HB5 := below_step HB_ hbq5
  refine hK.out _ _ ⟨(blk_cell (blk_below hXb.out HB5) 1).trans rfl, (blk_cell (blk_below (blk_below hbx.out hBr.out) HB5) 1).trans rfl⟩ (fun hHeld => ?_)
  clear hK K
  refine norm_ (a' := ?_) ?_ ?_
  rotate_left
  ·show Act.put _ (some 141) _ = _
   simp only [Act.put, sA, sB, sC, i64_w, i32_w]
   rfl
  refine one_ (i := 5) (N := some 142) (bm 9 63) rfl rfl (by kernel_rfl) (by decide) (fun K hK => ?_)
  refine value_ (w1 := ?_) (v := ?_) (by rfl) rfl ?_ ?_
  rotate_left 2
  ·go_simp
   constructor
   ·rfl
   ·rfl
  have HBb := below_alloc HB5 (.cells #[.string f1, .slice none 0 0, .int .i64 0] 56)
  refine hK.out _ _ ⟨(blk_cell (blk_below hXb.out HBb) 1).trans rfl, (blk_cell (blk_below (blk_below hbx.out hBr.out) HBb) 1).trans rfl⟩ (fun hHeld => ?_)
  clear hK K
  refine norm_ (a' := ?_) ?_ ?_
  rotate_left
  ·show Act.put _ (some 142) _ = _
   simp only [Act.put, sA, sB, sC, i64_w, i32_w]
   rfl
  refine last_ (i := 6) (N := some 143) (bm 9 127) rfl rfl (by kernel_rfl) (by decide) (fun K hK => ?_)
  refine app_step (w0 := w5) (xb + 1) (by rfl) (.tmp 138) (.tmp 142) rfl (A := none) (x0 := Option.none) (n := 0) (c := 0) (s1 := f1) (A1 := none) (n1 := 0) (c1 := 0) (q := W9.heap.size) rfl rfl (NR.below hrow.out HB5) (NL.nil _ _) (Nat.le_refl _) ?_ ?_ (fun y hy => by cases hy) (Below.refl _ _) ?_ ?_ ?_
  ·intro k hk; have h1 := NR.lt hrow.out k hk; have h2 := HB_.size; omega
  ·have h1 := hxs.out; have h2 := HB_.size; omega
  ·have h1 := hxs.out; have h2 := HB5.size; omega
  ·have h1 := hms.out; omega
  intro A6 c6 w6 hr6 hb6 hg6
  clear hg6
  have hx6 := (hb6.block xb (Nat.lt_succ_self _)).trans (blk_below hXb.out HB5)
  have hcz := (blk_cell hx6 1).trans rfl
  have hfz := blk_frozen hx6 1
  refine hK.out _ _ ?_
  clear hK K
  refine norm_ (a' := ?_) ?_ ?_
  rotate_left
  ·show Act.put _ (some 143) _ = _
   simp only [Act.put, sA, sB, sC, i64_w, i32_w]
   rfl
  refine pure_ (i := 7) (N := some 144) (v := ?_) (a' := ?_) (bm 9 255) rfl rfl (by kernel_rfl) (fun _ _ _ h => h) (Or.inl ⟨by rfl, ?_⟩) ?_ ?_
  rotate_left
  ·intro w'
   go_simp
   with_reducible rfl
  rotate_left
  ·simp only [Act.put, sA, sB, sC, i64_w, i32_w]
   rfl
  refine last_ (i := 8) (N := none) (bm 9 511) rfl rfl (by kernel_rfl) (by decide) (fun K hK => ?_)
  refine skip_ (w1 := ?_) (by rfl) rfl ?_ ?_
  rotate_left
  ·go_simp
   rfl
  refine hK.out _ _ ?_
  clear hK K
  refine done_ (by kernel_rfl) ?_
  obtain ⟨W7, hW7⟩ : ∃ W7, w6.setCell ⟨xb, 1, none⟩ (.slice A6 (0 + 1) c6) = W7 := ⟨_, rfl⟩
  have hX7 : Aside0 (W7.heap[xb]? = some (.cells #[.string ⟨#[]⟩, .slice A6 (0 + 1) c6, .int .i64 0] 56 (0, 0))) := ⟨by rw [← hW7]; exact blk_put hx6 1 _ rfl⟩
  have hr7 : Aside0 (NR W7 (xb + 1) none A6 (0 + 1) c6) := ⟨by rw [← hW7]; exact NR.far hr6 (.inl (Nat.lt_succ_self _)) _⟩
  have hB7 : Aside0 (Below W0.heap.size W0 W7) := ⟨by rw [← hW7]; exact ((hBr.out.trans (HB5.mono hBr.out.size)).trans (hb6.mono (by have h1 := hxs.out; omega))).setCell (p := ⟨xb, 1, none⟩) (by have h1 := hxs.out; show W0.heap.size ≤ xb; omega) _⟩
  have hs7 : Aside0 (xb + 1 ≤ W7.heap.size ∧ W0.heap.size ≤ xb) := ⟨by have h1 := (Array.getElem?_eq_some_iff.1 hX7.out).1; have h2 := hxs.out; omega⟩
  rw [hW7]
  clear hHeld hXb hrow hxs hBr hms hgr hXx hrX hsx hBx
  have k4 := (blk_cell (blk_below hbx.out hB7.out) 4).trans rfl
  go_wp2
  have hXx := hX7
  have hrX := hr7
  have hBx := hB7
  have hsx := hs7
  clear hX7 hr7 hB7 hs7
  have hn4 := hn4.out
  go_loopg [8] (n4 + 1) (fun kq v8 w' => ∃ (i m c : Nat) (A : Option Addr), v8 = .int .i64 (i : Int) ∧ i + kq = n4 + 1 ∧ 1 ≤ kq ∧ Aside0 (m ≤ i + 1) ∧ Aside0 (w'.heap[xb]? = some (.cells #[.string ⟨#[]⟩, .slice A m c, .int .i64 0] 56 (0, 0))) ∧ Aside0 (NR w' (xb + 1) none A m c) ∧ Aside0 (Below W0.heap.size W0 w') ∧ Aside0 (xb + 1 ≤ w'.heap.size ∧ W0.heap.size ≤ xb))
  case atStart => exact ⟨0, 0 + 1, c6, A6, rfl, by omega, by omega, ⟨by omega⟩, hXx, hrX, hBx, hsx⟩
  case round =>
   obtain ⟨i, m, c, A, rfl, hi, hk, hm, hX, hr, hB, hs⟩ := hrel
   have hXb := hX
   have hrow := hr
   have hxs := hs
   have hBr := hB
   have hms : Aside0 (m ≤ 200000000000) := ⟨by have := hm.out; omega⟩
   have hgr := Aside0.mk (GG.below hg0.out hBr.out)
   clear hX hr hs hB
   have k4 := (blk_cell (blk_below hbx.out hBr.out) 4).trans rfl
   by_cases hlt : i < n4
   ·have hli : i < l.length := by omega
    have hxi : l[i]? = some l[i] := List.getElem?_eq_getElem hli
    have hx := hx _ (List.getElem_mem hli)
    generalize l[i] = x at hxi hx
    obtain ⟨ad, B3, d3, B4, d4, B5, d5, rfl, he, g3, g4, g5, _, _, _⟩ := elem33 (Kd.C_below hC.out hBr.out) i hxi
    have he := Aside0.mk he
    have h3 := Aside0.mk g3
    have h4 := Aside0.mk g4
    have h5 := Aside0.mk g5
    clear g3 g4 g5
    have p0 : (0 : Int) ≤ (i : Int) := by omega
    have p1 : (i : Int) < (n4 : Int) := by omega
    have q1 : decide ((i : Int) < (n4 : Int)) = true := decide_eq_true p1
    go_wp2
    have HB_ : Below wr.heap.size wr wr.drew := below_drew1 (Below.refl _ _)
    have hg9 := Aside0.mk (GG.below hgr.out HB_)
    refine start_ (n := 12) (S := fun w' => w'.cell? ⟨xb, 1, none⟩ = some (.slice A m c) ∧ w'.cell? ⟨w.heap.size, 4, none⟩ = some (.slice (some ad) n4 c4) ∧ w'.cell? (ad.add (i * 6)) = some (.int .i64 x.f0) ∧ w'.cell? ⟨((ad.add (i * 6))).block, ((ad.add (i * 6))).off + 1, none⟩ = some (.string x.f1) ∧ w'.cell? ⟨((ad.add (i * 6))).block, ((ad.add (i * 6))).off + 2, none⟩ = some (.int .i64 x.f2) ∧ w'.cell? ⟨((ad.add (i * 6))).block, ((ad.add (i * 6))).off + 3, none⟩ = some (.slice B3 x.f3.length d3) ∧ w'.cell? ⟨((ad.add (i * 6))).block, ((ad.add (i * 6))).off + 4, none⟩ = some (.slice B4 x.f4.length d4) ∧ w'.cell? ⟨((ad.add (i * 6))).block, ((ad.add (i * 6))).off + 5, none⟩ = some (.slice B5 x.f5.length d5)) (ds := [9, 11]) (bm 12 0) (by kernel_rfl) rfl rfl ⟨(blk_cell (blk_below hXb.out HB_) 1).trans rfl, (blk_cell (blk_below (blk_below hbx.out hBr.out) HB_) 4).trans rfl, (he.out.below HB_).1, (he.out.below HB_).2.1, (he.out.below HB_).2.2.1, (he.out.below HB_).2.2.2.1, (he.out.below HB_).2.2.2.2.1, (he.out.below HB_).2.2.2.2.2⟩ (fun hHeld => ?_)
    generalize wr.drew = W9 at *
    refine pure_ (i := 0) (N := some 152) (v := ?_) (a' := ?_) (bm 12 1) rfl rfl (by kernel_rfl) (fun _ _ _ h => h) (Or.inl ⟨by rfl, ?_⟩) ?_ ?_
    rotate_left
    ·intro w'
     go_simp
     with_reducible rfl
    rotate_left
    ·simp only [Act.put, sA, sB, sC, i64_w, i32_w]
     rfl
    refine pure_ (i := 2) (N := some 154) (v := ?_) (a' := ?_) (bm 12 5) rfl rfl (by kernel_rfl) (fun _ _ _ h => h) (Or.inl ⟨by rfl, ?_⟩) ?_ ?_
    rotate_left
    ·intro w'
     go_simp
     with_reducible rfl
    rotate_left
    ·simp only [Act.put, sA, sB, sC, i64_w, i32_w]
     rfl
    refine pure_ (i := 4) (N := some 156) (v := ?_) (a' := ?_) (bm 12 21) rfl rfl (by kernel_rfl) (fun _ _ _ h => h) (Or.inl ⟨by rfl, ?_⟩) ?_ ?_
    rotate_left
    ·intro w'
     go_simp
     with_reducible rfl
    rotate_left
    ·simp only [Act.put, sA, sB, sC, i64_w, i32_w]
     rfl
    refine take_ (i := 1) (N := some 153) (v := ?_) (a' := ?_) (bm 12 23) rfl rfl (by kernel_rfl) (fun _ _ _ h => h) (Or.inl ⟨by rfl, ?_⟩) hHeld ?_ ?_
    rotate_left
    ·rintro w' ⟨s0, s1, s2, s3, s4, s5, s6, s7⟩
     go_simp
     with_reducible rfl
    rotate_left
    ·simp only [Act.put, sA, sB, sC, i64_w, i32_w]
     rfl
    refine take_ (i := 3) (N := some 155) (v := ?_) (a' := ?_) (bm 12 31) rfl rfl (by kernel_rfl) (fun _ _ _ h => h) (Or.inl ⟨by rfl, ?_⟩) hHeld ?_ ?_
    rotate_left
    ·rintro w' ⟨s0, s1, s2, s3, s4, s5, s6, s7⟩
     go_simp
     with_reducible rfl
    rotate_left
    ·simp only [Act.put, sA, sB, sC, i64_w, i32_w]
     rfl
    refine pure_ (i := 5) (N := some 157) (v := ?_) (a' := ?_) (bm 12 63) rfl rfl (by kernel_rfl) (fun _ _ _ h => h) (Or.inl ⟨by rfl, ?_⟩) ?_ ?_
    rotate_left
    ·intro w'
     go_simp
     with_reducible rfl
    rotate_left
    ·simp only [Act.put, sA, sB, sC, i64_w, i32_w]
     rfl
    refine take_ (i := 6) (N := some 158) (v := ?_) (a' := ?_) (bm 12 127) rfl rfl (by kernel_rfl) (fun _ _ _ h => h) (Or.inl ⟨by rfl, ?_⟩) hHeld ?_ ?_
    rotate_left
    ·rintro w' ⟨s0, s1, s2, s3, s4, s5, s6, s7⟩
     go_simp
     with_reducible rfl
    rotate_left
    ·simp only [Act.put, sA, sB, sC, i64_w, i32_w]
     rfl
    refine one_ (i := 7) (N := some 159) (bm 12 255) rfl rfl (by kernel_rfl) (by decide) (fun K hK => ?_)
    refine goes_ Tryd.func37 (by kernel_rfl) rfl #[.agg #[.int .i64 x.f0, .string x.f1, .int .i64 x.f2, .slice B3 x.f3.length d3, .slice B4 x.f4.length d4, .slice B5 x.f5.length d5]] (by rfl) rfl rfl (by simp only [List.map_toArray, List.map_cons, List.map_nil]; rfl) ?_
    (with_reducible refine (hx.at W9 (GG.below hgr.out HB_) (Kd.C_below h3.out HB_) (Kd.C_below h4.out HB_) (Kd.C_below h5.out HB_)).mono ?_)
    rintro e w5 ⟨s5, A5', n5', c5', rfl, hc5, hn5, hbq5⟩
    refine ⟨_, rfl, ?_⟩
    have HB5 := below_step HB_ hbq5
    refine hK.out _ _ ⟨(blk_cell (blk_below hXb.out HB5) 1).trans rfl, (blk_cell (blk_below (blk_below hbx.out hBr.out) HB5) 4).trans rfl, (he.out.below HB5).1, (he.out.below HB5).2.1, (he.out.below HB5).2.2.1, (he.out.below HB5).2.2.2.1, (he.out.below HB5).2.2.2.2.1, (he.out.below HB5).2.2.2.2.2⟩ (fun hHeld => ?_)
    clear hK K
    refine norm_ (a' := ?_) ?_ ?_
    rotate_left
    ·show Act.put _ (some 159) _ = _
     simp only [Act.put, sA, sB, sC, i64_w, i32_w]
     rfl
    refine one_ (i := 8) (N := some 160) (bm 12 511) rfl rfl (by kernel_rfl) (by decide) (fun K hK => ?_)
    refine value_ (w1 := ?_) (v := ?_) (by rfl) rfl ?_ ?_
    rotate_left 2
    ·go_simp
     constructor
     ·rfl
     ·rfl
    have HBb := below_alloc HB5 (.cells #[.string s5, .slice A5' n5' c5', .int .i64 0] 56)
    refine hK.out _ _ ⟨(blk_cell (blk_below hXb.out HBb) 1).trans rfl, (blk_cell (blk_below (blk_below hbx.out hBr.out) HBb) 4).trans rfl, (he.out.below HBb).1, (he.out.below HBb).2.1, (he.out.below HBb).2.2.1, (he.out.below HBb).2.2.2.1, (he.out.below HBb).2.2.2.2.1, (he.out.below HBb).2.2.2.2.2⟩ (fun hHeld => ?_)
    clear hK K
    refine norm_ (a' := ?_) ?_ ?_
    rotate_left
    ·show Act.put _ (some 160) _ = _
     simp only [Act.put, sA, sB, sC, i64_w, i32_w]
     rfl
    refine last_ (i := 9) (N := some 161) (bm 12 1023) rfl rfl (by kernel_rfl) (by decide) (fun K hK => ?_)
    refine app_step (w0 := w5) (xb + 1) (by rfl) (.tmp 153) (.tmp 160) rfl (A := A) (x0 := Option.none) (n := m) (c := c) (s1 := s5) (A1 := A5') (n1 := n5') (c1 := c5') (q := W9.heap.size) rfl rfl (NR.below hrow.out HB5) hn5 hc5 ?_ ?_ (fun y hy => by cases hy) (Below.refl _ _) ?_ ?_ ?_
    ·intro k hk; have h1 := NR.lt hrow.out k hk; have h2 := HB_.size; omega
    ·have h1 := hxs.out; have h2 := HB_.size; omega
    ·have h1 := hxs.out; have h2 := HB5.size; omega
    ·have h1 := hms.out; omega
    intro A6 c6 w6 hr6 hb6 hg6
    clear hg6
    have hx6 := (hb6.block xb (Nat.lt_succ_self _)).trans (blk_below hXb.out HB5)
    have hcz := (blk_cell hx6 1).trans rfl
    have hfz := blk_frozen hx6 1
    refine hK.out _ _ ?_
    clear hK K
    refine norm_ (a' := ?_) ?_ ?_
    rotate_left
    ·show Act.put _ (some 161) _ = _
     simp only [Act.put, sA, sB, sC, i64_w, i32_w]
     rfl
    refine pure_ (i := 10) (N := some 162) (v := ?_) (a' := ?_) (bm 12 2047) rfl rfl (by kernel_rfl) (fun _ _ _ h => h) (Or.inl ⟨by rfl, ?_⟩) ?_ ?_
    rotate_left
    ·intro w'
     go_simp
     with_reducible rfl
    rotate_left
    ·simp only [Act.put, sA, sB, sC, i64_w, i32_w]
     rfl
    refine last_ (i := 11) (N := none) (bm 12 4095) rfl rfl (by kernel_rfl) (by decide) (fun K hK => ?_)
    refine skip_ (w1 := ?_) (by rfl) rfl ?_ ?_
    rotate_left
    ·go_simp
     rfl
    refine hK.out _ _ ?_
    clear hK K
    refine done_ (by kernel_rfl) ?_
    obtain ⟨W7, hW7⟩ : ∃ W7, w6.setCell ⟨xb, 1, none⟩ (.slice A6 (m + 1) c6) = W7 := ⟨_, rfl⟩
    have hX7 : Aside0 (W7.heap[xb]? = some (.cells #[.string ⟨#[]⟩, .slice A6 (m + 1) c6, .int .i64 0] 56 (0, 0))) := ⟨by rw [← hW7]; exact blk_put hx6 1 _ rfl⟩
    have hr7 : Aside0 (NR W7 (xb + 1) none A6 (m + 1) c6) := ⟨by rw [← hW7]; exact NR.far hr6 (.inl (Nat.lt_succ_self _)) _⟩
    have hB7 : Aside0 (Below W0.heap.size W0 W7) := ⟨by rw [← hW7]; exact ((hBr.out.trans (HB5.mono hBr.out.size)).trans (hb6.mono (by have h1 := hxs.out; omega))).setCell (p := ⟨xb, 1, none⟩) (by have h1 := hxs.out; show W0.heap.size ≤ xb; omega) _⟩
    have hs7 : Aside0 (xb + 1 ≤ W7.heap.size ∧ W0.heap.size ≤ xb) := ⟨by have h1 := (Array.getElem?_eq_some_iff.1 hX7.out).1; have h2 := hxs.out; omega⟩
    rw [hW7]
    clear hHeld
    have hjn : Value.int .i64 (wrap64 ((i : Int) + 1)) = .int .i64 ((i + 1 : Nat) : Int) := by rw [show wrap64 ((i : Int) + 1) = (i : Int) + 1 by unfold wrap64; omega]; rfl
    have hi7 : i + 1 + (gk - 1) = n4 + 1 ∧ 1 ≤ gk - 1 ∧ gk - 1 < gk := by omega
    have hm7 : Aside0 (m + 1 ≤ i + 1 + 1) := ⟨by have := hm.out; omega⟩
    clear q1 p0 p1
    go_wp2
    go_roundg (gk - 1)
    case measure => exact hi7.2.2
    case rel => exact ⟨i + 1, m + 1, c6, A6, by first | exact hjn | rfl, hi7.1, hi7.2.1, hm7, hX7, hr7, hB7, hs7⟩
   ·have q1 : decide ((i : Int) < (n4 : Int)) = false := decide_eq_false (by omega)
    have x0 := (blk_cell hXb.out 0).trans rfl
    have x1 := (blk_cell hXb.out 1).trans rfl
    have x2 := (blk_cell hXb.out 2).trans rfl
    have hr1 := blk_below hrx.out hBr.out
    have j0 := (blk_cell hr1 0).trans rfl
    have j1 := (blk_cell hr1 1).trans rfl
    have j2 := (blk_cell hr1 2).trans rfl
    have z0 := blk_frozen hr1 0
    have z1 := blk_frozen hr1 1
    have z2 := blk_frozen hr1 2
    have hl5 : Aside0 (w.heap.size + 1 < xb + 1 ∧ w.heap.size ≤ xb + 1) := ⟨by have h1 := hl1.out; have h2 := hxs.out; omega⟩
    go_wp2
    refine bodyPost_ret (v := .agg #[.string ⟨#[]⟩, .slice A m c, .int .i64 0]) (by simp [results, Tryd.results37, go_sem, *]) rfl ⟨_, A, _, c, rfl, hrow.out.list.2, ?_, ?_⟩
    ·exact ((((hrow.out.list.1).far (p := ⟨w.heap.size + 1, 0, none⟩) (.inl hl5.out.1) _).far (p := ⟨w.heap.size + 1, 1, none⟩) (.inl hl5.out.1) _).far (p := ⟨w.heap.size + 1, 2, none⟩) (.inl hl5.out.1) _).list.mono hl5.out.2
    ·exact (((HB0.out.trans (hBr.out.mono HB0.out.size)).setCell (p := ⟨w.heap.size + 1, 0, none⟩) (Nat.le_succ _) _).setCell (p := ⟨w.heap.size + 1, 1, none⟩) (Nat.le_succ _) _).setCell (p := ⟨w.heap.size + 1, 2, none⟩) (Nat.le_succ _) _
set_option maxHeartbeats 8000000 in
set_option maxRecDepth 100000 in
theorem exprNode_let (f1 : ByteArray) (f2 : Int) (w : World) (hg : GG w) {A3 A4 A5 : Option Addr} {n3 c3 n4 c4 n5 c5 : Nat} (ns : List ByteArray) (hns : ns.length = n3) (hn3 : n3 ≤ 100000000000) (hC3 : Kd.string.C w A3 n3 ns) (l : List S33) (hx : ∀ x ∈ l, XN x) (hll : l.length = n3 + 1) (hC4 : k33.C w A4 n4 l) :
  Calls Tryd.prog 37 #[.agg #[.int .i64 7, .string f1, .int .i64 f2, .slice A3 n3 c3, .slice A4 n4 c4, .slice A5 n5 c5]] w (ND w) := by
 have E : ∀ W : World, ∀ o : Obj, (W.alloc o).heap.size = W.heap.size + 1 := fun W o => Array.size_push _
 obtain ⟨W0, hW0⟩ : ∃ W0, (w.alloc (.cells #[.int .i64 7, .string f1, .int .i64 f2, .slice A3 n3 c3, .slice A4 n4 c4, .slice A5 n5 c5] 33)).alloc (.cells #[.string ⟨#[]⟩, .slice none 0 0, .int .i64 0] 56) = W0 := ⟨_, rfl⟩
 have HB0 : Aside0 (Below w.heap.size w W0) := ⟨by rw [← hW0]; exact below_alloc (below_alloc (Below.refl _ _) _) _⟩
 have hbx : Aside0 (W0.heap[w.heap.size]? = some (.cells #[.int .i64 7, .string f1, .int .i64 f2, .slice A3 n3 c3, .slice A4 n4 c4, .slice A5 n5 c5] 33 (0, 0))) := ⟨by rw [← hW0]; exact (Below.heap_alloc _ _ _ (by rw [E]; omega)).trans (blk_new w _)⟩
 have hrx : Aside0 (W0.heap[w.heap.size + 1]? = some (.cells #[.string ⟨#[]⟩, .slice none 0 0, .int .i64 0] 56 (0, 0))) := ⟨by rw [← hW0, ← E w]; exact blk_new _ _⟩
 have hl1 : Aside0 (W0.heap.size = w.heap.size + 2) := ⟨by rw [← hW0, E, E]⟩
 have hg0 := Aside0.mk (GG.below hg HB0.out)
 have hC := Aside0.mk (Kd.C_below hC4 HB0.out)
 have hCn := Aside0.mk (Kd.C_below hC3 HB0.out)
 have hn4 : Aside0 (l.length = n4 ∧ n4 = n3 + 1 ∧ ns.length = n3) := ⟨by have := hC4.1; omega⟩
 clear hC4 hC3 hns hll
 have k0 := (blk_cell hbx.out 0).trans rfl
 have k1 := (blk_cell hbx.out 1).trans rfl
 have k2 := (blk_cell hbx.out 2).trans rfl
 have k3 := (blk_cell hbx.out 3).trans rfl
 have k4 := (blk_cell hbx.out 4).trans rfl
 have k5 := (blk_cell hbx.out 5).trans rfl
 go_enter Tryd.func37, Tryd.ntmps37
 go_wp2_with (first | (go_at_call 52; (try rw [hW0]); go_loud (with_reducible refine (l_calls none 0 0 W0).mono ?_); rintro r w2 ⟨rfl, hb2⟩; have HB2 := Aside0.mk hb2; clear hb2 k0 k1 k2 k3 k4 k5))
 obtain ⟨xb, hxb⟩ : ∃ xb, w2.heap.size = xb := ⟨_, rfl⟩
 obtain ⟨Wx, hWx⟩ : ∃ Wx, w2.alloc (.cells #[.string ⟨#[]⟩, .slice none 0 0, .int .i64 0] 56) = Wx := ⟨_, rfl⟩
 have hBx : Aside0 (Below W0.heap.size W0 Wx) := ⟨by rw [← hWx]; exact below_alloc HB2.out _⟩
 have hXx : Aside0 (Wx.heap[xb]? = some (.cells #[.string ⟨#[]⟩, .slice none 0 0, .int .i64 0] 56 (0, 0))) := ⟨by rw [← hWx, ← hxb]; exact blk_new _ _⟩
 have hsx : Aside0 (xb + 1 ≤ Wx.heap.size ∧ W0.heap.size ≤ xb) := ⟨by have := HB2.out.size; rw [← hWx, E]; omega⟩
 have hrX : Aside0 (NR Wx (xb + 1) none none 0 0) := ⟨NR.nil _ _ _⟩
 rw [hxb, hWx]
 clear hWx hxb HB2 hW0
 go_loopg [4] (n3 + 1) (fun kq v4 w' => ∃ (i m c : Nat) (A : Option Addr), v4 = .int .i64 (i : Int) ∧ i + kq = n3 + 1 ∧ 1 ≤ kq ∧ Aside0 (m ≤ i + 1) ∧ Aside0 (w'.heap[xb]? = some (.cells #[.string ⟨#[]⟩, .slice A m c, .int .i64 0] 56 (0, 0))) ∧ Aside0 (NR w' (xb + 1) none A m c) ∧ Aside0 (Below W0.heap.size W0 w') ∧ Aside0 (xb + 1 ≤ w'.heap.size ∧ W0.heap.size ≤ xb))
 case atStart => exact ⟨0, 0, 0, none, rfl, by omega, by omega, ⟨by omega⟩, hXx, hrX, hBx, hsx⟩
 case round =>
  obtain ⟨i, m, c, A, rfl, hi, hk, hm, hX, hr, hB, hs⟩ := hrel
  have hXb := hX
  have hrow := hr
  have hxs := hs
  have hBr := hB
  have hms : Aside0 (m ≤ 200000000000) := ⟨by have := hm.out; omega⟩
  have hgr := Aside0.mk (GG.below hg0.out hBr.out)
  clear hX hr hs hB hXx hrX hBx hsx
  have k3 := (blk_cell (blk_below hbx.out hBr.out) 3).trans rfl
  by_cases hlt : i < n3
  ·have hli : i < l.length := by have := hn4.out; omega
   have hxi : l[i]? = some l[i] := List.getElem?_eq_getElem hli
   have hx := hx _ (List.getElem_mem hli)
   generalize l[i] = x at hxi hx
   obtain ⟨ad, B3, d3, B4, d4, B5, d5, rfl, he, g3, g4, g5, _, _, _⟩ := elem33 (Kd.C_below hC.out hBr.out) i hxi
   have he := Aside0.mk he
   have h3 := Aside0.mk g3
   have h4 := Aside0.mk g4
   have h5 := Aside0.mk g5
   clear g3 g4 g5
   obtain ⟨ad3, rfl, hsn⟩ := at_str (Kd.C_below hCn.out hBr.out) i (by have := hn4.out; omega) hlt
   generalize ns[i]'(by have := hn4.out; omega) = sn at hsn
   have hsn := Aside0.mk hsn
   have p0 : (0 : Int) ≤ (i : Int) := by omega
   have p1 : (i : Int) < (n3 : Int) := by omega
   have p2 : (i : Int) < (n4 : Int) := by have := hn4.out; omega
   have q1 : decide ((i : Int) < (n3 : Int)) = true := decide_eq_true p1
   go_wp2
   have HB_ : Below wr.heap.size wr wr.drew := below_drew1 (Below.refl _ _)
   have hg9 := Aside0.mk (GG.below hgr.out HB_)
   refine start_ (n := 20) (S := fun w' => w'.cell? ⟨xb, 1, none⟩ = some (.slice A m c) ∧ w'.cell? ⟨w.heap.size, 3, none⟩ = some (.slice (some ad3) n3 c3) ∧ w'.cell? ⟨w.heap.size, 4, none⟩ = some (.slice (some ad) n4 c4) ∧ w'.cell? (ad3.add i) = some (.string sn) ∧ w'.cell? (ad.add (i * 6)) = some (.int .i64 x.f0) ∧ w'.cell? ⟨((ad.add (i * 6))).block, ((ad.add (i * 6))).off + 1, none⟩ = some (.string x.f1) ∧ w'.cell? ⟨((ad.add (i * 6))).block, ((ad.add (i * 6))).off + 2, none⟩ = some (.int .i64 x.f2) ∧ w'.cell? ⟨((ad.add (i * 6))).block, ((ad.add (i * 6))).off + 3, none⟩ = some (.slice B3 x.f3.length d3) ∧ w'.cell? ⟨((ad.add (i * 6))).block, ((ad.add (i * 6))).off + 4, none⟩ = some (.slice B4 x.f4.length d4) ∧ w'.cell? ⟨((ad.add (i * 6))).block, ((ad.add (i * 6))).off + 5, none⟩ = some (.slice B5 x.f5.length d5)) (ds := [17, 19]) (bm 20 0) (by kernel_rfl) rfl rfl ⟨(blk_cell (blk_below hXb.out HB_) 1).trans rfl, (blk_cell (blk_below (blk_below hbx.out hBr.out) HB_) 3).trans rfl, (blk_cell (blk_below (blk_below hbx.out hBr.out) HB_) 4).trans rfl, (HB_.cell (World.block_lt_of_cell? _ _ hsn.out)).trans hsn.out, (he.out.below HB_).1, (he.out.below HB_).2.1, (he.out.below HB_).2.2.1, (he.out.below HB_).2.2.2.1, (he.out.below HB_).2.2.2.2.1, (he.out.below HB_).2.2.2.2.2⟩ (fun hHeld => ?_)
   generalize wr.drew = W9 at *
   refine pure_ (i := 0) (N := some 48) (v := ?_) (a' := ?_) (bm 20 1) rfl rfl (by kernel_rfl) (fun _ _ _ h => h) (Or.inl ⟨by rfl, ?_⟩) ?_ ?_
   rotate_left
   ·intro w'
    go_simp
    with_reducible rfl
   rotate_left
   ·simp only [Act.put, sA, sB, sC, i64_w, i32_w]
    rfl
   refine pure_ (i := 2) (N := some 50) (v := ?_) (a' := ?_) (bm 20 5) rfl rfl (by kernel_rfl) (fun _ _ _ h => h) (Or.inl ⟨by rfl, ?_⟩) ?_ ?_
   rotate_left
   ·intro w'
    go_simp
    with_reducible rfl
   rotate_left
   ·simp only [Act.put, sA, sB, sC, i64_w, i32_w]
    rfl
   refine pure_ (i := 4) (N := some 52) (v := ?_) (a' := ?_) (bm 20 21) rfl rfl (by kernel_rfl) (fun _ _ _ h => h) (Or.inl ⟨by rfl, ?_⟩) ?_ ?_
   rotate_left
   ·intro w'
    go_simp
    with_reducible rfl
   rotate_left
   ·simp only [Act.put, sA, sB, sC, i64_w, i32_w]
    rfl
   refine pure_ (i := 8) (N := some 56) (v := ?_) (a' := ?_) (bm 20 277) rfl rfl (by kernel_rfl) (fun _ _ _ h => h) (Or.inl ⟨by rfl, ?_⟩) ?_ ?_
   rotate_left
   ·intro w'
    go_simp
    with_reducible rfl
   rotate_left
   ·simp only [Act.put, sA, sB, sC, i64_w, i32_w]
    rfl
   refine pure_ (i := 10) (N := some 58) (v := ?_) (a' := ?_) (bm 20 1301) rfl rfl (by kernel_rfl) (fun _ _ _ h => h) (Or.inl ⟨by rfl, ?_⟩) ?_ ?_
   rotate_left
   ·intro w'
    go_simp
    with_reducible rfl
   rotate_left
   ·simp only [Act.put, sA, sB, sC, i64_w, i32_w]
    rfl
   refine take_ (i := 1) (N := some 49) (v := ?_) (a' := ?_) (bm 20 1303) rfl rfl (by kernel_rfl) (fun _ _ _ h => h) (Or.inl ⟨by rfl, ?_⟩) hHeld ?_ ?_
   rotate_left
   ·rintro w' ⟨s0, s1, s2, s3, s4, s5, s6, s7, s8, s9⟩
    go_simp
    with_reducible rfl
   rotate_left
   ·simp only [Act.put, sA, sB, sC, i64_w, i32_w]
    rfl
   refine take_ (i := 3) (N := some 51) (v := ?_) (a' := ?_) (bm 20 1311) rfl rfl (by kernel_rfl) (fun _ _ _ h => h) (Or.inl ⟨by rfl, ?_⟩) hHeld ?_ ?_
   rotate_left
   ·rintro w' ⟨s0, s1, s2, s3, s4, s5, s6, s7, s8, s9⟩
    go_simp
    with_reducible rfl
   rotate_left
   ·simp only [Act.put, sA, sB, sC, i64_w, i32_w]
    rfl
   refine pure_ (i := 5) (N := some 53) (v := ?_) (a' := ?_) (bm 20 1343) rfl rfl (by kernel_rfl) (fun _ _ _ h => h) (Or.inl ⟨by rfl, ?_⟩) ?_ ?_
   rotate_left
   ·intro w'
    go_simp
    with_reducible rfl
   rotate_left
   ·simp only [Act.put, sA, sB, sC, i64_w, i32_w]
    rfl
   refine take_ (i := 6) (N := some 54) (v := ?_) (a' := ?_) (bm 20 1407) rfl rfl (by kernel_rfl) (fun _ _ _ h => h) (Or.inl ⟨by rfl, ?_⟩) hHeld ?_ ?_
   rotate_left
   ·rintro w' ⟨s0, s1, s2, s3, s4, s5, s6, s7, s8, s9⟩
    go_simp
    with_reducible rfl
   rotate_left
   ·simp only [Act.put, sA, sB, sC, i64_w, i32_w]
    rfl
   refine take_ (i := 9) (N := some 57) (v := ?_) (a' := ?_) (bm 20 1919) rfl rfl (by kernel_rfl) (fun _ _ _ h => h) (Or.inl ⟨by rfl, ?_⟩) hHeld ?_ ?_
   rotate_left
   ·rintro w' ⟨s0, s1, s2, s3, s4, s5, s6, s7, s8, s9⟩
    go_simp
    with_reducible rfl
   rotate_left
   ·simp only [Act.put, sA, sB, sC, i64_w, i32_w]
    rfl
   refine pure_ (i := 11) (N := some 59) (v := ?_) (a' := ?_) (bm 20 3967) rfl rfl (by kernel_rfl) (fun _ _ _ h => h) (Or.inl ⟨by rfl, ?_⟩) ?_ ?_
   rotate_left
   ·intro w'
    go_simp
    with_reducible rfl
   rotate_left
   ·simp only [Act.put, sA, sB, sC, i64_w, i32_w]
    rfl
   refine take_ (i := 12) (N := some 60) (v := ?_) (a' := ?_) (bm 20 8063) rfl rfl (by kernel_rfl) (fun _ _ _ h => h) (Or.inl ⟨by rfl, ?_⟩) hHeld ?_ ?_
   rotate_left
   ·rintro w' ⟨s0, s1, s2, s3, s4, s5, s6, s7, s8, s9⟩
    go_simp
    with_reducible rfl
   rotate_left
   ·simp only [Act.put, sA, sB, sC, i64_w, i32_w]
    rfl
   refine one_ (i := 7) (N := some 55) (bm 20 8191) rfl rfl (by kernel_rfl) (by decide) (fun K hK => ?_)
   refine goes_ Tryd.func49 (by kernel_rfl) rfl #[.string sn] (by rfl) rfl rfl (by simp only [List.map_toArray, List.map_cons, List.map_nil]; rfl) ?_
   (with_reducible refine (w_calls sn W9).mono ?_)
   rintro e w4 ⟨rfl, hbq4⟩
   refine ⟨_, rfl, ?_⟩
   have HB4 := below_step HB_ hbq4
   refine hK.out _ _ ⟨(blk_cell (blk_below hXb.out HB4) 1).trans rfl, (blk_cell (blk_below (blk_below hbx.out hBr.out) HB4) 3).trans rfl, (blk_cell (blk_below (blk_below hbx.out hBr.out) HB4) 4).trans rfl, (HB4.cell (World.block_lt_of_cell? _ _ hsn.out)).trans hsn.out, (he.out.below HB4).1, (he.out.below HB4).2.1, (he.out.below HB4).2.2.1, (he.out.below HB4).2.2.2.1, (he.out.below HB4).2.2.2.2.1, (he.out.below HB4).2.2.2.2.2⟩ (fun hHeld => ?_)
   clear hK K
   refine norm_ (a' := ?_) ?_ ?_
   rotate_left
   ·show Act.put _ (some 55) _ = _
    simp only [Act.put, sA, sB, sC, i64_w, i32_w]
    rfl
   refine one_ (i := 13) (N := some 61) (bm 20 16383) rfl rfl (by kernel_rfl) (by decide) (fun K hK => ?_)
   refine goes_ Tryd.func37 (by kernel_rfl) rfl #[.agg #[.int .i64 x.f0, .string x.f1, .int .i64 x.f2, .slice B3 x.f3.length d3, .slice B4 x.f4.length d4, .slice B5 x.f5.length d5]] (by rfl) rfl rfl (by simp only [List.map_toArray, List.map_cons, List.map_nil]; rfl) ?_
   (with_reducible refine (hx.at w4 (GG.below hgr.out HB4) (Kd.C_below h3.out HB4) (Kd.C_below h4.out HB4) (Kd.C_below h5.out HB4)).mono ?_)
   rintro e w5 ⟨s5, A5', n5', c5', rfl, hc5, hn5, hbq5⟩
   refine ⟨_, rfl, ?_⟩
   have HB5 := below_step HB4 hbq5
   refine hK.out _ _ ⟨(blk_cell (blk_below hXb.out HB5) 1).trans rfl, (blk_cell (blk_below (blk_below hbx.out hBr.out) HB5) 3).trans rfl, (blk_cell (blk_below (blk_below hbx.out hBr.out) HB5) 4).trans rfl, (HB5.cell (World.block_lt_of_cell? _ _ hsn.out)).trans hsn.out, (he.out.below HB5).1, (he.out.below HB5).2.1, (he.out.below HB5).2.2.1, (he.out.below HB5).2.2.2.1, (he.out.below HB5).2.2.2.2.1, (he.out.below HB5).2.2.2.2.2⟩ (fun hHeld => ?_)
   clear hK K
   refine norm_ (a' := ?_) ?_ ?_
   rotate_left
   ·show Act.put _ (some 61) _ = _
    simp only [Act.put, sA, sB, sC, i64_w, i32_w]
    rfl
   refine one_ (i := 14) (N := some 62) (bm 20 32767) rfl rfl (by kernel_rfl) (by decide) (fun K hK => ?_)
   refine value_ (w1 := ?_) (v := ?_) (by rfl) rfl ?_ ?_
   rotate_left 2
   ·go_simp
    constructor
    ·rfl
    ·rfl
   have HB6 := below_alloc HB5 (.cells #[.string sn, .slice none 0 0, .int .i64 0, .string s5, .slice A5' n5' c5', .int .i64 0] 56)
   have hbk := blk_new w5 (.cells #[.string sn, .slice none 0 0, .int .i64 0, .string s5, .slice A5' n5' c5', .int .i64 0] 56 (0, 0))
   refine hK.out _ _ ⟨(blk_cell (blk_below hXb.out HB6) 1).trans rfl, (blk_cell (blk_below (blk_below hbx.out hBr.out) HB6) 3).trans rfl, (blk_cell (blk_below (blk_below hbx.out hBr.out) HB6) 4).trans rfl, (HB6.cell (World.block_lt_of_cell? _ _ hsn.out)).trans hsn.out, (he.out.below HB6).1, (he.out.below HB6).2.1, (he.out.below HB6).2.2.1, (he.out.below HB6).2.2.2.1, (he.out.below HB6).2.2.2.2.1, (he.out.below HB6).2.2.2.2.2⟩ (fun hHeld => ?_)
   clear hK K
   refine norm_ (a' := ?_) ?_ ?_
   rotate_left
   ·show Act.put _ (some 62) _ = _
    simp only [Act.put, sA, sB, sC, i64_w, i32_w]
    rfl
   refine one_ (i := 15) (N := some 63) (bm 20 65535) rfl rfl (by kernel_rfl) (by decide) (fun K hK => ?_)
   refine goes_ Tryd.func52 (by kernel_rfl) rfl #[.slice (some ⟨w5.heap.size, 0, none⟩) 2 2] (by rfl) rfl rfl (by simp only [List.map_toArray, List.map_cons, List.map_nil]; rfl) ?_
   (with_reducible refine (l_calls _ _ _ _).mono ?_)
   rintro e w7 ⟨rfl, hbq7⟩
   refine ⟨_, rfl, ?_⟩
   have HB7 := below_step HB6 hbq7
   have hn7 : NL w7 W9.heap.size (some ⟨w5.heap.size, 0, none⟩) 2 := NL.two (blk_below hbk hbq7) (Nat.le_trans hbq4.size hbq5.size) (NL.nil _ _) (Nat.le_refl _) (((hn5.mono hbq4.size).below (below_alloc (Below.refl _ _) _)).below hbq7) hc5
   refine hK.out _ _ ⟨(blk_cell (blk_below hXb.out HB7) 1).trans rfl, (blk_cell (blk_below (blk_below hbx.out hBr.out) HB7) 3).trans rfl, (blk_cell (blk_below (blk_below hbx.out hBr.out) HB7) 4).trans rfl, (HB7.cell (World.block_lt_of_cell? _ _ hsn.out)).trans hsn.out, (he.out.below HB7).1, (he.out.below HB7).2.1, (he.out.below HB7).2.2.1, (he.out.below HB7).2.2.2.1, (he.out.below HB7).2.2.2.2.1, (he.out.below HB7).2.2.2.2.2⟩ (fun hHeld => ?_)
   clear hK K
   refine norm_ (a' := ?_) ?_ ?_
   rotate_left
   ·show Act.put _ (some 63) _ = _
    simp only [Act.put, sA, sB, sC, i64_w, i32_w]
    rfl
   refine one_ (i := 16) (N := some 64) (bm 20 131071) rfl rfl (by kernel_rfl) (by decide) (fun K hK => ?_)
   refine value_ (w1 := ?_) (v := ?_) (by rfl) rfl ?_ ?_
   rotate_left 2
   ·go_simp
    constructor
    ·rfl
    ·rfl
   have HBb := below_alloc HB7 (.cells #[.string ⟨#[]⟩, .slice (some ⟨w5.heap.size, 0, none⟩) 2 2, .int .i64 0] 56)
   refine hK.out _ _ ⟨(blk_cell (blk_below hXb.out HBb) 1).trans rfl, (blk_cell (blk_below (blk_below hbx.out hBr.out) HBb) 3).trans rfl, (blk_cell (blk_below (blk_below hbx.out hBr.out) HBb) 4).trans rfl, (HBb.cell (World.block_lt_of_cell? _ _ hsn.out)).trans hsn.out, (he.out.below HBb).1, (he.out.below HBb).2.1, (he.out.below HBb).2.2.1, (he.out.below HBb).2.2.2.1, (he.out.below HBb).2.2.2.2.1, (he.out.below HBb).2.2.2.2.2⟩ (fun hHeld => ?_)
   clear hK K
   refine norm_ (a' := ?_) ?_ ?_
   rotate_left
   ·show Act.put _ (some 64) _ = _
    simp only [Act.put, sA, sB, sC, i64_w, i32_w]
    rfl
   refine last_ (i := 17) (N := some 65) (bm 20 262143) rfl rfl (by kernel_rfl) (by decide) (fun K hK => ?_)
   refine app_step (w0 := w7) (xb + 1) (by rfl) (.tmp 49) (.tmp 64) rfl (A := A) (x0 := Option.none) (n := m) (c := c) (s1 := ⟨#[]⟩) (A1 := (some ⟨w5.heap.size, 0, none⟩)) (n1 := 2) (c1 := 2) (q := W9.heap.size) rfl rfl (NR.below hrow.out HB7) hn7 (Nat.le_refl _) ?_ ?_ (fun y hy => by cases hy) (Below.refl _ _) ?_ ?_ ?_
   ·intro k hk; have h1 := NR.lt hrow.out k hk; have h2 := HB_.size; omega
   ·have h1 := hxs.out; have h2 := HB_.size; omega
   ·have h1 := hxs.out; have h2 := HB7.size; omega
   ·have h1 := hms.out; omega
   intro A6 c6 w6 hr6 hb6 hg6
   clear hg6
   have hx6 := (hb6.block xb (Nat.lt_succ_self _)).trans (blk_below hXb.out HB7)
   have hcz := (blk_cell hx6 1).trans rfl
   have hfz := blk_frozen hx6 1
   refine hK.out _ _ ?_
   clear hK K
   refine norm_ (a' := ?_) ?_ ?_
   rotate_left
   ·show Act.put _ (some 65) _ = _
    simp only [Act.put, sA, sB, sC, i64_w, i32_w]
    rfl
   refine pure_ (i := 18) (N := some 66) (v := ?_) (a' := ?_) (bm 20 524287) rfl rfl (by kernel_rfl) (fun _ _ _ h => h) (Or.inl ⟨by rfl, ?_⟩) ?_ ?_
   rotate_left
   ·intro w'
    go_simp
    with_reducible rfl
   rotate_left
   ·simp only [Act.put, sA, sB, sC, i64_w, i32_w]
    rfl
   refine last_ (i := 19) (N := none) (bm 20 1048575) rfl rfl (by kernel_rfl) (by decide) (fun K hK => ?_)
   refine skip_ (w1 := ?_) (by rfl) rfl ?_ ?_
   rotate_left
   ·go_simp
    rfl
   refine hK.out _ _ ?_
   clear hK K
   refine done_ (by kernel_rfl) ?_
   obtain ⟨W7, hW7⟩ : ∃ W7, w6.setCell ⟨xb, 1, none⟩ (.slice A6 (m + 1) c6) = W7 := ⟨_, rfl⟩
   have hX7 : Aside0 (W7.heap[xb]? = some (.cells #[.string ⟨#[]⟩, .slice A6 (m + 1) c6, .int .i64 0] 56 (0, 0))) := ⟨by rw [← hW7]; exact blk_put hx6 1 _ rfl⟩
   have hr7 : Aside0 (NR W7 (xb + 1) none A6 (m + 1) c6) := ⟨by rw [← hW7]; exact NR.far hr6 (.inl (Nat.lt_succ_self _)) _⟩
   have hB7 : Aside0 (Below W0.heap.size W0 W7) := ⟨by rw [← hW7]; exact ((hBr.out.trans (HB7.mono hBr.out.size)).trans (hb6.mono (by have h1 := hxs.out; omega))).setCell (p := ⟨xb, 1, none⟩) (by have h1 := hxs.out; show W0.heap.size ≤ xb; omega) _⟩
   have hs7 : Aside0 (xb + 1 ≤ W7.heap.size ∧ W0.heap.size ≤ xb) := ⟨by have h1 := (Array.getElem?_eq_some_iff.1 hX7.out).1; have h2 := hxs.out; omega⟩
   rw [hW7]
   clear hHeld
   have hjn : Value.int .i64 (wrap64 ((i : Int) + 1)) = .int .i64 ((i + 1 : Nat) : Int) := by rw [show wrap64 ((i : Int) + 1) = (i : Int) + 1 by unfold wrap64; omega]; rfl
   have hi7 : i + 1 + (gk - 1) = n3 + 1 ∧ 1 ≤ gk - 1 ∧ gk - 1 < gk := by omega
   have hm7 : Aside0 (m + 1 ≤ i + 1 + 1) := ⟨by have := hm.out; omega⟩
   clear q1 p0 p1 p2
   go_wp2
   go_roundg (gk - 1)
   case measure => exact hi7.2.2
   case rel => exact ⟨i + 1, m + 1, c6, A6, by first | exact hjn | rfl, hi7.1, hi7.2.1, hm7, hX7, hr7, hB7, hs7⟩
  ·have q1 : decide ((i : Int) < (n3 : Int)) = false := decide_eq_false (by omega)
   have hxi : l[n3]? = some (l[n3]'(by have := hn4.out; omega)) := List.getElem?_eq_getElem (by have := hn4.out; omega)
   have hx := hx _ (List.getElem_mem (show n3 < l.length by have := hn4.out; omega))
   generalize l[n3]'(by have := hn4.out; omega) = x at hxi hx
   obtain ⟨ad, B3, d3, B4, d4, B5, d5, rfl, he, g3, g4, g5, _, _, _⟩ := elem33 (Kd.C_below hC.out hBr.out) n3 hxi
   have he := Aside0.mk he
   have h3 := Aside0.mk g3
   have h4 := Aside0.mk g4
   have h5 := Aside0.mk g5
   clear g3 g4 g5
   have hix : wrap64 ((n4 : Int) - 1) = (n3 : Int) := by have := hn4.out; unfold wrap64; omega
   have p2 : (n3 : Int) < (n4 : Int) := by have := hn4.out; omega
   have p0 : (0 : Int) ≤ (n3 : Int) := by omega
   have hl5 : Aside0 (w.heap.size + 1 < W0.heap.size) := ⟨by have := hl1.out; omega⟩
   go_wp2
   have HB_ : Below wr.heap.size wr wr.drew := below_drew1 (Below.refl _ _)
   refine start_ (n := 14) (S := fun w' => w'.cell? ⟨xb, 0, none⟩ = some (.string ⟨#[]⟩) ∧ w'.cell? ⟨xb, 1, none⟩ = some (.slice A m c) ∧ w'.cell? ⟨xb, 2, none⟩ = some (.int .i64 0) ∧ w'.cell? ⟨w.heap.size, 4, none⟩ = some (.slice (some ad) n4 c4) ∧ w'.cell? (ad.add (n3 * 6)) = some (.int .i64 x.f0) ∧ w'.cell? ⟨((ad.add (n3 * 6))).block, ((ad.add (n3 * 6))).off + 1, none⟩ = some (.string x.f1) ∧ w'.cell? ⟨((ad.add (n3 * 6))).block, ((ad.add (n3 * 6))).off + 2, none⟩ = some (.int .i64 x.f2) ∧ w'.cell? ⟨((ad.add (n3 * 6))).block, ((ad.add (n3 * 6))).off + 3, none⟩ = some (.slice B3 x.f3.length d3) ∧ w'.cell? ⟨((ad.add (n3 * 6))).block, ((ad.add (n3 * 6))).off + 4, none⟩ = some (.slice B4 x.f4.length d4) ∧ w'.cell? ⟨((ad.add (n3 * 6))).block, ((ad.add (n3 * 6))).off + 5, none⟩ = some (.slice B5 x.f5.length d5)) (ds := [13]) (bm 14 0) (by kernel_rfl) rfl rfl ⟨(blk_cell (blk_below hXb.out HB_) 0).trans rfl, (blk_cell (blk_below hXb.out HB_) 1).trans rfl, (blk_cell (blk_below hXb.out HB_) 2).trans rfl, (blk_cell (blk_below (blk_below hbx.out hBr.out) HB_) 4).trans rfl, (he.out.below HB_).1, (he.out.below HB_).2.1, (he.out.below HB_).2.2.1, (he.out.below HB_).2.2.2.1, (he.out.below HB_).2.2.2.2.1, (he.out.below HB_).2.2.2.2.2⟩ (fun hHeld => ?_)
   generalize wr.drew = W9 at *
   refine pure_ (i := 2) (N := some 69) (v := ?_) (a' := ?_) (bm 14 4) rfl rfl (by kernel_rfl) (fun _ _ _ h => h) (Or.inl ⟨by rfl, ?_⟩) ?_ ?_
   rotate_left
   ·intro w'
    go_simp
    with_reducible rfl
   rotate_left
   ·simp only [Act.put, sA, sB, sC, i64_w, i32_w]
    rfl
   refine pure_ (i := 4) (N := some 71) (v := ?_) (a' := ?_) (bm 14 20) rfl rfl (by kernel_rfl) (fun _ _ _ h => h) (Or.inl ⟨by rfl, ?_⟩) ?_ ?_
   rotate_left
   ·intro w'
    go_simp
    with_reducible rfl
   rotate_left
   ·simp only [Act.put, sA, sB, sC, i64_w, i32_w]
    rfl
   refine take_ (i := 1) (N := some 68) (v := ?_) (a' := ?_) (bm 14 22) rfl rfl (by kernel_rfl) (fun _ _ _ h => h) (Or.inl ⟨by rfl, ?_⟩) hHeld ?_ ?_
   rotate_left
   ·rintro w' ⟨s0, s1, s2, s3, s4, s5, s6, s7, s8, s9⟩
    go_simp
    with_reducible rfl
   rotate_left
   ·simp only [Act.put, sA, sB, sC, i64_w, i32_w]
    rfl
   refine take_ (i := 3) (N := some 70) (v := ?_) (a' := ?_) (bm 14 30) rfl rfl (by kernel_rfl) (fun _ _ _ h => h) (Or.inl ⟨by rfl, ?_⟩) hHeld ?_ ?_
   rotate_left
   ·rintro w' ⟨s0, s1, s2, s3, s4, s5, s6, s7, s8, s9⟩
    go_simp
    with_reducible rfl
   rotate_left
   ·simp only [Act.put, sA, sB, sC, i64_w, i32_w]
    rfl
   refine take_ (i := 5) (N := some 72) (v := ?_) (a' := ?_) (bm 14 62) rfl rfl (by kernel_rfl) (fun _ _ _ h => h) (Or.inl ⟨by rfl, ?_⟩) hHeld ?_ ?_
   rotate_left
   ·rintro w' ⟨s0, s1, s2, s3, s4, s5, s6, s7, s8, s9⟩
    go_simp
    with_reducible rfl
   rotate_left
   ·simp only [Act.put, sA, sB, sC, i64_w, i32_w]
    rfl
   refine pure_ (i := 6) (N := some 73) (v := ?_) (a' := ?_) (bm 14 126) rfl rfl (by kernel_rfl) (fun _ _ _ h => h) (Or.inl ⟨by rfl, ?_⟩) ?_ ?_
   rotate_left
   ·intro w'
    go_simp
    with_reducible rfl
   rotate_left
   ·simp only [Act.put, sA, sB, sC, i64_w, i32_w]
    rfl
   refine pure_ (i := 7) (N := some 74) (v := ?_) (a' := ?_) (bm 14 254) rfl rfl (by kernel_rfl) (fun _ _ _ h => h) (Or.inl ⟨by rfl, ?_⟩) ?_ ?_
   rotate_left
   ·intro w'
    go_simp
    with_reducible rfl
   rotate_left
   ·simp only [Act.put, sA, sB, sC, i64_w, i32_w]
    rfl
   refine pure_ (i := 8) (N := some 75) (v := ?_) (a' := ?_) (bm 14 510) rfl rfl (by kernel_rfl) (fun _ _ _ h => h) (Or.inl ⟨by rfl, ?_⟩) ?_ ?_
   rotate_left
   ·intro w'
    go_simp
    with_reducible rfl
   rotate_left
   ·simp only [Act.put, sA, sB, sC, i64_w, i32_w]
    rfl
   refine take_ (i := 9) (N := some 76) (v := ?_) (a' := ?_) (bm 14 1022) rfl rfl (by kernel_rfl) (fun _ _ _ h => h) (Or.inl ⟨by rfl, ?_⟩) hHeld ?_ ?_
   rotate_left
   ·rintro w' ⟨s0, s1, s2, s3, s4, s5, s6, s7, s8, s9⟩
    go_simp
    with_reducible rfl
   rotate_left
   ·simp only [Act.put, sA, sB, sC, i64_w, i32_w]
    rfl
   refine one_ (i := 0) (N := some 67) (bm 14 1023) rfl rfl (by kernel_rfl) (by decide) (fun K hK => ?_)
   refine goes_ Tryd.func49 (by kernel_rfl) rfl #[.string ⟨#[108, 101, 116]⟩] (by rfl) rfl rfl (by simp only [List.map_toArray, List.map_cons, List.map_nil]; rfl) ?_
   (with_reducible refine (w_calls _ W9).mono ?_)
   rintro e w4 ⟨rfl, hbq4⟩
   refine ⟨_, rfl, ?_⟩
   have HB4 := below_step HB_ hbq4
   refine hK.out _ _ ⟨(blk_cell (blk_below hXb.out HB4) 0).trans rfl, (blk_cell (blk_below hXb.out HB4) 1).trans rfl, (blk_cell (blk_below hXb.out HB4) 2).trans rfl, (blk_cell (blk_below (blk_below hbx.out hBr.out) HB4) 4).trans rfl, (he.out.below HB4).1, (he.out.below HB4).2.1, (he.out.below HB4).2.2.1, (he.out.below HB4).2.2.2.1, (he.out.below HB4).2.2.2.2.1, (he.out.below HB4).2.2.2.2.2⟩ (fun hHeld => ?_)
   clear hK K
   refine norm_ (a' := ?_) ?_ ?_
   rotate_left
   ·show Act.put _ (some 67) _ = _
    simp only [Act.put, sA, sB, sC, i64_w, i32_w]
    rfl
   refine one_ (i := 10) (N := some 77) (bm 14 2047) rfl rfl (by kernel_rfl) (by decide) (fun K hK => ?_)
   refine goes_ Tryd.func37 (by kernel_rfl) rfl #[.agg #[.int .i64 x.f0, .string x.f1, .int .i64 x.f2, .slice B3 x.f3.length d3, .slice B4 x.f4.length d4, .slice B5 x.f5.length d5]] (by rfl) rfl rfl (by simp only [List.map_toArray, List.map_cons, List.map_nil]; rfl) ?_
   (with_reducible refine (hx.at w4 (GG.below hgr.out HB4) (Kd.C_below h3.out HB4) (Kd.C_below h4.out HB4) (Kd.C_below h5.out HB4)).mono ?_)
   rintro e w5 ⟨s5, A5', n5', c5', rfl, hc5, hn5, hbq5⟩
   refine ⟨_, rfl, ?_⟩
   have HB5 := below_step HB4 hbq5
   refine hK.out _ _ ⟨(blk_cell (blk_below hXb.out HB5) 0).trans rfl, (blk_cell (blk_below hXb.out HB5) 1).trans rfl, (blk_cell (blk_below hXb.out HB5) 2).trans rfl, (blk_cell (blk_below (blk_below hbx.out hBr.out) HB5) 4).trans rfl, (he.out.below HB5).1, (he.out.below HB5).2.1, (he.out.below HB5).2.2.1, (he.out.below HB5).2.2.2.1, (he.out.below HB5).2.2.2.2.1, (he.out.below HB5).2.2.2.2.2⟩ (fun hHeld => ?_)
   clear hK K
   refine norm_ (a' := ?_) ?_ ?_
   rotate_left
   ·show Act.put _ (some 77) _ = _
    simp only [Act.put, sA, sB, sC, i64_w, i32_w]
    rfl
   refine one_ (i := 11) (N := some 78) (bm 14 4095) rfl rfl (by kernel_rfl) (by decide) (fun K hK => ?_)
   refine value_ (w1 := ?_) (v := ?_) (by rfl) rfl ?_ ?_
   rotate_left 2
   ·go_simp
    constructor
    ·rfl
    ·rfl
   have HB6 := below_alloc HB5 (.cells #[.string ⟨#[108, 101, 116]⟩, .slice none 0 0, .int .i64 0, .string ⟨#[]⟩, .slice A m c, .int .i64 0, .string s5, .slice A5' n5' c5', .int .i64 0] 56)
   have hbk := blk_new w5 (.cells #[.string ⟨#[108, 101, 116]⟩, .slice none 0 0, .int .i64 0, .string ⟨#[]⟩, .slice A m c, .int .i64 0, .string s5, .slice A5' n5' c5', .int .i64 0] 56 (0, 0))
   refine hK.out _ _ ⟨(blk_cell (blk_below hXb.out HB6) 0).trans rfl, (blk_cell (blk_below hXb.out HB6) 1).trans rfl, (blk_cell (blk_below hXb.out HB6) 2).trans rfl, (blk_cell (blk_below (blk_below hbx.out hBr.out) HB6) 4).trans rfl, (he.out.below HB6).1, (he.out.below HB6).2.1, (he.out.below HB6).2.2.1, (he.out.below HB6).2.2.2.1, (he.out.below HB6).2.2.2.2.1, (he.out.below HB6).2.2.2.2.2⟩ (fun hHeld => ?_)
   clear hK K
   refine norm_ (a' := ?_) ?_ ?_
   rotate_left
   ·show Act.put _ (some 78) _ = _
    simp only [Act.put, sA, sB, sC, i64_w, i32_w]
    rfl
   refine one_ (i := 12) (N := some 79) (bm 14 8191) rfl rfl (by kernel_rfl) (by decide) (fun K hK => ?_)
   refine goes_ Tryd.func52 (by kernel_rfl) rfl #[.slice (some ⟨w5.heap.size, 0, none⟩) 3 3] (by rfl) rfl rfl (by simp only [List.map_toArray, List.map_cons, List.map_nil]; rfl) ?_
   (with_reducible refine (l_calls _ _ _ _).mono ?_)
   rintro e w7 ⟨rfl, hbq7⟩
   refine ⟨_, rfl, ?_⟩
   have HB7 := below_step HB6 hbq7
   have hNL : NL w7 W0.heap.size (some ⟨w5.heap.size, 0, none⟩) 3 := NL.three (blk_below hbk hbq7) (Nat.le_trans hBr.out.size HB5.size) (NL.nil _ _) (Nat.le_refl _) ((hrow.out.list.1.list.mono (by have := hxs.out; omega)).below HB7) hrow.out.list.2 (((hn5.mono (Nat.le_trans hBr.out.size HB4.size)).below (below_alloc (Below.refl _ _) _)).below hbq7) hc5
   have HBz := hBr.out.trans (HB7.mono hBr.out.size)
   have hr1 := blk_below hrx.out HBz
   have j0 := (blk_cell hr1 0).trans rfl
   have j1 := (blk_cell hr1 1).trans rfl
   have j2 := (blk_cell hr1 2).trans rfl
   have z0 := blk_frozen hr1 0
   have z1 := blk_frozen hr1 1
   have z2 := blk_frozen hr1 2
   refine hK.out _ _ ⟨(blk_cell (blk_below hXb.out HB7) 0).trans rfl, (blk_cell (blk_below hXb.out HB7) 1).trans rfl, (blk_cell (blk_below hXb.out HB7) 2).trans rfl, (blk_cell (blk_below (blk_below hbx.out hBr.out) HB7) 4).trans rfl, (he.out.below HB7).1, (he.out.below HB7).2.1, (he.out.below HB7).2.2.1, (he.out.below HB7).2.2.2.1, (he.out.below HB7).2.2.2.2.1, (he.out.below HB7).2.2.2.2.2⟩ (fun hHeld => ?_)
   clear hK K
   refine norm_ (a' := ?_) ?_ ?_
   rotate_left
   ·show Act.put _ (some 79) _ = _
    simp only [Act.put, sA, sB, sC, i64_w, i32_w]
    rfl
   refine last_ (i := 13) (N := none) (bm 14 16383) rfl rfl (by kernel_rfl) (by decide) (fun K hK => ?_)
   refine skip_ (w1 := ?_) (by rfl) rfl ?_ ?_
   rotate_left
   ·go_simp
    rfl
   refine hK.out _ _ ?_
   clear hK K
   refine done_ (by kernel_rfl) ?_
   clear hHeld
   go_wp2
   refine bodyPost_ret (v := .agg #[.string ⟨#[]⟩, .slice (some ⟨w5.heap.size, 0, none⟩) 3 3, .int .i64 0]) (by simp [results, Tryd.results37, go_sem, *]) rfl ⟨_, (some ⟨w5.heap.size, 0, none⟩), _, 3, rfl, Nat.le_refl _, ?_, ?_⟩
   ·exact ((((hNL).far (p := ⟨w.heap.size + 1, 0, none⟩) hl5.out _).far (p := ⟨w.heap.size + 1, 1, none⟩) hl5.out _).far (p := ⟨w.heap.size + 1, 2, none⟩) hl5.out _).mono (by have := hl5.out; omega)
   ·exact (((HB0.out.trans (HBz.mono HB0.out.size)).setCell (p := ⟨w.heap.size + 1, 0, none⟩) (Nat.le_succ _) _).setCell (p := ⟨w.heap.size + 1, 1, none⟩) (Nat.le_succ _) _).setCell (p := ⟨w.heap.size + 1, 2, none⟩) (Nat.le_succ _) _
theorem NX.newx {W : World} {b n : Nat} {A : Option Addr} (h : NX W b none A n) (o : Obj) : NX (W.alloc o) b (some W.heap.size) A n :=
 h.elim fun xs h => ⟨xs, Kd.F_alloc (Kd.F_mono (Kd.F_bound h) (fun k hk => ⟨hk.1.1, fun e => by have := Option.some.inj e; have := hk.2; omega⟩)) o⟩
theorem NR.newx {W : World} {b n c : Nat} {A : Option Addr} (h : NR W b none A n c) (o : Obj) : NR (W.alloc o) b (some W.heap.size) A n c :=
 h.elim fun xs h => ⟨xs, h.1, Kd.N_alloc (Kd.N_mono (Kd.N_bound h.2) (fun k hk => ⟨hk.1.1, fun e => by have := Option.some.inj e; have := hk.2; omega⟩)) o⟩
theorem NL.nx {W : World} {b q n : Nat} {x : Option Nat} {A : Option Addr} (h : NL W q A n) (hbq : b ≤ q) (hx : ∀ y, x = some y → y < q) : NX W b x A n :=
 h.elim fun xs h => ⟨xs, Kd.F_mono h (fun k hk => ⟨Nat.le_trans hbq hk, fun e => by have := hx k e.symm; omega⟩)⟩
theorem NR.litX {W : World} {b : Nat} {x : Option Nat} {s1 s2 : ByteArray} {A2 : Option Addr} {n2 c2 : Nat} (h2 : NX W b x A2 n2) (hc2 : n2 ≤ c2) (hb : b ≤ W.heap.size) (hx : some W.heap.size ≠ x) :
  NR (W.alloc (.cells #[.string s1, .slice none 0 0, .int .i64 0, .string s2, .slice A2 n2 c2, .int .i64 0] 56)) b x (some ⟨W.heap.size, 0, none⟩) 2 2 := by
 obtain ⟨zs, hz⟩ := h2
 exact NR.lit (xs := [⟨s1, [], 0⟩, ⟨s2, zs, 0⟩]) (inner := [.string s1, .slice none 0 0, .int .i64 0, .string s2, .slice A2 n2 c2, .int .i64 0]) (okp := fun k => b ≤ k ∧ some k ≠ x) (Reps.c3 (nodeK (Kd.F_nil _ _ _) (Nat.le_refl _) s1) (Reps.c3 (nodeK hz hc2 s2) (Reps.none _ _))) (fun k hk => hk) ⟨hb, hx⟩ (by simp)
def AC (W : World) (p : Addr) (x : S40) (B3 B7 B8 B9 : Option Addr) (d3 d7 d8 d9 : Nat) : Prop := W.cell? p = some (.int .i64 x.f0) ∧ W.cell? ⟨p.block, p.off + 1, none⟩ = some (.string x.f1) ∧ W.cell? ⟨p.block, p.off + 2, none⟩ = some (.int .i64 x.f2) ∧ W.cell? ⟨p.block, p.off + 3, none⟩ = some (.slice B3 x.f3.length d3) ∧ W.cell? ⟨p.block, p.off + 4, none⟩ = some (.int .i64 x.f4.f0) ∧ W.cell? ⟨p.block, p.off + 5, none⟩ = some (.string x.f4.f1) ∧ W.cell? ⟨p.block, p.off + 6, none⟩ = some (.int .i64 x.f4.f2) ∧ W.cell? ⟨p.block, p.off + 7, none⟩ = some (.slice B7 x.f4.f3.length d7) ∧ W.cell? ⟨p.block, p.off + 8, none⟩ = some (.slice B8 x.f4.f4.length d8) ∧ W.cell? ⟨p.block, p.off + 9, none⟩ = some (.slice B9 x.f4.f5.length d9)
theorem elem40 {W : World} {A : Option Addr} {n : Nat} {l : List S40} (hC : k40.C W A n l) (i : Nat) {x : S40} (hx : l[i]? = some x) : ∃ ad B3 d3 B7 d7 B8 d8 B9 d9, A = some ad ∧ AC W (ad.add (i * 10)) x B3 B7 B8 B9 d3 d7 d8 d9 ∧ Kd.string.C W B3 x.f3.length x.f3 ∧ Kd.string.C W B7 x.f4.f3.length x.f4.f3 ∧ k33.C W B8 x.f4.f4.length x.f4.f4 ∧ k40.C W B9 x.f4.f5.length x.f4.f5 := by
 have hi := (List.getElem?_eq_some_iff.1 hx).1
 obtain ⟨ad, B3, d3, B7, d7, B8, d8, B9, d9, e, c0, c1, c2, c3, c4, c5, c6, c7, c8, c9, l3, g3, l7, g7, l8, g8, l9, g9⟩ := at_T40 hC (i : Int) (by omega) (by have := hC.1; omega)
 have hr : rd_T40 l (i : Int) = x := by
  unfold rd_T40
  rw [Int.toNat_natCast, List.getD_eq_getElem?_getD, hx]
  rfl
 rw [hr] at c0 c1 c2 c3 c4 c5 c6 c7 c8 c9 l3 g3 l7 g7 l8 g8 l9 g9
 rw [Int.toNat_natCast] at c0 c1 c2 c3 c4 c5 c6 c7 c8 c9
 exact ⟨ad, B3, d3, B7, d7, B8, d8, B9, d9, e, ⟨c0, c1, c2, c3, c4, c5, c6, c7, c8, c9⟩, g3, g7, g8, g9⟩
theorem AC.below {W W1 : World} {p : Addr} {x : S40} {B3 B7 B8 B9 : Option Addr} {d3 d7 d8 d9 : Nat} (h : AC W p x B3 B7 B8 B9 d3 d7 d8 d9) (hb : Below W.heap.size W W1) : AC W1 p x B3 B7 B8 B9 d3 d7 d8 d9 := by
 obtain ⟨h0, h1, h2, h3, h4, h5, h6, h7, h8, h9⟩ := h
 have f : ∀ {a v}, W.cell? a = some v → W1.cell? a = some v := fun h => (hb.cell (World.block_lt_of_cell? _ _ h)).trans h
 exact ⟨f h0, f h1, f h2, f h3, f h4, f h5, f h6, f h7, f h8, f h9⟩
set_option maxHeartbeats 8000000 in
set_option maxRecDepth 100000 in
theorem exprNode_case (f1 : ByteArray) (f2 : Int) (w : World) (hg : GG w) {A3 A4 A5 : Option Addr} {n3 c3 n4 c4 n5 c5 : Nat} (l : List S33) (x : S33) (hx : XN x) (hi : l[0]? = some x) (hC4 : k33.C w A4 n4 l) (la : List S40) (hla : la.length ≤ 100000000000) (ha : ∀ a ∈ la, XN a.f4 ∧ -9223372036854775808 ≤ a.f2 ∧ a.f2 ≤ 9223372036854775807 ∧ a.f3.length ≤ 100000000000) (hC5 : k40.C w A5 n5 la) :
  Calls Tryd.prog 37 #[.agg #[.int .i64 8, .string f1, .int .i64 f2, .slice A3 n3 c3, .slice A4 n4 c4, .slice A5 n5 c5]] w (ND w) := by
 have E : ∀ W : World, ∀ o : Obj, (W.alloc o).heap.size = W.heap.size + 1 := fun W o => Array.size_push _
 obtain ⟨W0, hW0⟩ : ∃ W0, (w.alloc (.cells #[.int .i64 8, .string f1, .int .i64 f2, .slice A3 n3 c3, .slice A4 n4 c4, .slice A5 n5 c5] 33)).alloc (.cells #[.string ⟨#[]⟩, .slice none 0 0, .int .i64 0] 56) = W0 := ⟨_, rfl⟩
 have HB0 : Aside0 (Below w.heap.size w W0) := ⟨by rw [← hW0]; exact below_alloc (below_alloc (Below.refl _ _) _) _⟩
 have hbx : Aside0 (W0.heap[w.heap.size]? = some (.cells #[.int .i64 8, .string f1, .int .i64 f2, .slice A3 n3 c3, .slice A4 n4 c4, .slice A5 n5 c5] 33 (0, 0))) := ⟨by rw [← hW0]; exact (Below.heap_alloc _ _ _ (by rw [E]; omega)).trans (blk_new w _)⟩
 have hrx : Aside0 (W0.heap[w.heap.size + 1]? = some (.cells #[.string ⟨#[]⟩, .slice none 0 0, .int .i64 0] 56 (0, 0))) := ⟨by rw [← hW0, ← E w]; exact blk_new _ _⟩
 have hl1 : Aside0 (W0.heap.size = w.heap.size + 2) := ⟨by rw [← hW0, E, E]⟩
 have hg0 := Aside0.mk (GG.below hg HB0.out)
 have hp4 : 0 < n4 := by have h1 := (List.getElem?_eq_some_iff.1 hi).1; have h2 := hC4.1; omega
 obtain ⟨ad, B3, d3, B4, d4, B5, d5, rfl, he, g3, g4, g5, _, _, _⟩ := elem33 (Kd.C_below hC4 HB0.out) 0 hi
 rw [show ad.add (0 * 6) = ad by simp [Addr.add]] at he
 have he := Aside0.mk he
 have h3 := Aside0.mk g3
 have h4 := Aside0.mk g4
 have h5 := Aside0.mk g5
 clear g3 g4 g5 hC4
 have hC := Aside0.mk (Kd.C_below hC5 HB0.out)
 have hn5 : Aside0 (la.length = n5) := ⟨hC5.1⟩
 clear hC5
 have k0 := (blk_cell hbx.out 0).trans rfl
 have k1 := (blk_cell hbx.out 1).trans rfl
 have k2 := (blk_cell hbx.out 2).trans rfl
 have k3 := (blk_cell hbx.out 3).trans rfl
 have k4 := (blk_cell hbx.out 4).trans rfl
 have k5 := (blk_cell hbx.out 5).trans rfl
 go_enter Tryd.func37, Tryd.ntmps37
 go_wp2
 (try rw [hW0])
 clear hW0 k0 k1 k2 k3 k4 k5
 have HB_ : Below W0.heap.size W0 W0.drew := below_drew1 (Below.refl _ _)
 refine start_ (n := 10) (S := fun w' => w'.cell? ⟨w.heap.size, 4, none⟩ = some (.slice (some ad) n4 c4) ∧ w'.cell? ad = some (.int .i64 x.f0) ∧ w'.cell? ⟨(ad).block, (ad).off + 1, none⟩ = some (.string x.f1) ∧ w'.cell? ⟨(ad).block, (ad).off + 2, none⟩ = some (.int .i64 x.f2) ∧ w'.cell? ⟨(ad).block, (ad).off + 3, none⟩ = some (.slice B3 x.f3.length d3) ∧ w'.cell? ⟨(ad).block, (ad).off + 4, none⟩ = some (.slice B4 x.f4.length d4) ∧ w'.cell? ⟨(ad).block, (ad).off + 5, none⟩ = some (.slice B5 x.f5.length d5)) (ds := [9]) (bm 10 0) (by kernel_rfl) rfl rfl ⟨(blk_cell (blk_below hbx.out HB_) 4).trans rfl, (he.out.below HB_).1, (he.out.below HB_).2.1, (he.out.below HB_).2.2.1, (he.out.below HB_).2.2.2.1, (he.out.below HB_).2.2.2.2.1, (he.out.below HB_).2.2.2.2.2⟩ (fun hHeld => ?_)
 generalize W0.drew = W9 at *
 refine pure_ (i := 1) (N := some 83) (v := ?_) (a' := ?_) (bm 10 2) rfl rfl (by kernel_rfl) (fun _ _ _ h => h) (Or.inl ⟨by rfl, ?_⟩) ?_ ?_
 rotate_left
 ·intro w'
  go_simp
  with_reducible rfl
 rotate_left
 ·simp only [Act.put, sA, sB, sC, i64_w, i32_w]
  rfl
 refine take_ (i := 2) (N := some 84) (v := ?_) (a' := ?_) (bm 10 6) rfl rfl (by kernel_rfl) (fun _ _ _ h => h) (Or.inl ⟨by rfl, ?_⟩) hHeld ?_ ?_
 rotate_left
 ·rintro w' ⟨s0, s1, s2, s3, s4, s5, s6⟩
  go_simp
  with_reducible rfl
 rotate_left
 ·simp only [Act.put, sA, sB, sC, i64_w, i32_w]
  rfl
 refine pure_ (i := 3) (N := some 85) (v := ?_) (a' := ?_) (bm 10 14) rfl rfl (by kernel_rfl) (fun _ _ _ h => h) (Or.inl ⟨by rfl, ?_⟩) ?_ ?_
 rotate_left
 ·intro w'
  go_simp
  with_reducible rfl
 rotate_left
 ·simp only [Act.put, sA, sB, sC, i64_w, i32_w]
  rfl
 refine take_ (i := 4) (N := some 86) (v := ?_) (a' := ?_) (bm 10 30) rfl rfl (by kernel_rfl) (fun _ _ _ h => h) (Or.inl ⟨by rfl, ?_⟩) hHeld ?_ ?_
 rotate_left
 ·rintro w' ⟨s0, s1, s2, s3, s4, s5, s6⟩
  go_simp
  with_reducible rfl
 rotate_left
 ·simp only [Act.put, sA, sB, sC, i64_w, i32_w]
  rfl
 refine join_ (σ := ByteArray × Option Addr × Nat × Nat × Nat × Nat) 1 (bm 10 511) (fun s_ => [(82, .agg #[.string ⟨#[99, 97, 115, 101]⟩, .slice none 0 0, .int .i64 0]), (87, .agg #[.string s_.1, .slice s_.2.1 s_.2.2.1 s_.2.2.2.1, .int .i64 0]), (88, .slice (some ⟨s_.2.2.2.2.1, 0, none⟩) 2 2), (89, .agg #[.string ⟨#[]⟩, .slice (some ⟨s_.2.2.2.2.1, 0, none⟩) 2 2, .int .i64 0]), (5, .pointer (some ⟨s_.2.2.2.2.2, 0, none⟩))]) (fun s_ w' => (Below W0.heap.size W0 w') ∧ (NR w' W0.heap.size (some s_.2.2.2.2.2) (some ⟨s_.2.2.2.2.1, 0, Option.none⟩) 2 2) ∧ (w'.heap[s_.2.2.2.2.2]? = some (.cells #[.string ⟨#[]⟩, .slice none 0 0, .int .i64 0] 56 (0, 0)) ∧ W0.heap.size ≤ s_.2.2.2.2.2)) ?_ ?_
 rotate_left
 ·intro hJ0_5_6_7_8
  refine join_ (σ := ByteArray × Option Addr × Nat × Nat × Nat × Nat) 2 (bm 10 255) (fun s_ => [(82, .agg #[.string ⟨#[99, 97, 115, 101]⟩, .slice none 0 0, .int .i64 0]), (87, .agg #[.string s_.1, .slice s_.2.1 s_.2.2.1 s_.2.2.2.1, .int .i64 0]), (88, .slice (some ⟨s_.2.2.2.2.1, 0, none⟩) 2 2), (89, .agg #[.string ⟨#[]⟩, .slice (some ⟨s_.2.2.2.2.1, 0, none⟩) 2 2, .int .i64 0])]) (fun s_ w' => (Below W0.heap.size W0 w') ∧ (NR w' W0.heap.size Option.none (some ⟨s_.2.2.2.2.1, 0, Option.none⟩) 2 2)) ?_ ?_
  rotate_left
  ·intro hJ0_5_6_7
   refine join_ (σ := ByteArray × Option Addr × Nat × Nat × Nat × Nat) 2 (bm 10 383) (fun s_ => [(82, .agg #[.string ⟨#[99, 97, 115, 101]⟩, .slice none 0 0, .int .i64 0]), (87, .agg #[.string s_.1, .slice s_.2.1 s_.2.2.1 s_.2.2.2.1, .int .i64 0]), (88, .slice (some ⟨s_.2.2.2.2.1, 0, none⟩) 2 2), (5, .pointer (some ⟨s_.2.2.2.2.2, 0, none⟩))]) (fun s_ w' => (Below W0.heap.size W0 w') ∧ (NR w' W0.heap.size (some s_.2.2.2.2.2) (some ⟨s_.2.2.2.2.1, 0, Option.none⟩) 2 2) ∧ (w'.heap[s_.2.2.2.2.2]? = some (.cells #[.string ⟨#[]⟩, .slice none 0 0, .int .i64 0] 56 (0, 0)) ∧ W0.heap.size ≤ s_.2.2.2.2.2)) ?_ ?_
   rotate_left
   ·intro hJ0_5_6_8
    refine join_ (σ := ByteArray × Option Addr × Nat × Nat × Nat × Nat) 3 (bm 10 127) (fun s_ => [(82, .agg #[.string ⟨#[99, 97, 115, 101]⟩, .slice none 0 0, .int .i64 0]), (87, .agg #[.string s_.1, .slice s_.2.1 s_.2.2.1 s_.2.2.2.1, .int .i64 0]), (88, .slice (some ⟨s_.2.2.2.2.1, 0, none⟩) 2 2)]) (fun s_ w' => (Below W0.heap.size W0 w') ∧ (NR w' W0.heap.size Option.none (some ⟨s_.2.2.2.2.1, 0, Option.none⟩) 2 2)) ?_ ?_
    rotate_left
    ·intro hJ0_5_6
     refine join_ (σ := ByteArray × Option Addr × Nat × Nat × Nat × Nat) 3 (bm 10 319) (fun s_ => [(82, .agg #[.string ⟨#[99, 97, 115, 101]⟩, .slice none 0 0, .int .i64 0]), (87, .agg #[.string s_.1, .slice s_.2.1 s_.2.2.1 s_.2.2.2.1, .int .i64 0]), (5, .pointer (some ⟨s_.2.2.2.2.2, 0, none⟩))]) (fun s_ w' => (Below W0.heap.size W0 w') ∧ (NX w' W0.heap.size (some s_.2.2.2.2.2) s_.2.1 s_.2.2.1 ∧ s_.2.2.1 ≤ s_.2.2.2.1) ∧ (w'.heap[s_.2.2.2.2.2]? = some (.cells #[.string ⟨#[]⟩, .slice none 0 0, .int .i64 0] 56 (0, 0)) ∧ W0.heap.size ≤ s_.2.2.2.2.2)) ?_ ?_
     rotate_left
     ·intro hJ0_5_8
      refine join_ (σ := ByteArray × Option Addr × Nat × Nat × Nat × Nat) 4 (bm 10 63) (fun s_ => [(82, .agg #[.string ⟨#[99, 97, 115, 101]⟩, .slice none 0 0, .int .i64 0]), (87, .agg #[.string s_.1, .slice s_.2.1 s_.2.2.1 s_.2.2.2.1, .int .i64 0])]) (fun s_ w' => (Below W0.heap.size W0 w') ∧ (NX w' W0.heap.size Option.none s_.2.1 s_.2.2.1 ∧ s_.2.2.1 ≤ s_.2.2.2.1)) ?_ ?_
      rotate_left
      ·intro hJ0_5
       refine join_ (σ := ByteArray × Option Addr × Nat × Nat × Nat × Nat) 4 (bm 10 287) (fun s_ => [(82, .agg #[.string ⟨#[99, 97, 115, 101]⟩, .slice none 0 0, .int .i64 0]), (5, .pointer (some ⟨s_.2.2.2.2.2, 0, none⟩))]) (fun s_ w' => (Below W0.heap.size W0 w') ∧ (w'.heap[s_.2.2.2.2.2]? = some (.cells #[.string ⟨#[]⟩, .slice none 0 0, .int .i64 0] 56 (0, 0)) ∧ W0.heap.size ≤ s_.2.2.2.2.2)) ?_ ?_
       rotate_left
       ·intro hJ0_8
        refine join_ (σ := ByteArray × Option Addr × Nat × Nat × Nat × Nat) 5 (bm 10 31) (fun s_ => [(82, .agg #[.string ⟨#[99, 97, 115, 101]⟩, .slice none 0 0, .int .i64 0])]) (fun s_ w' => (Below W0.heap.size W0 w')) ?_ ?_
        rotate_left
        ·intro hJ0
         refine join_ (σ := ByteArray × Option Addr × Nat × Nat × Nat × Nat) 5 (bm 10 286) (fun s_ => [(5, .pointer (some ⟨s_.2.2.2.2.2, 0, none⟩))]) (fun s_ w' => (Below W0.heap.size W0 w') ∧ (w'.heap[s_.2.2.2.2.2]? = some (.cells #[.string ⟨#[]⟩, .slice none 0 0, .int .i64 0] 56 (0, 0)) ∧ W0.heap.size ≤ s_.2.2.2.2.2)) ?_ ?_
         rotate_left
         ·intro hJ8
          refine two_ (i := 0) (j := 8) (Ni := some 82) (Nj := some 5) (bm 10 31) (bm 10 286) rfl rfl rfl rfl (by kernel_rfl) (by decide) (by decide) (fun K hK => ?_) (fun K hK => ?_)
          ·skip
           refine goes_ Tryd.func49 (by kernel_rfl) rfl #[.string ⟨#[99, 97, 115, 101]⟩] (by rfl) rfl rfl (by simp only [List.map_toArray, List.map_cons, List.map_nil]; rfl) ?_
           (with_reducible refine (w_calls _ W9).mono ?_)
           rintro e w3 ⟨rfl, hbq⟩
           refine ⟨_, rfl, ?_⟩
           have HBn := below_step HB_ hbq
           refine hK.out _ _ ⟨(blk_cell (blk_below hbx.out HBn) 4).trans rfl, (he.out.below HBn).1, (he.out.below HBn).2.1, (he.out.below HBn).2.2.1, (he.out.below HBn).2.2.2.1, (he.out.below HBn).2.2.2.2.1, (he.out.below HBn).2.2.2.2.2⟩ (fun hHeld => ?_)
           clear hK K
           refine norm_ (a' := ?_) ?_ ?_
           rotate_left
           ·show Act.put _ (some 82) _ = _
            simp only [Act.put, sA, sB, sC, i64_w, i32_w]
            rfl
           exact norm_ (by first | (simp only [putAll, Act.put, List.setIfInBounds_toArray, List.set_cons_zero, List.set_cons_succ]; done) | (simp only [putAll, Act.put, List.setIfInBounds_toArray, List.set_cons_zero, List.set_cons_succ]; rfl)) (hJ0 (⟨#[]⟩, none, 0, 0, 0, 0) _ HBn)
          ·skip
           refine value_ (w1 := ?_) (v := ?_) (by rfl) rfl ?_ ?_
           rotate_left 2
           ·go_simp
            constructor
            ·rfl
            ·rfl
           have hbq := below_alloc (Below.refl W9.heap.size W9) (.cells #[.string ⟨#[]⟩, .slice none 0 0, .int .i64 0] 56)
           have HBn := below_step HB_ hbq
           refine hK.out _ _ ⟨(blk_cell (blk_below hbx.out HBn) 4).trans rfl, (he.out.below HBn).1, (he.out.below HBn).2.1, (he.out.below HBn).2.2.1, (he.out.below HBn).2.2.2.1, (he.out.below HBn).2.2.2.2.1, (he.out.below HBn).2.2.2.2.2⟩ (fun hHeld => ?_)
           clear hK K
           refine norm_ (a' := ?_) ?_ ?_
           rotate_left
           ·show Act.put _ (some 5) _ = _
            simp only [Act.put, sA, sB, sC, i64_w, i32_w]
            rfl
           exact norm_ (by first | (simp only [putAll, Act.put, List.setIfInBounds_toArray, List.set_cons_zero, List.set_cons_succ]; done) | (simp only [putAll, Act.put, List.setIfInBounds_toArray, List.set_cons_zero, List.set_cons_succ]; rfl)) (hJ8 (⟨#[]⟩, none, 0, 0, 0, W9.heap.size) _ ⟨HBn, ⟨blk_new W9 _, HB_.size⟩⟩)
         ·skip
          rintro ⟨s5, A5', n5', c5', b6, xb⟩ W9 ⟨HB_, hx8⟩
          skip
          have hHeld : W9.cell? ⟨w.heap.size, 4, none⟩ = some (.slice (some ad) n4 c4) ∧ W9.cell? ad = some (.int .i64 x.f0) ∧ W9.cell? ⟨(ad).block, (ad).off + 1, none⟩ = some (.string x.f1) ∧ W9.cell? ⟨(ad).block, (ad).off + 2, none⟩ = some (.int .i64 x.f2) ∧ W9.cell? ⟨(ad).block, (ad).off + 3, none⟩ = some (.slice B3 x.f3.length d3) ∧ W9.cell? ⟨(ad).block, (ad).off + 4, none⟩ = some (.slice B4 x.f4.length d4) ∧ W9.cell? ⟨(ad).block, (ad).off + 5, none⟩ = some (.slice B5 x.f5.length d5) := ⟨(blk_cell (blk_below hbx.out HB_) 4).trans rfl, (he.out.below HB_).1, (he.out.below HB_).2.1, (he.out.below HB_).2.2.1, (he.out.below HB_).2.2.2.1, (he.out.below HB_).2.2.2.2.1, (he.out.below HB_).2.2.2.2.2⟩
          refine norm_ (a' := ?_) ?_ ?_
          rotate_left
          ·simp only [putAll, Act.put, List.setIfInBounds_toArray, List.set_cons_zero, List.set_cons_succ]
           rfl
          refine one_ (i := 0) (N := some 82) (bm 10 287) rfl rfl (by kernel_rfl) (by decide) (fun K hK => ?_)
          refine goes_ Tryd.func49 (by kernel_rfl) rfl #[.string ⟨#[99, 97, 115, 101]⟩] (by rfl) rfl rfl (by simp only [List.map_toArray, List.map_cons, List.map_nil]; rfl) ?_
          (with_reducible refine (w_calls _ W9).mono ?_)
          rintro e w3 ⟨rfl, hbq⟩
          refine ⟨_, rfl, ?_⟩
          have HBn := below_step HB_ hbq
          refine hK.out _ _ ⟨(blk_cell (blk_below hbx.out HBn) 4).trans rfl, (he.out.below HBn).1, (he.out.below HBn).2.1, (he.out.below HBn).2.2.1, (he.out.below HBn).2.2.2.1, (he.out.below HBn).2.2.2.2.1, (he.out.below HBn).2.2.2.2.2⟩ (fun hHeld => ?_)
          clear hK K
          refine norm_ (a' := ?_) ?_ ?_
          rotate_left
          ·show Act.put _ (some 82) _ = _
           simp only [Act.put, sA, sB, sC, i64_w, i32_w]
           rfl
          exact norm_ (by first | (simp only [putAll, Act.put, List.setIfInBounds_toArray, List.set_cons_zero, List.set_cons_succ]; done) | (simp only [putAll, Act.put, List.setIfInBounds_toArray, List.set_cons_zero, List.set_cons_succ]; rfl)) (hJ0_8 (s5, A5', n5', c5', b6, xb) _ ⟨HBn, ⟨blk_below hx8.1 hbq, hx8.2⟩⟩)
        ·skip
         rintro ⟨s5, A5', n5', c5', b6, xb⟩ W9 HB_
         skip
         have hHeld : W9.cell? ⟨w.heap.size, 4, none⟩ = some (.slice (some ad) n4 c4) ∧ W9.cell? ad = some (.int .i64 x.f0) ∧ W9.cell? ⟨(ad).block, (ad).off + 1, none⟩ = some (.string x.f1) ∧ W9.cell? ⟨(ad).block, (ad).off + 2, none⟩ = some (.int .i64 x.f2) ∧ W9.cell? ⟨(ad).block, (ad).off + 3, none⟩ = some (.slice B3 x.f3.length d3) ∧ W9.cell? ⟨(ad).block, (ad).off + 4, none⟩ = some (.slice B4 x.f4.length d4) ∧ W9.cell? ⟨(ad).block, (ad).off + 5, none⟩ = some (.slice B5 x.f5.length d5) := ⟨(blk_cell (blk_below hbx.out HB_) 4).trans rfl, (he.out.below HB_).1, (he.out.below HB_).2.1, (he.out.below HB_).2.2.1, (he.out.below HB_).2.2.2.1, (he.out.below HB_).2.2.2.2.1, (he.out.below HB_).2.2.2.2.2⟩
         refine norm_ (a' := ?_) ?_ ?_
         rotate_left
         ·simp only [putAll, Act.put, List.setIfInBounds_toArray, List.set_cons_zero, List.set_cons_succ]
          rfl
         refine two_ (i := 5) (j := 8) (Ni := some 87) (Nj := some 5) (bm 10 63) (bm 10 287) rfl rfl rfl rfl (by kernel_rfl) (by decide) (by decide) (fun K hK => ?_) (fun K hK => ?_)
         ·skip
          refine goes_ Tryd.func37 (by kernel_rfl) rfl #[.agg #[.int .i64 x.f0, .string x.f1, .int .i64 x.f2, .slice B3 x.f3.length d3, .slice B4 x.f4.length d4, .slice B5 x.f5.length d5]] (by rfl) rfl rfl (by simp only [List.map_toArray, List.map_cons, List.map_nil]; rfl) ?_
          (with_reducible refine (hx.at W9 (GG.below hg0.out HB_) (Kd.C_below h3.out HB_) (Kd.C_below h4.out HB_) (Kd.C_below h5.out HB_)).mono ?_)
          rintro e w3 ⟨s5, A5', n5', c5', rfl, hc5, hn5, hbq⟩
          refine ⟨_, rfl, ?_⟩
          have HBn := below_step HB_ hbq
          refine hK.out _ _ ⟨(blk_cell (blk_below hbx.out HBn) 4).trans rfl, (he.out.below HBn).1, (he.out.below HBn).2.1, (he.out.below HBn).2.2.1, (he.out.below HBn).2.2.2.1, (he.out.below HBn).2.2.2.2.1, (he.out.below HBn).2.2.2.2.2⟩ (fun hHeld => ?_)
          clear hK K
          refine norm_ (a' := ?_) ?_ ?_
          rotate_left
          ·show Act.put _ (some 87) _ = _
           simp only [Act.put, sA, sB, sC, i64_w, i32_w]
           rfl
          exact norm_ (by first | (simp only [putAll, Act.put, List.setIfInBounds_toArray, List.set_cons_zero, List.set_cons_succ]; done) | (simp only [putAll, Act.put, List.setIfInBounds_toArray, List.set_cons_zero, List.set_cons_succ]; rfl)) (hJ0_5 (s5, A5', n5', c5', b6, xb) _ ⟨HBn, ⟨NL.nx hn5 HB_.size (fun y hy => by cases hy), hc5⟩⟩)
         ·skip
          refine value_ (w1 := ?_) (v := ?_) (by rfl) rfl ?_ ?_
          rotate_left 2
          ·go_simp
           constructor
           ·rfl
           ·rfl
          have hbq := below_alloc (Below.refl W9.heap.size W9) (.cells #[.string ⟨#[]⟩, .slice none 0 0, .int .i64 0] 56)
          have HBn := below_step HB_ hbq
          refine hK.out _ _ ⟨(blk_cell (blk_below hbx.out HBn) 4).trans rfl, (he.out.below HBn).1, (he.out.below HBn).2.1, (he.out.below HBn).2.2.1, (he.out.below HBn).2.2.2.1, (he.out.below HBn).2.2.2.2.1, (he.out.below HBn).2.2.2.2.2⟩ (fun hHeld => ?_)
          clear hK K
          refine norm_ (a' := ?_) ?_ ?_
          rotate_left
          ·show Act.put _ (some 5) _ = _
           simp only [Act.put, sA, sB, sC, i64_w, i32_w]
           rfl
          exact norm_ (by first | (simp only [putAll, Act.put, List.setIfInBounds_toArray, List.set_cons_zero, List.set_cons_succ]; done) | (simp only [putAll, Act.put, List.setIfInBounds_toArray, List.set_cons_zero, List.set_cons_succ]; rfl)) (hJ0_8 (s5, A5', n5', c5', b6, W9.heap.size) _ ⟨HBn, ⟨blk_new W9 _, HB_.size⟩⟩)
       ·skip
        rintro ⟨s5, A5', n5', c5', b6, xb⟩ W9 ⟨HB_, hx8⟩
        skip
        have hHeld : W9.cell? ⟨w.heap.size, 4, none⟩ = some (.slice (some ad) n4 c4) ∧ W9.cell? ad = some (.int .i64 x.f0) ∧ W9.cell? ⟨(ad).block, (ad).off + 1, none⟩ = some (.string x.f1) ∧ W9.cell? ⟨(ad).block, (ad).off + 2, none⟩ = some (.int .i64 x.f2) ∧ W9.cell? ⟨(ad).block, (ad).off + 3, none⟩ = some (.slice B3 x.f3.length d3) ∧ W9.cell? ⟨(ad).block, (ad).off + 4, none⟩ = some (.slice B4 x.f4.length d4) ∧ W9.cell? ⟨(ad).block, (ad).off + 5, none⟩ = some (.slice B5 x.f5.length d5) := ⟨(blk_cell (blk_below hbx.out HB_) 4).trans rfl, (he.out.below HB_).1, (he.out.below HB_).2.1, (he.out.below HB_).2.2.1, (he.out.below HB_).2.2.2.1, (he.out.below HB_).2.2.2.2.1, (he.out.below HB_).2.2.2.2.2⟩
        refine norm_ (a' := ?_) ?_ ?_
        rotate_left
        ·simp only [putAll, Act.put, List.setIfInBounds_toArray, List.set_cons_zero, List.set_cons_succ]
         rfl
        refine one_ (i := 5) (N := some 87) (bm 10 319) rfl rfl (by kernel_rfl) (by decide) (fun K hK => ?_)
        refine goes_ Tryd.func37 (by kernel_rfl) rfl #[.agg #[.int .i64 x.f0, .string x.f1, .int .i64 x.f2, .slice B3 x.f3.length d3, .slice B4 x.f4.length d4, .slice B5 x.f5.length d5]] (by rfl) rfl rfl (by simp only [List.map_toArray, List.map_cons, List.map_nil]; rfl) ?_
        (with_reducible refine (hx.at W9 (GG.below hg0.out HB_) (Kd.C_below h3.out HB_) (Kd.C_below h4.out HB_) (Kd.C_below h5.out HB_)).mono ?_)
        rintro e w3 ⟨s5, A5', n5', c5', rfl, hc5, hn5, hbq⟩
        refine ⟨_, rfl, ?_⟩
        have HBn := below_step HB_ hbq
        refine hK.out _ _ ⟨(blk_cell (blk_below hbx.out HBn) 4).trans rfl, (he.out.below HBn).1, (he.out.below HBn).2.1, (he.out.below HBn).2.2.1, (he.out.below HBn).2.2.2.1, (he.out.below HBn).2.2.2.2.1, (he.out.below HBn).2.2.2.2.2⟩ (fun hHeld => ?_)
        clear hK K
        refine norm_ (a' := ?_) ?_ ?_
        rotate_left
        ·show Act.put _ (some 87) _ = _
         simp only [Act.put, sA, sB, sC, i64_w, i32_w]
         rfl
        exact norm_ (by first | (simp only [putAll, Act.put, List.setIfInBounds_toArray, List.set_cons_zero, List.set_cons_succ]; done) | (simp only [putAll, Act.put, List.setIfInBounds_toArray, List.set_cons_zero, List.set_cons_succ]; rfl)) (hJ0_5_8 (s5, A5', n5', c5', b6, xb) _ ⟨HBn, ⟨NL.nx hn5 HB_.size (fun y hy => by obtain rfl := Option.some.inj hy; exact (Array.getElem?_eq_some_iff.1 hx8.1).1), hc5⟩, ⟨blk_below hx8.1 hbq, hx8.2⟩⟩)
      ·skip
       rintro ⟨s5, A5', n5', c5', b6, xb⟩ W9 ⟨HB_, hn5'⟩
       skip
       have hHeld : W9.cell? ⟨w.heap.size, 4, none⟩ = some (.slice (some ad) n4 c4) ∧ W9.cell? ad = some (.int .i64 x.f0) ∧ W9.cell? ⟨(ad).block, (ad).off + 1, none⟩ = some (.string x.f1) ∧ W9.cell? ⟨(ad).block, (ad).off + 2, none⟩ = some (.int .i64 x.f2) ∧ W9.cell? ⟨(ad).block, (ad).off + 3, none⟩ = some (.slice B3 x.f3.length d3) ∧ W9.cell? ⟨(ad).block, (ad).off + 4, none⟩ = some (.slice B4 x.f4.length d4) ∧ W9.cell? ⟨(ad).block, (ad).off + 5, none⟩ = some (.slice B5 x.f5.length d5) := ⟨(blk_cell (blk_below hbx.out HB_) 4).trans rfl, (he.out.below HB_).1, (he.out.below HB_).2.1, (he.out.below HB_).2.2.1, (he.out.below HB_).2.2.2.1, (he.out.below HB_).2.2.2.2.1, (he.out.below HB_).2.2.2.2.2⟩
       refine norm_ (a' := ?_) ?_ ?_
       rotate_left
       ·simp only [putAll, Act.put, List.setIfInBounds_toArray, List.set_cons_zero, List.set_cons_succ]
        rfl
       refine two_ (i := 6) (j := 8) (Ni := some 88) (Nj := some 5) (bm 10 127) (bm 10 319) rfl rfl rfl rfl (by kernel_rfl) (by decide) (by decide) (fun K hK => ?_) (fun K hK => ?_)
       ·skip
        refine value_ (w1 := ?_) (v := ?_) (by rfl) rfl ?_ ?_
        rotate_left 2
        ·go_simp
         constructor
         ·rfl
         ·rfl
        have hbq := below_alloc (Below.refl W9.heap.size W9) (.cells #[.string ⟨#[99, 97, 115, 101]⟩, .slice none 0 0, .int .i64 0, .string s5, .slice A5' n5' c5', .int .i64 0] 56)
        have HBn := below_step HB_ hbq
        refine hK.out _ _ ⟨(blk_cell (blk_below hbx.out HBn) 4).trans rfl, (he.out.below HBn).1, (he.out.below HBn).2.1, (he.out.below HBn).2.2.1, (he.out.below HBn).2.2.2.1, (he.out.below HBn).2.2.2.2.1, (he.out.below HBn).2.2.2.2.2⟩ (fun hHeld => ?_)
        clear hK K
        refine norm_ (a' := ?_) ?_ ?_
        rotate_left
        ·show Act.put _ (some 88) _ = _
         simp only [Act.put, sA, sB, sC, i64_w, i32_w]
         rfl
        exact norm_ (by first | (simp only [putAll, Act.put, List.setIfInBounds_toArray, List.set_cons_zero, List.set_cons_succ]; done) | (simp only [putAll, Act.put, List.setIfInBounds_toArray, List.set_cons_zero, List.set_cons_succ]; rfl)) (hJ0_5_6 (s5, A5', n5', c5', W9.heap.size, xb) _ ⟨HBn, NR.litX hn5'.1 hn5'.2 HB_.size (fun e => by cases e)⟩)
       ·skip
        refine value_ (w1 := ?_) (v := ?_) (by rfl) rfl ?_ ?_
        rotate_left 2
        ·go_simp
         constructor
         ·rfl
         ·rfl
        have hbq := below_alloc (Below.refl W9.heap.size W9) (.cells #[.string ⟨#[]⟩, .slice none 0 0, .int .i64 0] 56)
        have HBn := below_step HB_ hbq
        refine hK.out _ _ ⟨(blk_cell (blk_below hbx.out HBn) 4).trans rfl, (he.out.below HBn).1, (he.out.below HBn).2.1, (he.out.below HBn).2.2.1, (he.out.below HBn).2.2.2.1, (he.out.below HBn).2.2.2.2.1, (he.out.below HBn).2.2.2.2.2⟩ (fun hHeld => ?_)
        clear hK K
        refine norm_ (a' := ?_) ?_ ?_
        rotate_left
        ·show Act.put _ (some 5) _ = _
         simp only [Act.put, sA, sB, sC, i64_w, i32_w]
         rfl
        exact norm_ (by first | (simp only [putAll, Act.put, List.setIfInBounds_toArray, List.set_cons_zero, List.set_cons_succ]; done) | (simp only [putAll, Act.put, List.setIfInBounds_toArray, List.set_cons_zero, List.set_cons_succ]; rfl)) (hJ0_5_8 (s5, A5', n5', c5', b6, W9.heap.size) _ ⟨HBn, ⟨NX.newx hn5'.1 _, hn5'.2⟩, ⟨blk_new W9 _, HB_.size⟩⟩)
     ·skip
      rintro ⟨s5, A5', n5', c5', b6, xb⟩ W9 ⟨HB_, hn5', hx8⟩
      skip
      have hHeld : W9.cell? ⟨w.heap.size, 4, none⟩ = some (.slice (some ad) n4 c4) ∧ W9.cell? ad = some (.int .i64 x.f0) ∧ W9.cell? ⟨(ad).block, (ad).off + 1, none⟩ = some (.string x.f1) ∧ W9.cell? ⟨(ad).block, (ad).off + 2, none⟩ = some (.int .i64 x.f2) ∧ W9.cell? ⟨(ad).block, (ad).off + 3, none⟩ = some (.slice B3 x.f3.length d3) ∧ W9.cell? ⟨(ad).block, (ad).off + 4, none⟩ = some (.slice B4 x.f4.length d4) ∧ W9.cell? ⟨(ad).block, (ad).off + 5, none⟩ = some (.slice B5 x.f5.length d5) := ⟨(blk_cell (blk_below hbx.out HB_) 4).trans rfl, (he.out.below HB_).1, (he.out.below HB_).2.1, (he.out.below HB_).2.2.1, (he.out.below HB_).2.2.2.1, (he.out.below HB_).2.2.2.2.1, (he.out.below HB_).2.2.2.2.2⟩
      refine norm_ (a' := ?_) ?_ ?_
      rotate_left
      ·simp only [putAll, Act.put, List.setIfInBounds_toArray, List.set_cons_zero, List.set_cons_succ]
       rfl
      refine one_ (i := 6) (N := some 88) (bm 10 383) rfl rfl (by kernel_rfl) (by decide) (fun K hK => ?_)
      refine value_ (w1 := ?_) (v := ?_) (by rfl) rfl ?_ ?_
      rotate_left 2
      ·go_simp
       constructor
       ·rfl
       ·rfl
      have hbq := below_alloc (Below.refl W9.heap.size W9) (.cells #[.string ⟨#[99, 97, 115, 101]⟩, .slice none 0 0, .int .i64 0, .string s5, .slice A5' n5' c5', .int .i64 0] 56)
      have HBn := below_step HB_ hbq
      refine hK.out _ _ ⟨(blk_cell (blk_below hbx.out HBn) 4).trans rfl, (he.out.below HBn).1, (he.out.below HBn).2.1, (he.out.below HBn).2.2.1, (he.out.below HBn).2.2.2.1, (he.out.below HBn).2.2.2.2.1, (he.out.below HBn).2.2.2.2.2⟩ (fun hHeld => ?_)
      clear hK K
      refine norm_ (a' := ?_) ?_ ?_
      rotate_left
      ·show Act.put _ (some 88) _ = _
       simp only [Act.put, sA, sB, sC, i64_w, i32_w]
       rfl
      exact norm_ (by first | (simp only [putAll, Act.put, List.setIfInBounds_toArray, List.set_cons_zero, List.set_cons_succ]; done) | (simp only [putAll, Act.put, List.setIfInBounds_toArray, List.set_cons_zero, List.set_cons_succ]; rfl)) (hJ0_5_6_8 (s5, A5', n5', c5', W9.heap.size, xb) _ ⟨HBn, NR.litX hn5'.1 hn5'.2 HB_.size (fun e => by have h1 := Option.some.inj e; have h2 := (Array.getElem?_eq_some_iff.1 hx8.1).1; dsimp only at h1 h2; omega), ⟨blk_below hx8.1 hbq, hx8.2⟩⟩)
    ·skip
     rintro ⟨s5, A5', n5', c5', b6, xb⟩ W9 ⟨HB_, hr6⟩
     skip
     have hHeld : W9.cell? ⟨w.heap.size, 4, none⟩ = some (.slice (some ad) n4 c4) ∧ W9.cell? ad = some (.int .i64 x.f0) ∧ W9.cell? ⟨(ad).block, (ad).off + 1, none⟩ = some (.string x.f1) ∧ W9.cell? ⟨(ad).block, (ad).off + 2, none⟩ = some (.int .i64 x.f2) ∧ W9.cell? ⟨(ad).block, (ad).off + 3, none⟩ = some (.slice B3 x.f3.length d3) ∧ W9.cell? ⟨(ad).block, (ad).off + 4, none⟩ = some (.slice B4 x.f4.length d4) ∧ W9.cell? ⟨(ad).block, (ad).off + 5, none⟩ = some (.slice B5 x.f5.length d5) := ⟨(blk_cell (blk_below hbx.out HB_) 4).trans rfl, (he.out.below HB_).1, (he.out.below HB_).2.1, (he.out.below HB_).2.2.1, (he.out.below HB_).2.2.2.1, (he.out.below HB_).2.2.2.2.1, (he.out.below HB_).2.2.2.2.2⟩
     refine norm_ (a' := ?_) ?_ ?_
     rotate_left
     ·simp only [putAll, Act.put, List.setIfInBounds_toArray, List.set_cons_zero, List.set_cons_succ]
      rfl
     refine two_ (i := 7) (j := 8) (Ni := some 89) (Nj := some 5) (bm 10 255) (bm 10 383) rfl rfl rfl rfl (by kernel_rfl) (by decide) (by decide) (fun K hK => ?_) (fun K hK => ?_)
     ·skip
      refine goes_ Tryd.func52 (by kernel_rfl) rfl #[.slice (some ⟨b6, 0, none⟩) 2 2] (by rfl) rfl rfl (by simp only [List.map_toArray, List.map_cons, List.map_nil]; rfl) ?_
      (with_reducible refine (l_calls _ _ _ _).mono ?_)
      rintro e w3 ⟨rfl, hbq⟩
      refine ⟨_, rfl, ?_⟩
      have HBn := below_step HB_ hbq
      refine hK.out _ _ ⟨(blk_cell (blk_below hbx.out HBn) 4).trans rfl, (he.out.below HBn).1, (he.out.below HBn).2.1, (he.out.below HBn).2.2.1, (he.out.below HBn).2.2.2.1, (he.out.below HBn).2.2.2.2.1, (he.out.below HBn).2.2.2.2.2⟩ (fun hHeld => ?_)
      clear hK K
      refine norm_ (a' := ?_) ?_ ?_
      rotate_left
      ·show Act.put _ (some 89) _ = _
       simp only [Act.put, sA, sB, sC, i64_w, i32_w]
       rfl
      exact norm_ (by first | (simp only [putAll, Act.put, List.setIfInBounds_toArray, List.set_cons_zero, List.set_cons_succ]; done) | (simp only [putAll, Act.put, List.setIfInBounds_toArray, List.set_cons_zero, List.set_cons_succ]; rfl)) (hJ0_5_6_7 (s5, A5', n5', c5', b6, xb) _ ⟨HBn, NR.below hr6 hbq⟩)
     ·skip
      refine value_ (w1 := ?_) (v := ?_) (by rfl) rfl ?_ ?_
      rotate_left 2
      ·go_simp
       constructor
       ·rfl
       ·rfl
      have hbq := below_alloc (Below.refl W9.heap.size W9) (.cells #[.string ⟨#[]⟩, .slice none 0 0, .int .i64 0] 56)
      have HBn := below_step HB_ hbq
      refine hK.out _ _ ⟨(blk_cell (blk_below hbx.out HBn) 4).trans rfl, (he.out.below HBn).1, (he.out.below HBn).2.1, (he.out.below HBn).2.2.1, (he.out.below HBn).2.2.2.1, (he.out.below HBn).2.2.2.2.1, (he.out.below HBn).2.2.2.2.2⟩ (fun hHeld => ?_)
      clear hK K
      refine norm_ (a' := ?_) ?_ ?_
      rotate_left
      ·show Act.put _ (some 5) _ = _
       simp only [Act.put, sA, sB, sC, i64_w, i32_w]
       rfl
      exact norm_ (by first | (simp only [putAll, Act.put, List.setIfInBounds_toArray, List.set_cons_zero, List.set_cons_succ]; done) | (simp only [putAll, Act.put, List.setIfInBounds_toArray, List.set_cons_zero, List.set_cons_succ]; rfl)) (hJ0_5_6_8 (s5, A5', n5', c5', b6, W9.heap.size) _ ⟨HBn, NR.newx hr6 _, ⟨blk_new W9 _, HB_.size⟩⟩)
   ·skip
    rintro ⟨s5, A5', n5', c5', b6, xb⟩ W9 ⟨HB_, hr6, hx8⟩
    skip
    have hHeld : W9.cell? ⟨w.heap.size, 4, none⟩ = some (.slice (some ad) n4 c4) ∧ W9.cell? ad = some (.int .i64 x.f0) ∧ W9.cell? ⟨(ad).block, (ad).off + 1, none⟩ = some (.string x.f1) ∧ W9.cell? ⟨(ad).block, (ad).off + 2, none⟩ = some (.int .i64 x.f2) ∧ W9.cell? ⟨(ad).block, (ad).off + 3, none⟩ = some (.slice B3 x.f3.length d3) ∧ W9.cell? ⟨(ad).block, (ad).off + 4, none⟩ = some (.slice B4 x.f4.length d4) ∧ W9.cell? ⟨(ad).block, (ad).off + 5, none⟩ = some (.slice B5 x.f5.length d5) := ⟨(blk_cell (blk_below hbx.out HB_) 4).trans rfl, (he.out.below HB_).1, (he.out.below HB_).2.1, (he.out.below HB_).2.2.1, (he.out.below HB_).2.2.2.1, (he.out.below HB_).2.2.2.2.1, (he.out.below HB_).2.2.2.2.2⟩
    refine norm_ (a' := ?_) ?_ ?_
    rotate_left
    ·simp only [putAll, Act.put, List.setIfInBounds_toArray, List.set_cons_zero, List.set_cons_succ]
     rfl
    refine one_ (i := 7) (N := some 89) (bm 10 511) rfl rfl (by kernel_rfl) (by decide) (fun K hK => ?_)
    refine goes_ Tryd.func52 (by kernel_rfl) rfl #[.slice (some ⟨b6, 0, none⟩) 2 2] (by rfl) rfl rfl (by simp only [List.map_toArray, List.map_cons, List.map_nil]; rfl) ?_
    (with_reducible refine (l_calls _ _ _ _).mono ?_)
    rintro e w3 ⟨rfl, hbq⟩
    refine ⟨_, rfl, ?_⟩
    have HBn := below_step HB_ hbq
    refine hK.out _ _ ⟨(blk_cell (blk_below hbx.out HBn) 4).trans rfl, (he.out.below HBn).1, (he.out.below HBn).2.1, (he.out.below HBn).2.2.1, (he.out.below HBn).2.2.2.1, (he.out.below HBn).2.2.2.2.1, (he.out.below HBn).2.2.2.2.2⟩ (fun hHeld => ?_)
    clear hK K
    refine norm_ (a' := ?_) ?_ ?_
    rotate_left
    ·show Act.put _ (some 89) _ = _
     simp only [Act.put, sA, sB, sC, i64_w, i32_w]
     rfl
    exact norm_ (by first | (simp only [putAll, Act.put, List.setIfInBounds_toArray, List.set_cons_zero, List.set_cons_succ]; done) | (simp only [putAll, Act.put, List.setIfInBounds_toArray, List.set_cons_zero, List.set_cons_succ]; rfl)) (hJ0_5_6_7_8 (s5, A5', n5', c5', b6, xb) _ ⟨HBn, NR.below hr6 hbq, ⟨blk_below hx8.1 hbq, hx8.2⟩⟩)
  ·skip
   rintro ⟨s5, A5', n5', c5', b6, xb⟩ W9 ⟨HB_, hr6⟩
   skip
   have hHeld : W9.cell? ⟨w.heap.size, 4, none⟩ = some (.slice (some ad) n4 c4) ∧ W9.cell? ad = some (.int .i64 x.f0) ∧ W9.cell? ⟨(ad).block, (ad).off + 1, none⟩ = some (.string x.f1) ∧ W9.cell? ⟨(ad).block, (ad).off + 2, none⟩ = some (.int .i64 x.f2) ∧ W9.cell? ⟨(ad).block, (ad).off + 3, none⟩ = some (.slice B3 x.f3.length d3) ∧ W9.cell? ⟨(ad).block, (ad).off + 4, none⟩ = some (.slice B4 x.f4.length d4) ∧ W9.cell? ⟨(ad).block, (ad).off + 5, none⟩ = some (.slice B5 x.f5.length d5) := ⟨(blk_cell (blk_below hbx.out HB_) 4).trans rfl, (he.out.below HB_).1, (he.out.below HB_).2.1, (he.out.below HB_).2.2.1, (he.out.below HB_).2.2.2.1, (he.out.below HB_).2.2.2.2.1, (he.out.below HB_).2.2.2.2.2⟩
   refine norm_ (a' := ?_) ?_ ?_
   rotate_left
   ·simp only [putAll, Act.put, List.setIfInBounds_toArray, List.set_cons_zero, List.set_cons_succ]
    rfl
   refine one_ (i := 8) (N := some 5) (bm 10 511) rfl rfl (by kernel_rfl) (by decide) (fun K hK => ?_)
   refine value_ (w1 := ?_) (v := ?_) (by rfl) rfl ?_ ?_
   rotate_left 2
   ·go_simp
    constructor
    ·rfl
    ·rfl
   have hbq := below_alloc (Below.refl W9.heap.size W9) (.cells #[.string ⟨#[]⟩, .slice none 0 0, .int .i64 0] 56)
   have HBn := below_step HB_ hbq
   refine hK.out _ _ ⟨(blk_cell (blk_below hbx.out HBn) 4).trans rfl, (he.out.below HBn).1, (he.out.below HBn).2.1, (he.out.below HBn).2.2.1, (he.out.below HBn).2.2.2.1, (he.out.below HBn).2.2.2.2.1, (he.out.below HBn).2.2.2.2.2⟩ (fun hHeld => ?_)
   clear hK K
   refine norm_ (a' := ?_) ?_ ?_
   rotate_left
   ·show Act.put _ (some 5) _ = _
    simp only [Act.put, sA, sB, sC, i64_w, i32_w]
    rfl
   exact norm_ (by first | (simp only [putAll, Act.put, List.setIfInBounds_toArray, List.set_cons_zero, List.set_cons_succ]; done) | (simp only [putAll, Act.put, List.setIfInBounds_toArray, List.set_cons_zero, List.set_cons_succ]; rfl)) (hJ0_5_6_7_8 (s5, A5', n5', c5', b6, W9.heap.size) _ ⟨HBn, NR.newx hr6 _, ⟨blk_new W9 _, HB_.size⟩⟩)
 rintro ⟨s5, A5', n5', c5', b6, xb⟩ W9 ⟨HB_, hr6, hx8⟩
 skip
 have hcz0 := (blk_cell hx8.1 0).trans rfl
 have hcz1 := (blk_cell hx8.1 1).trans rfl
 have hcz2 := (blk_cell hx8.1 2).trans rfl
 have hfz0 := blk_frozen hx8.1 0
 have hfz1 := blk_frozen hx8.1 1
 have hfz2 := blk_frozen hx8.1 2
 have hHeld : W9.cell? ⟨w.heap.size, 4, none⟩ = some (.slice (some ad) n4 c4) ∧ W9.cell? ad = some (.int .i64 x.f0) ∧ W9.cell? ⟨(ad).block, (ad).off + 1, none⟩ = some (.string x.f1) ∧ W9.cell? ⟨(ad).block, (ad).off + 2, none⟩ = some (.int .i64 x.f2) ∧ W9.cell? ⟨(ad).block, (ad).off + 3, none⟩ = some (.slice B3 x.f3.length d3) ∧ W9.cell? ⟨(ad).block, (ad).off + 4, none⟩ = some (.slice B4 x.f4.length d4) ∧ W9.cell? ⟨(ad).block, (ad).off + 5, none⟩ = some (.slice B5 x.f5.length d5) := ⟨(blk_cell (blk_below hbx.out HB_) 4).trans rfl, (he.out.below HB_).1, (he.out.below HB_).2.1, (he.out.below HB_).2.2.1, (he.out.below HB_).2.2.2.1, (he.out.below HB_).2.2.2.2.1, (he.out.below HB_).2.2.2.2.2⟩
 refine norm_ (a' := ?_) ?_ ?_
 rotate_left
 ·simp only [putAll, Act.put, List.setIfInBounds_toArray, List.set_cons_zero, List.set_cons_succ]
  rfl
 refine last_ (i := 9) (N := none) (bm 10 1023) rfl rfl (by kernel_rfl) (by decide) (fun K hK => ?_)
 refine skip_ (w1 := ?_) (by rfl) rfl ?_ ?_
 rotate_left
 ·go_simp
  rfl
 refine hK.out _ _ ?_
 clear hK K
 refine done_ (by kernel_rfl) ?_
 clear hHeld
 have hx8' := hx8.2
 have hx8 := hx8.1
 obtain ⟨Wx, hWx⟩ : ∃ Wx, ((W9.setCell ⟨xb, 0, none⟩ (.string ⟨#[]⟩)).setCell ⟨xb, 1, none⟩ (.slice (some ⟨b6, 0, none⟩) 2 2)).setCell ⟨xb, 2, none⟩ (.int .i64 0) = Wx := ⟨_, rfl⟩
 have hXx : Aside0 (Wx.heap[xb]? = some (.cells #[.string ⟨#[]⟩, .slice (some ⟨b6, 0, none⟩) 2 2, .int .i64 0] 56 (0, 0))) := ⟨by rw [← hWx]; exact blk_put (blk_put (blk_put hx8 0 _ rfl) 1 _ rfl) 2 _ rfl⟩
 have hrX : Aside0 (NR Wx W0.heap.size (some xb) (some ⟨b6, 0, none⟩) 2 2) := ⟨by rw [← hWx]; exact ((hr6.far (p := ⟨xb, 0, none⟩) (.inr rfl) _).far (p := ⟨xb, 1, none⟩) (.inr rfl) _).far (p := ⟨xb, 2, none⟩) (.inr rfl) _⟩
 have hBx : Aside0 (Below W0.heap.size W0 Wx) := ⟨by rw [← hWx]; exact ((HB_.setCell (p := ⟨xb, 0, none⟩) hx8' _).setCell (p := ⟨xb, 1, none⟩) hx8' _).setCell (p := ⟨xb, 2, none⟩) hx8' _⟩
 have hsx : Aside0 (xb + 1 ≤ Wx.heap.size ∧ W0.heap.size ≤ xb) := ⟨(Array.getElem?_eq_some_iff.1 hXx.out).1, hx8'⟩
 rw [hWx]
 clear hWx hr6 HB_ hx8 hx8'
 have k5 := (blk_cell (blk_below hbx.out hBx.out) 5).trans rfl
 go_wp2
 go_loopg [6] (n5 + 1) (fun kq v6 w' => ∃ (i m c : Nat) (A : Option Addr), v6 = .int .i64 (i : Int) ∧ i + kq = n5 + 1 ∧ 1 ≤ kq ∧ Aside0 (m ≤ i + 2) ∧ Aside0 (w'.heap[xb]? = some (.cells #[.string ⟨#[]⟩, .slice A m c, .int .i64 0] 56 (0, 0))) ∧ Aside0 (NR w' W0.heap.size (some xb) A m c) ∧ Aside0 (Below W0.heap.size W0 w') ∧ Aside0 (xb + 1 ≤ w'.heap.size ∧ W0.heap.size ≤ xb))
 case atStart => exact ⟨0, 2, 2, _, rfl, by omega, by omega, ⟨by omega⟩, hXx, hrX, hBx, hsx⟩
 case round =>
  obtain ⟨i, m, c, A, rfl, hi, hk, hm, hX, hr, hB, hs⟩ := hrel
  have hXb := hX
  have hrow := hr
  have hxs := hs
  have hBr := hB
  have hms : Aside0 (m ≤ 200000000000) := ⟨by have h1 := hm.out; have h2 := hn5.out; omega⟩
  have hgr := Aside0.mk (GG.below hg0.out hBr.out)
  clear hX hr hs hB hXx hrX hBx hsx k5
  have k5 := (blk_cell (blk_below hbx.out hBr.out) 5).trans rfl
  by_cases hlt : i < n5
  ·have hli : i < la.length := by have := hn5.out; omega
   have hxi : la[i]? = some la[i] := List.getElem?_eq_getElem hli
   have ha := ha _ (List.getElem_mem hli)
   generalize la[i] = a at hxi ha
   obtain ⟨ada, B3, d3, B7, d7, B8, d8, B9, d9, rfl, he, g3, g7, g8, g9⟩ := elem40 (Kd.C_below hC.out hBr.out) i hxi
   have he := Aside0.mk he
   have h3 := Aside0.mk g3
   have h7 := Aside0.mk g7
   have h8 := Aside0.mk g8
   have h9 := Aside0.mk g9
   clear g3 g7 g8 g9
   have p0 : (0 : Int) ≤ (i : Int) := by omega
   have p1 : (i : Int) < (n5 : Int) := by omega
   have q1 : decide ((i : Int) < (n5 : Int)) = true := decide_eq_true p1
   go_wp2
   have HB_ : Below wr.heap.size wr wr.drew := below_drew1 (Below.refl _ _)
   have hg9 := Aside0.mk (GG.below hgr.out HB_)
   refine start_ (n := 21) (S := fun w' => w'.cell? ⟨xb, 1, none⟩ = some (.slice A m c) ∧ w'.cell? ⟨w.heap.size, 5, none⟩ = some (.slice (some ada) n5 c5) ∧ w'.cell? (ada.add (i * 10)) = some (.int .i64 a.f0) ∧ w'.cell? ⟨((ada.add (i * 10))).block, ((ada.add (i * 10))).off + 1, none⟩ = some (.string a.f1) ∧ w'.cell? ⟨((ada.add (i * 10))).block, ((ada.add (i * 10))).off + 2, none⟩ = some (.int .i64 a.f2) ∧ w'.cell? ⟨((ada.add (i * 10))).block, ((ada.add (i * 10))).off + 3, none⟩ = some (.slice B3 a.f3.length d3) ∧ w'.cell? ⟨((ada.add (i * 10))).block, ((ada.add (i * 10))).off + 4, none⟩ = some (.int .i64 a.f4.f0) ∧ w'.cell? ⟨((ada.add (i * 10))).block, ((ada.add (i * 10))).off + 5, none⟩ = some (.string a.f4.f1) ∧ w'.cell? ⟨((ada.add (i * 10))).block, ((ada.add (i * 10))).off + 6, none⟩ = some (.int .i64 a.f4.f2) ∧ w'.cell? ⟨((ada.add (i * 10))).block, ((ada.add (i * 10))).off + 7, none⟩ = some (.slice B7 a.f4.f3.length d7) ∧ w'.cell? ⟨((ada.add (i * 10))).block, ((ada.add (i * 10))).off + 8, none⟩ = some (.slice B8 a.f4.f4.length d8) ∧ w'.cell? ⟨((ada.add (i * 10))).block, ((ada.add (i * 10))).off + 9, none⟩ = some (.slice B9 a.f4.f5.length d9)) (ds := [18, 20]) (bm 21 0) (by kernel_rfl) rfl rfl ⟨(blk_cell (blk_below hXb.out HB_) 1).trans rfl, (blk_cell (blk_below (blk_below hbx.out hBr.out) HB_) 5).trans rfl, (he.out.below HB_).1, (he.out.below HB_).2.1, (he.out.below HB_).2.2.1, (he.out.below HB_).2.2.2.1, (he.out.below HB_).2.2.2.2.1, (he.out.below HB_).2.2.2.2.2.1, (he.out.below HB_).2.2.2.2.2.2.1, (he.out.below HB_).2.2.2.2.2.2.2.1, (he.out.below HB_).2.2.2.2.2.2.2.2.1, (he.out.below HB_).2.2.2.2.2.2.2.2.2⟩ (fun hHeld => ?_)
   generalize wr.drew = W9 at *
   refine pure_ (i := 0) (N := some 97) (v := ?_) (a' := ?_) (bm 21 1) rfl rfl (by kernel_rfl) (fun _ _ _ h => h) (Or.inl ⟨by rfl, ?_⟩) ?_ ?_
   rotate_left
   ·intro w'
    go_simp
    with_reducible rfl
   rotate_left
   ·simp only [Act.put, sA, sB, sC, i64_w, i32_w]
    rfl
   refine pure_ (i := 2) (N := some 99) (v := ?_) (a' := ?_) (bm 21 5) rfl rfl (by kernel_rfl) (fun _ _ _ h => h) (Or.inl ⟨by rfl, ?_⟩) ?_ ?_
   rotate_left
   ·intro w'
    go_simp
    with_reducible rfl
   rotate_left
   ·simp only [Act.put, sA, sB, sC, i64_w, i32_w]
    rfl
   refine pure_ (i := 4) (N := some 101) (v := ?_) (a' := ?_) (bm 21 21) rfl rfl (by kernel_rfl) (fun _ _ _ h => h) (Or.inl ⟨by rfl, ?_⟩) ?_ ?_
   rotate_left
   ·intro w'
    go_simp
    with_reducible rfl
   rotate_left
   ·simp only [Act.put, sA, sB, sC, i64_w, i32_w]
    rfl
   refine pure_ (i := 8) (N := some 105) (v := ?_) (a' := ?_) (bm 21 277) rfl rfl (by kernel_rfl) (fun _ _ _ h => h) (Or.inl ⟨by rfl, ?_⟩) ?_ ?_
   rotate_left
   ·intro w'
    go_simp
    with_reducible rfl
   rotate_left
   ·simp only [Act.put, sA, sB, sC, i64_w, i32_w]
    rfl
   refine pure_ (i := 10) (N := some 107) (v := ?_) (a' := ?_) (bm 21 1301) rfl rfl (by kernel_rfl) (fun _ _ _ h => h) (Or.inl ⟨by rfl, ?_⟩) ?_ ?_
   rotate_left
   ·intro w'
    go_simp
    with_reducible rfl
   rotate_left
   ·simp only [Act.put, sA, sB, sC, i64_w, i32_w]
    rfl
   refine take_ (i := 1) (N := some 98) (v := ?_) (a' := ?_) (bm 21 1303) rfl rfl (by kernel_rfl) (fun _ _ _ h => h) (Or.inl ⟨by rfl, ?_⟩) hHeld ?_ ?_
   rotate_left
   ·rintro w' ⟨s0, s1, s2, s3, s4, s5, s6, s7, s8, s9, s10, s11⟩
    go_simp
    with_reducible rfl
   rotate_left
   ·simp only [Act.put, sA, sB, sC, i64_w, i32_w]
    rfl
   refine take_ (i := 3) (N := some 100) (v := ?_) (a' := ?_) (bm 21 1311) rfl rfl (by kernel_rfl) (fun _ _ _ h => h) (Or.inl ⟨by rfl, ?_⟩) hHeld ?_ ?_
   rotate_left
   ·rintro w' ⟨s0, s1, s2, s3, s4, s5, s6, s7, s8, s9, s10, s11⟩
    go_simp
    with_reducible rfl
   rotate_left
   ·simp only [Act.put, sA, sB, sC, i64_w, i32_w]
    rfl
   refine pure_ (i := 5) (N := some 102) (v := ?_) (a' := ?_) (bm 21 1343) rfl rfl (by kernel_rfl) (fun _ _ _ h => h) (Or.inl ⟨by rfl, ?_⟩) ?_ ?_
   rotate_left
   ·intro w'
    go_simp
    with_reducible rfl
   rotate_left
   ·simp only [Act.put, sA, sB, sC, i64_w, i32_w]
    rfl
   refine take_ (i := 6) (N := some 103) (v := ?_) (a' := ?_) (bm 21 1407) rfl rfl (by kernel_rfl) (fun _ _ _ h => h) (Or.inl ⟨by rfl, ?_⟩) hHeld ?_ ?_
   rotate_left
   ·rintro w' ⟨s0, s1, s2, s3, s4, s5, s6, s7, s8, s9, s10, s11⟩
    go_simp
    with_reducible rfl
   rotate_left
   ·simp only [Act.put, sA, sB, sC, i64_w, i32_w]
    rfl
   refine take_ (i := 9) (N := some 106) (v := ?_) (a' := ?_) (bm 21 1919) rfl rfl (by kernel_rfl) (fun _ _ _ h => h) (Or.inl ⟨by rfl, ?_⟩) hHeld ?_ ?_
   rotate_left
   ·rintro w' ⟨s0, s1, s2, s3, s4, s5, s6, s7, s8, s9, s10, s11⟩
    go_simp
    with_reducible rfl
   rotate_left
   ·simp only [Act.put, sA, sB, sC, i64_w, i32_w]
    rfl
   refine pure_ (i := 11) (N := some 108) (v := ?_) (a' := ?_) (bm 21 3967) rfl rfl (by kernel_rfl) (fun _ _ _ h => h) (Or.inl ⟨by rfl, ?_⟩) ?_ ?_
   rotate_left
   ·intro w'
    go_simp
    with_reducible rfl
   rotate_left
   ·simp only [Act.put, sA, sB, sC, i64_w, i32_w]
    rfl
   refine pure_ (i := 12) (N := some 109) (v := ?_) (a' := ?_) (bm 21 8063) rfl rfl (by kernel_rfl) (fun _ _ _ h => h) (Or.inl ⟨by rfl, ?_⟩) ?_ ?_
   rotate_left
   ·intro w'
    go_simp
    with_reducible rfl
   rotate_left
   ·simp only [Act.put, sA, sB, sC, i64_w, i32_w]
    rfl
   refine take_ (i := 13) (N := some 110) (v := ?_) (a' := ?_) (bm 21 16255) rfl rfl (by kernel_rfl) (fun _ _ _ h => h) (Or.inl ⟨by rfl, ?_⟩) hHeld ?_ ?_
   rotate_left
   ·rintro w' ⟨s0, s1, s2, s3, s4, s5, s6, s7, s8, s9, s10, s11⟩
    go_simp
    with_reducible rfl
   rotate_left
   ·simp only [Act.put, sA, sB, sC, i64_w, i32_w]
    rfl
   refine one_ (i := 7) (N := some 104) (bm 21 16383) rfl rfl (by kernel_rfl) (by decide) (fun K hK => ?_)
   refine goes_ Tryd.func54 (by kernel_rfl) rfl #[.agg #[.int .i64 a.f0, .string a.f1, .int .i64 a.f2, .slice B3 a.f3.length d3, .int .i64 a.f4.f0, .string a.f4.f1, .int .i64 a.f4.f2, .slice B7 a.f4.f3.length d7, .slice B8 a.f4.f4.length d8, .slice B9 a.f4.f5.length d9]] (by rfl) rfl rfl (by simp only [List.map_toArray, List.map_cons, List.map_nil]; rfl) ?_
   (with_reducible refine (altNode_calls a ha.2.1 ha.2.2.1 ha.2.2.2 W9 hg9.out (Kd.C_below h3.out HB_) _ _ _).mono ?_)
   rintro e w4 ⟨s4, A4', n4', c4', rfl, hc4, hn4, hbq4⟩
   refine ⟨_, rfl, ?_⟩
   have HB4 := below_step HB_ hbq4
   refine hK.out _ _ ⟨(blk_cell (blk_below hXb.out HB4) 1).trans rfl, (blk_cell (blk_below (blk_below hbx.out hBr.out) HB4) 5).trans rfl, (he.out.below HB4).1, (he.out.below HB4).2.1, (he.out.below HB4).2.2.1, (he.out.below HB4).2.2.2.1, (he.out.below HB4).2.2.2.2.1, (he.out.below HB4).2.2.2.2.2.1, (he.out.below HB4).2.2.2.2.2.2.1, (he.out.below HB4).2.2.2.2.2.2.2.1, (he.out.below HB4).2.2.2.2.2.2.2.2.1, (he.out.below HB4).2.2.2.2.2.2.2.2.2⟩ (fun hHeld => ?_)
   clear hK K
   refine norm_ (a' := ?_) ?_ ?_
   rotate_left
   ·show Act.put _ (some 104) _ = _
    simp only [Act.put, sA, sB, sC, i64_w, i32_w]
    rfl
   refine one_ (i := 14) (N := some 111) (bm 21 32767) rfl rfl (by kernel_rfl) (by decide) (fun K hK => ?_)
   refine goes_ Tryd.func37 (by kernel_rfl) rfl #[.agg #[.int .i64 a.f4.f0, .string a.f4.f1, .int .i64 a.f4.f2, .slice B7 a.f4.f3.length d7, .slice B8 a.f4.f4.length d8, .slice B9 a.f4.f5.length d9]] (by rfl) rfl rfl (by simp only [List.map_toArray, List.map_cons, List.map_nil]; rfl) ?_
   (with_reducible refine (ha.1.at w4 (GG.below hgr.out HB4) (Kd.C_below h7.out HB4) (Kd.C_below h8.out HB4) (Kd.C_below h9.out HB4)).mono ?_)
   rintro e w5 ⟨s5, A5', n5', c5', rfl, hc5, hn5', hbq5⟩
   refine ⟨_, rfl, ?_⟩
   have HB5 := below_step HB4 hbq5
   refine hK.out _ _ ⟨(blk_cell (blk_below hXb.out HB5) 1).trans rfl, (blk_cell (blk_below (blk_below hbx.out hBr.out) HB5) 5).trans rfl, (he.out.below HB5).1, (he.out.below HB5).2.1, (he.out.below HB5).2.2.1, (he.out.below HB5).2.2.2.1, (he.out.below HB5).2.2.2.2.1, (he.out.below HB5).2.2.2.2.2.1, (he.out.below HB5).2.2.2.2.2.2.1, (he.out.below HB5).2.2.2.2.2.2.2.1, (he.out.below HB5).2.2.2.2.2.2.2.2.1, (he.out.below HB5).2.2.2.2.2.2.2.2.2⟩ (fun hHeld => ?_)
   clear hK K
   refine norm_ (a' := ?_) ?_ ?_
   rotate_left
   ·show Act.put _ (some 111) _ = _
    simp only [Act.put, sA, sB, sC, i64_w, i32_w]
    rfl
   refine one_ (i := 15) (N := some 112) (bm 21 65535) rfl rfl (by kernel_rfl) (by decide) (fun K hK => ?_)
   refine value_ (w1 := ?_) (v := ?_) (by rfl) rfl ?_ ?_
   rotate_left 2
   ·go_simp
    constructor
    ·rfl
    ·rfl
   have HB6 := below_alloc HB5 (.cells #[.string s4, .slice A4' n4' c4', .int .i64 0, .string s5, .slice A5' n5' c5', .int .i64 0] 56)
   have hbk := blk_new w5 (.cells #[.string s4, .slice A4' n4' c4', .int .i64 0, .string s5, .slice A5' n5' c5', .int .i64 0] 56 (0, 0))
   refine hK.out _ _ ⟨(blk_cell (blk_below hXb.out HB6) 1).trans rfl, (blk_cell (blk_below (blk_below hbx.out hBr.out) HB6) 5).trans rfl, (he.out.below HB6).1, (he.out.below HB6).2.1, (he.out.below HB6).2.2.1, (he.out.below HB6).2.2.2.1, (he.out.below HB6).2.2.2.2.1, (he.out.below HB6).2.2.2.2.2.1, (he.out.below HB6).2.2.2.2.2.2.1, (he.out.below HB6).2.2.2.2.2.2.2.1, (he.out.below HB6).2.2.2.2.2.2.2.2.1, (he.out.below HB6).2.2.2.2.2.2.2.2.2⟩ (fun hHeld => ?_)
   clear hK K
   refine norm_ (a' := ?_) ?_ ?_
   rotate_left
   ·show Act.put _ (some 112) _ = _
    simp only [Act.put, sA, sB, sC, i64_w, i32_w]
    rfl
   refine one_ (i := 16) (N := some 113) (bm 21 131071) rfl rfl (by kernel_rfl) (by decide) (fun K hK => ?_)
   refine goes_ Tryd.func52 (by kernel_rfl) rfl #[.slice (some ⟨w5.heap.size, 0, none⟩) 2 2] (by rfl) rfl rfl (by simp only [List.map_toArray, List.map_cons, List.map_nil]; rfl) ?_
   (with_reducible refine (l_calls _ _ _ _).mono ?_)
   rintro e w7 ⟨rfl, hbq7⟩
   refine ⟨_, rfl, ?_⟩
   have HB7 := below_step HB6 hbq7
   have hn7 : NL w7 W9.heap.size (some ⟨w5.heap.size, 0, none⟩) 2 := NL.two (blk_below hbk hbq7) (Nat.le_trans hbq4.size hbq5.size) (((hn4.below hbq5).below (below_alloc (Below.refl _ _) _)).below hbq7) hc4 (((hn5'.mono hbq4.size).below (below_alloc (Below.refl _ _) _)).below hbq7) hc5
   refine hK.out _ _ ⟨(blk_cell (blk_below hXb.out HB7) 1).trans rfl, (blk_cell (blk_below (blk_below hbx.out hBr.out) HB7) 5).trans rfl, (he.out.below HB7).1, (he.out.below HB7).2.1, (he.out.below HB7).2.2.1, (he.out.below HB7).2.2.2.1, (he.out.below HB7).2.2.2.2.1, (he.out.below HB7).2.2.2.2.2.1, (he.out.below HB7).2.2.2.2.2.2.1, (he.out.below HB7).2.2.2.2.2.2.2.1, (he.out.below HB7).2.2.2.2.2.2.2.2.1, (he.out.below HB7).2.2.2.2.2.2.2.2.2⟩ (fun hHeld => ?_)
   clear hK K
   refine norm_ (a' := ?_) ?_ ?_
   rotate_left
   ·show Act.put _ (some 113) _ = _
    simp only [Act.put, sA, sB, sC, i64_w, i32_w]
    rfl
   refine one_ (i := 17) (N := some 114) (bm 21 262143) rfl rfl (by kernel_rfl) (by decide) (fun K hK => ?_)
   refine value_ (w1 := ?_) (v := ?_) (by rfl) rfl ?_ ?_
   rotate_left 2
   ·go_simp
    constructor
    ·rfl
    ·rfl
   have HBb := below_alloc HB7 (.cells #[.string ⟨#[]⟩, .slice (some ⟨w5.heap.size, 0, none⟩) 2 2, .int .i64 0] 56)
   refine hK.out _ _ ⟨(blk_cell (blk_below hXb.out HBb) 1).trans rfl, (blk_cell (blk_below (blk_below hbx.out hBr.out) HBb) 5).trans rfl, (he.out.below HBb).1, (he.out.below HBb).2.1, (he.out.below HBb).2.2.1, (he.out.below HBb).2.2.2.1, (he.out.below HBb).2.2.2.2.1, (he.out.below HBb).2.2.2.2.2.1, (he.out.below HBb).2.2.2.2.2.2.1, (he.out.below HBb).2.2.2.2.2.2.2.1, (he.out.below HBb).2.2.2.2.2.2.2.2.1, (he.out.below HBb).2.2.2.2.2.2.2.2.2⟩ (fun hHeld => ?_)
   clear hK K
   refine norm_ (a' := ?_) ?_ ?_
   rotate_left
   ·show Act.put _ (some 114) _ = _
    simp only [Act.put, sA, sB, sC, i64_w, i32_w]
    rfl
   refine last_ (i := 18) (N := some 115) (bm 21 524287) rfl rfl (by kernel_rfl) (by decide) (fun K hK => ?_)
   refine app_step (w0 := w7) W0.heap.size (by rfl) (.tmp 98) (.tmp 114) rfl (A := A) (x0 := some xb) (n := m) (c := c) (s1 := ⟨#[]⟩) (A1 := some ⟨w5.heap.size, 0, none⟩) (n1 := 2) (c1 := 2) (q := W9.heap.size) rfl rfl (NR.below hrow.out HB7) hn7 (Nat.le_refl _) ?_ ?_ ?_ (Below.refl _ _) ?_ ?_ ?_
   ·intro k hk; have h1 := NR.lt hrow.out k hk; have h2 := HB_.size; omega
   ·have h1 := hxs.out; have h2 := HB_.size; omega
   ·intro y hy; obtain rfl := Option.some.inj hy; have h1 := hxs.out; have h2 := HB_.size; have h3 := HB7.size; omega
   ·have h1 := hxs.out; have h2 := HB7.size; omega
   ·have h1 := hms.out; omega
   intro A6 c6 w6 hr6 hb6 hg6
   have hx5 := blk_below hXb.out HB7
   have hx6 := (NR.keep (NR.below hrow.out HB7) hg6 (Array.getElem?_eq_some_iff.1 hx5).1).trans hx5
   have hcz := (blk_cell hx6 1).trans rfl
   have hfz := blk_frozen hx6 1
   refine hK.out _ _ ?_
   clear hK K
   refine norm_ (a' := ?_) ?_ ?_
   rotate_left
   ·show Act.put _ (some 115) _ = _
    simp only [Act.put, sA, sB, sC, i64_w, i32_w]
    rfl
   refine pure_ (i := 19) (N := some 116) (v := ?_) (a' := ?_) (bm 21 1048575) rfl rfl (by kernel_rfl) (fun _ _ _ h => h) (Or.inl ⟨by rfl, ?_⟩) ?_ ?_
   rotate_left
   ·intro w'
    go_simp
    with_reducible rfl
   rotate_left
   ·simp only [Act.put, sA, sB, sC, i64_w, i32_w]
    rfl
   refine last_ (i := 20) (N := none) (bm 21 2097151) rfl rfl (by kernel_rfl) (by decide) (fun K hK => ?_)
   refine skip_ (w1 := ?_) (by rfl) rfl ?_ ?_
   rotate_left
   ·go_simp
    rfl
   refine hK.out _ _ ?_
   clear hK K
   refine done_ (by kernel_rfl) ?_
   obtain ⟨W7, hW7⟩ : ∃ W7, w6.setCell ⟨xb, 1, none⟩ (.slice A6 (m + 1) c6) = W7 := ⟨_, rfl⟩
   have hX7 : Aside0 (W7.heap[xb]? = some (.cells #[.string ⟨#[]⟩, .slice A6 (m + 1) c6, .int .i64 0] 56 (0, 0))) := ⟨by rw [← hW7]; exact blk_put hx6 1 _ rfl⟩
   have hr7 : Aside0 (NR W7 W0.heap.size (some xb) A6 (m + 1) c6) := ⟨by rw [← hW7]; exact NR.far hr6 (.inr rfl) _⟩
   have hB7 : Aside0 (Below W0.heap.size W0 W7) := ⟨by rw [← hW7]; exact ((hBr.out.trans (HB7.mono hBr.out.size)).trans hb6).setCell (p := ⟨xb, 1, none⟩) (by have h1 := hxs.out; show W0.heap.size ≤ xb; omega) _⟩
   have hs7 : Aside0 (xb + 1 ≤ W7.heap.size ∧ W0.heap.size ≤ xb) := ⟨by have h1 := (Array.getElem?_eq_some_iff.1 hX7.out).1; have h2 := hxs.out; omega⟩
   rw [hW7]
   clear hHeld
   have hjn : Value.int .i64 (wrap64 ((i : Int) + 1)) = .int .i64 ((i + 1 : Nat) : Int) := by rw [show wrap64 ((i : Int) + 1) = (i : Int) + 1 by have h2 := hn5.out; unfold wrap64; omega]; rfl
   have hi7 : i + 1 + (gk - 1) = n5 + 1 ∧ 1 ≤ gk - 1 ∧ gk - 1 < gk := by omega
   have hm7 : Aside0 (m + 1 ≤ i + 1 + 2) := ⟨by have := hm.out; omega⟩
   clear q1 p0 p1
   go_wp2
   go_roundg (gk - 1)
   case measure => exact hi7.2.2
   case rel => exact ⟨i + 1, m + 1, c6, A6, by first | exact hjn | rfl, hi7.1, hi7.2.1, hm7, hX7, hr7, hB7, hs7⟩
  ·have q1 : decide ((i : Int) < (n5 : Int)) = false := decide_eq_false (by omega)
   have x0 := (blk_cell hXb.out 0).trans rfl
   have x1 := (blk_cell hXb.out 1).trans rfl
   have x2 := (blk_cell hXb.out 2).trans rfl
   have hr1 := blk_below hrx.out hBr.out
   have j0 := (blk_cell hr1 0).trans rfl
   have j1 := (blk_cell hr1 1).trans rfl
   have j2 := (blk_cell hr1 2).trans rfl
   have z0 := blk_frozen hr1 0
   have z1 := blk_frozen hr1 1
   have z2 := blk_frozen hr1 2
   have hl5 : Aside0 (w.heap.size + 1 < W0.heap.size ∧ w.heap.size ≤ W0.heap.size) := ⟨by have h1 := hl1.out; have h2 := hxs.out; omega⟩
   go_wp2
   refine bodyPost_ret (v := .agg #[.string ⟨#[]⟩, .slice A m c, .int .i64 0]) (by simp [results, Tryd.results37, go_sem, *]) rfl ⟨_, A, _, c, rfl, hrow.out.list.2, ?_, ?_⟩
   ·exact ((((hrow.out.list.1).far (p := ⟨w.heap.size + 1, 0, none⟩) (.inl hl5.out.1) _).far (p := ⟨w.heap.size + 1, 1, none⟩) (.inl hl5.out.1) _).far (p := ⟨w.heap.size + 1, 2, none⟩) (.inl hl5.out.1) _).list.mono hl5.out.2
   ·exact (((HB0.out.trans (hBr.out.mono HB0.out.size)).setCell (p := ⟨w.heap.size + 1, 0, none⟩) (Nat.le_succ _) _).setCell (p := ⟨w.heap.size + 1, 1, none⟩) (Nat.le_succ _) _).setCell (p := ⟨w.heap.size + 1, 2, none⟩) (Nat.le_succ _) _
end Go.Proofs.YtmoeekidmkhkoaaDoor.FreeA
