/- HeapFull: its walk. No condition beyond those that each states. -/
import Derived.Test.YtepaddjjdhpmpaaDoorHeapFullP
import Derived.Test.YtepaddjjdhpmpaaDoorHeapLinks
namespace Go.Proofs.YtepaddjjdhpmpaaDoor.HeapA
open Go.RowKit Go.Proofs.YtepaddjjdhpmpaaDoorW.PrintWords Go.Proofs.YtepaddjjdhpmpaaDoorW.PrintLast Go.Proofs.YtepaddjjdhpmpaaDoorW.PrintMore Go.Proofs.YtepaddjjdhpmpaaDoor.HeapK Go.Proofs.YtepaddjjdhpmpaaDoor.PHeapP
attribute [local go_sem] max2_int max_two
set_option linter.unusedVariables false
set_option linter.unusedSimpArgs false
theorem fuR_get {m : Nat} : ∀ {us : List S33} {i0 : Nat}, fuR m i0 us = true → ∀ i (hi : i < us.length), us[i].f0 = true ∧ us[i].f1 = ((i0 + i : Nat) : Int) * szI m
  | [], _, _, i, hi => by simp at hi
  | r :: us, i0, h, i, hi => by
    simp only [fuR, Bool.and_eq_true, decide_eq_true_eq] at h
    obtain ⟨⟨h1, h2⟩, h3⟩ := h
    cases i with
    | zero => exact ⟨h1, h2⟩
    | succ i =>
      obtain ⟨g1, g2⟩ := fuR_get h3 i (by simpa using hi)
      refine ⟨g1, ?_⟩
      simp only [List.getElem_cons_succ]
      rw [g2]
      congr 2
      omega
theorem fu_facts {h m : Nat} (hh : fuOk h m = true) : ∃ PA rsA n P2 us Pl pl isv, fuA (h : Int) m 72 0 ⟨0, 0, []⟩ [] = some (PA, rsA, n) ∧ (n : Int) = (h : Int) / szI m ∧ PA.used = (n : Int) * szI m ∧ pCollect PA rsA = some (P2, us) ∧ us.length = (n + 1) / 2 ∧ fuR m 0 us = true ∧ pAlloc (h : Int) P2 3 (fuZ m) = some (Pl, (pl, isv)) ∧ isv = (decide (2 ≤ n) || decide (((n : Int) + 1) * szI m ≤ (h : Int))) := by
  unfold fuOk at hh
  split at hh
  · cases hh
  · rename_i P rs n hA
    simp only [Bool.and_eq_true, decide_eq_true_eq] at hh
    obtain ⟨⟨h1, h2⟩, h3⟩ := hh
    split at h3
    · cases h3
    · rename_i P2 us hc
      simp only [Bool.and_eq_true, decide_eq_true_eq] at h3
      obtain ⟨⟨h4, h5⟩, h6⟩ := h3
      split at h6
      · cases h6
      · rename_i Pl pl isv hl
        exact ⟨P, rs, n, P2, us, Pl, pl, isv, hA, h1, h2, hc, h4, h5, hl, by simpa using h6⟩
section
variable {w0 W W1 : World} {b : Nat} {half : Int} {P : PH} {Z Z1 : Nat → Prop} {u v : Value} {rs fs : List S33} {C : Nat}
/-- A row apart from the heap, and from another row. -/
def okx (Z : Nat → Prop) (u : Value) (j : Nat) : Prop := ¬ Z j ∧ some j ≠ u.ownBlock
theorem okx_row (h : Kd.R k33 33 W C (okx Z u) v rs) : Kd.R k33 33 W C (fun j => ¬ Z j) v rs := R33_ok h (fun j hj => (h.1 j hj).1)
theorem Keep.rowx (h : Keep W Z W1 Z1) (hR : Kd.R k33 33 W C (okx Z u) v rs) : Kd.R k33 33 W1 C (okx Z1 u) v rs :=
  R33_ok (h.row (okx_row hR)) (fun j hj => ⟨(h.row (okx_row hR)).1 j hj, (hR.1 j hj).2⟩)
theorem f_app (hF : Kd.R k33 33 W C (fun j => ¬ Z j) u fs) (hR : Kd.R k33 33 W C (okx Z u) v rs) (hg : W.grownBy W1 v.ownBlock) : Kd.R k33 33 W1 C (fun j => ¬ Z j) u fs :=
  R33_step hF (fun j hj => hg.block j (Kd.R_lt hF j hj) (fun e => (hR.1 j e.symm).2 hj.symm)) hF.1
theorem HR.freshx (h : HR w0 W b half P Z) (hF : Kd.R k33 33 W C (fun j => ¬ Z j) u fs) {k : Nat} (hk : W.heap.size ≤ k) : okx Z u k :=
  ⟨h.fresh hk, fun e => by have := Kd.R_lt hF k e.symm; omega⟩
end
set_option maxHeartbeats 16000000 in
set_option maxRecDepth 100000 in
theorem full_walk (a0 a1 : Int) (w : World) : Calls Tryd.prog 3 #[.int .i64 a0, .int .i64 a1] w fun e w' => e = .returned (.bool true) ∧ Below w.heap.size w w' := by
  have CF := first_calls w
  have CN := fun W => number_p a0 400 (by decide) (by decide) W
  have CM := fun W => number_p a1 6 (by decide) (by decide) W
  go_enter Tryd.func3, Tryd.ntmps3
  go_wp2_with (first | (go_at_call 8; (with_reducible refine CF.mono ?_); rintro e w1 ⟨rfl, hb1⟩; have HB1 := Aside0.mk hb1; clear hb1 CF) | (go_at_call 9; (with_reducible refine (CN w1).mono ?_); rintro e w2 ⟨k, rfl, hk1, hb2⟩; have HB2 := Aside0.mk (below_step HB1.out hb2); clear hb2 CN) | (go_at_call 9; (with_reducible refine (CM w2).mono ?_); rintro e w3 ⟨m, rfl, hm1, hb3⟩; have HB3 := Aside0.mk (below_step HB2.out hb3); obtain ⟨z, hz⟩ : ∃ z, szI m = z := ⟨_, rfl⟩; have hz_ : (if (m : Int) + 2 < 3 then 3 else (m : Int) + 2) = z := (by rw [← hz]; unfold szI mx; rfl); have hz3 : 3 ≤ z := (by rw [← hz_]; split <;> omega); have hz7 : z ≤ 7 := (by rw [← hz_]; split <;> omega); have hz' := Aside0.mk hz; clear hz hb3 CM) | (go_at_call 10; (with_reducible refine (new_q HB3.out ((k : Int) + 20) (by omega) (by omega)).mono ?_); rintro e w4 ⟨rfl, hq4⟩; obtain ⟨h, hh, hh1, hh2⟩ : ∃ h : Nat, ((k : Int) + 20) / 2 = (h : Int) ∧ 10 ≤ h ∧ h < 210 := (⟨(k + 20) / 2, by omega, by omega, by omega⟩); rw [hh] at hq4; have hd1 : Int.tdiv ((k : Int) + 20) 2 = (h : Int) := (by rw [Int.tdiv_eq_ediv_of_nonneg (by omega)]; exact hh); obtain ⟨Z4, hr4⟩ := hq4.r; have HR4 := Aside0.mk hr4; clear hh hq4 hr4) | ((with_reducible refine gate_dst (N := 41) rfl ?_); refine Kd.R_make k33 (w0 := w4) w.heap.size 33 rfl (N := 41) rfl 29 _ _ rfl (m : Int) rfl rfl Tryd.underlying29 (.agg #[.bool false, .int .i64 0]) 16 info33 rfl (by decide) (by omega) ⟨false, 0⟩ (ok := fun j => ¬ Z4 j) (okp := fun _ => False) (k33_mkM _ _ _ ⟨false, 0⟩) (fun _ hk => hk.elim) (HR4.out.fresh (Nat.le_refl _)) (by omega) (by omega) (Below.refl _ _) HR4.out.1.size ?_; intro v5 w5 hf5 hb5 hg5 hat5; rw [Int.toNat_natCast] at hf5; obtain ⟨A5, c5, hv5⟩ := Kd.R_slice hf5; rw [List.length_replicate] at hv5; subst hv5; have HF5 := Aside0.mk hf5; have HR5 := Aside0.mk (HR4.out.grown (u := .slice none 0 0) (rs := []) (Kd.R_nil _ _ _ _ _) hg5); clear hf5 hb5 hg5 hat5))
  obtain ⟨PA, rsA, n, P2, us, Pl, pl, isv, hA, hn, hus, hcl, hul, hfr, hla, his⟩ := fu_facts (fu_all h (by omega) (by omega) m (by omega))
  rw [hz'.out] at hn hus his
  have hn0 : 0 ≤ (n : Int) := by omega
  have hn1 : (n : Int) ≤ 71 := by
    rw [hn]
    have : (h : Int) / z < 72 := Int.ediv_lt_of_lt_mul (by omega) (by omega)
    omega
  have hd2 : Int.tdiv (h : Int) z = (n : Int) := by rw [Int.tdiv_eq_ediv_of_nonneg (by omega), hn]
  have hfg := Aside0.mk (fun i hi => fuR_get hfr i hi)
  replace hA := Aside0.mk hA
  replace hn := Aside0.mk hn
  replace hus := Aside0.mk hus
  replace hcl := Aside0.mk hcl
  replace hul := Aside0.mk hul
  replace hla := Aside0.mk hla
  replace his := Aside0.mk his
  clear hfr
  have hlz : Aside0 ((fuZ m).length = m) := ⟨List.length_replicate⟩
  generalize w3.heap.size + 1 = b at *
  go_loopg [10, 11] 73 (fun kq v10 v11 w' => ∃ (i : Nat) (Z : Nat → Prop) (P : PH) (rs : List S33) (A1 : Option Addr) (c1 m1 : Nat), v10 = .slice A1 m1 c1 ∧ v11 = .int .i64 (i : Int) ∧ i + kq = 73 ∧ 1 ≤ kq ∧ Aside0 (m1 = rs.length ∧ rs.length ≤ i) ∧ Aside0 (HR w w' b (h : Int) P Z) ∧ Aside0 (fuA (h : Int) m (72 - i) i P rs = some (PA, rsA, n)) ∧ Aside0 (Kd.R k33 33 w' w.heap.size (okx Z (.slice A5 m c5)) (.slice A1 m1 c1) rs) ∧ Aside0 (Kd.R k33 33 w' w.heap.size (fun j => ¬ Z j) (.slice A5 m c5) (fuZ m)))
  case atStart => exact ⟨0, Z4, _, [], none, 0, 0, rfl, rfl, by omega, by omega, ⟨rfl, Nat.le_refl _⟩, HR5, hA, ⟨Kd.R_nil _ _ _ _ _⟩, HF5⟩
  case round =>
    obtain ⟨i, Z, P, rs, A1, c1, m1, rfl, rfl, hi, hk, hlen, hr, hs, hR, hF⟩ := hrel
    have hs2 := hs.out
    rcases Nat.lt_or_ge i 72 with hlt | hge
    rotate_left
    · rw [show 72 - i = 0 by omega] at hs2
      cases hs2
    rw [show 72 - i = (71 - i) + 1 by omega] at hs2
    rcases fuA_step hs2 with ⟨P', hp, hi4, hrn⟩ | ⟨hp, hQ⟩
    · have hrn := Aside0.mk hrn
      rw [hz'.out] at hp
      have CA := alloc_r hr.out (A := A5) (c := c5) (m := m) (by have := (Kd.R_reads' hF.out).2.2; exact this) hlz.out hp
      have hm0 : 0 ≤ (i : Int) * z := Int.mul_nonneg (by omega) (by omega)
      have hm1 : (i : Int) * z ≤ 504 := Int.le_trans (Int.mul_le_mul (show (i : Int) ≤ 72 by omega) (show z ≤ 7 by omega) (by omega) (by omega)) (by omega)
      have q2 : decide (400 < (i : Int)) = false := decide_eq_false (by omega)
      have hll := Aside0.mk (show (rs.length + 1) * 16 ≤ 140737488355328 by have := hlen.out; omega)
      clear hp hs2
      by_cases hev : i % 2 = 0
      · have he : (Int.tmod (i : Int) 2 == 0) = true := by rw [Int.tmod_eq_emod_of_nonneg (by omega)]; simp; omega
        rw [if_pos hev] at hrn
        go_wp2_with (first | (go_at_call 11; go_loud (with_reducible refine CA.mono ?_); rintro e w6 ⟨rfl, Z1, hr1, hk1⟩; have HR1 := Aside0.mk hr1; have HO := Aside0.mk (hk1.rowx hR.out); have HF := Aside0.mk (hk1.row hF.out); clear hr1 hk1 CA) | ((with_reducible refine gate_builtin (b := .append) (xs := #[.tmp 62, .tmp 65]) rfl ?_); at_builtin; go_loud (refine Kd.R_append k33 (w0 := w6) w.heap.size rfl (.tmp 62) (.tmp 65) 29 33 (.agg #[.bool false, .int .i64 0]) 16 rfl Tryd.underlying29 info33 rfl (by decide) (by decide) (.slice A1 m1 c1) rs ⟨true, (i : Int) * z⟩ [.bool true, .int .i64 ((i : Int) * z)] (okx Z1 (.slice A5 m c5)) (fun _ => False) rfl rfl ?aP (fun _ hk => hk.elim) ?aF ?aO ?aB ?aS ?aL ?_); (case aP => exact k33_mkM _ _ _ ⟨true, (i : Int) * z⟩); (case aF => exact fun k hk => HR1.out.freshx HF.out hk); (case aO => exact HO.out); (case aB => exact Below.refl _ _); (case aS => exact HR1.out.1.size); (case aL => exact hll.out); intro v3 w3 ho hb3 hg3 hat3; obtain ⟨A3, c3, hv3⟩ := Kd.R_slice ho; rw [List.length_append, List.length_singleton] at hv3; subst hv3; have HO3 := Aside0.mk ho; have HR3 := Aside0.mk (HR1.out.grown (okx_row HO.out) hg3); have HF3 := Aside0.mk (f_app HF.out HO.out hg3); clear ho hb3 hg3 hat3))
        go_roundg (gk - 1)
        case measure => omega
        case rel => exact ⟨i + 1, Z1, P', rs ++ [⟨true, (i : Int) * z⟩], A3, c3, rs.length + 1, rfl, congrArg (Value.int .i64) (by omega), by omega, by omega, ⟨by simp, by have := hlen.out; simp; omega⟩, HR3, ⟨by rw [show 72 - (i + 1) = 71 - i by omega, ← hz'.out]; exact hrn.out⟩, HO3, HF3⟩
      · have he : (Int.tmod (i : Int) 2 == 0) = false := by rw [Int.tmod_eq_emod_of_nonneg (by omega)]; simp; omega
        rw [if_neg hev] at hrn
        go_wp2_with (first | (go_at_call 11; go_loud (with_reducible refine CA.mono ?_); rintro e w6 ⟨rfl, Z1, hr1, hk1⟩; have HR1 := Aside0.mk hr1; have HO := Aside0.mk (hk1.rowx hR.out); have HF := Aside0.mk (hk1.row hF.out); clear hr1 hk1 CA))
        go_roundg (gk - 1)
        case measure => omega
        case rel => exact ⟨i + 1, Z1, P', rs, A1, c1, m1, rfl, congrArg (Value.int .i64) (by omega), by omega, by omega, ⟨hlen.out.1, by have := hlen.out; omega⟩, HR1, ⟨by rw [show 72 - (i + 1) = 71 - i by omega]; exact hrn.out⟩, HO, HF⟩
    · simp only [Prod.mk.injEq] at hQ
      obtain ⟨rfl, rfl, rfl⟩ := hQ
      have CA := alloc_r hr.out (A := A5) (c := c5) (m := m) (by have := (Kd.R_reads' hF.out).2.2; exact this) hlz.out hp
      have hm0 : 0 ≤ (n : Int) * z := Int.mul_nonneg (by omega) (by omega)
      have hm1 : (n : Int) * z ≤ 504 := Int.le_trans (Int.mul_le_mul (show (n : Int) ≤ 72 by omega) (show z ≤ 7 by omega) (by omega) (by omega)) (by omega)
      have hz0 : (z == 0) = false := by simp; omega
      have hz1 : z ≠ 0 := by omega
      clear hp hs2
      go_wp2_with (first | (go_at_call 11; go_loud (with_reducible refine CA.mono ?_); rintro e w6 ⟨rfl, Z1, hr1, hk1⟩; have HR1 := Aside0.mk hr1; have HO := Aside0.mk (hk1.rowx hR.out); have HF := Aside0.mk (hk1.row hF.out); have CU := ptr_p hr1.2; have CHf := half_p hr1.2; have CC := collect_r hr1 (c := c1) (A := A1) (m := m1) (by have := (Kd.R_reads' HO.out).2.2; exact this) hlen.out.1.symm (by have := hlen.out; omega) hcl.out; rw [hus.out] at CU; clear hr1 hk1 CA) | (go_at_call 12; go_loud (with_reducible refine CU.mono ?_); rintro e w7 ⟨rfl, rfl⟩; clear CU) | (go_at_call 13; go_loud (with_reducible refine CHf.mono ?_); rintro e w7 ⟨rfl, rfl⟩; clear CHf) | (go_at_call 14; go_loud (with_reducible refine CC.mono ?_); rintro e w8 ⟨A8, c8, rfl, Z8, hR8, hr8, hk8⟩; have HR8 := Aside0.mk hr8; have HO8 := Aside0.mk hR8; have HF8 := Aside0.mk (hk8.row HF.out); clear hR8 hr8 hk8 CC))
      go_loopg [15] (us.length + 1) (fun kq v15 w' => ∃ (i : Nat), v15 = .int .i64 (i : Int) ∧ i + kq = us.length + 1 ∧ 1 ≤ kq ∧ Aside0 (HR w w' b (h : Int) P2 Z8) ∧ Aside0 (Kd.R k33 33 w' w.heap.size (fun j => ¬ Z8 j) (.slice A8 us.length c8) us) ∧ Aside0 (Kd.R k33 33 w' w.heap.size (fun j => ¬ Z8 j) (.slice A5 m c5) (fuZ m)))
      case atStart => exact ⟨0, rfl, by omega, by omega, HR8, HO8, HF8⟩
      case round =>
        obtain ⟨i2, rfl, hi2, hk2, hr9, hO9, hF9⟩ := hrel
        by_cases hlt2 : i2 < us.length
        · have q2 : decide ((i2 : Int) < ((us.length : Nat) : Int)) = true := decide_eq_true (by omega)
          have p0 : (0 : Int) ≤ (i2 : Int) := by omega
          have q0 : (i2 : Int) < ((us.length : Nat) : Int) := by omega
          obtain ⟨f0, f1⟩ := hfg.out i2 hlt2
          obtain ⟨a8', e8, hv0, hv1⟩ := at_T33 (Kd.R_reads' hO9.out).2.2 (i2 : Int) (by omega) (by omega)
          subst e8
          have hx : rd_T33 us (i2 : Int) = us[i2] := by simp [rd_T33, hlt2]
          simp only [Int.toNat_natCast] at hv0 hv1
          rw [hx] at hv0 hv1
          rw [f0] at hv0
          rw [f1, hz'.out, Nat.zero_add] at hv1
          have hlu := hul.out
          have hm2 : 0 ≤ (i2 : Int) * z := Int.mul_nonneg (by omega) (by omega)
          have hm3 : (i2 : Int) * z ≤ 504 := Int.le_trans (Int.mul_le_mul (show (i2 : Int) ≤ 72 by omega) (show z ≤ 7 by omega) (by omega) (by omega)) (by omega)
          have hib : (i2 : Int) ≤ 36 := by omega
          clear hx f0 f1 hlu
          go_wp2
          go_roundg (gk - 1)
          case measure => omega
          case rel => exact ⟨i2 + 1, congrArg (Value.int .i64) (by omega), by omega, by omega, hr9, hO9, hF9⟩
        · have q2 : decide ((i2 : Int) < ((us.length : Nat) : Int)) = false := decide_eq_false (by omega)
          have CA := alloc_r hr9.out (A := A5) (c := c5) (m := m) (by have := (Kd.R_reads' hF9.out).2.2; exact this) hlz.out hla.out
          have hd3 : Int.tdiv ((n : Int) + 1) 2 = ((us.length : Nat) : Int) := by rw [Int.tdiv_eq_ediv_of_nonneg (by omega), hul.out]; omega
          have hq3 : ((us.length : Nat) : Int) = ((n : Int) + 1) / 2 := by rw [hul.out]; omega
          clear hd3
          have hm2 : 0 ≤ ((n : Int) + 1) * z := Int.mul_nonneg (by omega) (by omega)
          have hm3 : ((n : Int) + 1) * z ≤ 504 := Int.le_trans (Int.mul_le_mul (show (n : Int) + 1 ≤ 72 by omega) (show z ≤ 7 by omega) (by omega) (by omega)) (by omega)
          have hi3 := his.out
          clear hi hi2 hk2 hk hz0 hz1 hd2 hn0 hn1 hm0 hm1
          by_cases h2 : 2 ≤ n
          · have q3 : decide ((2 : Int) ≤ (n : Int)) = true := decide_eq_true (by omega)
            rw [decide_eq_true h2, Bool.true_or] at hi3
            subst hi3
            go_wp2_with (first | (go_at_call 11; go_loud (with_reducible refine CA.mono ?_); rintro e w6 ⟨rfl, Z1, hr1, hk1⟩; have HR1 := Aside0.mk hr1; clear hr1 hk1 CA))
            go_ret
            exact ⟨rfl, HR1.out.1⟩
          · have q3 : decide ((2 : Int) ≤ (n : Int)) = false := decide_eq_false (by omega)
            rw [decide_eq_false h2, Bool.false_or] at hi3
            subst hi3
            go_wp2_with (first | (go_at_call 11; go_loud (with_reducible refine CA.mono ?_); rintro e w6 ⟨rfl, Z1, hr1, hk1⟩; have HR1 := Aside0.mk hr1; clear hr1 hk1 CA))
            go_ret
            exact ⟨by simp, HR1.out.1⟩
end Go.Proofs.YtepaddjjdhpmpaaDoor.HeapA
