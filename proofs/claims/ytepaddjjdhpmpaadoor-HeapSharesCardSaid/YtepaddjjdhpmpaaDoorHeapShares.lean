/- HeapShares: its walk. No condition beyond those that each states. -/
import Derived.Test.YtepaddjjdhpmpaaDoorHeapSharesP
import Derived.Test.YtepaddjjdhpmpaaDoorHeapLinks
namespace Go.Proofs.YtepaddjjdhpmpaaDoor.HeapA
open Go.RowKit Go.Proofs.YtepaddjjdhpmpaaDoorW.PrintWords Go.Proofs.YtepaddjjdhpmpaaDoorW.PrintLast Go.Proofs.YtepaddjjdhpmpaaDoorW.PrintMore Go.Proofs.YtepaddjjdhpmpaaDoor.HeapK Go.Proofs.YtepaddjjdhpmpaaDoor.PHeapP
set_option linter.unusedVariables false
set_option linter.unusedSimpArgs false
set_option maxHeartbeats 16000000 in
set_option maxRecDepth 100000 in
theorem shares_walk (a0 a1 : Int) (w : World) : Calls Tryd.prog 5 #[.int .i64 a0, .int .i64 a1] w fun e w' => e = .returned (.bool true) ∧ Below w.heap.size w w' := by
  have CF := first_calls w
  have CN := fun W => number_p a0 12 (by decide) (by decide) W
  go_enter Tryd.func5, Tryd.ntmps5
  go_wp2_with (first | (go_at_call 8; (with_reducible refine CF.mono ?_); rintro e w1 ⟨rfl, hb1⟩; have HB1 := Aside0.mk hb1; clear hb1 CF) | (go_at_call 9; (with_reducible refine (CN w1).mono ?_); rintro e w2 ⟨k, rfl, hk1, hb2⟩; have HB2 := Aside0.mk (below_step HB1.out hb2); clear hb2 CN) | (go_at_call 10; (with_reducible refine (new_q HB2.out 2000 (by decide) (by decide)).mono ?_); rintro e w4 ⟨rfl, hq4⟩; rw [show (2000 : Int) / 2 = 1000 by decide] at hq4; have HQ4 := Aside0.mk hq4; have C0 := alloc_q (HQ4.out.below (below_alloc (Below.refl _ w4) (.cells #[.bool false, .int .i64 1] 33))) (c := 1) (c_one w4 ⟨false, 1⟩) (m := 1) rfl sh_first; clear hq4) | (go_at_call 11; (with_reducible refine C0.mono ?_); rintro e w5 ⟨rfl, hq5⟩; have HQ5 := Aside0.mk hq5; have C1 := alloc_q (HQ5.out.below (below_alloc (Below.refl _ w5) (.cells #[.bool false, .int .i64 5] 33))) (c := 1) (c_one w5 ⟨false, 5⟩) (m := 1) rfl sh_second; clear hq5 C0) | (go_at_call 11; go_loud (with_reducible refine C1.mono ?_); rintro e w6 ⟨rfl, hq6⟩; have HQ6 := Aside0.mk hq6; clear hq6 C1))
  obtain ⟨PA, rsA, P2, us, r, nd, x, q, hA, hcl, hul, hus, hu0, hn0, hnf, hall⟩ := sh_facts (sh_all (k + 2) (by omega) (by omega))
  obtain ⟨P3, hset, ⟨nq, hnq, hnqf⟩, hnodes⟩ := hall a1
  rw [show (((k + 2 : Nat)) : Int) = (k : Int) + 2 from rfl] at hus
  have hA := Aside0.mk hA
  have hcl := Aside0.mk hcl
  have hul := Aside0.mk hul
  have hus := Aside0.mk hus
  have hu0 := Aside0.mk hu0
  have hn0 := Aside0.mk hn0
  have hnf := Aside0.mk hnf
  have hset := Aside0.mk hset
  have hnq := Aside0.mk hnq
  have hnqf := Aside0.mk hnqf
  have hnodes := Aside0.mk hnodes
  obtain ⟨Z6, HR6⟩ := HQ6.out.r
  have HR6 := Aside0.mk HR6
  clear hall
  generalize w2.heap.size + 1 = b at *
  have hla : ∀ (k i : Nat) (P : PH) (rs : List S33) (Q : PH × List S33), shA k i P rs = some Q → Q.2.length = rs.length + k := by
    intro k
    induction k with
    | zero => intro i P rs Q h; simp only [shA, Option.some.injEq] at h; subst h; rfl
    | succ k ih => intro i P rs Q h; obtain ⟨P', p, _, h2⟩ := shA_step h; rw [ih _ _ _ _ h2]; simp; omega
  have hla := Aside0.mk hla
  go_loopg [10, 11] (k + 3) (fun kq v10 v11 w' => ∃ (i : Nat) (Z : Nat → Prop) (P : PH) (rs : List S33) (A1 : Option Addr) (c1 m1 : Nat), v10 = .slice A1 m1 c1 ∧ v11 = .int .i64 (i : Int) ∧ i + kq = k + 3 ∧ 1 ≤ kq ∧ Aside0 (m1 = rs.length ∧ rs.length = i) ∧ Aside0 (HR w w' b 1000 P Z) ∧ Aside0 (shA (k + 2 - i) i P rs = some (PA, rsA)) ∧ Aside0 (Kd.R k33 33 w' w.heap.size (fun j => ¬ Z j) (.slice A1 m1 c1) rs))
  case atStart => exact ⟨0, Z6, _, [], none, 0, 0, rfl, rfl, by omega, by omega, ⟨rfl, rfl⟩, HR6, hA, ⟨Kd.R_nil _ _ _ _ _⟩⟩
  case round =>
    obtain ⟨i, Z, P, rs, A1, c1, m1, rfl, rfl, hi, hk, hlen, hr, hs, hR⟩ := hrel
    by_cases hlt : i < k + 2
    · have q1 : decide ((i : Int) < (k : Int) + 2) = true := decide_eq_true (by omega)
      have hs2 := hs.out
      rw [show k + 2 - i = (k + 1 - i) + 1 by omega] at hs2
      obtain ⟨P', p, hp, hrn⟩ := shA_step hs2
      have hrn := Aside0.mk hrn
      have hra := Aside0.mk (hr.out.below (below_alloc (Below.refl _ wr) (.cells #[.bool false, .int .i64 (i : Int), .bool true, .int .i64 3] 33)))
      have hRa := Aside0.mk (hr.out.row hR.out (below_alloc (Below.refl _ wr) (.cells #[.bool false, .int .i64 (i : Int), .bool true, .int .i64 3] 33)))
      have CA := alloc_r hra.out (c := 2) (c_two wr ⟨false, (i : Int)⟩ ⟨true, 3⟩) (m := 2) rfl hp
      have hll := Aside0.mk (show (rs.length + 1) * 16 ≤ 140737488355328 by have := hlen.out; omega)
      clear hp hs2
      go_wp2_with (first | (go_at_call 11; go_loud (with_reducible refine CA.mono ?_); rintro e w6 ⟨rfl, Z1, hr1, hk1⟩; have HR1 := Aside0.mk hr1; have HO := Aside0.mk (hk1.row hRa.out); clear hr1 hk1 CA) | ((with_reducible refine gate_builtin (b := .append) (xs := #[.tmp 69, .tmp 72]) rfl ?_); at_builtin; go_loud (refine Kd.R_append k33 (w0 := w6) w.heap.size rfl (.tmp 69) (.tmp 72) 29 33 (.agg #[.bool false, .int .i64 0]) 16 rfl Tryd.underlying29 info33 rfl (by decide) (by decide) (.slice A1 m1 c1) rs ⟨true, p⟩ [.bool true, .int .i64 p] (fun j => ¬ Z1 j) (fun _ => False) rfl rfl ?aP (fun _ hk => hk.elim) ?aF ?aO ?aB ?aS ?aL ?_); (case aP => exact k33_mkM _ _ _ ⟨true, p⟩); (case aF => exact fun k hk => HR1.out.fresh hk); (case aO => exact HO.out); (case aB => exact Below.refl _ _); (case aS => exact HR1.out.1.size); (case aL => exact hll.out); intro v3 w3 ho hb3 hg3 hat3; obtain ⟨A3, c3, hv3⟩ := Kd.R_slice ho; rw [List.length_append, List.length_singleton] at hv3; subst hv3; have HO3 := Aside0.mk ho; have HR3 := Aside0.mk (HR1.out.grown HO.out hg3); clear ho hb3 hg3 hat3))
      go_roundg (gk - 1)
      case measure => omega
      case rel => exact ⟨i + 1, Z1, P', rs ++ [⟨true, p⟩], A3, c3, rs.length + 1, rfl, congrArg (Value.int .i64) (by omega), by omega, by omega, ⟨by simp, by have := hlen.out; simp; omega⟩, HR3, by rw [show k + 2 - (i + 1) = k + 1 - i by omega]; exact hrn, HO3⟩
    · have q1 : decide ((i : Int) < (k : Int) + 2) = false := decide_eq_false (by omega)
      have hs2 := hs.out
      have hl2 := hla.out _ _ _ _ _ hs2
      rw [show k + 2 - i = 0 by omega] at hs2 hl2
      simp only [shA, Option.some.injEq, Prod.mk.injEq] at hs2
      obtain ⟨rfl, rfl⟩ := hs2
      have CC := collect_r hr.out (c := c1) (A := A1) (m := m1) (by have := (Kd.R_reads' hR.out).2.2; exact this) (by have := hlen.out; omega) (by have := hlen.out; omega) hcl.out
      rw [hul.out] at CC
      have hrd0 : rd_T33 us 0 = r := by have := hu0.out; cases us with | nil => cases this | cons y ys => exact Option.some.inj this
      have CI : ∀ W' A, Kd.C k33 W' A (k + 2) us → ∃ a, A = some a ∧ W'.cell? ⟨a.block, a.off + 1, none⟩ = some (.int .i64 r.f1) := by
        intro W' A h
        obtain ⟨a, e, _, h1⟩ := at_T33 h 0 (by omega) (by omega)
        rw [hrd0] at h1
        exact ⟨a, e, by simpa [Addr.add] using h1⟩
      go_wp2_with (first | (go_at_call 14; go_loud (with_reducible refine CC.mono ?_); rintro e w8 ⟨A8, c8, rfl, Z8, hR8, hr8, hk8⟩; have HR8 := Aside0.mk hr8; have HO8 := Aside0.mk hR8; have CP := ptr_q hr8.q; rw [hus.out] at CP; obtain ⟨a8, rfl, hr0⟩ := CI _ _ (by have := (Kd.R_reads' hR8).2.2; rwa [hul.out] at this); have CNd := node_r hr8 hn0.out; simp only [hnf.out, List.length_cons, List.length_nil, Nat.zero_add, Nat.reduceAdd] at CNd; clear hR8 hr8 hk8 CC) | (go_at_call 12; go_loud (with_reducible refine CP.mono ?_); rintro e w9 ⟨rfl, rfl⟩; clear CP) | (go_at_call 16; go_loud (with_reducible refine CNd.mono ?_); rintro e w10 ⟨A9, c9, rfl, hR9, hr9, hb9⟩; have HR9 := Aside0.mk hr9; have HO9 := Aside0.mk (HR8.out.row HO8.out hb9); have HF9 := Aside0.mk hR9; obtain ⟨a9, rfl, f0, f1, f2, f3⟩ := c_pair (Kd.R_reads' hR9).2.2; have CS := set_r hr9 (i := 0) (j := 0) rfl hset.out; clear hR9 hr9 hb9 CNd hr0) | (go_at_call 15; go_loud (with_reducible refine CS.mono ?_); rintro e w11 ⟨rfl, Z2, hr11, hk11⟩; have HR11 := Aside0.mk hr11; have HO11 := Aside0.mk (hk11.row HO9.out); have HF11 := Aside0.mk (hk11.row HF9.out); clear hr11 hk11 CS f0 f1 f2 f3))
      go_loopg [18] (k + 3) (fun kq v18 w' => ∃ (i : Nat), v18 = .int .i64 (i : Int) ∧ i + kq = k + 3 ∧ 1 ≤ kq ∧ Aside0 (HR w w' b 1000 P3 Z2) ∧ Aside0 (Kd.R k33 33 w' w.heap.size (fun j => ¬ Z2 j) (.slice (some a8) (k + 2) c8) us) ∧ Aside0 (Kd.R k33 33 w' w.heap.size (fun j => ¬ Z2 j) (.slice (some a9) 2 c9) [x, ⟨true, q⟩]))
      case atStart => exact ⟨0, rfl, by omega, by omega, HR11, HO11, HF11⟩
      case round =>
        obtain ⟨i2, rfl, hi2, hk2, hr12, hO12, hF12⟩ := hrel
        by_cases hlt2 : i2 < k + 2
        · have q2 : decide ((i2 : Int) < (k : Int) + 2) = true := decide_eq_true (by omega)
          have p0 : (0 : Int) ≤ (i2 : Int) := by omega
          have q0 : (i2 : Int) < ((k + 2 : Nat) : Int) := by omega
          have q3 : (i2 : Int) < (k : Int) + 2 := by omega
          have hiu : i2 < us.length := by rw [hul.out]; exact hlt2
          obtain ⟨nd2, x2, hn2, hnf2, hx2⟩ := hnodes.out i2 hiu
          obtain ⟨a8', e8, hv0, hv1⟩ := at_T33 (Kd.R_reads' hO12.out).2.2 (i2 : Int) (by omega) (by omega)
          obtain rfl := Option.some.inj e8
          have hx : rd_T33 us (i2 : Int) = us[i2] := by simp [rd_T33, hiu]
          simp only [Int.toNat_natCast] at hv0 hv1
          rw [hx] at hv0 hv1
          have CNd := node_r hr12.out hn2
          simp only [hnf2, List.length_cons, List.length_nil, Nat.zero_add, Nat.reduceAdd] at CNd
          have hx2 := Aside0.mk hx2
          clear hn2 hnf2 hx hv0
          generalize us[i2] = u2 at *
          go_wp2_with (first | (go_at_call 16; go_loud (with_reducible refine CNd.mono ?_); rintro e w12 ⟨Ag, cg, rfl, hRg, hrg, hbg⟩; have HR12 := Aside0.mk hrg; have HO12 := Aside0.mk (hr12.out.row hO12.out hbg); have HF12 := Aside0.mk (hr12.out.row hF12.out hbg); obtain ⟨ag, rfl, g0, g1, g2, g3⟩ := c_pair (Kd.R_reads' hRg).2.2; rw [hx2.out] at g1; have HG := Aside0.mk (And.intro g1 (And.intro g2 g3)); clear hRg hrg hbg CNd g0 g1 g2 g3))
          have HR13 := Aside0.mk (HR12.out.below (below_drew1 (Below.refl _ w12)))
          have HO13 := Aside0.mk (HR12.out.row HO12.out (below_drew1 (Below.refl _ w12)))
          have HF13 := Aside0.mk (HR12.out.row HF12.out (below_drew1 (Below.refl _ w12)))
          obtain ⟨a9', e9, _, _, ff2, ff3⟩ := c_pair (Kd.R_reads' HF13.out).2.2
          obtain rfl := Option.some.inj e9
          have F2 := Aside0.mk ff2
          have F3 := Aside0.mk ff3
          have G1 : Aside0 (w12.drew.cell? ⟨ag.block, ag.off + 1, none⟩ = some (.int .i64 (i2 : Int))) := ⟨HG.out.1⟩
          have G2 : Aside0 (w12.drew.cell? ⟨ag.block, ag.off + 2, none⟩ = some (.bool true)) := ⟨HG.out.2.1⟩
          have G3 : Aside0 (w12.drew.cell? ⟨ag.block, ag.off + 3, none⟩ = some (.int .i64 q)) := ⟨HG.out.2.2⟩
          clear ff2 ff3
          refine start_ (n := 25) (S := fun w' => w'.cell? ⟨ag.block, ag.off + 1, none⟩ = some (.int .i64 (i2 : Int)) ∧ w'.cell? ⟨ag.block, ag.off + 2, none⟩ = some (.bool true) ∧ w'.cell? ⟨ag.block, ag.off + 3, none⟩ = some (.int .i64 q) ∧ w'.cell? ⟨a9.block, a9.off + 2, none⟩ = some (.bool true) ∧ w'.cell? ⟨a9.block, a9.off + 3, none⟩ = some (.int .i64 q)) (ds := []) #[false, false, false, false, false, false, false, false, false, false, false, false, false, false, false, false, false, false, false, false, false, false, false, false, false] (by kernel_rfl) rfl rfl ⟨G1.out, G2.out, G3.out, F2.out, F3.out⟩ (fun hHeld => ?_)
          generalize w12.drew = W9 at *
          refine pure_ (i := 0) (N := some 144) (v := ?_) (a' := ?_) #[true, false, false, false, false, false, false, false, false, false, false, false, false, false, false, false, false, false, false, false, false, false, false, false, false] rfl rfl (by kernel_rfl) (fun _ _ _ h => h) (Or.inl ⟨by rfl, ?_⟩) ?_ ?_
          rotate_left
          · intro w'
            go_simp
            with_reducible rfl
          rotate_left
          · simp only [Act.put, List.setIfInBounds_toArray, List.set_cons_zero, List.set_cons_succ, i64_w, i32_w]
            rfl
          refine pure_ (i := 1) (N := some 145) (v := ?_) (a' := ?_) #[true, true, false, false, false, false, false, false, false, false, false, false, false, false, false, false, false, false, false, false, false, false, false, false, false] rfl rfl (by kernel_rfl) (fun _ _ _ h => h) (Or.inl ⟨by rfl, ?_⟩) ?_ ?_
          rotate_left
          · intro w'
            go_simp
            with_reducible rfl
          rotate_left
          · simp only [Act.put, List.setIfInBounds_toArray, List.set_cons_zero, List.set_cons_succ, i64_w, i32_w]
            rfl
          refine pure_ (i := 2) (N := some 146) (v := ?_) (a' := ?_) #[true, true, true, false, false, false, false, false, false, false, false, false, false, false, false, false, false, false, false, false, false, false, false, false, false] rfl rfl (by kernel_rfl) (fun _ _ _ h => h) (Or.inl ⟨by rfl, ?_⟩) ?_ ?_
          rotate_left
          · intro w'
            go_simp
            with_reducible rfl
          rotate_left
          · simp only [Act.put, List.setIfInBounds_toArray, List.set_cons_zero, List.set_cons_succ, i64_w, i32_w]
            rfl
          refine pure_ (i := 3) (N := some 147) (v := ?_) (a' := ?_) #[true, true, true, true, false, false, false, false, false, false, false, false, false, false, false, false, false, false, false, false, false, false, false, false, false] rfl rfl (by kernel_rfl) (fun _ _ _ h => h) (Or.inl ⟨by rfl, ?_⟩) ?_ ?_
          rotate_left
          · intro w'
            go_simp
            with_reducible rfl
          rotate_left
          · simp only [Act.put, List.setIfInBounds_toArray, List.set_cons_zero, List.set_cons_succ, i64_w, i32_w]
            rfl
          refine pure_ (i := 4) (N := some 148) (v := ?_) (a' := ?_) #[true, true, true, true, true, false, false, false, false, false, false, false, false, false, false, false, false, false, false, false, false, false, false, false, false] rfl rfl (by kernel_rfl) (fun _ _ _ h => h) (Or.inl ⟨by rfl, ?_⟩) ?_ ?_
          rotate_left
          · intro w'
            go_simp
            with_reducible rfl
          rotate_left
          · simp only [Act.put, List.setIfInBounds_toArray, List.set_cons_zero, List.set_cons_succ, i64_w, i32_w]
            rfl
          refine pure_ (i := 5) (N := some 149) (v := ?_) (a' := ?_) #[true, true, true, true, true, true, false, false, false, false, false, false, false, false, false, false, false, false, false, false, false, false, false, false, false] rfl rfl (by kernel_rfl) (fun _ _ _ h => h) (Or.inl ⟨by rfl, ?_⟩) ?_ ?_
          rotate_left
          · intro w'
            go_simp
            with_reducible rfl
          rotate_left
          · simp only [Act.put, List.setIfInBounds_toArray, List.set_cons_zero, List.set_cons_succ, i64_w, i32_w]
            rfl
          refine pure_ (i := 6) (N := some 150) (v := ?_) (a' := ?_) #[true, true, true, true, true, true, true, false, false, false, false, false, false, false, false, false, false, false, false, false, false, false, false, false, false] rfl rfl (by kernel_rfl) (fun _ _ _ h => h) (Or.inl ⟨by rfl, ?_⟩) ?_ ?_
          rotate_left
          · intro w'
            go_simp
            with_reducible rfl
          rotate_left
          · simp only [Act.put, List.setIfInBounds_toArray, List.set_cons_zero, List.set_cons_succ, i64_w, i32_w]
            rfl
          refine pure_ (i := 7) (N := some 151) (v := ?_) (a' := ?_) #[true, true, true, true, true, true, true, true, false, false, false, false, false, false, false, false, false, false, false, false, false, false, false, false, false] rfl rfl (by kernel_rfl) (fun _ _ _ h => h) (Or.inl ⟨by rfl, ?_⟩) ?_ ?_
          rotate_left
          · intro w'
            go_simp
            with_reducible rfl
          rotate_left
          · simp only [Act.put, List.setIfInBounds_toArray, List.set_cons_zero, List.set_cons_succ, i64_w, i32_w]
            rfl
          refine pure_ (i := 8) (N := some 152) (v := ?_) (a' := ?_) #[true, true, true, true, true, true, true, true, true, false, false, false, false, false, false, false, false, false, false, false, false, false, false, false, false] rfl rfl (by kernel_rfl) (fun _ _ _ h => h) (Or.inl ⟨by rfl, ?_⟩) ?_ ?_
          rotate_left
          · intro w'
            go_simp
            with_reducible rfl
          rotate_left
          · simp only [Act.put, List.setIfInBounds_toArray, List.set_cons_zero, List.set_cons_succ, i64_w, i32_w]
            rfl
          refine pure_ (i := 9) (N := some 153) (v := ?_) (a' := ?_) #[true, true, true, true, true, true, true, true, true, true, false, false, false, false, false, false, false, false, false, false, false, false, false, false, false] rfl rfl (by kernel_rfl) (fun _ _ _ h => h) (Or.inl ⟨by rfl, ?_⟩) ?_ ?_
          rotate_left
          · intro w'
            go_simp
            with_reducible rfl
          rotate_left
          · simp only [Act.put, List.setIfInBounds_toArray, List.set_cons_zero, List.set_cons_succ, i64_w, i32_w]
            rfl
          refine pure_ (i := 10) (N := some 154) (v := ?_) (a' := ?_) #[true, true, true, true, true, true, true, true, true, true, true, false, false, false, false, false, false, false, false, false, false, false, false, false, false] rfl rfl (by kernel_rfl) (fun _ _ _ h => h) (Or.inl ⟨by rfl, ?_⟩) ?_ ?_
          rotate_left
          · intro w'
            go_simp
            with_reducible rfl
          rotate_left
          · simp only [Act.put, List.setIfInBounds_toArray, List.set_cons_zero, List.set_cons_succ, i64_w, i32_w]
            rfl
          refine pure_ (i := 12) (N := some 156) (v := ?_) (a' := ?_) #[true, true, true, true, true, true, true, true, true, true, true, false, true, false, false, false, false, false, false, false, false, false, false, false, false] rfl rfl (by kernel_rfl) (fun _ _ _ h => h) (Or.inl ⟨by rfl, ?_⟩) ?_ ?_
          rotate_left
          · intro w'
            go_simp
            with_reducible rfl
          rotate_left
          · simp only [Act.put, List.setIfInBounds_toArray, List.set_cons_zero, List.set_cons_succ, i64_w, i32_w]
            rfl
          refine take_ (i := 11) (N := some 155) (v := ?_) (a' := ?_) #[true, true, true, true, true, true, true, true, true, true, true, true, true, false, false, false, false, false, false, false, false, false, false, false, false] rfl rfl (by kernel_rfl) (fun _ _ _ h => h) (Or.inl ⟨by rfl, ?_⟩) hHeld ?_ ?_
          rotate_left
          · rintro w' ⟨s0, s1, s2, s3, s4⟩
            go_simp
            with_reducible rfl
          rotate_left
          · simp only [Act.put, List.setIfInBounds_toArray, List.set_cons_zero, List.set_cons_succ, i64_w, i32_w]
            rfl
          refine pure_ (i := 13) (N := some 157) (v := ?_) (a' := ?_) #[true, true, true, true, true, true, true, true, true, true, true, true, true, true, false, false, false, false, false, false, false, false, false, false, false] rfl rfl (by kernel_rfl) (fun _ _ _ h => h) (Or.inl ⟨by rfl, ?_⟩) ?_ ?_
          rotate_left
          · intro w'
            go_simp
            with_reducible rfl
          rotate_left
          · simp only [Act.put, List.setIfInBounds_toArray, List.set_cons_zero, List.set_cons_succ, i64_w, i32_w]
            rfl
          refine pure_ (i := 14) (N := some 158) (v := ?_) (a' := ?_) #[true, true, true, true, true, true, true, true, true, true, true, true, true, true, true, false, false, false, false, false, false, false, false, false, false] rfl rfl (by kernel_rfl) (fun _ _ _ h => h) (Or.inl ⟨by rfl, ?_⟩) ?_ ?_
          rotate_left
          · intro w'
            go_simp
            with_reducible rfl
          rotate_left
          · simp only [Act.put, List.setIfInBounds_toArray, List.set_cons_zero, List.set_cons_succ, i64_w, i32_w]
            rfl
          refine pure_ (i := 15) (N := some 159) (v := ?_) (a' := ?_) #[true, true, true, true, true, true, true, true, true, true, true, true, true, true, true, true, false, false, false, false, false, false, false, false, false] rfl rfl (by kernel_rfl) (fun _ _ _ h => h) (Or.inl ⟨by rfl, ?_⟩) ?_ ?_
          rotate_left
          · intro w'
            go_simp
            with_reducible rfl
          rotate_left
          · simp only [Act.put, List.setIfInBounds_toArray, List.set_cons_zero, List.set_cons_succ, i64_w, i32_w]
            rfl
          refine pure_ (i := 16) (N := some 160) (v := ?_) (a' := ?_) #[true, true, true, true, true, true, true, true, true, true, true, true, true, true, true, true, true, false, false, false, false, false, false, false, false] rfl rfl (by kernel_rfl) (fun _ _ _ h => h) (Or.inl ⟨by rfl, ?_⟩) ?_ ?_
          rotate_left
          · intro w'
            go_simp
            with_reducible rfl
          rotate_left
          · simp only [Act.put, List.setIfInBounds_toArray, List.set_cons_zero, List.set_cons_succ, i64_w, i32_w]
            rfl
          refine pure_ (i := 17) (N := some 161) (v := ?_) (a' := ?_) #[true, true, true, true, true, true, true, true, true, true, true, true, true, true, true, true, true, true, false, false, false, false, false, false, false] rfl rfl (by kernel_rfl) (fun _ _ _ h => h) (Or.inl ⟨by rfl, ?_⟩) ?_ ?_
          rotate_left
          · intro w'
            go_simp
            with_reducible rfl
          rotate_left
          · simp only [Act.put, List.setIfInBounds_toArray, List.set_cons_zero, List.set_cons_succ, i64_w, i32_w]
            rfl
          refine pure_ (i := 19) (N := some 163) (v := ?_) (a' := ?_) #[true, true, true, true, true, true, true, true, true, true, true, true, true, true, true, true, true, true, false, true, false, false, false, false, false] rfl rfl (by kernel_rfl) (fun _ _ _ h => h) (Or.inl ⟨by rfl, ?_⟩) ?_ ?_
          rotate_left
          · intro w'
            go_simp
            with_reducible rfl
          rotate_left
          · simp only [Act.put, List.setIfInBounds_toArray, List.set_cons_zero, List.set_cons_succ, i64_w, i32_w]
            rfl
          refine pure_ (i := 20) (N := some 164) (v := ?_) (a' := ?_) #[true, true, true, true, true, true, true, true, true, true, true, true, true, true, true, true, true, true, false, true, true, false, false, false, false] rfl rfl (by kernel_rfl) (fun _ _ _ h => h) (Or.inl ⟨by rfl, ?_⟩) ?_ ?_
          rotate_left
          · intro w'
            go_simp
            with_reducible rfl
          rotate_left
          · simp only [Act.put, List.setIfInBounds_toArray, List.set_cons_zero, List.set_cons_succ, i64_w, i32_w]
            rfl
          refine take_ (i := 18) (N := some 162) (v := ?_) (a' := ?_) #[true, true, true, true, true, true, true, true, true, true, true, true, true, true, true, true, true, true, true, true, true, false, false, false, false] rfl rfl (by kernel_rfl) (fun _ _ _ h => h) (Or.inl ⟨by rfl, ?_⟩) hHeld ?_ ?_
          rotate_left
          · rintro w' ⟨s0, s1, s2, s3, s4⟩
            go_simp
            with_reducible rfl
          rotate_left
          · simp only [Act.put, List.setIfInBounds_toArray, List.set_cons_zero, List.set_cons_succ, i64_w, i32_w]
            rfl
          refine take_ (i := 21) (N := some 165) (v := ?_) (a' := ?_) #[true, true, true, true, true, true, true, true, true, true, true, true, true, true, true, true, true, true, true, true, true, true, false, false, false] rfl rfl (by kernel_rfl) (fun _ _ _ h => h) (Or.inl ⟨by rfl, ?_⟩) hHeld ?_ ?_
          rotate_left
          · rintro w' ⟨s0, s1, s2, s3, s4⟩
            go_simp
            with_reducible rfl
          rotate_left
          · simp only [Act.put, List.setIfInBounds_toArray, List.set_cons_zero, List.set_cons_succ, i64_w, i32_w]
            rfl
          refine one_ (i := 22) (N := some 166) #[true, true, true, true, true, true, true, true, true, true, true, true, true, true, true, true, true, true, true, true, true, true, true, false, false] rfl rfl (by kernel_rfl) (by decide) (fun K hK => ?_)
          refine goes_ Tryd.func17 (by kernel_rfl) rfl #[.agg #[.bool true, .int .i64 q], .agg #[.bool true, .int .i64 q]] (by rfl) rfl rfl (by simp only [List.map_toArray, List.map_cons, List.map_nil]; rfl) ?_
          (with_reducible refine (gristmillref_SameWord.calls true q true q true _ (by simp [gristmillref_SameWord.f])).mono ?_)
          rintro e w14 ⟨rfl, hb⟩
          refine ⟨_, rfl, ?_⟩
          have HR14 := Aside0.mk (HR13.out.below hb)
          have HO14 := Aside0.mk (HR13.out.row HO13.out hb)
          have HF14 := Aside0.mk (HR13.out.row HF13.out hb)
          refine hK.out _ _ ⟨(hb.cell (World.block_lt_of_cell? _ _ (hHeld.1))).trans (hHeld.1), (hb.cell (World.block_lt_of_cell? _ _ (hHeld.2.1))).trans (hHeld.2.1), (hb.cell (World.block_lt_of_cell? _ _ (hHeld.2.2.1))).trans (hHeld.2.2.1), (hb.cell (World.block_lt_of_cell? _ _ (hHeld.2.2.2.1))).trans (hHeld.2.2.2.1), (hb.cell (World.block_lt_of_cell? _ _ (hHeld.2.2.2.2))).trans (hHeld.2.2.2.2)⟩ (fun hHeld => ?_)
          clear hK K
          refine norm_ (a' := ?_) ?_ ?_
          rotate_left
          · show Act.put _ (some 166) _ = _
            simp only [Act.put, List.setIfInBounds_toArray, List.set_cons_zero, List.set_cons_succ, i64_w, i32_w]
            rfl
          refine pure_ (i := 23) (N := some 167) (v := ?_) (a' := ?_) #[true, true, true, true, true, true, true, true, true, true, true, true, true, true, true, true, true, true, true, true, true, true, true, true, false] rfl rfl (by kernel_rfl) (fun _ _ _ h => h) (Or.inl ⟨by rfl, ?_⟩) ?_ ?_
          rotate_left
          · intro w'
            go_simp
            with_reducible rfl
          rotate_left
          · simp only [Act.put, List.setIfInBounds_toArray, List.set_cons_zero, List.set_cons_succ, i64_w, i32_w]
            rfl
          refine pure_ (i := 24) (N := some 168) (v := ?_) (a' := ?_) #[true, true, true, true, true, true, true, true, true, true, true, true, true, true, true, true, true, true, true, true, true, true, true, true, true] rfl rfl (by kernel_rfl) (fun _ _ _ h => h) (Or.inl ⟨by rfl, ?_⟩) ?_ ?_
          rotate_left
          · intro w'
            go_simp
            with_reducible rfl
          rotate_left
          · simp only [Act.put, List.setIfInBounds_toArray, List.set_cons_zero, List.set_cons_succ, i64_w, i32_w]
            rfl
          refine done_ (by kernel_rfl) ?_
          have CNq := node_r HR14.out hnq.out
          simp only [hnqf.out, List.length_cons, List.length_nil, Nat.zero_add, Nat.reduceAdd] at CNq
          obtain ⟨hh1, hh2, hh3, _, _⟩ := hHeld
          go_wp2_with (first | (go_at_call 16; go_loud (with_reducible refine CNq.mono ?_); rintro e w15 ⟨Ah, ch, rfl, hRh, hrh, hbh⟩; have HR15 := Aside0.mk hrh; have HO15 := Aside0.mk (HR14.out.row HO14.out hbh); have HF15 := Aside0.mk (HR14.out.row HF14.out hbh); obtain ⟨ah, rfl, z0, z1⟩ := at_T33 (Kd.R_reads' hRh).2.2 0 (by simp) (by simp); have z0 : w15.cell? ah = some (.bool false) := by { simpa [Addr.add, rd_T33] using z0 }; have z1 : w15.cell? ⟨ah.block, ah.off + 1, none⟩ = some (.int .i64 a1) := by { simpa [Addr.add, rd_T33] using z1 }; clear hRh hrh hbh CNq hh1 hh2 hh3))
          go_roundg (gk - 1)
          case measure => omega
          case rel => exact ⟨i2 + 1, congrArg (Value.int .i64) (by omega), by omega, by omega, HR15, HO15, HF15⟩
        · have q2 : decide ((i2 : Int) < (k : Int) + 2) = false := decide_eq_false (by omega)
          go_wp2
          go_ret
          exact ⟨rfl, hr12.out.1⟩
end Go.Proofs.YtepaddjjdhpmpaaDoor.HeapA
