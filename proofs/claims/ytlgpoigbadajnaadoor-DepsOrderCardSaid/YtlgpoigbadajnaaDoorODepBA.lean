/- DepsOrder's walk. Condition: the library's table of powers of ten reads as it is laid; what came in is of a size that memory has room for. -/
import Derived.Test.YtlgpoigbadajnaaDoorOEX
namespace Go.Proofs.YtlgpoigbadajnaaDoor.DepA.Z
open Go.RowKit Go.Proofs.YtlgpoigbadajnaaDoorW.PrintWords Go.Proofs.YtlgpoigbadajnaaDoorW.PrintLast Go.Proofs.YtlgpoigbadajnaaDoorW.PrintMore Go.Proofs.YtlgpoigbadajnaaDoor.PDepA
set_option linter.unusedVariables false
set_option linter.unusedSimpArgs false
theorem field0 (a b c : Value) (W : World) : (Instr.field 48 (.agg #[a, b, c]) 0).run Tryd.prog W = .ok a W := by kernel_rfl
set_option maxHeartbeats 32000000 in
set_option maxRecDepth 100000 in
theorem order_walk (ds : List S56) (fs : List S34) (hds : ds.length ≤ BL) (hfs : fs.length ≤ BL) (hR : ∀ d ∈ ds, RD d) (hF : ∀ d ∈ fs, RF d) (w : World) (hg : GG w) {Ad Af : Option Addr} {nd nf : Nat} (h1 : k56.C w Ad ds.length ds) (l1 : ds.length ≤ nd) (h2 : k34.C w Af fs.length fs) (l2 : fs.length ≤ nf) :
  Calls Tryd.prog 5 #[.agg #[.slice Ad ds.length nd, .slice Af fs.length nf]] w fun e w' => e = .returned (.bool true) ∧ Below w.heap.size w w' := by
 have hl9 := Qb.mk (And.intro hds (And.intro hfs True.intro))
 have hR9 := Qb.mk (And.intro hR hF)
 have hC1 := Qb.mk h1
 have hC2 := Qb.mk h2
 obtain ⟨W0, hW0⟩ : ∃ W0, w.alloc (.cells #[.slice Ad ds.length nd, .slice Af fs.length nf] 38) = W0 := ⟨_, rfl⟩
 have hB0 : Qb (Below w.heap.size w W0) := ⟨by rw [← hW0]; exact Qd (Below.refl _ _) _⟩
 have hbx : Qb (W0.heap[w.heap.size]? = some (.cells #[.slice Ad ds.length nd, .slice Af fs.length nf] 38 (0, 0))) := ⟨by rw [← hW0]; exact Qv w _⟩
 have CC := Qb.mk (fun (W : World) (hp : ds.length ≤ 8 ∧ fs.length ≤ 12 ∧ (∀ d ∈ ds, DOk d) ∧ ∀ d ∈ fs, FOk d) (hb : Below W0.heap.size W0 W) => check_c ds fs hp.1 hp.2.1 hp.2.2.1 hp.2.2.2 W (GG.below hg (hB0.out.trans (hb.mono hB0.out.size))) (nd := nd) (nf := nf) (Kd.Qj (Kd.Qj h1 hB0.out) hb) l1 (Kd.Qj (Kd.Qj h2 hB0.out) hb) l2)
 clear h1 h2 hds hfs hR hF hg l1 l2
 have hB : Qb (Below W0.heap.size W0 W0) := ⟨Below.refl _ _⟩
 have k0 := (Qa hbx.out 0).trans rfl
 have k1 := (Qa hbx.out 1).trans rfl
 go_enter Tryd.func5, Tryd.ntmps5
 go_upto_region 4 with ((go_at_call 6; (try rw [hW0]); go_loud (with_reducible refine (first_calls W0).mono ?_); rintro r w1 ⟨rfl, hb3⟩; have H1 := Qb.mk hb3; clear hb3 k0 k1))
 clear hW0
 have k0 := (Qa (Qc hbx.out H1.out) 0).trans rfl
 have k1 := (Qa (Qc hbx.out H1.out) 1).trans rfl
 have CS := small_w ds fs hl9.out.1 hl9.out.2.1 hR9.out.1 hR9.out.2 w1 (nd := nd) (nf := nf) (Kd.Qj (Kd.Qj hC1.out hB0.out) H1.out) (Kd.Qj (Kd.Qj hC2.out hB0.out) H1.out)
 go_cut [25] (fun v25 wc => ∃ b : Bool, v25 = .bool b ∧ Qb (b = false → ds.length ≤ 8 ∧ fs.length ≤ 12 ∧ (∀ d ∈ ds, DOk d) ∧ ∀ d ∈ fs, FOk d) ∧ Qb (Below W0.heap.size W0 wc))
 case first => as_aux_lemma =>
  go_wp2_with (first | (go_at_call 16; go_loud (with_reducible refine CS.mono ?_); rintro r w2 ⟨b, rfl, hb, hb3⟩; have H2 := Qb.mk (Qe H1.out hb3); have hb := Qb.mk hb; obtain ⟨j0, j1⟩ := c2_ (Qc hbx.out H2.out); clear hb3 CS k0 k1; cases b) | (go_at_call 17; go_loud (with_reducible refine (CC.out _ (hb.out (by first | rfl | trivial)) H2.out).mono ?_); rintro r w3 ⟨v1, v2, v3, rfl, hb3⟩; have H3 := Qb.mk (Qe H2.out hb3); have hf := field0 (.int .i64 v1) (.bool v2) (.int .i64 v3) w3; clear hb3))
  all_goals (go_meet; (case rel => first | exact ⟨true, rfl, ⟨fun h => absurd h (by decide)⟩, H2⟩ | exact ⟨_, rfl, ⟨fun _ => hb.out (by first | rfl | trivial)⟩, H3⟩))
 case rest =>
  obtain ⟨b, rfl, hb, hB⟩ := hcut
  rename World => wr
  clear CS CC H1 k0 k1
  cases b
  ·skip
   obtain ⟨n8, n12, hDs, hFs⟩ := hb.out (by first | rfl | trivial)
   have hok := ok3_of (fs := fs) (by omega) hFs
   obtain ⟨R, Of, hG, hRl, hrun, hOl, hle, hsm⟩ := order_facts (fs := fs) (by omega)
   have hlow : Qb (fs.length ≤ 12) := ⟨n12⟩
   have CG := groups3_calls (w := wr) fs hok hG fs.length R.length rfl rfl (Ad := Ad) (nd := ds.length) (cd := nd) (cf := nf) (Kd.Qj (Kd.Qj hC2.out hB0.out) hB.out)
   have hok := Qb.mk hok
   have hRl := Qb.mk hRl
   have hrun := Qb.mk hrun
   have hOl := Qb.mk hOl
   have hle := Qb.mk hle
   have hsm := Qb.mk hsm
   have hFs := Qb.mk hFs
   clear hG hb hDs n8 n12
   have k0 := (Qa (Qc hbx.out hB.out) 0).trans rfl
   have k1 := (Qa (Qc hbx.out hB.out) 1).trans rfl
   go_upto_region 7 with ((go_at_call 13; go_loud (with_reducible refine CG.mono ?_); rintro r w5 ⟨G, cg, rfl, hcg, hRw, hb3⟩; have H5 := Qb.mk (Qe hB.out hb3); have hRw := Qb.mk hRw; clear hb3 CG hcg k0))
   clear hB k1
   have k1 := (Qa (Qc hbx.out H5.out) 1).trans rfl
   obtain ⟨i0, hi0, hzz⟩ := Option.map_eq_some_iff.1 infI
   simp only [Prod.mk.injEq] at hzz
   obtain ⟨hz0, hz1, hz2⟩ := hzz
   have hr := run_make (P := Tryd.prog) (w := w5) 42 3 i0 (.int .i64 0) Tryd.underlying42 hi0 hz0 .i64 .i64 (fs.length : Int) (fs.length : Int) (by omega) (by omega) (by rw [hz2]; have := hlow.out; omega) (by have := hlow.out; omega)
   simp only [Int.toNat_natCast] at hr
   rw [hz1] at hr
   have hO := OB.made w5 fs.length
   obtain ⟨W6, hW6⟩ : ∃ W6, w5.alloc (.cells (madeCells (Value.int .i64 0).cells (fs.length * 1)) 3) = W6 := ⟨_, rfl⟩
   rw [hW6] at hr hO
   obtain ⟨ob, hg5⟩ : ∃ ob, w5.heap.size = ob := ⟨_, rfl⟩
   rw [hg5] at hr hO
   have hB : Qb (Below w5.heap.size w5 W6) := ⟨by rw [← hW6]; exact Qd (Below.refl _ _) _⟩
   have hgl : Qb (w5.heap.size ≤ ob) := ⟨Nat.le_of_eq hg5⟩
   have hO := Qb.mk hO
   clear hz0 hz1 hz2 hi0 hg5 hW6
   go_upto_region 8 with (fail)
   clear hr k1
   have hbx5 := Qb.mk (Qc hbx.out H5.out)
   go_wp2
   have hO : Qb (OB W6 ob (List.replicate fs.length 0) ∧ (List.replicate fs.length (0 : Int)).length = fs.length) := ⟨hO.out, by simp⟩
   have hrunr : Qb (runG (R.drop 0) ((0 + 1 : Nat) : Int) (List.replicate fs.length 0) = some Of) := ⟨hrun.out⟩
   have hn : Qb (0 + (R.drop 0).flatten.length = R.flatten.length ∧ 0 ≤ R.length) := ⟨by rw [List.drop_zero]; omega, Nat.zero_le _⟩
   go_loopg [6, 7] (R.length + 1) (fun kq v6 v7 w' => ∃ (O : List Int) (n : Nat) (i : Nat), v6 = .int .i64 (n : Int) ∧ v7 = .int .i64 (i : Int) ∧ i + kq = R.length + 1 ∧ 1 ≤ kq ∧ Qb (Below w5.heap.size w5 w') ∧ Qb (OB w' ob O ∧ O.length = fs.length) ∧ Qb (runG (R.drop i) ((i + 1 : Nat) : Int) O = some Of) ∧ Qb (n + (R.drop i).flatten.length = R.flatten.length ∧ i ≤ R.length))
   case atStart => exact ⟨List.replicate fs.length 0, 0, 0, rfl, rfl, by omega, by omega, hB, hO, hrunr, hn⟩
   case round =>
    clear hB
    clear hO hrunr hn
    obtain ⟨O, n, i, rfl, rfl, hi, hk, hBr, hO, hrunr, hn⟩ := hrel
    obtain ⟨g, hg⟩ : ∃ g, g = gk := ⟨_, rfl⟩
    by_cases hlt : i < R.length
    ·obtain ⟨ad, Q1, q1', e, r5, hrc, _⟩ := at_row (Below.refl _ _) hRw.out i hlt
     subst e
     have hrunb := runG_step hlt hrunr.out
     have hfd := flat_drop hlt
     generalize R[i] = x at r5 hrc hrunb hfd
     have r5 := Qb.mk r5
     have hrc := Qb.mk hrc
     have hrunb := Qb.mk hrunb
     have hnb : Qb (n + (x.length - 0) + (R.drop (i + 1)).flatten.length = R.flatten.length ∧ 0 ≤ x.length ∧ R.flatten.length ≤ 12) := ⟨by have := hn.out; omega, Nat.zero_le _, by have := hRl.out; have := hlow.out; omega⟩
     have hxl : Qb (x.length ≤ 12) := ⟨by have := hn.out; have := hRl.out; have := hlow.out; omega⟩
     clear hrunr hfd hn
     have r0 := one_below r5.out hBr.out
     have hBi := hBr
     have hOb := hO
     clear hO
     have p0 : (0 : Int) ≤ (i : Int) := by omega
     have p1 : (i : Int) < (R.length : Int) := by omega
     have q1 : decide ((i : Int) < (R.length : Int)) = true := decide_eq_true p1
     go_wp2
     clear r0
     go_loopg [6, 8] (x.length + 1) (fun kq v6 v8 w' => ∃ (O : List Int) (n : Nat) (k : Nat), v6 = .int .i64 (n : Int) ∧ v8 = .int .i64 (k : Int) ∧ k + kq = x.length + 1 ∧ 1 ≤ kq ∧ Qb (Below w5.heap.size w5 w') ∧ Qb (OB w' ob O ∧ O.length = fs.length) ∧ Qb ((runK ((i + 1 : Nat) : Int) (x.drop k) O).bind (runG (R.drop (i + 1)) (((i + 1 : Nat) : Int) + 1)) = some Of) ∧ Qb (n + (x.length - k) + (R.drop (i + 1)).flatten.length = R.flatten.length ∧ k ≤ x.length ∧ R.flatten.length ≤ 12))
     case atStart => exact ⟨O, n, 0, rfl, rfl, by omega, by omega, hBi, hOb, hrunb, hnb⟩
     case round =>
      clear hBi
      clear hOb hrunb hnb
      obtain ⟨O, n, k, rfl, rfl, hib, hkb, hBrb, hOb, hrunb, hnb⟩ := hrel
      obtain ⟨gb, hgb⟩ : ∃ g, g = gk := ⟨_, rfl⟩
      by_cases hltb : k < x.length
      ·have k1 := (Qa (Qc hbx5.out hBrb.out) 1).trans rfl
       obtain ⟨q, hxq, hqO, hq0, hnx⟩ := runK_step hltb hrunb.out
       obtain ⟨ad1, e, x0⟩ := at_int (Kd.Qj hrc.out hBrb.out) k hltb hltb
       subst e
       rw [hxq] at x0
       have r0 := one_below r5.out hBrb.out
       obtain ⟨hoc, hof⟩ := hOb.out.1.cell q hqO
       have hoq : O[q] = 0 := by rw [List.getElem?_eq_getElem hqO] at hq0; exact Option.some.inj hq0
       rw [hoq] at hoc
       have hnx := Qb.mk hnx
       have hqf : q < fs.length := by have := hOb.out.2; omega
       clear hq0 hoq
       have p0 : (0 : Int) ≤ (k : Int) := by omega
       have p1 : (k : Int) < (x.length : Int) := by omega
       have q1 : decide ((k : Int) < (x.length : Int)) = true := decide_eq_true p1
       have hjnb : Value.int .i64 (wrap64 ((k : Int) + 1)) = .int .i64 ((k + 1 : Nat) : Int) := by rw [wr1 k (by have := hxl.out; omega)]
       have p0 : (0 : Int) ≤ (i : Int) := by omega
       have p2 : (0 : Int) ≤ (k : Int) := by omega
       have p4 : (0 : Int) ≤ (q : Int) := by omega
       have p1 : (i : Int) < (R.length : Int) := by omega
       have p3 : (k : Int) < (x.length : Int) := by omega
       have p5 : (q : Int) < (fs.length : Int) := by omega
       have q2 : decide ((q : Int) < 0) = false := decide_eq_false (by omega)
       have q3 : decide ((fs.length : Int) ≤ (q : Int)) = false := decide_eq_false (by omega)
       have q4 : decide (fs.length ≤ q) = false := decide_eq_false (by omega)
       go_upto_region 15 with (fail)
       go_cut [81] (fun v81 wc => v81 = .bool false ∧ Qb (Below w5.heap.size w5 wc) ∧ Qb (OB wc ob O))
       case first => as_aux_lemma =>
        go_quiet (fail)
        go_wp2
        go_meet
        case rel => exact ⟨rfl, ⟨Qh hBrb.out nq⟩, ⟨hOb.out.1.below (Qh (Below.refl _ _) nq)⟩⟩
       case rest =>
        obtain ⟨rfl, hBc, hOc⟩ := hcut
        rename World => wd
        have hoO := Qb.mk hOb.out.2
        clear hBrb hOb hoc hof x0 r0 k1
        obtain ⟨ad2, e, x0⟩ := at_int (Kd.Qj hrc.out hBc.out) k hltb hltb
        obtain rfl := Option.some.inj e
        rw [hxq] at x0
        have r0 := one_below r5.out hBc.out
        obtain ⟨hoc, hof⟩ := hOc.out.cell q hqO
        have hqO := Qb.mk hqO
        have hB6 : Qb (Below w5.heap.size w5 (wd.setCell ⟨ob, q, none⟩ (.int .i64 ((i + 1 : Nat) : Int)))) := ⟨hBc.out.setCell (p := ⟨ob, q, none⟩) hgl.out _⟩
        have hO6 : Qb (OB (wd.setCell ⟨ob, q, none⟩ (.int .i64 ((i + 1 : Nat) : Int))) ob (O.set q ((i + 1 : Nat) : Int)) ∧ (O.set q ((i + 1 : Nat) : Int)).length = fs.length) := ⟨hOc.out.put q _, by rw [List.length_set]; exact hoO.out⟩
        have hni : Value.int .i64 (wrap64 ((i : Int) + 1)) = .int .i64 ((i + 1 : Nat) : Int) := by rw [wr1 i (by have := hRl.out; have := hlow.out; omega)]
        have hnn : Value.int .i64 (wrap64 ((n : Int) + 1)) = .int .i64 ((n + 1 : Nat) : Int) := by rw [wr1 n (by have := hnb.out; omega)]
        go_wp2
        go_roundg (gb - 1)
        case measure => omega
        case rel => exact ⟨O.set q ((i + 1 : Nat) : Int), n + 1, k + 1, rfl, by first | exact hjnb | rfl, by omega, by omega, hB6, hO6, hnx, ⟨by have := hnb.out; omega⟩⟩
      ·have q1 : decide ((k : Int) < (x.length : Int)) = false := decide_eq_false (by omega)
       have hBi := hBrb
       clear hBrb
       clear hib hkb hgb
       have r0 := one_below r5.out hBi.out
       have p0 : (0 : Int) ≤ (i : Int) := by omega
       have p1 : (i : Int) < (R.length : Int) := by omega
       have hjn : Value.int .i64 (wrap64 ((i : Int) + 1)) = .int .i64 ((i + 1 : Nat) : Int) := by rw [wr1 i (by have := hRl.out; have := hlow.out; omega)]
       have hru := runK_end (by omega) hrunb.out
       rw [show (((i + 1 : Nat) : Int)) + 1 = ((i + 1 + 1 : Nat) : Int) by omega] at hru
       have hru := Qb.mk hru
       have hk9 : Qb (x.length ≤ k) := ⟨by omega⟩
       go_wp2
       go_roundg (g - 1)
       case measure => omega
       case rel => exact ⟨O, n, i + 1, rfl, by first | exact hjn | rfl, by omega, by omega, hBi, hOb, hru, ⟨by have := hnb.out; have := hk9.out; omega⟩⟩
    ·have q1 : decide ((i : Int) < (R.length : Int)) = false := decide_eq_false (by omega)
     have hB := hBr
     clear hBr
     clear hi hk hg
     rename World => wP
     have hbx2 := Qb.mk (Qc hbx5.out hB.out)
     have hBT := Qb.mk (hB0.out.trans ((H5.out.trans (hB.out.mono H5.out.size)).mono hB0.out.size))
     have hOe : Of = O := by have h := hrunr.out; rw [List.drop_of_length_le (by omega), runG] at h; exact (Option.some.inj h).symm
     subst hOe
     have hO2 := Qb.mk hO.out.1
     have hne : (n : Int) = (fs.length : Int) := by have h := hn.out; rw [List.drop_of_length_le (by omega)] at h; have := hRl.out; simp only [List.flatten_nil, List.length_nil] at h; omega
     have k1 := (Qa hbx2.out 1).trans rfl
     rw [hne]
     clear hne hn hO hrunr hB
     have hB : Qb (Below wP.heap.size wP wP) := ⟨Below.refl _ _⟩
     go_wp2
     go_loopg [9] (fs.length + 1) (fun kq v9 w' => ∃ (i : Nat), v9 = .int .i64 (i : Int) ∧ i + kq = fs.length + 1 ∧ 1 ≤ kq ∧ Qb (Below wP.heap.size wP w'))
     case atStart => exact ⟨0, rfl, by omega, by omega, hB⟩
     case round =>
      clear hB
      obtain ⟨i, rfl, hi, hk, hBr⟩ := hrel
      obtain ⟨g, hg⟩ : ∃ g, g = gk := ⟨_, rfl⟩
      by_cases hlt : i < fs.length
      ·have k0 := (Qa (Qc hbx2.out hBr.out) 0).trans rfl
       have k1 := (Qa (Qc hbx2.out hBr.out) 1).trans rfl
       obtain ⟨u, hu⟩ : ∃ u, usesL fs i = u := ⟨_, rfl⟩
       have hur := uses_row hlt
       rw [hu] at hur
       have hul : Qb (u.length ≤ 12) := ⟨by have := hur.1; have := hlow.out; omega⟩
       have hu9 : Qb (∀ k (hk : k < u.length), ∃ q : Nat, u[k] = (q : Int) ∧ q < fs.length) := ⟨fun k hk => ⟨u[k].toNat, by have := hur.2 _ (List.getElem_mem hk); omega, by have := hur.2 _ (List.getElem_mem hk); omega⟩⟩
       have hlu : Qb (∀ q : Nat, (q : Int) ∈ u → Of.getD q 1 ≤ Of.getD i 1) := ⟨fun q hq => hle.out i q hlt (by rw [hu]; exact hq)⟩
       have hC2r := Qb.mk (Kd.Qj hC2.out (hBT.out.trans (hBr.out.mono hBT.out.size)))
       have CU := uses_calls fs hC2r.out i hlt (okD_of (hFs.out _ (List.getElem_mem hlt))) (by have := hlow.out; omega) (Ad := Ad) (nd := ds.length) (cd := nd) (cf := nf)
       rw [hu] at CU
       clear hur hu
       have p0 : (0 : Int) ≤ (i : Int) := by omega
       have p1 : (i : Int) < (fs.length : Int) := by omega
       have q1 : decide ((i : Int) < (fs.length : Int)) = true := decide_eq_true p1
       have hjn : Value.int .i64 (wrap64 ((i : Int) + 1)) = .int .i64 ((i + 1 : Nat) : Int) := by rw [wr1 i (by have := hlow.out; omega)]
       go_wp2_with (first | (go_at_call 19; go_loud (with_reducible refine CU.mono ?_); rintro r w7 ⟨v7, rfl, hr7, hb7⟩; obtain ⟨A7, c7, hv7⟩ := Kd.Z8 hr7; subst hv7; have HB7 := Qb.mk (Qe hBr.out hb7); have HR7 := Qb.mk (Kd.Zk hr7).2.2; clear hb7 hr7 CU k0 k1))
       have hO7 := Qb.mk (OB.below hO2.out HB7.out)
       have hBc : Qb (Below w7.heap.size w7 w7) := ⟨Below.refl _ _⟩
       go_loopg [11] (u.length + 1) (fun kq v11 w' => ∃ (k : Nat), v11 = .int .i64 (k : Int) ∧ k + kq = u.length + 1 ∧ 1 ≤ kq ∧ Qb (Below w7.heap.size w7 w'))
       case atStart => exact ⟨0, rfl, by omega, by omega, hBc⟩
       case round =>
        clear hBc
        obtain ⟨k, rfl, hic, hkc, hBrc⟩ := hrel
        obtain ⟨gc, hgc⟩ : ∃ g, g = gk := ⟨_, rfl⟩
        by_cases hltc : k < u.length
        ·obtain ⟨ad1, e, x0⟩ := at_int (Kd.Qj HR7.out hBrc.out) k hltc hltc
         subst e
         obtain ⟨q, hxq, hq1⟩ := hu9.out k hltc
         rw [hxq] at x0
         have hq2 := hlu.out q (hxq ▸ List.getElem_mem hltc)
         have h_q : q < Of.length := by have := hOl.out; omega
         have h_i : i < Of.length := by have := hOl.out; omega
         obtain ⟨hoq, _⟩ := (OB.below hO7.out hBrc.out).cell q h_q
         obtain ⟨hoi, _⟩ := (OB.below hO7.out hBrc.out).cell i h_i
         rw [List.getD_eq_getElem?_getD, List.getD_eq_getElem?_getD, List.getElem?_eq_getElem h_q, List.getElem?_eq_getElem h_i] at hq2
         simp only [Option.getD_some] at hq2
         generalize Of[q] = oq at hoq hq2
         generalize Of[i] = oi at hoi hq2
         have q2 : decide (oi < oq) = false := decide_eq_false (by omega)
         clear hq2 hxq h_q h_i
         have p0 : (0 : Int) ≤ (k : Int) := by omega
         have p1 : (k : Int) < (u.length : Int) := by omega
         have q1 : decide ((k : Int) < (u.length : Int)) = true := decide_eq_true p1
         have hjnc : Value.int .i64 (wrap64 ((k : Int) + 1)) = .int .i64 ((k + 1 : Nat) : Int) := by rw [wr1 k (by have := hul.out; omega)]
         have p0 : (0 : Int) ≤ (i : Int) := by omega
         have p2 : (0 : Int) ≤ (k : Int) := by omega
         have p4 : (0 : Int) ≤ (q : Int) := by omega
         have p1 : (i : Int) < (fs.length : Int) := by omega
         have p3 : (k : Int) < (u.length : Int) := by omega
         have p5 : (q : Int) < (fs.length : Int) := by omega
         go_upto_region 28 with (fail)
         go_quiet (fail)
         have HB9 := Qb.mk (Qh hBrc.out nq)
         go_wp2
         go_roundg (gc - 1)
         case measure => omega
         case rel => exact ⟨k + 1, by first | exact hjnc | rfl, by omega, by omega, HB9⟩
        ·have q1 : decide ((k : Int) < (u.length : Int)) = false := decide_eq_false (by omega)
         have hBc := hBrc
         clear hBrc hic hkc hgc
         have hBu := Qb.mk (Qe HB7.out hBc.out)
         have hC2r := Qb.mk (Kd.Qj hC2.out (hBT.out.trans (hBu.out.mono hBT.out.size)))
         obtain ⟨nl, hnl2⟩ : ∃ nl, needL fs i = nl := ⟨_, rfl⟩
         have hnl : Qb (nl.length ≤ 12) := ⟨by rw [← hnl2]; have := ris_len (memN (ZN (allL fs) i)) fs.length 0; have h9 := hlow.out; unfold needL; omega⟩
         have CN := needed1_calls (w := wr) fs (by have h := hok.out; simp only [ok3, Bool.and_eq_true] at h; exact h.1) (by have h := hok.out; simp only [ok3, Bool.and_eq_true] at h; exact h.2) i hlt (Ad := Ad) (nd := ds.length) (cd := nd) (cf := nf) hC2r.out
         rw [hnl2] at CN
         have hnl2 := Qb.mk hnl2
         skip
         have k0 := (Qa (Qc hbx2.out hBu.out) 0).trans rfl
         have k1 := (Qa (Qc hbx2.out hBu.out) 1).trans rfl
         go_wp2_with (first | (go_at_call 14; go_loud (with_reducible refine CN.mono ?_); rintro r w8 ⟨v8, rfl, hr8, hb8⟩; obtain ⟨A8, c8', hv8⟩ := Kd.Z8 hr8; subst hv8; have HB8 := Qb.mk (Qe hBu.out hb8); have HR8 := Qb.mk (And.intro (Kd.Zk hr8).2.2 (Kd.Zk hr8).2.1); clear hb8 hr8 CN k0 k1))
         have hO8 := Qb.mk (OB.below hO2.out HB8.out)
         have hbx8 := Qb.mk (Qc hbx2.out HB8.out)
         have hBd : Qb (Below w8.heap.size w8 w8) := ⟨Below.refl _ _⟩
         go_loopg [13] (fs.length + 1) (fun kq v13 w' => ∃ (k : Nat), v13 = .int .i64 (k : Int) ∧ k + kq = fs.length + 1 ∧ 1 ≤ kq ∧ Qb (Below w8.heap.size w8 w'))
         case atStart => exact ⟨0, rfl, by omega, by omega, hBd⟩
         case round =>
          clear hBd
          obtain ⟨k, rfl, hid, hkd, hBrd⟩ := hrel
          obtain ⟨gd, hgd⟩ : ∃ g, g = gk := ⟨_, rfl⟩
          by_cases hltd : k < fs.length
          ·have k1 := (Qa (Qc hbx8.out hBrd.out) 1).trans rfl
           have h_q : k < Of.length := by have := hOl.out; omega
           have h_i : i < Of.length := by have := hOl.out; omega
           obtain ⟨hoq, _⟩ := (OB.below hO8.out hBrd.out).cell k h_q
           obtain ⟨hoi, _⟩ := (OB.below hO8.out hBrd.out).cell i h_i
           have p0 : (0 : Int) ≤ (k : Int) := by omega
           have p1 : (k : Int) < (fs.length : Int) := by omega
           have q1 : decide ((k : Int) < (fs.length : Int)) = true := decide_eq_true p1
           have hjnd : Value.int .i64 (wrap64 ((k : Int) + 1)) = .int .i64 ((k + 1 : Nat) : Int) := by rw [wr1 k (by have := hlow.out; omega)]
           have p0 : (0 : Int) ≤ (i : Int) := by omega
           have p2 : (0 : Int) ≤ (k : Int) := by omega
           have p1 : (i : Int) < (fs.length : Int) := by omega
           have p3 : (k : Int) < (fs.length : Int) := by omega
           have hin := hsm.out i k hlt hltd
           rw [List.getD_eq_getElem?_getD, List.getD_eq_getElem?_getD, List.getElem?_eq_getElem h_q, List.getElem?_eq_getElem h_i] at hin
           simp only [Option.getD_some] at hin
           rw [hnl2.out] at hin
           generalize Of[k] = ok at hoq hin
           generalize Of[i] = oi at hoi hin
           have hin := Qb.mk hin
           clear h_q h_i
           go_upto_region 34 with (fail)
           go_cut [157] (fun v157 wc => v157 = .bool false ∧ Qb (Below w8.heap.size w8 wc))
           case first => as_aux_lemma =>
            rcases bq (k : Int) (i : Int) with ⟨c1, d1⟩ | ⟨c1, d1⟩
            ·go_quiet (fail)
             go_wp2
             go_meet
             case rel => exact ⟨rfl, ⟨Qh hBrd.out nq⟩⟩
            ·rcases bq ok oi with ⟨c2, d2⟩ | ⟨c2, d2⟩
             ·have hin2 : decide ((k : Int) ∈ nl) = true := decide_eq_true (hin.out (beq_iff_eq.1 c2))
              have CA := Qb.mk (fun (n : Nat) => among_c nl (k : Int) (by have := hnl.out; omega) (wr.drewN n) (Kd.Vs (Kd.Qj HR8.out.1 hBrd.out) n) HR8.out.2)
              rw [hin2] at CA
              clear hin2
              go_quiet ((go_at_call 22; exact Calls.quiet_of ((CA.out _).mono fun e w' h => ⟨h.1, h.2.out⟩)))
              go_wp2
              go_meet
              case rel => exact ⟨rfl, ⟨Qh hBrd.out nq⟩⟩
             ·go_quiet (fail)
              go_wp2
              go_meet
              case rel => exact ⟨rfl, ⟨Qh hBrd.out nq⟩⟩
           case rest =>
            obtain ⟨rfl, hB9⟩ := hcut
            rename World => w9
            clear k1 hoq hoi
            go_wp2
            go_roundg (gd - 1)
            case measure => omega
            case rel => exact ⟨k + 1, by first | exact hjnd | rfl, by omega, by omega, hB9⟩
          ·have q1 : decide ((k : Int) < (fs.length : Int)) = false := decide_eq_false (by omega)
           have hBd := hBrd
           clear hBrd hid hkd hgd
           have k1 := (Qa (Qc hbx8.out hBd.out) 1).trans rfl
           have hBe := Qb.mk (Qe HB8.out hBd.out)
           go_wp2
           go_roundg (g - 1)
           case measure => omega
           case rel => exact ⟨i + 1, by first | exact hjn | rfl, by omega, by omega, hBe⟩
      ·have q1 : decide ((i : Int) < (fs.length : Int)) = false := decide_eq_false (by omega)
       have hB := hBr
       clear hBr hi hk hg
       have k1 := (Qa (Qc hbx2.out hB.out) 1).trans rfl
       go_wp2
       go_ret
       exact ⟨rfl, hBT.out.trans (hB.out.mono hBT.out.size)⟩
  ·go_wp2
   go_ret
   exact ⟨rfl, hB0.out.trans (hB.out.mono hB0.out.size)⟩
theorem order_row (ds : List S56) (fs : List S34) (w : World) (hg : GG w) (hd : ds.length ≤ BL ∧ ∀ x ∈ ds, RD x) (hf : fs.length ≤ BL ∧ ∀ x ∈ fs, RF x) {Ad Af : Option Addr} {nd nf : Nat} (h1 : k56.C w Ad ds.length ds) (l1 : ds.length ≤ nd) (h2 : k34.C w Af fs.length fs) (l2 : fs.length ≤ nf) :
  Calls Tryd.prog 5 #[.agg #[.slice Ad ds.length nd, .slice Af fs.length nf]] w fun e w' => e = .returned (.bool true) ∧ Below w.heap.size w w' :=
 order_walk ds fs hd.1 hf.1 hd.2 hf.2 w hg h1 l1 h2 l2
end Go.Proofs.YtlgpoigbadajnaaDoor.DepA.Z

