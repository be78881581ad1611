/- gristmillref5.Check ends at what came in. Conditions: the library's table of powers of ten reads as it is laid; few parts. -/
import Derived.Test.YtlgpoigbadajnaaDoorODepAV
namespace Go.Proofs.YtlgpoigbadajnaaDoor.DepA.Z
open Go.RowKit Go.Proofs.YtlgpoigbadajnaaDoorW.PrintWords Go.Proofs.YtlgpoigbadajnaaDoorW.PrintLast Go.Proofs.YtlgpoigbadajnaaDoorW.PrintMore Go.Proofs.YtlgpoigbadajnaaDoor.PDepA
set_option linter.unusedVariables false
set_option linter.unusedSimpArgs false
theorem ZE {W W1 : World} {p q : Addr} {u v : Value} (h : W.cell? p = some u ∧ W.cell? q = some v) (hb : Below W.heap.size W W1) : W1.cell? p = some u ∧ W1.cell? q = some v :=
 ⟨(hb.cell (World.block_lt_of_cell? _ _ h.1)).trans h.1, (hb.cell (World.block_lt_of_cell? _ _ h.2)).trans h.2⟩
theorem FC.below {W W1 : World} {p : Addr} {x : S34} {A1 A5 A6 A7 : Option Addr} {c1 c5 c6 c7 : Nat} (h : FC W p x A1 A5 A6 A7 c1 c5 c6 c7) (hb : Below W.heap.size W W1) : FC W1 p x A1 A5 A6 A7 c1 c5 c6 c7 := by
 obtain ⟨h0, h1, h2, h3, h4, h5, h6, h7⟩ := h
 have f := fun {p : Addr} {u : Value} (h : W.cell? p = some u) => (hb.cell (World.block_lt_of_cell? _ _ h)).trans h
 exact ⟨f h0, f h1, f h2, f h3, f h4, f h5, f h6, f h7⟩
set_option maxHeartbeats 32000000 in
set_option maxRecDepth 100000 in
theorem check_c (ds : List S56) (fs : List S34) (hds : ds.length ≤ 8) (hfs : fs.length ≤ 12) (hD : ∀ d ∈ ds, DOk d) (hF : ∀ d ∈ fs, FOk d) (w : World) (hg : GG w) {Ad Af : Option Addr} {nd nf : Nat} (h1 : k56.C w Ad ds.length ds) (l1 : ds.length ≤ nd) (h2 : k34.C w Af fs.length fs) (l2 : fs.length ≤ nf) :
  Calls Tryd.prog 17 #[.agg #[.slice Ad ds.length nd, .slice Af fs.length nf]] w (AnyF w) := by
 have E : ∀ W : World, ∀ o : Obj, (W.alloc o).heap.size = W.heap.size + 1 := fun W o => Array.size_push _
 obtain ⟨W0, hW0⟩ : ∃ W0, (w.alloc (.cells #[.slice Ad ds.length nd, .slice Af fs.length nf] 38)).alloc (.cells #[.int .i64 0, .bool false, .int .i64 0] 48) = W0 := ⟨_, rfl⟩
 have hB0 : Qb (Below w.heap.size w W0) := ⟨by rw [← hW0]; exact Qd (Qd (Below.refl _ _) _) _⟩
 have hbx : Qb (W0.heap[w.heap.size]? = some (.cells #[.slice Ad ds.length nd, .slice Af fs.length nf] 38 (0, 0))) := ⟨by rw [← hW0]; exact (Below.heap_alloc _ _ _ (by rw [E]; omega)).trans (Qv w _)⟩
 have hrx : Qb (W0.heap[w.heap.size + 1]? = some (.cells #[.int .i64 0, .bool false, .int .i64 0] 48 (0, 0))) := ⟨by rw [← hW0]; rw [← E w]; exact Qv _ _⟩
 have CV := valid_c ds fs hds hfs hD hF W0 (GG.below hg hB0.out) (nd := nd) (nf := nf) (Kd.Qj h1 hB0.out) (Kd.Qj h2 hB0.out)
 have hl9 := Qb.mk (And.intro hds hfs)
 have hn9 := Qb.mk (And.intro l1 l2)
 have hD9 := Qb.mk hD
 have hF9 := Qb.mk hF
 have hC1 := Qb.mk h1
 have hC2 := Qb.mk h2
 clear h1 h2 hds hfs hD hF hg l1 l2
 have k0 := (Qa hbx.out 0).trans rfl
 have k1 := (Qa hbx.out 1).trans rfl
 go_enter Tryd.func17, Tryd.ntmps17
 go_upto_region 1 with (fail)
 (try rw [hW0])
 clear hW0
 go_upto_region 2 with (go_at_call 34; go_loud (with_reducible refine CV.mono ?_); rintro r w1 ⟨y1, y2, y3, rfl, hb3⟩; have H1 := Qb.mk hb3; clear hb3 CV k0 k1)
 obtain ⟨W2, hW2⟩ : ∃ W2, w1.alloc (.cells #[.int .i64 y1, .bool y2, .int .i64 y3] 48) = W2 := ⟨_, rfl⟩
 have h12 : Qb (Below w1.heap.size w1 W2) := ⟨by rw [← hW2]; exact Qd (Below.refl _ _) _⟩
 have hyx : Qb (W2.heap[w1.heap.size]? = some (.cells #[.int .i64 y1, .bool y2, .int .i64 y3] 48 (0, 0))) := ⟨by rw [← hW2]; exact Qv w1 _⟩
 (try rw [hW2])
 clear hW2
 have hB := Qb.mk (H1.out.trans (h12.out.mono H1.out.size))
 clear H1 h12
 have q0 := (Qa hyx.out 0).trans rfl
 have q1 := (Qa hyx.out 1).trans rfl
 have q2 := (Qa hyx.out 2).trans rfl
 have k0 := (Qa (Qc hbx.out hB.out) 0).trans rfl
 have k1 := (Qa (Qc hbx.out hB.out) 1).trans rfl
 rcases bq y1 0 with ⟨a1, b1⟩ | ⟨a1, b1⟩
 ·have hR := Qb.mk (R2.nil W2 W0.heap.size)
  have hm : Qb (0 ≤ 0 ∧ 0 ≤ 1000 * 0) := ⟨Nat.le_refl _, Nat.le_refl _⟩
  go_wp2
  go_loopg [4, 5, 7] (ds.length + 1) (fun kq v4 v5 v7 w' => ∃ (A4 A5 : Option Addr) (m4 c4 m5 c5 : Nat) (i : Nat), v4 = .slice A4 m4 c4 ∧ v5 = .slice A5 m5 c5 ∧ v7 = .int .i64 (i : Int) ∧ i + kq = ds.length + 1 ∧ 1 ≤ kq ∧ Qb (Below W0.heap.size W0 w') ∧ Qb (R2 w' W0.heap.size A4 m4 c4 A5 m5 c5) ∧ Qb (m4 ≤ i ∧ m5 ≤ 1000 * i))
  case atStart => exact ⟨none, none, 0, 0, 0, 0, 0, rfl, rfl, rfl, by omega, by omega, hB, hR, hm⟩
  case round =>
   clear hB
   clear hR hm
   obtain ⟨A4, A5, m4, c4, m5, c5, i, rfl, rfl, rfl, hi, hk, hBr, hR, hm⟩ := hrel
   obtain ⟨g, hg⟩ : ∃ g, g = gk := ⟨_, rfl⟩
   by_cases hlt : i < ds.length
   ·rename World => wa
    have k0 := (Qa (Qc hbx.out hBr.out) 0).trans rfl
    have k1 := (Qa (Qc hbx.out hBr.out) 1).trans rfl
    have hxi : ds[i]? = some ds[i] := List.getElem?_eq_getElem hlt
    have hx := hD9.out _ (List.getElem_mem hlt)
    generalize ds[i] = d at hxi hx
    obtain ⟨ad, P1, n1, P2, n2, rfl, hDC, l1, g1, _, g2⟩ := elemD (Kd.Qj hC1.out hB0.out) i hxi
    obtain ⟨s0, s1, s2⟩ := hDC.below hBr.out
    have hp := hx.parts
    have hd9 : Qb (d.f2.length ≤ 1000 ∧ d.f1.length ≤ 1000) := ⟨hp.2.2.1, hp.2.1⟩
    have hCs := Qb.mk g2
    have hPs := Qb.mk (And.intro g1 l1)
    have hDx := Qb.mk hx
    clear hxi hx hp g1 g2 l1 hDC
    obtain ⟨Wd, hWd⟩ : ∃ Wd, wa.alloc (.cells #[.string d.f0, .slice P1 d.f1.length n1, .slice P2 d.f2.length n2] 56) = Wd := ⟨_, rfl⟩
    have hBd : Qb (Below wa.heap.size wa Wd) := ⟨by rw [← hWd]; exact Qd (Below.refl _ _) _⟩
    have hdi : Qb (Wd.heap[wa.heap.size]? = some (.cells #[.string d.f0, .slice P1 d.f1.length n1, .slice P2 d.f2.length n2] 56 (0, 0))) := ⟨by rw [← hWd]; exact Qv wa _⟩
    have p0 : (0 : Int) ≤ (i : Int) := by omega
    have p1 : (i : Int) < (ds.length : Int) := by omega
    have q1 : decide ((i : Int) < (ds.length : Int)) = true := decide_eq_true p1
    have hjn : Value.int .i64 (wrap64 ((i : Int) + 1)) = .int .i64 ((i + 1 : Nat) : Int) := by rw [wr1 i (by have := hl9.out; omega)]
    have hBi : Qb (Below W0.heap.size W0 Wd) := ⟨hBr.out.trans (hBd.out.mono hBr.out.size)⟩
    have hRi := Qb.mk (hR.out.below hBd.out)
    go_upto_region 9 with (fail)
    (try rw [hWd])
    clear hWd k0 k1 s0 s1 s2 hR hBr hBd
    have u0 := (Qa hdi.out 0).trans rfl
    have u1 := (Qa hdi.out 1).trans rfl
    go_cut [9] (fun v9 wc => ∃ b : Bool, v9 = .bool b ∧ Qb (Below W0.heap.size W0 wc) ∧ Qb (R2 wc W0.heap.size A4 m4 c4 A5 m5 c5 ∧ wc.heap[wa.heap.size]? = some (.cells #[.string d.f0, .slice P1 d.f1.length n1, .slice P2 d.f2.length n2] 56 (0, 0))))
    case first => as_aux_lemma =>
     obtain ⟨bh, CH⟩ := hRi.out.r.has (by have := hm.out; have := hl9.out; omega) d.f0
     obtain ⟨bt, CTW⟩ := twice_c d.f1 (by have := hd9.out; omega)
     have CTW := Qb.mk @CTW
     rcases bq (d.f0.toList) ([73, 110, 116] : List UInt8) with ⟨a1, b1⟩ | ⟨a1, b1⟩ <;> rcases bq (d.f0.toList) ([70, 108, 111, 97, 116] : List UInt8) with ⟨a2, b2⟩ | ⟨a2, b2⟩ <;> cases bh <;> cases bt
     all_goals (go_wp2_with (first | (go_at_call 35; go_loud (with_reducible refine CH.mono ?_); rintro r w3 ⟨rfl, hb3⟩; have H3 := Qb.mk (Qe hBi.out hb3); have S3 := Qb.mk (And.intro (hRi.out.below hb3) (Qc hdi.out hb3)); have CT3 := CTW.out w3 (Kd.Qj hPs.out.1 H3.out) hPs.out.2; have u1 := (Qa S3.out.2 1).trans rfl; clear hb3 CH u0) | (go_at_call 36; go_loud (with_reducible refine CT3.mono ?_); rintro r w4 ⟨rfl, hb4⟩; have H4 := Qb.mk (Qe H3.out hb4); have S4 := Qb.mk (And.intro (S3.out.1.below hb4) (Qc S3.out.2 hb4)); clear hb4 CT3)); go_meet; (case rel => first | exact ⟨_, rfl, H4, S4⟩ | exact ⟨_, rfl, H3, S3⟩ | exact ⟨_, rfl, hBi, ⟨hRi.out, hdi.out⟩⟩))
    case rest =>
     obtain ⟨b9, rfl, hBc, hS⟩ := hcut
     rename World => wb
     clear hBi hRi hdi u0 u1
     have u0 := (Qa hS.out.2 0).trans rfl
     go_wp2_with (first | ((with_reducible refine Zi (b := .append) (xs := #[.tmp 58, .tmp 61]) rfl ?_); at_builtin; go_loud (refine RS.app (w0 := W0) (b := W0.heap.size) rfl (.tmp 58) (.tmp 61) rfl rfl rfl hS.out.1.r hBc.out hBc.out.size (by have := hm.out; have := hl9.out; omega) ?_); intro A6 c6 w6 hr6 hb6 hg6 hat6; have hBi := Qb.mk hb6; have hRi := Qb.mk (hS.out.1.put hr6 hg6 hat6); have hdi := Qb.mk (hS.out.1.r.block hS.out.2 (by decide) hg6); clear hr6 hb6 hg6 hat6 hS hBc u0))
     have hmi : Qb (m5 ≤ m5 + 0 ∧ 0 ≤ d.f2.length) := ⟨Nat.le_refl _, Nat.zero_le _⟩
     go_loopg [5, 9, 10] (d.f2.length + 1) (fun kq v5 v9 v10 w' => ∃ (A7 : Option Addr) (m7 c7 : Nat) (b : Bool) (j : Nat), v5 = .slice A7 m7 c7 ∧ v9 = .bool b ∧ v10 = .int .i64 (j : Int) ∧ j + kq = d.f2.length + 1 ∧ 1 ≤ kq ∧ Qb (Below W0.heap.size W0 w') ∧ Qb (R2 w' W0.heap.size A6 (m4 + 1) c6 A7 m7 c7) ∧ Qb (w'.heap[wa.heap.size]? = some (.cells #[.string d.f0, .slice P1 d.f1.length n1, .slice P2 d.f2.length n2] 56 (0, 0))) ∧ Qb (m7 ≤ m5 + j ∧ j ≤ d.f2.length))
     case atStart => exact ⟨A5, m5, c5, b9, 0, rfl, rfl, rfl, by omega, by omega, hBi, hRi, hdi, hmi⟩
     case round =>
      clear hBi
      clear hRi hdi hmi
      obtain ⟨A7, m7, c7, b, j, rfl, rfl, rfl, hib, hkb, hBrb, hRi, hdi, hmi⟩ := hrel
      obtain ⟨gb, hgb⟩ : ∃ g, g = gk := ⟨_, rfl⟩
      by_cases hltb : j < d.f2.length
      ·have u2 := (Qa hdi.out 2).trans rfl
       obtain ⟨adc, Q1, q1', e, ⟨e0, e1⟩, _, _⟩ := elemC (Kd.Qj hCs.out hBrb.out) j (List.getElem?_eq_getElem hltb)
       subst e
       have p0 : (0 : Int) ≤ (j : Int) := by omega
       have p1 : (j : Int) < (d.f2.length : Int) := by omega
       have q1 : decide ((j : Int) < (d.f2.length : Int)) = true := decide_eq_true p1
       have hjnb : Value.int .i64 (wrap64 ((j : Int) + 1)) = .int .i64 ((j + 1 : Nat) : Int) := by rw [wr1 j (by have := hd9.out.1; omega)]
       go_upto_region 14 with (fail)
       go_cut [9] (fun v9 wc => ∃ b : Bool, v9 = .bool b ∧ Qb (Below W0.heap.size W0 wc) ∧ Qb (R2 wc W0.heap.size A6 (m4 + 1) c6 A7 m7 c7 ∧ wc.heap[wa.heap.size]? = some (.cells #[.string d.f0, .slice P1 d.f1.length n1, .slice (some adc) d.f2.length n2] 56 (0, 0))))
       case first => as_aux_lemma =>
        obtain ⟨bh, CH⟩ := hRi.out.s.has (by have := hmi.out; have := hm.out; have := hl9.out; have := hd9.out; omega) d.f2[j].f0
        cases b <;> cases bh
        all_goals (go_wp2_with (first | (go_at_call 35; go_loud (with_reducible refine CH.mono ?_); rintro r w3 ⟨rfl, hb3⟩; have H3 := Qb.mk (Qe hBrb.out hb3); have S3 := Qb.mk (And.intro (hRi.out.below hb3) (Qc hdi.out hb3)); clear hb3 CH)); go_meet; (case rel => first | exact ⟨_, rfl, H3, S3⟩ | exact ⟨_, rfl, hBrb, ⟨hRi.out, hdi.out⟩⟩))
       case rest =>
        obtain ⟨b9, rfl, hBc, hS⟩ := hcut
        rename World => wd
        clear hBrb hRi hdi u2 e0 e1
        obtain ⟨adc2, Q2, q2', e, ⟨e0, e1⟩, _, _⟩ := elemC (Kd.Qj hCs.out hBc.out) j (List.getElem?_eq_getElem hltb)
        obtain rfl := Option.some.inj e
        have u2 := (Qa hS.out.2 2).trans rfl
        go_wp2_with (first | ((with_reducible refine Zi (b := .append) (xs := #[.tmp 81, .tmp 88]) rfl ?_); at_builtin; go_loud (refine RS.app (w0 := W0) (b := W0.heap.size) rfl (.tmp 81) (.tmp 88) rfl rfl rfl hS.out.1.s hBc.out hBc.out.size (by have := hmi.out; have := hm.out; have := hl9.out; have := hd9.out; omega) ?_); intro A8 c8 w8 hr8 hb8 hg8 hat8; have H8 := Qb.mk hb8; have S8 := Qb.mk (And.intro (hS.out.1.swap.put hr8 hg8 hat8).swap (hS.out.1.s.block hS.out.2 (by decide) hg8)); clear hr8 hb8 hg8 hat8))
        go_roundg (gb - 1)
        case measure => omega
        case rel => exact ⟨A8, m7 + 1, c8, b9, j + 1, rfl, rfl, by first | exact hjnb | rfl, by omega, by omega, H8, ⟨S8.out.1⟩, ⟨S8.out.2⟩, ⟨by have := hmi.out; omega, hltb⟩⟩
      ·have q1 : decide ((j : Int) < (d.f2.length : Int)) = false := decide_eq_false (by omega)
       have hBi := hBrb
       clear hBrb
       clear hib hkb hgb
       have u2 := (Qa hdi.out 2).trans rfl
       cases b
       ·go_wp2
        go_roundg (g - 1)
        case measure => omega
        case rel => exact ⟨A6, A7, m4 + 1, c6, m7, c7, i + 1, rfl, rfl, by first | exact hjn | rfl, by omega, by omega, hBi, hRi, ⟨by have := hm.out; have := hmi.out; have := hd9.out; omega⟩⟩
       ·go_wp2_with (first | (go_at_call 37; go_loud (with_reducible refine (placed_c _ _ _).mono ?_); rintro r w9 ⟨y1, y2, y3, rfl, hb9⟩; have H9 := Qb.mk (Qe hBi.out hb9); have hr1 := Qb.mk (Qc hrx.out H9.out); have j0 := (Qa hr1.out 0).trans rfl; have j1 := (Qa hr1.out 1).trans rfl; have j2 := (Qa hr1.out 2).trans rfl; have z0 := Qg hr1.out 0; have z1 := Qg hr1.out 1; have z2 := Qg hr1.out 2; clear hb9))
        refine bodyPost_ret (v := .agg #[.int .i64 y1, .bool y2, .int .i64 y3]) (by simp [results, Tryd.results17, go_sem, *]) rfl ⟨_, _, _, rfl, ?_⟩
        exact below3 (q := w.heap.size + 1) (hB0.out.trans (H9.out.mono hB0.out.size)) (by omega) _ _ _
   ·have q1 : decide ((i : Int) < (ds.length : Int)) = false := decide_eq_false (by omega)
    have hB := hBr
    clear hBr
    clear hi hk hg
    have k0 := (Qa (Qc hbx.out hB.out) 0).trans rfl
    have k1 := (Qa (Qc hbx.out hB.out) 1).trans rfl
    clear hR hm
    go_wp2
    go_loopg [11] (ds.length + 1) (fun kq v11 w' => ∃ (i : Nat), v11 = .int .i64 (i : Int) ∧ i + kq = ds.length + 1 ∧ 1 ≤ kq ∧ Qb (Below W0.heap.size W0 w'))
    case atStart => exact ⟨0, rfl, by omega, by omega, hB⟩
    case round =>
     clear hB
     obtain ⟨i, rfl, hi, hk, hBr⟩ := hrel
     obtain ⟨g, hg⟩ : ∃ g, g = gk := ⟨_, rfl⟩
     by_cases hlt : i < ds.length
     ·rename World => wa
      have k0 := (Qa (Qc hbx.out hBr.out) 0).trans rfl
      have k1 := (Qa (Qc hbx.out hBr.out) 1).trans rfl
      have hxi : ds[i]? = some ds[i] := List.getElem?_eq_getElem hlt
      have hx := hD9.out _ (List.getElem_mem hlt)
      generalize ds[i] = d at hxi hx
      obtain ⟨ad, P1, n1, P2, n2, rfl, hDC, l1, g1, _, g2⟩ := elemD (Kd.Qj hC1.out hB0.out) i hxi
      obtain ⟨s0, s1, s2⟩ := hDC.below hBr.out
      have hp := hx.parts
      have hd9 : Qb (d.f2.length ≤ 1000 ∧ d.f1.length ≤ 1000) := ⟨hp.2.2.1, hp.2.1⟩
      have hCs := Qb.mk g2
      have hPs := Qb.mk (And.intro g1 l1)
      have hDx := Qb.mk hx
      clear hxi hx hp g1 g2 l1 hDC
      obtain ⟨Wd, hWd⟩ : ∃ Wd, wa.alloc (.cells #[.string d.f0, .slice P1 d.f1.length n1, .slice P2 d.f2.length n2] 56) = Wd := ⟨_, rfl⟩
      have hBd : Qb (Below wa.heap.size wa Wd) := ⟨by rw [← hWd]; exact Qd (Below.refl _ _) _⟩
      have hdx : Qb (Wd.heap[wa.heap.size]? = some (.cells #[.string d.f0, .slice P1 d.f1.length n1, .slice P2 d.f2.length n2] 56 (0, 0))) := ⟨by rw [← hWd]; exact Qv wa _⟩
      have p0 : (0 : Int) ≤ (i : Int) := by omega
      have p1 : (i : Int) < (ds.length : Int) := by omega
      have q1 : decide ((i : Int) < (ds.length : Int)) = true := decide_eq_true p1
      have hjn : Value.int .i64 (wrap64 ((i : Int) + 1)) = .int .i64 ((i + 1 : Nat) : Int) := by rw [wr1 i (by have := hl9.out; omega)]
      have hBA : Qb (Below W0.heap.size W0 Wd) := ⟨hBr.out.trans (hBd.out.mono hBr.out.size)⟩
      have hBi : Qb (Below Wd.heap.size Wd Wd) := ⟨Below.refl _ _⟩
      go_wp2
      (try rw [hWd])
      clear hWd k0 k1 s0 s1 s2 hBr hBd
      go_loopg [13] (d.f2.length + 1) (fun kq v13 w' => ∃ (j : Nat), v13 = .int .i64 (j : Int) ∧ j + kq = d.f2.length + 1 ∧ 1 ≤ kq ∧ Qb (Below Wd.heap.size Wd w'))
      case atStart => exact ⟨0, rfl, by omega, by omega, hBi⟩
      case round =>
       clear hBi
       obtain ⟨j, rfl, hib, hkb, hBrb⟩ := hrel
       obtain ⟨gb, hgb⟩ : ∃ g, g = gk := ⟨_, rfl⟩
       by_cases hltb : j < d.f2.length
       ·have u2 := (Qa (Qc hdx.out hBrb.out) 2).trans rfl
        have hxi : d.f2[j]? = some d.f2[j] := List.getElem?_eq_getElem hltb
        have hx := hDx.out.1.2.2.2 _ (List.getElem_mem hltb)
        have hxl := (hDx.out.parts.2.2.2 _ (List.getElem_mem hltb)).1
        generalize d.f2[j] = x at hxi hx hxl
        obtain ⟨adc, Q1, q1', rfl, hEC, _, hCx⟩ := elemC (Kd.Qj hCs.out hBA.out) j hxi
        have hx9 : Qb (x.f1.length ≤ 1000) := ⟨hxl⟩
        have hxR := Qb.mk hx.2.2
        have hEC := Qb.mk hEC
        have hCa := Qb.mk hCx
        have hBn := hBrb
        clear hxi hx hxl hCx
        have p0 : (0 : Int) ≤ (j : Int) := by omega
        have p1 : (j : Int) < (d.f2.length : Int) := by omega
        have q1 : decide ((j : Int) < (d.f2.length : Int)) = true := decide_eq_true p1
        have hjnb : Value.int .i64 (wrap64 ((j : Int) + 1)) = .int .i64 ((j + 1 : Nat) : Int) := by rw [wr1 j (by have := hd9.out.1; omega)]
        go_wp2
        go_loopg [14] (x.f1.length + 1) (fun kq v14 w' => ∃ (q : Nat), v14 = .int .i64 (q : Int) ∧ q + kq = x.f1.length + 1 ∧ 1 ≤ kq ∧ Qb (Below Wd.heap.size Wd w'))
        case atStart => exact ⟨0, rfl, by omega, by omega, hBrb⟩
        case round =>
         clear hBrb
         obtain ⟨q, rfl, hic, hkc, hBrc⟩ := hrel
         obtain ⟨gc, hgc⟩ : ∃ g, g = gk := ⟨_, rfl⟩
         by_cases hltc : q < x.f1.length
         ·have u2 := (Qa (Qc hdx.out hBrc.out) 2).trans rfl
          have e1 := (ZE hEC.out hBrc.out).2
          have hti : x.f1[q]? = some x.f1[q] := List.getElem?_eq_getElem hltc
          have ht := hxR.out _ (List.getElem_mem hltc)
          generalize x.f1[q] = t at hti ht
          obtain ⟨adt, B1, b1, rfl, he, hd, hCt⟩ := elemT (Kd.Qj hCa.out hBrc.out) q hti
          have he := Qb.mk he
          have CX := Qb.mk (fun (W : World) (hb : Below wr.heap.size wr W) => cy_all ds fs (by have := hl9.out; unfold BL; omega) d.f0 d.f1 d.f2 (by have := hd9.out; omega) _ t (Nat.le_refl _) ht W (nd := nd) (nf := nf) (A1 := P1) (A2 := some adc) (c1 := n1) (c2 := n2) (Kd.Qj (Kd.Qj (Kd.Qj (Kd.Qj hC1.out hB0.out) hBA.out) hBrc.out) hb) hn9.out.1 (Kd.Qj (Kd.Qj (Kd.Qj (Kd.Qj hC2.out hB0.out) hBA.out) hBrc.out) hb) hn9.out.2 (Kd.Qj (Kd.Qj (Kd.Qj hPs.out.1 hBA.out) hBrc.out) hb) hPs.out.2 (Kd.Qj hCt hb) hd)
          clear hti ht hd hCt
          have p0 : (0 : Int) ≤ (q : Int) := by omega
          have p1 : (q : Int) < (x.f1.length : Int) := by omega
          have q1 : decide ((q : Int) < (x.f1.length : Int)) = true := decide_eq_true p1
          have hjnc : Value.int .i64 (wrap64 ((q : Int) + 1)) = .int .i64 ((q + 1 : Nat) : Int) := by rw [wr1 q (by have := hx9.out; omega)]
          go_wp2
          have HB_ : Below wr.heap.size wr wr.drew := Qi (Below.refl _ _)
          refine QZ (n := 13) (S := fun w' => w'.cell? ⟨w.heap.size, 0, none⟩ = some (.slice (some ad) ds.length nd) ∧ w'.cell? ⟨w.heap.size, 1, none⟩ = some (.slice Af fs.length nf) ∧ w'.cell? ⟨wa.heap.size, 0, none⟩ = some (.string d.f0) ∧ w'.cell? ⟨wa.heap.size, 1, none⟩ = some (.slice P1 d.f1.length n1) ∧ w'.cell? ⟨wa.heap.size, 2, none⟩ = some (.slice (some adc) d.f2.length n2) ∧ w'.cell? ⟨(adc.add (j * 2)).block, (adc.add (j * 2)).off + 1, none⟩ = some (.slice (some adt) x.f1.length q1') ∧ w'.cell? (adt.add (q * 2)) = some (.string t.f0) ∧ w'.cell? ⟨(adt.add (q * 2)).block, (adt.add (q * 2)).off + 1, none⟩ = some (.slice B1 t.f1.length b1)) (ds := []) (bm 13 0) (by kernel_rfl) rfl rfl ⟨(Qa (Qc (Qc hbx.out hBA.out) (hBrc.out.trans (HB_.mono hBrc.out.size))) 0).trans rfl, (Qa (Qc (Qc hbx.out hBA.out) (hBrc.out.trans (HB_.mono hBrc.out.size))) 1).trans rfl, (Qa (Qc hdx.out (hBrc.out.trans (HB_.mono hBrc.out.size))) 0).trans rfl, (Qa (Qc hdx.out (hBrc.out.trans (HB_.mono hBrc.out.size))) 1).trans rfl, (Qa (Qc hdx.out (hBrc.out.trans (HB_.mono hBrc.out.size))) 2).trans rfl, (ZE hEC.out (hBrc.out.trans (HB_.mono hBrc.out.size))).2, (ZE he.out HB_).1, (ZE he.out HB_).2⟩ (fun hHeld => ?_)
          generalize wr.drew = W9 at *
          refine Q4 (i := 2) (N := some 125) (v := ?_) (a' := ?_) (bm 13 4) rfl rfl (by kernel_rfl) (fun _ _ _ h => h) (Or.inl ⟨by rfl, ?_⟩) ?_ ?_
          rotate_left
          ·intro w'
           go_simp
           with_reducible rfl
          rotate_left
          ·simp only [Act.put, sA, sB, sC, Qk, Ql]
           rfl
          refine Q4 (i := 4) (N := some 127) (v := ?_) (a' := ?_) (bm 13 20) rfl rfl (by kernel_rfl) (fun _ _ _ h => h) (Or.inl ⟨by rfl, ?_⟩) ?_ ?_
          rotate_left
          ·intro w'
           go_simp
           with_reducible rfl
          rotate_left
          ·simp only [Act.put, sA, sB, sC, Qk, Ql]
           rfl
          refine Q4 (i := 8) (N := some 131) (v := ?_) (a' := ?_) (bm 13 276) rfl rfl (by kernel_rfl) (fun _ _ _ h => h) (Or.inl ⟨by rfl, ?_⟩) ?_ ?_
          rotate_left
          ·intro w'
           go_simp
           with_reducible rfl
          rotate_left
          ·simp only [Act.put, sA, sB, sC, Qk, Ql]
           rfl
          refine QE (i := 0) (N := some 123) (v := ?_) (a' := ?_) (bm 13 277) rfl rfl (by kernel_rfl) (fun _ _ _ h => h) (Or.inl ⟨by rfl, ?_⟩) hHeld ?_ ?_
          rotate_left
          ·rintro w' ⟨s0, s1, s2, s3, s4, s5, s6, s7⟩
           go_simp
           with_reducible rfl
          rotate_left
          ·simp only [Act.put, sA, sB, sC, Qk, Ql]
           rfl
          refine QE (i := 1) (N := some 124) (v := ?_) (a' := ?_) (bm 13 279) rfl rfl (by kernel_rfl) (fun _ _ _ h => h) (Or.inl ⟨by rfl, ?_⟩) hHeld ?_ ?_
          rotate_left
          ·rintro w' ⟨s0, s1, s2, s3, s4, s5, s6, s7⟩
           go_simp
           with_reducible rfl
          rotate_left
          ·simp only [Act.put, sA, sB, sC, Qk, Ql]
           rfl
          refine QE (i := 3) (N := some 126) (v := ?_) (a' := ?_) (bm 13 287) rfl rfl (by kernel_rfl) (fun _ _ _ h => h) (Or.inl ⟨by rfl, ?_⟩) hHeld ?_ ?_
          rotate_left
          ·rintro w' ⟨s0, s1, s2, s3, s4, s5, s6, s7⟩
           go_simp
           with_reducible rfl
          rotate_left
          ·simp only [Act.put, sA, sB, sC, Qk, Ql]
           rfl
          refine Q4 (i := 5) (N := some 128) (v := ?_) (a' := ?_) (bm 13 319) rfl rfl (by kernel_rfl) (fun _ _ _ h => h) (Or.inl ⟨by rfl, ?_⟩) ?_ ?_
          rotate_left
          ·intro w'
           go_simp
           with_reducible rfl
          rotate_left
          ·simp only [Act.put, sA, sB, sC, Qk, Ql]
           rfl
          refine Q4 (i := 6) (N := some 129) (v := ?_) (a' := ?_) (bm 13 383) rfl rfl (by kernel_rfl) (fun _ _ _ h => h) (Or.inl ⟨by rfl, ?_⟩) ?_ ?_
          rotate_left
          ·intro w'
           go_simp
           with_reducible rfl
          rotate_left
          ·simp only [Act.put, sA, sB, sC, Qk, Ql]
           rfl
          refine QE (i := 7) (N := some 130) (v := ?_) (a' := ?_) (bm 13 511) rfl rfl (by kernel_rfl) (fun _ _ _ h => h) (Or.inl ⟨by rfl, ?_⟩) hHeld ?_ ?_
          rotate_left
          ·rintro w' ⟨s0, s1, s2, s3, s4, s5, s6, s7⟩
           go_simp
           with_reducible rfl
          rotate_left
          ·simp only [Act.put, sA, sB, sC, Qk, Ql]
           rfl
          refine Q4 (i := 9) (N := some 132) (v := ?_) (a' := ?_) (bm 13 1023) rfl rfl (by kernel_rfl) (fun _ _ _ h => h) (Or.inl ⟨by rfl, ?_⟩) ?_ ?_
          rotate_left
          ·intro w'
           go_simp
           with_reducible rfl
          rotate_left
          ·simp only [Act.put, sA, sB, sC, Qk, Ql]
           rfl
          refine QE (i := 10) (N := some 133) (v := ?_) (a' := ?_) (bm 13 2047) rfl rfl (by kernel_rfl) (fun _ _ _ h => h) (Or.inl ⟨by rfl, ?_⟩) hHeld ?_ ?_
          rotate_left
          ·rintro w' ⟨s0, s1, s2, s3, s4, s5, s6, s7⟩
           go_simp
           with_reducible rfl
          rotate_left
          ·simp only [Act.put, sA, sB, sC, Qk, Ql]
           rfl
          refine QQ (i := 11) (N := some 134) (bm 13 4095) rfl rfl (by kernel_rfl) (by decide) (fun K hK => ?_)
          refine QI Tryd.func38 (by kernel_rfl) rfl #[.agg #[.slice (some ad) ds.length nd, .slice Af fs.length nf], .agg #[.string d.f0, .slice P1 d.f1.length n1, .slice (some adc) d.f2.length n2], .agg #[.string t.f0, .slice B1 t.f1.length b1]] (by rfl) rfl rfl (by simp only [List.map_toArray, List.map_cons, List.map_nil]; rfl) ?_
          (with_reducible refine (CX.out W9 HB_).mono ?_)
          rintro e w5 ⟨v, rfl, hb5⟩
          refine ⟨_, rfl, ?_⟩
          have HB5 := Qe HB_ hb5
          refine hK.out _ _ ⟨(Qa (Qc (Qc hbx.out hBA.out) (hBrc.out.trans (HB5.mono hBrc.out.size))) 0).trans rfl, (Qa (Qc (Qc hbx.out hBA.out) (hBrc.out.trans (HB5.mono hBrc.out.size))) 1).trans rfl, (Qa (Qc hdx.out (hBrc.out.trans (HB5.mono hBrc.out.size))) 0).trans rfl, (Qa (Qc hdx.out (hBrc.out.trans (HB5.mono hBrc.out.size))) 1).trans rfl, (Qa (Qc hdx.out (hBrc.out.trans (HB5.mono hBrc.out.size))) 2).trans rfl, (ZE hEC.out (hBrc.out.trans (HB5.mono hBrc.out.size))).2, (ZE he.out HB5).1, (ZE he.out HB5).2⟩ (fun hHeld => ?_)
          clear hK K
          refine Qq (a' := ?_) ?_ ?_
          rotate_left
          ·show Act.put _ (some 134) _ = _
           simp only [Act.put, sA, sB, sC, Qk, Ql]
           rfl
          refine Q4 (i := 12) (N := some 15) (v := ?_) (a' := ?_) (bm 13 8191) rfl rfl (by kernel_rfl) (fun _ _ _ h => h) (Or.inl ⟨by rfl, ?_⟩) ?_ ?_
          rotate_left
          ·intro w'
           go_simp
           with_reducible rfl
          rotate_left
          ·simp only [Act.put, sA, sB, sC, Qk, Ql]
           rfl
          refine Zx (by kernel_rfl) ?_
          clear hHeld
          have HB3 := Qb.mk (Qe hBrc.out HB5)
          have HT3 := Qb.mk (hBA.out.trans (HB3.out.mono hBA.out.size))
          clear HB5 HB_ hb5 CX he
          go_wp2_with (first | (go_at_call 37; go_loud (with_reducible refine (placed_c _ _ _).mono ?_); rintro r w9 ⟨y1, y2, y3, rfl, hb9⟩; have H9 := Qb.mk (Qe HT3.out hb9); have hr1 := Qb.mk (Qc hrx.out H9.out); have j0 := (Qa hr1.out 0).trans rfl; have j1 := (Qa hr1.out 1).trans rfl; have j2 := (Qa hr1.out 2).trans rfl; have z0 := Qg hr1.out 0; have z1 := Qg hr1.out 1; have z2 := Qg hr1.out 2; clear hb9))
          all_goals first | (refine bodyPost_ret (v := .agg #[.int .i64 y1, .bool y2, .int .i64 y3]) (by simp [results, Tryd.results17, go_sem, *]) rfl ⟨_, _, _, rfl, ?_⟩; exact below3 (q := w.heap.size + 1) (hB0.out.trans (H9.out.mono hB0.out.size)) (by omega) _ _ _) | (go_roundg (gc - 1); (case measure => omega); (case rel => exact ⟨q + 1, by first | exact hjnc | rfl, by omega, by omega, HB3⟩))
         ·have q1 : decide ((q : Int) < (x.f1.length : Int)) = false := decide_eq_false (by omega)
          have hBrb := hBrc
          clear hBrc hic hkc hgc
          have u2 := (Qa (Qc hdx.out hBrb.out) 2).trans rfl
          have e1 := (ZE hEC.out hBrb.out).2
          go_wp2
          go_roundg (gb - 1)
          case measure => omega
          case rel => exact ⟨j + 1, by first | exact hjnb | rfl, by omega, by omega, hBrb⟩
       ·have q1 : decide ((j : Int) < (d.f2.length : Int)) = false := decide_eq_false (by omega)
        have hBi := hBrb
        clear hBrb hib hkb hgb
        have u2 := (Qa (Qc hdx.out hBi.out) 2).trans rfl
        have hBT := Qb.mk (hBA.out.trans (hBi.out.mono hBA.out.size))
        go_wp2
        go_roundg (g - 1)
        case measure => omega
        case rel => exact ⟨i + 1, by first | exact hjn | rfl, by omega, by omega, hBT⟩
     ·have q1 : decide ((i : Int) < (ds.length : Int)) = false := decide_eq_false (by omega)
      have hB := hBr
      clear hBr hi hk hg
      have k0 := (Qa (Qc hbx.out hB.out) 0).trans rfl
      have k1 := (Qa (Qc hbx.out hB.out) 1).trans rfl
      have hR := Qb.mk (RS.nil wr W0.heap.size)
      have hm : Qb (0 ≤ 0) := ⟨Nat.le_refl _⟩
      go_wp2
      go_loopg [6, 16] (fs.length + 1) (fun kq v6 v16 w' => ∃ (A6 : Option Addr) (m6 c6 : Nat) (i : Nat), v6 = .slice A6 m6 c6 ∧ v16 = .int .i64 (i : Int) ∧ i + kq = fs.length + 1 ∧ 1 ≤ kq ∧ Qb (Below W0.heap.size W0 w') ∧ Qb (RS w' W0.heap.size A6 m6 c6) ∧ Qb (m6 ≤ i))
      case atStart => exact ⟨none, 0, 0, 0, rfl, rfl, by omega, by omega, hB, hR, hm⟩
      case round =>
       clear hB
       clear hR hm
       obtain ⟨A6, m6, c6, i, rfl, rfl, hi, hk, hBr, hR, hm⟩ := hrel
       obtain ⟨g, hg⟩ : ∃ g, g = gk := ⟨_, rfl⟩
       by_cases hlt : i < fs.length
       ·rename World => wa
        have k0 := (Qa (Qc hbx.out hBr.out) 0).trans rfl
        have k1 := (Qa (Qc hbx.out hBr.out) 1).trans rfl
        have hxi : fs[i]? = some fs[i] := List.getElem?_eq_getElem hlt
        have hx := hF9.out _ (List.getElem_mem hlt)
        generalize fs[i] = d at hxi hx
        obtain ⟨ad, P1, n1, B3, d3, B4, d4, B5, d5, rfl, hFC, l1, g1, g3, g4, g5, m3, m4, m5⟩ := elemF (Kd.Qj hC2.out hB0.out) i hxi
        obtain ⟨e0, e1, e2, e3, e4, e5, e6, e7⟩ := hFC.below hBr.out
        obtain ⟨Wd, hWd⟩ : ∃ Wd, wa.alloc (.cells #[.string d.f0, .slice P1 d.f1.length n1, .int .i64 d.f2.f0, .string d.f2.f1, .int .i64 d.f2.f2, .slice B3 d.f2.f3.length d3, .slice B4 d.f2.f4.length d4, .slice B5 d.f2.f5.length d5] 34) = Wd := ⟨_, rfl⟩
        have hBd : Qb (Below wa.heap.size wa Wd) := ⟨by rw [← hWd]; exact Qd (Below.refl _ _) _⟩
        have hdx : Qb (Wd.heap[wa.heap.size]? = some (.cells #[.string d.f0, .slice P1 d.f1.length n1, .int .i64 d.f2.f0, .string d.f2.f1, .int .i64 d.f2.f2, .slice B3 d.f2.f3.length d3, .slice B4 d.f2.f4.length d4, .slice B5 d.f2.f5.length d5] 34 (0, 0))) := ⟨by rw [← hWd]; exact Qv wa _⟩
        have p0 : (0 : Int) ≤ (i : Int) := by omega
        have p1 : (i : Int) < (fs.length : Int) := by omega
        have q1 : decide ((i : Int) < (fs.length : Int)) = true := decide_eq_true p1
        have hjn : Value.int .i64 (wrap64 ((i : Int) + 1)) = .int .i64 ((i + 1 : Nat) : Int) := by rw [wr1 i (by have := hl9.out; omega)]
        have hBA : Qb (Below W0.heap.size W0 Wd) := ⟨hBr.out.trans (hBd.out.mono hBr.out.size)⟩
        have hRA := Qb.mk (hR.out.below hBd.out)
        obtain ⟨bh, CH⟩ := hRA.out.has (by have := hm.out; have := hl9.out; omega) d.f0
        obtain ⟨bt, CTW⟩ := twice_c d.f1 (by have := hx.parts.2.1; omega)
        have CTW := Qb.mk (fun (W : World) (hb : Below W0.heap.size W0 W) => CTW W (Kd.Qj g1 hb) l1)
        have CX := Qb.mk (fun (W : World) (hb : Below W0.heap.size W0 W) => ck_all ds fs (by have := hl9.out; unfold BL; omega) (by have := hl9.out; unfold BL; omega) (fun y hy => by have := (hD9.out y hy).parts.2.2.1; unfold BL; omega) _ d.f2 (Nat.le_refl _) d.f1 W (by have := hx.2; omega) (nd := nd) (nf := nf) (c0 := n1) (d3 := d3) (d4 := d4) (d5 := d5) (Kd.Qj (Kd.Qj hC1.out hB0.out) hb) hn9.out.1 (Kd.Qj (Kd.Qj hC2.out hB0.out) hb) hn9.out.2 (Kd.Qj g1 hb) l1 (Kd.Qj g3 hb) m3 (Kd.Qj g4 hb) m4 (Kd.Qj g5 hb) m5)
        clear g1 g3 g4 g5 l1 m3 m4 m5 hx hxi hFC
        have x0 := (Qa (Qc hbx.out hBA.out) 0).trans rfl
        go_upto_region 36 with (fail)
        (try rw [hWd])
        clear hWd k0 k1 x0 e0 e1 e2 e3 e4 e5 e6 e7 hR hBr hBd
        have u0 := (Qa hdx.out 0).trans rfl
        cases bh
        ·cases bt
         ·go_upto_region 38 with (first | (go_at_call 35; go_loud (with_reducible refine CH.mono ?_); rintro r w3 ⟨rfl, hb3⟩; have H3 := Qb.mk (Qe hBA.out hb3); have S3 := Qb.mk (And.intro (hRA.out.below hb3) (Qc hdx.out hb3)); have CT3 := CTW.out w3 H3.out; have u1 := (Qa S3.out.2 1).trans rfl; clear hb3 CH u0) | (go_at_call 36; go_loud (with_reducible refine CT3.mono ?_); rintro r w4 ⟨rfl, hb4⟩; have H4 := Qb.mk (Qe H3.out hb4); have S4 := Qb.mk (And.intro (S3.out.1.below hb4) (Qc S3.out.2 hb4)); clear hb4 CT3 u1))
          clear hBA hRA hdx H3 S3 CTW
          have u0 := (Qa S4.out.2 0).trans rfl
          go_upto_region 39 with (first | ((with_reducible refine Zi (b := .append) (xs := #[.tmp 168, .tmp 171]) rfl ?_); at_builtin; go_loud (refine RS.app (w0 := W0) (b := W0.heap.size) rfl (.tmp 168) (.tmp 171) rfl rfl rfl S4.out.1 H4.out H4.out.size (by have := hm.out; have := hl9.out; omega) ?_); intro A8 c8 w8 hr8 hb8 hg8 hat8; have H8 := Qb.mk hb8; have S8 := Qb.mk (And.intro hr8 (S4.out.1.block S4.out.2 (by decide) hg8)); clear hr8 hb8 hg8 hat8))
          clear S4 H4 u0
          obtain ⟨u0, u1, u2, u3, u4, u5, u6, u7⟩ := DepA.Z.c8 S8.out.2
          have k0 := (Qa (Qc hbx.out H8.out) 0).trans rfl
          have k1 := (Qa (Qc hbx.out H8.out) 1).trans rfl
          have CX := CX.out w8 H8.out
          go_wp2_with (first | (go_at_call 39; go_loud (with_reducible refine CX.mono ?_); rintro r w10 ⟨v, rfl, hb10⟩; have HB3 := Qb.mk (Qe H8.out hb10); have S9 := Qb.mk (S8.out.1.below hb10); clear hb10 CX) | (go_at_call 37; go_loud (with_reducible refine (placed_c _ _ _).mono ?_); rintro r w9 ⟨y1, y2, y3, rfl, hb9⟩; have H9 := Qb.mk (Qe HB3.out hb9); have hr1 := Qb.mk (Qc hrx.out H9.out); have j0 := (Qa hr1.out 0).trans rfl; have j1 := (Qa hr1.out 1).trans rfl; have j2 := (Qa hr1.out 2).trans rfl; have z0 := Qg hr1.out 0; have z1 := Qg hr1.out 1; have z2 := Qg hr1.out 2; clear hb9))
          all_goals first | (refine bodyPost_ret (v := .agg #[.int .i64 y1, .bool y2, .int .i64 y3]) (by simp [results, Tryd.results17, go_sem, *]) rfl ⟨_, _, _, rfl, ?_⟩; exact below3 (q := w.heap.size + 1) (hB0.out.trans (H9.out.mono hB0.out.size)) (by omega) _ _ _) | (go_roundg (g - 1); (case measure => omega); (case rel => exact ⟨A8, m6 + 1, c8, i + 1, rfl, by first | exact hjn | rfl, by omega, by omega, HB3, S9, ⟨by have := hm.out; omega⟩⟩))
         ·go_wp2_with (first | (go_at_call 35; go_loud (with_reducible refine CH.mono ?_); rintro r w3 ⟨rfl, hb3⟩; have H3 := Qb.mk (Qe hBA.out hb3); have S3 := Qb.mk (And.intro (hRA.out.below hb3) (Qc hdx.out hb3)); have CT3 := CTW.out w3 H3.out; have u1 := (Qa S3.out.2 1).trans rfl; clear hb3 CH u0) | (go_at_call 36; go_loud (with_reducible refine CT3.mono ?_); rintro r w4 ⟨rfl, hb4⟩; have H4 := Qb.mk (Qe H3.out hb4); have S4 := Qb.mk (And.intro (S3.out.1.below hb4) (Qc S3.out.2 hb4)); clear hb4 CT3 u1) | (go_at_call 37; go_loud (with_reducible refine (placed_c _ _ _).mono ?_); rintro r w9 ⟨y1, y2, y3, rfl, hb9⟩; have H9 := Qb.mk (Qe H4.out hb9); have hr1 := Qb.mk (Qc hrx.out H9.out); have j0 := (Qa hr1.out 0).trans rfl; have j1 := (Qa hr1.out 1).trans rfl; have j2 := (Qa hr1.out 2).trans rfl; have z0 := Qg hr1.out 0; have z1 := Qg hr1.out 1; have z2 := Qg hr1.out 2; clear hb9))
          refine bodyPost_ret (v := .agg #[.int .i64 y1, .bool y2, .int .i64 y3]) (by simp [results, Tryd.results17, go_sem, *]) rfl ⟨_, _, _, rfl, ?_⟩
          exact below3 (q := w.heap.size + 1) (hB0.out.trans (H9.out.mono hB0.out.size)) (by omega) _ _ _
        ·go_wp2_with (first | (go_at_call 35; go_loud (with_reducible refine CH.mono ?_); rintro r w3 ⟨rfl, hb3⟩; have H3 := Qb.mk (Qe hBA.out hb3); have S3 := Qb.mk (And.intro (hRA.out.below hb3) (Qc hdx.out hb3)); have CT3 := CTW.out w3 H3.out; have u1 := (Qa S3.out.2 1).trans rfl; clear hb3 CH u0) | (go_at_call 37; go_loud (with_reducible refine (placed_c _ _ _).mono ?_); rintro r w9 ⟨y1, y2, y3, rfl, hb9⟩; have H9 := Qb.mk (Qe H3.out hb9); have hr1 := Qb.mk (Qc hrx.out H9.out); have j0 := (Qa hr1.out 0).trans rfl; have j1 := (Qa hr1.out 1).trans rfl; have j2 := (Qa hr1.out 2).trans rfl; have z0 := Qg hr1.out 0; have z1 := Qg hr1.out 1; have z2 := Qg hr1.out 2; clear hb9))
         refine bodyPost_ret (v := .agg #[.int .i64 y1, .bool y2, .int .i64 y3]) (by simp [results, Tryd.results17, go_sem, *]) rfl ⟨_, _, _, rfl, ?_⟩
         exact below3 (q := w.heap.size + 1) (hB0.out.trans (H9.out.mono hB0.out.size)) (by omega) _ _ _
       ·have q1 : decide ((i : Int) < (fs.length : Int)) = false := decide_eq_false (by omega)
        have hB := hBr
        clear hBr
        clear hi hk hg
        have k0 := (Qa (Qc hbx.out hB.out) 0).trans rfl
        have k1' := (Qa (Qc hbx.out hB.out) 1).trans rfl
        obtain ⟨vd, hvd, CD⟩ := findDef_c ⟨#[109, 97, 105, 110]⟩ ds fs (by have := hl9.out; unfold BL; omega)
        have CD := CD wr (nd := nd) (nf := nf) (Kd.Qj (Kd.Qj hC1.out hB0.out) hB.out) hn9.out.1 (Kd.Qj (Kd.Qj hC2.out hB0.out) hB.out) hn9.out.2
        by_cases hv : vd < 0
        ·have d1 := decide_eq_true hv
         go_wp2_with (first | (go_at_call 40; go_loud (with_reducible refine CD.mono ?_); rintro r w3 ⟨rfl, hb3⟩; have HB3 := Qb.mk (Qe hB.out hb3); have k1 := (Qa (Qc hbx.out HB3.out) 1).trans rfl; clear k1'; clear hb3 CD k0) | (go_at_call 41; go_loud (with_reducible refine (bare_c 113 _).mono ?_); rintro r w9 ⟨y1, y2, y3, rfl, hb9⟩; have H9 := Qb.mk (Qe HB3.out hb9); have hr1 := Qb.mk (Qc hrx.out H9.out); have j0 := (Qa hr1.out 0).trans rfl; have j1 := (Qa hr1.out 1).trans rfl; have j2 := (Qa hr1.out 2).trans rfl; have z0 := Qg hr1.out 0; have z1 := Qg hr1.out 1; have z2 := Qg hr1.out 2; clear hb9))
         refine bodyPost_ret (v := .agg #[.int .i64 y1, .bool y2, .int .i64 y3]) (by simp [results, Tryd.results17, go_sem, *]) rfl ⟨_, _, _, rfl, ?_⟩
         exact below3 (q := w.heap.size + 1) (hB0.out.trans (H9.out.mono hB0.out.size)) (by omega) _ _ _
        ·have d1 := decide_eq_false hv
         obtain ⟨j, rfl⟩ := Int.eq_ofNat_of_zero_le (by omega : 0 ≤ vd)
         have hj : j < fs.length := by omega
         obtain ⟨ad, P1, n1, B3, d3, B4, d4, B5, d5, rfl, hFC, _, _, _, _, _, _, _, _⟩ := elemF (Kd.Qj hC2.out hB0.out) j (List.getElem?_eq_getElem hj)
         have hFC := Qb.mk hFC
         have p0 : (0 : Int) ≤ (j : Int) := by omega
         have p1 : (j : Int) < (fs.length : Int) := by omega
         clear hvd hv
         skip
         go_wp2_with (first | (go_at_call 40; go_loud (with_reducible refine CD.mono ?_); rintro r w3 ⟨rfl, hb3⟩; have HB3 := Qb.mk (Qe hB.out hb3); have k1 := (Qa (Qc hbx.out HB3.out) 1).trans rfl; obtain ⟨e0, e1, _⟩ := hFC.out.below HB3.out; clear k1'; clear hb3 CD k0) | (go_at_call 41; go_loud (with_reducible refine (bare_c 113 _).mono ?_); rintro r w9 ⟨y1, y2, y3, rfl, hb9⟩; have H9 := Qb.mk (Qe HB3.out hb9); have hr1 := Qb.mk (Qc hrx.out H9.out); have j0 := (Qa hr1.out 0).trans rfl; have j1 := (Qa hr1.out 1).trans rfl; have j2 := (Qa hr1.out 2).trans rfl; have z0 := Qg hr1.out 0; have z1 := Qg hr1.out 1; have z2 := Qg hr1.out 2; clear hb9) | (go_at_call 42; go_loud (with_reducible refine (none_c _).mono ?_); rintro r w9 ⟨y1, y2, y3, rfl, hb9⟩; have H9 := Qb.mk (Qe HB3.out hb9); have hr1 := Qb.mk (Qc hrx.out H9.out); have j0 := (Qa hr1.out 0).trans rfl; have j1 := (Qa hr1.out 1).trans rfl; have j2 := (Qa hr1.out 2).trans rfl; have z0 := Qg hr1.out 0; have z1 := Qg hr1.out 1; have z2 := Qg hr1.out 2; clear hb9))
         all_goals (refine bodyPost_ret (v := .agg #[.int .i64 y1, .bool y2, .int .i64 y3]) (by simp [results, Tryd.results17, go_sem, *]) rfl ⟨_, _, _, rfl, ?_⟩; exact below3 (q := w.heap.size + 1) (hB0.out.trans (H9.out.mono hB0.out.size)) (by omega) _ _ _)
 ·have H9 := hB
  have hr1 := Qb.mk (Qc hrx.out H9.out); have j0 := (Qa hr1.out 0).trans rfl; have j1 := (Qa hr1.out 1).trans rfl; have j2 := (Qa hr1.out 2).trans rfl; have z0 := Qg hr1.out 0; have z1 := Qg hr1.out 1; have z2 := Qg hr1.out 2
  go_wp2
  refine bodyPost_ret (v := .agg #[.int .i64 y1, .bool y2, .int .i64 y3]) (by simp [results, Tryd.results17, go_sem, *]) rfl ⟨_, _, _, rfl, ?_⟩
  exact below3 (q := w.heap.size + 1) (hB0.out.trans (H9.out.mono hB0.out.size)) (by omega) _ _ _
end Go.Proofs.YtlgpoigbadajnaaDoor.DepA.Z

