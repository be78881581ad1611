/- gristmillref5.CheckExpr ends at what came in. Condition: few parts. -/
import Derived.Test.YtlgpoigbadajnaaDoorOEP
import Derived.Test.YtlgpoigbadajnaaDoorOExt
namespace Go.Proofs.YtlgpoigbadajnaaDoor.DepA.Z
open Go.RowKit Go.Proofs.YtlgpoigbadajnaaDoorW.PrintWords Go.Proofs.YtlgpoigbadajnaaDoorW.PrintLast Go.Proofs.YtlgpoigbadajnaaDoorW.PrintMore Go.Proofs.YtlgpoigbadajnaaDoor.PDepA
set_option linter.unusedVariables false
set_option linter.unusedSimpArgs false
def CK (ds : List S56) (fs : List S34) (e : S29) : Prop := ∀ (ar : List ByteArray) (w : World), ar.length + cn e ≤ 100000000000 → ∀ {Ad Af A0 B3 B4 B5 : Option Addr} {nd nf c0 d3 d4 d5 : Nat}, k56.C w Ad ds.length ds → ds.length ≤ nd → k34.C w Af fs.length fs → fs.length ≤ nf → Kd.string.C w A0 ar.length ar → ar.length ≤ c0 → Kd.C Kd.string w B3 e.f3.length e.f3 → e.f3.length ≤ d3 → Kd.C k29 w B4 e.f4.length e.f4 → e.f4.length ≤ d4 → Kd.C k88 w B5 e.f5.length e.f5 → e.f5.length ≤ d5 →
 Calls Tryd.prog 39 #[.agg #[.slice Ad ds.length nd, .slice Af fs.length nf], .slice A0 ar.length c0, .agg #[.int .i64 e.f0, .string e.f1, .int .i64 e.f2, .slice B3 e.f3.length d3, .slice B4 e.f4.length d4, .slice B5 e.f5.length d5]] w (AnyI w)
set_option maxHeartbeats 32000000 in
set_option maxRecDepth 100000 in
theorem ck_step (ds : List S56) (fs : List S34) (hds : ds.length ≤ BL) (hfs : fs.length ≤ BL) (hdc : ∀ d ∈ ds, d.f2.length ≤ BL) (e : S29) (ih : ∀ x ∈ e.f4, CK ds fs x) (iha : ∀ a ∈ e.f5, CK ds fs a.f4) : CK ds fs e := by
 intro ar w hcn Ad Af A0 A3 A4 A5 nd nf c0 c3 c4 c5 hd ld hf lf ha la h3 m3 h4 m4 h5 m5
 have E : ∀ W : World, ∀ o : Obj, (W.alloc o).heap.size = W.heap.size + 1 := fun W o => Array.size_push _
 have hce := cn_eq e
 have hl4 := len_cnL e.f4
 have hl5 := len_cnA e.f5
 obtain ⟨f0, f1, f2, l3, l4, l5⟩ := e
 dsimp only at *
 obtain ⟨W0, hW0⟩ : ∃ W0, (w.alloc (.cells #[.slice Ad ds.length nd, .slice Af fs.length nf] 38)).alloc (.cells #[.int .i64 f0, .string f1, .int .i64 f2, .slice A3 l3.length c3, .slice A4 l4.length c4, .slice A5 l5.length c5] 29) = W0 := ⟨_, rfl⟩
 have hB0 : Qb (Below w.heap.size w W0) := ⟨by rw [← hW0]; exact Qd (Qd (Below.refl _ _) _) _⟩
 have hbp : Qb (W0.heap[w.heap.size]? = some (.cells #[.slice Ad ds.length nd, .slice Af fs.length nf] 38 (0, 0))) := ⟨by rw [← hW0]; exact (Below.heap_alloc _ _ _ (by rw [E]; omega)).trans (Qv w _)⟩
 have hbx : Qb (W0.heap[w.heap.size + 1]? = some (.cells #[.int .i64 f0, .string f1, .int .i64 f2, .slice A3 l3.length c3, .slice A4 l4.length c4, .slice A5 l5.length c5] 29 (0, 0))) := ⟨by rw [← hW0]; rw [← E w]; exact Qv _ _⟩
 have hB : Qb (Below W0.heap.size W0 W0) := ⟨Below.refl _ _⟩
 have hds9 := Qb.mk (And.intro hds hdc)
 have hfs9 := Qb.mk hfs
 have hl9 : Qb (ar.length + l3.length + cnL l4 + cnA l5 ≤ 100000000000 ∧ l4.length ≤ cnL l4 ∧ l5.length ≤ cnA l5) := ⟨by omega, hl4, hl5⟩
 have hih := Qb.mk ih
 have hiha := Qb.mk iha
 have hCd := Qb.mk (And.intro hd ld)
 have hCf := Qb.mk (And.intro hf lf)
 have hCa := Qb.mk (And.intro ha (And.intro la True.intro))
 have hC3 := Qb.mk h3
 have hC4 := Qb.mk h4
 have hC5 := Qb.mk h5
 have hn3 := Qb.mk (And.intro m3 True.intro)
 clear hd ld hf lf ha la h3 m3 h4 m4 h5 m5 hds hfs hdc ih iha hcn hce hl4 hl5
 have k0 := (Qa hbx.out 0).trans rfl
 have k1 := (Qa hbx.out 1).trans rfl
 have k2 := (Qa hbx.out 2).trans rfl
 have k3 := (Qa hbx.out 3).trans rfl
 have k4 := (Qa hbx.out 4).trans rfl
 have k5 := (Qa hbx.out 5).trans rfl
 have m0 := (Qa hbp.out 0).trans rfl
 have m1 := (Qa hbp.out 1).trans rfl
 go_enter Tryd.func39, Tryd.ntmps39
 go_upto_block 0 with (fail)
 (try rw [hW0])
 go_cut [7, 8] (fun v7 v8 wc => Qb (Below W0.heap.size W0 wc))
 case first => as_aux_lemma =>
  rcases bq f0 1 with ⟨a1, b1⟩ | ⟨a1, b1⟩
  ·obtain ⟨bh, CH⟩ := has_c ar f1 (by have := hl9.out; omega)
   obtain ⟨vd, hvd, CD⟩ := findDef_c f1 ds fs hfs9.out
   have CH := Qb.mk @CH
   have CD := Qb.mk @CD
   clear hvd
   cases bh
   ·rcases bd (vd < 0) with d1 | d1
    ·go_wp2_with (first | (go_at_call 35; (try rw [hW0]); go_loud (with_reducible refine (CH.out W0 (Kd.Qj hCa.out.1 hB0.out) hCa.out.2.1).mono ?_); rintro r w1 ⟨rfl, hb3⟩; have H1 := Qb.mk (Qe hB.out hb3); have j1 := (Qa (Qc hbx.out H1.out) 1).trans rfl; have j2 := (Qa (Qc hbp.out H1.out) 0).trans rfl; have j3 := (Qa (Qc hbp.out H1.out) 1).trans rfl; clear k0 k1 k2 k3 k4 k5 m0 m1; clear hb3) | (go_at_call 40; (try rw [hW0]); go_loud (with_reducible refine (CD.out w1 (Kd.Qj (Kd.Qj hCd.out.1 hB0.out) H1.out) hCd.out.2 (Kd.Qj (Kd.Qj hCf.out.1 hB0.out) H1.out) hCf.out.2).mono ?_); rintro r w2 ⟨rfl, hb3⟩; have H2 := Qb.mk (Qe H1.out hb3); clear hb3))
     go_meet
     case rel => exact H2
    ·go_wp2_with (first | (go_at_call 35; (try rw [hW0]); go_loud (with_reducible refine (CH.out W0 (Kd.Qj hCa.out.1 hB0.out) hCa.out.2.1).mono ?_); rintro r w1 ⟨rfl, hb3⟩; have H1 := Qb.mk (Qe hB.out hb3); have j1 := (Qa (Qc hbx.out H1.out) 1).trans rfl; have j2 := (Qa (Qc hbp.out H1.out) 0).trans rfl; have j3 := (Qa (Qc hbp.out H1.out) 1).trans rfl; clear k0 k1 k2 k3 k4 k5 m0 m1; clear hb3) | (go_at_call 40; (try rw [hW0]); go_loud (with_reducible refine (CD.out w1 (Kd.Qj (Kd.Qj hCd.out.1 hB0.out) H1.out) hCd.out.2 (Kd.Qj (Kd.Qj hCf.out.1 hB0.out) H1.out) hCf.out.2).mono ?_); rintro r w2 ⟨rfl, hb3⟩; have H2 := Qb.mk (Qe H1.out hb3); clear hb3))
     go_ret
     exact ⟨_, rfl, hB0.out.trans (H2.out.mono hB0.out.size)⟩
   ·go_wp2_with (first | (go_at_call 35; (try rw [hW0]); go_loud (with_reducible refine (CH.out W0 (Kd.Qj hCa.out.1 hB0.out) hCa.out.2.1).mono ?_); rintro r w1 ⟨rfl, hb3⟩; have H1 := Qb.mk (Qe hB.out hb3); have j1 := (Qa (Qc hbx.out H1.out) 1).trans rfl; have j2 := (Qa (Qc hbp.out H1.out) 0).trans rfl; have j3 := (Qa (Qc hbp.out H1.out) 1).trans rfl; clear k0 k1 k2 k3 k4 k5 m0 m1; clear hb3))
    go_meet
    case rel => exact H1
  ·rcases bq f0 4 with ⟨a2, b2⟩ | ⟨a2, b2⟩
   ·obtain ⟨⟨y1, y2⟩, hpl, CC⟩ := findCons_c f1 ds fs hds9.out.1 hds9.out.2
    have CC := Qb.mk @CC
    clear hpl
    rcases bd (y1 < 0) with d1 | d1
    ·go_wp2_with (first | (go_at_call 58; (try rw [hW0]); go_loud (with_reducible refine (CC.out W0 (Kd.Qj hCd.out.1 hB0.out) hCd.out.2 (Kd.Qj hCf.out.1 hB0.out) hCf.out.2).mono ?_); rintro r w2 ⟨rfl, hb3⟩; have H2 := Qb.mk (Qe hB.out hb3); clear hb3))
     go_meet
     case rel => exact H2
    ·go_wp2_with (first | (go_at_call 58; (try rw [hW0]); go_loud (with_reducible refine (CC.out W0 (Kd.Qj hCd.out.1 hB0.out) hCd.out.2 (Kd.Qj hCf.out.1 hB0.out) hCf.out.2).mono ?_); rintro r w2 ⟨rfl, hb3⟩; have H2 := Qb.mk (Qe hB.out hb3); clear hb3))
     go_ret
     exact ⟨_, rfl, hB0.out.trans (H2.out.mono hB0.out.size)⟩
   ·go_wp2
    go_meet
    case rel => exact hB
 case rest =>
  have hB2 := hcut
  clear hcut hB k0 k1 k2 k3 k4 k5 m0 m1 hW0
  have hB := hB2
  clear hB2
  rename World => wr
  have k3 := (Qa (Qc hbx.out hB.out) 3).trans rfl
  obtain ⟨bt, CTW⟩ := twice_c l3 (by have := hl9.out; omega)
  have CTW := CTW wr (Kd.Qj (Kd.Qj hC3.out hB0.out) hB.out) hn3.out.1
  cases bt
  ·go_upto_region 11 with (go_at_call 36; go_loud (with_reducible refine CTW.mono ?_); rintro r w3 ⟨rfl, hb3⟩; have H3 := Qb.mk (Qe hB.out hb3); clear hb3 CTW k3)
   clear hB
   obtain ⟨in1, hin1⟩ : ∃ l, ar ++ l3 = l := ⟨_, rfl⟩
   have hin1 := Qb.mk hin1
   have HB_ : Below w3.heap.size w3 w3.drew := Qi (Below.refl _ _)
   refine QZ (n := 6) (S := fun w' => w'.cell? ⟨w.heap.size + 1, 3, none⟩ = some (.slice A3 l3.length c3)) (ds := []) (bm 6 0) (by kernel_rfl) rfl rfl ((Qa (Qc (Qc hbx.out H3.out) HB_) 3).trans rfl) (fun hHeld => ?_)
   generalize w3.drew = W9 at *
   refine Q4 (i := 0) (N := some 47) (v := ?_) (a' := ?_) (bm 6 1) rfl rfl (by kernel_rfl) (fun _ _ _ h => h) (Or.inl ⟨by rfl, ?_⟩) ?_ ?_
   rotate_left
   ·intro w'
    go_simp
    with_reducible rfl
   rotate_left
   ·simp only [Act.put, sA, sB, sC, Qk, Ql]
    rfl
   refine Q4 (i := 2) (N := some 49) (v := ?_) (a' := ?_) (bm 6 5) rfl rfl (by kernel_rfl) (fun _ _ _ h => h) (Or.inl ⟨by rfl, ?_⟩) ?_ ?_
   rotate_left
   ·intro w'
    go_simp
    with_reducible rfl
   rotate_left
   ·simp only [Act.put, sA, sB, sC, Qk, Ql]
    rfl
   refine QE (i := 3) (N := some 50) (v := ?_) (a' := ?_) (bm 6 13) rfl rfl (by kernel_rfl) (fun _ _ _ h => h) (Or.inl ⟨by rfl, ?_⟩) hHeld ?_ ?_
   rotate_left
   ·intro w' s0
    go_simp
    with_reducible rfl
   rotate_left
   ·simp only [Act.put, sA, sB, sC, Qk, Ql]
    rfl
   refine QQ (i := 1) (N := some 48) (bm 6 15) rfl rfl (by kernel_rfl) (by decide) (fun K hK => ?_)
   refine QI Tryd.func59 (by kernel_rfl) rfl #[.slice A0 ar.length c0] (by rfl) rfl rfl (by simp only [List.map_toArray, List.map_cons, List.map_nil]; rfl) ?_
   (with_reducible refine (Ext.texts_calls ar W9 (by have := hl9.out; omega) (Kd.Qj (Kd.Qj (Kd.Qj hCa.out.1 hB0.out) H3.out) HB_)).mono ?_)
   rintro e w5 ⟨v5, rfl, ho5, hb5⟩
   refine ⟨_, rfl, ?_⟩
   have HB5 := Qe HB_ hb5
   refine hK.out _ _ ((Qa (Qc (Qc hbx.out H3.out) HB5) 3).trans rfl) (fun hHeld => ?_)
   clear hK K
   refine Qq (a' := ?_) ?_ ?_
   rotate_left
   ·show Act.put _ (some 48) _ = _
    simp only [Act.put, sA, sB, sC, Qk, Ql]
    rfl
   refine QQ (i := 4) (N := some 51) (bm 6 31) rfl rfl (by kernel_rfl) (by decide) (fun K hK => ?_)
   refine Kd.Vh Kd.string (w0 := W9) W9.heap.size (by rfl) (.tmp 48) (.tmp 50) 25 9 (.string ⟨#[]⟩) 16 rfl Tryd.underlying25 Ext.infS rfl (by decide) (by omega) v5 (ar) l3 _ _ _ (fun _ => True) (fun _ => False) rfl rfl ?aO ?aR (fun _ _ h => h) (fun _ h => h.elim) ?aF ?aB ?aS ?aL ?_
   (case aR => exact Kd.Qj (Kd.Qj (Kd.Qj hC3.out hB0.out) H3.out) HB5)
   (case aB => exact hb5)
   (case aF => exact (fun _ _ => trivial))
   (case aO => exact ho5)
   (case aS => exact (hb5).size)
   (case aL => have := hl9.out; omega)
   intro v6 w6 ho6 hb6 hg6 hat6
   rw [hin1.out] at ho6
   obtain ⟨A6, c6, hv6⟩ := Kd.Z8 ho6
   subst hv6
   have HB6 := HB_.trans (hb6.mono HB_.size)
   refine hK.out _ _ ((Qa (Qc (Qc hbx.out H3.out) HB6) 3).trans rfl) (fun hHeld => ?_)
   clear hK K
   refine Qq (a' := ?_) ?_ ?_
   rotate_left
   ·show Act.put _ (some 51) _ = _
    simp only [Act.put, sA, sB, sC, Qk, Ql]
    rfl
   refine Q4 (i := 5) (N := some 9) (v := ?_) (a' := ?_) (bm 6 63) rfl rfl (by kernel_rfl) (fun _ _ _ h => h) (Or.inl ⟨by rfl, ?_⟩) ?_ ?_
   rotate_left
   ·intro w'
    go_simp
    with_reducible rfl
   rotate_left
   ·simp only [Act.put, sA, sB, sC, Qk, Ql]
    rfl
   refine Zx (by kernel_rfl) ?_
   clear hHeld
   have hB9 := Qe H3.out HB6
   have hB1 := Qb.mk (hB0.out.trans (hB9.mono hB0.out.size))
   have hbx1 := Qb.mk (Qc hbx.out hB9)
   have hbp1 := Qb.mk (Qc hbp.out hB9)
   have hIn := Qb.mk (Kd.Zk ho6).2
   have hB : Qb (Below w6.heap.size w6 w6) := ⟨Below.refl _ _⟩
   clear HB_ hb5 HB5 ho5 ho6 hb6 hg6 hat6 HB6 hB9 H3
   go_wp2
   go_loopg [10] (l4.length + 1) (fun kq v10 w' => ∃ (i : Nat), v10 = .int .i64 (i : Int) ∧ i + kq = l4.length + 1 ∧ 1 ≤ kq ∧ Qb (Below w6.heap.size w6 w'))
   case atStart => exact ⟨0, rfl, by omega, by omega, hB⟩
   case round =>
    clear hB
    obtain ⟨i, rfl, hi, hk, hBr⟩ := hrel
    obtain ⟨g, hg⟩ : ∃ g, g = gk := ⟨_, rfl⟩
    by_cases hlt : i < l4.length
    ·have k4 := (Qa (Qc hbx1.out hBr.out) 4).trans rfl
     have hxi : l4[i]? = some l4[i] := List.getElem?_eq_getElem hlt
     have hx := hih.out _ (List.getElem_mem hlt)
     have hcn := cn_mem (List.getElem_mem hlt)
     generalize l4[i] = x at hxi hx hcn
     obtain ⟨ad, B3, d3, B4, d4, B5, d5, rfl, he, g3, g4, g5, m3, m4, m5⟩ := elem33 (Kd.Qj (Kd.Qj hC4.out hB1.out) hBr.out) i hxi
     have he := Qb.mk he
     have CX : ∀ W, Below wr.heap.size wr W → _ := fun W hb => hx in1 W (by have := hl9.out; rw [← hin1.out, List.length_append]; omega) (nd := nd) (nf := nf) (c0 := c6) (Kd.Qj (Kd.Qj (Kd.Qj hCd.out.1 hB1.out) hBr.out) hb) hCd.out.2 (Kd.Qj (Kd.Qj (Kd.Qj hCf.out.1 hB1.out) hBr.out) hb) hCf.out.2 (Kd.Qj (Kd.Qj hIn.out.2 hBr.out) hb) hIn.out.1 (Kd.Qj g3 hb) m3 (Kd.Qj g4 hb) m4 (Kd.Qj g5 hb) m5
     clear hx hxi hcn
     have p0 : (0 : Int) ≤ (i : Int) := by omega
     have p1 : (i : Int) < (l4.length : Int) := by omega
     have q1 : decide ((i : Int) < (l4.length : Int)) = true := decide_eq_true p1
     have hjn : Value.int .i64 (wrap64 ((i : Int) + 1)) = .int .i64 ((i + 1 : Nat) : Int) := by rw [wr1 i (by have := hl9.out; omega)]
     go_wp2
     have HB_ : Below wr.heap.size wr wr.drew := Qi (Below.refl _ _)
     refine QZ (n := 9) (S := fun w' => w'.cell? ⟨w.heap.size, 0, none⟩ = some (.slice Ad ds.length nd) ∧ w'.cell? ⟨w.heap.size, 1, none⟩ = some (.slice Af fs.length nf) ∧ w'.cell? ⟨w.heap.size + 1, 4, none⟩ = some (.slice (some ad) l4.length c4) ∧ w'.cell? (ad.add (i * 6)) = some (.int .i64 x.f0) ∧ w'.cell? ⟨(ad.add (i * 6)).block, (ad.add (i * 6)).off + 1, none⟩ = some (.string x.f1) ∧ w'.cell? ⟨(ad.add (i * 6)).block, (ad.add (i * 6)).off + 2, none⟩ = some (.int .i64 x.f2) ∧ w'.cell? ⟨(ad.add (i * 6)).block, (ad.add (i * 6)).off + 3, none⟩ = some (.slice B3 x.f3.length d3) ∧ w'.cell? ⟨(ad.add (i * 6)).block, (ad.add (i * 6)).off + 4, none⟩ = some (.slice B4 x.f4.length d4) ∧ w'.cell? ⟨(ad.add (i * 6)).block, (ad.add (i * 6)).off + 5, none⟩ = some (.slice B5 x.f5.length d5)) (ds := []) (bm 9 0) (by kernel_rfl) rfl rfl ⟨(Qa (Qc (Qc hbp1.out hBr.out) HB_) 0).trans rfl, (Qa (Qc (Qc hbp1.out hBr.out) HB_) 1).trans rfl, (Qa (Qc (Qc hbx1.out hBr.out) HB_) 4).trans rfl, (he.out.below HB_).1, (he.out.below HB_).2.1, (he.out.below HB_).2.2.1, (he.out.below HB_).2.2.2.1, (he.out.below HB_).2.2.2.2.1, (he.out.below HB_).2.2.2.2.2⟩ (fun hHeld => ?_)
     generalize wr.drew = W9 at *
     refine Q4 (i := 1) (N := some 60) (v := ?_) (a' := ?_) (bm 9 2) rfl rfl (by kernel_rfl) (fun _ _ _ h => h) (Or.inl ⟨by rfl, ?_⟩) ?_ ?_
     rotate_left
     ·intro w'
      go_simp
      with_reducible rfl
     rotate_left
     ·simp only [Act.put, sA, sB, sC, Qk, Ql]
      rfl
     refine Q4 (i := 2) (N := some 61) (v := ?_) (a' := ?_) (bm 9 6) rfl rfl (by kernel_rfl) (fun _ _ _ h => h) (Or.inl ⟨by rfl, ?_⟩) ?_ ?_
     rotate_left
     ·intro w'
      go_simp
      with_reducible rfl
     rotate_left
     ·simp only [Act.put, sA, sB, sC, Qk, Ql]
      rfl
     refine Q4 (i := 4) (N := some 63) (v := ?_) (a' := ?_) (bm 9 22) rfl rfl (by kernel_rfl) (fun _ _ _ h => h) (Or.inl ⟨by rfl, ?_⟩) ?_ ?_
     rotate_left
     ·intro w'
      go_simp
      with_reducible rfl
     rotate_left
     ·simp only [Act.put, sA, sB, sC, Qk, Ql]
      rfl
     refine QE (i := 0) (N := some 59) (v := ?_) (a' := ?_) (bm 9 23) rfl rfl (by kernel_rfl) (fun _ _ _ h => h) (Or.inl ⟨by rfl, ?_⟩) hHeld ?_ ?_
     rotate_left
     ·rintro w' ⟨s0, s1, s2, s3, s4, s5, s6, s7, s8⟩
      go_simp
      with_reducible rfl
     rotate_left
     ·simp only [Act.put, sA, sB, sC, Qk, Ql]
      rfl
     refine QE (i := 3) (N := some 62) (v := ?_) (a' := ?_) (bm 9 31) rfl rfl (by kernel_rfl) (fun _ _ _ h => h) (Or.inl ⟨by rfl, ?_⟩) hHeld ?_ ?_
     rotate_left
     ·rintro w' ⟨s0, s1, s2, s3, s4, s5, s6, s7, s8⟩
      go_simp
      with_reducible rfl
     rotate_left
     ·simp only [Act.put, sA, sB, sC, Qk, Ql]
      rfl
     refine Q4 (i := 5) (N := some 64) (v := ?_) (a' := ?_) (bm 9 63) rfl rfl (by kernel_rfl) (fun _ _ _ h => h) (Or.inl ⟨by rfl, ?_⟩) ?_ ?_
     rotate_left
     ·intro w'
      go_simp
      with_reducible rfl
     rotate_left
     ·simp only [Act.put, sA, sB, sC, Qk, Ql]
      rfl
     refine QE (i := 6) (N := some 65) (v := ?_) (a' := ?_) (bm 9 127) rfl rfl (by kernel_rfl) (fun _ _ _ h => h) (Or.inl ⟨by rfl, ?_⟩) hHeld ?_ ?_
     rotate_left
     ·rintro w' ⟨s0, s1, s2, s3, s4, s5, s6, s7, s8⟩
      go_simp
      with_reducible rfl
     rotate_left
     ·simp only [Act.put, sA, sB, sC, Qk, Ql]
      rfl
     refine QQ (i := 7) (N := some 66) (bm 9 255) rfl rfl (by kernel_rfl) (by decide) (fun K hK => ?_)
     refine QI Tryd.func39 (by kernel_rfl) rfl #[.agg #[.slice Ad ds.length nd, .slice Af fs.length nf], .slice A6 in1.length c6, .agg #[.int .i64 x.f0, .string x.f1, .int .i64 x.f2, .slice B3 x.f3.length d3, .slice B4 x.f4.length d4, .slice B5 x.f5.length d5]] (by rfl) rfl rfl (by simp only [List.map_toArray, List.map_cons, List.map_nil]; rfl) ?_
     (with_reducible refine (CX W9 HB_).mono ?_)
     rintro e w5 ⟨v, rfl, hb5⟩
     refine ⟨_, rfl, ?_⟩
     have HB5 := Qe HB_ hb5
     refine hK.out _ _ ⟨(Qa (Qc (Qc hbp1.out hBr.out) HB5) 0).trans rfl, (Qa (Qc (Qc hbp1.out hBr.out) HB5) 1).trans rfl, (Qa (Qc (Qc hbx1.out hBr.out) HB5) 4).trans rfl, (he.out.below HB5).1, (he.out.below HB5).2.1, (he.out.below HB5).2.2.1, (he.out.below HB5).2.2.2.1, (he.out.below HB5).2.2.2.2.1, (he.out.below HB5).2.2.2.2.2⟩ (fun hHeld => ?_)
     clear hK K
     refine Qq (a' := ?_) ?_ ?_
     rotate_left
     ·show Act.put _ (some 66) _ = _
      simp only [Act.put, sA, sB, sC, Qk, Ql]
      rfl
     refine Q4 (i := 8) (N := some 11) (v := ?_) (a' := ?_) (bm 9 511) rfl rfl (by kernel_rfl) (fun _ _ _ h => h) (Or.inl ⟨by rfl, ?_⟩) ?_ ?_
     rotate_left
     ·intro w'
      go_simp
      with_reducible rfl
     rotate_left
     ·simp only [Act.put, sA, sB, sC, Qk, Ql]
      rfl
     refine Zx (by kernel_rfl) ?_
     clear hHeld
     have HB3 := Qb.mk (Qe hBr.out HB5)
     clear HB5 HB_ hb5 CX he
     go_wp2
     all_goals first | (go_ret; exact ⟨_, rfl, hB1.out.trans (HB3.out.mono hB1.out.size)⟩) | (go_roundg (g - 1); (case measure => omega); (case rel => exact ⟨i + 1, by first | exact hjn | rfl, by omega, by omega, HB3⟩))
    ·have q1 : decide ((i : Int) < (l4.length : Int)) = false := decide_eq_false (by omega)
     have hB := hBr
     clear hBr hi hk hg
     have k4 := (Qa (Qc hbx1.out hB.out) 4).trans rfl
     go_wp2
     go_loopg [12] (l5.length + 1) (fun kq v12 w' => ∃ (i : Nat), v12 = .int .i64 (i : Int) ∧ i + kq = l5.length + 1 ∧ 1 ≤ kq ∧ Qb (Below w6.heap.size w6 w'))
     case atStart => exact ⟨0, rfl, by omega, by omega, hB⟩
     case round =>
      clear hB
      obtain ⟨i, rfl, hi, hk, hBr⟩ := hrel
      obtain ⟨g, hg⟩ : ∃ g, g = gk := ⟨_, rfl⟩
      by_cases hlt : i < l5.length
      ·have k5 := (Qa (Qc hbx1.out hBr.out) 5).trans rfl
       have m0 := (Qa (Qc hbp1.out hBr.out) 0).trans rfl
       have m1 := (Qa (Qc hbp1.out hBr.out) 1).trans rfl
       have hxi : l5[i]? = some l5[i] := List.getElem?_eq_getElem hlt
       have hx := hiha.out _ (List.getElem_mem hlt)
       have hcn := cn_memA (List.getElem_mem hlt)
       generalize l5[i] = a at hxi hx hcn
       obtain ⟨ad, B3, d3, B7, d7, B8, d8, B9, d9, rfl, ⟨e0, e1, e2, e3, e4, e5, e6, e7, e8, e9⟩, g3, g7, g8, g9, n3, n7, n8, n9⟩ := elem40c (Kd.Qj (Kd.Qj hC5.out hB1.out) hBr.out) i hxi
       obtain ⟨in2, hin2⟩ : ∃ l, in1 ++ a.f3 = l := ⟨_, rfl⟩
       have hin2 := Qb.mk hin2
       obtain ⟨Wa, hWa⟩ : ∃ Wa, wr.alloc (.cells #[.int .i64 a.f0, .string a.f1, .int .i64 a.f2, .slice B3 a.f3.length d3, .int .i64 a.f4.f0, .string a.f4.f1, .int .i64 a.f4.f2, .slice B7 a.f4.f3.length d7, .slice B8 a.f4.f4.length d8, .slice B9 a.f4.f5.length d9] 88) = Wa := ⟨_, rfl⟩
       have hBa : Qb (Below wr.heap.size wr Wa) := ⟨by rw [← hWa]; exact Qd (Below.refl _ _) _⟩
       have hab : Qb (Wa.heap[wr.heap.size]? = some (.cells #[.int .i64 a.f0, .string a.f1, .int .i64 a.f2, .slice B3 a.f3.length d3, .int .i64 a.f4.f0, .string a.f4.f1, .int .i64 a.f4.f2, .slice B7 a.f4.f3.length d7, .slice B8 a.f4.f4.length d8, .slice B9 a.f4.f5.length d9] 88 (0, 0))) := ⟨by rw [← hWa]; exact Qv wr _⟩
       have g3 := Qb.mk (And.intro (Kd.Qj g3 hBa.out) n3)
       have hBA : Qb (Below w6.heap.size w6 Wa) := ⟨hBr.out.trans (hBa.out.mono hBr.out.size)⟩
       have CX := Qb.mk (fun (W : World) (hb : Below Wa.heap.size Wa W) (An : Option Addr) (cN : Nat) => hx in2 W (by have := hl9.out; rw [← hin2.out, ← hin1.out, List.length_append, List.length_append]; omega) (Ad := Ad) (Af := Af) (A0 := An) (c0 := cN) (nd := nd) (nf := nf) (B3 := B7) (B4 := B8) (B5 := B9) (d3 := d7) (d4 := d8) (d5 := d9) (Kd.Qj (Kd.Qj (Kd.Qj hCd.out.1 hB1.out) hBA.out) hb) hCd.out.2 (Kd.Qj (Kd.Qj (Kd.Qj hCf.out.1 hB1.out) hBA.out) hb) hCf.out.2)
       have CR := Qb.mk (fun (W : World) (hb : Below Wa.heap.size Wa W) => And.intro (Kd.Qj (Kd.Qj g7 hBa.out) hb) (And.intro (Kd.Qj (Kd.Qj g8 hBa.out) hb) (Kd.Qj (Kd.Qj g9 hBa.out) hb)))
       have hn := Qb.mk (And.intro n7 (And.intro n8 n9))
       have hla : Qb (a.f3.length ≤ 100000000000) := ⟨by have := hl9.out; omega⟩
       obtain ⟨⟨y1, y2⟩, hpl, CC⟩ := findCons_c a.f1 ds fs hds9.out.1 hds9.out.2
       have CC := CC Wa (nd := nd) (nf := nf) (Kd.Qj (Kd.Qj hCd.out.1 hB1.out) hBA.out) hCd.out.2 (Kd.Qj (Kd.Qj hCf.out.1 hB1.out) hBA.out) hCf.out.2
       have hpl := Qb.mk hpl
       obtain ⟨bt, CTW⟩ := twice_c a.f3 (by have := hla.out; omega)
       have CTW := Qb.mk @CTW
       clear hx hxi hcn g7 g8 g9 n3 n7 n8 n9
       have p0 : (0 : Int) ≤ (i : Int) := by omega
       have p1 : (i : Int) < (l5.length : Int) := by omega
       have q1 : decide ((i : Int) < (l5.length : Int)) = true := decide_eq_true p1
       have hjn : Value.int .i64 (wrap64 ((i : Int) + 1)) = .int .i64 ((i + 1 : Nat) : Int) := by rw [wr1 i (by have := hl9.out; omega)]
       have u1 := (Qa hab.out 1).trans rfl
       have x0 := (Qa (Qc (Qc hbp1.out hBr.out) hBa.out) 0).trans rfl
       have x1 := (Qa (Qc (Qc hbp1.out hBr.out) hBa.out) 1).trans rfl
       go_upto_region 23 with (go_at_call 58; (try rw [hWa]); go_loud (with_reducible refine CC.mono ?_); rintro r w7 ⟨rfl, hb3⟩; have H7 := Qb.mk hb3; clear hb3 CC)
       clear u1 x0 x1 e0 e1 e2 e3 e4 e5 e6 e7 e8 e9 k5 m0 m1 hWa
       have P1 := Qc (Qc (Qc hbp1.out hBr.out) hBa.out) H7.out
       have m0 := (Qa P1 0).trans rfl
       have m1 := (Qa P1 1).trans rfl
       clear P1
       have u0 := (Qa (Qc hab.out H7.out) 0).trans rfl
       have u3 := (Qa (Qc hab.out H7.out) 3).trans rfl
       go_cut [95] (fun v95 wc => ∃ b : Bool, v95 = .bool b ∧ Qb (b = false → a.f0 = 1 → 0 ≤ y1) ∧ Qb (Below Wa.heap.size Wa wc))
       case first => as_aux_lemma =>
        rcases bq a.f0 1 with ⟨a1, b1⟩ | ⟨a1, b1⟩
        ·rcases bd (y1 < 0) with d1 | d1
         ·go_wp2
          go_meet
          case rel => exact ⟨false, rfl, ⟨fun _ _ => by have := of_decide_eq_false d1; omega⟩, H7⟩
         ·go_wp2
          go_meet
          case rel => exact ⟨true, rfl, ⟨fun h => absurd h (by decide)⟩, H7⟩
        ·go_wp2
         go_meet
         case rel => exact ⟨false, rfl, ⟨fun _ h => absurd h (beq_eq_false_iff_ne.1 a1)⟩, H7⟩
       case rest =>
        obtain ⟨b, rfl, hb, H8⟩ := hcut
        rename World => w8
        clear H7 u0 u3 m0 m1
        cases b
        ·go_upto_region 25 with (fail)
         go_cut [115] (fun v115 wc => ∃ b : Bool, v115 = .bool b ∧ Qb (Below Wa.heap.size Wa wc))
         case first => as_aux_lemma =>
          have u0 := (Qa (Qc hab.out H8.out) 0).trans rfl
          have u3 := (Qa (Qc hab.out H8.out) 3).trans rfl
          have m0 := (Qa (Qc (Qc (Qc hbp1.out hBr.out) hBa.out) H8.out) 0).trans rfl
          have m1 := (Qa (Qc (Qc (Qc hbp1.out hBr.out) hBa.out) H8.out) 1).trans rfl
          rcases bq a.f0 1 with ⟨a1, b1⟩ | ⟨a1, b1⟩
          ·rcases hpl.out with hneg | ⟨p, q, hp, he, hq⟩
           ·exact absurd hneg (by have h8 := hb.out rfl (beq_iff_eq.1 a1); exact Int.not_lt.2 h8)
           ·obtain ⟨rfl, rfl⟩ := Prod.mk.inj he
            obtain ⟨adp, P1, n1', P2, n2', e, ⟨_, _, s2⟩, _, _, lc, hCs⟩ := elemD (Kd.Qj (Kd.Qj (Kd.Qj hCd.out.1 hB1.out) hBA.out) H8.out) p (List.getElem?_eq_getElem hp)
            subst e
            obtain ⟨adc, Q1, q1', e, ⟨_, t1⟩, _, _⟩ := elemC hCs q (List.getElem?_eq_getElem hq)
            subst e
            have p0 : (0 : Int) ≤ (p : Int) := by omega
            have p1 : (p : Int) < (ds.length : Int) := by omega
            have p2 : (0 : Int) ≤ (q : Int) := by omega
            have p3 : (q : Int) < (ds[p].f2.length : Int) := by omega
            clear hCs lc hpl hb
            go_quiet (fail)
            go_wp2
            go_meet
            case rel => exact ⟨_, rfl, ⟨Qh H8.out nq⟩⟩
          ·go_quiet (fail)
           go_wp2
           go_meet
           case rel => exact ⟨_, rfl, ⟨Qh H8.out nq⟩⟩
         case rest =>
          obtain ⟨b2, rfl, H9⟩ := hcut
          rename World => w9
          clear hb H8
          cases b2
          ·have u3 := (Qa (Qc hab.out H9.out) 3).trans rfl
           have CTW := CTW.out w9 (Kd.Qj g3.out.1 H9.out) g3.out.2
           cases bt
           ·go_upto_region 29 with (go_at_call 36; go_loud (with_reducible refine CTW.mono ?_); rintro r wt ⟨rfl, hb3⟩; have Ht := Qb.mk (Qe H9.out hb3); clear hb3 CTW u3)
            clear H9
            have HB_ : Below wt.heap.size wt wt.drew := Qi (Below.refl _ _)
            refine QZ (n := 10) (S := fun w' => w'.cell? ⟨w.heap.size, 0, none⟩ = some (.slice Ad ds.length nd) ∧ w'.cell? ⟨w.heap.size, 1, none⟩ = some (.slice Af fs.length nf) ∧ w'.cell? ⟨wr.heap.size, 3, none⟩ = some (.slice B3 a.f3.length d3) ∧ w'.cell? ⟨wr.heap.size, 4, none⟩ = some (.int .i64 a.f4.f0) ∧ w'.cell? ⟨wr.heap.size, 5, none⟩ = some (.string a.f4.f1) ∧ w'.cell? ⟨wr.heap.size, 6, none⟩ = some (.int .i64 a.f4.f2) ∧ w'.cell? ⟨wr.heap.size, 7, none⟩ = some (.slice B7 a.f4.f3.length d7) ∧ w'.cell? ⟨wr.heap.size, 8, none⟩ = some (.slice B8 a.f4.f4.length d8) ∧ w'.cell? ⟨wr.heap.size, 9, none⟩ = some (.slice B9 a.f4.f5.length d9)) (ds := []) (bm 10 0) (by kernel_rfl) rfl rfl ⟨(Qa (Qc (Qc (Qc (Qc hbp1.out hBr.out) hBa.out) Ht.out) HB_) 0).trans rfl, (Qa (Qc (Qc (Qc (Qc hbp1.out hBr.out) hBa.out) Ht.out) HB_) 1).trans rfl, (Qa (Qc (Qc hab.out Ht.out) HB_) 3).trans rfl, (Qa (Qc (Qc hab.out Ht.out) HB_) 4).trans rfl, (Qa (Qc (Qc hab.out Ht.out) HB_) 5).trans rfl, (Qa (Qc (Qc hab.out Ht.out) HB_) 6).trans rfl, (Qa (Qc (Qc hab.out Ht.out) HB_) 7).trans rfl, (Qa (Qc (Qc hab.out Ht.out) HB_) 8).trans rfl, (Qa (Qc (Qc hab.out Ht.out) HB_) 9).trans rfl⟩ (fun hHeld => ?_)
            generalize wt.drew = W9 at *
            refine Q4 (i := 1) (N := some 120) (v := ?_) (a' := ?_) (bm 10 2) rfl rfl (by kernel_rfl) (fun _ _ _ h => h) (Or.inl ⟨by rfl, ?_⟩) ?_ ?_
            rotate_left
            ·intro w'
             go_simp
             with_reducible rfl
            rotate_left
            ·simp only [Act.put, sA, sB, sC, Qk, Ql]
             rfl
            refine Q4 (i := 3) (N := some 122) (v := ?_) (a' := ?_) (bm 10 10) rfl rfl (by kernel_rfl) (fun _ _ _ h => h) (Or.inl ⟨by rfl, ?_⟩) ?_ ?_
            rotate_left
            ·intro w'
             go_simp
             with_reducible rfl
            rotate_left
            ·simp only [Act.put, sA, sB, sC, Qk, Ql]
             rfl
            refine Q4 (i := 6) (N := some 125) (v := ?_) (a' := ?_) (bm 10 74) rfl rfl (by kernel_rfl) (fun _ _ _ h => h) (Or.inl ⟨by rfl, ?_⟩) ?_ ?_
            rotate_left
            ·intro w'
             go_simp
             with_reducible rfl
            rotate_left
            ·simp only [Act.put, sA, sB, sC, Qk, Ql]
             rfl
            refine QE (i := 0) (N := some 119) (v := ?_) (a' := ?_) (bm 10 75) rfl rfl (by kernel_rfl) (fun _ _ _ h => h) (Or.inl ⟨by rfl, ?_⟩) hHeld ?_ ?_
            rotate_left
            ·rintro w' ⟨s0, s1, s2, s3, s4, s5, s6, s7, s8⟩
             go_simp
             with_reducible rfl
            rotate_left
            ·simp only [Act.put, sA, sB, sC, Qk, Ql]
             rfl
            refine QE (i := 4) (N := some 123) (v := ?_) (a' := ?_) (bm 10 91) rfl rfl (by kernel_rfl) (fun _ _ _ h => h) (Or.inl ⟨by rfl, ?_⟩) hHeld ?_ ?_
            rotate_left
            ·rintro w' ⟨s0, s1, s2, s3, s4, s5, s6, s7, s8⟩
             go_simp
             with_reducible rfl
            rotate_left
            ·simp only [Act.put, sA, sB, sC, Qk, Ql]
             rfl
            refine QE (i := 7) (N := some 126) (v := ?_) (a' := ?_) (bm 10 219) rfl rfl (by kernel_rfl) (fun _ _ _ h => h) (Or.inl ⟨by rfl, ?_⟩) hHeld ?_ ?_
            rotate_left
            ·rintro w' ⟨s0, s1, s2, s3, s4, s5, s6, s7, s8⟩
             go_simp
             with_reducible rfl
            rotate_left
            ·simp only [Act.put, sA, sB, sC, Qk, Ql]
             rfl
            refine QQ (i := 2) (N := some 121) (bm 10 223) rfl rfl (by kernel_rfl) (by decide) (fun K hK => ?_)
            refine QI Tryd.func59 (by kernel_rfl) rfl #[.slice A6 in1.length c6] (by rfl) rfl rfl (by simp only [List.map_toArray, List.map_cons, List.map_nil]; rfl) ?_
            (with_reducible refine (Ext.texts_calls in1 W9 (by have := hl9.out; rw [← hin1.out, List.length_append]; omega) (Kd.Qj (Kd.Qj (Kd.Qj hIn.out.2 hBA.out) Ht.out) HB_)).mono ?_)
            rintro e w5 ⟨v5, rfl, ho5, hb5⟩
            refine ⟨_, rfl, ?_⟩
            have HB5 := Qe HB_ hb5
            refine hK.out _ _ ⟨(Qa (Qc (Qc (Qc (Qc hbp1.out hBr.out) hBa.out) Ht.out) HB5) 0).trans rfl, (Qa (Qc (Qc (Qc (Qc hbp1.out hBr.out) hBa.out) Ht.out) HB5) 1).trans rfl, (Qa (Qc (Qc hab.out Ht.out) HB5) 3).trans rfl, (Qa (Qc (Qc hab.out Ht.out) HB5) 4).trans rfl, (Qa (Qc (Qc hab.out Ht.out) HB5) 5).trans rfl, (Qa (Qc (Qc hab.out Ht.out) HB5) 6).trans rfl, (Qa (Qc (Qc hab.out Ht.out) HB5) 7).trans rfl, (Qa (Qc (Qc hab.out Ht.out) HB5) 8).trans rfl, (Qa (Qc (Qc hab.out Ht.out) HB5) 9).trans rfl⟩ (fun hHeld => ?_)
            clear hK K
            refine Qq (a' := ?_) ?_ ?_
            rotate_left
            ·show Act.put _ (some 121) _ = _
             simp only [Act.put, sA, sB, sC, Qk, Ql]
             rfl
            refine QQ (i := 5) (N := some 124) (bm 10 255) rfl rfl (by kernel_rfl) (by decide) (fun K hK => ?_)
            refine Kd.Vh Kd.string (w0 := W9) W9.heap.size (by rfl) (.tmp 121) (.tmp 123) 25 9 (.string ⟨#[]⟩) 16 rfl Tryd.underlying25 Ext.infS rfl (by decide) (by omega) v5 (in1) a.f3 _ _ _ (fun _ => True) (fun _ => False) rfl rfl ?aO ?aR (fun _ _ h => h) (fun _ h => h.elim) ?aF ?aB ?aS ?aL ?_
            (case aR => exact Kd.Qj (Kd.Qj g3.out.1 Ht.out) HB5)
            (case aB => exact hb5)
            (case aF => exact (fun _ _ => trivial))
            (case aO => exact ho5)
            (case aS => exact (hb5).size)
            (case aL => have := hl9.out; have := hla.out; rw [← hin1.out, List.length_append]; omega)
            intro v7 w7 ho7 hb7 hg7 hat7
            rw [hin2.out] at ho7
            obtain ⟨A7, c7, hv7⟩ := Kd.Z8 ho7
            subst hv7
            have HB7 := HB_.trans (hb7.mono HB_.size)
            refine hK.out _ _ ⟨(Qa (Qc (Qc (Qc (Qc hbp1.out hBr.out) hBa.out) Ht.out) HB7) 0).trans rfl, (Qa (Qc (Qc (Qc (Qc hbp1.out hBr.out) hBa.out) Ht.out) HB7) 1).trans rfl, (Qa (Qc (Qc hab.out Ht.out) HB7) 3).trans rfl, (Qa (Qc (Qc hab.out Ht.out) HB7) 4).trans rfl, (Qa (Qc (Qc hab.out Ht.out) HB7) 5).trans rfl, (Qa (Qc (Qc hab.out Ht.out) HB7) 6).trans rfl, (Qa (Qc (Qc hab.out Ht.out) HB7) 7).trans rfl, (Qa (Qc (Qc hab.out Ht.out) HB7) 8).trans rfl, (Qa (Qc (Qc hab.out Ht.out) HB7) 9).trans rfl⟩ (fun hHeld => ?_)
            clear hK K
            refine Qq (a' := ?_) ?_ ?_
            rotate_left
            ·show Act.put _ (some 124) _ = _
             simp only [Act.put, sA, sB, sC, Qk, Ql]
             rfl
            refine QQ (i := 8) (N := some 127) (bm 10 511) rfl rfl (by kernel_rfl) (by decide) (fun K hK => ?_)
            refine QI Tryd.func39 (by kernel_rfl) rfl #[.agg #[.slice Ad ds.length nd, .slice Af fs.length nf], .slice A7 in2.length c7, .agg #[.int .i64 a.f4.f0, .string a.f4.f1, .int .i64 a.f4.f2, .slice B7 a.f4.f3.length d7, .slice B8 a.f4.f4.length d8, .slice B9 a.f4.f5.length d9]] (by rfl) rfl rfl (by simp only [List.map_toArray, List.map_cons, List.map_nil]; rfl) ?_
            (with_reducible refine (CX.out w7 (Ht.out.trans (HB7.mono Ht.out.size)) A7 c7 (Kd.Zk ho7).2.2 (Kd.Zk ho7).2.1 (CR.out w7 (Ht.out.trans (HB7.mono Ht.out.size))).1 hn.out.1 (CR.out w7 (Ht.out.trans (HB7.mono Ht.out.size))).2.1 hn.out.2.1 (CR.out w7 (Ht.out.trans (HB7.mono Ht.out.size))).2.2 hn.out.2.2).mono ?_)
            rintro e w11 ⟨v, rfl, hb11⟩
            refine ⟨_, rfl, ?_⟩
            have HB11 := Qe HB7 hb11
            refine hK.out _ _ ⟨(Qa (Qc (Qc (Qc (Qc hbp1.out hBr.out) hBa.out) Ht.out) HB11) 0).trans rfl, (Qa (Qc (Qc (Qc (Qc hbp1.out hBr.out) hBa.out) Ht.out) HB11) 1).trans rfl, (Qa (Qc (Qc hab.out Ht.out) HB11) 3).trans rfl, (Qa (Qc (Qc hab.out Ht.out) HB11) 4).trans rfl, (Qa (Qc (Qc hab.out Ht.out) HB11) 5).trans rfl, (Qa (Qc (Qc hab.out Ht.out) HB11) 6).trans rfl, (Qa (Qc (Qc hab.out Ht.out) HB11) 7).trans rfl, (Qa (Qc (Qc hab.out Ht.out) HB11) 8).trans rfl, (Qa (Qc (Qc hab.out Ht.out) HB11) 9).trans rfl⟩ (fun hHeld => ?_)
            clear hK K
            refine Qq (a' := ?_) ?_ ?_
            rotate_left
            ·show Act.put _ (some 127) _ = _
             simp only [Act.put, sA, sB, sC, Qk, Ql]
             rfl
            refine Q4 (i := 9) (N := some 16) (v := ?_) (a' := ?_) (bm 10 1023) rfl rfl (by kernel_rfl) (fun _ _ _ h => h) (Or.inl ⟨by rfl, ?_⟩) ?_ ?_
            rotate_left
            ·intro w'
             go_simp
             with_reducible rfl
            rotate_left
            ·simp only [Act.put, sA, sB, sC, Qk, Ql]
             rfl
            refine Zx (by kernel_rfl) ?_
            clear hHeld
            have HB3 := Qb.mk (hBA.out.trans ((Ht.out.trans (HB11.mono Ht.out.size)).mono hBA.out.size))
            clear HB_ hb5 HB5 ho5 ho7 hb7 hg7 hat7 HB7 hb11 HB11 CX CR
            go_wp2
            all_goals first | (go_ret; exact ⟨_, rfl, hB1.out.trans (HB3.out.mono hB1.out.size)⟩) | (go_roundg (g - 1); (case measure => omega); (case rel => exact ⟨i + 1, by first | exact hjn | rfl, by omega, by omega, HB3⟩))
           ·go_wp2_with (first | (go_at_call 36; go_loud (with_reducible refine CTW.mono ?_); rintro r wt ⟨rfl, hb3⟩; have Ht := Qb.mk (Qe H9.out hb3); clear hb3 CTW u3))
            go_ret
            exact ⟨_, rfl, hB1.out.trans ((hBA.out.trans (Ht.out.mono hBA.out.size)).mono hB1.out.size)⟩
          ·go_wp2
           go_ret
           exact ⟨_, rfl, hB1.out.trans ((hBA.out.trans (H9.out.mono hBA.out.size)).mono hB1.out.size)⟩
        ·go_wp2
         go_ret
         exact ⟨_, rfl, hB1.out.trans ((hBA.out.trans (H8.out.mono hBA.out.size)).mono hB1.out.size)⟩
      ·have q1 : decide ((i : Int) < (l5.length : Int)) = false := decide_eq_false (by omega)
       have hB := hBr
       clear hBr hi hk hg
       have k5 := (Qa (Qc hbx1.out hB.out) 5).trans rfl
       go_wp2
       go_ret
       exact ⟨_, rfl, hB1.out.trans (hB.out.mono hB1.out.size)⟩
  ·go_wp2_with (first | (go_at_call 36; go_loud (with_reducible refine CTW.mono ?_); rintro r w3 ⟨rfl, hb3⟩; have H3 := Qb.mk (Qe hB.out hb3); clear hb3 CTW k3))
   go_ret
   exact ⟨_, rfl, hB0.out.trans (H3.out.mono hB0.out.size)⟩
end Go.Proofs.YtlgpoigbadajnaaDoor.DepA.Z

