/- gristmillref5.validExpr: it ends, and what it finds right is of a right shape. No other condition than that the texts are of a size that memory has room for. -/
import Derived.Test.YtmoeekidmkhkoaaDoorFreeM
namespace Go.Proofs.YtmoeekidmkhkoaaDoor.FreeA
open Go.RowKit Go.Proofs.YtmoeekidmkhkoaaDoorW.PrintWords Go.Proofs.YtmoeekidmkhkoaaDoorW.PrintLast Go.Proofs.YtmoeekidmkhkoaaDoorW.PrintMore Go.Proofs.YtmoeekidmkhkoaaDoor.PFreeA
set_option linter.unusedVariables false
set_option linter.unusedSimpArgs false
theorem elem40c {W : World} {A : Option Addr} {n : Nat} {l : List S40} (hC : k40.C W A n l) (i : Nat) {x : S40} (hx : l[i]? = some x) : ∃ ad B3 d3 B7 d7 B8 d8 B9 d9, A = some ad ∧ AC W (ad.add (i * 10)) x B3 B7 B8 B9 d3 d7 d8 d9 ∧ Kd.string.C W B3 x.f3.length x.f3 ∧ Kd.string.C W B7 x.f4.f3.length x.f4.f3 ∧ k33.C W B8 x.f4.f4.length x.f4.f4 ∧ k40.C W B9 x.f4.f5.length x.f4.f5 ∧ x.f3.length ≤ d3 ∧ x.f4.f3.length ≤ d7 ∧ x.f4.f4.length ≤ d8 ∧ x.f4.f5.length ≤ d9 := by
  have hi := (List.getElem?_eq_some_iff.1 hx).1
  obtain ⟨ad, B3, d3, B7, d7, B8, d8, B9, d9, e, c0, c1, c2, c3, c4, c5, c6, c7, c8, c9, l3, g3, l7, g7, l8, g8, l9, g9⟩ := at_T40 hC (i : Int) (by omega) (by have := hC.1; omega)
  have hr : rd_T40 l (i : Int) = x := by
    unfold rd_T40
    rw [Int.toNat_natCast, List.getD_eq_getElem?_getD, hx]
    rfl
  rw [hr] at c0 c1 c2 c3 c4 c5 c6 c7 c8 c9 l3 g3 l7 g7 l8 g8 l9 g9
  rw [Int.toNat_natCast] at c0 c1 c2 c3 c4 c5 c6 c7 c8 c9
  exact ⟨ad, B3, d3, B7, d7, B8, d8, B9, d9, e, ⟨c0, c1, c2, c3, c4, c5, c6, c7, c8, c9⟩, g3, g7, g8, g9, l3, l7, l8, l9⟩
theorem name_c (s : ByteArray) (hs : s.size ≤ B47) : ∃ b : Bool, ∀ w, Calls Tryd.prog 19 #[.string s] w fun e w' => e = .returned (.bool b) ∧ Below w.heap.size w w' := by
  obtain ⟨r, hr⟩ := name_tot s (by unfold B47 at hs; omega) (s.size + 101) (by omega)
  exact ⟨r, fun w => gristmillref1_Name.calls _ s r w hr⟩
theorem upper_c (s : ByteArray) (hs : s.size ≤ B47) : ∃ b : Bool, ∀ w, Calls Tryd.prog 47 #[.string s] w fun e w' => e = .returned (.bool b) ∧ Below w.heap.size w w' := by
  obtain ⟨r, hr⟩ := upper_tot s (by unfold B47 at hs; omega) (s.size + 101) (by omega)
  exact ⟨r, fun w => (gristmillref1_Upper.calls _ s r w hr).mono fun e w' h => ⟨h.1, h.2.below⟩⟩
theorem names_c (l : List ByteArray) (hs : small l B47) (hl : l.length ≤ 100000000000) : ∃ v : Int, ∀ (w : World) {A : Option Addr} {c : Nat} (hC : Kd.string.C w A l.length l) (hc : l.length ≤ c), Calls Tryd.prog 48 #[.slice A l.length c] w fun e w' => e = .returned (.int .i64 v) ∧ Below w.heap.size w w' := by
  obtain ⟨r, hr⟩ := namesf_tot l (by omega) B47 (by decide) hs (l.length + B47 + 201) (by omega)
  exact ⟨r, fun w A c hC hc => gristmillref5_names.calls _ A c l r w hC hc hr⟩
def XV (e : S33) : Prop := ∀ (w : World) {A3 A4 A5 : Option Addr} {c3 c4 c5 : Nat}, Kd.C Kd.string w A3 e.f3.length e.f3 → e.f3.length ≤ c3 → Kd.C k33 w A4 e.f4.length e.f4 → e.f4.length ≤ c4 → Kd.C k40 w A5 e.f5.length e.f5 → e.f5.length ≤ c5 →
  Calls Tryd.prog 35 #[.agg #[.int .i64 e.f0, .string e.f1, .int .i64 e.f2, .slice A3 e.f3.length c3, .slice A4 e.f4.length c4, .slice A5 e.f5.length c5]] w fun r w' => ∃ v : Int, r = .returned (.int .i64 v) ∧ (v = 0 → Shp e) ∧ Below w.heap.size w w'
theorem XV.at {e : S33} (h : XV e) (w : World) {A3 A4 A5 : Option Addr} {c3 c4 c5 : Nat} (h3 : Kd.C Kd.string w A3 e.f3.length e.f3) (l3 : e.f3.length ≤ c3) (h4 : Kd.C k33 w A4 e.f4.length e.f4) (l4 : e.f4.length ≤ c4) (h5 : Kd.C k40 w A5 e.f5.length e.f5) (l5 : e.f5.length ≤ c5) :
  Calls Tryd.prog 35 #[.agg #[.int .i64 e.f0, .string e.f1, .int .i64 e.f2, .slice A3 e.f3.length c3, .slice A4 e.f4.length c4, .slice A5 e.f5.length c5]] w fun r w' => ∃ v : Int, r = .returned (.int .i64 v) ∧ (v = 0 → Shp e) ∧ Below w.heap.size w w' := h w h3 l3 h4 l4 h5 l5
set_option maxHeartbeats 16000000 in
set_option maxRecDepth 100000 in
theorem validExpr_step (e : S33) (hwf : WF e) (ih : ∀ x ∈ e.f4, XV x) (iha : ∀ a ∈ e.f5, XV a.f4) : XV e := by
  intro w A3 A4 A5 c3 c4 c5 h3 m3 h4 m4 h5 m5
  obtain ⟨⟨⟨w1, w2, w3, w4⟩, n3, n4, n5⟩, wl, wa⟩ := (wf_iff e).1 hwf
  obtain ⟨bf, hbf⟩ := form_tot e (by omega) (e.f5.length + 301) (by omega)
  have hshape : Aside0 (bf = true → Loc e.f0 e.f3 e.f4) := ⟨fun hb => form_shape e _ (hb ▸ hbf) (by omega) (by omega) (by omega)⟩
  have hfin : Aside0 (bf = true → (∀ x ∈ e.f4, Shp x) → (∀ a ∈ e.f5, Shp a.f4) → Shp e) := ⟨fun hb h1 h2 => (shp_iff e).2 ⟨hshape.out hb, h1, h2⟩⟩
  have CF : ∀ W, Below w.heap.size w W → Calls Tryd.prog 46 #[.agg #[.int .i64 e.f0, .string e.f1, .int .i64 e.f2, .slice A3 e.f3.length c3, .slice A4 e.f4.length c4, .slice A5 e.f5.length c5]] W fun r w' => r = .returned (.bool bf) ∧ Below W.heap.size W w' := fun W hb => gristmillref5_form.calls _ _ _ _ A3 c3 e.f3 A4 c4 e.f4 A5 c5 e.f5 bf W (Kd.C_below h3 hb) m3 (Kd.C_below h4 hb) m4 (Kd.C_below h5 hb) m5 hbf
  clear hbf hwf hshape
  obtain ⟨f0, f1, f2, l3, l4, l5⟩ := e
  dsimp only at *
  have hwn : Aside0 (small l3 B47 ∧ l3.length ≤ 100000000000 ∧ l4.length ≤ 100000000000 ∧ l5.length ≤ 100000000000) := ⟨w4, n3, n4, n5⟩
  have hC3 := Aside0.mk h3
  have hC4 := Aside0.mk h4
  have hC5 := Aside0.mk h5
  have hwl := Aside0.mk wl
  have hwa := Aside0.mk wa
  have hih := Aside0.mk ih
  have hiha := Aside0.mk iha
  have hw1 := Aside0.mk w1
  clear h3 m3 h4 m4 h5 m5 w1 w2 w3 w4 n3 n4 n5 wl wa ih iha
  have E : ∀ W : World, ∀ o : Obj, (W.alloc o).heap.size = W.heap.size + 1 := fun W o => Array.size_push _
  obtain ⟨W0, hW0⟩ : ∃ W0, w.alloc (.cells #[.int .i64 f0, .string f1, .int .i64 f2, .slice A3 l3.length c3, .slice A4 l4.length c4, .slice A5 l5.length c5] 33) = W0 := ⟨_, rfl⟩
  have hB0 : Aside0 (Below w.heap.size w W0) := ⟨by rw [← hW0]; exact below_alloc (Below.refl _ _) _⟩
  have hbx : Aside0 (W0.heap[w.heap.size]? = some (.cells #[.int .i64 f0, .string f1, .int .i64 f2, .slice A3 l3.length c3, .slice A4 l4.length c4, .slice A5 l5.length c5] 33 (0, 0))) := ⟨by rw [← hW0]; exact blk_new w _⟩
  have CF0 := CF W0 hB0.out
  have k0 := (blk_cell hbx.out 0).trans rfl
  have k1 := (blk_cell hbx.out 1).trans rfl
  have k2 := (blk_cell hbx.out 2).trans rfl
  have k3 := (blk_cell hbx.out 3).trans rfl
  have k4 := (blk_cell hbx.out 4).trans rfl
  have k5 := (blk_cell hbx.out 5).trans rfl
  clear CF
  obtain ⟨p1, hp1⟩ : ∃ b, (f0 == 1) = b := ⟨_, rfl⟩
  obtain ⟨p4, hp4⟩ : ∃ b, (f0 == 4) = b := ⟨_, rfl⟩
  cases bf
  · go_enter Tryd.func35, Tryd.ntmps35
    go_wp2_with (first | (go_at_call 46; (try rw [hW0]); go_loud (with_reducible refine CF0.mono ?_); rintro r w2 ⟨rfl, hb2⟩; have HB2 := Aside0.mk (hB0.out.trans (hb2.mono hB0.out.size)); clear hb2 CF0))
    go_ret
    exact ⟨108, rfl, fun h => absurd h (by decide), HB2.out⟩
  · go_enter Tryd.func35, Tryd.ntmps35
    go_upto_region 3 with (first | (go_at_call 46; (try rw [hW0]); go_loud (with_reducible refine CF0.mono ?_); rintro r w2 ⟨rfl, hb2⟩; have HB2 := Aside0.mk hb2; clear hb2 CF0))
    go_cut [34] (fun v34 wc => ∃ b : Bool, v34 = .bool b ∧ Aside0 (Below W0.heap.size W0 wc))
    case first => as_aux_lemma =>
      obtain ⟨bn, CN⟩ := name_c f1 hw1.out
      obtain ⟨bu, CU⟩ := upper_c f1 hw1.out
      have CN := CN w2
      have CU := CU w2
      clear k0 k1 k2 k3 k4 k5
      have k0 := (blk_cell (blk_below hbx.out HB2.out) 0).trans rfl
      have k1 := (blk_cell (blk_below hbx.out HB2.out) 1).trans rfl
      have k2 := (blk_cell (blk_below hbx.out HB2.out) 2).trans rfl
      have k3 := (blk_cell (blk_below hbx.out HB2.out) 3).trans rfl
      have k4 := (blk_cell (blk_below hbx.out HB2.out) 4).trans rfl
      have k5 := (blk_cell (blk_below hbx.out HB2.out) 5).trans rfl
      cases p1
      · cases p4
        · go_wp2
          go_meet
          case rel => exact ⟨false, rfl, HB2⟩
        · go_wp2_with (first | (go_at_call 47; go_loud (with_reducible refine CU.mono ?_); rintro r w3 ⟨rfl, hb3⟩; have HB3 := Aside0.mk (below_step HB2.out hb3); clear hb3 CU))
          go_meet
          case rel => exact ⟨!bu, rfl, HB3⟩
      · cases p4
        · cases bn
          · go_wp2_with (first | (go_at_call 19; go_loud (with_reducible refine CN.mono ?_); rintro r w3 ⟨rfl, hb3⟩; have HB3 := Aside0.mk (below_step HB2.out hb3); clear hb3 CN))
            go_meet
            case rel => exact ⟨true, rfl, HB3⟩
          · go_wp2_with (first | (go_at_call 19; go_loud (with_reducible refine CN.mono ?_); rintro r w3 ⟨rfl, hb3⟩; have HB3 := Aside0.mk (below_step HB2.out hb3); have j0 := (blk_cell (blk_below hbx.out HB3.out) 0).trans rfl; clear hb3 CN k0 k1 k2 k3 k4 k5))
            go_meet
            case rel => exact ⟨false, rfl, HB3⟩
        · have h1 := beq_iff_eq.1 hp1
          have h2 := beq_iff_eq.1 hp4
          omega
    case rest =>
      obtain ⟨b34, rfl, HBc⟩ := hcut
      clear HB2 k0 k1 k2 k3 k4 k5 hp1 hp4 hW0
      rename World => w5
      cases b34
      · go_upto_region 5 with (fail)
        go_cut [3] (fun v3 wc => ∃ b : Bool, v3 = .bool b ∧ Aside0 (Below W0.heap.size W0 wc))
        case first => as_aux_lemma =>
          have k0 := (blk_cell (blk_below hbx.out HBc.out) 0).trans rfl
          have k1 := (blk_cell (blk_below hbx.out HBc.out) 1).trans rfl
          have k2 := (blk_cell (blk_below hbx.out HBc.out) 2).trans rfl
          have k3 := (blk_cell (blk_below hbx.out HBc.out) 3).trans rfl
          have k4 := (blk_cell (blk_below hbx.out HBc.out) 4).trans rfl
          have k5 := (blk_cell (blk_below hbx.out HBc.out) 5).trans rfl
          obtain ⟨z1, hz1⟩ : ∃ b, decide (60 < (l3.length : Int)) = b := ⟨_, rfl⟩
          obtain ⟨z2, hz2⟩ : ∃ b, decide (60 < (l5.length : Int)) = b := ⟨_, rfl⟩
          cases z1 <;> cases z2
          all_goals (go_wp2; go_meet; case rel => exact ⟨_, rfl, HBc⟩)
        case rest =>
          obtain ⟨b3, rfl, HBd⟩ := hcut
          clear HBc
          go_wp2
          go_loopg [4] (l3.length + 1) (fun kq v4 w' => ∃ i : Nat, v4 = .int .i64 (i : Int) ∧ i + kq = l3.length + 1 ∧ 1 ≤ kq ∧ Aside0 (Below W0.heap.size W0 w'))
          case atStart => exact ⟨0, rfl, by omega, by omega, HBd⟩
          case round =>
            clear HBd
            obtain ⟨i, rfl, hi, hk, hBr⟩ := hrel
            have k0 := (blk_cell (blk_below hbx.out hBr.out) 0).trans rfl
            have k1 := (blk_cell (blk_below hbx.out hBr.out) 1).trans rfl
            have k2 := (blk_cell (blk_below hbx.out hBr.out) 2).trans rfl
            have k3 := (blk_cell (blk_below hbx.out hBr.out) 3).trans rfl
            have k4 := (blk_cell (blk_below hbx.out hBr.out) 4).trans rfl
            have k5 := (blk_cell (blk_below hbx.out hBr.out) 5).trans rfl
            by_cases hlt : i < l3.length
            · obtain ⟨ad, rfl, hv⟩ := at_str (Kd.C_below (Kd.C_below hC3.out hB0.out) hBr.out) i hlt hlt
              obtain ⟨bn, CN⟩ := name_c l3[i] (hwn.out.1 _ (List.getElem_mem hlt))
              have CN := CN wr
              generalize l3[i] = s at *
              have p0 : (0 : Int) ≤ (i : Int) := by omega
              have p1 : (i : Int) < (l3.length : Int) := by omega
              have q1 : decide ((i : Int) < (l3.length : Int)) = true := decide_eq_true p1
              have hjn : Value.int .i64 (wrap64 ((i : Int) + 1)) = .int .i64 ((i + 1 : Nat) : Int) := by rw [wr1 i (by have := hwn.out; omega)]
              have hi7 : i + 1 + (gk - 1) = l3.length + 1 ∧ 1 ≤ gk - 1 ∧ gk - 1 < gk := by omega
              cases bn
              · go_wp2_with (first | (go_at_call 19; go_loud (with_reducible refine CN.mono ?_); rintro r w3 ⟨rfl, hb3⟩; have HB3 := Aside0.mk (below_step hBr.out hb3); clear hb3 CN))
                go_ret
                exact ⟨109, rfl, fun h => absurd h (by decide), (hB0.out.trans (HB3.out.mono hB0.out.size))⟩
              · go_wp2_with (first | (go_at_call 19; go_loud (with_reducible refine CN.mono ?_); rintro r w3 ⟨rfl, hb3⟩; have HB3 := Aside0.mk (below_step hBr.out hb3); clear hb3 CN))
                go_roundg (gk - 1)
                case measure => exact hi7.2.2
                case rel => exact ⟨i + 1, by first | exact hjn | rfl, hi7.1, hi7.2.1, HB3⟩
            · have q1 : decide ((i : Int) < (l3.length : Int)) = false := decide_eq_false (by omega)
              clear hi hk
              have HBd := hBr
              clear hBr
              go_wp2
              go_loopg [3, 5] (l5.length + 1) (fun kq v3 v5 w' => ∃ (b : Bool) (i : Nat), v3 = .bool b ∧ v5 = .int .i64 (i : Int) ∧ i + kq = l5.length + 1 ∧ 1 ≤ kq ∧ Aside0 (Below W0.heap.size W0 w'))
              case atStart => exact ⟨b3, 0, rfl, rfl, by omega, by omega, HBd⟩
              case round =>
                clear HBd k0 k1 k2 k3 k4 k5 q1
                obtain ⟨bm, i, rfl, rfl, hi, hk, hBr⟩ := hrel
                have k0 := (blk_cell (blk_below hbx.out hBr.out) 0).trans rfl
                have k1 := (blk_cell (blk_below hbx.out hBr.out) 1).trans rfl
                have k2 := (blk_cell (blk_below hbx.out hBr.out) 2).trans rfl
                have k3 := (blk_cell (blk_below hbx.out hBr.out) 3).trans rfl
                have k4 := (blk_cell (blk_below hbx.out hBr.out) 4).trans rfl
                have k5 := (blk_cell (blk_below hbx.out hBr.out) 5).trans rfl
                by_cases hlt : i < l5.length
                · have hxi : l5[i]? = some l5[i] := List.getElem?_eq_getElem hlt
                  have ha := hwa.out _ (List.getElem_mem hlt)
                  generalize l5[i] = a at hxi ha
                  obtain ⟨ad, B3, d3, B7, d7, B8, d8, B9, d9, rfl, ⟨e0, e1, e2, e3, e4, e5, e6, e7, e8, e9⟩, g3, g7, g8, g9, m3, _, _, _⟩ := elem40c (Kd.C_below (Kd.C_below hC5.out hB0.out) hBr.out) i hxi
                  obtain ⟨bu, CU⟩ := upper_c a.f1 ha.1.1
                  obtain ⟨v, CV⟩ := names_c a.f3 ha.1.2.2.2 ha.2.1
                  have hC := Aside0.mk g3
                  have hm := Aside0.mk m3
                  clear g3 g7 g8 g9 m3 ha
                  obtain ⟨pa, hpa⟩ : ∃ b, (a.f0 == 1) = b := ⟨_, rfl⟩
                  obtain ⟨y1, hy1⟩ : ∃ b, (v == 109) = b := ⟨_, rfl⟩
                  obtain ⟨y2, hy2⟩ : ∃ b, (v != 0) = b := ⟨_, rfl⟩
                  have hv9 : Aside0 (y1 = true → v ≠ 0) := ⟨fun h e => by rw [h, e] at hy1; exact absurd hy1 (by decide)⟩
                  have p0 : (0 : Int) ≤ (i : Int) := by omega
                  have p1 : (i : Int) < (l5.length : Int) := by omega
                  have q1 : decide ((i : Int) < (l5.length : Int)) = true := decide_eq_true p1
                  have hjn : Value.int .i64 (wrap64 ((i : Int) + 1)) = .int .i64 ((i + 1 : Nat) : Int) := by rw [wr1 i (by have := hwn.out; omega)]
                  have hi7 : i + 1 + (gk - 1) = l5.length + 1 ∧ 1 ≤ gk - 1 ∧ gk - 1 < gk := by omega
                  obtain ⟨Wa, hWa⟩ : ∃ Wa, wr.alloc (.cells #[.int .i64 a.f0, .string a.f1, .int .i64 a.f2, .slice B3 a.f3.length d3, .int .i64 a.f4.f0, .string a.f4.f1, .int .i64 a.f4.f2, .slice B7 a.f4.f3.length d7, .slice B8 a.f4.f4.length d8, .slice B9 a.f4.f5.length d9] 40) = Wa := ⟨_, rfl⟩
                  have hBa : Aside0 (Below wr.heap.size wr Wa) := ⟨by rw [← hWa]; exact below_alloc (Below.refl _ _) _⟩
                  have hab : Aside0 (Wa.heap[wr.heap.size]? = some (.cells #[.int .i64 a.f0, .string a.f1, .int .i64 a.f2, .slice B3 a.f3.length d3, .int .i64 a.f4.f0, .string a.f4.f1, .int .i64 a.f4.f2, .slice B7 a.f4.f3.length d7, .slice B8 a.f4.f4.length d8, .slice B9 a.f4.f5.length d9] 40 (0, 0))) := ⟨by rw [← hWa]; exact blk_new wr _⟩
                  have u0 := (blk_cell hab.out 0).trans rfl
                  have u1 := (blk_cell hab.out 1).trans rfl
                  have u3 := (blk_cell hab.out 3).trans rfl
                  cases pa
                  · cases y1 <;> cases y2 <;> cases bm
                    all_goals go_wp2_with (first | (go_at_call 48; go_loud (with_reducible refine (CV Wa (Kd.C_below hC.out hBa.out) hm.out).mono ?_); rintro r w4 ⟨rfl, hb4⟩; have HB4 := Aside0.mk (below_step (below_step hBr.out hBa.out) hb4); clear hb4))
                    all_goals (first | (go_ret; exact ⟨_, rfl, fun h => absurd h (hv9.out (by first | rfl | trivial)), (hB0.out.trans (HB4.out.mono hB0.out.size))⟩) | (go_roundg (gk - 1); (case measure => exact hi7.2.2); (case rel => exact ⟨_, i + 1, rfl, by first | exact hjn | rfl, hi7.1, hi7.2.1, HB4⟩)))
                  · cases bu
                    · go_wp2_with (first | (go_at_call 47; go_loud (with_reducible refine (CU Wa).mono ?_); rintro r w3 ⟨rfl, hb3⟩; have HB3 := Aside0.mk hb3; have u3 := (blk_cell (blk_below hab.out hb3) 3).trans rfl; clear hb3 u0 u1))
                      go_ret
                      exact ⟨109, rfl, fun h => absurd h (by decide), (hB0.out.trans ((below_step (below_step hBr.out hBa.out) HB3.out).mono hB0.out.size))⟩
                    · cases y1 <;> cases y2 <;> cases bm
                      all_goals go_wp2_with (first | (go_at_call 47; go_loud (with_reducible refine (CU Wa).mono ?_); rintro r w3 ⟨rfl, hb3⟩; have HB3 := Aside0.mk hb3; have u3 := (blk_cell (blk_below hab.out hb3) 3).trans rfl; clear hb3 u0 u1) | (go_at_call 48; go_loud (with_reducible refine (CV w3 (Kd.C_below (Kd.C_below hC.out hBa.out) HB3.out) hm.out).mono ?_); rintro r w4 ⟨rfl, hb4⟩; have HB4 := Aside0.mk (below_step (below_step (below_step hBr.out hBa.out) HB3.out) hb4); clear hb4))
                      all_goals (first | (go_ret; exact ⟨_, rfl, fun h => absurd h (hv9.out (by first | rfl | trivial)), (hB0.out.trans (HB4.out.mono hB0.out.size))⟩) | (go_roundg (gk - 1); (case measure => exact hi7.2.2); (case rel => exact ⟨_, i + 1, rfl, by first | exact hjn | rfl, hi7.1, hi7.2.1, HB4⟩)))
                · have q1 : decide ((i : Int) < (l5.length : Int)) = false := decide_eq_false (by omega)
                  clear hi hk
                  have HBd := hBr
                  clear hBr
                  cases bm
                  · go_wp2
                    go_loopg [8] (l4.length + 1) (fun kq v8 w' => ∃ (i : Nat), v8 = .int .i64 (i : Int) ∧ i + kq = l4.length + 1 ∧ 1 ≤ kq ∧ Aside0 (Below W0.heap.size W0 w') ∧ Aside0 (∀ (j : Nat) (x : S33), j < i → l4[j]? = some x → Shp x))
                    case atStart => exact ⟨0, rfl, by omega, by omega, HBd, ⟨fun j x hj _ => by omega⟩⟩
                    case round =>
                      clear HBd k0 k1 k2 k3 k4 k5 q1
                      obtain ⟨i, rfl, hi, hk, hBr, hsh⟩ := hrel
                      have k0 := (blk_cell (blk_below hbx.out hBr.out) 0).trans rfl
                      have k1 := (blk_cell (blk_below hbx.out hBr.out) 1).trans rfl
                      have k2 := (blk_cell (blk_below hbx.out hBr.out) 2).trans rfl
                      have k3 := (blk_cell (blk_below hbx.out hBr.out) 3).trans rfl
                      have k4 := (blk_cell (blk_below hbx.out hBr.out) 4).trans rfl
                      have k5 := (blk_cell (blk_below hbx.out hBr.out) 5).trans rfl
                      by_cases hlt : i < l4.length
                      · have hxi : l4[i]? = some l4[i] := List.getElem?_eq_getElem hlt
                        have hx := hih.out _ (List.getElem_mem hlt)
                        generalize l4[i] = x at hxi hx
                        obtain ⟨ad, B3, d3, B4, d4, B5, d5, rfl, ⟨e0, e1, e2, e3, e4, e5⟩, g3, g4, g5, m3, m4, m5⟩ := elem33 (Kd.C_below (Kd.C_below hC4.out hB0.out) hBr.out) i hxi
                        have CX := hx.at wr g3 m3 g4 m4 g5 m5
                        have hnx : Aside0 (Shp x → ∀ (j : Nat) (z : S33), j < i + 1 → l4[j]? = some z → Shp z) := ⟨fun hs j z hj hz => by by_cases hji : j < i; exact hsh.out j z hji hz; obtain rfl : j = i := (by omega); rw [hxi] at hz; obtain rfl := Option.some.inj hz; exact hs⟩
                        clear g3 g4 g5 m3 m4 m5 hx hxi
                        have p0 : (0 : Int) ≤ (i : Int) := by omega
                        have p1 : (i : Int) < (l4.length : Int) := by omega
                        have q1 : decide ((i : Int) < (l4.length : Int)) = true := decide_eq_true p1
                        have hjn : Value.int .i64 (wrap64 ((i : Int) + 1)) = .int .i64 ((i + 1 : Nat) : Int) := by rw [wr1 i (by have := hwn.out; omega)]
                        have hi7 : i + 1 + (gk - 1) = l4.length + 1 ∧ 1 ≤ gk - 1 ∧ gk - 1 < gk := by omega
                        go_wp2_with (first | (go_at_call 35; go_loud (with_reducible refine CX.mono ?_); rintro r w3 ⟨v, rfl, hsv, hb3⟩; have HB3 := Aside0.mk (below_step hBr.out hb3); have hsv := Aside0.mk hsv; clear hb3 CX))
                        all_goals first | (go_ret; exact ⟨_, rfl, fun h => absurd ‹(v != 0) = true› (by rw [h]; decide), (hB0.out.trans (HB3.out.mono hB0.out.size))⟩) | (go_roundg (gk - 1); (case measure => exact hi7.2.2); (case rel => exact ⟨i + 1, by first | exact hjn | rfl, hi7.1, hi7.2.1, HB3, ⟨hnx.out (hsv.out (bne_eq_false_iff_eq.1 ‹(v != 0) = false›))⟩⟩))
                      · have q1 : decide ((i : Int) < (l4.length : Int)) = false := decide_eq_false (by omega)
                        have hsl : Aside0 (∀ x ∈ l4, Shp x) := ⟨fun x hx => by obtain ⟨j, hj, rfl⟩ := List.getElem_of_mem hx; exact hsh.out j _ (by omega) (List.getElem?_eq_getElem hj)⟩
                        clear hi hk hsh
                        have HBd := hBr
                        clear hBr
                        go_wp2
                        go_loopg [10] (l5.length + 1) (fun kq v10 w' => ∃ (i : Nat), v10 = .int .i64 (i : Int) ∧ i + kq = l5.length + 1 ∧ 1 ≤ kq ∧ Aside0 (Below W0.heap.size W0 w') ∧ Aside0 (∀ (j : Nat) (x : S40), j < i → l5[j]? = some x → Shp x.f4))
                        case atStart => exact ⟨0, rfl, by omega, by omega, HBd, ⟨fun j x hj _ => by omega⟩⟩
                        case round =>
                          clear HBd k0 k1 k2 k3 k4 k5 q1
                          obtain ⟨i, rfl, hi, hk, hBr, hsh⟩ := hrel
                          have k0 := (blk_cell (blk_below hbx.out hBr.out) 0).trans rfl
                          have k1 := (blk_cell (blk_below hbx.out hBr.out) 1).trans rfl
                          have k2 := (blk_cell (blk_below hbx.out hBr.out) 2).trans rfl
                          have k3 := (blk_cell (blk_below hbx.out hBr.out) 3).trans rfl
                          have k4 := (blk_cell (blk_below hbx.out hBr.out) 4).trans rfl
                          have k5 := (blk_cell (blk_below hbx.out hBr.out) 5).trans rfl
                          by_cases hlt : i < l5.length
                          · have hxi : l5[i]? = some l5[i] := List.getElem?_eq_getElem hlt
                            have hx := hiha.out _ (List.getElem_mem hlt)
                            generalize l5[i] = a at hxi hx
                            obtain ⟨ad, B3, d3, B7, d7, B8, d8, B9, d9, rfl, ⟨e0, e1, e2, e3, e4, e5, e6, e7, e8, e9⟩, g3, g7, g8, g9, _, m7, m8, m9⟩ := elem40c (Kd.C_below (Kd.C_below hC5.out hB0.out) hBr.out) i hxi
                            have CX := hx.at wr g7 m7 g8 m8 g9 m9
                            have hnx : Aside0 (Shp a.f4 → ∀ (j : Nat) (z : S40), j < i + 1 → l5[j]? = some z → Shp z.f4) := ⟨fun hs j z hj hz => by by_cases hji : j < i; exact hsh.out j z hji hz; obtain rfl : j = i := (by omega); rw [hxi] at hz; obtain rfl := Option.some.inj hz; exact hs⟩
                            clear g3 g7 g8 g9 m7 m8 m9 hx hxi
                            have p0 : (0 : Int) ≤ (i : Int) := by omega
                            have p1 : (i : Int) < (l5.length : Int) := by omega
                            have q1 : decide ((i : Int) < (l5.length : Int)) = true := decide_eq_true p1
                            have hjn : Value.int .i64 (wrap64 ((i : Int) + 1)) = .int .i64 ((i + 1 : Nat) : Int) := by rw [wr1 i (by have := hwn.out; omega)]
                            have hi7 : i + 1 + (gk - 1) = l5.length + 1 ∧ 1 ≤ gk - 1 ∧ gk - 1 < gk := by omega
                            go_wp2_with (first | (go_at_call 35; go_loud (with_reducible refine CX.mono ?_); rintro r w3 ⟨v, rfl, hsv, hb3⟩; have HB3 := Aside0.mk (below_step hBr.out hb3); have hsv := Aside0.mk hsv; clear hb3 CX))
                            all_goals first | (go_ret; exact ⟨_, rfl, fun h => absurd ‹(v != 0) = true› (by rw [h]; decide), (hB0.out.trans (HB3.out.mono hB0.out.size))⟩) | (go_roundg (gk - 1); (case measure => exact hi7.2.2); (case rel => exact ⟨i + 1, by first | exact hjn | rfl, hi7.1, hi7.2.1, HB3, ⟨hnx.out (hsv.out (bne_eq_false_iff_eq.1 ‹(v != 0) = false›))⟩⟩))
                          · have q1 : decide ((i : Int) < (l5.length : Int)) = false := decide_eq_false (by omega)
                            have hsa : Aside0 (∀ x ∈ l5, Shp x.f4) := ⟨fun x hx => by obtain ⟨j, hj, rfl⟩ := List.getElem_of_mem hx; exact hsh.out j _ (by omega) (List.getElem?_eq_getElem hj)⟩
                            go_wp2
                            go_ret
                            exact ⟨0, rfl, fun _ => hfin.out (by first | rfl | trivial) hsl.out hsa.out, (hB0.out.trans (hBr.out.mono hB0.out.size))⟩
                  · go_wp2
                    go_ret
                    exact ⟨104, rfl, fun h => absurd h (by decide), (hB0.out.trans (HBd.out.mono hB0.out.size))⟩
      · go_wp2
        go_ret
        exact ⟨109, rfl, fun h => absurd h (by decide), (hB0.out.trans (HBc.out.mono hB0.out.size))⟩
end Go.Proofs.YtmoeekidmkhkoaaDoor.FreeA

