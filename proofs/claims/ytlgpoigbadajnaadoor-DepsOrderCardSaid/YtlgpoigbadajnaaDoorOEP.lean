/- Texts of the walks put together: DepAP, DepAQ, DepAR, DepAS, DepAT. Conditions: as each states. -/
import Derived.Test.YtlgpoigbadajnaaDoorODZ
namespace Go.Proofs.YtlgpoigbadajnaaDoor.DepA.Z
open Go.RowKit Go.Proofs.YtlgpoigbadajnaaDoorW.PrintWords Go.Proofs.YtlgpoigbadajnaaDoorW.PrintLast Go.Proofs.YtlgpoigbadajnaaDoorW.PrintMore Go.Proofs.YtlgpoigbadajnaaDoor.PDepA
set_option linter.unusedVariables false
set_option linter.unusedSimpArgs false
def AnyI (w : World) (e : Ending) (w' : World) : Prop := ∃ v : Int, e = .returned (.int .i64 v) ∧ Below w.heap.size w w'
def TS (t : S67) : Prop := ∀ (w : World) {A : Option Addr} {c : Nat}, k67.C w A t.f1.length t.f1 → t.f1.length ≤ c → Calls Tryd.prog 63 #[.agg #[.string t.f0, .slice A t.f1.length c]] w (AnyI w)
set_option maxHeartbeats 16000000 in
set_option maxRecDepth 100000 in
theorem ts_step (t : S67) (hl : t.f1.length ≤ BL) (ih : ∀ x ∈ t.f1, TS x) : TS t := by
 intro w A1 c1 hC hc
 obtain ⟨nm, l⟩ := t
 dsimp only at *
 unfold BL at hl
 have hl9 := Qb.mk hl
 have hih := Qb.mk ih
 have hC1 := Qb.mk hC
 clear hC hc hl ih
 obtain ⟨W0, hW0⟩ : ∃ W0, w.alloc (.cells #[.string nm, .slice A1 l.length c1] 67) = W0 := ⟨_, rfl⟩
 have hB0 : Qb (Below w.heap.size w W0) := ⟨by rw [← hW0]; exact Qd (Below.refl _ _) _⟩
 have hbx : Qb (W0.heap[w.heap.size]? = some (.cells #[.string nm, .slice A1 l.length c1] 67 (0, 0))) := ⟨by rw [← hW0]; exact Qv w _⟩
 have hB : Qb (Below W0.heap.size W0 W0) := ⟨Below.refl _ _⟩
 go_enter Tryd.func63, Tryd.ntmps63
 go_wp2
 (try rw [hW0])
 clear hW0
 go_loopg [3, 4] (l.length + 1) (fun kq v3 v4 w' => ∃ (x3 : Int) (i : Nat), v3 = .int .i64 x3 ∧ v4 = .int .i64 (i : Int) ∧ i + kq = l.length + 1 ∧ 1 ≤ kq ∧ Qb (Below W0.heap.size W0 w'))
 case atStart => exact ⟨_, 0, rfl, rfl, by omega, by omega, hB⟩
 case round =>
  clear hB
  obtain ⟨x3, i, rfl, rfl, hi, hk, hBr⟩ := hrel
  obtain ⟨g, hg⟩ : ∃ g, g = gk := ⟨_, rfl⟩
  by_cases hlt : i < l.length
  ·have k1 := (Qa (Qc hbx.out hBr.out) 1).trans rfl
   have hxi : l[i]? = some l[i] := List.getElem?_eq_getElem hlt
   have hx := hih.out _ (List.getElem_mem hlt)
   generalize l[i] = x at hxi hx
   obtain ⟨ad, B1, d1, rfl, he, hd, hCx⟩ := elemT (Kd.Qj (Kd.Qj hC1.out hB0.out) hBr.out) i hxi
   have he0 := he.1
   have he1 := he.2
   have CX := hx wr hCx hd
   clear hx hxi he
   have p0 : (0 : Int) ≤ (i : Int) := by omega
   have p1 : (i : Int) < (l.length : Int) := by omega
   have q1 : decide ((i : Int) < (l.length : Int)) = true := decide_eq_true p1
   have hjn : Value.int .i64 (wrap64 ((i : Int) + 1)) = .int .i64 ((i + 1 : Nat) : Int) := by rw [wr1 i (by have := hl9.out; omega)]
   go_wp2_with (first | (go_at_call 63; go_loud (with_reducible refine CX.mono ?_); rintro r w3 ⟨v, rfl, hb3⟩; have HB3 := Qb.mk (Qe hBr.out hb3); clear hb3 CX))
   go_roundg (g - 1)
   case measure => omega
   case rel => exact ⟨_, i + 1, rfl, by first | exact hjn | rfl, by omega, by omega, HB3⟩
  ·have q1 : decide ((i : Int) < (l.length : Int)) = false := decide_eq_false (by omega)
   have hB := hBr
   clear hBr hi hk hg
   have k1 := (Qa (Qc hbx.out hB.out) 1).trans rfl
   go_wp2
   go_ret
   exact ⟨_, rfl, hB0.out.trans (hB.out.mono hB0.out.size)⟩
theorem ts_all : ∀ (m : Nat) (t : S67), Zo t ≤ m → RT t → TS t
 | 0, t, h, _ => by cases t; simp only [Zo] at h; omega
 | m + 1, t, h, hr => by
  have h1 := (rt_iff t).1 hr
  exact ts_step t h1.2.1 (fun x hx => ts_all m x (by have := tcost_mem hx; cases t; simp only [Zo] at *; omega) (h1.2.2 x hx))
def XS (e : S29) : Prop := ∀ (w : World) {A3 A4 A5 : Option Addr} {c3 c4 c5 : Nat}, Kd.C Kd.string w A3 e.f3.length e.f3 → e.f3.length ≤ c3 → Kd.C k29 w A4 e.f4.length e.f4 → e.f4.length ≤ c4 → Kd.C k88 w A5 e.f5.length e.f5 → e.f5.length ≤ c5 →
 Calls Tryd.prog 64 #[.agg #[.int .i64 e.f0, .string e.f1, .int .i64 e.f2, .slice A3 e.f3.length c3, .slice A4 e.f4.length c4, .slice A5 e.f5.length c5]] w (AnyI w)
set_option maxHeartbeats 16000000 in
set_option maxRecDepth 100000 in
theorem xs_step (e : S29) (hl4 : e.f4.length ≤ BL) (hl5 : e.f5.length ≤ BL) (ih : ∀ x ∈ e.f4, XS x) (iha : ∀ a ∈ e.f5, XS a.f4) : XS e := by
 intro w A3 A4 A5 c3 c4 c5 h3 m3 h4 m4 h5 m5
 obtain ⟨f0, f1, f2, l3, l4, l5⟩ := e
 dsimp only at *
 unfold BL at hl4 hl5
 have hl9 := Qb.mk (And.intro hl4 hl5)
 have hih := Qb.mk ih
 have hiha := Qb.mk iha
 have hC4 := Qb.mk h4
 have hC5 := Qb.mk h5
 clear h3 m3 h4 m4 h5 m5 hl4 hl5 ih iha
 obtain ⟨W0, hW0⟩ : ∃ W0, w.alloc (.cells #[.int .i64 f0, .string f1, .int .i64 f2, .slice A3 l3.length c3, .slice A4 l4.length c4, .slice A5 l5.length c5] 29) = W0 := ⟨_, rfl⟩
 have hB0 : Qb (Below w.heap.size w W0) := ⟨by rw [← hW0]; exact Qd (Below.refl _ _) _⟩
 have hbx : Qb (W0.heap[w.heap.size]? = some (.cells #[.int .i64 f0, .string f1, .int .i64 f2, .slice A3 l3.length c3, .slice A4 l4.length c4, .slice A5 l5.length c5] 29 (0, 0))) := ⟨by rw [← hW0]; exact Qv w _⟩
 have hB : Qb (Below W0.heap.size W0 W0) := ⟨Below.refl _ _⟩
 go_enter Tryd.func64, Tryd.ntmps64
 go_wp2
 (try rw [hW0])
 clear hW0
 go_loopg [3, 4] (l4.length + 1) (fun kq v3 v4 w' => ∃ (x3 : Int) (i : Nat), v3 = .int .i64 x3 ∧ v4 = .int .i64 (i : Int) ∧ i + kq = l4.length + 1 ∧ 1 ≤ kq ∧ Qb (Below W0.heap.size W0 w'))
 case atStart => exact ⟨_, 0, rfl, rfl, by omega, by omega, hB⟩
 case round =>
  clear hB
  obtain ⟨x3, i, rfl, rfl, hi, hk, hBr⟩ := hrel
  obtain ⟨g, hg⟩ : ∃ g, g = gk := ⟨_, rfl⟩
  by_cases hlt : i < l4.length
  ·have k4 := (Qa (Qc hbx.out hBr.out) 4).trans rfl
   have k5 := (Qa (Qc hbx.out hBr.out) 5).trans rfl
   have hxi : l4[i]? = some l4[i] := List.getElem?_eq_getElem hlt
   have hx := hih.out _ (List.getElem_mem hlt)
   generalize l4[i] = x at hxi hx
   obtain ⟨ad, B3, d3, B4, d4, B5, d5, rfl, ⟨e0, e1, e2, e3, e4, e5⟩, g3, g4, g5, m3, m4, m5⟩ := elem33 (Kd.Qj (Kd.Qj hC4.out hB0.out) hBr.out) i hxi
   have CX := hx wr g3 m3 g4 m4 g5 m5
   clear g3 g4 g5 m3 m4 m5 hx hxi
   have p0 : (0 : Int) ≤ (i : Int) := by omega
   have p1 : (i : Int) < (l4.length : Int) := by omega
   have q1 : decide ((i : Int) < (l4.length : Int)) = true := decide_eq_true p1
   have hjn : Value.int .i64 (wrap64 ((i : Int) + 1)) = .int .i64 ((i + 1 : Nat) : Int) := by rw [wr1 i (by have := hl9.out; omega)]
   go_wp2_with (first | (go_at_call 64; go_loud (with_reducible refine CX.mono ?_); rintro r w3 ⟨v, rfl, hb3⟩; have HB3 := Qb.mk (Qe hBr.out hb3); clear hb3 CX))
   go_roundg (g - 1)
   case measure => omega
   case rel => exact ⟨_, i + 1, rfl, by first | exact hjn | rfl, by omega, by omega, HB3⟩
  ·have q1 : decide ((i : Int) < (l4.length : Int)) = false := decide_eq_false (by omega)
   have hB := hBr
   clear hBr hi hk hg
   have k4 := (Qa (Qc hbx.out hB.out) 4).trans rfl
   have k5 := (Qa (Qc hbx.out hB.out) 5).trans rfl
   go_wp2
   go_loopg [3, 5] (l5.length + 1) (fun kq v3 v5 w' => ∃ (x3 : Int) (i : Nat), v3 = .int .i64 x3 ∧ v5 = .int .i64 (i : Int) ∧ i + kq = l5.length + 1 ∧ 1 ≤ kq ∧ Qb (Below W0.heap.size W0 w'))
   case atStart => exact ⟨_, 0, rfl, rfl, by omega, by omega, hB⟩
   case round =>
    clear hB
    obtain ⟨x3, i, rfl, rfl, hi, hk, hBr⟩ := hrel
    obtain ⟨g, hg⟩ : ∃ g, g = gk := ⟨_, rfl⟩
    by_cases hlt : i < l5.length
    ·have k4 := (Qa (Qc hbx.out hBr.out) 4).trans rfl
     have k5 := (Qa (Qc hbx.out hBr.out) 5).trans rfl
     have hxi : l5[i]? = some l5[i] := List.getElem?_eq_getElem hlt
     have hx := hiha.out _ (List.getElem_mem hlt)
     generalize l5[i] = a at hxi hx
     obtain ⟨ad, B3, d3, B7, d7, B8, d8, B9, d9, rfl, ⟨e0, e1, e2, e3, e4, e5, e6, e7, e8, e9⟩, g3, g7, g8, g9, m3, m7, m8, m9⟩ := elem40c (Kd.Qj (Kd.Qj hC5.out hB0.out) hBr.out) i hxi
     have CX := hx wr g7 m7 g8 m8 g9 m9
     clear g3 g7 g8 g9 m3 m7 m8 m9 hx hxi
     have p0 : (0 : Int) ≤ (i : Int) := by omega
     have p1 : (i : Int) < (l5.length : Int) := by omega
     have q1 : decide ((i : Int) < (l5.length : Int)) = true := decide_eq_true p1
     have hjn : Value.int .i64 (wrap64 ((i : Int) + 1)) = .int .i64 ((i + 1 : Nat) : Int) := by rw [wr1 i (by have := hl9.out; omega)]
     go_wp2_with (first | (go_at_call 64; go_loud (with_reducible refine CX.mono ?_); rintro r w3 ⟨v, rfl, hb3⟩; have HB3 := Qb.mk (Qe hBr.out hb3); clear hb3 CX))
     go_roundg (g - 1)
     case measure => omega
     case rel => exact ⟨_, i + 1, rfl, by first | exact hjn | rfl, by omega, by omega, HB3⟩
    ·have q1 : decide ((i : Int) < (l5.length : Int)) = false := decide_eq_false (by omega)
     have hB := hBr
     clear hBr hi hk hg
     have k4 := (Qa (Qc hbx.out hB.out) 4).trans rfl
     have k5 := (Qa (Qc hbx.out hB.out) 5).trans rfl
     go_wp2
     go_ret
     exact ⟨_, rfl, hB0.out.trans (hB.out.mono hB0.out.size)⟩
theorem xs_all : ∀ (m : Nat) (e : S29), cost e ≤ m → DepA.RW e → XS e
 | 0, e, hc, _ => by have := cost_eq e; omega
 | m + 1, e, hc, hw => by
  obtain ⟨⟨_, n3, n4, n5⟩, wl, wa⟩ := (rw_iff e).1 hw
  exact xs_step e n4 n5 (fun x hx => xs_all m x (by have := cost_mem hx; omega) (wl x hx)) (fun a ha => xs_all m a.f4 (by have := cost_memA ha; omega) (wa a ha).2.2)
def DC (W : World) (p : Addr) (x : S56) (A1 A2 : Option Addr) (c1 c2 : Nat) : Prop := W.cell? p = some (.string x.f0) ∧ W.cell? ⟨p.block, p.off + 1, none⟩ = some (.slice A1 x.f1.length c1) ∧ W.cell? ⟨p.block, p.off + 2, none⟩ = some (.slice A2 x.f2.length c2)
theorem DC.below {W W1 : World} {p : Addr} {x : S56} {A1 A2 : Option Addr} {c1 c2 : Nat} (h : DC W p x A1 A2 c1 c2) (hb : Below W.heap.size W W1) : DC W1 p x A1 A2 c1 c2 :=
 ⟨(hb.cell (World.block_lt_of_cell? _ _ h.1)).trans h.1, (hb.cell (World.block_lt_of_cell? _ _ h.2.1)).trans h.2.1, (hb.cell (World.block_lt_of_cell? _ _ h.2.2)).trans h.2.2⟩
theorem elemD {W : World} {A : Option Addr} {n : Nat} {l : List S56} (hC : k56.C W A n l) (i : Nat) {x : S56} (hx : l[i]? = some x) : ∃ ad A1 c1 A2 c2, A = some ad ∧ DC W (ad.add (i * 3)) x A1 A2 c1 c2 ∧ x.f1.length ≤ c1 ∧ Kd.string.C W A1 x.f1.length x.f1 ∧ x.f2.length ≤ c2 ∧ k65.C W A2 x.f2.length x.f2 := by
 have hi := (List.getElem?_eq_some_iff.1 hx).1
 obtain ⟨ad, A1, c1, A2, c2, e, h0, h1, h2, l1, g1, l2, g2⟩ := at_T56 hC (i : Int) (by omega) (by have := hC.1; omega)
 have hr : Za l (i : Int) = x := by
  unfold Za
  rw [Int.toNat_natCast, List.getD_eq_getElem?_getD, hx]
  rfl
 rw [hr] at h0 h1 h2 l1 g1 l2 g2
 rw [Int.toNat_natCast] at h0 h1 h2
 exact ⟨ad, A1, c1, A2, c2, e, ⟨h0, h1, h2⟩, l1, g1, l2, g2⟩
def FC (W : World) (p : Addr) (x : S34) (A1 A5 A6 A7 : Option Addr) (c1 c5 c6 c7 : Nat) : Prop := W.cell? p = some (.string x.f0) ∧ W.cell? ⟨p.block, p.off + 1, none⟩ = some (.slice A1 x.f1.length c1) ∧ W.cell? ⟨p.block, p.off + 2, none⟩ = some (.int .i64 x.f2.f0) ∧ W.cell? ⟨p.block, p.off + 3, none⟩ = some (.string x.f2.f1) ∧ W.cell? ⟨p.block, p.off + 4, none⟩ = some (.int .i64 x.f2.f2) ∧ W.cell? ⟨p.block, p.off + 5, none⟩ = some (.slice A5 x.f2.f3.length c5) ∧ W.cell? ⟨p.block, p.off + 6, none⟩ = some (.slice A6 x.f2.f4.length c6) ∧ W.cell? ⟨p.block, p.off + 7, none⟩ = some (.slice A7 x.f2.f5.length c7)
theorem elemF {W : World} {A : Option Addr} {n : Nat} {l : List S34} (hC : k34.C W A n l) (i : Nat) {x : S34} (hx : l[i]? = some x) : ∃ ad A1 c1 A5 c5 A6 c6 A7 c7, A = some ad ∧ FC W (ad.add (i * 8)) x A1 A5 A6 A7 c1 c5 c6 c7 ∧ x.f1.length ≤ c1 ∧ Kd.string.C W A1 x.f1.length x.f1 ∧ Kd.string.C W A5 x.f2.f3.length x.f2.f3 ∧ k29.C W A6 x.f2.f4.length x.f2.f4 ∧ k88.C W A7 x.f2.f5.length x.f2.f5 ∧ x.f2.f3.length ≤ c5 ∧ x.f2.f4.length ≤ c6 ∧ x.f2.f5.length ≤ c7 := by
 have hi := (List.getElem?_eq_some_iff.1 hx).1
 obtain ⟨ad, A1, c1, A5, c5, A6, c6, A7, c7, e, h0, h1, h2, h3, h4, h5, h6, h7, l1, g1, l5, g5, l6, g6, l7, g7⟩ := at_T34 hC (i : Int) (by omega) (by have := hC.1; omega)
 have hr : Zd l (i : Int) = x := by
  unfold Zd
  rw [Int.toNat_natCast, List.getD_eq_getElem?_getD, hx]
  rfl
 rw [hr] at h0 h1 h2 h3 h4 h5 h6 h7 l1 g1 l5 g5 l6 g6 l7 g7
 rw [Int.toNat_natCast] at h0 h1 h2 h3 h4 h5 h6 h7
 exact ⟨ad, A1, c1, A5, c5, A6, c6, A7, c7, e, ⟨h0, h1, h2, h3, h4, h5, h6, h7⟩, l1, g1, g5, g6, g7, l5, l6, l7⟩
set_option maxHeartbeats 16000000 in
set_option maxRecDepth 100000 in
theorem size_c (ds : List S56) (fs : List S34) (hds : ds.length ≤ BL) (hfs : fs.length ≤ BL) (hR : ∀ d ∈ ds, RD d) (hF : ∀ d ∈ fs, RF d) (w : World) {Ad Af : Option Addr} {nd nf : Nat} (h1 : k56.C w Ad ds.length ds) (h2 : k34.C w Af fs.length fs) :
  Calls Tryd.prog 50 #[.agg #[.slice Ad ds.length nd, .slice Af fs.length nf]] w (AnyI w) := by
 unfold BL at hds hfs
 have hl9 := Qb.mk (And.intro hds hfs)
 have hD9 := Qb.mk hR
 have hF9 := Qb.mk hF
 have hC1 := Qb.mk h1
 have hC2 := Qb.mk h2
 clear h1 h2 hds hfs hR hF
 obtain ⟨W0, hW0⟩ : ∃ W0, w.alloc (.cells #[.slice Ad ds.length nd, .slice Af fs.length nf] 38) = W0 := ⟨_, rfl⟩
 have hB0 : Qb (Below w.heap.size w W0) := ⟨by rw [← hW0]; exact Qd (Below.refl _ _) _⟩
 have hbx : Qb (W0.heap[w.heap.size]? = some (.cells #[.slice Ad ds.length nd, .slice Af fs.length nf] 38 (0, 0))) := ⟨by rw [← hW0]; exact Qv w _⟩
 have hB : Qb (Below W0.heap.size W0 W0) := ⟨Below.refl _ _⟩
 go_enter Tryd.func50, Tryd.ntmps50
 go_wp2
 (try rw [hW0])
 clear hW0
 go_loopg [3, 4] (ds.length + 1) (fun kq v3 v4 w' => ∃ (x3 : Int) (i : Nat), v3 = .int .i64 x3 ∧ v4 = .int .i64 (i : Int) ∧ i + kq = ds.length + 1 ∧ 1 ≤ kq ∧ Qb (Below W0.heap.size W0 w'))
 case atStart => exact ⟨_, 0, rfl, rfl, by omega, by omega, hB⟩
 case round =>
  clear hB
  obtain ⟨x3, i, rfl, rfl, hi, hk, hBr⟩ := hrel
  obtain ⟨g, hg⟩ : ∃ g, g = gk := ⟨_, rfl⟩
  by_cases hlt : i < ds.length
  ·have k0 := (Qa (Qc hbx.out hBr.out) 0).trans rfl
   have k1 := (Qa (Qc hbx.out hBr.out) 1).trans rfl
   have hxi : ds[i]? = some ds[i] := List.getElem?_eq_getElem hlt
   have hx := hD9.out _ (List.getElem_mem hlt)
   generalize ds[i] = d at hxi hx
   obtain ⟨ad, P1, n1, P2, n2, rfl, hDC, _, _, _, hCs⟩ := elemD (Kd.Qj hC1.out hB0.out) i hxi
   have hd9 : Qb (d.f2.length ≤ 10000000000000 ∧ ∀ c ∈ d.f2, RC c) := ⟨hx.2.2⟩
   have hDC := Qb.mk hDC
   have hCs := Qb.mk hCs
   clear hx hxi
   have p0 : (0 : Int) ≤ (i : Int) := by omega
   have p1 : (i : Int) < (ds.length : Int) := by omega
   have q1 : decide ((i : Int) < (ds.length : Int)) = true := decide_eq_true p1
   have hjn : Value.int .i64 (wrap64 ((i : Int) + 1)) = .int .i64 ((i + 1 : Nat) : Int) := by rw [wr1 i (by have := hl9.out; omega)]
   go_wp2
   go_loopg [3, 5] (d.f2.length + 1) (fun kq v3 v5 w' => ∃ (x3 : Int) (j : Nat), v3 = .int .i64 x3 ∧ v5 = .int .i64 (j : Int) ∧ j + kq = d.f2.length + 1 ∧ 1 ≤ kq ∧ Qb (Below W0.heap.size W0 w'))
   case atStart => exact ⟨_, 0, rfl, rfl, by omega, by omega, hBr⟩
   case round =>
    clear hBr
    obtain ⟨x3, j, rfl, rfl, hib, hkb, hBrb⟩ := hrel
    obtain ⟨gb, hgb⟩ : ∃ g, g = gk := ⟨_, rfl⟩
    by_cases hltb : j < d.f2.length
    ·have k0 := (Qa (Qc hbx.out hBrb.out) 0).trans rfl
     have k1 := (Qa (Qc hbx.out hBrb.out) 1).trans rfl
     obtain ⟨s0, s1, s2⟩ := hDC.out.below hBrb.out
     have hxi : d.f2[j]? = some d.f2[j] := List.getElem?_eq_getElem hltb
     have hx := hd9.out.2 _ (List.getElem_mem hltb)
     generalize d.f2[j] = x at hxi hx
     obtain ⟨adc, P1, n1, rfl, ⟨e0, e1⟩, _, hCx⟩ := elemC (Kd.Qj hCs.out hBrb.out) j hxi
     have hx9 : Qb (x.f1.length ≤ 10000000000000 ∧ ∀ t ∈ x.f1, RT t) := ⟨hx.2⟩
     obtain ⟨Wc, hWc⟩ : ∃ Wc, wr.alloc (.cells #[.string x.f0, .slice P1 x.f1.length n1] 65) = Wc := ⟨_, rfl⟩
     have hBc : Qb (Below wr.heap.size wr Wc) := ⟨by rw [← hWc]; exact Qd (Below.refl _ _) _⟩
     have hcx : Qb (Wc.heap[wr.heap.size]? = some (.cells #[.string x.f0, .slice P1 x.f1.length n1] 65 (0, 0))) := ⟨by rw [← hWc]; exact Qv wr _⟩
     have hCa := Qb.mk (Kd.Qj hCx hBc.out)
     have hBC : Qb (Below Wc.heap.size Wc Wc) := ⟨Below.refl _ _⟩
     clear hCx hx hxi
     have p0 : (0 : Int) ≤ (j : Int) := by omega
     have p1 : (j : Int) < (d.f2.length : Int) := by omega
     have q1 : decide ((j : Int) < (d.f2.length : Int)) = true := decide_eq_true p1
     have hjnb : Value.int .i64 (wrap64 ((j : Int) + 1)) = .int .i64 ((j + 1 : Nat) : Int) := by rw [wr1 j (by have := hd9.out.1; omega)]
     have u1 := (Qa hcx.out 1).trans rfl
     go_wp2
     (try rw [hWc])
     clear hWc
     go_loopg [3, 7] (x.f1.length + 1) (fun kq v3 v7 w' => ∃ (x3 : Int) (q : Nat), v3 = .int .i64 x3 ∧ v7 = .int .i64 (q : Int) ∧ q + kq = x.f1.length + 1 ∧ 1 ≤ kq ∧ Qb (Below Wc.heap.size Wc w'))
     case atStart => exact ⟨_, 0, rfl, rfl, by omega, by omega, hBC⟩
     case round =>
      clear hBC
      obtain ⟨x3, q, rfl, rfl, hic, hkc, hBrc⟩ := hrel
      obtain ⟨gc, hgc⟩ : ∃ g, g = gk := ⟨_, rfl⟩
      by_cases hltc : q < x.f1.length
      ·have u1 := (Qa (Qc hcx.out hBrc.out) 1).trans rfl
       have hxi : x.f1[q]? = some x.f1[q] := List.getElem?_eq_getElem hltc
       have hx := hx9.out.2 _ (List.getElem_mem hltc)
       generalize x.f1[q] = t at hxi hx
       obtain ⟨adt, B1, d1, rfl, ⟨t0, t1⟩, hd, hCt⟩ := elemT (Kd.Qj hCa.out hBrc.out) q hxi
       have CX := ts_all _ t (Nat.le_refl _) hx wr hCt hd
       clear hCt hd hx hxi
       have p0 : (0 : Int) ≤ (q : Int) := by omega
       have p1 : (q : Int) < (x.f1.length : Int) := by omega
       have q1 : decide ((q : Int) < (x.f1.length : Int)) = true := decide_eq_true p1
       have hjnc : Value.int .i64 (wrap64 ((q : Int) + 1)) = .int .i64 ((q + 1 : Nat) : Int) := by rw [wr1 q (by have := hx9.out.1; omega)]
       go_wp2_with (first | (go_at_call 63; go_loud (with_reducible refine CX.mono ?_); rintro r w3 ⟨v, rfl, hb3⟩; have HB3 := Qb.mk (Qe hBrc.out hb3); clear hb3 CX))
       go_roundg (gc - 1)
       case measure => omega
       case rel => exact ⟨_, q + 1, rfl, by first | exact hjnc | rfl, by omega, by omega, HB3⟩
      ·have q1 : decide ((q : Int) < (x.f1.length : Int)) = false := decide_eq_false (by omega)
       have hBC := hBrc
       clear hBrc hic hkc hgc
       have u1 := (Qa (Qc hcx.out hBC.out) 1).trans rfl
       have hBr := Qb.mk (hBrb.out.trans ((hBc.out.trans (hBC.out.mono hBc.out.size)).mono hBrb.out.size))
       clear hBC
       go_wp2
       go_roundg (gb - 1)
       case measure => omega
       case rel => exact ⟨_, j + 1, rfl, by first | exact hjnb | rfl, by omega, by omega, hBr⟩
    ·have q1 : decide ((j : Int) < (d.f2.length : Int)) = false := decide_eq_false (by omega)
     have hBr := hBrb
     clear hBrb hib hkb hgb
     have k0 := (Qa (Qc hbx.out hBr.out) 0).trans rfl
     have k1 := (Qa (Qc hbx.out hBr.out) 1).trans rfl
     obtain ⟨s0, s1, s2⟩ := hDC.out.below hBr.out
     go_wp2
     go_roundg (g - 1)
     case measure => omega
     case rel => exact ⟨_, i + 1, rfl, by first | exact hjn | rfl, by omega, by omega, hBr⟩
  ·have q1 : decide ((i : Int) < (ds.length : Int)) = false := decide_eq_false (by omega)
   have hB := hBr
   clear hBr hi hk hg
   have k0 := (Qa (Qc hbx.out hB.out) 0).trans rfl
   have k1 := (Qa (Qc hbx.out hB.out) 1).trans rfl
   go_wp2
   go_loopg [3, 8] (fs.length + 1) (fun kq v3 v8 w' => ∃ (x3 : Int) (i : Nat), v3 = .int .i64 x3 ∧ v8 = .int .i64 (i : Int) ∧ i + kq = fs.length + 1 ∧ 1 ≤ kq ∧ Qb (Below W0.heap.size W0 w'))
   case atStart => exact ⟨_, 0, rfl, rfl, by omega, by omega, hB⟩
   case round =>
    clear hB
    obtain ⟨x3, i, rfl, rfl, hi, hk, hBr⟩ := hrel
    obtain ⟨g, hg⟩ : ∃ g, g = gk := ⟨_, rfl⟩
    by_cases hlt : i < fs.length
    ·have k0 := (Qa (Qc hbx.out hBr.out) 0).trans rfl
     have k1 := (Qa (Qc hbx.out hBr.out) 1).trans rfl
     have hxi : fs[i]? = some fs[i] := List.getElem?_eq_getElem hlt
     have hx := hF9.out _ (List.getElem_mem hlt)
     generalize fs[i] = d at hxi hx
     obtain ⟨ad, P1, n1, B3, d3, B4, d4, B5, d5, rfl, ⟨e0, e1, e2, e3, e4, e5, e6, e7⟩, _, _, g3, g4, g5, m3, m4, m5⟩ := elemF (Kd.Qj (Kd.Qj hC2.out hB0.out) hBr.out) i hxi
     have CX := xs_all _ d.f2 (Nat.le_refl _) hx.2.2 wr g3 m3 g4 m4 g5 m5
     clear g3 g4 g5 m3 m4 m5 hx hxi
     have p0 : (0 : Int) ≤ (i : Int) := by omega
     have p1 : (i : Int) < (fs.length : Int) := by omega
     have q1 : decide ((i : Int) < (fs.length : Int)) = true := decide_eq_true p1
     have hjn : Value.int .i64 (wrap64 ((i : Int) + 1)) = .int .i64 ((i + 1 : Nat) : Int) := by rw [wr1 i (by have := hl9.out; omega)]
     go_wp2_with (first | (go_at_call 64; go_loud (with_reducible refine CX.mono ?_); rintro r w3 ⟨v, rfl, hb3⟩; have HB3 := Qb.mk (Qe hBr.out hb3); clear hb3 CX))
     go_roundg (g - 1)
     case measure => omega
     case rel => exact ⟨_, i + 1, rfl, by first | exact hjn | rfl, by omega, by omega, HB3⟩
    ·have q1 : decide ((i : Int) < (fs.length : Int)) = false := decide_eq_false (by omega)
     have hB := hBr
     clear hBr hi hk hg
     have k0 := (Qa (Qc hbx.out hB.out) 0).trans rfl
     have k1 := (Qa (Qc hbx.out hB.out) 1).trans rfl
     go_wp2
     go_ret
     exact ⟨_, rfl, hB0.out.trans (hB.out.mono hB0.out.size)⟩
theorem bq {α : Type} [BEq α] [LawfulBEq α] [DecidableEq α] (x y : α) : ((x == y) = true ∧ (x != y) = false) ∨ ((x == y) = false ∧ (x != y) = true) := by
 by_cases h : x = y
 ·exact .inl (beqt h)
 ·exact .inr (Vq h)
theorem bd (p : Prop) [Decidable p] : decide p = false ∨ decide p = true := by cases decide p <;> simp
def VT (t : S67) : Prop := ∀ (w : World) {A : Option Addr} {c : Nat}, k67.C w A t.f1.length t.f1 → t.f1.length ≤ c → Calls Tryd.prog 67 #[.agg #[.string t.f0, .slice A t.f1.length c]] w (AnyI w)
set_option maxHeartbeats 16000000 in
set_option maxRecDepth 100000 in
theorem vt_step (t : S67) (hs : t.f0.size ≤ B47) (hl : t.f1.length ≤ BL) (ih : ∀ x ∈ t.f1, VT x) : VT t := by
 intro w A1 c1 hC hc
 obtain ⟨nm, l⟩ := t
 dsimp only at *
 unfold BL at hl
 have hl9 := Qb.mk hl
 have hih := Qb.mk ih
 have hC1 := Qb.mk hC
 obtain ⟨bn, CN⟩ := name_c nm hs
 obtain ⟨bu, CU⟩ := upper_c nm hs
 clear hC hc hl ih hs
 obtain ⟨W0, hW0⟩ : ∃ W0, w.alloc (.cells #[.string nm, .slice A1 l.length c1] 67) = W0 := ⟨_, rfl⟩
 have hB0 : Qb (Below w.heap.size w W0) := ⟨by rw [← hW0]; exact Qd (Below.refl _ _) _⟩
 have hbx : Qb (W0.heap[w.heap.size]? = some (.cells #[.string nm, .slice A1 l.length c1] 67 (0, 0))) := ⟨by rw [← hW0]; exact Qv w _⟩
 have hB : Qb (Below W0.heap.size W0 W0) := ⟨Below.refl _ _⟩
 have CN := CN W0
 have k0 := (Qa hbx.out 0).trans rfl
 go_enter Tryd.func67, Tryd.ntmps67
 go_upto_region 1 with (fail)
 (try rw [hW0])
 clear hW0
 go_upto_region 2 with ((go_at_call 70; go_loud (with_reducible refine CN.mono ?_); rintro r w3 ⟨rfl, hb3⟩; have HB1 := Qb.mk (Qe hB.out hb3); clear hb3 CN))
 clear hB
 go_cut [26] (fun v26 wc => ∃ b : Bool, v26 = .bool b ∧ Qb (Below W0.heap.size W0 wc))
 case first => as_aux_lemma =>
  have k0 := (Qa (Qc hbx.out HB1.out) 0).trans rfl
  have k1 := (Qa (Qc hbx.out HB1.out) 1).trans rfl
  rcases bq (nm.toList) ([45, 62] : List UInt8) with ⟨a0, b0⟩ | ⟨a0, b0⟩ <;> rcases bq ((l.length : Int)) (2) with ⟨a1, b1⟩ | ⟨a1, b1⟩ <;> rcases bd (0 < (l.length : Int)) with d0 | d0 <;> cases bn
  all_goals (go_wp2; go_meet; (case rel => exact ⟨_, rfl, HB1⟩))
 case rest =>
  obtain ⟨b, rfl, hB⟩ := hcut
  rename World => wr
  clear HB1
  cases b
  ·go_upto_region 4 with (fail)
   go_cut [39] (fun v39 wc => ∃ b : Bool, v39 = .bool b ∧ Qb (Below W0.heap.size W0 wc))
   case first => as_aux_lemma =>
    have k0 := (Qa (Qc hbx.out hB.out) 0).trans rfl
    have k1 := (Qa (Qc hbx.out hB.out) 1).trans rfl
    have CU := CU wr
    rcases bq (nm.toList) ([45, 62] : List UInt8) with ⟨a0, b0⟩ | ⟨a0, b0⟩ <;> cases bn
    all_goals (go_wp2_with (first | (go_at_call 65; go_loud (with_reducible refine CU.mono ?_); rintro r w3 ⟨rfl, hb3⟩; have HB3 := Qb.mk (Qe hB.out hb3); clear hb3 CU)); go_meet; (case rel => first | exact ⟨_, rfl, HB3⟩ | exact ⟨_, rfl, hB⟩))
   case rest =>
    obtain ⟨b2, rfl, hB2⟩ := hcut
    rename World => wr
    clear hB
    have hB := hB2
    clear hB2
    cases b2
    ·have k1 := (Qa (Qc hbx.out hB.out) 1).trans rfl
     rcases bd (60 < (l.length : Int)) with d0 | d0
     rotate_left
     ·go_wp2
      go_ret
      exact ⟨_, rfl, hB0.out.trans (hB.out.mono hB0.out.size)⟩
     go_wp2
     go_loopg [4] (l.length + 1) (fun kq v4 w' => ∃ (i : Nat), v4 = .int .i64 (i : Int) ∧ i + kq = l.length + 1 ∧ 1 ≤ kq ∧ Qb (Below W0.heap.size W0 w'))
     case atStart => exact ⟨0, rfl, by omega, by omega, hB⟩
     case round =>
      clear hB
      obtain ⟨i, rfl, hi, hk, hBr⟩ := hrel
      obtain ⟨g, hg⟩ : ∃ g, g = gk := ⟨_, rfl⟩
      by_cases hlt : i < l.length
      ·have k1 := (Qa (Qc hbx.out hBr.out) 1).trans rfl
       have hxi : l[i]? = some l[i] := List.getElem?_eq_getElem hlt
       have hx := hih.out _ (List.getElem_mem hlt)
       generalize l[i] = x at hxi hx
       obtain ⟨ad, B1, d1, rfl, ⟨e0, e1⟩, hd, hCx⟩ := elemT (Kd.Qj (Kd.Qj hC1.out hB0.out) hBr.out) i hxi
       have CX := hx wr hCx hd
       clear hx hxi hCx hd
       have p0 : (0 : Int) ≤ (i : Int) := by omega
       have p1 : (i : Int) < (l.length : Int) := by omega
       have q1 : decide ((i : Int) < (l.length : Int)) = true := decide_eq_true p1
       have hjn : Value.int .i64 (wrap64 ((i : Int) + 1)) = .int .i64 ((i + 1 : Nat) : Int) := by rw [wr1 i (by have := hl9.out; omega)]
       go_wp2_with (first | (go_at_call 67; go_loud (with_reducible refine CX.mono ?_); rintro r w3 ⟨v, rfl, hb3⟩; have HB3 := Qb.mk (Qe hBr.out hb3); clear hb3 CX))
       all_goals first | (go_ret; exact ⟨_, rfl, hB0.out.trans (HB3.out.mono hB0.out.size)⟩) | (go_roundg (g - 1); (case measure => omega); (case rel => exact ⟨i + 1, by first | exact hjn | rfl, by omega, by omega, HB3⟩))
      ·have q1 : decide ((i : Int) < (l.length : Int)) = false := decide_eq_false (by omega)
       have hB := hBr
       clear hBr hi hk hg
       have k1 := (Qa (Qc hbx.out hB.out) 1).trans rfl
       go_wp2
       go_ret
       exact ⟨_, rfl, hB0.out.trans (hB.out.mono hB0.out.size)⟩
    ·go_wp2
     go_ret
     exact ⟨_, rfl, hB0.out.trans (hB.out.mono hB0.out.size)⟩
  ·go_wp2
   go_ret
   exact ⟨_, rfl, hB0.out.trans (hB.out.mono hB0.out.size)⟩
theorem vt_all : ∀ (m : Nat) (t : S67), Zo t ≤ m → RT t → VT t
 | 0, t, h, _ => by cases t; simp only [Zo] at h; omega
 | m + 1, t, h, hr => by
  have h1 := (rt_iff t).1 hr
  exact vt_step t h1.1 h1.2.1 (fun x hx => vt_all m x (by have := tcost_mem hx; cases t; simp only [Zo] at *; omega) (h1.2.2 x hx))
theorem c8 {W : World} {b t : Nat} {x0 x1 x2 x3 x4 x5 x6 x7 : Value} (h : W.heap[b]? = some (.cells #[x0, x1, x2, x3, x4, x5, x6, x7] t (0, 0))) : W.cell? ⟨b, 0, none⟩ = some x0 ∧ W.cell? ⟨b, 1, none⟩ = some x1 ∧ W.cell? ⟨b, 2, none⟩ = some x2 ∧ W.cell? ⟨b, 3, none⟩ = some x3 ∧ W.cell? ⟨b, 4, none⟩ = some x4 ∧ W.cell? ⟨b, 5, none⟩ = some x5 ∧ W.cell? ⟨b, 6, none⟩ = some x6 ∧ W.cell? ⟨b, 7, none⟩ = some x7 :=
 ⟨(Qa h 0).trans rfl, (Qa h 1).trans rfl, (Qa h 2).trans rfl, (Qa h 3).trans rfl, (Qa h 4).trans rfl, (Qa h 5).trans rfl, (Qa h 6).trans rfl, (Qa h 7).trans rfl⟩
def FOk (d : S34) : Prop := RF d ∧ d.f1.length + cn d.f2 ≤ 1000
theorem FOk.parts {d : S34} (h : FOk d) : d.f0.size ≤ B47 ∧ d.f1.length ≤ 1000 ∧ small d.f1 B47 ∧ WF d.f2 := ⟨h.1.1, by have := h.2; omega, h.1.2.1.2, wf_of _ _ (Nat.le_refl _) h.1.2.2 (by have := h.2; omega)⟩
set_option maxHeartbeats 16000000 in
set_option maxRecDepth 100000 in
theorem validDef_c (d : S34) (hd : FOk d) (w : World) (hg : GG w) {A1 A3 A4 A5 : Option Addr} {c1 c3 c4 c5 : Nat} (h1 : Kd.string.C w A1 d.f1.length d.f1) (m1 : d.f1.length ≤ c1) (h3 : Kd.C Kd.string w A3 d.f2.f3.length d.f2.f3) (m3 : d.f2.f3.length ≤ c3) (h4 : Kd.C k29 w A4 d.f2.f4.length d.f2.f4) (m4 : d.f2.f4.length ≤ c4) (h5 : Kd.C k88 w A5 d.f2.f5.length d.f2.f5) (m5 : d.f2.f5.length ≤ c5) :
  Calls Tryd.prog 52 #[.agg #[.string d.f0, .slice A1 d.f1.length c1, .int .i64 d.f2.f0, .string d.f2.f1, .int .i64 d.f2.f2, .slice A3 d.f2.f3.length c3, .slice A4 d.f2.f4.length c4, .slice A5 d.f2.f5.length c5]] w fun r w' => ∃ v : Int, r = .returned (.int .i64 v) ∧ (v = 0 → Shp d.f2) ∧ Below w.heap.size w w' := by
 obtain ⟨b1, b2, b3, hwf⟩ := hd.parts
 obtain ⟨bn, CN⟩ := name_c d.f0 b1
 obtain ⟨vn, CS⟩ := names_c d.f1 b3 (by omega)
 have XV := fun W => (validExpr_all (cost d.f2) d.f2 (Nat.le_refl _) hwf).at W (A3 := A3) (A4 := A4) (A5 := A5) (c3 := c3) (c4 := c4) (c5 := c5)
 have XN := fun hs => defNode_c d.f0 d.f1 d.f2 (by omega) (exprNode_all (cost d.f2) d.f2 (Nat.le_refl _) hwf hs)
 obtain ⟨d0, d1, ⟨f0, f1, f2, l3, l4, l5⟩⟩ := d
 dsimp only at *
 obtain ⟨W0, hW0⟩ : ∃ W0, w.alloc (.cells #[.string d0, .slice A1 d1.length c1, .int .i64 f0, .string f1, .int .i64 f2, .slice A3 l3.length c3, .slice A4 l4.length c4, .slice A5 l5.length c5] 34) = W0 := ⟨_, rfl⟩
 have hB0 : Qb (Below w.heap.size w W0) := ⟨by rw [← hW0]; exact Qd (Below.refl _ _) _⟩
 have hbx : Qb (W0.heap[w.heap.size]? = some (.cells #[.string d0, .slice A1 d1.length c1, .int .i64 f0, .string f1, .int .i64 f2, .slice A3 l3.length c3, .slice A4 l4.length c4, .slice A5 l5.length c5] 34 (0, 0))) := ⟨by rw [← hW0]; exact Qv w _⟩
 have hB : Qb (Below W0.heap.size W0 W0) := ⟨Below.refl _ _⟩
 have CN := CN W0
 have CS : ∀ W, Below W0.heap.size W0 W → _ := fun W hb => CS W (Kd.Qj (Kd.Qj h1 hB0.out) hb) m1
 have CV : ∀ W, Below W0.heap.size W0 W → _ := fun W hb => XV W (Kd.Qj (Kd.Qj h3 hB0.out) hb) m3 (Kd.Qj (Kd.Qj h4 hB0.out) hb) m4 (Kd.Qj (Kd.Qj h5 hB0.out) hb) m5
 obtain ⟨k0, k1, k2, k3, k4, k5, k6, k7⟩ := c8 hbx.out
 by_cases hs : Shp ⟨f0, f1, f2, l3, l4, l5⟩
 ·have CD : ∀ W, Below W0.heap.size W0 W → _ := fun W hb => XN hs W (GG.below hg (hB0.out.trans (hb.mono hB0.out.size))) (c1 := c1) (c3 := c3) (c4 := c4) (c5 := c5) (Kd.Qj (Kd.Qj h1 hB0.out) hb) (Kd.Qj (Kd.Qj h3 hB0.out) hb) (Kd.Qj (Kd.Qj h4 hB0.out) hb) (Kd.Qj (Kd.Qj h5 hB0.out) hb)
  have hs := Qb.mk hs
  clear XV XN hwf h1 h3 h4 h5 m1 m3 m4 m5 b1 b2 b3
  go_enter Tryd.func52, Tryd.ntmps52
  cases bn
  all_goals (
   go_wp2_with (first | (go_at_call 70; (try rw [hW0]); go_loud (with_reducible refine CN.mono ?_); rintro r w1 ⟨rfl, hb3⟩; have Hw1 := Qb.mk (Qe hB.out hb3); have CS := CS w1 Hw1.out; obtain ⟨j0, j1, j2, j3, j4, j5, j6, j7⟩ := c8 (Qc hbx.out Hw1.out); clear hb3 CN k0 k1 k2 k3 k4 k5 k6 k7) | (go_at_call 66; (try rw [hW0]); go_loud (with_reducible refine CS.mono ?_); rintro r w2 ⟨rfl, hb3⟩; have Hw2 := Qb.mk (Qe Hw1.out hb3); have CV := CV w2 Hw2.out; obtain ⟨k0, k1, k2, k3, k4, k5, k6, k7⟩ := c8 (Qc hbx.out Hw2.out); clear hb3 CS j0 j1 j2 j3 j4 j5 j6 j7) | (go_at_call 71; (try rw [hW0]); go_loud (with_reducible refine CV.mono ?_); rintro r w3 ⟨v4, rfl, hv4, hb3⟩; have Hw3 := Qb.mk (Qe Hw2.out hb3); have hv4 := Qb.mk hv4; have CD := CD w3 Hw3.out; obtain ⟨j0, j1, j2, j3, j4, j5, j6, j7⟩ := c8 (Qc hbx.out Hw3.out); clear hb3 CV k0 k1 k2 k3 k4 k5 k6 k7) | (go_at_call 72; (try rw [hW0]); go_loud (with_reducible refine CD.mono ?_); rintro r w4 ⟨s3, A3', n3', c3', z3', rfl, hz3, hc3, hn3, hb3⟩; have Hw4 := Qb.mk (Qe Hw3.out hb3); have CE := deep_1 (s := s3) hn3 hc3; have HN := Qb.mk hn3; have HC := Qb.mk hc3; clear hb3 CD hz3 hn3 hc3) | (go_at_call 68; go_loud (with_reducible refine CE.mono ?_); rintro r w5 ⟨v5, rfl, hb3⟩; have Hw5 := Qb.mk (Qe (Qd Hw4.out _) hb3); clear hb3 CE))
   all_goals go_ret
   all_goals exact ⟨_, rfl, by first | exact fun _ => hs.out | exact fun h => absurd h (by decide) | exact hv4.out | exact fun h => hv4.out (by first | exact h | (rw [h] at *; simp at *)) | exact fun h => absurd (show _ = true by assumption) (by rw [h]; decide), by first | exact hB0.out.trans (Hw5.out.mono hB0.out.size) | exact hB0.out.trans (Hw3.out.mono hB0.out.size) | exact hB0.out.trans (Hw2.out.mono hB0.out.size) | exact hB0.out.trans (Hw1.out.mono hB0.out.size)⟩
   )
 ·have hs := Qb.mk hs
  clear XV XN hwf h1 h3 h4 h5 m1 m3 m4 m5 b1 b2 b3
  go_enter Tryd.func52, Tryd.ntmps52
  cases bn
  all_goals (
   go_wp2_with (first | (go_at_call 70; (try rw [hW0]); go_loud (with_reducible refine CN.mono ?_); rintro r w1 ⟨rfl, hb3⟩; have Hw1 := Qb.mk (Qe hB.out hb3); have CS := CS w1 Hw1.out; obtain ⟨j0, j1, j2, j3, j4, j5, j6, j7⟩ := c8 (Qc hbx.out Hw1.out); clear hb3 CN k0 k1 k2 k3 k4 k5 k6 k7) | (go_at_call 66; (try rw [hW0]); go_loud (with_reducible refine CS.mono ?_); rintro r w2 ⟨rfl, hb3⟩; have Hw2 := Qb.mk (Qe Hw1.out hb3); have CV := CV w2 Hw2.out; obtain ⟨k0, k1, k2, k3, k4, k5, k6, k7⟩ := c8 (Qc hbx.out Hw2.out); clear hb3 CS j0 j1 j2 j3 j4 j5 j6 j7) | (go_at_call 71; (try rw [hW0]); go_loud (with_reducible refine CV.mono ?_); rintro r w3 ⟨v4, rfl, hv4, hb3⟩; have Hw3 := Qb.mk (Qe Hw2.out hb3); have hv4 := Qb.mk hv4; have qv : (v4 != 0) = true := bne_iff_ne.2 (fun h => hs.out (hv4.out h)); obtain ⟨j0, j1, j2, j3, j4, j5, j6, j7⟩ := c8 (Qc hbx.out Hw3.out); clear hb3 CV k0 k1 k2 k3 k4 k5 k6 k7))
   all_goals go_ret
   all_goals exact ⟨_, rfl, by first | exact fun _ => hs.out | exact fun h => absurd h (by decide) | exact hv4.out | exact fun h => hv4.out (by first | exact h | (rw [h] at *; simp at *)) | exact fun h => absurd (show _ = true by assumption) (by rw [h]; decide), by first | exact hB0.out.trans (Hw5.out.mono hB0.out.size) | exact hB0.out.trans (Hw3.out.mono hB0.out.size) | exact hB0.out.trans (Hw2.out.mono hB0.out.size) | exact hB0.out.trans (Hw1.out.mono hB0.out.size)⟩
   )
theorem c3_ {W : World} {b t : Nat} {x0 x1 x2 : Value} (h : W.heap[b]? = some (.cells #[x0, x1, x2] t (0, 0))) : W.cell? ⟨b, 0, none⟩ = some x0 ∧ W.cell? ⟨b, 1, none⟩ = some x1 ∧ W.cell? ⟨b, 2, none⟩ = some x2 := ⟨(Qa h 0).trans rfl, (Qa h 1).trans rfl, (Qa h 2).trans rfl⟩
def cc (c : S65) : Nat := sm Zo c.f1
def DOk (d : S56) : Prop := RD d ∧ d.f1.length + d.f2.length + sm cc d.f2 ≤ 1000
theorem DOk.parts {d : S56} (h : DOk d) : RD d ∧ d.f1.length ≤ 1000 ∧ d.f2.length ≤ 1000 ∧ ∀ x ∈ d.f2, x.f1.length ≤ 1000 ∧ ∀ t ∈ x.f1, Zo t ≤ 1000 := by
 have h1 := h.2
 refine ⟨h.1, by omega, by omega, fun x hx => ?_⟩
 have h2 := sm_mem cc hx
 have h3 := sm_len Zo (fun t => by have := tcost_eq t; omega) x.f1
 have h4 : cc x = sm Zo x.f1 := rfl
 exact ⟨by omega, fun t ht => by have := sm_mem Zo ht; omega⟩
set_option maxHeartbeats 16000000 in
set_option maxRecDepth 100000 in
theorem validData_c (d : S56) (hd : DOk d) (w : World) {A1 A2 : Option Addr} {c1 c2 : Nat} (h1 : Kd.string.C w A1 d.f1.length d.f1) (m1 : d.f1.length ≤ c1) (h2 : Kd.C k65 w A2 d.f2.length d.f2) (m2 : d.f2.length ≤ c2) :
  Calls Tryd.prog 51 #[.agg #[.string d.f0, .slice A1 d.f1.length c1, .slice A2 d.f2.length c2]] w (AnyI w) := by
 obtain ⟨b1, b2, b3, b4⟩ := hd.parts
 obtain ⟨bn, CN⟩ := upper_c d.f0 b1.1
 obtain ⟨vn, CS⟩ := names_c d.f1 b1.2.1.2 (by omega)
 have hd9 : Qb (d.f2.length ≤ 10000000000000 ∧ ∀ c ∈ d.f2, RC c) := ⟨b1.2.2⟩
 have CD := dataNode_c d.f0 d.f1 d.f2 (by omega) (by omega) (fun x hx => ⟨by have := (b4 x hx).1; omega, fun t ht => by have := (b4 x hx).2 t ht; omega⟩)
 obtain ⟨d0, d1, d2⟩ := d
 dsimp only at *
 obtain ⟨W0, hW0⟩ : ∃ W0, w.alloc (.cells #[.string d0, .slice A1 d1.length c1, .slice A2 d2.length c2] 56) = W0 := ⟨_, rfl⟩
 have hB0 : Qb (Below w.heap.size w W0) := ⟨by rw [← hW0]; exact Qd (Below.refl _ _) _⟩
 have hbx : Qb (W0.heap[w.heap.size]? = some (.cells #[.string d0, .slice A1 d1.length c1, .slice A2 d2.length c2] 56 (0, 0))) := ⟨by rw [← hW0]; exact Qv w _⟩
 have hB : Qb (Below W0.heap.size W0 W0) := ⟨Below.refl _ _⟩
 have CN := CN W0
 have CS : ∀ W, Below W0.heap.size W0 W → _ := fun W hb => CS W (Kd.Qj (Kd.Qj h1 hB0.out) hb) m1
 have CD := Qb.mk (fun (W : World) (hb : Below W0.heap.size W0 W) => CD W (c1 := c1) (c2 := c2) (Kd.Qj (Kd.Qj h1 hB0.out) hb) (Kd.Qj (Kd.Qj h2 hB0.out) hb))
 have hC2 := Qb.mk h2
 obtain ⟨k0, k1, k2⟩ := c3_ hbx.out
 clear h1 h2 m1 m2 b1 b2 b3 b4
 go_enter Tryd.func51, Tryd.ntmps51
 cases bn
 ·go_wp2_with (first | (go_at_call 65; (try rw [hW0]); go_loud (with_reducible refine CN.mono ?_); rintro r w1 ⟨rfl, hb3⟩; have Hw1 := Qb.mk (Qe hB.out hb3); have CS := CS w1 Hw1.out; obtain ⟨j0, j1, j2⟩ := c3_ (Qc hbx.out Hw1.out); clear hb3 CN k0 k1 k2))
  go_ret
  exact ⟨_, rfl, hB0.out.trans (Hw1.out.mono hB0.out.size)⟩
 ·rcases bq vn 0 with ⟨a1, b1⟩ | ⟨a1, b1⟩
  rotate_left
  ·go_wp2_with (first | (go_at_call 65; (try rw [hW0]); go_loud (with_reducible refine CN.mono ?_); rintro r w1 ⟨rfl, hb3⟩; have Hw1 := Qb.mk (Qe hB.out hb3); have CS := CS w1 Hw1.out; obtain ⟨j0, j1, j2⟩ := c3_ (Qc hbx.out Hw1.out); clear hb3 CN k0 k1 k2) | (go_at_call 66; (try rw [hW0]); go_loud (with_reducible refine CS.mono ?_); rintro r w2 ⟨rfl, hb3⟩; have Hw2 := Qb.mk (Qe Hw1.out hb3); have hB := Hw2; obtain ⟨k0, k1, k2⟩ := c3_ (Qc hbx.out Hw2.out); clear hb3 CS j0 j1 j2))
   go_ret
   exact ⟨_, rfl, hB0.out.trans (Hw2.out.mono hB0.out.size)⟩
  go_upto_region 6 with (first | (go_at_call 65; (try rw [hW0]); go_loud (with_reducible refine CN.mono ?_); rintro r w1 ⟨rfl, hb3⟩; have Hw1 := Qb.mk (Qe hB.out hb3); have CS := CS w1 Hw1.out; obtain ⟨j0, j1, j2⟩ := c3_ (Qc hbx.out Hw1.out); clear hb3 CN k0 k1 k2) | (go_at_call 66; (try rw [hW0]); go_loud (with_reducible refine CS.mono ?_); rintro r w2 ⟨rfl, hb3⟩; have Hw2 := Qb.mk (Qe Hw1.out hb3); have hB := Hw2; obtain ⟨k0, k1, k2⟩ := c3_ (Qc hbx.out Hw2.out); clear hb3 CS j0 j1 j2))
  clear Hw1 hW0
  rcases bd (60 < (d2.length : Int)) with z9 | z9
  rotate_left
  ·go_wp2
   go_ret
   exact ⟨_, rfl, hB0.out.trans (hB.out.mono hB0.out.size)⟩
  go_wp2
  clear k0 k1 k2
  go_loopg [4] (d2.length + 1) (fun kq v4 w' => ∃ (i : Nat), v4 = .int .i64 (i : Int) ∧ i + kq = d2.length + 1 ∧ 1 ≤ kq ∧ Qb (Below W0.heap.size W0 w'))
  case atStart => exact ⟨0, rfl, by omega, by omega, hB⟩
  case round =>
   clear hB
   obtain ⟨i, rfl, hi, hk, hBr⟩ := hrel
   obtain ⟨g, hg⟩ : ∃ g, g = gk := ⟨_, rfl⟩
   by_cases hlt : i < d2.length
   ·obtain ⟨k0, k1, k2⟩ := c3_ (Qc hbx.out hBr.out)
    have hxi : d2[i]? = some d2[i] := List.getElem?_eq_getElem hlt
    have hx := hd9.out.2 _ (List.getElem_mem hlt)
    generalize d2[i] = x at hxi hx
    obtain ⟨ad, P1, n1, rfl, ⟨e0, e1⟩, _, hCx⟩ := elemC (Kd.Qj (Kd.Qj hC2.out hB0.out) hBr.out) i hxi
    obtain ⟨bu, CU⟩ := upper_c x.f0 hx.1
    have hx9 : Qb (x.f1.length ≤ 10000000000000 ∧ ∀ t ∈ x.f1, RT t) := ⟨hx.2⟩
    obtain ⟨Wc, hWc⟩ : ∃ Wc, wr.alloc (.cells #[.string x.f0, .slice P1 x.f1.length n1] 65) = Wc := ⟨_, rfl⟩
    have hBc : Qb (Below wr.heap.size wr Wc) := ⟨by rw [← hWc]; exact Qd (Below.refl _ _) _⟩
    have hcx : Qb (Wc.heap[wr.heap.size]? = some (.cells #[.string x.f0, .slice P1 x.f1.length n1] 65 (0, 0))) := ⟨by rw [← hWc]; exact Qv wr _⟩
    have hCa := Qb.mk (Kd.Qj hCx hBc.out)
    have CU := CU Wc
    clear hCx hx hxi
    have p0 : (0 : Int) ≤ (i : Int) := by omega
    have p1 : (i : Int) < (d2.length : Int) := by omega
    have q1 : decide ((i : Int) < (d2.length : Int)) = true := decide_eq_true p1
    have hjn : Value.int .i64 (wrap64 ((i : Int) + 1)) = .int .i64 ((i + 1 : Nat) : Int) := by rw [wr1 i (by have := hd9.out.1; omega)]
    have u0 := (Qa hcx.out 0).trans rfl
    have u1 := (Qa hcx.out 1).trans rfl
    cases bu
    ·go_wp2_with (first | (go_at_call 65; (try rw [hWc]); go_loud (with_reducible refine CU.mono ?_); rintro r w3 ⟨rfl, hb3⟩; have hBC := Qb.mk hb3; have v1 := (Qa (Qc hcx.out hb3) 1).trans rfl; clear hb3 CU u0 u1))
     go_ret
     exact ⟨_, rfl, hB0.out.trans ((hBr.out.trans ((hBc.out.trans (hBC.out.mono hBc.out.size)).mono hBr.out.size)).mono hB0.out.size)⟩
    ·rcases bd (60 < (x.f1.length : Int)) with z9 | z9
     rotate_left
     ·go_wp2_with (first | (go_at_call 65; (try rw [hWc]); go_loud (with_reducible refine CU.mono ?_); rintro r w3 ⟨rfl, hb3⟩; have hBC := Qb.mk hb3; have v1 := (Qa (Qc hcx.out hb3) 1).trans rfl; clear hb3 CU u0 u1))
      go_ret
      exact ⟨_, rfl, hB0.out.trans ((hBr.out.trans ((hBc.out.trans (hBC.out.mono hBc.out.size)).mono hBr.out.size)).mono hB0.out.size)⟩
     go_wp2_with (first | (go_at_call 65; (try rw [hWc]); go_loud (with_reducible refine CU.mono ?_); rintro r w3 ⟨rfl, hb3⟩; have hBC := Qb.mk hb3; have v1 := (Qa (Qc hcx.out hb3) 1).trans rfl; clear hb3 CU u0 u1))
     clear v1
     go_loopg [6] (x.f1.length + 1) (fun kq v6 w' => ∃ (q : Nat), v6 = .int .i64 (q : Int) ∧ q + kq = x.f1.length + 1 ∧ 1 ≤ kq ∧ Qb (Below Wc.heap.size Wc w'))
     case atStart => exact ⟨0, rfl, by omega, by omega, hBC⟩
     case round =>
      clear hBC
      obtain ⟨q, rfl, hic, hkc, hBrc⟩ := hrel
      obtain ⟨gc, hgc⟩ : ∃ g, g = gk := ⟨_, rfl⟩
      by_cases hltc : q < x.f1.length
      ·have u1 := (Qa (Qc hcx.out hBrc.out) 1).trans rfl
       have hxi : x.f1[q]? = some x.f1[q] := List.getElem?_eq_getElem hltc
       have hx := hx9.out.2 _ (List.getElem_mem hltc)
       generalize x.f1[q] = t at hxi hx
       obtain ⟨adt, B1, e1, rfl, ⟨t0, t1⟩, hd, hCt⟩ := elemT (Kd.Qj hCa.out hBrc.out) q hxi
       have CX := vt_all _ t (Nat.le_refl _) hx wr hCt hd
       clear hCt hd hx hxi
       have p0 : (0 : Int) ≤ (q : Int) := by omega
       have p1 : (q : Int) < (x.f1.length : Int) := by omega
       have q1 : decide ((q : Int) < (x.f1.length : Int)) = true := decide_eq_true p1
       have hjnc : Value.int .i64 (wrap64 ((q : Int) + 1)) = .int .i64 ((q + 1 : Nat) : Int) := by rw [wr1 q (by have := hx9.out.1; omega)]
       go_wp2_with (first | (go_at_call 67; go_loud (with_reducible refine CX.mono ?_); rintro r w3 ⟨v, rfl, hb3⟩; have HB3 := Qb.mk (Qe hBrc.out hb3); clear hb3 CX))
       all_goals first | (go_ret; exact ⟨_, rfl, hB0.out.trans ((hBr.out.trans ((hBc.out.trans (HB3.out.mono hBc.out.size)).mono hBr.out.size)).mono hB0.out.size)⟩) | (go_roundg (gc - 1); (case measure => omega); (case rel => exact ⟨q + 1, by first | exact hjnc | rfl, by omega, by omega, HB3⟩))
      ·have q1 : decide ((q : Int) < (x.f1.length : Int)) = false := decide_eq_false (by omega)
       have hBC := hBrc
       clear hBrc hic hkc hgc
       have u1 := (Qa (Qc hcx.out hBC.out) 1).trans rfl
       have hBr := Qb.mk (hBr.out.trans ((hBc.out.trans (hBC.out.mono hBc.out.size)).mono hBr.out.size))
       clear hBC
       go_wp2
       go_roundg (g - 1)
       case measure => omega
       case rel => exact ⟨i + 1, by first | exact hjn | rfl, by omega, by omega, hBr⟩
   ·have q1 : decide ((i : Int) < (d2.length : Int)) = false := decide_eq_false (by omega)
    have hB := hBr
    clear hBr hi hk hg
    have CD := CD.out wr hB.out
    obtain ⟨k0, k1, k2⟩ := c3_ (Qc hbx.out hB.out)
    go_wp2_with (first | (go_at_call 69; go_loud (with_reducible refine CD.mono ?_); rintro r w3 ⟨s3, A3', n3', c3', z3', rfl, hz3, hc3, hn3, hb3⟩; have Hw3 := Qb.mk (Qe hB.out hb3); have CE := deep_1 (s := s3) hn3 hc3; have HN := Qb.mk hn3; have HC := Qb.mk hc3; clear hb3 CD hz3 hn3 hc3) | (go_at_call 68; go_loud (with_reducible refine CE.mono ?_); rintro r w5 ⟨v5, rfl, hb3⟩; have Hw5 := Qb.mk (Qe (Qd Hw3.out _) hb3); clear hb3 CE))
    all_goals go_ret
    all_goals exact ⟨_, rfl, hB0.out.trans (Hw5.out.mono hB0.out.size)⟩
def PB : Nat := 150000000000000000
mutual
theorem tN_B : ∀ t : S67, RT t → tsz (tN t) ≤ Zo t * (B47 + 20)
 | ⟨nm, l⟩, h => by
  simp only [RT] at h
  have h1 := tNL_B l h.2.2
  have h2 := h.1
  have e0 : (⟨#[]⟩ : ByteArray).size = 0 := rfl
  simp only [tN, Zo]
  rw [Nat.add_mul, Nat.one_mul]
  split
  ·simp only [wN, tsz, Zf]; omega
  ·simp only [wN, tsz, Zf, e0]; omega
theorem tNL_B : ∀ l : List S67, RTL l → Zf (tNL l) ≤ Zg l * (B47 + 20)
 | [], _ => by simp [tNL, Zf]
 | t :: l, h => by
  simp only [RTL] at h
  have h1 := tN_B t h.1
  have h2 := tNL_B l h.2
  simp only [tNL, Zf, Zg]
  rw [Nat.add_mul]
  omega
end
theorem sm_tcost : ∀ l : List S67, sm Zo l = Zg l
 | [] => rfl
 | t :: l => by have := sm_tcost l; simp only [sm, Zg, List.map_cons, List.sum_cons] at *; omega
theorem cBL_B : ∀ l : List S65, (∀ c ∈ l, RC c) → cBL l ≤ (l.length + sm cc l) * (B47 + 20)
 | [], _ => by simp [cBL]
 | c :: l, h => by
  have h1 := cBL_B l (fun x hx => h x (List.mem_cons_of_mem _ hx))
  have hc := h c (List.mem_cons_self ..)
  have h2 := hc.1
  have h3 := tNL_B c.f1 ((rtL_iff c.f1).2 hc.2.2)
  rw [tNL_map] at h3
  have h4 := sm_tcost c.f1
  have e1 : cBL (c :: l) = cB c + cBL l := by simp [cBL]
  have e2 : sm cc (c :: l) = cc c + sm cc l := by simp [sm]
  have e3 : cc c = sm Zo c.f1 := rfl
  have e4 : cB c = c.f0.size + 20 + Zf (c.f1.map tN) := rfl
  rw [e1, e2, e4, e3, h4, List.length_cons]
  have e5 : (l.length + 1 + (Zg c.f1 + sm cc l)) * (B47 + 20) = (l.length + sm cc l) * (B47 + 20) + (B47 + 20) + Zg c.f1 * (B47 + 20) := by
   rw [← Nat.succ_mul, ← Nat.add_mul]
   congr 1
   omega
  omega
theorem data_B {d : S56} (h : DOk d) : d.f0.size + nmz d.f1 + cBL d.f2 + 100 + 10 ≤ PB := by
 have h1 := h.1.1
 have h2 := nmz_len h.1.2.1.2
 have h3 := cBL_B d.f2 h.1.2.2.2
 have h4 := h.2
 unfold B47 at *
 unfold PB
 omega
theorem def_B {d : S34} (h : FOk d) : d.f0.size + nmz d.f1 + eB d.f2 + 100 + 10 ≤ PB := by
 have h1 := h.1.1
 have h2 := nmz_len h.1.2.1.2
 have h3 := eB_cn d.f2 h.1.2.2
 have h4 := h.2
 unfold B47 at *
 unfold PB
 omega
theorem text_1 {W : World} {q n c : Nat} {s : ByteArray} {A : Option Addr} {z : Nat} (hn : NL W q A n z) (hc : n ≤ c) (hz : s.size + 3 + z ≤ 3000000000000000000) :
  Calls Tryd.prog 73 #[.slice (some ⟨W.heap.size, 0, none⟩) 1 1] (W.alloc (.cells #[.string s, .slice A n c, .int .i64 0] 109)) fun e w' => ∃ t : ByteArray, e = .returned (.string t) ∧ t.size ≤ s.size + 3 + z ∧ Below (W.alloc (.cells #[.string s, .slice A n c, .int .i64 0] 109)).heap.size (W.alloc (.cells #[.string s, .slice A n c, .int .i64 0] 109)) w' := by
 obtain ⟨xs, ⟨_, hx⟩, hxz⟩ := hn
 have hb := Qv W (.cells #[.string s, .slice A n c, .int .i64 0] 109 (0, 0))
 have hK := nodeK (Kd.F_alloc hx (.cells #[.string s, .slice A n c, .int .i64 0] 109)) hc s
 have e1 : Zf [(⟨s, xs, 0⟩ : NdT)] = s.size + 3 + z := by simp only [Zf, tsz]; omega
 obtain ⟨r, hr, hrz⟩ := text_tot [⟨s, xs, 0⟩] (by rw [e1]; exact hz)
 refine (Qr.calls _ _ 1 [⟨s, xs, 0⟩] r _ (ZL hb (QB.c3 (Kd.FK_now hK) (QB.none _ _)) (by simp)) (Nat.le_refl _) hr).mono fun e w' h => ⟨r, h.1, by rw [e1] at hrz; exact hrz, by first | exact h.2 | exact h.2.below⟩
set_option maxHeartbeats 16000000 in
set_option maxRecDepth 100000 in
theorem text_c (ds : List S56) (fs : List S34) (hds : ds.length ≤ 8) (hfs : fs.length ≤ 12) (hD : ∀ d ∈ ds, DOk d) (hF : ∀ d ∈ fs, FOk d ∧ Shp d.f2) (w : World) (hg : GG w) {Ad Af : Option Addr} {nd nf : Nat} (h1 : k56.C w Ad ds.length ds) (h2 : k34.C w Af fs.length fs) :
  Calls Tryd.prog 53 #[.agg #[.slice Ad ds.length nd, .slice Af fs.length nf]] w fun e w' => ∃ t : ByteArray, e = .returned (.string t) ∧ Below w.heap.size w w' := by
 have hl9 := Qb.mk (And.intro hds hfs)
 have hD9 := Qb.mk hD
 have hF9 := Qb.mk hF
 have hC1 := Qb.mk h1
 have hC2 := Qb.mk h2
 have hg9 := Qb.mk hg
 clear h1 h2 hds hfs hD hF hg
 obtain ⟨W0, hW0⟩ : ∃ W0, w.alloc (.cells #[.slice Ad ds.length nd, .slice Af fs.length nf] 38) = W0 := ⟨_, rfl⟩
 have hB0 : Qb (Below w.heap.size w W0) := ⟨by rw [← hW0]; exact Qd (Below.refl _ _) _⟩
 have hbx : Qb (W0.heap[w.heap.size]? = some (.cells #[.slice Ad ds.length nd, .slice Af fs.length nf] 38 (0, 0))) := ⟨by rw [← hW0]; exact Qv w _⟩
 have hB : Qb (Below W0.heap.size W0 W0) := ⟨Below.refl _ _⟩
 go_enter Tryd.func53, Tryd.ntmps53
 go_wp2
 (try rw [hW0])
 clear hW0
 go_loopg [3, 4] (ds.length + 1) (fun kq v3 v4 w' => ∃ (s : ByteArray) (i : Nat), v3 = .string s ∧ v4 = .int .i64 (i : Int) ∧ i + kq = ds.length + 1 ∧ 1 ≤ kq ∧ Qb (Below W0.heap.size W0 w') ∧ Qb (s.size ≤ i * PB ∧ i ≤ ds.length))
 case atStart => exact ⟨_, 0, rfl, rfl, by omega, by omega, hB, ⟨Nat.zero_le _, Nat.zero_le _⟩⟩
 case round =>
  clear hB
  obtain ⟨s, i, rfl, rfl, hi, hk, hBr, hs⟩ := hrel
  obtain ⟨g, hg⟩ : ∃ g, g = gk := ⟨_, rfl⟩
  by_cases hlt : i < ds.length
  ·have k0 := (Qa (Qc hbx.out hBr.out) 0).trans rfl
   have k1 := (Qa (Qc hbx.out hBr.out) 1).trans rfl
   have hxi : ds[i]? = some ds[i] := List.getElem?_eq_getElem hlt
   have hx := hD9.out _ (List.getElem_mem hlt)
   generalize ds[i] = d at hxi hx
   obtain ⟨ad, P1, n1, P2, n2, rfl, ⟨e0, e1, e2⟩, m1, g1, m2, g2⟩ := elemD (Kd.Qj (Kd.Qj hC1.out hB0.out) hBr.out) i hxi
   have hxb := data_B hx
   have hxp := hx.parts
   have CX := dataNode_c d.f0 d.f1 d.f2 (by omega) (by omega) (fun x hx => ⟨by have := (hxp.2.2.2 x hx).1; omega, fun t ht => by have := (hxp.2.2.2 x hx).2 t ht; omega⟩) wr (c1 := n1) (c2 := n2) g1 g2
   clear hx hxi g1 g2 m1 m2 hxp
   have p0 : (0 : Int) ≤ (i : Int) := by omega
   have p1 : (i : Int) < (ds.length : Int) := by omega
   have q1 : decide ((i : Int) < (ds.length : Int)) = true := decide_eq_true p1
   have hjn : Value.int .i64 (wrap64 ((i : Int) + 1)) = .int .i64 ((i + 1 : Nat) : Int) := by rw [wr1 i (by have := hl9.out; omega)]
   have hs0 : Qb (s.size ≤ i * PB ∧ i < 8) := ⟨hs.out.1, by have := hl9.out; omega⟩
   clear hs
   go_wp2_with (first | (go_at_call 69; go_loud (with_reducible refine CX.mono ?_); rintro r w3 ⟨s3, A3', n3', c3', z3', rfl, hz3, hc3, hn3, hb3⟩; have Hw3 := Qb.mk (Qe hBr.out hb3); have CT := text_1 (s := s3) hn3 hc3 (by unfold PB at *; omega); have hz3 := Qb.mk hz3; clear hb3 CX hc3 hn3) | (go_at_call 73; go_loud (with_reducible refine CT.mono ?_); rintro r w4 ⟨t, rfl, ht, hb4⟩; have HB4 := Qb.mk (Qe (Qd Hw3.out _) hb4); have z1 : ¬ 9223372036854775807 < s.size + t.size := (by have := hs0.out; have := hz3.out; unfold PB at *; omega); have z2 : ¬ 9223372036854775807 < s.size + t.size + 1 := (by have := hs0.out; have := hz3.out; unfold PB at *; omega); have hs1 := Qb.mk (show t.size + 1 ≤ PB by have := hz3.out; unfold PB at *; omega); clear hb4 CT ht))
   go_roundg (g - 1)
   case measure => omega
   case rel => exact ⟨_, i + 1, rfl, by first | exact hjn | rfl, by omega, by omega, HB4, ⟨by have := hs0.out; have := hs1.out; have e1 : (⟨#[10]⟩ : ByteArray).size = 1 := rfl; simp only [ByteArray.size_append, e1]; unfold PB at *; omega, hlt⟩⟩
  ·have q1 : decide ((i : Int) < (ds.length : Int)) = false := decide_eq_false (by omega)
   have hB := hBr
   clear hBr hi hk hg
   have k0 := (Qa (Qc hbx.out hB.out) 0).trans rfl
   have k1 := (Qa (Qc hbx.out hB.out) 1).trans rfl
   go_wp2
   go_loopg [3, 5] (fs.length + 1) (fun kq v3 v5 w' => ∃ (s : ByteArray) (i : Nat), v3 = .string s ∧ v5 = .int .i64 (i : Int) ∧ i + kq = fs.length + 1 ∧ 1 ≤ kq ∧ Qb (Below W0.heap.size W0 w') ∧ Qb (s.size ≤ (8 + i) * PB ∧ i ≤ fs.length))
   case atStart => exact ⟨s, 0, rfl, rfl, by omega, by omega, hB, ⟨Nat.le_trans hs.out.1 (Nat.mul_le_mul_right _ (by have := hl9.out; have := hs.out.2; omega)), Nat.zero_le _⟩⟩
   case round =>
    clear hB
    obtain ⟨s, i, rfl, rfl, hi, hk, hBr, hs⟩ := hrel
    obtain ⟨g, hg⟩ : ∃ g, g = gk := ⟨_, rfl⟩
    by_cases hlt : i < fs.length
    ·have k0 := (Qa (Qc hbx.out hBr.out) 0).trans rfl
     have k1 := (Qa (Qc hbx.out hBr.out) 1).trans rfl
     have hxi : fs[i]? = some fs[i] := List.getElem?_eq_getElem hlt
     have hx := hF9.out _ (List.getElem_mem hlt)
     generalize fs[i] = d at hxi hx
     obtain ⟨ad, P1, n1, B3, d3, B4, d4, B5, d5, rfl, ⟨e0, e1, e2, e3, e4, e5, e6, e7⟩, m1, g1, g3, g4, g5, m3, m4, m5⟩ := elemF (Kd.Qj (Kd.Qj hC2.out hB0.out) hBr.out) i hxi
     have hxb := def_B hx.1
     have hxp := hx.1.parts
     have CX := defNode_c d.f0 d.f1 d.f2 (by omega) (exprNode_all _ d.f2 (Nat.le_refl _) hxp.2.2.2 hx.2) wr (GG.below hg9.out (hB0.out.trans (hBr.out.mono hB0.out.size))) (c1 := n1) (c3 := d3) (c4 := d4) (c5 := d5) g1 g3 g4 g5
     clear hx hxi g1 g3 g4 g5 m1 m3 m4 m5 hxp
     have p0 : (0 : Int) ≤ (i : Int) := by omega
     have p1 : (i : Int) < (fs.length : Int) := by omega
     have q1 : decide ((i : Int) < (fs.length : Int)) = true := decide_eq_true p1
     have hjn : Value.int .i64 (wrap64 ((i : Int) + 1)) = .int .i64 ((i + 1 : Nat) : Int) := by rw [wr1 i (by have := hl9.out; omega)]
     have hs0 : Qb (s.size ≤ (8 + i) * PB ∧ i < 12) := ⟨hs.out.1, by have := hl9.out; omega⟩
     clear hs
     go_wp2_with (first | (go_at_call 72; go_loud (with_reducible refine CX.mono ?_); rintro r w3 ⟨s3, A3', n3', c3', z3', rfl, hz3, hc3, hn3, hb3⟩; have Hw3 := Qb.mk (Qe hBr.out hb3); have CT := text_1 (s := s3) hn3 hc3 (by unfold PB at *; omega); have hz3 := Qb.mk hz3; clear hb3 CX hc3 hn3) | (go_at_call 73; go_loud (with_reducible refine CT.mono ?_); rintro r w4 ⟨t, rfl, ht, hb4⟩; have HB4 := Qb.mk (Qe (Qd Hw3.out _) hb4); have z1 : ¬ 9223372036854775807 < s.size + t.size := (by have := hs0.out; have := hz3.out; unfold PB at *; omega); have z2 : ¬ 9223372036854775807 < s.size + t.size + 1 := (by have := hs0.out; have := hz3.out; unfold PB at *; omega); have hs1 := Qb.mk (show t.size + 1 ≤ PB by have := hz3.out; unfold PB at *; omega); clear hb4 CT ht))
     go_roundg (g - 1)
     case measure => omega
     case rel => exact ⟨_, i + 1, rfl, by first | exact hjn | rfl, by omega, by omega, HB4, ⟨by have := hs0.out; have := hs1.out; have e1 : (⟨#[10]⟩ : ByteArray).size = 1 := rfl; simp only [ByteArray.size_append, e1]; unfold PB at *; omega, hlt⟩⟩
    ·have q1 : decide ((i : Int) < (fs.length : Int)) = false := decide_eq_false (by omega)
     have hB := hBr
     clear hBr hi hk hg
     have k0 := (Qa (Qc hbx.out hB.out) 0).trans rfl
     have k1 := (Qa (Qc hbx.out hB.out) 1).trans rfl
     go_wp2
     go_ret
     exact ⟨_, rfl, hB0.out.trans (hB.out.mono hB0.out.size)⟩
def AnyF (w : World) (e : Ending) (w' : World) : Prop := ∃ (v1 : Int) (v2 : Bool) (v3 : Int), e = .returned (.agg #[.int .i64 v1, .bool v2, .int .i64 v3]) ∧ Below w.heap.size w w'
theorem upto_next {α : Type} {P : α → Prop} {l : List α} {i : Nat} {x : α} (hx : l[i]? = some x) (h : ∀ (q : Nat), q < i → ∀ (y : α), l[q]? = some y → P y) (hp : P x) : ∀ (q : Nat), q < i + 1 → ∀ (y : α), l[q]? = some y → P y := fun q hq y hy => by
 by_cases e : q = i
 ·subst e; rw [hx] at hy; exact (Option.some.inj hy) ▸ hp
 ·exact h q (by omega) y hy
theorem bare_c (a : Int) (w : World) : Calls Tryd.prog 41 #[.int .i64 a] w (AnyF w) := (Vo.calls a a false 0 w rfl).mono fun e w' h => ⟨_, _, _, h.1, h.2⟩
theorem none_c (w : World) : Calls Tryd.prog 42 #[] w (AnyF w) := (Zh.calls 0 false 0 w rfl).mono fun e w' h => ⟨_, _, _, h.1, h.2⟩
theorem placed_c (a b : Int) (w : World) : Calls Tryd.prog 37 #[.int .i64 a, .int .i64 b] w (AnyF w) := by
 obtain ⟨⟨r1, r2, r3⟩, hr⟩ : ∃ r, Zq.f a b = some r := by
  unfold Zq.f Zh.f
  exact ite_ex ⟨_, rfl⟩ ⟨_, rfl⟩
 exact (Zq.calls a b r1 r2 r3 w hr).mono fun e w' h => ⟨_, _, _, h.1, h.2⟩
set_option maxHeartbeats 16000000 in
set_option maxRecDepth 100000 in
theorem valid_c (ds : List S56) (fs : List S34) (hds : ds.length ≤ 8) (hfs : fs.length ≤ 12) (hD : ∀ d ∈ ds, DOk d) (hF : ∀ d ∈ fs, FOk d) (w : World) (hg : GG w) {Ad Af : Option Addr} {nd nf : Nat} (h1 : k56.C w Ad ds.length ds) (h2 : k34.C w Af fs.length fs) :
  Calls Tryd.prog 34 #[.agg #[.slice Ad ds.length nd, .slice Af fs.length nf]] w (AnyF w) := by
 have E : ∀ W : World, ∀ o : Obj, (W.alloc o).heap.size = W.heap.size + 1 := fun W o => Array.size_push _
 obtain ⟨W0, hW0⟩ : ∃ W0, (w.alloc (.cells #[.slice Ad ds.length nd, .slice Af fs.length nf] 38)).alloc (.cells #[.int .i64 0, .bool false, .int .i64 0] 48) = W0 := ⟨_, rfl⟩
 have hB0 : Qb (Below w.heap.size w W0) := ⟨by rw [← hW0]; exact Qd (Qd (Below.refl _ _) _) _⟩
 have hbx : Qb (W0.heap[w.heap.size]? = some (.cells #[.slice Ad ds.length nd, .slice Af fs.length nf] 38 (0, 0))) := ⟨by rw [← hW0]; exact (Below.heap_alloc _ _ _ (by rw [E]; omega)).trans (Qv w _)⟩
 have hrx : Qb (W0.heap[w.heap.size + 1]? = some (.cells #[.int .i64 0, .bool false, .int .i64 0] 48 (0, 0))) := ⟨by rw [← hW0]; rw [← E w]; exact Qv _ _⟩
 have hB : Qb (Below W0.heap.size W0 W0) := ⟨Below.refl _ _⟩
 have hl9 := Qb.mk (And.intro hds hfs)
 have hD9 := Qb.mk hD
 have hF9 := Qb.mk hF
 have hC1 := Qb.mk h1
 have hC2 := Qb.mk h2
 have hg9 := Qb.mk hg
 have CS := size_c ds fs (by unfold BL; omega) (by unfold BL; omega) (fun d hd => (hD d hd).1) (fun d hd => (hF d hd).1) W0 (nd := nd) (nf := nf) (Kd.Qj h1 hB0.out) (Kd.Qj h2 hB0.out)
 have CT := Qb.mk (fun (W : World) (hb : Below W0.heap.size W0 W) (hs : ∀ (q : Nat) (y : S34), fs[q]? = some y → Shp y.f2) => text_c ds fs hds hfs hD (fun d hd => ⟨hF d hd, by obtain ⟨q, hq, rfl⟩ := List.getElem_of_mem hd; exact hs q _ (List.getElem?_eq_getElem hq)⟩) W (GG.below hg (hB0.out.trans (hb.mono hB0.out.size))) (nd := nd) (nf := nf) (Kd.Qj (Kd.Qj h1 hB0.out) hb) (Kd.Qj (Kd.Qj h2 hB0.out) hb))
 have q8 : decide (200 < (ds.length : Int)) = false := decide_eq_false (by omega)
 have q12 : decide (200 < (fs.length : Int)) = false := decide_eq_false (by omega)
 have k0 := (Qa hbx.out 0).trans rfl
 have k1 := (Qa hbx.out 1).trans rfl
 clear h1 h2 hds hfs hD hF hg
 go_enter Tryd.func34, Tryd.ntmps34
 go_upto_region 1 with (fail)
 (try rw [hW0])
 clear hW0
 go_cut [21] (fun v21 wc => ∃ b : Bool, v21 = .bool b ∧ Qb (Below W0.heap.size W0 wc))
 case first => as_aux_lemma =>
  go_wp2_with (first | (go_at_call 50; go_loud (with_reducible refine CS.mono ?_); rintro r w3 ⟨v, rfl, hb3⟩; have HB3 := Qb.mk (Qe hB.out hb3); clear hb3 CS))
  go_meet
  case rel => exact ⟨_, rfl, HB3⟩
 case rest =>
  obtain ⟨b, rfl, hB⟩ := hcut
  rename World => wr
  clear CS q8 q12 k0 k1
  cases b
  ·go_wp2
   go_loopg [3] (ds.length + 1) (fun kq v3 w' => ∃ (i : Nat), v3 = .int .i64 (i : Int) ∧ i + kq = ds.length + 1 ∧ 1 ≤ kq ∧ Qb (Below W0.heap.size W0 w'))
   case atStart => exact ⟨0, rfl, by omega, by omega, hB⟩
   case round =>
    clear hB
    obtain ⟨i, rfl, hi, hk, hBr⟩ := hrel
    obtain ⟨g, hg⟩ : ∃ g, g = gk := ⟨_, rfl⟩
    by_cases hlt : i < ds.length
    ·have k0 := (Qa (Qc hbx.out hBr.out) 0).trans rfl
     have k1 := (Qa (Qc hbx.out hBr.out) 1).trans rfl
     have hxi : ds[i]? = some ds[i] := List.getElem?_eq_getElem hlt
     have hx := hD9.out _ (List.getElem_mem hlt)
     generalize ds[i] = d at hxi hx
     obtain ⟨ad, P1, n1, P2, n2, rfl, ⟨e0, e1, e2⟩, m1, g1, m2, g2⟩ := elemD (Kd.Qj (Kd.Qj hC1.out hB0.out) hBr.out) i hxi
     have CX := validData_c d hx wr g1 m1 g2 m2
     clear hx hxi g1 g2 m1 m2
     have p0 : (0 : Int) ≤ (i : Int) := by omega
     have p1 : (i : Int) < (ds.length : Int) := by omega
     have q1 : decide ((i : Int) < (ds.length : Int)) = true := decide_eq_true p1
     have hjn : Value.int .i64 (wrap64 ((i : Int) + 1)) = .int .i64 ((i + 1 : Nat) : Int) := by rw [wr1 i (by have := hl9.out; omega)]
     go_wp2_with (first | (go_at_call 51; go_loud (with_reducible refine CX.mono ?_); rintro r w3 ⟨v, rfl, hb3⟩; have HB3 := Qb.mk (Qe hBr.out hb3); rcases bq v 0 with ⟨a1, b1⟩ | ⟨a1, b1⟩; clear hb3 CX) | (go_at_call 37; go_loud (with_reducible refine (placed_c _ _ _).mono ?_); rintro r w9 ⟨y1, y2, y3, rfl, hb9⟩; have H9 := Qb.mk (Qe HB3.out hb9); have hr1 := Qb.mk (Qc hrx.out H9.out); have j0 := (Qa hr1.out 0).trans rfl; have j1 := (Qa hr1.out 1).trans rfl; have j2 := (Qa hr1.out 2).trans rfl; have z0 := Qg hr1.out 0; have z1 := Qg hr1.out 1; have z2 := Qg hr1.out 2; clear hb9))
     all_goals first | (refine bodyPost_ret (v := .agg #[.int .i64 y1, .bool y2, .int .i64 y3]) (by simp [results, Tryd.results34, go_sem, *]) rfl ⟨_, _, _, rfl, ?_⟩; exact below3 (q := w.heap.size + 1) (hB0.out.trans (H9.out.mono hB0.out.size)) (by omega) _ _ _) | (go_roundg (g - 1); (case measure => omega); (case rel => exact ⟨i + 1, by first | exact hjn | rfl, by omega, by omega, HB3⟩))
    ·have q1 : decide ((i : Int) < (ds.length : Int)) = false := decide_eq_false (by omega)
     have hB := hBr
     clear hBr hi hk hg
     have k0 := (Qa (Qc hbx.out hB.out) 0).trans rfl
     have k1 := (Qa (Qc hbx.out hB.out) 1).trans rfl
     go_wp2
     go_loopg [5] (fs.length + 1) (fun kq v5 w' => ∃ (i : Nat), v5 = .int .i64 (i : Int) ∧ i + kq = fs.length + 1 ∧ 1 ≤ kq ∧ Qb (Below W0.heap.size W0 w') ∧ Qb (∀ (q : Nat), q < i → ∀ (y : S34), fs[q]? = some y → Shp y.f2))
     case atStart => exact ⟨0, rfl, by omega, by omega, hB, ⟨fun q hq => by omega⟩⟩
     case round =>
      clear hB
      obtain ⟨i, rfl, hi, hk, hBr, hs⟩ := hrel
      obtain ⟨g, hg⟩ : ∃ g, g = gk := ⟨_, rfl⟩
      by_cases hlt : i < fs.length
      ·have k0 := (Qa (Qc hbx.out hBr.out) 0).trans rfl
       have k1 := (Qa (Qc hbx.out hBr.out) 1).trans rfl
       have hxi : fs[i]? = some fs[i] := List.getElem?_eq_getElem hlt
       have hx := hF9.out _ (List.getElem_mem hlt)
       generalize fs[i] = d at hxi hx
       have hsx := fun (h : Shp d.f2) => upto_next (P := fun d => Shp d.f2) hxi hs.out h
       obtain ⟨ad, P1, n1, B3, d3, B4, d4, B5, d5, rfl, ⟨e0, e1, e2, e3, e4, e5, e6, e7⟩, m1, g1, g3, g4, g5, m3, m4, m5⟩ := elemF (Kd.Qj (Kd.Qj hC2.out hB0.out) hBr.out) i hxi
       have CX := validDef_c d hx wr (GG.below hg9.out (hB0.out.trans (hBr.out.mono hB0.out.size))) g1 m1 g3 m3 g4 m4 g5 m5
       have hsx := Qb.mk hsx
       clear hx hxi g1 g3 g4 g5 m1 m3 m4 m5
       have p0 : (0 : Int) ≤ (i : Int) := by omega
       have p1 : (i : Int) < (fs.length : Int) := by omega
       have q1 : decide ((i : Int) < (fs.length : Int)) = true := decide_eq_true p1
       have hjn : Value.int .i64 (wrap64 ((i : Int) + 1)) = .int .i64 ((i + 1 : Nat) : Int) := by rw [wr1 i (by have := hl9.out; omega)]
       go_wp2_with (first | (go_at_call 52; go_loud (with_reducible refine CX.mono ?_); rintro r w3 ⟨v, rfl, hv, hb3⟩; have HB3 := Qb.mk (Qe hBr.out hb3); have hv := Qb.mk hv; have m0 := (Qa (Qc hbx.out HB3.out) 0).trans rfl; clear hb3 CX k0 k1) | (go_at_call 37; go_loud (with_reducible refine (placed_c _ _ _).mono ?_); rintro r w9 ⟨y1, y2, y3, rfl, hb9⟩; have H9 := Qb.mk (Qe HB3.out hb9); have hr1 := Qb.mk (Qc hrx.out H9.out); have j0 := (Qa hr1.out 0).trans rfl; have j1 := (Qa hr1.out 1).trans rfl; have j2 := (Qa hr1.out 2).trans rfl; have z0 := Qg hr1.out 0; have z1 := Qg hr1.out 1; have z2 := Qg hr1.out 2; clear hb9))
       all_goals first | (refine bodyPost_ret (v := .agg #[.int .i64 y1, .bool y2, .int .i64 y3]) (by simp [results, Tryd.results34, go_sem, *]) rfl ⟨_, _, _, rfl, ?_⟩; exact below3 (q := w.heap.size + 1) (hB0.out.trans (H9.out.mono hB0.out.size)) (by omega) _ _ _) | (go_roundg (g - 1); (case measure => omega); (case rel => exact ⟨i + 1, by first | exact hjn | rfl, by omega, by omega, HB3, ⟨hsx.out (hv.out (bne_eq_false_iff_eq.1 (by assumption)))⟩⟩))
      ·have q1 : decide ((i : Int) < (fs.length : Int)) = false := decide_eq_false (by omega)
       have hB := hBr
       clear hBr hi hk hg
       have hs : Qb (∀ (q : Nat), q < fs.length → ∀ (y : S34), fs[q]? = some y → Shp y.f2) := ⟨fun q hq y hy => hs.out q (by omega) y hy⟩
       have k0 := (Qa (Qc hbx.out hB.out) 0).trans rfl
       have k1 := (Qa (Qc hbx.out hB.out) 1).trans rfl
       have CT := CT.out wr hB.out (fun q y hy => hs.out q (List.getElem?_eq_some_iff.1 hy).1 y hy)
       go_wp2_with (first | (go_at_call 53; go_loud (with_reducible refine CT.mono ?_); rintro r w3 ⟨t, rfl, hb3⟩; have HB3 := Qb.mk (Qe hB.out hb3); clear hb3 CT) | (go_at_call 41; go_loud (with_reducible refine (bare_c 104 _).mono ?_); rintro r w9 ⟨y1, y2, y3, rfl, hb9⟩; have H9 := Qb.mk (Qe HB3.out hb9); have hr1 := Qb.mk (Qc hrx.out H9.out); have j0 := (Qa hr1.out 0).trans rfl; have j1 := (Qa hr1.out 1).trans rfl; have j2 := (Qa hr1.out 2).trans rfl; have z0 := Qg hr1.out 0; have z1 := Qg hr1.out 1; have z2 := Qg hr1.out 2; clear hb9) | (go_at_call 42; go_loud (with_reducible refine (none_c _).mono ?_); rintro r w9 ⟨y1, y2, y3, rfl, hb9⟩; have H9 := Qb.mk (Qe HB3.out hb9); have hr1 := Qb.mk (Qc hrx.out H9.out); have j0 := (Qa hr1.out 0).trans rfl; have j1 := (Qa hr1.out 1).trans rfl; have j2 := (Qa hr1.out 2).trans rfl; have z0 := Qg hr1.out 0; have z1 := Qg hr1.out 1; have z2 := Qg hr1.out 2; clear hb9))
       all_goals (refine bodyPost_ret (v := .agg #[.int .i64 y1, .bool y2, .int .i64 y3]) (by simp [results, Tryd.results34, go_sem, *]) rfl ⟨_, _, _, rfl, ?_⟩; exact below3 (q := w.heap.size + 1) (hB0.out.trans (H9.out.mono hB0.out.size)) (by omega) _ _ _)
  ·go_wp2_with (first | (go_at_call 41; go_loud (with_reducible refine (bare_c 104 _).mono ?_); rintro r w9 ⟨y1, y2, y3, rfl, hb9⟩; have H9 := Qb.mk (Qe hB.out hb9); have hr1 := Qb.mk (Qc hrx.out H9.out); have j0 := (Qa hr1.out 0).trans rfl; have j1 := (Qa hr1.out 1).trans rfl; have j2 := (Qa hr1.out 2).trans rfl; have z0 := Qg hr1.out 0; have z1 := Qg hr1.out 1; have z2 := Qg hr1.out 2; clear hb9))
   refine bodyPost_ret (v := .agg #[.int .i64 y1, .bool y2, .int .i64 y3]) (by simp [results, Tryd.results34, go_sem, *]) rfl ⟨_, _, _, rfl, ?_⟩
   exact below3 (q := w.heap.size + 1) (hB0.out.trans (H9.out.mono hB0.out.size)) (by omega) _ _ _
theorem has_c (l : List ByteArray) (s : ByteArray) (hl : l.length ≤ 1000000000000) : ∃ b : Bool, ∀ (w : World) {A : Option Addr} {c : Nat}, Kd.string.C w A l.length l → l.length ≤ c → Calls Tryd.prog 35 #[.slice A l.length c, .string s] w fun e w' => e = .returned (.bool b) ∧ Below w.heap.size w w' := by
 obtain ⟨r, hr⟩ := has_tot l s hl (l.length + 1) (by omega)
 exact ⟨r, fun w A c hC hc => (Q3.calls _ A c l s r w hC hc hr).mono fun e w' h => ⟨h.1, h.2.below⟩⟩
theorem twice_c (l : List ByteArray) (hl : l.length ≤ 1000000000000) : ∃ b : Bool, ∀ (w : World) {A : Option Addr} {c : Nat}, Kd.string.C w A l.length l → l.length ≤ c → Calls Tryd.prog 36 #[.slice A l.length c] w fun e w' => e = .returned (.bool b) ∧ Below w.heap.size w w' := by
 obtain ⟨r, hr⟩ := twice_tot l hl (2 * l.length + 2) (by omega)
 exact ⟨r, fun w A c hC hc => QR.calls _ A c l r w hC hc hr⟩
theorem small_c (s : ByteArray) : ∃ b : Bool, ∀ w : World, Calls Tryd.prog 57 #[.string s] w fun e w' => e = .returned (.bool b) ∧ Below w.heap.size w w' := by
 obtain ⟨r, hr⟩ := small_f s
 exact ⟨r, fun w => (Zt.calls s r w hr).mono fun e w' h => ⟨h.1, h.2.below⟩⟩
section
variable (s : ByteArray) (ds : List S56) (fs : List S34)
theorem findData_c (hl : ds.length ≤ BL) : ∃ v : Int, v < ds.length ∧ ∀ (w : World) {Ad Af : Option Addr} {nd nf : Nat}, k56.C w Ad ds.length ds → ds.length ≤ nd → k34.C w Af fs.length fs → fs.length ≤ nf → Calls Tryd.prog 56 #[.agg #[.slice Ad ds.length nd, .slice Af fs.length nf], .string s] w fun e w' => e = .returned (.int .i64 v) ∧ Below w.heap.size w w' := by
 obtain ⟨r, hr, hlt⟩ := findData_tot s ds fs hl (ds.length + 1) (by omega)
 exact ⟨r, hlt, fun w Ad Af nd nf h1 l1 h2 l2 => Qz.calls _ Ad nd ds Af nf fs s r w h1 l1 h2 l2 hr⟩
theorem findDef_c (hl : fs.length ≤ BL) : ∃ v : Int, v < fs.length ∧ ∀ (w : World) {Ad Af : Option Addr} {nd nf : Nat}, k56.C w Ad ds.length ds → ds.length ≤ nd → k34.C w Af fs.length fs → fs.length ≤ nf → Calls Tryd.prog 40 #[.agg #[.slice Ad ds.length nd, .slice Af fs.length nf], .string s] w fun e w' => e = .returned (.int .i64 v) ∧ Below w.heap.size w w' := by
 obtain ⟨r, hr, hlt⟩ := findDef_tot s ds fs hl (fs.length + 1) (by omega)
 exact ⟨r, hlt, fun w Ad Af nd nf h1 l1 h2 l2 => Q7.calls _ Ad nd ds Af nf fs s r w h1 l1 h2 l2 hr⟩
theorem findCons_c (hl : ds.length ≤ BL) (hc : ∀ d ∈ ds, d.f2.length ≤ BL) : ∃ p : Int × Int, Pl ds p ∧ ∀ (w : World) {Ad Af : Option Addr} {nd nf : Nat}, k56.C w Ad ds.length ds → ds.length ≤ nd → k34.C w Af fs.length fs → fs.length ≤ nf → Calls Tryd.prog 58 #[.agg #[.slice Ad ds.length nd, .slice Af fs.length nf], .string s] w fun e w' => e = .returned (.tuple #[.int .i64 p.1, .int .i64 p.2]) ∧ Below w.heap.size w w' := by
 obtain ⟨⟨r1, r2⟩, hr, hp⟩ := findCons_tot s ds fs hl hc (cL ds + 1) (Nat.le_refl _)
 exact ⟨(r1, r2), hp, fun w Ad Af nd nf h1 l1 h2 l2 => Qn.calls _ Ad nd ds Af nf fs s r1 r2 w h1 l1 h2 l2 hr⟩
end
def CY (ds : List S56) (fs : List S34) (d0 : ByteArray) (d1 : List ByteArray) (d2 : List S65) (t : S67) : Prop := ∀ (w : World) {Ad Af A1 A2 A : Option Addr} {nd nf c1 c2 c : Nat}, k56.C w Ad ds.length ds → ds.length ≤ nd → k34.C w Af fs.length fs → fs.length ≤ nf → Kd.string.C w A1 d1.length d1 → d1.length ≤ c1 → k67.C w A t.f1.length t.f1 → t.f1.length ≤ c →
 Calls Tryd.prog 38 #[.agg #[.slice Ad ds.length nd, .slice Af fs.length nf], .agg #[.string d0, .slice A1 d1.length c1, .slice A2 d2.length c2], .agg #[.string t.f0, .slice A t.f1.length c]] w (AnyI w)
set_option maxHeartbeats 16000000 in
set_option maxRecDepth 100000 in
theorem cy_step (ds : List S56) (fs : List S34) (hds : ds.length ≤ BL) (d0 : ByteArray) (d1 : List ByteArray) (d2 : List S65) (hd1 : d1.length ≤ 1000000000000) (t : S67) (hl : t.f1.length ≤ BL) (ih : ∀ x ∈ t.f1, CY ds fs d0 d1 d2 x) : CY ds fs d0 d1 d2 t := by
 intro w Ad Af A1 A2 A nd nf c1 c2 c hd ld hf lf hp lp hC hc
 have E : ∀ W : World, ∀ o : Obj, (W.alloc o).heap.size = W.heap.size + 1 := fun W o => Array.size_push _
 obtain ⟨nm, l⟩ := t
 dsimp only at *
 obtain ⟨W0, hW0⟩ : ∃ W0, ((w.alloc (.cells #[.slice Ad ds.length nd, .slice Af fs.length nf] 38)).alloc (.cells #[.string d0, .slice A1 d1.length c1, .slice A2 d2.length c2] 56)).alloc (.cells #[.string nm, .slice A l.length c] 67) = W0 := ⟨_, rfl⟩
 have hB0 : Qb (Below w.heap.size w W0) := ⟨by rw [← hW0]; exact Qd (Qd (Qd (Below.refl _ _) _) _) _⟩
 have hbp : Qb (W0.heap[w.heap.size]? = some (.cells #[.slice Ad ds.length nd, .slice Af fs.length nf] 38 (0, 0))) := ⟨by rw [← hW0]; exact (Below.heap_alloc _ _ _ (by rw [E, E]; omega)).trans ((Below.heap_alloc _ _ _ (by rw [E]; omega)).trans (Qv w _))⟩
 have hbd : Qb (W0.heap[w.heap.size + 1]? = some (.cells #[.string d0, .slice A1 d1.length c1, .slice A2 d2.length c2] 56 (0, 0))) := ⟨by rw [← hW0]; refine (Below.heap_alloc _ _ _ (by rw [E, E]; omega)).trans ?_; rw [← E w]; exact Qv _ _⟩
 have hbt : Qb (W0.heap[w.heap.size + 1 + 1]? = some (.cells #[.string nm, .slice A l.length c] 67 (0, 0))) := ⟨by rw [← hW0]; rw [← E w, ← E]; exact Qv _ _⟩
 obtain ⟨vd, hvd, CD⟩ := findData_c nm ds fs hds
 have CD := CD W0 (Kd.Qj hd hB0.out) ld (Kd.Qj hf hB0.out) lf
 unfold BL at hds hl
 have hl9 := Qb.mk (And.intro hds (And.intro hd1 hl))
 have hih := Qb.mk ih
 have hCd := Qb.mk (And.intro hd (And.intro ld hvd))
 have hCf := Qb.mk (And.intro hf lf)
 have hCp := Qb.mk (And.intro hp lp)
 have hCt := Qb.mk hC
 clear hd ld hf lf hp lp hC hc hds hd1 hl ih hvd
 have k0 := (Qa hbp.out 0).trans rfl
 have k1 := (Qa hbp.out 1).trans rfl
 have m0 := (Qa hbd.out 0).trans rfl
 have m1 := (Qa hbd.out 1).trans rfl
 have m2 := (Qa hbd.out 2).trans rfl
 have n0 := (Qa hbt.out 0).trans rfl
 have n1 := (Qa hbt.out 1).trans rfl
 go_enter Tryd.func38, Tryd.ntmps38
 go_upto_block 0 with (first | (go_at_call 56; (try rw [hW0]); go_loud (with_reducible refine CD.mono ?_); rintro r w1 ⟨rfl, hb3⟩; have hB := Qb.mk hb3; clear hb3 CD k0 k1 m0 m1 m2 n0 n1))
 rename World => wr
 clear hW0
 go_cut [7] (fun v7 wc => ∃ x : Int, v7 = .int .i64 x ∧ Qb (Below W0.heap.size W0 wc))
 case first => as_aux_lemma =>
  obtain ⟨bs, CS⟩ := small_c nm
  have CS := CS wr
  have k0 := (Qa (Qc hbp.out hB.out) 0).trans rfl
  have k1 := (Qa (Qc hbp.out hB.out) 1).trans rfl
  have m0 := (Qa (Qc hbd.out hB.out) 0).trans rfl
  have m1 := (Qa (Qc hbd.out hB.out) 1).trans rfl
  have m2 := (Qa (Qc hbd.out hB.out) 2).trans rfl
  have n0 := (Qa (Qc hbt.out hB.out) 0).trans rfl
  have n1 := (Qa (Qc hbt.out hB.out) 1).trans rfl
  cases bs
  ·go_upto_region 6 with ((go_at_call 57; go_loud (with_reducible refine CS.mono ?_); rintro r w3 ⟨rfl, hb3⟩; have H3 := Qb.mk (Qe hB.out hb3); clear hb3 CS k0 k1 m0 m1 m2 n0 n1))
   have k0 := (Qa (Qc hbp.out H3.out) 0).trans rfl
   have k1 := (Qa (Qc hbp.out H3.out) 1).trans rfl
   have m0 := (Qa (Qc hbd.out H3.out) 0).trans rfl
   have m1 := (Qa (Qc hbd.out H3.out) 1).trans rfl
   have m2 := (Qa (Qc hbd.out H3.out) 2).trans rfl
   have n0 := (Qa (Qc hbt.out H3.out) 0).trans rfl
   have n1 := (Qa (Qc hbt.out H3.out) 1).trans rfl
   rcases bq (nm.toList) ([45, 62] : List UInt8) with ⟨a1, b1⟩ | ⟨a1, b1⟩
   ·go_wp2
    go_meet
    case rel => exact ⟨2, rfl, H3⟩
   ·by_cases hv : 0 ≤ vd
    ·have q2 : decide (0 ≤ vd) = true := decide_eq_true hv
     obtain ⟨j, rfl⟩ := Int.eq_ofNat_of_zero_le hv
     have hj : j < ds.length := by have := hCd.out.2.2; omega
     obtain ⟨ad, P1, n1', P2, n2', e, ⟨e0, e1, e2⟩, _, _, _, _⟩ := elemD (Kd.Qj (Kd.Qj hCd.out.1 hB0.out) H3.out) j (List.getElem?_eq_getElem hj)
     subst e
     have p0 : (0 : Int) ≤ (j : Int) := by omega
     have p1 : (j : Int) < (ds.length : Int) := by omega
     go_wp2
     go_meet
     case rel => exact ⟨(ds[j].f1.length : Int), rfl, H3⟩
    ·have q2 : decide (0 ≤ vd) = false := decide_eq_false hv
     rcases bq (nm.toList) ([73, 110, 116] : List UInt8) with ⟨a2, b2⟩ | ⟨a2, b2⟩
     ·go_wp2
      go_meet
      case rel => exact ⟨0, rfl, H3⟩
     ·rcases bq (nm.toList) ([70, 108, 111, 97, 116] : List UInt8) with ⟨a3, b3⟩ | ⟨a3, b3⟩
      ·go_wp2
       go_meet
       case rel => exact ⟨0, rfl, H3⟩
      ·go_wp2
       go_ret
       exact ⟨_, rfl, hB0.out.trans (H3.out.mono hB0.out.size)⟩
  ·go_upto_region 4 with ((go_at_call 57; go_loud (with_reducible refine CS.mono ?_); rintro r w3 ⟨rfl, hb3⟩; have H3 := Qb.mk (Qe hB.out hb3); clear hb3 CS k0 k1 m0 m1 m2 n0 n1))
   have k0 := (Qa (Qc hbp.out H3.out) 0).trans rfl
   have k1 := (Qa (Qc hbp.out H3.out) 1).trans rfl
   have m0 := (Qa (Qc hbd.out H3.out) 0).trans rfl
   have m1 := (Qa (Qc hbd.out H3.out) 1).trans rfl
   have m2 := (Qa (Qc hbd.out H3.out) 2).trans rfl
   have n0 := (Qa (Qc hbt.out H3.out) 0).trans rfl
   have n1 := (Qa (Qc hbt.out H3.out) 1).trans rfl
   obtain ⟨bh, CH⟩ := has_c d1 nm (by have := hl9.out; omega)
   have CH := CH w3 (Kd.Qj (Kd.Qj hCp.out.1 hB0.out) H3.out) hCp.out.2
   cases bh
   ·go_wp2_with (first | (go_at_call 35; go_loud (with_reducible refine CH.mono ?_); rintro r w4 ⟨rfl, hb3⟩; have H4 := Qb.mk (Qe H3.out hb3); clear hb3 CH k0 k1 m0 m1 m2 n0 n1))
    go_ret
    exact ⟨_, rfl, hB0.out.trans (H4.out.mono hB0.out.size)⟩
   ·go_wp2_with (first | (go_at_call 35; go_loud (with_reducible refine CH.mono ?_); rintro r w4 ⟨rfl, hb3⟩; have H4 := Qb.mk (Qe H3.out hb3); clear hb3 CH k0 k1 m0 m1 m2 n0 n1))
    go_meet
    case rel => exact ⟨0, rfl, H4⟩
 case rest =>
  obtain ⟨x, rfl, hB2⟩ := hcut
  clear hB
  have hB := hB2
  clear hB2
  rename World => wr
  have n1 := (Qa (Qc hbt.out hB.out) 1).trans rfl
  rcases bq (l.length : Int) x with ⟨a1, b1⟩ | ⟨a1, b1⟩
  rotate_left
  ·go_wp2
   go_ret
   exact ⟨_, rfl, hB0.out.trans (hB.out.mono hB0.out.size)⟩
  go_wp2
  go_loopg [9] (l.length + 1) (fun kq v9 w' => ∃ (i : Nat), v9 = .int .i64 (i : Int) ∧ i + kq = l.length + 1 ∧ 1 ≤ kq ∧ Qb (Below W0.heap.size W0 w'))
  case atStart => exact ⟨0, rfl, by omega, by omega, hB⟩
  case round =>
   clear hB
   obtain ⟨i, rfl, hi, hk, hBr⟩ := hrel
   obtain ⟨g, hg⟩ : ∃ g, g = gk := ⟨_, rfl⟩
   by_cases hlt : i < l.length
   ·have n1 := (Qa (Qc hbt.out hBr.out) 1).trans rfl
    have hxi : l[i]? = some l[i] := List.getElem?_eq_getElem hlt
    have hx := hih.out _ (List.getElem_mem hlt)
    generalize l[i] = x at hxi hx
    obtain ⟨ad, B1, b1, rfl, he, hd, hCx⟩ := elemT (Kd.Qj (Kd.Qj hCt.out hB0.out) hBr.out) i hxi
    have he := Qb.mk he
    have CX : ∀ W, Below wr.heap.size wr W → _ := fun W hb => hx W (Ad := Ad) (Af := Af) (A1 := A1) (A2 := A2) (nd := nd) (nf := nf) (c1 := c1) (c2 := c2) (Kd.Qj (Kd.Qj (Kd.Qj hCd.out.1 hB0.out) hBr.out) hb) hCd.out.2.1 (Kd.Qj (Kd.Qj (Kd.Qj hCf.out.1 hB0.out) hBr.out) hb) hCf.out.2 (Kd.Qj (Kd.Qj (Kd.Qj hCp.out.1 hB0.out) hBr.out) hb) hCp.out.2 (Kd.Qj hCx hb) hd
    clear hx hxi
    have p0 : (0 : Int) ≤ (i : Int) := by omega
    have p1 : (i : Int) < (l.length : Int) := by omega
    have q1 : decide ((i : Int) < (l.length : Int)) = true := decide_eq_true p1
    have hjn : Value.int .i64 (wrap64 ((i : Int) + 1)) = .int .i64 ((i + 1 : Nat) : Int) := by rw [wr1 i (by have := hl9.out; omega)]
    go_wp2
    have HB_ : Below wr.heap.size wr wr.drew := Qi (Below.refl _ _)
    refine QZ (n := 9) (S := fun w' => w'.cell? ⟨w.heap.size, 0, none⟩ = some (.slice Ad ds.length nd) ∧ w'.cell? ⟨w.heap.size, 1, none⟩ = some (.slice Af fs.length nf) ∧ w'.cell? ⟨w.heap.size + 1, 0, none⟩ = some (.string d0) ∧ w'.cell? ⟨w.heap.size + 1, 1, none⟩ = some (.slice A1 d1.length c1) ∧ w'.cell? ⟨w.heap.size + 1, 2, none⟩ = some (.slice A2 d2.length c2) ∧ w'.cell? ⟨w.heap.size + 1 + 1, 1, none⟩ = some (.slice (some ad) l.length c) ∧ w'.cell? (ad.add (i * 2)) = some (.string x.f0) ∧ w'.cell? ⟨(ad.add (i * 2)).block, (ad.add (i * 2)).off + 1, none⟩ = some (.slice B1 x.f1.length b1)) (ds := []) (bm 9 0) (by kernel_rfl) rfl rfl ⟨(Qa (Qc (Qc hbp.out hBr.out) HB_) 0).trans rfl, (Qa (Qc (Qc hbp.out hBr.out) HB_) 1).trans rfl, (Qa (Qc (Qc hbd.out hBr.out) HB_) 0).trans rfl, (Qa (Qc (Qc hbd.out hBr.out) HB_) 1).trans rfl, (Qa (Qc (Qc hbd.out hBr.out) HB_) 2).trans rfl, (Qa (Qc (Qc hbt.out hBr.out) HB_) 1).trans rfl, (HB_.cell (World.block_lt_of_cell? _ _ he.out.1)).trans he.out.1, (HB_.cell (World.block_lt_of_cell? _ _ he.out.2)).trans he.out.2⟩ (fun hHeld => ?_)
    generalize wr.drew = W9 at *
    refine Q4 (i := 2) (N := some 62) (v := ?_) (a' := ?_) (bm 9 4) rfl rfl (by kernel_rfl) (fun _ _ _ h => h) (Or.inl ⟨by rfl, ?_⟩) ?_ ?_
    rotate_left
    ·intro w'
     go_simp
     with_reducible rfl
    rotate_left
    ·simp only [Act.put, sA, sB, sC, Qk, Ql]
     rfl
    refine Q4 (i := 4) (N := some 64) (v := ?_) (a' := ?_) (bm 9 20) rfl rfl (by kernel_rfl) (fun _ _ _ h => h) (Or.inl ⟨by rfl, ?_⟩) ?_ ?_
    rotate_left
    ·intro w'
     go_simp
     with_reducible rfl
    rotate_left
    ·simp only [Act.put, sA, sB, sC, Qk, Ql]
     rfl
    refine QE (i := 0) (N := some 60) (v := ?_) (a' := ?_) (bm 9 21) rfl rfl (by kernel_rfl) (fun _ _ _ h => h) (Or.inl ⟨by rfl, ?_⟩) hHeld ?_ ?_
    rotate_left
    ·rintro w' ⟨s0, s1, s2, s3, s4, s5, s6, s7⟩
     go_simp
     with_reducible rfl
    rotate_left
    ·simp only [Act.put, sA, sB, sC, Qk, Ql]
     rfl
    refine QE (i := 1) (N := some 61) (v := ?_) (a' := ?_) (bm 9 23) rfl rfl (by kernel_rfl) (fun _ _ _ h => h) (Or.inl ⟨by rfl, ?_⟩) hHeld ?_ ?_
    rotate_left
    ·rintro w' ⟨s0, s1, s2, s3, s4, s5, s6, s7⟩
     go_simp
     with_reducible rfl
    rotate_left
    ·simp only [Act.put, sA, sB, sC, Qk, Ql]
     rfl
    refine QE (i := 3) (N := some 63) (v := ?_) (a' := ?_) (bm 9 31) rfl rfl (by kernel_rfl) (fun _ _ _ h => h) (Or.inl ⟨by rfl, ?_⟩) hHeld ?_ ?_
    rotate_left
    ·rintro w' ⟨s0, s1, s2, s3, s4, s5, s6, s7⟩
     go_simp
     with_reducible rfl
    rotate_left
    ·simp only [Act.put, sA, sB, sC, Qk, Ql]
     rfl
    refine Q4 (i := 5) (N := some 65) (v := ?_) (a' := ?_) (bm 9 63) rfl rfl (by kernel_rfl) (fun _ _ _ h => h) (Or.inl ⟨by rfl, ?_⟩) ?_ ?_
    rotate_left
    ·intro w'
     go_simp
     with_reducible rfl
    rotate_left
    ·simp only [Act.put, sA, sB, sC, Qk, Ql]
     rfl
    refine QE (i := 6) (N := some 66) (v := ?_) (a' := ?_) (bm 9 127) rfl rfl (by kernel_rfl) (fun _ _ _ h => h) (Or.inl ⟨by rfl, ?_⟩) hHeld ?_ ?_
    rotate_left
    ·rintro w' ⟨s0, s1, s2, s3, s4, s5, s6, s7⟩
     go_simp
     with_reducible rfl
    rotate_left
    ·simp only [Act.put, sA, sB, sC, Qk, Ql]
     rfl
    refine QQ (i := 7) (N := some 67) (bm 9 255) rfl rfl (by kernel_rfl) (by decide) (fun K hK => ?_)
    refine QI Tryd.func38 (by kernel_rfl) rfl #[.agg #[.slice Ad ds.length nd, .slice Af fs.length nf], .agg #[.string d0, .slice A1 d1.length c1, .slice A2 d2.length c2], .agg #[.string x.f0, .slice B1 x.f1.length b1]] (by rfl) rfl rfl (by simp only [List.map_toArray, List.map_cons, List.map_nil]; rfl) ?_
    (with_reducible refine (CX W9 HB_).mono ?_)
    rintro e w5 ⟨v, rfl, hb5⟩
    refine ⟨_, rfl, ?_⟩
    have HB5 := Qe HB_ hb5
    refine hK.out _ _ ⟨(Qa (Qc (Qc hbp.out hBr.out) HB5) 0).trans rfl, (Qa (Qc (Qc hbp.out hBr.out) HB5) 1).trans rfl, (Qa (Qc (Qc hbd.out hBr.out) HB5) 0).trans rfl, (Qa (Qc (Qc hbd.out hBr.out) HB5) 1).trans rfl, (Qa (Qc (Qc hbd.out hBr.out) HB5) 2).trans rfl, (Qa (Qc (Qc hbt.out hBr.out) HB5) 1).trans rfl, (HB5.cell (World.block_lt_of_cell? _ _ he.out.1)).trans he.out.1, (HB5.cell (World.block_lt_of_cell? _ _ he.out.2)).trans he.out.2⟩ (fun hHeld => ?_)
    clear hK K
    refine Qq (a' := ?_) ?_ ?_
    rotate_left
    ·show Act.put _ (some 67) _ = _
     simp only [Act.put, sA, sB, sC, Qk, Ql]
     rfl
    refine Q4 (i := 8) (N := some 10) (v := ?_) (a' := ?_) (bm 9 511) rfl rfl (by kernel_rfl) (fun _ _ _ h => h) (Or.inl ⟨by rfl, ?_⟩) ?_ ?_
    rotate_left
    ·intro w'
     go_simp
     with_reducible rfl
    rotate_left
    ·simp only [Act.put, sA, sB, sC, Qk, Ql]
     rfl
    refine Zx (by kernel_rfl) ?_
    clear hHeld
    have HB3 := Qb.mk (Qe hBr.out HB5)
    clear HB5 HB_ hb5 CX he hCx
    go_wp2
    all_goals first | (go_ret; exact ⟨_, rfl, hB0.out.trans (HB3.out.mono hB0.out.size)⟩) | (go_roundg (g - 1); (case measure => omega); (case rel => exact ⟨i + 1, by first | exact hjn | rfl, by omega, by omega, HB3⟩))
   ·have q1 : decide ((i : Int) < (l.length : Int)) = false := decide_eq_false (by omega)
    have hB := hBr
    clear hBr hi hk hg
    have n1 := (Qa (Qc hbt.out hB.out) 1).trans rfl
    go_wp2
    go_ret
    exact ⟨_, rfl, hB0.out.trans (hB.out.mono hB0.out.size)⟩
theorem cy_all (ds : List S56) (fs : List S34) (hds : ds.length ≤ BL) (d0 : ByteArray) (d1 : List ByteArray) (d2 : List S65) (hd1 : d1.length ≤ 1000000000000) : ∀ (m : Nat) (t : S67), Zo t ≤ m → RT t → CY ds fs d0 d1 d2 t
 | 0, t, h, _ => by cases t; simp only [Zo] at h; omega
 | m + 1, t, h, hr => by
  have h1 := (rt_iff t).1 hr
  exact cy_step ds fs hds d0 d1 d2 hd1 t h1.2.1 (fun x hx => cy_all ds fs hds d0 d1 d2 hd1 m x (by have := tcost_mem hx; cases t; simp only [Zo] at *; omega) (h1.2.2 x hx))
end Go.Proofs.YtlgpoigbadajnaaDoor.DepA.Z
