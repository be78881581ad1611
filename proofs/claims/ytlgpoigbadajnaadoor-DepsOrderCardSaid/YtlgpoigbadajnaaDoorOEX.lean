/- Texts of the walks put together: DepAX, DepAY, DepAZ. Conditions: as each states. -/
import Derived.Test.YtlgpoigbadajnaaDoorODepAV
import Derived.Test.YtlgpoigbadajnaaDoorODepAW
import Derived.Test.YtlgpoigbadajnaaDoorODI
namespace Go.Proofs.YtlgpoigbadajnaaDoor.DepA.Z
open Go.RowKit Go.Proofs.YtlgpoigbadajnaaDoorW.PrintWords Go.Proofs.YtlgpoigbadajnaaDoorW.PrintLast Go.Proofs.YtlgpoigbadajnaaDoorW.PrintMore Go.Proofs.YtlgpoigbadajnaaDoor.PDepA
set_option linter.unusedVariables false
set_option linter.unusedSimpArgs false
theorem tcostL_append : ∀ a b : List S67, Zg (a ++ b) = Zg a + Zg b
 | [], b => by simp [Zg]
 | t :: a, b => by simp only [List.cons_append, Zg, tcostL_append a b]; omega
theorem tcost_take {l : List S67} {i : Nat} {x : S67} (h : l[i]? = some x) : Zg (l.take (i + 1)) = Zg (l.take i) + Zo x := by
 rw [List.take_add_one, h, tcostL_append]
 simp [Zg]
def TYW (t : S67) : Prop := ∀ (left deep : Int) (w : World), -100000000000000 ≤ left → left ≤ 1000 → 0 ≤ deep → deep ≤ 31 → ∀ {A : Option Addr} {c : Nat}, k67.C w A t.f1.length t.f1 → t.f1.length ≤ c → Calls Tryd.prog 32 #[.agg #[.string t.f0, .slice A t.f1.length c], .int .i64 left, .int .i64 deep] w fun e w' => ∃ r : Int, e = .returned (.int .i64 r) ∧ (0 ≤ r → r + Zo t ≤ left) ∧ -200000000000000 ≤ r ∧ r ≤ 1000 ∧ Below w.heap.size w w'
set_option maxHeartbeats 16000000 in
set_option maxRecDepth 100000 in
theorem ty_step (t : S67) (hl : t.f1.length ≤ BL) (ih : ∀ x ∈ t.f1, TYW x) : TYW t := by
 intro left deep w h1 h2 hd0 hd1 A1 c1 hC hc
 obtain ⟨nm, l⟩ := t
 dsimp only at *
 unfold BL at hl
 obtain ⟨x, hx1⟩ : ∃ x, left - 1 = x := ⟨_, rfl⟩
 have hx2 : wrap64 (left - 1) = x := by rw [← hx1]; unfold wrap64; omega
 have hx : Qb (x + 1 = left ∧ -100000000000000 ≤ left ∧ left ≤ 1000 ∧ Zo ⟨nm, l⟩ = 1 + Zg l) := ⟨by omega, h1, h2, by simp only [Zo]⟩
 have hdl0 := Qb.mk (And.intro hd0 hd1)
 have hl9 := Qb.mk hl
 have hih := Qb.mk ih
 have hC1 := Qb.mk hC
 clear hC hc hl ih h1 h2 hd0 hd1 hx1
 obtain ⟨W0, hW0⟩ : ∃ W0, w.alloc (.cells #[.string nm, .slice A1 l.length c1] 67) = W0 := ⟨_, rfl⟩
 have hB0 : Qb (Below w.heap.size w W0) := ⟨by rw [← hW0]; exact Qd (Below.refl _ _) _⟩
 have hbx : Qb (W0.heap[w.heap.size]? = some (.cells #[.string nm, .slice A1 l.length c1] 67 (0, 0))) := ⟨by rw [← hW0]; exact Qv w _⟩
 have hB : Qb (Below W0.heap.size W0 W0) := ⟨Below.refl _ _⟩
 have k0 := (Qa hbx.out 0).trans rfl
 have k1 := (Qa hbx.out 1).trans rfl
 go_enter Tryd.func32, Tryd.ntmps32
 go_upto_region 1 with (fail)
 (try rw [hW0])
 clear hW0
 go_upto_region 2 with (fail)
 rw [hx2]
 clear hx2
 rcases bd (30 < deep) with c1 | c1
 rotate_left
 ·go_wp2
  go_ret
  exact ⟨-1, rfl, fun h => absurd h (by decide), by decide, by decide, hB0.out.trans (hB.out.mono hB0.out.size)⟩
 rcases bd (x < 0) with c2 | c2
 rotate_left
 ·go_wp2
  go_ret
  exact ⟨-1, rfl, fun h => absurd h (by decide), by decide, by decide, hB0.out.trans (hB.out.mono hB0.out.size)⟩
 rcases bd (60 < (nm.size : Int)) with c3 | c3
 rotate_left
 ·go_wp2
  go_ret
  exact ⟨-1, rfl, fun h => absurd h (by decide), by decide, by decide, hB0.out.trans (hB.out.mono hB0.out.size)⟩
 have hx0 := Int.not_lt.1 (of_decide_eq_false c2)
 have hdp := Int.not_lt.1 (of_decide_eq_false c1)
 go_wp2
 clear c1 c2 c3
 have hr : Qb (-200000000000000 ≤ x ∧ x ≤ 1000 ∧ (0 ≤ x → x + Zg (l.take 0) ≤ x)) := ⟨by have := hx.out; omega, by have := hx.out; omega, fun _ => by simp [Zg]⟩
 have hdl : Qb (0 ≤ deep ∧ deep ≤ 30) := ⟨by have := hdl0.out; omega, hdp⟩
 clear hx0 hdp k0 k1
 go_loopg [1, 7] (l.length + 1) (fun kq v1 v7 w' => ∃ (r : Int) (i : Nat), v1 = .int .i64 r ∧ v7 = .int .i64 (i : Int) ∧ i + kq = l.length + 1 ∧ 1 ≤ kq ∧ Qb (Below W0.heap.size W0 w') ∧ Qb (-200000000000000 ≤ r ∧ r ≤ 1000 ∧ (0 ≤ r → r + Zg (l.take i) ≤ x)))
 case atStart => exact ⟨x, 0, rfl, rfl, by omega, by omega, hB, hr⟩
 case round =>
  clear hB
  clear hr
  obtain ⟨r, i, rfl, rfl, hi, hk, hBr, hr⟩ := hrel
  obtain ⟨g, hg⟩ : ∃ g, g = gk := ⟨_, rfl⟩
  by_cases hlt : i < l.length
  ·have k1 := (Qa (Qc hbx.out hBr.out) 1).trans rfl
   by_cases h0 : 0 ≤ r
   ·have q2 : decide (0 ≤ r) = true := decide_eq_true h0
    have hxi : l[i]? = some l[i] := List.getElem?_eq_getElem hlt
    have hx := hih.out _ (List.getElem_mem hlt)
    have htk := Qb.mk (tcost_take hxi)
    generalize l[i] = t at hxi hx htk
    obtain ⟨ad, B1, b1, rfl, ⟨e0, e1⟩, hd, hCt⟩ := elemT (Kd.Qj (Kd.Qj hC1.out hB0.out) hBr.out) i hxi
    have CX := hx r (deep + 1) wr (by have := hr.out; omega) (by have := hr.out; omega) (by have := hdl.out; omega) (by have := hdl.out; omega) hCt hd
    rw [← (show wrap64 (deep + 1) = deep + 1 from by (have := hdl.out; unfold wrap64; omega))] at CX
    clear hxi hx hCt hd
    have p0 : (0 : Int) ≤ (i : Int) := by omega
    have p1 : (i : Int) < (l.length : Int) := by omega
    have q1 : decide ((i : Int) < (l.length : Int)) = true := decide_eq_true p1
    have hjn : Value.int .i64 (wrap64 ((i : Int) + 1)) = .int .i64 ((i + 1 : Nat) : Int) := by rw [wr1 i (by have := hl9.out; omega)]
    go_wp2_with (first | (go_at_call 32; go_loud (with_reducible refine CX.mono ?_); rintro e w3 ⟨v, rfl, hv1, hv2, hv3, hb3⟩; have HB3 := Qb.mk (Qe hBr.out hb3); have hv := Qb.mk (And.intro hv1 (And.intro hv2 hv3)); clear hb3 CX hv1 hv2 hv3))
    go_roundg (g - 1)
    case measure => omega
    case rel => exact ⟨v, i + 1, rfl, by first | exact hjn | rfl, by omega, by omega, HB3, ⟨hv.out.2.1, hv.out.2.2, fun h => by have h1 := hv.out.1 h; have h2 := hr.out.2.2 h0; rw [htk.out]; omega⟩⟩
   ·have q1 : decide ((i : Int) < (l.length : Int)) = true := decide_eq_true (by omega)
    have q2 : decide (0 ≤ r) = false := decide_eq_false h0
    have hB := hBr
    go_wp2
    go_ret
    exact ⟨r, rfl, fun h => absurd h (by omega), hr.out.1, hr.out.2.1, hB0.out.trans (hB.out.mono hB0.out.size)⟩
  ·have q1 : decide ((i : Int) < (l.length : Int)) = false := decide_eq_false (by omega)
   have hB := hBr
   clear hBr
   clear hi hk hg
   have k1 := (Qa (Qc hbx.out hB.out) 1).trans rfl
   go_wp2
   go_ret
   exact ⟨r, rfl, fun h => by have h1 := hr.out.2.2 h; rw [List.take_of_length_le (by omega)] at h1; have := hx.out; omega, hr.out.1, hr.out.2.1, hB0.out.trans (hB.out.mono hB0.out.size)⟩
theorem tyw_all : ∀ (m : Nat) (t : S67), Zo t ≤ m → RT t → TYW t
 | 0, t, h, _ => by cases t; simp only [Zo] at h; omega
 | m + 1, t, h, hr => by
  have h1 := (rt_iff t).1 hr
  exact ty_step t h1.2.1 (fun x hx => tyw_all m x (by have := tcost_mem hx; cases t; simp only [Zo] at *; omega) (h1.2.2 x hx))
theorem cnL_append : ∀ a b : List S29, cnL (a ++ b) = cnL a + cnL b
 | [], b => by simp [cnL]
 | t :: a, b => by simp only [List.cons_append, cnL, cnL_append a b]; omega
theorem cnL_take {l : List S29} {i : Nat} {x : S29} (h : l[i]? = some x) : cnL (l.take (i + 1)) = cnL (l.take i) + cn x := by
 rw [List.take_add_one, h, cnL_append]
 simp [cnL]
theorem cnA_append : ∀ a b : List S88, cnA (a ++ b) = cnA a + cnA b
 | [], b => by simp [cnA]
 | t :: a, b => by rw [List.cons_append, cnA_cons, cnA_cons, cnA_append a b]; omega
theorem cnA_take {l : List S88} {i : Nat} {x : S88} (h : l[i]? = some x) : cnA (l.take (i + 1)) = cnA (l.take i) + (1 + x.f3.length + cn x.f4) := by
 rw [List.take_add_one, h, cnA_append]
 simp [cnA_cons, cnA]
def EXW (e : S29) : Prop := ∀ (left deep : Int) (w : World), -100000000000000 ≤ left → left ≤ 1000 → 0 ≤ deep → deep ≤ 31 → ∀ {A3 A4 A5 : Option Addr} {c3 c4 c5 : Nat}, Kd.C Kd.string w A3 e.f3.length e.f3 → e.f3.length ≤ c3 → Kd.C k29 w A4 e.f4.length e.f4 → e.f4.length ≤ c4 → Kd.C k88 w A5 e.f5.length e.f5 → e.f5.length ≤ c5 →
 Calls Tryd.prog 33 #[.agg #[.int .i64 e.f0, .string e.f1, .int .i64 e.f2, .slice A3 e.f3.length c3, .slice A4 e.f4.length c4, .slice A5 e.f5.length c5], .int .i64 left, .int .i64 deep] w fun r w' => ∃ v : Int, r = .returned (.int .i64 v) ∧ (0 ≤ v → v + cn e ≤ left) ∧ -200000000000000 ≤ v ∧ v ≤ 1000 ∧ Below w.heap.size w w'
set_option maxHeartbeats 16000000 in
set_option maxRecDepth 100000 in
theorem ex_step (e : S29) (hl3 : e.f3.length ≤ BL) (hl4 : e.f4.length ≤ BL) (hl5 : e.f5.length ≤ BL) (ih : ∀ x ∈ e.f4, EXW x) (iha : ∀ a ∈ e.f5, a.f3.length ≤ BL ∧ EXW a.f4) : EXW e := by
 intro left deep w h1 h2 hd0 hd1 A3 A4 A5 c3 c4 c5 h3 m3 h4 m4 h5 m5
 have hcn := cn_eq e
 obtain ⟨f0, f1, f2, l3, l4, l5⟩ := e
 dsimp only at *
 unfold BL at hl3 hl4 hl5
 obtain ⟨x, hx1⟩ : ∃ x, left - 1 - (l3.length : Int) = x := ⟨_, rfl⟩
 have hx2 : wrap64 (wrap64 (left - 1) - (l3.length : Int)) = x := by rw [← hx1]; unfold wrap64; omega
 have hx : Qb (x + 1 + (l3.length : Int) = left ∧ -120000000000000 ≤ x ∧ left ≤ 1000 ∧ cn ⟨f0, f1, f2, l3, l4, l5⟩ = 1 + l3.length + cnL l4 + cnA l5) := ⟨by omega, by omega, h2, hcn⟩
 have hdl0 := Qb.mk (And.intro hd0 hd1)
 have hl9 := Qb.mk (And.intro hl3 (And.intro hl4 hl5))
 have hih := Qb.mk ih
 have hiha := Qb.mk iha
 have hC3 := Qb.mk h3
 have hC4 := Qb.mk h4
 have hC5 := Qb.mk h5
 clear h3 m3 h4 m4 h5 m5 hl3 hl4 hl5 ih iha h1 h2 hd0 hd1 hx1 hcn
 obtain ⟨W0, hW0⟩ : ∃ W0, w.alloc (.cells #[.int .i64 f0, .string f1, .int .i64 f2, .slice A3 l3.length c3, .slice A4 l4.length c4, .slice A5 l5.length c5] 29) = W0 := ⟨_, rfl⟩
 have hB0 : Qb (Below w.heap.size w W0) := ⟨by rw [← hW0]; exact Qd (Below.refl _ _) _⟩
 have hbx : Qb (W0.heap[w.heap.size]? = some (.cells #[.int .i64 f0, .string f1, .int .i64 f2, .slice A3 l3.length c3, .slice A4 l4.length c4, .slice A5 l5.length c5] 29 (0, 0))) := ⟨by rw [← hW0]; exact Qv w _⟩
 have hB : Qb (Below W0.heap.size W0 W0) := ⟨Below.refl _ _⟩
 have k1 := (Qa hbx.out 1).trans rfl
 have k3 := (Qa hbx.out 3).trans rfl
 go_enter Tryd.func33, Tryd.ntmps33
 go_upto_region 1 with (fail)
 (try rw [hW0])
 clear hW0
 go_upto_region 2 with (fail)
 rw [hx2]
 clear hx2
 rcases bd (30 < deep) with c1 | c1
 rotate_left
 ·go_wp2
  go_ret
  exact ⟨-1, rfl, fun h => absurd h (by decide), by decide, by decide, hB0.out.trans (hB.out.mono hB0.out.size)⟩
 rcases bd (x < 0) with c2 | c2
 rotate_left
 ·go_wp2
  go_ret
  exact ⟨-1, rfl, fun h => absurd h (by decide), by decide, by decide, hB0.out.trans (hB.out.mono hB0.out.size)⟩
 rcases bd (60 < (f1.size : Int)) with c3 | c3
 rotate_left
 ·go_wp2
  go_ret
  exact ⟨-1, rfl, fun h => absurd h (by decide), by decide, by decide, hB0.out.trans (hB.out.mono hB0.out.size)⟩
 have hx0 := Int.not_lt.1 (of_decide_eq_false c2)
 have hdp := Int.not_lt.1 (of_decide_eq_false c1)
 go_wp2
 clear c1 c2 c3
 have hdl : Qb (0 ≤ deep ∧ deep ≤ 30) := ⟨by have := hdl0.out; omega, hdp⟩
 clear hx0 hdp k1 k3
 go_loopg [7] (l3.length + 1) (fun kq v7 w' => ∃ (i : Nat), v7 = .int .i64 (i : Int) ∧ i + kq = l3.length + 1 ∧ 1 ≤ kq ∧ Qb (Below W0.heap.size W0 w'))
 case atStart => exact ⟨0, rfl, by omega, by omega, hB⟩
 case round =>
  clear hB
  obtain ⟨i, rfl, hi, hk, hBr⟩ := hrel
  obtain ⟨g, hg⟩ : ∃ g, g = gk := ⟨_, rfl⟩
  by_cases hlt : i < l3.length
  ·have k3 := (Qa (Qc hbx.out hBr.out) 3).trans rfl
   obtain ⟨ad, rfl, hv⟩ := at_str (Kd.Qj (Kd.Qj hC3.out hB0.out) hBr.out) i hlt hlt
   generalize l3[i] = s at *
   have p0 : (0 : Int) ≤ (i : Int) := by omega
   have p1 : (i : Int) < (l3.length : Int) := by omega
   have q1 : decide ((i : Int) < (l3.length : Int)) = true := decide_eq_true p1
   have hjn : Value.int .i64 (wrap64 ((i : Int) + 1)) = .int .i64 ((i + 1 : Nat) : Int) := by rw [wr1 i (by have := hl9.out; omega)]
   rcases bd (60 < (s.size : Int)) with c4 | c4
   ·go_wp2
    go_roundg (g - 1)
    case measure => omega
    case rel => exact ⟨i + 1, by first | exact hjn | rfl, by omega, by omega, hBr⟩
   ·go_wp2
    go_ret
    exact ⟨-1, rfl, fun h => absurd h (by decide), by decide, by decide, hB0.out.trans (hBr.out.mono hB0.out.size)⟩
  ·have q1 : decide ((i : Int) < (l3.length : Int)) = false := decide_eq_false (by omega)
   have hB := hBr
   clear hBr hi hk hg
   have k3 := (Qa (Qc hbx.out hB.out) 3).trans rfl
   go_upto_block 2 with (fail)
   go_cut [1] (fun v1 wc => ∃ r : Int, v1 = .int .i64 r ∧ Qb (-200000000000000 ≤ r ∧ r ≤ 1000 ∧ (0 ≤ r → r + cnL l4 ≤ x)) ∧ Qb (Below W0.heap.size W0 wc))
   case first => as_aux_lemma =>
    have hr : Qb (-200000000000000 ≤ x ∧ x ≤ 1000 ∧ (0 ≤ x → x + cnL (l4.take 0) ≤ x)) := ⟨by have := hx.out; omega, by have := hx.out; omega, fun _ => by simp [cnL]⟩
    go_wp2
    go_loopg [1, 8] (l4.length + 1) (fun kq v1 v8 w' => ∃ (r : Int) (i : Nat), v1 = .int .i64 r ∧ v8 = .int .i64 (i : Int) ∧ i + kq = l4.length + 1 ∧ 1 ≤ kq ∧ Qb (Below W0.heap.size W0 w') ∧ Qb (-200000000000000 ≤ r ∧ r ≤ 1000 ∧ (0 ≤ r → r + cnL (l4.take i) ≤ x)))
    case atStart => exact ⟨x, 0, rfl, rfl, by omega, by omega, hB, hr⟩
    case round =>
     clear hB
     clear hr
     obtain ⟨r, i, rfl, rfl, hi, hk, hBr, hr⟩ := hrel
     obtain ⟨g, hg⟩ : ∃ g, g = gk := ⟨_, rfl⟩
     by_cases hlt : i < l4.length
     ·have k4 := (Qa (Qc hbx.out hBr.out) 4).trans rfl
      by_cases h0 : 0 ≤ r
      ·have q2 : decide (0 ≤ r) = true := decide_eq_true h0
       have hxi : l4[i]? = some l4[i] := List.getElem?_eq_getElem hlt
       have hx := hih.out _ (List.getElem_mem hlt)
       have htk := Qb.mk (cnL_take hxi)
       generalize l4[i] = y at hxi hx htk
       obtain ⟨ad, B3, d3, B4, d4, B5, d5, rfl, ⟨e0, e1, e2, e3, e4, e5⟩, g3, g4, g5, m3, m4, m5⟩ := elem33 (Kd.Qj (Kd.Qj hC4.out hB0.out) hBr.out) i hxi
       have CX := hx r (deep + 1) wr (by have := hr.out; omega) (by have := hr.out; omega) (by have := hdl.out; omega) (by have := hdl.out; omega) g3 m3 g4 m4 g5 m5
       rw [← (show wrap64 (deep + 1) = deep + 1 from by (have := hdl.out; unfold wrap64; omega))] at CX
       clear hxi hx g3 g4 g5 m3 m4 m5
       have p0 : (0 : Int) ≤ (i : Int) := by omega
       have p1 : (i : Int) < (l4.length : Int) := by omega
       have q1 : decide ((i : Int) < (l4.length : Int)) = true := decide_eq_true p1
       have hjn : Value.int .i64 (wrap64 ((i : Int) + 1)) = .int .i64 ((i + 1 : Nat) : Int) := by rw [wr1 i (by have := hl9.out; omega)]
       go_wp2_with (first | (go_at_call 33; go_loud (with_reducible refine CX.mono ?_); rintro e w3 ⟨v, rfl, hv1, hv2, hv3, hb3⟩; have HB3 := Qb.mk (Qe hBr.out hb3); have hv := Qb.mk (And.intro hv1 (And.intro hv2 hv3)); clear hb3 CX hv1 hv2 hv3))
       go_roundg (g - 1)
       case measure => omega
       case rel => exact ⟨v, i + 1, rfl, by first | exact hjn | rfl, by omega, by omega, HB3, ⟨hv.out.2.1, hv.out.2.2, fun h => by have h1 := hv.out.1 h; have h2 := hr.out.2.2 (by omega); rw [htk.out]; omega⟩⟩
      ·have q1 : decide ((i : Int) < (l4.length : Int)) = true := decide_eq_true (by omega)
       have q2 : decide (0 ≤ r) = false := decide_eq_false h0
       go_wp2
       go_meet
       case rel => exact ⟨r, rfl, ⟨hr.out.1, hr.out.2.1, fun h => absurd h (by omega)⟩, hBr⟩
     ·have q1 : decide ((i : Int) < (l4.length : Int)) = false := decide_eq_false (by omega)
      have hB := hBr
      clear hBr
      clear hi hk hg
      have k4 := (Qa (Qc hbx.out hB.out) 4).trans rfl
      go_wp2
      go_meet
      case rel => exact ⟨r, rfl, ⟨hr.out.1, hr.out.2.1, fun h => by have h1 := hr.out.2.2 h; rw [List.take_of_length_le (by omega)] at h1; exact h1⟩, hB⟩
   case rest =>
    obtain ⟨r0, rfl, hr0, hB2⟩ := hcut
    clear hB
    have hB := hB2
    clear hB2
    rename World => wr
    have hr : Qb (-200000000000000 ≤ r0 ∧ r0 ≤ 1000 ∧ (0 ≤ r0 → r0 + cnL l4 + cnA (l5.take 0) ≤ x)) := ⟨hr0.out.1, hr0.out.2.1, fun h => by have := hr0.out.2.2 h; simp only [List.take_zero, cnA]; omega⟩
    go_wp2
    go_loopg [1, 9] (l5.length + 1) (fun kq v1 v9 w' => ∃ (r : Int) (i : Nat), v1 = .int .i64 r ∧ v9 = .int .i64 (i : Int) ∧ i + kq = l5.length + 1 ∧ 1 ≤ kq ∧ Qb (Below W0.heap.size W0 w') ∧ Qb (-200000000000000 ≤ r ∧ r ≤ 1000 ∧ (0 ≤ r → r + cnL l4 + cnA (l5.take i) ≤ x)))
    case atStart => exact ⟨r0, 0, rfl, rfl, by omega, by omega, hB, hr⟩
    case round =>
     clear hB
     clear hr
     obtain ⟨r, i, rfl, rfl, hi, hk, hBr, hr⟩ := hrel
     obtain ⟨g, hg⟩ : ∃ g, g = gk := ⟨_, rfl⟩
     by_cases hlt : i < l5.length
     ·have k5 := (Qa (Qc hbx.out hBr.out) 5).trans rfl
      by_cases h0 : 0 ≤ r
      ·have q2 : decide (0 ≤ r) = true := decide_eq_true h0
       have hxi : l5[i]? = some l5[i] := List.getElem?_eq_getElem hlt
       have hx := hiha.out _ (List.getElem_mem hlt)
       have htk := Qb.mk (cnA_take hxi)
       generalize l5[i] = a at hxi hx htk
       obtain ⟨ad, B3, d3, B7, d7, B8, d8, B9, d9, rfl, hac, g3, g7, g8, g9, n3, n7, n8, n9⟩ := elem40c (Kd.Qj (Kd.Qj hC5.out hB0.out) hBr.out) i hxi
       have hac := Qb.mk hac
       have hla := Qb.mk hx.1
       have hwe : wrap64 (wrap64 (r - 1) - (a.f3.length : Int)) = r - 1 - (a.f3.length : Int) := by have := hx.1; have := hr.out; unfold BL at *; unfold wrap64; omega
       have CX := fun (W : World) (hb : Below wr.heap.size wr W) => hx.2 (r - 1 - (a.f3.length : Int)) (deep + 1) W (by have := hx.1; have := hr.out; unfold BL at *; omega) (by have := hr.out; omega) (by have := hdl.out; omega) (by have := hdl.out; omega) (Kd.Qj g7 hb) n7 (Kd.Qj g8 hb) n8 (Kd.Qj g9 hb) n9
       rw [← (show wrap64 (deep + 1) = deep + 1 from by (have := hdl.out; unfold wrap64; omega)), ← hwe] at CX
       have CX := Qb.mk CX
       have hwe := Qb.mk hwe
       clear hxi hx g3 g7 g8 g9 n3 n7 n8 n9
       have p0 : (0 : Int) ≤ (i : Int) := by omega
       have p1 : (i : Int) < (l5.length : Int) := by omega
       have q1 : decide ((i : Int) < (l5.length : Int)) = true := decide_eq_true p1
       have hjn : Value.int .i64 (wrap64 ((i : Int) + 1)) = .int .i64 ((i + 1 : Nat) : Int) := by rw [wr1 i (by have := hl9.out; omega)]
       go_wp2
       have HB_ : Below wr.heap.size wr wr.drew := Qi (Below.refl _ _)
       refine QZ (n := 20) (S := fun w' => w'.cell? ⟨w.heap.size, 5, none⟩ = some (.slice (some ad) l5.length c5) ∧ w'.cell? ⟨(ad.add (i * 10)).block, (ad.add (i * 10)).off + 3, none⟩ = some (.slice B3 a.f3.length d3) ∧ w'.cell? ⟨(ad.add (i * 10)).block, (ad.add (i * 10)).off + 4, none⟩ = some (.int .i64 a.f4.f0) ∧ w'.cell? ⟨(ad.add (i * 10)).block, (ad.add (i * 10)).off + 5, none⟩ = some (.string a.f4.f1) ∧ w'.cell? ⟨(ad.add (i * 10)).block, (ad.add (i * 10)).off + 6, none⟩ = some (.int .i64 a.f4.f2) ∧ w'.cell? ⟨(ad.add (i * 10)).block, (ad.add (i * 10)).off + 7, none⟩ = some (.slice B7 a.f4.f3.length d7) ∧ w'.cell? ⟨(ad.add (i * 10)).block, (ad.add (i * 10)).off + 8, none⟩ = some (.slice B8 a.f4.f4.length d8) ∧ w'.cell? ⟨(ad.add (i * 10)).block, (ad.add (i * 10)).off + 9, none⟩ = some (.slice B9 a.f4.f5.length d9)) (ds := []) (bm 20 0) (by kernel_rfl) rfl rfl ⟨(Qa (Qc (Qc hbx.out hBr.out) HB_) 5).trans rfl, (HB_.cell (World.block_lt_of_cell? _ _ (hac.out.2.2.2.1))).trans (hac.out.2.2.2.1), (HB_.cell (World.block_lt_of_cell? _ _ (hac.out.2.2.2.2.1))).trans (hac.out.2.2.2.2.1), (HB_.cell (World.block_lt_of_cell? _ _ (hac.out.2.2.2.2.2.1))).trans (hac.out.2.2.2.2.2.1), (HB_.cell (World.block_lt_of_cell? _ _ (hac.out.2.2.2.2.2.2.1))).trans (hac.out.2.2.2.2.2.2.1), (HB_.cell (World.block_lt_of_cell? _ _ (hac.out.2.2.2.2.2.2.2.1))).trans (hac.out.2.2.2.2.2.2.2.1), (HB_.cell (World.block_lt_of_cell? _ _ (hac.out.2.2.2.2.2.2.2.2.1))).trans (hac.out.2.2.2.2.2.2.2.2.1), (HB_.cell (World.block_lt_of_cell? _ _ (hac.out.2.2.2.2.2.2.2.2.2))).trans (hac.out.2.2.2.2.2.2.2.2.2)⟩ (fun hHeld => ?_)
       generalize wr.drew = W9 at *
       refine Q4 (i := 0) (N := some 73) (v := ?_) (a' := ?_) (bm 20 1) rfl rfl (by kernel_rfl) (fun _ _ _ h => h) (Or.inl ⟨by rfl, ?_⟩) ?_ ?_
       rotate_left
       ·intro w'
        go_simp
        with_reducible rfl
       rotate_left
       ·simp only [Act.put, sA, sB, sC, Qk, Ql]
        rfl
       refine Q4 (i := 2) (N := some 75) (v := ?_) (a' := ?_) (bm 20 5) rfl rfl (by kernel_rfl) (fun _ _ _ h => h) (Or.inl ⟨by rfl, ?_⟩) ?_ ?_
       rotate_left
       ·intro w'
        go_simp
        with_reducible rfl
       rotate_left
       ·simp only [Act.put, sA, sB, sC, Qk, Ql]
        rfl
       refine Q4 (i := 6) (N := some 79) (v := ?_) (a' := ?_) (bm 20 69) rfl rfl (by kernel_rfl) (fun _ _ _ h => h) (Or.inl ⟨by rfl, ?_⟩) ?_ ?_
       rotate_left
       ·intro w'
        go_simp
        with_reducible rfl
       rotate_left
       ·simp only [Act.put, sA, sB, sC, Qk, Ql]
        rfl
       refine Q4 (i := 7) (N := some 80) (v := ?_) (a' := ?_) (bm 20 197) rfl rfl (by kernel_rfl) (fun _ _ _ h => h) (Or.inl ⟨by rfl, ?_⟩) ?_ ?_
       rotate_left
       ·intro w'
        go_simp
        with_reducible rfl
       rotate_left
       ·simp only [Act.put, sA, sB, sC, Qk, Ql]
        rfl
       refine Q4 (i := 8) (N := some 81) (v := ?_) (a' := ?_) (bm 20 453) rfl rfl (by kernel_rfl) (fun _ _ _ h => h) (Or.inl ⟨by rfl, ?_⟩) ?_ ?_
       rotate_left
       ·intro w'
        go_simp
        with_reducible rfl
       rotate_left
       ·simp only [Act.put, sA, sB, sC, Qk, Ql]
        rfl
       refine Q4 (i := 10) (N := some 83) (v := ?_) (a' := ?_) (bm 20 1477) rfl rfl (by kernel_rfl) (fun _ _ _ h => h) (Or.inl ⟨by rfl, ?_⟩) ?_ ?_
       rotate_left
       ·intro w'
        go_simp
        with_reducible rfl
       rotate_left
       ·simp only [Act.put, sA, sB, sC, Qk, Ql]
        rfl
       refine Q4 (i := 16) (N := some 89) (v := ?_) (a' := ?_) (bm 20 67013) rfl rfl (by kernel_rfl) (fun _ _ _ h => h) (Or.inl ⟨by rfl, ?_⟩) ?_ ?_
       rotate_left
       ·intro w'
        go_simp
        with_reducible rfl
       rotate_left
       ·simp only [Act.put, sA, sB, sC, Qk, Ql]
        rfl
       refine Q4 (i := 17) (N := some 90) (v := ?_) (a' := ?_) (bm 20 198085) rfl rfl (by kernel_rfl) (fun _ _ _ h => h) (Or.inl ⟨by rfl, ?_⟩) ?_ ?_
       rotate_left
       ·intro w'
        go_simp
        with_reducible rfl
       rotate_left
       ·simp only [Act.put, sA, sB, sC, Qk, Ql]
        rfl
       refine QE (i := 1) (N := some 74) (v := ?_) (a' := ?_) (bm 20 198087) rfl rfl (by kernel_rfl) (fun _ _ _ h => h) (Or.inl ⟨by rfl, ?_⟩) hHeld ?_ ?_
       rotate_left
       ·rintro w' ⟨s0, s1, s2, s3, s4, s5, s6, s7⟩
        go_simp
        with_reducible rfl
       rotate_left
       ·simp only [Act.put, sA, sB, sC, Qk, Ql]
        rfl
       refine Q4 (i := 3) (N := some 76) (v := ?_) (a' := ?_) (bm 20 198095) rfl rfl (by kernel_rfl) (fun _ _ _ h => h) (Or.inl ⟨by rfl, ?_⟩) ?_ ?_
       rotate_left
       ·intro w'
        go_simp
        with_reducible rfl
       rotate_left
       ·simp only [Act.put, sA, sB, sC, Qk, Ql]
        rfl
       refine Q4 (i := 4) (N := some 77) (v := ?_) (a' := ?_) (bm 20 198111) rfl rfl (by kernel_rfl) (fun _ _ _ h => h) (Or.inl ⟨by rfl, ?_⟩) ?_ ?_
       rotate_left
       ·intro w'
        go_simp
        with_reducible rfl
       rotate_left
       ·simp only [Act.put, sA, sB, sC, Qk, Ql]
        rfl
       refine QE (i := 5) (N := some 78) (v := ?_) (a' := ?_) (bm 20 198143) rfl rfl (by kernel_rfl) (fun _ _ _ h => h) (Or.inl ⟨by rfl, ?_⟩) hHeld ?_ ?_
       rotate_left
       ·rintro w' ⟨s0, s1, s2, s3, s4, s5, s6, s7⟩
        go_simp
        with_reducible rfl
       rotate_left
       ·simp only [Act.put, sA, sB, sC, Qk, Ql]
        rfl
       refine QE (i := 9) (N := some 82) (v := ?_) (a' := ?_) (bm 20 198655) rfl rfl (by kernel_rfl) (fun _ _ _ h => h) (Or.inl ⟨by rfl, ?_⟩) hHeld ?_ ?_
       rotate_left
       ·rintro w' ⟨s0, s1, s2, s3, s4, s5, s6, s7⟩
        go_simp
        with_reducible rfl
       rotate_left
       ·simp only [Act.put, sA, sB, sC, Qk, Ql]
        rfl
       refine Q4 (i := 11) (N := some 84) (v := ?_) (a' := ?_) (bm 20 200703) rfl rfl (by kernel_rfl) (fun _ _ _ h => h) (Or.inl ⟨by rfl, ?_⟩) ?_ ?_
       rotate_left
       ·intro w'
        go_simp
        with_reducible rfl
       rotate_left
       ·simp only [Act.put, sA, sB, sC, Qk, Ql]
        rfl
       refine Q4 (i := 12) (N := some 85) (v := ?_) (a' := ?_) (bm 20 204799) rfl rfl (by kernel_rfl) (fun _ _ _ h => h) (Or.inl ⟨by rfl, ?_⟩) ?_ ?_
       rotate_left
       ·intro w'
        go_simp
        with_reducible rfl
       rotate_left
       ·simp only [Act.put, sA, sB, sC, Qk, Ql]
        rfl
       refine QE (i := 13) (N := some 86) (v := ?_) (a' := ?_) (bm 20 212991) rfl rfl (by kernel_rfl) (fun _ _ _ h => h) (Or.inl ⟨by rfl, ?_⟩) hHeld ?_ ?_
       rotate_left
       ·rintro w' ⟨s0, s1, s2, s3, s4, s5, s6, s7⟩
        go_simp
        with_reducible rfl
       rotate_left
       ·simp only [Act.put, sA, sB, sC, Qk, Ql]
        rfl
       refine Q4 (i := 14) (N := some 87) (v := ?_) (a' := ?_) (bm 20 229375) rfl rfl (by kernel_rfl) (fun _ _ _ h => h) (Or.inl ⟨by rfl, ?_⟩) ?_ ?_
       rotate_left
       ·intro w'
        go_simp
        with_reducible rfl
       rotate_left
       ·simp only [Act.put, sA, sB, sC, Qk, Ql]
        rfl
       refine Q4 (i := 15) (N := some 88) (v := ?_) (a' := ?_) (bm 20 262143) rfl rfl (by kernel_rfl) (fun _ _ _ h => h) (Or.inl ⟨by rfl, ?_⟩) ?_ ?_
       rotate_left
       ·intro w'
        go_simp
        with_reducible rfl
       rotate_left
       ·simp only [Act.put, sA, sB, sC, Qk, Ql]
        rfl
       refine QQ (i := 18) (N := some 91) (bm 20 524287) rfl rfl (by kernel_rfl) (by decide) (fun K hK => ?_)
       refine QI Tryd.func33 (by kernel_rfl) rfl #[.agg #[.int .i64 a.f4.f0, .string a.f4.f1, .int .i64 a.f4.f2, .slice B7 a.f4.f3.length d7, .slice B8 a.f4.f4.length d8, .slice B9 a.f4.f5.length d9], .int .i64 (wrap64 (wrap64 (r - 1) - (a.f3.length : Int))), .int .i64 (wrap64 (deep + 1))] (by rfl) rfl rfl (by simp only [List.map_toArray, List.map_cons, List.map_nil]; rfl) ?_
       (with_reducible refine (CX.out W9 HB_).mono ?_)
       rintro e w5 ⟨v, rfl, hv1, hv2, hv3, hb5⟩
       refine ⟨_, rfl, ?_⟩
       have HB5 := Qe HB_ hb5
       refine hK.out _ _ ⟨(Qa (Qc (Qc hbx.out hBr.out) HB5) 5).trans rfl, (HB5.cell (World.block_lt_of_cell? _ _ (hac.out.2.2.2.1))).trans (hac.out.2.2.2.1), (HB5.cell (World.block_lt_of_cell? _ _ (hac.out.2.2.2.2.1))).trans (hac.out.2.2.2.2.1), (HB5.cell (World.block_lt_of_cell? _ _ (hac.out.2.2.2.2.2.1))).trans (hac.out.2.2.2.2.2.1), (HB5.cell (World.block_lt_of_cell? _ _ (hac.out.2.2.2.2.2.2.1))).trans (hac.out.2.2.2.2.2.2.1), (HB5.cell (World.block_lt_of_cell? _ _ (hac.out.2.2.2.2.2.2.2.1))).trans (hac.out.2.2.2.2.2.2.2.1), (HB5.cell (World.block_lt_of_cell? _ _ (hac.out.2.2.2.2.2.2.2.2.1))).trans (hac.out.2.2.2.2.2.2.2.2.1), (HB5.cell (World.block_lt_of_cell? _ _ (hac.out.2.2.2.2.2.2.2.2.2))).trans (hac.out.2.2.2.2.2.2.2.2.2)⟩ (fun hHeld => ?_)
       clear hK K
       refine Qq (a' := ?_) ?_ ?_
       rotate_left
       ·show Act.put _ (some 91) _ = _
        simp only [Act.put, sA, sB, sC, Qk, Ql]
        rfl
       refine Q4 (i := 19) (N := some 1) (v := ?_) (a' := ?_) (bm 20 1048575) rfl rfl (by kernel_rfl) (fun _ _ _ h => h) (Or.inl ⟨by rfl, ?_⟩) ?_ ?_
       rotate_left
       ·intro w'
        go_simp
        with_reducible rfl
       rotate_left
       ·simp only [Act.put, sA, sB, sC, Qk, Ql]
        rfl
       refine Zx (by kernel_rfl) ?_
       clear hHeld
       have HB3 := Qb.mk (Qe hBr.out HB5)
       have hv := Qb.mk (And.intro hv1 (And.intro hv2 hv3))
       clear HB5 HB_ hb5 CX hac hv1 hv2 hv3
       go_wp2
       go_roundg (g - 1)
       case measure => omega
       case rel => exact ⟨v, i + 1, rfl, by first | exact hjn | rfl, by omega, by omega, HB3, ⟨hv.out.2.1, hv.out.2.2, fun h => by have h1 := hv.out.1 h; rw [hwe.out] at h1; have h2 := hr.out.2.2 (by omega); rw [htk.out]; omega⟩⟩
      ·have q1 : decide ((i : Int) < (l5.length : Int)) = true := decide_eq_true (by omega)
       have q2 : decide (0 ≤ r) = false := decide_eq_false h0
       go_wp2
       go_ret
       exact ⟨r, rfl, fun h => absurd h (by omega), hr.out.1, hr.out.2.1, hB0.out.trans (hBr.out.mono hB0.out.size)⟩
     ·have q1 : decide ((i : Int) < (l5.length : Int)) = false := decide_eq_false (by omega)
      have hB := hBr
      clear hBr
      clear hi hk hg
      have k5 := (Qa (Qc hbx.out hB.out) 5).trans rfl
      go_wp2
      go_ret
      exact ⟨r, rfl, fun h => by have h1 := hr.out.2.2 h; rw [List.take_of_length_le (by omega)] at h1; have := hx.out; omega, hr.out.1, hr.out.2.1, hB0.out.trans (hB.out.mono hB0.out.size)⟩
theorem exw_all : ∀ (m : Nat) (e : S29), cost e ≤ m → DepA.RW e → EXW e
 | 0, e, hc, _ => by have := cost_eq e; omega
 | m + 1, e, hc, hw => by
  obtain ⟨⟨_, n3, n4, n5⟩, wl, wa⟩ := (rw_iff e).1 hw
  exact ex_step e n3 n4 n5 (fun x hx => exw_all m x (by have := cost_mem hx; omega) (wl x hx)) (fun a ha => ⟨(wa a ha).2.1, exw_all m a.f4 (by have := cost_memA ha; omega) (wa a ha).2.2⟩)
theorem cc_eq (c : S65) : cc c = Zg c.f1 := sm_tcost c.f1
theorem cc_take {l : List S65} {i : Nat} {x : S65} (h : l[i]? = some x) : sm cc (l.take (i + 1)) = sm cc (l.take i) + cc x := by
 rw [List.take_add_one, h]
 simp [sm]
set_option maxHeartbeats 32000000 in
set_option maxRecDepth 100000 in
theorem small_w (ds : List S56) (fs : List S34) (hds : ds.length ≤ BL) (hfs : fs.length ≤ BL) (hR : ∀ d ∈ ds, RD d) (hF : ∀ d ∈ fs, RF d) (w : World) {Ad Af : Option Addr} {nd nf : Nat} (h1 : k56.C w Ad ds.length ds) (h2 : k34.C w Af fs.length fs) :
  Calls Tryd.prog 16 #[.agg #[.slice Ad ds.length nd, .slice Af fs.length nf], .int .i64 200] w fun e w' => ∃ b : Bool, e = .returned (.bool b) ∧ (b = true → ds.length ≤ 8 ∧ fs.length ≤ 12 ∧ (∀ d ∈ ds, DOk d) ∧ ∀ d ∈ fs, FOk d) ∧ Below w.heap.size w w' := by
 unfold BL at hds hfs
 have hfin0 : Qb (ds.length ≤ 8 → fs.length ≤ 12 → (∀ (q : Nat) (y : S56), ds[q]? = some y → DOk y) → (∀ (q : Nat) (y : S34), fs[q]? = some y → FOk y) → ds.length ≤ 8 ∧ fs.length ≤ 12 ∧ (∀ d ∈ ds, DOk d) ∧ ∀ d ∈ fs, FOk d) :=
  ⟨fun a b c d => ⟨a, b, fun y hy => by obtain ⟨q, hq, rfl⟩ := List.getElem_of_mem hy; exact c q _ (List.getElem?_eq_getElem hq), fun y hy => by obtain ⟨q, hq, rfl⟩ := List.getElem_of_mem hy; exact d q _ (List.getElem?_eq_getElem hq)⟩⟩
 have hl9 := Qb.mk (And.intro hds hfs)
 have hD9 := Qb.mk hR
 have hF9 := Qb.mk hF
 have hC1 := Qb.mk h1
 have hC2 := Qb.mk h2
 clear h1 h2 hds hfs hR hF
 obtain ⟨W0, hW0⟩ : ∃ W0, w.alloc (.cells #[.slice Ad ds.length nd, .slice Af fs.length nf] 38) = W0 := ⟨_, rfl⟩
 have hB0 : Qb (Below w.heap.size w W0) := ⟨by rw [← hW0]; exact Qd (Below.refl _ _) _⟩
 have hbx : Qb (W0.heap[w.heap.size]? = some (.cells #[.slice Ad ds.length nd, .slice Af fs.length nf] 38 (0, 0))) := ⟨by rw [← hW0]; exact Qv w _⟩
 have hB : Qb (Below W0.heap.size W0 W0) := ⟨Below.refl _ _⟩
 have k0 := (Qa hbx.out 0).trans rfl
 have k1 := (Qa hbx.out 1).trans rfl
 go_enter Tryd.func16, Tryd.ntmps16
 go_upto_region 1 with (fail)
 (try rw [hW0])
 clear hW0
 rcases bd (8 < (ds.length : Int)) with c1 | c1
 rotate_left
 ·go_wp2
  go_ret
  exact ⟨false, rfl, fun h => absurd h (by decide), hB0.out.trans (hB.out.mono hB0.out.size)⟩
 rcases bd (12 < (fs.length : Int)) with c2 | c2
 rotate_left
 ·go_wp2
  go_ret
  exact ⟨false, rfl, fun h => absurd h (by decide), hB0.out.trans (hB.out.mono hB0.out.size)⟩
 go_wp2
 have hn1 := Int.not_lt.1 (of_decide_eq_false c1)
 have hn2 := Int.not_lt.1 (of_decide_eq_false c2)
 clear c1 c2 k0 k1
 have hfin := Qb.mk (hfin0.out (by omega) (by omega))
 clear hfin0 hn1 hn2
 have hx : Qb (-200000000000000 ≤ (200 : Int) ∧ (200 : Int) ≤ 1000 ∧ ((0 : Int) ≤ 200 → ∀ (q : Nat), q < 0 → ∀ (y : S56), ds[q]? = some y → DOk y)) := ⟨by decide, by decide, fun _ q hq => by omega⟩
 go_loopg [5, 6] (ds.length + 1) (fun kq v5 v6 w' => ∃ (x : Int) (i : Nat), v5 = .int .i64 x ∧ v6 = .int .i64 (i : Int) ∧ i + kq = ds.length + 1 ∧ 1 ≤ kq ∧ Qb (Below W0.heap.size W0 w') ∧ Qb (-200000000000000 ≤ x ∧ x ≤ 1000 ∧ (0 ≤ x → ∀ (q : Nat), q < i → ∀ (y : S56), ds[q]? = some y → DOk y)))
 case atStart => exact ⟨200, 0, rfl, rfl, by omega, by omega, hB, hx⟩
 case round =>
  clear hB
  clear hx
  obtain ⟨x, i, rfl, rfl, hi, hk, hBr, hx⟩ := hrel
  obtain ⟨g, hg⟩ : ∃ g, g = gk := ⟨_, rfl⟩
  by_cases hlt : i < ds.length
  ·rename World => wa
   have k0 := (Qa (Qc hbx.out hBr.out) 0).trans rfl
   have k1 := (Qa (Qc hbx.out hBr.out) 1).trans rfl
   have hxi : ds[i]? = some ds[i] := List.getElem?_eq_getElem hlt
   have hR := hD9.out _ (List.getElem_mem hlt)
   generalize ds[i] = d at hxi hR
   obtain ⟨ad, P1, n1, P2, n2, rfl, hDC, _, g1, _, g2⟩ := elemD (Kd.Qj hC1.out hB0.out) i hxi
   obtain ⟨s0, s1, s2⟩ := hDC.below hBr.out
   have hd9 : Qb (d.f1.length ≤ 10000000000000 ∧ d.f2.length ≤ 10000000000000 ∧ ∀ c ∈ d.f2, RC c) := ⟨hR.2.1.1, hR.2.2⟩
   have hCs := Qb.mk g2
   have hPs := Qb.mk g1
   have hDi := Qb.mk (And.intro hxi hR)
   clear hDC g1 g2 hxi hR
   obtain ⟨Wd, hWd⟩ : ∃ Wd, wa.alloc (.cells #[.string d.f0, .slice P1 d.f1.length n1, .slice P2 d.f2.length n2] 56) = Wd := ⟨_, rfl⟩
   have hBd : Qb (Below wa.heap.size wa Wd) := ⟨by rw [← hWd]; exact Qd (Below.refl _ _) _⟩
   have hdx : Qb (Wd.heap[wa.heap.size]? = some (.cells #[.string d.f0, .slice P1 d.f1.length n1, .slice P2 d.f2.length n2] 56 (0, 0))) := ⟨by rw [← hWd]; exact Qv wa _⟩
   have p0 : (0 : Int) ≤ (i : Int) := by omega
   have p1 : (i : Int) < (ds.length : Int) := by omega
   have q1 : decide ((i : Int) < (ds.length : Int)) = true := decide_eq_true p1
   have hjn : Value.int .i64 (wrap64 ((i : Int) + 1)) = .int .i64 ((i + 1 : Nat) : Int) := by rw [wr1 i (by have := hl9.out; omega)]
   have hBA : Qb (Below W0.heap.size W0 Wd) := ⟨hBr.out.trans (hBd.out.mono hBr.out.size)⟩
   have hBi : Qb (Below Wd.heap.size Wd Wd) := ⟨Below.refl _ _⟩
   obtain ⟨x1, hx1⟩ : ∃ x1, x - 1 - (d.f1.length : Int) - (d.f2.length : Int) = x1 := ⟨_, rfl⟩
   have hx2 : wrap64 (wrap64 (wrap64 (x - 1) - (d.f1.length : Int)) - (d.f2.length : Int)) = x1 := by rw [← hx1]; have := hd9.out; have := hx.out; unfold wrap64; omega
   replace hx1 := Qb.mk hx1
   have u0 := (Qa hdx.out 0).trans rfl
   have u1 := (Qa hdx.out 1).trans rfl
   have u2 := (Qa hdx.out 2).trans rfl
   go_upto_region 9 with (fail)
   (try rw [hWd])
   (try rw [hx2])
   clear hWd hx2 k0 k1 s0 s1 s2
   rcases bd (x1 < 0) with c1 | c1
   rotate_left
   ·go_wp2
    go_ret
    exact ⟨false, rfl, fun h => absurd h (by decide), hB0.out.trans ((hBA.out.trans (hBi.out.mono hBA.out.size)).mono hB0.out.size)⟩
   rcases bd (60 < (d.f0.size : Int)) with c2 | c2
   rotate_left
   ·go_wp2
    go_ret
    exact ⟨false, rfl, fun h => absurd h (by decide), hB0.out.trans ((hBA.out.trans (hBi.out.mono hBA.out.size)).mono hB0.out.size)⟩
   go_wp2
   have hx0 := Qb.mk (Int.not_lt.1 (of_decide_eq_false c1))
   clear c1 c2 u0 u1 u2
   have hy : Qb (-200000000000000 ≤ x1 ∧ x1 ≤ 1000 ∧ (0 ≤ x1 → x1 + sm cc (d.f2.take 0) ≤ x1)) := ⟨by have := hx0.out; omega, by have := hx.out; have := hx1.out; omega, fun _ => by simp [sm]⟩
   go_loopg [5, 8] (d.f2.length + 1) (fun kq v5 v8 w' => ∃ (y : Int) (j : Nat), v5 = .int .i64 y ∧ v8 = .int .i64 (j : Int) ∧ j + kq = d.f2.length + 1 ∧ 1 ≤ kq ∧ Qb (Below Wd.heap.size Wd w') ∧ Qb (-200000000000000 ≤ y ∧ y ≤ 1000 ∧ (0 ≤ y → y + sm cc (d.f2.take j) ≤ x1)))
   case atStart => exact ⟨x1, 0, rfl, rfl, by omega, by omega, hBi, hy⟩
   case round =>
    clear hBi
    clear hy
    obtain ⟨y, j, rfl, rfl, hib, hkb, hBrb, hy⟩ := hrel
    obtain ⟨gb, hgb⟩ : ∃ g, g = gk := ⟨_, rfl⟩
    by_cases hltb : j < d.f2.length
    ·have u2 := (Qa (Qc hdx.out hBrb.out) 2).trans rfl
     have hxi : d.f2[j]? = some d.f2[j] := List.getElem?_eq_getElem hltb
     have hx := hd9.out.2.2 _ (List.getElem_mem hltb)
     have hck := Qb.mk (cc_take hxi)
     generalize d.f2[j] = x at hxi hx hck
     obtain ⟨adc, Q1, q1', rfl, hEC, _, hCx⟩ := elemC (Kd.Qj hCs.out hBA.out) j hxi
     have hx9 : Qb (x.f1.length ≤ 10000000000000) := ⟨hx.2.1⟩
     have hxR := Qb.mk hx.2.2
     have hEC := Qb.mk hEC
     have hCa := Qb.mk hCx
     have hBn := hBrb
     obtain ⟨e0, e1⟩ := ZE hEC.out hBrb.out
     clear hxi hx hCx
     have p0 : (0 : Int) ≤ (j : Int) := by omega
     have p1 : (j : Int) < (d.f2.length : Int) := by omega
     have q1 : decide ((j : Int) < (d.f2.length : Int)) = true := decide_eq_true p1
     have hjnb : Value.int .i64 (wrap64 ((j : Int) + 1)) = .int .i64 ((j + 1 : Nat) : Int) := by rw [wr1 j (by have := hd9.out; omega)]
     rcases bd (8 < (x.f1.length : Int)) with c4 | c4
     rotate_left
     ·go_wp2
      go_ret
      exact ⟨false, rfl, fun h => absurd h (by decide), hB0.out.trans ((hBA.out.trans (hBrb.out.mono hBA.out.size)).mono hB0.out.size)⟩
     rcases bd (60 < (x.f0.size : Int)) with c5 | c5
     rotate_left
     ·go_wp2
      go_ret
      exact ⟨false, rfl, fun h => absurd h (by decide), hB0.out.trans ((hBA.out.trans (hBrb.out.mono hBA.out.size)).mono hB0.out.size)⟩
     have hz : Qb (-200000000000000 ≤ y ∧ y ≤ 1000 ∧ (0 ≤ y → y + Zg (x.f1.take 0) ≤ y)) := ⟨hy.out.1, hy.out.2.1, fun _ => by simp [Zg]⟩
     go_wp2
     clear c4 c5 e0 e1 u2
     go_loopg [5, 9] (x.f1.length + 1) (fun kq v5 v9 w' => ∃ (z : Int) (q : Nat), v5 = .int .i64 z ∧ v9 = .int .i64 (q : Int) ∧ q + kq = x.f1.length + 1 ∧ 1 ≤ kq ∧ Qb (Below Wd.heap.size Wd w') ∧ Qb (-200000000000000 ≤ z ∧ z ≤ 1000 ∧ (0 ≤ z → z + Zg (x.f1.take q) ≤ y)))
     case atStart => exact ⟨y, 0, rfl, rfl, by omega, by omega, hBn, hz⟩
     case round =>
      clear hBn
      clear hz
      obtain ⟨z, q, rfl, rfl, hic, hkc, hBrc, hz⟩ := hrel
      obtain ⟨gc, hgc⟩ : ∃ g, g = gk := ⟨_, rfl⟩
      by_cases hltc : q < x.f1.length
      ·have u2 := (Qa (Qc hdx.out hBrc.out) 2).trans rfl
       have e1 := (ZE hEC.out hBrc.out).2
       by_cases h0 : 0 ≤ z
       ·have q2 : decide (0 ≤ z) = true := decide_eq_true h0
        have hti : x.f1[q]? = some x.f1[q] := List.getElem?_eq_getElem hltc
        have ht := hxR.out _ (List.getElem_mem hltc)
        have htk := Qb.mk (tcost_take hti)
        generalize x.f1[q] = t at hti ht htk
        obtain ⟨adt, B1, b1, rfl, ⟨t0, t1⟩, hd, hCt⟩ := elemT (Kd.Qj hCa.out hBrc.out) q hti
        have CX := tyw_all _ t (Nat.le_refl _) ht z 0 wr (by have := hz.out; omega) (by have := hz.out; omega) (by decide) (by decide) hCt hd
        clear hti ht hd hCt
        have p0 : (0 : Int) ≤ (q : Int) := by omega
        have p1 : (q : Int) < (x.f1.length : Int) := by omega
        have q1 : decide ((q : Int) < (x.f1.length : Int)) = true := decide_eq_true p1
        have hjnc : Value.int .i64 (wrap64 ((q : Int) + 1)) = .int .i64 ((q + 1 : Nat) : Int) := by rw [wr1 q (by have := hx9.out; omega)]
        go_wp2_with (first | (go_at_call 32; go_loud (with_reducible refine CX.mono ?_); rintro e w3 ⟨v, rfl, hv1, hv2, hv3, hb3⟩; have HB3 := Qb.mk (Qe hBrc.out hb3); have hv := Qb.mk (And.intro hv1 (And.intro hv2 hv3)); clear hb3 CX hv1 hv2 hv3))
        go_roundg (gc - 1)
        case measure => omega
        case rel => exact ⟨v, q + 1, rfl, by first | exact hjnc | rfl, by omega, by omega, HB3, ⟨hv.out.2.1, hv.out.2.2, fun h => by have h1 := hv.out.1 h; have h2 := hz.out.2.2 (by omega); rw [htk.out]; omega⟩⟩
       ·have q1 : decide ((q : Int) < (x.f1.length : Int)) = true := decide_eq_true (by omega)
        have q2 : decide (0 ≤ z) = false := decide_eq_false h0
        have hz5 : Qb (-200000000000000 ≤ z ∧ z ≤ 1000 ∧ (0 ≤ z → z + cc x ≤ y)) := ⟨hz.out.1, hz.out.2.1, fun h => absurd h (by omega)⟩
        go_wp2
        go_roundg (gb - 1)
        case measure => omega
        case rel => exact ⟨z, j + 1, rfl, by first | exact hjnb | rfl, by omega, by omega, hBrc, ⟨hz5.out.1, hz5.out.2.1, fun h => by have h1 := hz5.out.2.2 h; have h2 := hy.out.2.2 (by omega); rw [hck.out]; omega⟩⟩
      ·have q1 : decide ((q : Int) < (x.f1.length : Int)) = false := decide_eq_false (by omega)
       have hBn := hBrc
       clear hBrc
       clear hic hkc hgc
       have u2 := (Qa (Qc hdx.out hBn.out) 2).trans rfl
       have e1 := (ZE hEC.out hBn.out).2
       have hz5 : Qb (-200000000000000 ≤ z ∧ z ≤ 1000 ∧ (0 ≤ z → z + cc x ≤ y)) := ⟨hz.out.1, hz.out.2.1, fun h => by have h1 := hz.out.2.2 h; rw [List.take_of_length_le (by omega)] at h1; rw [cc_eq]; exact h1⟩
       go_wp2
       go_roundg (gb - 1)
       case measure => omega
       case rel => exact ⟨z, j + 1, rfl, by first | exact hjnb | rfl, by omega, by omega, hBn, ⟨hz5.out.1, hz5.out.2.1, fun h => by have h1 := hz5.out.2.2 h; have h2 := hy.out.2.2 (by omega); rw [hck.out]; omega⟩⟩
    ·have q1 : decide ((j : Int) < (d.f2.length : Int)) = false := decide_eq_false (by omega)
     have hBi := hBrb
     clear hBrb
     clear hib hkb hgb
     have u2 := (Qa (Qc hdx.out hBi.out) 2).trans rfl
     have hj : Qb (d.f2.length ≤ j) := ⟨by omega⟩
     go_wp2
     clear u2
     go_loopg [10] (d.f1.length + 1) (fun kq v10 w' => ∃ (p : Nat), v10 = .int .i64 (p : Int) ∧ p + kq = d.f1.length + 1 ∧ 1 ≤ kq ∧ Qb (Below Wd.heap.size Wd w'))
     case atStart => exact ⟨0, rfl, by omega, by omega, hBi⟩
     case round =>
      clear hBi
      obtain ⟨p, rfl, hie, hke, hBre⟩ := hrel
      obtain ⟨ge, hge⟩ : ∃ g, g = gk := ⟨_, rfl⟩
      by_cases hlte : p < d.f1.length
      ·have u1 := (Qa (Qc hdx.out hBre.out) 1).trans rfl
       obtain ⟨adn, e, hv⟩ := at_str (Kd.Qj (Kd.Qj hPs.out hBA.out) hBre.out) p hlte hlte
       subst e
       generalize d.f1[p] = s at *
       have p0 : (0 : Int) ≤ (p : Int) := by omega
       have p1 : (p : Int) < (d.f1.length : Int) := by omega
       have q1 : decide ((p : Int) < (d.f1.length : Int)) = true := decide_eq_true p1
       have hjne : Value.int .i64 (wrap64 ((p : Int) + 1)) = .int .i64 ((p + 1 : Nat) : Int) := by rw [wr1 p (by have := hd9.out.1; omega)]
       rcases bd (60 < (s.size : Int)) with c4 | c4
       ·go_wp2
        go_roundg (ge - 1)
        case measure => omega
        case rel => exact ⟨p + 1, by first | exact hjne | rfl, by omega, by omega, hBre⟩
       ·go_wp2
        go_ret
        exact ⟨false, rfl, fun h => absurd h (by decide), hB0.out.trans ((hBA.out.trans (hBre.out.mono hBA.out.size)).mono hB0.out.size)⟩
      ·have q1 : decide ((p : Int) < (d.f1.length : Int)) = false := decide_eq_false (by omega)
       have hBi := hBre
       clear hBre hie hke hge
       have u1 := (Qa (Qc hdx.out hBi.out) 1).trans rfl
       go_wp2
       have hBT := Qb.mk (hBA.out.trans (hBi.out.mono hBA.out.size))
       go_roundg (g - 1)
       case measure => omega
       case rel => exact ⟨y, i + 1, rfl, by first | exact hjn | rfl, by omega, by omega, hBT, ⟨hy.out.1, hy.out.2.1, fun h => upto_next hDi.out.1 (hx.out.2.2 (by have := hy.out.2.2 h; have := hx1.out; omega)) ⟨hDi.out.2, by have h1 := hy.out.2.2 h; rw [List.take_of_length_le (by have := hj.out; omega)] at h1; have := hx1.out; have := hx.out; omega⟩⟩⟩
  ·have q1 : decide ((i : Int) < (ds.length : Int)) = false := decide_eq_false (by omega)
   have hB := hBr
   clear hBr
   clear hi hk hg
   have k0 := (Qa (Qc hbx.out hB.out) 0).trans rfl
   have k1 := (Qa (Qc hbx.out hB.out) 1).trans rfl
   have hx : Qb (-200000000000000 ≤ x ∧ x ≤ 1000 ∧ (0 ≤ x → (∀ (q : Nat) (y : S56), ds[q]? = some y → DOk y) ∧ ∀ (q : Nat), q < 0 → ∀ (y : S34), fs[q]? = some y → FOk y)) := ⟨hx.out.1, hx.out.2.1, fun h => ⟨fun q y hy => hx.out.2.2 h q (by have := (List.getElem?_eq_some_iff.1 hy).1; omega) y hy, fun q hq => by omega⟩⟩
   go_wp2
   go_loopg [5, 11] (fs.length + 1) (fun kq v5 v11 w' => ∃ (x : Int) (i : Nat), v5 = .int .i64 x ∧ v11 = .int .i64 (i : Int) ∧ i + kq = fs.length + 1 ∧ 1 ≤ kq ∧ Qb (Below W0.heap.size W0 w') ∧ Qb (-200000000000000 ≤ x ∧ x ≤ 1000 ∧ (0 ≤ x → (∀ (q : Nat) (y : S56), ds[q]? = some y → DOk y) ∧ ∀ (q : Nat), q < i → ∀ (y : S34), fs[q]? = some y → FOk y)))
   case atStart => exact ⟨x, 0, rfl, rfl, by omega, by omega, hB, hx⟩
   case round =>
    clear hB
    clear hx
    obtain ⟨x, i, rfl, rfl, hi, hk, hBr, hx⟩ := hrel
    obtain ⟨g, hg⟩ : ∃ g, g = gk := ⟨_, rfl⟩
    by_cases hlt : i < fs.length
    ·rename World => wa
     have k0 := (Qa (Qc hbx.out hBr.out) 0).trans rfl
     have k1 := (Qa (Qc hbx.out hBr.out) 1).trans rfl
     have hxi : fs[i]? = some fs[i] := List.getElem?_eq_getElem hlt
     have hR := hF9.out _ (List.getElem_mem hlt)
     generalize fs[i] = d at hxi hR
     obtain ⟨ad, P1, n1, B3, d3, B4, d4, B5, d5, rfl, hFC, _, g1, g3, g4, g5, m3, m4, m5⟩ := elemF (Kd.Qj hC2.out hB0.out) i hxi
     obtain ⟨e0, e1, e2, e3, e4, e5, e6, e7⟩ := hFC.below hBr.out
     have hPs := Qb.mk g1
     have hl1 : Qb (d.f1.length ≤ 10000000000000) := ⟨hR.2.1.1⟩
     have CX := Qb.mk (fun (W : World) (hb : Below W0.heap.size W0 W) (x1 : Int) (hq : -100000000000000 ≤ x1) (hq2 : x1 ≤ 1000) => exw_all _ d.f2 (Nat.le_refl _) hR.2.2 x1 0 W hq hq2 (by decide) (by decide) (c3 := d3) (c4 := d4) (c5 := d5) (Kd.Qj g3 hb) m3 (Kd.Qj g4 hb) m4 (Kd.Qj g5 hb) m5)
     have hDi := Qb.mk (And.intro hxi hR)
     clear hFC g1 g3 g4 g5 m3 m4 m5 hxi hR
     obtain ⟨Wd, hWd⟩ : ∃ Wd, wa.alloc (.cells #[.string d.f0, .slice P1 d.f1.length n1, .int .i64 d.f2.f0, .string d.f2.f1, .int .i64 d.f2.f2, .slice B3 d.f2.f3.length d3, .slice B4 d.f2.f4.length d4, .slice B5 d.f2.f5.length d5] 34) = Wd := ⟨_, rfl⟩
     have hBd : Qb (Below wa.heap.size wa Wd) := ⟨by rw [← hWd]; exact Qd (Below.refl _ _) _⟩
     have hdx : Qb (Wd.heap[wa.heap.size]? = some (.cells #[.string d.f0, .slice P1 d.f1.length n1, .int .i64 d.f2.f0, .string d.f2.f1, .int .i64 d.f2.f2, .slice B3 d.f2.f3.length d3, .slice B4 d.f2.f4.length d4, .slice B5 d.f2.f5.length d5] 34 (0, 0))) := ⟨by rw [← hWd]; exact Qv wa _⟩
     have p0 : (0 : Int) ≤ (i : Int) := by omega
     have p1 : (i : Int) < (fs.length : Int) := by omega
     have q1 : decide ((i : Int) < (fs.length : Int)) = true := decide_eq_true p1
     have hjn : Value.int .i64 (wrap64 ((i : Int) + 1)) = .int .i64 ((i + 1 : Nat) : Int) := by rw [wr1 i (by have := hl9.out; omega)]
     have hBA : Qb (Below W0.heap.size W0 Wd) := ⟨hBr.out.trans (hBd.out.mono hBr.out.size)⟩
     have hBi : Qb (Below Wd.heap.size Wd Wd) := ⟨Below.refl _ _⟩
     obtain ⟨x1, hx1⟩ : ∃ x1, x - (d.f1.length : Int) = x1 := ⟨_, rfl⟩
     have hx2 : wrap64 (x - (d.f1.length : Int)) = x1 := by rw [← hx1]; have := hl1.out; have := hx.out; unfold wrap64; omega
     replace hx1 := Qb.mk hx1
     have u0 := (Qa hdx.out 0).trans rfl
     have u1 := (Qa hdx.out 1).trans rfl
     go_upto_region 30 with (fail)
     (try rw [hWd])
     (try rw [hx2])
     clear hWd hx2 k0 k1 e0 e1 e2 e3 e4 e5 e6 e7
     rcases bd (x1 < 0) with c1 | c1
     rotate_left
     ·go_wp2
      go_ret
      exact ⟨false, rfl, fun h => absurd h (by decide), hB0.out.trans ((hBA.out.trans (hBi.out.mono hBA.out.size)).mono hB0.out.size)⟩
     rcases bd (60 < (d.f0.size : Int)) with c2 | c2
     rotate_left
     ·go_wp2
      go_ret
      exact ⟨false, rfl, fun h => absurd h (by decide), hB0.out.trans ((hBA.out.trans (hBi.out.mono hBA.out.size)).mono hB0.out.size)⟩
     go_wp2
     have hx0 := Qb.mk (Int.not_lt.1 (of_decide_eq_false c1))
     clear c1 c2 u0 u1
     go_loopg [13] (d.f1.length + 1) (fun kq v13 w' => ∃ (p : Nat), v13 = .int .i64 (p : Int) ∧ p + kq = d.f1.length + 1 ∧ 1 ≤ kq ∧ Qb (Below Wd.heap.size Wd w'))
     case atStart => exact ⟨0, rfl, by omega, by omega, hBi⟩
     case round =>
      clear hBi
      obtain ⟨p, rfl, hie, hke, hBre⟩ := hrel
      obtain ⟨ge, hge⟩ : ∃ g, g = gk := ⟨_, rfl⟩
      by_cases hlte : p < d.f1.length
      ·have u1 := (Qa (Qc hdx.out hBre.out) 1).trans rfl
       obtain ⟨adn, e, hv⟩ := at_str (Kd.Qj (Kd.Qj hPs.out hBA.out) hBre.out) p hlte hlte
       subst e
       generalize d.f1[p] = s at *
       have p0 : (0 : Int) ≤ (p : Int) := by omega
       have p1 : (p : Int) < (d.f1.length : Int) := by omega
       have q1 : decide ((p : Int) < (d.f1.length : Int)) = true := decide_eq_true p1
       have hjne : Value.int .i64 (wrap64 ((p : Int) + 1)) = .int .i64 ((p + 1 : Nat) : Int) := by rw [wr1 p (by have := hl1.out; omega)]
       rcases bd (60 < (s.size : Int)) with c4 | c4
       ·go_wp2
        go_roundg (ge - 1)
        case measure => omega
        case rel => exact ⟨p + 1, by first | exact hjne | rfl, by omega, by omega, hBre⟩
       ·go_wp2
        go_ret
        exact ⟨false, rfl, fun h => absurd h (by decide), hB0.out.trans ((hBA.out.trans (hBre.out.mono hBA.out.size)).mono hB0.out.size)⟩
      ·have q1 : decide ((p : Int) < (d.f1.length : Int)) = false := decide_eq_false (by omega)
       have hBi := hBre
       clear hBre hie hke hge
       have u1 := (Qa (Qc hdx.out hBi.out) 1).trans rfl
       have hBT := Qb.mk (hBA.out.trans (hBi.out.mono hBA.out.size))
       obtain ⟨u0, u1', u2, u3, u4, u5, u6, u7⟩ := c8 (Qc hdx.out hBi.out)
       have CX := CX.out wr hBT.out x1 (by have := hx0.out; omega) (by have := hx.out; have := hx1.out; omega)
       go_wp2_with (first | (go_at_call 33; go_loud (with_reducible refine CX.mono ?_); rintro e w3 ⟨v, rfl, hv1, hv2, hv3, hb3⟩; have HB3 := Qb.mk (Qe hBT.out hb3); have hv := Qb.mk (And.intro hv1 (And.intro hv2 hv3)); clear hb3 CX hv1 hv2 hv3))
       go_roundg (g - 1)
       case measure => omega
       case rel => exact ⟨v, i + 1, rfl, by first | exact hjn | rfl, by omega, by omega, HB3, ⟨hv.out.2.1, hv.out.2.2, fun h => ⟨(hx.out.2.2 (by have := hv.out.1 h; have := hx1.out; omega)).1, upto_next hDi.out.1 (hx.out.2.2 (by have := hv.out.1 h; have := hx1.out; omega)).2 ⟨hDi.out.2, by have h1 := hv.out.1 h; have := hx1.out; have := hx.out; omega⟩⟩⟩⟩
    ·have q1 : decide ((i : Int) < (fs.length : Int)) = false := decide_eq_false (by omega)
     have hB := hBr
     clear hBr
     clear hi hk hg
     have k0 := (Qa (Qc hbx.out hB.out) 0).trans rfl
     have k1 := (Qa (Qc hbx.out hB.out) 1).trans rfl
     rcases bd (0 ≤ x) with c1 | c1
     ·go_wp2
      go_ret
      exact ⟨false, by first | rfl | simp [*], fun h => absurd h (by decide), hB0.out.trans (hB.out.mono hB0.out.size)⟩
     ·go_wp2
      go_ret
      exact ⟨true, by first | rfl | simp [*], fun _ => hfin.out (hx.out.2.2 (of_decide_eq_true c1)).1 (fun q y hy => (hx.out.2.2 (of_decide_eq_true c1)).2 q (by have := (List.getElem?_eq_some_iff.1 hy).1; omega) y hy), hB0.out.trans (hB.out.mono hB0.out.size)⟩
theorem ris_mem (g : Int → Int) : ∀ (k i : Nat) (x : Int), x ∈ ris g k i ↔ ∃ q : Nat, x = (q : Int) ∧ i ≤ q ∧ q < i + k ∧ 0 < g x
 | 0, i, x => by
  simp only [ris, List.not_mem_nil, false_iff]
  rintro ⟨q, _, h1, h2, _⟩
  omega
 | k + 1, i, x => by
  have ih := ris_mem g k (i + 1) x
  simp only [ris]
  split
  ·rename_i h0
   rw [List.mem_cons, ih]
   constructor
   ·rintro (rfl | ⟨q, h1, h2, h3, h4⟩)
    ·exact ⟨i, rfl, Nat.le_refl _, by omega, h0⟩
    ·exact ⟨q, h1, by omega, by omega, h4⟩
   ·rintro ⟨q, h1, h2, h3, h4⟩
    by_cases e : q = i
    ·subst e; exact .inl h1
    ·exact .inr ⟨q, h1, by omega, by omega, h4⟩
  ·rename_i h0
   rw [ih]
   constructor
   ·rintro ⟨q, h1, h2, h3, h4⟩
    exact ⟨q, h1, by omega, by omega, h4⟩
   ·rintro ⟨q, h1, h2, h3, h4⟩
    refine ⟨q, h1, ?_, by omega, h4⟩
    by_cases e : q = i
    ·subst e; rw [h1] at h4; exact absurd h4 h0
    ·omega
theorem memN_pos {h : List Int} {n : Int} : 0 < memN h n ↔ n ∈ h := by
 rw [memN_in]
 by_cases e : inI h n = true
 ·rw [if_pos e]; simp [Va.1 e]
 ·have e2 : n ∉ h := fun hh => e (Va.2 hh)
  rw [if_neg e]; simp [e2]
theorem allL_at {fs : List S34} {k : Nat} (h : k < fs.length) : (allL fs)[k]? = some (usesL fs k) := by
 unfold allL
 rw [List.getElem?_map, List.getElem?_range h]
 rfl
theorem allL_len (fs : List S34) : (allL fs).length = fs.length := by simp [allL]
theorem uses_row {fs : List S34} {k : Nat} (h : k < fs.length) : (usesL fs k).length ≤ fs.length ∧ ∀ x ∈ usesL fs k, 0 ≤ x ∧ x < (fs.length : Int) := by
 unfold usesL
 rw [List.getElem?_eq_getElem h]
 refine ⟨ris_len _ _ _, fun x hx => ?_⟩
 obtain ⟨q, rfl, _, h2, _⟩ := (ris_mem _ _ _ _).1 hx
 omega
theorem ok_us {fs : List S34} (h : fs.length ≤ 1000) : Ok (allL fs) := by
 refine ⟨by rw [allL_len]; exact h, fun row hr => ?_⟩
 obtain ⟨k, hk, rfl⟩ := List.getElem_of_mem hr
 rw [allL_len] at hk
 have e := allL_at hk
 rw [List.getElem?_eq_getElem (by rw [allL_len]; exact hk)] at e
 rw [Option.some.inj e, allL_len]
 have h1 := uses_row hk
 exact ⟨by omega, h1.2⟩
theorem okD_of {d : S34} (h : FOk d) : okD d = true := by
 have h1 := cost_cn d.f2
 have h2 := h.2
 have h3 := h.1.1
 unfold B47 at h3
 simp only [okD, Bool.and_eq_true, decide_eq_true_eq]
 exact ⟨⟨⟨nsz_of h.1.2.1.2, okE_of d.f2 h.1.2.2⟩, by omega⟩, h3⟩
theorem ok3_of {fs : List S34} (hl : fs.length ≤ 1000) (h : ∀ d ∈ fs, FOk d) : ok3 fs = true := by
 simp only [ok3, okDs, Bool.and_eq_true, decide_eq_true_eq, List.all_eq_true]
 exact ⟨⟨fun d hd => okD_of (h d hd), hl⟩, okR_of (ok_us hl)⟩
theorem need_mem {fs : List S34} {i k : Nat} : (k : Int) ∈ needL fs i ↔ k < fs.length ∧ (k : Int) ∈ ZN (allL fs) i := by
 unfold needL
 rw [ris_mem]
 constructor
 ·rintro ⟨q, h1, _, h2, h3⟩
  exact ⟨by omega, memN_pos.1 h3⟩
 ·rintro ⟨h1, h2⟩
  exact ⟨k, rfl, Nat.zero_le _, by omega, memN_pos.2 h2⟩
theorem among_l0 (l : List Int) (n : Int) (hl : l.length ≤ 1000000) : ∀ (k i : Nat), l.length + 1 ≤ k + i → 1 ≤ k → Q5.l0 k l n (i : Int) = some (decide (n ∈ l.drop i))
 | 0, i, _, h => by omega
 | k + 1, i, h, _ => by
  rw [Q5.l0]
  by_cases hlt : i < l.length
  ·have hr : rd l (i : Int) = l[i] := by unfold rd; rw [Int.toNat_natCast, List.getD_eq_getElem?_getD, List.getElem?_eq_getElem hlt]; rfl
   rw [if_pos (by omega), if_pos (by omega), hr, List.drop_eq_getElem_cons hlt]
   by_cases e : l[i] = n
   ·rw [if_pos e]; simp only [List.mem_cons, e, true_or, decide_true]
   ·rw [if_neg e, w64 i (by omega), among_l0 l n hl k (i + 1) (by omega) (by omega)]
    have e2 : ¬ n = l[i] := fun h => e h.symm
    simp only [List.mem_cons, e2, false_or]
  ·rw [if_neg (by omega), List.drop_of_length_le (by omega)]
   simp
theorem among_c (l : List Int) (n : Int) (hl : l.length ≤ 1000000) (w : World) {A : Option Addr} {c : Nat} (hC : Kd.C kI w A l.length l) (hc : l.length ≤ c) : Calls Tryd.prog 22 #[.slice A l.length c, .int .i64 n] w fun e w' => e = .returned (.bool (decide (n ∈ l))) ∧ Qx w w' :=
 Q5.calls _ A c l n _ w hC hc (by unfold Q5.f; exact among_l0 l n hl (l.length + 1) 0 (by omega) (by omega))
def OB (W : World) (g : Nat) (O : List Int) : Prop := W.heap[g]? = some (.cells (O.map (Value.int .i64)).toArray 3 (0, 0))
theorem OB.below {W W1 : World} {g : Nat} {O : List Int} (h : OB W g O) (hb : Below W.heap.size W W1) : OB W1 g O := Qc h hb
theorem OB.cell {W : World} {g : Nat} {O : List Int} (h : OB W g O) (q : Nat) (hq : q < O.length) : W.cell? ⟨g, q, none⟩ = some (.int .i64 O[q]) ∧ W.frozen? ⟨g, q, none⟩ = false := by
 refine ⟨?_, Qg h q⟩
 rw [Qa h q]
 simp [hq]
theorem OB.put {W : World} {g : Nat} {O : List Int} (h : OB W g O) (q : Nat) (v : Int) : OB (W.setCell ⟨g, q, none⟩ (.int .i64 v)) g (O.set q v) := by
 refine QP h q _ ?_
 rw [List.setIfInBounds_toArray, List.map_set]
theorem OB.made (w : World) (n : Nat) : OB (w.alloc (.cells (madeCells (Value.int .i64 0).cells (n * 1)) 3)) w.heap.size (List.replicate n 0) := by
 have h := Qv w (.cells (madeCells (Value.int .i64 0).cells (n * 1)) 3 (0, 0))
 have e : (madeCells (Value.int .i64 0).cells (n * 1)) = ((List.replicate n (0 : Int)).map (Value.int .i64)).toArray := by
  apply Array.toList_inj.1
  rw [made_one _ rfl, List.map_replicate]
 unfold OB
 rw [← e]
 exact h
theorem order_facts {fs : List S34} (hl : fs.length ≤ 1000) : ∃ R Of, grps (rsL (allL fs)) 2000 [] [] = some R ∧ (R.flatten.length = fs.length ∧ R.length ≤ fs.length) ∧ runG R 1 (List.replicate fs.length 0) = some Of ∧ Of.length = fs.length ∧ (∀ i q : Nat, i < fs.length → (q : Int) ∈ usesL fs i → Of.getD q 1 ≤ Of.getD i 1) ∧ ∀ i k : Nat, i < fs.length → k < fs.length → Of.getD k 1 = Of.getD i 1 → (k : Int) ∈ needL fs i := by
 obtain ⟨R, Of, h1, h2, h3, h4, h5, h6⟩ := order_spec (ok_us hl)
 rw [allL_len] at h2 h3 h4 h5 h6
 obtain ⟨R', g1, done, hD, _⟩ := groups_spec (ok_us hl)
 rw [h1] at g1
 obtain rfl := Option.some.inj g1
 have h7 := flat_len R (fun g hg => by
  obtain ⟨p, hp, rfl⟩ := List.getElem_of_mem hg
  have := (hD.one p _ (List.getElem?_eq_getElem hp)).1
  cases hh : R[p] with
  | nil => exact absurd hh this
  | cons => simp)
 refine ⟨R, Of, h1, ⟨h2, by omega⟩, h3, h4, fun i q hi hq => ?_, fun i k hi hk e => need_mem.2 ⟨hk, h6 i k hi hk e⟩⟩
 have := h5 i hi (q : Int) (by rw [List.getD_eq_getElem?_getD, allL_at hi]; exact hq)
 simpa using this
theorem runK_step {v : Int} {x : List Int} {k : Nat} {O : List Int} {F : List Int → Option (List Int)} {Z : List Int} (hk : k < x.length) (h : (runK v (x.drop k) O).bind F = some Z) : ∃ q : Nat, x[k] = (q : Int) ∧ q < O.length ∧ O[q]? = some 0 ∧ (runK v (x.drop (k + 1)) (O.set q v)).bind F = some Z := by
 rw [List.drop_eq_getElem_cons hk, runK] at h
 split at h
 ·rename_i hc
  obtain ⟨c0, c1, c2⟩ := hc
  refine ⟨x[k].toNat, by omega, by omega, ?_, h⟩
  rw [List.getD_eq_getElem?_getD, List.getElem?_eq_getElem (by omega)] at c2
  rw [List.getElem?_eq_getElem (by omega)]
  exact congrArg some c2
 ·simp at h
theorem runK_end {v : Int} {x : List Int} {k : Nat} {O : List Int} {F : List Int → Option (List Int)} {Z : List Int} (hk : x.length ≤ k) (h : (runK v (x.drop k) O).bind F = some Z) : F O = some Z := by
 rw [List.drop_of_length_le hk, runK] at h
 simpa using h
theorem runG_step {R : List (List Int)} {i : Nat} {v : Int} {O Z : List Int} (hi : i < R.length) (h : runG (R.drop i) v O = some Z) : (runK v (R[i].drop 0) O).bind (runG (R.drop (i + 1)) (v + 1)) = some Z := by
 rw [List.drop_eq_getElem_cons hi, runG] at h
 rw [List.drop_zero]
 exact h
theorem flat_drop {R : List (List Int)} {i : Nat} (hi : i < R.length) : (R.drop i).flatten.length = R[i].length + (R.drop (i + 1)).flatten.length := by
 rw [List.drop_eq_getElem_cons hi, List.flatten_cons, List.length_append]
theorem c2_ {W : World} {b t : Nat} {x0 x1 : Value} (h : W.heap[b]? = some (.cells #[x0, x1] t (0, 0))) : W.cell? ⟨b, 0, none⟩ = some x0 ∧ W.cell? ⟨b, 1, none⟩ = some x1 := ⟨(Qa h 0).trans rfl, (Qa h 1).trans rfl⟩
theorem one_below {W W1 : World} {p : Addr} {u : Value} (h : W.cell? p = some u) (hb : Below W.heap.size W W1) : W1.cell? p = some u := (hb.cell (World.block_lt_of_cell? _ _ h)).trans h
end Go.Proofs.YtlgpoigbadajnaaDoor.DepA.Z
