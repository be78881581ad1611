/- gristmillref5.ValidExpr: it ends. Conditions: the library's table of powers of ten reads as it is laid; the texts are of a size that memory has room for. -/
import Derived.Test.YtmoeekidmkhkoaaDoorFreeN
import Derived.Test.YtmoeekidmkhkoaaDoorPFreeAx7
namespace Go.Proofs.YtmoeekidmkhkoaaDoor.FreeA
open Go.RowKit Go.Proofs.YtmoeekidmkhkoaaDoorW.PrintWords Go.Proofs.YtmoeekidmkhkoaaDoorW.PrintLast Go.Proofs.YtmoeekidmkhkoaaDoorW.PrintMore Go.Proofs.YtmoeekidmkhkoaaDoor.PFreeA
set_option linter.unusedVariables false
set_option linter.unusedSimpArgs false
mutual
def sz56 : S56 → Nat
  | ⟨_, l, _⟩ => 1 + sz56L l
def sz56L : List S56 → Nat
  | [] => 0
  | e :: l => sz56 e + sz56L l
end
theorem sz56_eq (x : S56) : sz56 x = 1 + sz56L x.f1 := by cases x; simp only [sz56]
theorem sz56_drop {l : List S56} {i : Nat} (h : i < l.length) : sz56L (l.drop i) = sz56 l[i] + sz56L (l.drop (i + 1)) := by rw [List.drop_eq_getElem_cons h]; simp only [sz56L]
theorem sz56_mem : ∀ {l : List S56} {x : S56}, x ∈ l → sz56 x ≤ sz56L l
  | _ :: l, x, h => by
    simp only [sz56L]
    rcases List.mem_cons.1 h with rfl | h
    · omega
    · have := sz56_mem h; omega
def Bd56 : Nat → List S56 → Prop
  | 0, l => l = []
  | m + 1, l => l.length ≤ 9223372036854775807 ∧ ∀ x ∈ l, Bd56 m x.f1
theorem bd56_of : ∀ (m : Nat) (l : List S56), sz56L l < m → ∀ {W : World} {A : Option Addr} {n : Nat}, k56.C W A n l → Bd56 m l
  | 0, l, h, _, _, _, _ => by omega
  | m + 1, l, h, W, A, n, hC => by
    refine ⟨by have h1 := hC.1; have h2 := hC.2.1; omega, fun x hx => ?_⟩
    obtain ⟨i, hi, rfl⟩ := List.getElem_of_mem hx
    obtain ⟨ad, c, e, _, hK, _⟩ := Kd.C_get hC z56 (i : Int) (by omega) (by have := hC.1; omega)
    have hr : l.getD (i : Int).toNat z56 = l[i] := by rw [Int.toNat_natCast, List.getD_eq_getElem?_getD, List.getElem?_eq_getElem hi]; rfl
    rw [hr] at hK
    obtain ⟨A1, c1, _, _, hC1⟩ := k56_open hK
    exact bd56_of m _ (by have h1 := sz56_mem hx; rw [sz56_eq] at h1; omega) hC1
theorem deep_l0 : ∀ (k m : Nat) (l : List S56) (d : Int) (i : Nat), Bd56 (m + 1) l → i ≤ l.length → sz56L (l.drop i) * 2 + 2 ≤ k → ∃ r, gristmillref1_Deep.l0 k l d (i : Int) = some r
  | 0, m, l, d, i, hb, hi, hk => by omega
  | 1, m, l, d, i, hb, hi, hk => by omega
  | k + 2, m, l, d, i, hb, hi, hk => by
    rw [gristmillref1_Deep.l0]
    by_cases hlt : i < l.length
    · have hd := sz56_drop hlt
      have hsz := sz56_eq l[i]
      have hr : rd_T56 l (i : Int) = l[i] := by unfold rd_T56; rw [Int.toNat_natCast, List.getD_eq_getElem?_getD, List.getElem?_eq_getElem hlt]; rfl
      have hw : wrap64 ((i : Int) + 1) = ((i + 1 : Nat) : Int) := by have := hb.1; unfold wrap64; omega
      have hrec : ∀ d', ∃ r, gristmillref1_Deep.l0 (k + 1) l d' ((i + 1 : Nat) : Int) = some r := fun d' => deep_l0 (k + 1) m l d' (i + 1) hb (by omega) (by omega)
      rw [if_pos (by omega), if_pos (by omega), hr, hw]
      refine ite_ex (bind_ex ?_ (fun q => hrec _)) (hrec _)
      rw [gristmillref1_Deep.f]
      have hbx := hb.2 _ (List.getElem_mem hlt)
      cases m with
      | zero =>
        have hbx : l[i].f1 = [] := hbx
        rw [hbx]
        cases k with
        | zero => omega
        | succ k => rw [gristmillref1_Deep.l0]; exact ⟨_, rfl⟩
      | succ m => exact deep_l0 k m _ 0 0 hbx (Nat.zero_le _) (by rw [List.drop_zero]; omega)
    · rw [if_neg (by omega)]
      exact ⟨_, rfl⟩
theorem deep_c (l : List S56) {W : World} {A : Option Addr} {c : Nat} (hC : k56.C W A l.length l) (hc : l.length ≤ c) : Calls Tryd.prog 36 #[.slice A l.length c] W fun e w' => ∃ v : Int, e = .returned (.int .i64 v) ∧ Below W.heap.size W w' := by
  obtain ⟨r, hr⟩ : ∃ r, gristmillref1_Deep.f (sz56L l * 2 + 3) l = some r := by
    rw [gristmillref1_Deep.f]
    exact deep_l0 _ (sz56L l) l 0 0 (bd56_of _ l (Nat.lt_succ_self _) hC) (Nat.zero_le _) (by rw [List.drop_zero]; exact Nat.le_refl _)
  exact (gristmillref1_Deep.calls _ A c l r W hC hc hr).mono fun e w' h => ⟨r, h⟩
theorem deep_1 {W : World} {q n c : Nat} {s : ByteArray} {A : Option Addr} (hn : NL W q A n) (hc : n ≤ c) :
    Calls Tryd.prog 36 #[.slice (some ⟨W.heap.size, 0, none⟩) 1 1] (W.alloc (.cells #[.string s, .slice A n c, .int .i64 0] 56)) fun e w' => ∃ v : Int, e = .returned (.int .i64 v) ∧ Below (W.alloc (.cells #[.string s, .slice A n c, .int .i64 0] 56)).heap.size (W.alloc (.cells #[.string s, .slice A n c, .int .i64 0] 56)) w' := by
  obtain ⟨xs, hx⟩ := hn
  have hb := blk_new W (.cells #[.string s, .slice A n c, .int .i64 0] 56 (0, 0))
  have hK := nodeK (Kd.F_alloc hx (.cells #[.string s, .slice A n c, .int .i64 0] 56)) hc s
  exact deep_c [⟨s, xs, 0⟩] (C_cells hb (Reps.c3 (Kd.FK_now hK) (Reps.none _ _)) (by simp)) (Nat.le_refl _)
theorem validExpr_all : ∀ (m : Nat) (e : S33), cost e ≤ m → WF e → XV e
  | 0, e, hc, _ => by have := cost_eq e; omega
  | m + 1, e, hc, hw => by
    have h := (wf_iff e).1 hw
    exact validExpr_step e hw (fun x hx => validExpr_all m x (by have := cost_mem hx; omega) (h.2.1 x hx)) (fun a ha => validExpr_all m a.f4 (by have := cost_memA ha; omega) (h.2.2 a ha).2.2)
set_option maxHeartbeats 4000000 in
set_option maxRecDepth 100000 in
theorem valid_c (e : S33) (hwf : WF e) (w : World) (hg : GG w) {A3 A4 A5 : Option Addr} {c3 c4 c5 : Nat} (h3 : Kd.C Kd.string w A3 e.f3.length e.f3) (m3 : e.f3.length ≤ c3) (h4 : Kd.C k33 w A4 e.f4.length e.f4) (m4 : e.f4.length ≤ c4) (h5 : Kd.C k40 w A5 e.f5.length e.f5) (m5 : e.f5.length ≤ c5) :
    Calls Tryd.prog 14 #[.agg #[.int .i64 e.f0, .string e.f1, .int .i64 e.f2, .slice A3 e.f3.length c3, .slice A4 e.f4.length c4, .slice A5 e.f5.length c5]] w fun r w' => ∃ b : Bool, r = .returned (.bool b) ∧ Below w.heap.size w w' := by
  obtain ⟨W0, hW0⟩ : ∃ W0, w.alloc (.cells #[.int .i64 e.f0, .string e.f1, .int .i64 e.f2, .slice A3 e.f3.length c3, .slice A4 e.f4.length c4, .slice A5 e.f5.length c5] 33) = W0 := ⟨_, rfl⟩
  have hB0 : Aside0 (Below w.heap.size w W0) := ⟨by rw [← hW0]; exact below_alloc (Below.refl _ _) _⟩
  have hbx : Aside0 (W0.heap[w.heap.size]? = some (.cells #[.int .i64 e.f0, .string e.f1, .int .i64 e.f2, .slice A3 e.f3.length c3, .slice A4 e.f4.length c4, .slice A5 e.f5.length c5] 33 (0, 0))) := ⟨by rw [← hW0]; exact blk_new w _⟩
  have CV := (validExpr_all (cost e) e (Nat.le_refl _) hwf).at W0 (Kd.C_below h3 hB0.out) m3 (Kd.C_below h4 hB0.out) m4 (Kd.C_below h5 hB0.out) m5
  have k0 := (blk_cell hbx.out 0).trans rfl
  have k1 := (blk_cell hbx.out 1).trans rfl
  have k2 := (blk_cell hbx.out 2).trans rfl
  have k3 := (blk_cell hbx.out 3).trans rfl
  have k4 := (blk_cell hbx.out 4).trans rfl
  have k5 := (blk_cell hbx.out 5).trans rfl
  by_cases hs : Shp e
  · have XE := exprNode_all (cost e) e (Nat.le_refl _) hwf hs
    have CN : ∀ W, Below W0.heap.size W0 W → _ := fun W hb => XE.at W (GG.below hg (hB0.out.trans (hb.mono hB0.out.size))) (c3 := c3) (c4 := c4) (c5 := c5) (Kd.C_below (Kd.C_below h3 hB0.out) hb) (Kd.C_below (Kd.C_below h4 hB0.out) hb) (Kd.C_below (Kd.C_below h5 hB0.out) hb)
    obtain ⟨f0, f1, f2, f3, f4, f5⟩ := e
    dsimp only at *
    have T1 : True := trivial
    clear XE hs hwf h3 h4 h5 m3 m4 m5
    go_enter Tryd.func14, Tryd.ntmps14
    go_wp2_with (first | (go_at_call 35; (try rw [hW0]); go_loud (with_reducible refine CV.mono ?_); rintro r w2 ⟨v, rfl, _, hb2⟩; have HB2 := Aside0.mk hb2; have CN2 := CN w2 hb2; have j0 := (blk_cell (blk_below hbx.out hb2) 0).trans rfl; have j1 := (blk_cell (blk_below hbx.out hb2) 1).trans rfl; have j2 := (blk_cell (blk_below hbx.out hb2) 2).trans rfl; have j3 := (blk_cell (blk_below hbx.out hb2) 3).trans rfl; have j4 := (blk_cell (blk_below hbx.out hb2) 4).trans rfl; have j5 := (blk_cell (blk_below hbx.out hb2) 5).trans rfl; clear CV CN hb2 k0 k1 k2 k3 k4 k5) | (go_at_call 37; go_loud (with_reducible refine CN2.mono ?_); rintro r w3 ⟨s3, A3', n3', c3', rfl, hc3, hn3, hb3⟩; have HB3 := Aside0.mk (below_step HB2.out hb3); have CD := deep_1 (s := s3) hn3 hc3; have HN := Aside0.mk hn3; have HC := Aside0.mk hc3; clear hb3 CN2 hn3 hc3) | (go_at_call 36; go_loud (with_reducible refine CD.mono ?_); rintro r w4 ⟨v4, rfl, hb4⟩; have HB4 := Aside0.mk (below_step (below_alloc HB3.out _) hb4); clear hb4 CD))
    all_goals go_ret
    all_goals exact ⟨_, rfl, by first | exact hB0.out.trans (HB4.out.mono hB0.out.size) | exact hB0.out.trans (HB2.out.mono hB0.out.size)⟩
  · obtain ⟨f0, f1, f2, f3, f4, f5⟩ := e
    dsimp only at *
    clear hwf h3 h4 h5 m3 m4 m5
    have hs := Aside0.mk hs
    go_enter Tryd.func14, Tryd.ntmps14
    go_wp2_with (first | (go_at_call 35; (try rw [hW0]); go_loud (with_reducible refine CV.mono ?_); rintro r w2 ⟨v, rfl, hv, hb2⟩; have HB2 := Aside0.mk hb2; have qv : (v == 0) = false := (beq_eq_false_iff_ne.2 (fun h => hs.out (hv h))); clear CV hb2 hv))
    go_ret
    exact ⟨_, rfl, hB0.out.trans (HB2.out.mono hB0.out.size)⟩
end Go.Proofs.YtmoeekidmkhkoaaDoor.FreeA

