/- HeapShares: plain, and a heap beside the law's own rows. No condition beyond those that each states. -/
import Derived.Test.YtepaddjjdhpmpaaDoorHeapL
namespace Go.Proofs.YtepaddjjdhpmpaaDoor.HeapA
open Go.RowKit Go.Proofs.YtepaddjjdhpmpaaDoorW.PrintWords Go.Proofs.YtepaddjjdhpmpaaDoorW.PrintLast Go.Proofs.YtepaddjjdhpmpaaDoorW.PrintMore Go.Proofs.YtepaddjjdhpmpaaDoor.HeapK Go.Proofs.YtepaddjjdhpmpaaDoor.PHeapP
set_option linter.unusedVariables false
set_option linter.unusedSimpArgs false
/-! ### the heap with its place told -/
def HR (w0 W : World) (b : Nat) (half : Int) (P : PH) (Z : Nat → Prop) : Prop := Below w0.heap.size w0 W ∧ HP w0.heap.size W b half P Z
/-- What an operation leaves of other rows. -/
def Keep (W : World) (Z : Nat → Prop) (W1 : World) (Z1 : Nat → Prop) : Prop := Mod W W1 Z ∧ ∀ j, Z1 j → Z j ∨ W.heap.size ≤ j
section
variable {w0 W W1 : World} {b : Nat} {half : Int} {P P' : PH} {Z Z1 : Nat → Prop}
theorem HR.below (h : HR w0 W b half P Z) (hb : Below W.heap.size W W1) : HR w0 W1 b half P Z := ⟨h.1.trans (hb.mono h.1.size), h.2.below hb⟩
theorem HR.q (h : HR w0 W b half P Z) : HQ w0 W b half P := ⟨h.1, Z, h.2⟩
theorem HQ.r (h : HQ w0 W b half P) : ∃ Z, HR w0 W b half P Z := h.2.elim fun Z hz => ⟨Z, h.1, hz⟩
theorem HR.op (h : HR w0 W b half P Z) (ho : Op w0.heap.size b half W Z P' W1) : ∃ Z1, HR w0 W1 b half P' Z1 ∧ Keep W Z W1 Z1 := by
  obtain ⟨Z', h1, h2, h3⟩ := ho
  exact ⟨Z', ⟨h.1.trans (h2.below h.1.size (fun j _ hj => (h.2.lt hj).1)), h1⟩, h2, h3⟩
theorem Keep.row {C : Nat} {u : Value} {rs : List S33} (h : Keep W Z W1 Z1) (hR : Kd.R k33 33 W C (fun j => ¬ Z j) u rs) : Kd.R k33 33 W1 C (fun j => ¬ Z1 j) u rs := Op.row h.1 h.2 hR
/-- A row beside the heap through steps below. -/
theorem HR.row (h : HR w0 W b half P Z) {C : Nat} {u : Value} {rs : List S33} (hR : Kd.R k33 33 W C (fun j => ¬ Z j) u rs) (hb : Below W.heap.size W W1) : Kd.R k33 33 W1 C (fun j => ¬ Z j) u rs := R33_step hR (fun j hj => hb.block j (Kd.R_lt hR j hj)) hR.1
theorem HR.grown (h : HR w0 W b half P Z) {u : Value} {rs : List S33} (hR : Kd.R k33 33 W w0.heap.size (fun j => ¬ Z j) u rs) (hg : W.grownBy W1 u.ownBlock) : HR w0 W1 b half P Z :=
  ⟨h.1.trans ((Mod.of_own hg).below h.1.size (fun j _ hj => Kd.R_base hR j hj)), h.2.step (fun j hj => hg.block j (h.2.lt hj).2 (fun e => hR.1 j e.symm hj)) hg.size⟩
theorem HR.fresh (h : HR w0 W b half P Z) {k : Nat} (hk : W.heap.size ≤ k) : ¬ Z k := fun hz => by have := h.2.lt hz; omega
theorem alloc_r (h : HR w0 W b half P Z) {tag : Int} {ws : List S33} {A : Option Addr} {c m : Nat} (hC : Kd.C k33 W A ws.length ws) (hm : ws.length = m) {r : Int × Bool} (hp : pAlloc half P tag ws = some (P', r)) :
    Calls Tryd.prog 11 #[.pointer (some ⟨b, 0, none⟩), .int .i64 tag, .slice A m c] W fun e W' => e = .returned (.tuple #[.int .i64 r.1, .bool r.2]) ∧ ∃ Z1, HR w0 W' b half P' Z1 ∧ Keep W Z W' Z1 := by
  subst hm
  refine (alloc_p h.2 hC hp).mono ?_
  rintro e W' ⟨rfl, ho⟩
  exact ⟨rfl, h.op ho⟩
theorem set_r (h : HR w0 W b half P Z) {p : Int} {i : Nat} {x : S33} {j : Int} (hj : j = (i : Int)) (hp : pSet P p i x = some P') : Calls Tryd.prog 15 #[.pointer (some ⟨b, 0, none⟩), .int .i64 p, .int .i64 j, .agg #[.bool x.f0, .int .i64 x.f1]] W fun e W' => e = .returned (.bool true) ∧ ∃ Z1, HR w0 W' b half P' Z1 ∧ Keep W Z W' Z1 := by
  subst hj
  refine (set_p h.2 hp).mono ?_
  rintro e W' ⟨rfl, ho⟩
  exact ⟨rfl, h.op ho⟩
theorem node_r (h : HR w0 W b half P Z) {p : Int} {nd : Nd} (hp : pNode P p = some nd) : Calls Tryd.prog 16 #[.pointer (some ⟨b, 0, none⟩), .int .i64 p] W fun e W' => ∃ A c, e = .returned (.tuple #[.int .i64 nd.tag, .slice A nd.fs.length c, .bool true]) ∧ Kd.R k33 33 W' w0.heap.size (fun j => ¬ Z j) (.slice A nd.fs.length c) nd.fs ∧ HR w0 W' b half P Z ∧ Below W.heap.size W W' := by
  refine (node_p h.2 hp).mono ?_
  rintro e W' ⟨u, rfl, hR, hb1, h'⟩
  obtain ⟨A, c, hv⟩ := Kd.R_slice hR
  subst hv
  exact ⟨A, c, rfl, Kd.R_lower hR h.1.size, ⟨h.1.trans (hb1.mono h.1.size), h'⟩, hb1⟩
theorem collect_r (h : HR w0 W b half P Z) {ws rs : List S33} {A : Option Addr} {c m : Nat} (hC : Kd.C k33 W A ws.length ws) (hm : ws.length = m) (hl : ws.length ≤ 1000) (hp : pCollect P ws = some (P', rs)) :
    Calls Tryd.prog 14 #[.pointer (some ⟨b, 0, none⟩), .slice A m c] W fun e W' => ∃ A' c', e = .returned (.slice A' rs.length c') ∧ ∃ Z1, Kd.R k33 33 W' w0.heap.size (fun j => ¬ Z1 j) (.slice A' rs.length c') rs ∧ HR w0 W' b half P' Z1 ∧ Keep W Z W' Z1 := by
  subst hm
  refine (collect_p h.2 hC hl hp).mono ?_
  rintro e W' ⟨u, Z', rfl, h', hR, hm, hz⟩
  obtain ⟨A', c', hv⟩ := Kd.R_slice hR
  subst hv
  exact ⟨A', c', rfl, Z', Kd.R_lower hR h.1.size, ⟨h.1.trans (hm.below h.1.size (fun j _ hj => (h.2.lt hj).1)), h'⟩, hm, hz⟩
end
/-! ### plain -/
def shP0 : PH := ⟨6, 2, [(3, ⟨1, [⟨false, 5⟩], -1⟩), (0, ⟨9, [⟨false, 1⟩], -1⟩)]⟩
theorem sh_first : pAlloc 1000 ⟨0, 0, []⟩ 9 [⟨false, 1⟩] = some (⟨3, 1, [(0, ⟨9, [⟨false, 1⟩], -1⟩)]⟩, (0, true)) := by kernel_rfl
theorem sh_second : pAlloc 1000 ⟨3, 1, [(0, ⟨9, [⟨false, 1⟩], -1⟩)]⟩ 1 [⟨false, 5⟩] = some (shP0, (3, true)) := by kernel_rfl
def shA : Nat → Nat → PH → List S33 → Option (PH × List S33)
  | 0, _, P, rs => some (P, rs)
  | k + 1, i, P, rs => match pAlloc 1000 P 2 [⟨false, (i : Int)⟩, ⟨true, 3⟩] with
    | some (P', (p, true)) => shA k (i + 1) P' (rs ++ [⟨true, p⟩])
    | _ => none
theorem shA_step {k i : Nat} {P : PH} {rs : List S33} {Q : PH × List S33} (h : shA (k + 1) i P rs = some Q) : ∃ P' p, pAlloc 1000 P 2 [⟨false, (i : Int)⟩, ⟨true, 3⟩] = some (P', (p, true)) ∧ shA k (i + 1) P' (rs ++ [⟨true, p⟩]) = some Q := by
  simp only [shA] at h
  split at h
  · rename_i P' p hp
    exact ⟨P', p, hp, h⟩
  · cases h
/-- Each root's node behind the collection: its number, and the shared place. -/
def shR (P : PH) (q : Int) : Nat → List S33 → Bool
  | _, [] => true
  | i, r :: rs => (match pEnd P.l far r.f1 with
    | none => false
    | some e => decide (e ≠ q) && (match find P.l e with
      | none => false
      | some nd => match nd.fs with
        | [x, y] => decide (x.f1 = (i : Int)) && y.f0 && decide (y.f1 = q)
        | _ => false)) && shR P q (i + 1) rs
def shC (n : Nat) (P : PH) (rs : List S33) : Bool := match pCollect P rs with
  | some (P2, r :: us) => decide ((r :: us).length = n) && decide (P2.used = 4 * (n : Int) + 3) && (match pNode P2 r.f1 with
    | some nd => match nd.fs with
      | [x, y] => y.f0 && decide (pEnd P2.l far y.f1 = some y.f1) && (match find P2.l y.f1 with
        | some nq => decide (nq.fs.length = 1) && shR P2 y.f1 0 (r :: us)
        | none => false)
      | _ => false
    | none => false)
  | _ => false
def shOk (n : Nat) : Bool := match shA n 0 shP0 [] with
  | none => false
  | some (P, rs) => shC n P rs
theorem sh_all : ∀ n < 14, 2 ≤ n → shOk n = true := by decide +kernel
theorem find_set {l : List (Int × Nd)} {q : Int} {nd : Nd} {F : List S33} (hq : find l q = some nd) (p : Int) : find ((q, { nd with fs := F }) :: l) p = if p = q then some { nd with fs := F } else find l p := rfl
theorem pEnd_set {l : List (Int × Nd)} {q : Int} {nd : Nd} {F : List S33} (hq : find l q = some nd) : ∀ (k : Nat) (p : Int), pEnd ((q, { nd with fs := F }) :: l) k p = pEnd l k p
  | 0, p => rfl
  | k + 1, p => by
    simp only [pEnd, find]
    by_cases hp : p = q
    · subst hp
      rw [if_pos rfl, hq]
      simp only
      split
      · exact pEnd_set hq k _
      · rfl
    · rw [if_neg hp]
      cases find l p with
      | none => rfl
      | some x =>
        simp only
        split
        · exact pEnd_set hq k _
        · rfl
theorem shR_get {P : PH} {q : Int} : ∀ {us : List S33} {i0 : Nat}, shR P q i0 us = true → ∀ i (hi : i < us.length), ∃ e nd x, pEnd P.l far us[i].f1 = some e ∧ e ≠ q ∧ find P.l e = some nd ∧ nd.fs = [x, ⟨true, q⟩] ∧ x.f1 = ((i0 + i : Nat) : Int)
  | [], _, _, i, hi => by simp at hi
  | r :: us, i0, h, i, hi => by
    simp only [shR, Bool.and_eq_true] at h
    obtain ⟨h1, h2⟩ := h
    cases i with
    | zero =>
      split at h1
      · cases h1
      · rename_i e he
        simp only [Bool.and_eq_true, decide_eq_true_eq] at h1
        obtain ⟨hne, h1⟩ := h1
        split at h1
        · cases h1
        · rename_i nd hnd
          split at h1
          · rename_i x y hxy
            simp only [Bool.and_eq_true, decide_eq_true_eq] at h1
            obtain ⟨⟨a0, a1⟩, a2⟩ := h1
            refine ⟨e, nd, x, he, hne, hnd, ?_, a0⟩
            rw [hxy]
            cases y
            simp_all
          · cases h1
    | succ i =>
      obtain ⟨e, nd, x, g1, g2, g3, g4, g5⟩ := shR_get h2 i (by simpa using hi)
      exact ⟨e, nd, x, g1, g2, g3, g4, by rw [g5]; congr 1; omega⟩
theorem sh_facts {n : Nat} (h : shOk n = true) : ∃ P rs P2 us r nd x q, shA n 0 shP0 [] = some (P, rs) ∧ pCollect P rs = some (P2, us) ∧ us.length = n ∧ P2.used = 4 * (n : Int) + 3 ∧ us[0]? = some r ∧ pNode P2 r.f1 = some nd ∧ nd.fs = [x, ⟨true, q⟩] ∧
    ∀ v : Int, ∃ P3, pSet P2 q 0 ⟨false, v⟩ = some P3 ∧ (∃ nq, pNode P3 q = some nq ∧ nq.fs = [⟨false, v⟩]) ∧ ∀ i (hi : i < us.length), ∃ nd x, pNode P3 us[i].f1 = some nd ∧ nd.fs = [x, ⟨true, q⟩] ∧ x.f1 = (i : Int) := by
  unfold shOk at h
  split at h
  · cases h
  · rename_i P rs hA
    unfold shC at h
    split at h
    · rename_i P2 r us hc
      simp only [Bool.and_eq_true, decide_eq_true_eq] at h
      obtain ⟨⟨h1, h2⟩, h3⟩ := h
      split at h3
      · rename_i nd hn
        split at h3
        · rename_i x y hxy
          simp only [Bool.and_eq_true, decide_eq_true_eq] at h3
          obtain ⟨⟨h4, h5⟩, h6⟩ := h3
          split at h6
          · rename_i nq hq
            simp only [Bool.and_eq_true, decide_eq_true_eq] at h6
            obtain ⟨h7, h8⟩ := h6
            have hy : y = ⟨true, y.f1⟩ := by cases y; simp_all
            refine ⟨P, rs, P2, r :: us, r, nd, x, y.f1, hA, hc, h1, h2, rfl, hn, by rw [hxy, ← hy], fun v => ?_⟩
            refine ⟨{ P2 with l := (y.f1, { nq with fs := nq.fs.set 0 ⟨false, v⟩ }) :: P2.l }, ?_, ⟨{ nq with fs := nq.fs.set 0 ⟨false, v⟩ }, ?_, ?_⟩, fun i hi => ?_⟩
            · unfold pSet
              rw [h5]
              simp only [hq]
              rw [if_pos (by simp [h7, mayP])]
            · unfold pNode
              simp only [pEnd_set hq, h5, find, if_true]
              simp only [List.length_set, h7]
              rfl
            · match hf : nq.fs, h7 with
              | [z], _ => rfl
            · obtain ⟨e, nd2, x2, g1, g2, g3, g4, g5⟩ := shR_get h8 i hi
              refine ⟨nd2, x2, ?_, g4, by rw [g5]; congr 1; omega⟩
              unfold pNode
              simp only [pEnd_set hq, g1, find]
              rw [if_neg g2, g3]
              simp only [g4]
              rfl
          · cases h6
        · cases h3
      · cases h3
    · cases h
end Go.Proofs.YtepaddjjdhpmpaaDoor.HeapA
