/- HeapApart: plain; a heap and its copy side by side. No condition beyond those that each states. -/
import Derived.Test.YtepaddjjdhpmpaaDoorHeapN
import Derived.Test.YtepaddjjdhpmpaaDoorHeapLinks
namespace Go.Proofs.YtepaddjjdhpmpaaDoor.HeapA
open Go.RowKit Go.Proofs.YtepaddjjdhpmpaaDoorW.PrintWords Go.Proofs.YtepaddjjdhpmpaaDoorW.PrintLast Go.Proofs.YtepaddjjdhpmpaaDoorW.PrintMore Go.Proofs.YtepaddjjdhpmpaaDoor.HeapK Go.Proofs.YtepaddjjdhpmpaaDoor.PHeapP
set_option linter.unusedVariables false
set_option linter.unusedSimpArgs false
/-! ### plain -/
def apA : Nat → Nat → PH → Option PH
  | 0, _, P => some P
  | k + 1, i, P => match pAlloc 250 P (i : Int) [⟨false, 1⟩, ⟨false, 2⟩] with
    | some (P', _) => apA k (i + 1) P'
    | none => none
theorem apA_step {k i : Nat} {P Q : PH} (h : apA (k + 1) i P = some Q) : ∃ P' r, pAlloc 250 P (i : Int) [⟨false, 1⟩, ⟨false, 2⟩] = some (P', r) ∧ apA k (i + 1) P' = some Q := by
  simp only [apA] at h
  split at h
  · rename_i P' r hp
    exact ⟨P', r, hp, h⟩
  · cases h
def is2 (l : List S33) (a b : Int) : Bool := match l with
  | [x, y] => !x.f0 && decide (x.f1 = a) && !y.f0 && decide (y.f1 = b)
  | _ => false
theorem is2_eq {l : List S33} {a b : Int} (h : is2 l a b = true) : l = [⟨false, a⟩, ⟨false, b⟩] := by
  unfold is2 at h
  split at h
  · rename_i x y
    simp only [Bool.and_eq_true, decide_eq_true_eq, Bool.not_eq_true'] at h
    obtain ⟨⟨⟨h1, h2⟩, h3⟩, h4⟩ := h
    cases x
    cases y
    simp_all
  · cases h
def apC (n : Nat) (P : PH) : Bool := decide (P.used = 4 * (n : Int)) && decide (P.t ≤ 1000000) && P.l.all (fun e => decide (e.2.fs.length ≤ 100000)) && (match pNode P 0 with
    | some nd => is2 nd.fs 1 2
    | none => false) && (match pSet P 0 0 ⟨false, 77⟩ with
    | none => false
    | some P1 => match pAlloc 250 P1 5 [] with
      | none => false
      | some (P2, _) => (match pNode P2 0 with
        | some nd => is2 nd.fs 77 2
        | none => false) && (match pCollect P2 [] with
        | some (P3, _) => decide (P3.used = 0) && (find P3.l 0).isNone
        | none => false))
def apOk (n : Nat) : Bool := match apA n 0 ⟨0, 0, []⟩ with
  | some P => apC n P
  | none => false
theorem ap_all : ∀ n < 11, 1 ≤ n → apOk n = true := by decide +kernel
theorem ap_facts {n : Nat} (h : apOk n = true) : ∃ P nd P1 P2 r nd2 P3 us, apA n 0 ⟨0, 0, []⟩ = some P ∧ P.used = 4 * (n : Int) ∧ P.t ≤ 1000000 ∧ (∀ p x, find P.l p = some x → x.fs.length ≤ 100000) ∧ pNode P 0 = some nd ∧ nd.fs = [⟨false, 1⟩, ⟨false, 2⟩] ∧ pSet P 0 0 ⟨false, 77⟩ = some P1 ∧ pAlloc 250 P1 5 [] = some (P2, r) ∧ pNode P2 0 = some nd2 ∧ nd2.fs = [⟨false, 77⟩, ⟨false, 2⟩] ∧ pCollect P2 [] = some (P3, us) ∧ P3.used = 0 ∧ find P3.l 0 = none := by
  unfold apOk at h
  split at h
  · rename_i P hA
    unfold apC at h
    simp only [Bool.and_eq_true, decide_eq_true_eq] at h
    obtain ⟨⟨⟨⟨h1, h2⟩, h3⟩, h4⟩, h5⟩ := h
    split at h4
    · rename_i nd hnd
      split at h5
      · cases h5
      · rename_i P1 hP1
        split at h5
        · cases h5
        · rename_i P2 r hP2
          simp only [Bool.and_eq_true] at h5
          obtain ⟨h6, h7⟩ := h5
          split at h6
          · rename_i nd2 hnd2
            split at h7
            · rename_i P3 us hc
              simp only [Bool.and_eq_true, decide_eq_true_eq] at h7
              refine ⟨P, nd, P1, P2, r, nd2, P3, us, hA, h1, h2, fun p x hx => ?_, hnd, is2_eq h4, hP1, hP2, hnd2, is2_eq h6, hc, h7.1, by simpa using h7.2⟩
              have : ∀ (l : List (Int × Nd)), l.all (fun e => decide (e.2.fs.length ≤ 100000)) = true → find l p = some x → x.fs.length ≤ 100000 := by
                intro l
                induction l with
                | nil => intro _ hx; cases hx
                | cons e l ih =>
                  intro ha hx
                  simp only [List.all_cons, Bool.and_eq_true, decide_eq_true_eq] at ha
                  obtain ⟨q, nq⟩ := e
                  simp only [find] at hx
                  split at hx
                  · obtain rfl := Option.some.inj hx
                    exact ha.1
                  · exact ih ha.2 hx
              exact this _ h3 hx
            · cases h7
          · cases h6
    · cases h4
  · cases h
/-! ### two heaps -/
section
variable {w W W1 : World} {b xb C : Nat} {half : Int} {P P' Pc Pc' : PH} {Z Zc : Nat → Prop}
theorem clone_p {B : Nat} (h : HP B W b half P Z) (hB : B ≤ W.heap.size) (ht : P.t ≤ 1000000) (hl : ∀ p x, find P.l p = some x → x.fs.length ≤ 100000) :
    Calls Tryd.prog 19 #[.pointer (some ⟨b, 0, none⟩)] W fun e W' => ∃ xb Zc, e = .returned (.pointer (some ⟨xb, 0, none⟩)) ∧ HP W.heap.size W' xb half P Zc ∧ Below W.heap.size W W' := by
  obtain ⟨mb, f, h1, h2, h3, h4⟩ := h
  refine (clone19_calls h1 (by unfold maxLen; omega) (fun p x hx => ?_) hB).mono ?_
  · have := h2 p
    rw [hx] at this
    exact hl p _ this.symm
  · rintro e W' ⟨xb, mc, g, rfl, hg, hs, hb⟩
    exact ⟨xb, FP xb mc g, rfl, ⟨mc, g, hg, fun p => (hs p).trans (h2 p), fun j hj => hj, fun j hj => ⟨hg.fp_ge hj, hg.fp_lt hj⟩⟩, hb⟩
structure AP (w W : World) (b xb C : Nat) (half : Int) (P Pc : PH) (Z Zc : Nat → Prop) : Prop where
  bl : Below w.heap.size w W
  h : HP w.heap.size W b half P Z
  c : HP C W xb half Pc Zc
  lt : ∀ j, Z j → j < C
  cw : w.heap.size ≤ C
theorem AP.below (h : AP w W b xb C half P Pc Z Zc) (hb : Below W.heap.size W W1) : AP w W1 b xb C half P Pc Z Zc := ⟨h.bl.trans (hb.mono h.bl.size), h.h.below hb, h.c.below hb, h.lt, h.cw⟩
theorem AP.opc (h : AP w W b xb C half P Pc Z Zc) (ho : Op C xb half W Zc Pc' W1) : ∃ Zc', AP w W1 b xb C half P Pc' Z Zc' := by
  obtain ⟨Z', h1, h2, h3⟩ := ho
  exact ⟨Z', h.bl.trans (h2.below h.bl.size (fun j _ hj => Nat.le_trans h.cw (h.c.lt hj).1)), h.h.step (fun j hj => h2.block j (h.h.lt hj).2 (fun hc => by have := h.lt j hj; have := (h.c.lt hc).1; omega)) h2.size, h1, h.lt, h.cw⟩
theorem AP.set (h : AP w W b xb C half P Pc Z Zc) {a : Addr} {v : Value} (h1 : ¬ Z a.block) (h2 : ¬ Zc a.block) (h3 : w.heap.size ≤ a.block) : AP w (W.setCell a v) b xb C half P Pc Z Zc :=
  ⟨h.bl.trans ((Mod.of_set W a v).below h.bl.size (fun j _ hj => hj ▸ h3)), h.h.step (fun j hj => Below.heap_setCell W a v j (fun e => h1 (e ▸ hj))) (Mod.of_set W a v).size, h.c.step (fun j hj => Below.heap_setCell W a v j (fun e => h2 (e ▸ hj))) (Mod.of_set W a v).size, h.lt, h.cw⟩
/-- A row of two that is one's own. -/
theorem own_two {B : Nat} {ok : Nat → Prop} {A : Option Addr} {c : Nat} {x y : S33} (h : Kd.R k33 33 W B ok (.slice A 2 c) [x, y]) : ∃ g, A = some ⟨g, 0, none⟩ ∧ W.cell? ⟨g, 0, none⟩ = some (.bool x.f0) ∧ W.cell? ⟨g, 1, none⟩ = some (.int .i64 x.f1) ∧ W.cell? ⟨g, 2, none⟩ = some (.bool y.f0) ∧ W.cell? ⟨g, 3, none⟩ = some (.int .i64 y.f1) ∧ (∀ i, W.frozen? ⟨g, i, none⟩ = false) ∧ B ≤ g ∧ ok g := by
  obtain ⟨a, e, c0, c1, c2, c3⟩ := c_pair (Kd.R_reads' h).2.2
  subst e
  have hb := Kd.R_base h a.block rfl
  have hok := h.1 a.block rfl
  obtain ⟨_, inner, ho, _⟩ := h
  rcases ho.2 with ⟨he, _⟩ | ⟨g, cap, cur, he, _, hh, _⟩
  · cases he
  · injection he with ha
    injection ha with ha
    subst ha
    exact ⟨g, rfl, c0, by simpa using c1, by simpa using c2, by simpa using c3, fun i => blk_frozen hh i, hb, hok⟩
end
end Go.Proofs.YtepaddjjdhpmpaaDoor.HeapA
