/- free.Names, free.Bound. No condition beyond those that each states. -/
import Derived.Test.YtmoeekidmkhkoaaDoorFreeB
namespace Go.Proofs.YtmoeekidmkhkoaaDoor.FreeA
open Go.RowKit Go.Proofs.YtmoeekidmkhkoaaDoorW.PrintWords Go.Proofs.YtmoeekidmkhkoaaDoorW.PrintLast Go.Proofs.YtmoeekidmkhkoaaDoorW.PrintMore Go.Proofs.YtmoeekidmkhkoaaDoor.PFreeA
set_option linter.unusedVariables false
set_option linter.unusedSimpArgs false
set_option maxHeartbeats 8000000 in
set_option maxRecDepth 100000 in
theorem names_calls (e : S33) (w : World) (hok : okE e = true) (hc : cost e ≤ 100000000000) {A3 A4 A5 : Option Addr} {c3 c4 c5 : Nat} (hC3 : Kd.C Kd.string w A3 e.f3.length e.f3) (hC4 : Kd.C k33 w A4 e.f4.length e.f4) (hC5 : Kd.C k40 w A5 e.f5.length e.f5) :
    Calls Tryd.prog 15 #[.agg #[.int .i64 e.f0, .string e.f1, .int .i64 e.f2, .slice A3 e.f3.length c3, .slice A4 e.f4.length c4, .slice A5 e.f5.length c5]] w fun r w' => ∃ v0_ : Value, r = .returned v0_ ∧ Kd.R Kd.string 9 w' w.heap.size (fun _ => True) v0_ (fx e [] []) ∧ Below w.heap.size w w' := by
  have hmm := @run_makeMap Tryd.prog
  have E : ∀ W : World, ∀ o : Obj, (W.alloc o).heap.size = W.heap.size + 1 := fun W o => Array.size_push _
  have hb4 : Below w.heap.size w ((((w.alloc (.cells #[.int .i64 e.f0, .string e.f1, .int .i64 e.f2, .slice A3 e.f3.length c3, .slice A4 e.f4.length c4, .slice A5 e.f5.length c5] 33)).alloc (.map #[] 0)).alloc (.map #[] 0)).alloc (.cells #[.map (some (w.heap.size + 1)), .map (some (w.heap.size + 1 + 1)), .slice none 0 0] 61)) := below_alloc (below_alloc (below_alloc (below_alloc (Below.refl _ _) _) _) _) _
  have hF : FS ((((w.alloc (.cells #[.int .i64 e.f0, .string e.f1, .int .i64 e.f2, .slice A3 e.f3.length c3, .slice A4 e.f4.length c4, .slice A5 e.f5.length c5] 33)).alloc (.map #[] 0)).alloc (.map #[] 0)).alloc (.cells #[.map (some (w.heap.size + 1)), .map (some (w.heap.size + 1 + 1)), .slice none 0 0] 61)) w.heap.size (w.heap.size + 1 + 1 + 1) (w.heap.size + 1) (w.heap.size + 1 + 1) (.slice none 0 0) 0 0 (cnt []) (memI []) [] := by
    refine ⟨?_, ?_, ?_, Kd.R_nil _ _ _ _ _, ⟨by omega, by omega, by omega⟩, by omega⟩
    · have h := blk_new (((w.alloc (.cells #[.int .i64 e.f0, .string e.f1, .int .i64 e.f2, .slice A3 e.f3.length c3, .slice A4 e.f4.length c4, .slice A5 e.f5.length c5] 33)).alloc (.map #[] 0)).alloc (.map #[] 0)) (.cells #[.map (some (w.heap.size + 1)), .map (some (w.heap.size + 1 + 1)), .slice none 0 0] 61 (0, 0))
      rwa [E, E, E] at h
    · have h := MapS.made (w.alloc (.cells #[.int .i64 e.f0, .string e.f1, .int .i64 e.f2, .slice A3 e.f3.length c3, .slice A4 e.f4.length c4, .slice A5 e.f5.length c5] 33))
      rw [E] at h
      have h2 : w.heap.size + 1 < ((w.alloc (.cells #[.int .i64 e.f0, .string e.f1, .int .i64 e.f2, .slice A3 e.f3.length c3, .slice A4 e.f4.length c4, .slice A5 e.f5.length c5] 33)).alloc (.map #[] 0)).heap.size := by rw [E, E]; omega
      exact h.of_block ((Below.heap_alloc _ _ _ (by rw [E, E, E]; omega)).trans (Below.heap_alloc _ _ _ h2))
    · have h := MapS.made ((w.alloc (.cells #[.int .i64 e.f0, .string e.f1, .int .i64 e.f2, .slice A3 e.f3.length c3, .slice A4 e.f4.length c4, .slice A5 e.f5.length c5] 33)).alloc (.map #[] 0))
      rw [E, E] at h
      exact h.of_block (Below.heap_alloc _ _ _ (by rw [E, E, E]; omega))
  have CX := expr_calls (cost e) e (Nat.le_refl _) hF hb4 hok (by simp; omega) (by omega) (by omega) (by simp; omega) hC3 hC4 hC5 (c3 := c3) (c4 := c4) (c5 := c5)
  have hF := Aside0.mk hF
  have hb4 := Aside0.mk hb4
  clear hok hc hC3 hC4 hC5
  go_enter Tryd.func15, Tryd.ntmps15
  go_wp2_with (first | (go_at_call 38; go_loud (with_reducible refine CX.mono ?_); rintro r w5 ⟨rfl, hst⟩; have HB := Aside0.mk (hb4.out.trans (St.below hst hF.out hb4.out.size)); obtain ⟨v5, na5, nh5, hF5, _⟩ := hst; have hc2 := hF5.cells.2.2.1; have HR := Aside0.mk hF5.row; clear hF5 CX))
  go_ret
  exact ⟨_, rfl, Kd.R_mono HR.out (fun _ _ => trivial), HB.out⟩
def add1 (o : List ByteArray) (s : ByteArray) : List ByteArray := if isIn o s = true then o else o ++ [s]
def putL (l o : List ByteArray) : List ByteArray := l.foldl add1 o
mutual
def bx : S33 → List ByteArray → List ByteArray
  | ⟨_, _, _, ns, l, al⟩, o => bxA al (bxL l (putL ns o))
def bxL : List S33 → List ByteArray → List ByteArray
  | [], o => o
  | e :: l, o => bxL l (bx e o)
def bxA : List S40 → List ByteArray → List ByteArray
  | [], o => o
  | ⟨_, _, _, ns, e⟩ :: l, o => bxA l (bx e (putL ns o))
end
theorem bx_eq (e : S33) (o : List ByteArray) : bx e o = bxA e.f5 (bxL e.f4 (putL e.f3 o)) := by cases e; simp only [bx]
theorem bxA_cons (a : S40) (l : List S40) (o : List ByteArray) : bxA (a :: l) o = bxA l (bx a.f4 (putL a.f3 o)) := by cases a; simp only [bxA]
theorem add1_len (o : List ByteArray) (s : ByteArray) : (add1 o s).length ≤ o.length + 1 := by unfold add1; split <;> simp
theorem putL_len : ∀ (l o : List ByteArray), (putL l o).length ≤ o.length + l.length
  | [], o => by simp [putL]
  | s :: l, o => by
    have h1 := add1_len o s
    have h2 := putL_len l (add1 o s)
    simp only [putL, List.foldl_cons, List.length_cons] at h2 ⊢
    omega
mutual
theorem bx_len : ∀ (e : S33) (o : List ByteArray), (bx e o).length ≤ o.length + cost e
  | ⟨op, nm, _, ns, l, al⟩, o => by
    simp only [bx, cost]
    have h1 := bxA_len al (bxL l (putL ns o))
    have h2 := bxL_len l (putL ns o)
    have h3 := putL_len ns o
    omega
theorem bxL_len : ∀ (l : List S33) (o : List ByteArray), (bxL l o).length ≤ o.length + costL l
  | [], o => by simp only [bxL, costL]; omega
  | e :: l, o => by
    simp only [bxL, costL]
    have h1 := bx_len e o
    have h2 := bxL_len l (bx e o)
    omega
theorem bxA_len : ∀ (l : List S40) (o : List ByteArray), (bxA l o).length ≤ o.length + costA l
  | [], o => by simp only [bxA, costA]; omega
  | ⟨_, _, _, ns, e⟩ :: l, o => by
    simp only [bxA, costA]
    have h1 := bx_len e (putL ns o)
    have h2 := bxA_len l (bx e (putL ns o))
    have h3 := putL_len ns o
    omega
end
structure BS (W : World) (base hb : Nat) (v : Value) (nh : Nat) (out : List ByteArray) : Prop where
  hm : MapS W hb nh (memI out)
  row : Kd.R Kd.string 9 W base (fun j => j ≠ hb) v out
  ge : base ≤ hb
structure CS (W : World) (base hb ob mb : Nat) (v : Value) (nh : Nat) (out : List ByteArray) : Prop where
  hm : MapS W hb nh (memI out)
  row : Kd.R Kd.string 9 W base (fun j => j ≠ hb ∧ j ≠ ob ∧ j ≠ mb) v out
  obk : W.heap[ob]? = some (.cells #[v] 22 (0, 0))
  mbk : W.heap[mb]? = some (.cells #[.map (some hb)] 59 (0, 0))
  ge : base ≤ hb
  om : ob ≠ mb
def FB (hb : Nat) (v : Value) (j : Nat) : Prop := j = hb ∨ v.ownBlock = some j
section
variable {W W1 : World} {base hb ob mb nh : Nat} {v v' : Value} {out out' : List ByteArray}
theorem CS.one (h : CS W base hb ob mb v nh out) : hb ≠ ob ∧ hb ≠ mb := by
  obtain ⟨es, c, hm⟩ := h.hm.blk
  constructor
  · rintro rfl
    rw [h.obk] at hm
    cases hm
  · rintro rfl
    rw [h.mbk] at hm
    cases hm
theorem BS.lt (h : BS W base hb v nh out) {j : Nat} (hj : FB hb v j) : j < W.heap.size := by
  rcases hj with rfl | hj
  · exact h.hm.lt
  · exact Kd.R_lt h.row j hj
theorem BS.fge (h : BS W base hb v nh out) {j : Nat} (hj : FB hb v j) : base ≤ j := by
  rcases hj with rfl | hj
  · exact h.ge
  · exact Kd.R_base h.row j hj
theorem BS.below (h : BS W base hb v nh out) (hbl : Below W.heap.size W W1) : BS W1 base hb v nh out :=
  ⟨h.hm.of_block (hbl.block _ h.hm.lt), Rs_step h.row (fun j hj => hbl.block j (Kd.R_lt h.row j hj)) (fun j hj => h.row.1 j hj), h.ge⟩
theorem CS.lt (h : CS W base hb ob mb v nh out) : hb < W.heap.size ∧ ob < W.heap.size ∧ mb < W.heap.size := ⟨h.hm.lt, (Array.getElem?_eq_some_iff.1 h.obk).1, (Array.getElem?_eq_some_iff.1 h.mbk).1⟩
theorem CS.bs (h : CS W base hb ob mb v nh out) : BS W base hb v nh out := ⟨h.hm, Kd.R_mono h.row (fun _ hj => hj.1), h.ge⟩
theorem CS.below (h : CS W base hb ob mb v nh out) (hbl : Below W.heap.size W W1) : CS W1 base hb ob mb v nh out :=
  ⟨h.hm.of_block (hbl.block _ h.hm.lt), Rs_step h.row (fun j hj => hbl.block j (Kd.R_lt h.row j hj)) (fun j hj => h.row.1 j hj), (hbl.block _ h.lt.2.1).trans h.obk, (hbl.block _ h.lt.2.2).trans h.mbk, h.ge, h.om⟩
theorem CS.putM (h : CS W base hb ob mb v nh out) (hM : MapS W1 hb (nh + 1) (memI out')) (hg : W.grownBy W1 (some hb)) : MapS W1 hb (nh + 1) (memI out') ∧ Kd.R Kd.string 9 W1 base (fun j => j ≠ hb ∧ j ≠ ob ∧ j ≠ mb) v out ∧ W1.heap[ob]? = some (.cells #[v] 22 (0, 0)) ∧ W1.heap[mb]? = some (.cells #[.map (some hb)] 59 (0, 0)) :=
  ⟨hM, Rs_step h.row (fun j hj => hg.block j (Kd.R_lt h.row j hj) (fun e => (h.row.1 j hj).1 (Option.some.inj e))) (fun j hj => h.row.1 j hj), (hg.block _ h.lt.2.1 (fun e => h.one.1 (Option.some.inj e).symm)).trans h.obk, (hg.block _ h.lt.2.2 (fun e => h.one.2 (Option.some.inj e).symm)).trans h.mbk⟩
end
end Go.Proofs.YtmoeekidmkhkoaaDoor.FreeA

