/- What the heap is told, in plain Lean; move in these words. No condition beyond those that each states. -/
import Derived.Test.YtepaddjjdhpmpaaDoorHeapF
namespace Go.Proofs.YtepaddjjdhpmpaaDoor.HeapA
open Go.RowKit Go.Proofs.YtepaddjjdhpmpaaDoorW.PrintWords Go.Proofs.YtepaddjjdhpmpaaDoorW.PrintLast Go.Proofs.YtepaddjjdhpmpaaDoorW.PrintMore Go.Proofs.YtepaddjjdhpmpaaDoor.HeapK Go.Proofs.YtepaddjjdhpmpaaDoor.PHeapP
set_option linter.unusedVariables false
set_option linter.unusedSimpArgs false
/-! ### plain -/
def find : List (Int × Nd) → Int → Option Nd
  | [], _ => none
  | (q, x) :: r, p => if p = q then some x else find r p
def findV : List (Int × Int) → Int → Option Int
  | [], _ => none
  | (q, x) :: r, p => if p = q then some x else findV r p
/-- The end along links; none: no node, or too long. -/
def pEnd (l : List (Int × Nd)) : Nat → Int → Option Int
  | 0, _ => none
  | k + 1, p => match find l p with
    | none => none
    | some x => if 0 ≤ x.link then pEnd l k x.link else some p
/-- The longest way along links that is looked for. -/
def far : Nat := 40
structure PC where
  nu : Int
  t : Nat
  g : List (Int × Nd)
  mv : List (Int × Int)
  ord : List Int
def PC.more (c : PC) (q : Int) (nd : Nd) : PC := ⟨c.nu + szI nd.fs.length, c.t + 1, (c.nu, ⟨nd.tag, nd.fs, -1⟩) :: c.g, (q, c.nu) :: c.mv, c.ord ++ [c.nu]⟩
def PC.good (c : PC) : Bool := decide (0 ≤ c.nu) && decide (c.nu ≤ 1000000) && decide (c.t ≤ 1000000)
def pMove (l : List (Int × Nd)) (c : PC) (w : S33) : Option (PC × S33) :=
  if w.f0 then match pEnd l far w.f1 with
    | none => none
    | some q => match findV c.mv q with
      | some d => some (c, ⟨true, d⟩)
      | none => match find l q with
        | none => none
        | some nd => if c.good && decide (nd.fs.length ≤ 1000) then some (c.more q nd, ⟨true, c.nu⟩) else none
  else some (c, w)
def pMoveL (l : List (Int × Nd)) : PC → List S33 → Option (PC × List S33)
  | c, [] => some (c, [])
  | c, w :: r => match pMove l c w with
    | none => none
    | some (c1, x) => match pMoveL l c1 r with
      | none => none
      | some (c2, xs) => some (c2, x :: xs)
def pScan (l : List (Int × Nd)) : Nat → PC → Nat → Option PC
  | 0, _, _ => none
  | k + 1, c, i => match c.ord[i]? with
    | none => some c
    | some p => match find c.g p with
      | none => none
      | some nd => match pMoveL l c nd.fs with
        | none => none
        | some (c1, fs) => pScan l k { c1 with g := (p, { nd with fs := fs }) :: c1.g } (i + 1)
structure PH where
  used : Int
  t : Nat
  l : List (Int × Nd)
def PC0 : PC := ⟨0, 0, [], [], []⟩
def pCollect (P : PH) (ws : List S33) : Option (PH × List S33) := match pMoveL P.l PC0 ws with
  | none => none
  | some (c, rs) => match pScan P.l 1000 c 0 with
    | none => none
    | some c => some (⟨c.nu, c.t, c.g⟩, rs)
/-! ### the same -/
def Sm (f : NM) (l : List (Int × Nd)) : Prop := ∀ p, (f p).map (·.1) = find l p
theorem Sm.some {f : NM} {l : List (Int × Nd)} (h : Sm f l) {p : Int} {nd : Nd} (hp : find l p = some nd) : ∃ z, f p = some (nd, z) := by
  have := h p
  rw [hp] at this
  obtain ⟨x, hx, rfl⟩ := Option.map_eq_some_iff.1 this
  exact ⟨x.2, hx⟩
theorem Sm.none {f : NM} {l : List (Int × Nd)} (h : Sm f l) {p : Int} (hp : find l p = none) : f p = none := by
  have := h p
  rw [hp] at this
  exact Option.map_eq_none_iff.1 this
theorem Sm.upd {f : NM} {l : List (Int × Nd)} (h : Sm f l) (p : Int) (nd : Nd) (z : Value) : Sm (updM f p (nd, z)) ((p, nd) :: l) := by
  intro q
  simp only [updM, find]
  split
  · rfl
  · exact h q
theorem pEnd_ends {f : NM} {l : List (Int × Nd)} (h : Sm f l) : ∀ (k : Nat) (p q : Int), pEnd l k p = some q → ∃ k', EndsN f k' p q
  | 0, p, q, e => by cases e
  | k + 1, p, q, e => by
    simp only [pEnd] at e
    cases hf : find l p with
    | none => rw [hf] at e; cases e
    | some x =>
      rw [hf] at e
      obtain ⟨z, hz⟩ := h.some hf
      simp only at e
      split at e
      · rename_i hx
        obtain ⟨k', hk⟩ := pEnd_ends h k _ q e
        exact ⟨k' + 1, (x, z), hz, hx, hk⟩
      · rename_i hx
        obtain rfl := Option.some.inj e
        exact ⟨0, rfl, (x, z), hz, by simpa using hx⟩
/-- o: a place where the two need not agree. -/
structure RC (o : Option Int) (pc : PC) (c : CS) : Prop where
  nu : c.nu = pc.nu
  nn : c.nn = pc.t
  vn : c.vn = pc.t
  g : ∀ p, o ≠ some p → (c.g p).map (·.1) = find pc.g p
  mv : ∀ p, c.mv p = findV pc.mv p
  ord : c.ord = pc.ord
  len : pc.ord.length = pc.t
  lt : ∀ p x, c.g p = some x → p < c.nu
section
variable {W W1 : World} {base b mb n s : Nat} {half used : Int} {f : NM} {c : CS} {v : Value}
theorem RC.more {o : Option Int} {pc : PC} (h : RC o pc c) (q : Int) (nd : Nd) (u : Value) : RC o (pc.more q nd) (c.more q nd u) := by
  have h3 : 3 ≤ szI nd.fs.length := by unfold szI mx; omega
  refine ⟨?_, ?_, ?_, fun p ho => ?_, fun p => ?_, ?_, ?_, fun p x hp => ?_⟩
  · show c.nu + _ = pc.nu + _
    rw [h.nu]
  · show c.nn + 1 = pc.t + 1
    rw [h.nn]
  · show c.vn + 1 = pc.t + 1
    rw [h.vn]
  · show (updM c.g c.nu _ p).map _ = find ((pc.nu, _) :: pc.g) p
    rw [h.nu]
    simp only [updM, find]
    split
    · rfl
    · exact h.g p ho
  · show updV c.mv q c.nu p = findV ((q, pc.nu) :: pc.mv) p
    simp only [updV, findV, h.nu, h.mv]
  · show c.ord ++ [c.nu] = pc.ord ++ [pc.nu]
    rw [h.ord, h.nu]
  · show (pc.ord ++ [pc.nu]).length = pc.t + 1
    rw [List.length_append, h.len]
    rfl
  · replace hp : updM c.g c.nu _ p = some x := hp
    show p < c.nu + szI nd.fs.length
    by_cases hpp : p = c.nu
    · omega
    · rw [updM_ne _ _ hpp] at hp
      have := h.lt p x hp
      omega
/-- What a collection's step leaves. -/
structure St (o : Option Int) (base b mb : Nat) (half used : Int) (n : Nat) (f : NM) (s : Nat) (W : World) (c : CS) (v : Value) (pc' : PC) (W' : World) (c' : CS) (v' : Value) : Prop where
  cw : CW W' base b mb half used n f s c' v'
  rc : RC o pc' c'
  md : Mod W W' (FCm s c v)
  fc : ∀ j, j < W.heap.size → FC c' v' j → FC c v j
  keep : ∀ p x, c.g p = some x → c'.g p = some x
theorem move_p (h : CW W base b mb half used n f s c v) {l : List (Int × Nd)} (hf : Sm f l) {o : Option Int} {pc pc' : PC} (hr : RC o pc c) {w r : S33} (hp : pMove l pc w = some (pc', r)) :
    Calls Tryd.prog 25 (mvArgs w s) W fun e W' => e = .returned (.agg #[.bool r.f0, .int .i64 r.f1]) ∧ ∃ c' v', St o base b mb half used n f s W c v pc' W' c' v' := by
  obtain ⟨w0, w1⟩ := w
  cases w0 with
  | false =>
    simp only [pMove, Bool.false_eq_true, if_false, Option.some.injEq, Prod.mk.injEq] at hp
    obtain ⟨rfl, rfl⟩ := hp
    refine (move_num w1 _ _ _ _).mono ?_
    rintro e W' ⟨rfl, hb⟩
    exact ⟨rfl, c, v, h.below hb, hr, Mod.of_below hb _, fun _ _ hj => hj, fun _ _ hx => hx⟩
  | true =>
    simp only [pMove, if_true] at hp
    cases he : pEnd l far w1 with
    | none => rw [he] at hp; cases hp
    | some q =>
      rw [he] at hp
      simp only at hp
      obtain ⟨k, hk⟩ := pEnd_ends hf _ _ _ he
      cases hm : findV pc.mv q with
      | some d =>
        rw [hm] at hp
        simp only [Option.some.injEq, Prod.mk.injEq] at hp
        obtain ⟨rfl, rfl⟩ := hp
        refine (move_old h hk (d := d) (by rw [hr.mv, hm])).mono ?_
        rintro e W' ⟨rfl, hb⟩
        exact ⟨rfl, c, v, h.below hb, hr, Mod.of_below hb _, fun _ _ hj => hj, fun _ _ hx => hx⟩
      | none =>
        rw [hm] at hp
        simp only at hp
        cases hq : find l q with
        | none => rw [hq] at hp; cases hp
        | some nd =>
          rw [hq] at hp
          simp only at hp
          split at hp
          · rename_i hg
            simp only [Option.some.injEq, Prod.mk.injEq] at hp
            obtain ⟨rfl, rfl⟩ := hp
            simp only [PC.good, Bool.and_eq_true, decide_eq_true_eq] at hg
            obtain ⟨⟨⟨g0, g1⟩, g2⟩, g3⟩ := hg
            obtain ⟨z, hz⟩ := hf.some hq
            have hmx : (1000000 : Nat) < maxLen := by decide
            refine (move_new h hk (by rw [hr.mv, hm]) hz (by omega) (by rw [hr.nu]; exact g0) (by rw [hr.nu]; omega) (by rw [hr.nn]; omega) (by rw [hr.vn]; omega) (by rw [hr.ord, hr.len]; omega)).mono ?_
            rintro e W' ⟨rfl, u, v', hc, hm, hfc⟩
            refine ⟨by rw [hr.nu], _, v', hc, hr.more q nd u, hm, hfc, fun p x hx => ?_⟩
            show updM c.g c.nu _ p = some x
            rw [updM_ne _ _ (by have := hr.lt p x hx; omega)]
            exact hx
          · cases hp
end
end Go.Proofs.YtepaddjjdhpmpaaDoor.HeapA
