/- The heap's operations in the plain words. No condition beyond those that each states. -/
import Derived.Test.YtepaddjjdhpmpaaDoorHeapH
namespace Go.Proofs.YtepaddjjdhpmpaaDoor.HeapA
open Go.RowKit Go.Proofs.YtepaddjjdhpmpaaDoorW.PrintWords Go.Proofs.YtepaddjjdhpmpaaDoorW.PrintLast Go.Proofs.YtepaddjjdhpmpaaDoorW.PrintMore Go.Proofs.YtepaddjjdhpmpaaDoor.HeapK Go.Proofs.YtepaddjjdhpmpaaDoor.PHeapP
set_option linter.unusedVariables false
set_option linter.unusedSimpArgs false
/-- A heap behind block b that reads as P says; it lies in Z, all of it from B on. -/
def HP (B : Nat) (W : World) (b : Nat) (half : Int) (P : PH) (Z : Nat → Prop) : Prop := ∃ mb f, HW W B b mb half P.used P.t f ∧ Sm f P.l ∧ (∀ j, FP b mb f j → Z j) ∧ ∀ j, Z j → B ≤ j ∧ j < W.heap.size
/-- What an operation leaves. -/
def Op (B : Nat) (b : Nat) (half : Int) (W : World) (Z : Nat → Prop) (P' : PH) (W' : World) : Prop := ∃ Z', HP B W' b half P' Z' ∧ Mod W W' Z ∧ ∀ j, Z' j → Z j ∨ W.heap.size ≤ j
def mayP (l : List (Int × Nd)) (w : S33) : Bool := !w.f0 || (find l w.f1).isSome
def pAlloc (half : Int) (P : PH) (tag : Int) (ws : List S33) : Option (PH × (Int × Bool)) :=
  if decide (0 ≤ tag) && decide (ws.length ≤ 1000) && decide (0 ≤ P.used) && decide (P.used ≤ half) && decide (half ≤ 1000000) && decide (P.t ≤ 1000000) && ws.all (mayP P.l) then
    if half - P.used < szI ws.length then some (P, (0, false)) else some (⟨P.used + szI ws.length, P.t + 1, (P.used, ⟨tag, ws, -1⟩) :: P.l⟩, (P.used, true))
  else none
def pSet (P : PH) (p : Int) (i : Nat) (x : S33) : Option PH := match pEnd P.l far p with
  | none => none
  | some q => match find P.l q with
    | none => none
    | some nd => if decide (i < nd.fs.length) && decide (nd.fs.length ≤ 1000) && mayP P.l x then some { P with l := (q, { nd with fs := nd.fs.set i x }) :: P.l } else none
def pLink (P : PH) (p p2 : Int) : Option (PH × Bool) := match pEnd P.l far p with
  | none => none
  | some q => match pEnd P.l far p2 with
    | none => none
    | some q2 => if q = q2 then some (P, false) else match find P.l q with
      | none => none
      | some nd => if P.t ≤ 1000000 then some (⟨P.used, P.t + 1, (q, { nd with link := q2 }) :: P.l⟩, true) else none
def pNode (P : PH) (p : Int) : Option Nd := match pEnd P.l far p with
  | none => none
  | some q => match find P.l q with
    | none => none
    | some nd => if nd.fs.length ≤ 1000 then some nd else none
section
variable {B : Nat} {W W1 : World} {b : Nat} {half : Int} {P P' : PH} {Z : Nat → Prop}
theorem HP.step (h : HP B W b half P Z) (hk : ∀ j, Z j → W1.heap[j]? = W.heap[j]?) (hs : W.heap.size ≤ W1.heap.size) : HP B W1 b half P Z := by
  obtain ⟨mb, f, h1, h2, h3, h4⟩ := h
  exact ⟨mb, f, h1.step (fun j hj => hk j (h3 j hj)), h2, h3, fun j hj => ⟨(h4 j hj).1, Nat.lt_of_lt_of_le (h4 j hj).2 hs⟩⟩
theorem HP.below (h : HP B W b half P Z) (hb : Below W.heap.size W W1) : HP B W1 b half P Z := h.step (fun j hj => hb.block j (by obtain ⟨_, _, _, _, _, h4⟩ := h; exact (h4 j hj).2)) hb.size
theorem HP.lt (h : HP B W b half P Z) {j : Nat} (hj : Z j) : B ≤ j ∧ j < W.heap.size := by obtain ⟨_, _, _, _, _, h4⟩ := h; exact h4 j hj
theorem Op.same (h : HP B W b half P Z) (hb : Below W.heap.size W W1) : Op B b half W Z P W1 := ⟨Z, h.below hb, Mod.of_below hb _, fun _ hj => .inl hj⟩
/-- A row beside the heap stays beside it. -/
theorem Op.row {Z' : Nat → Prop} {C : Nat} {u : Value} {rs : List S33} (hm : Mod W W1 Z) (hz : ∀ j, Z' j → Z j ∨ W.heap.size ≤ j) (hR : Kd.R k33 33 W C (fun j => ¬ Z j) u rs) : Kd.R k33 33 W1 C (fun j => ¬ Z' j) u rs :=
  R33_step hR (fun j hj => hm.block j (Kd.R_lt hR j hj) (hR.1 j hj)) (fun j hj hz' => (hz j hz').elim (hR.1 j hj) (fun h => by have := Kd.R_lt hR j hj; omega))
theorem mayP_some {f : NM} {l : List (Int × Nd)} (h : Sm f l) (w : S33) : mayB f w = mayP l w := by
  simp only [mayB, mayP, ← h w.f1, Option.isSome_map]
theorem ptr_p (h : HP B W b half P Z) : Calls Tryd.prog 12 #[.pointer (some ⟨b, 0, none⟩)] W fun e W' => e = .returned (.int .i64 P.used) ∧ W = W' := by
  obtain ⟨mb, f, h1, _⟩ := h
  exact ptr_calls h1
theorem half_p (h : HP B W b half P Z) : Calls Tryd.prog 13 #[.pointer (some ⟨b, 0, none⟩)] W fun e W' => e = .returned (.int .i64 half) ∧ W = W' := by
  obtain ⟨mb, f, h1, _⟩ := h
  exact half_calls h1
theorem new_p (words : Int) (h0 : 8 ≤ words) (h1 : words ≤ 1048576) (hB : B ≤ W.heap.size) : Calls Tryd.prog 10 #[.int .i64 words] W fun e W' => e = .returned (.tuple #[.pointer (some ⟨W.heap.size + 1, 0, none⟩), .nilIface]) ∧ Below W.heap.size W W' ∧ ∃ Z, HP B W' (W.heap.size + 1) (words / 2) ⟨0, 0, []⟩ Z ∧ ∀ j, Z j → W.heap.size ≤ j := by
  refine (new_calls words h0 h1).mono ?_
  rintro e W' ⟨rfl, h, hb⟩
  refine ⟨rfl, hb, fun j => W.heap.size ≤ j ∧ j < W'.heap.size, ⟨W.heap.size, fun _ => none, ⟨h.blk, h.map, (fun p x hp => by cases hp), ⟨by omega, hB⟩, h.wl⟩, fun _ => rfl, fun j hj => ⟨h.fp_ge hj, h.fp_lt hj⟩, fun j hj => ⟨by omega, hj.2⟩⟩, fun j hj => hj.1⟩
theorem alloc_p (h : HP B W b half P Z) {tag : Int} {ws : List S33} {A : Option Addr} {c : Nat} (hC : Kd.C k33 W A ws.length ws) {r : Int × Bool} (hp : pAlloc half P tag ws = some (P', r)) :
    Calls Tryd.prog 11 #[.pointer (some ⟨b, 0, none⟩), .int .i64 tag, .slice A ws.length c] W fun e W' => e = .returned (.tuple #[.int .i64 r.1, .bool r.2]) ∧ Op B b half W Z P' W' := by
  have hh := h
  obtain ⟨mb, f, h1, h2, h3, h4⟩ := h
  unfold pAlloc at hp
  split at hp
  · rename_i hg
    simp only [Bool.and_eq_true, decide_eq_true_eq] at hg
    obtain ⟨⟨⟨⟨⟨⟨g0, g1⟩, g2⟩, g3⟩, g4⟩, g5⟩, g6⟩ := hg
    have hbad : badB f ws = false := by
      simp only [badB, List.any_eq_false, mayP_some h2]
      intro w hw
      simp only [List.all_eq_true] at g6
      simp [g6 w hw]
    have hws : WFs ws := by
      intro w hw h0
      simp only [List.all_eq_true] at g6
      have := g6 w hw
      rw [← mayP_some h2] at this
      simp only [mayB, h0, Bool.not_true, Bool.false_or] at this
      obtain ⟨x, hx⟩ := Option.isSome_iff_exists.1 this
      exact (h1.wl _ x hx).1
    have hmx : (1000000 : Nat) < maxLen := by decide
    split at hp
    · rename_i hr
      simp only [Option.some.injEq, Prod.mk.injEq] at hp
      obtain ⟨rfl, rfl⟩ := hp
      refine (alloc_no h1 tag g0 ws hws hC (by omega) hbad g2 g3 (by omega) hr).mono ?_
      rintro e W' ⟨rfl, hb⟩
      exact ⟨rfl, Op.same hh hb⟩
    · rename_i hr
      simp only [Option.some.injEq, Prod.mk.injEq] at hp
      obtain ⟨rfl, rfl⟩ := hp
      have hB : B ≤ W.heap.size := Nat.le_trans h1.ge.1 (Nat.le_of_lt h1.lt.1)
      refine (alloc_yes h1 tag g0 ws hws hC (by omega) hbad g2 g3 (by omega) (by omega) (by omega) hB).mono ?_
      rintro e W' ⟨rfl, v, hw, hm, hv⟩
      refine ⟨rfl, fun j => (Z j) ∨ v.ownBlock = some j, ⟨mb, _, hw, h2.upd _ _ _, fun j hj => ?_, fun j hj => ?_⟩, hm.mono (fun j _ hj => ?_), fun j hj => ?_⟩
      · rcases hj with hj | hj | ⟨p, x, hp, hx⟩
        · exact .inl (h3 j (.inl hj))
        · exact .inl (h3 j (.inr (.inl hj)))
        · by_cases hpp : p = P.used
          · subst hpp
            rw [updM_same] at hp
            obtain rfl := Option.some.inj hp
            exact .inr hx
          · rw [updM_ne _ _ hpp] at hp
            exact .inl (h3 j (.inr (.inr ⟨p, x, hp, hx⟩)))
      · rcases hj with hj | hj
        · have := h4 j hj
          have := hm.size
          omega
        · have h5 := hv j hj
          have h6 := hw.fp_lt (.inr (.inr ⟨P.used, _, updM_same _ _ _, hj⟩))
          omega
      · rcases hj with hj | hj
        · exact h3 j (.inl hj)
        · exact h3 j (.inr (.inl hj))
      · rcases hj with hj | hj
        · exact .inl hj
        · exact .inr (hv j hj)
  · cases hp
theorem set_p (h : HP B W b half P Z) {p : Int} {i : Nat} {x : S33} (hp : pSet P p i x = some P') :
    Calls Tryd.prog 15 #[.pointer (some ⟨b, 0, none⟩), .int .i64 p, .int .i64 (i : Int), .agg #[.bool x.f0, .int .i64 x.f1]] W fun e W' => e = .returned (.bool true) ∧ Op B b half W Z P' W' := by
  obtain ⟨mb, f, h1, h2, h3, h4⟩ := h
  unfold pSet at hp
  cases he : pEnd P.l far p with
  | none => rw [he] at hp; cases hp
  | some q =>
    rw [he] at hp
    simp only at hp
    obtain ⟨k, hk⟩ := pEnd_ends h2 _ _ _ he
    cases hq : find P.l q with
    | none => rw [hq] at hp; cases hp
    | some nd =>
      rw [hq] at hp
      simp only at hp
      split at hp
      · rename_i hg
        simp only [Bool.and_eq_true, decide_eq_true_eq] at hg
        obtain ⟨⟨g0, g1⟩, g2⟩ := hg
        obtain rfl := Option.some.inj hp
        obtain ⟨z, hz⟩ := h2.some hq
        rw [← mayP_some h2] at g2
        have hwx : x.f0 = true → WF x.f1 := by
          intro h0
          simp only [mayB, h0, Bool.not_true, Bool.false_or] at g2
          obtain ⟨y, hy⟩ := Option.isSome_iff_exists.1 g2
          exact (h1.wl _ y hy).1
        refine (set_yes h1 hk hz (by omega) i g0 x hwx g2).mono ?_
        rintro e W' ⟨rfl, hw, hm⟩
        refine ⟨rfl, Z, ⟨mb, _, hw, h2.upd _ _ _, fun j hj => ?_, fun j hj => ⟨(h4 j hj).1, Nat.lt_of_lt_of_le (h4 j hj).2 hm.size⟩⟩, hm.mono (fun j _ hj => h3 j (.inr (.inr ⟨q, _, hz, hj⟩))), fun j hj => .inl hj⟩
        rcases hj with hj | hj | ⟨p, y, hp, hy⟩
        · exact h3 j (.inl hj)
        · exact h3 j (.inr (.inl hj))
        · by_cases hpp : p = q
          · subst hpp
            rw [updM_same] at hp
            obtain rfl := Option.some.inj hp
            exact h3 j (.inr (.inr ⟨p, _, hz, hy⟩))
          · rw [updM_ne _ _ hpp] at hp
            exact h3 j (.inr (.inr ⟨p, y, hp, hy⟩))
      · cases hp
theorem link_p (h : HP B W b half P Z) {p p2 : Int} {r : Bool} (hp : pLink P p p2 = some (P', r)) :
    Calls Tryd.prog 18 #[.pointer (some ⟨b, 0, none⟩), .int .i64 p, .int .i64 p2] W fun e W' => e = .returned (.bool r) ∧ Op B b half W Z P' W' := by
  have hh := h
  obtain ⟨mb, f, h1, h2, h3, h4⟩ := h
  unfold pLink at hp
  cases he : pEnd P.l far p with
  | none => rw [he] at hp; cases hp
  | some q =>
    rw [he] at hp
    simp only at hp
    obtain ⟨k, hk⟩ := pEnd_ends h2 _ _ _ he
    cases he2 : pEnd P.l far p2 with
    | none => rw [he2] at hp; cases hp
    | some q2 =>
      rw [he2] at hp
      simp only at hp
      obtain ⟨k2, hk2⟩ := pEnd_ends h2 _ _ _ he2
      split at hp
      · rename_i heq
        subst heq
        simp only [Option.some.injEq, Prod.mk.injEq] at hp
        obtain ⟨rfl, rfl⟩ := hp
        refine (link_same h1 hk hk2).mono ?_
        rintro e W' ⟨rfl, hb⟩
        exact ⟨rfl, Op.same hh hb⟩
      · rename_i hne
        cases hq : find P.l q with
        | none => rw [hq] at hp; cases hp
        | some nd =>
          rw [hq] at hp
          simp only at hp
          split at hp
          · rename_i ht
            simp only [Option.some.injEq, Prod.mk.injEq] at hp
            obtain ⟨rfl, rfl⟩ := hp
            obtain ⟨z, hz⟩ := h2.some hq
            have hmx : (1000000 : Nat) < maxLen := by decide
            refine (link_yes h1 hk hk2 hne hz (by omega)).mono ?_
            rintro e W' ⟨rfl, hw, hm⟩
            refine ⟨rfl, Z, ⟨mb, _, hw, h2.upd _ _ _, fun j hj => ?_, fun j hj => ⟨(h4 j hj).1, Nat.lt_of_lt_of_le (h4 j hj).2 hm.size⟩⟩, hm.mono (fun j _ hj => h3 j (.inr (.inl hj))), fun j hj => .inl hj⟩
            rcases hj with hj | hj | ⟨p, y, hp, hy⟩
            · exact h3 j (.inl hj)
            · exact h3 j (.inr (.inl hj))
            · by_cases hpp : p = q
              · subst hpp
                rw [updM_same] at hp
                obtain rfl := Option.some.inj hp
                exact h3 j (.inr (.inr ⟨p, _, hz, hy⟩))
              · rw [updM_ne _ _ hpp] at hp
                exact h3 j (.inr (.inr ⟨p, y, hp, hy⟩))
          · cases hp
theorem node_p (h : HP B W b half P Z) {p : Int} {nd : Nd} (hp : pNode P p = some nd) :
    Calls Tryd.prog 16 #[.pointer (some ⟨b, 0, none⟩), .int .i64 p] W fun e W' => ∃ u, e = .returned (.tuple #[.int .i64 nd.tag, u, .bool true]) ∧ Kd.R k33 33 W' W.heap.size (fun j => ¬ Z j) u nd.fs ∧ Below W.heap.size W W' ∧ HP B W' b half P Z := by
  have hh := h
  obtain ⟨mb, f, h1, h2, h3, h4⟩ := h
  unfold pNode at hp
  cases he : pEnd P.l far p with
  | none => rw [he] at hp; cases hp
  | some q =>
    rw [he] at hp
    simp only at hp
    obtain ⟨k, hk⟩ := pEnd_ends h2 _ _ _ he
    cases hq : find P.l q with
    | none => rw [hq] at hp; cases hp
    | some nd2 =>
      rw [hq] at hp
      simp only at hp
      split at hp
      · rename_i hg
        obtain rfl := Option.some.inj hp
        obtain ⟨z, hz⟩ := h2.some hq
        refine (node_yes h1 hk hz (by omega)).mono ?_
        rintro e W' ⟨u, rfl, hR, hb⟩
        exact ⟨u, rfl, R33_ok hR (fun j hj hz => by have := Kd.R_base hR j hj; have := h4 j hz; omega), hb, hh.below hb⟩
      · cases hp
theorem node_not (h : HP B W b half P Z) {p : Int} (hw : WF p) (hp : find P.l p = none) :
    Calls Tryd.prog 16 #[.pointer (some ⟨b, 0, none⟩), .int .i64 p] W fun e W' => e = .returned (.tuple #[.int .i64 0, .slice none 0 0, .bool false]) ∧ Below W.heap.size W W' ∧ HP B W' b half P Z := by
  have hh := h
  obtain ⟨mb, f, h1, h2, h3, h4⟩ := h
  refine (node_no h1 hw (h2.none hp)).mono ?_
  rintro e W' ⟨rfl, hb⟩
  exact ⟨rfl, hb, hh.below hb⟩
theorem collect_p (h : HP B W b half P Z) {ws rs : List S33} {A : Option Addr} {c : Nat} (hC : Kd.C k33 W A ws.length ws) (hl : ws.length ≤ 1000) (hp : pCollect P ws = some (P', rs)) :
    Calls Tryd.prog 14 #[.pointer (some ⟨b, 0, none⟩), .slice A ws.length c] W fun e W' => ∃ u Z', e = .returned u ∧ HP B W' b half P' Z' ∧ Kd.R k33 33 W' W.heap.size (fun j => ¬ Z' j) u rs ∧ Mod W W' Z ∧ ∀ j, Z' j → Z j ∨ W.heap.size ≤ j := by
  obtain ⟨mb, f, h1, h2, h3, h4⟩ := h
  unfold pCollect at hp
  cases ha : pMoveL P.l PC0 ws with
  | none => rw [ha] at hp; cases hp
  | some y =>
    obtain ⟨pc1, rs1⟩ := y
    rw [ha] at hp
    simp only at hp
    cases hs : pScan P.l 1000 pc1 0 with
    | none => rw [hs] at hp; cases hp
    | some pc2 =>
      rw [hs] at hp
      simp only [Option.some.injEq, Prod.mk.injEq] at hp
      obtain ⟨rfl, rfl⟩ := hp
      refine (collect_calls h1 h2 ha hs hC hl).mono ?_
      rintro e W' ⟨u, mb', g', rfl, hw, hsm, hR, hm, hfp⟩
      refine ⟨u, FP b mb' g', rfl, ⟨mb', g', hw, hsm, fun j hj => hj, fun j hj => ⟨hw.fp_ge hj, hw.fp_lt hj⟩⟩, hR, hm.mono (fun j _ hj => h3 j (.inl hj)), fun j hj => ?_⟩
      rcases hfp j hj with h | h
      · exact .inl (h3 j (.inl h))
      · exact .inr h
end
end Go.Proofs.YtepaddjjdhpmpaaDoor.HeapA
