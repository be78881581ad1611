/- Open lists of nodes in memory: a row of its own whose elements each lead to a row of its own, all of them apart; what an append to one of them, a store of its new place, a new open list, the end of one leaves. No condition. -/
import Derived.Test.YthbiofcgaegjkaaDoorPTreeAx0
namespace Go.Proofs.YthbiofcgaegjkaaDoor.Inv
open Go.RowKit Go.Proofs.YthbiofcgaegjkaaDoorW.PrintWords Go.Proofs.YthbiofcgaegjkaaDoorW.PrintLast Go.Proofs.YthbiofcgaegjkaaDoorW.PrintMore Go.Proofs.YthbiofcgaegjkaaDoor.PTreeA
set_option linter.unusedVariables false

/-- A node whose list is a bare value. -/
structure Q where
  s : ByteArray
  v : Value
  p : Int
def QM (x : Q) (cs : List Value) : Prop := cs = [.string x.s, x.v, .int .i64 x.p] ∧ x.v.oneCell' = true
def kQ : Kd Q where
  sz := 3
  E := []
  K := fun _ x cs => QM x cs
  M := fun _ _ _ x cs => QM x cs
  K_len := fun h => by rw [h.1]; rfl
  K_one := fun h u hu => by
    rw [h.1] at hu
    simp only [List.mem_cons, List.not_mem_nil, or_false] at hu
    rcases hu with rfl | rfl | rfl
    · rfl
    · exact h.2
    · rfl
  K_below := fun _ h => h
  K_of_M := fun h => h
  M_mono := fun _ h => h
  M_bound := fun h => h
  M_move := fun _ h => h
  M_lower := fun _ h => h
def zQ : Q := ⟨⟨#[]⟩, .slice none 0 0, 0⟩

def okD (g : Nat) (qs : List Q) (t : Nat) (v1 : Value) (i : Nat) (k : Nat) : Prop :=
  k ≠ g ∧ (i ≠ t → some k ≠ v1.ownBlock) ∧ ∀ j q, j ≠ i → j ≠ t → qs[j]? = some q → some k ≠ q.v.ownBlock
/-- The open lists; the list of number t lies at v1, whatever its own element says. -/
structure Det (W : World) (base g cap : Nat) (opn : List S39) (qs : List Q) (t : Nat) (v1 : Value) (L1 : List S39) : Prop where
  len : qs.length = opn.length
  lt : t < opn.length
  sp : Kd.R kQ 39 W base (fun _ => True) (.slice (some ⟨g, 0, none⟩) opn.length cap) qs
  sh : ∀ i q x, i ≠ t → qs[i]? = some q → opn[i]? = some x → q.s = x.f0 ∧ q.p = x.f2 ∧ Kd.R k39 39 W base (okD g qs t v1 i) q.v x.f1
  top : ∀ q x, qs[t]? = some q → opn[t]? = some x → q.s = x.f0 ∧ q.p = x.f2
  row : Kd.R k39 39 W base (okD g qs t v1 t) v1 L1
def okI (g : Nat) (qs : List Q) (i : Nat) (k : Nat) : Prop := k ≠ g ∧ ∀ j q, j ≠ i → qs[j]? = some q → some k ≠ q.v.ownBlock
structure Inv (W : World) (base g cap : Nat) (opn : List S39) (qs : List Q) : Prop where
  len : qs.length = opn.length
  sp : Kd.R kQ 39 W base (fun _ => True) (.slice (some ⟨g, 0, none⟩) opn.length cap) qs
  sh : ∀ i q x, qs[i]? = some q → opn[i]? = some x → q.s = x.f0 ∧ q.p = x.f2 ∧ Kd.R k39 39 W base (okI g qs i) q.v x.f1

section
variable {W W1 : World} {base g cap : Nat} {opn : List S39} {qs : List Q} {t : Nat} {v1 : Value} {L1 : List S39}

theorem Inv.below (h : Inv W base g cap opn qs) (hb : Below W.heap.size W W1) : Inv W1 base g cap opn qs :=
  ⟨h.len, Kd.R_below h.sp hb, fun i q x hq hx => ⟨(h.sh i q x hq hx).1, (h.sh i q x hq hx).2.1, Kd.R_below (h.sh i q x hq hx).2.2 hb⟩⟩
theorem Det.below (h : Det W base g cap opn qs t v1 L1) (hb : Below W.heap.size W W1) : Det W1 base g cap opn qs t v1 L1 :=
  ⟨h.len, h.lt, Kd.R_below h.sp hb, fun i q x hi hq hx => ⟨(h.sh i q x hi hq hx).1, (h.sh i q x hi hq hx).2.1, Kd.R_below (h.sh i q x hi hq hx).2.2 hb⟩, h.top, Kd.R_below h.row hb⟩

/-- The block of the row of lists. -/
theorem sp_lt (h : Kd.R kQ 39 W base (fun _ => True) (.slice (some ⟨g, 0, none⟩) opn.length cap) qs) : g < W.heap.size := Kd.R_lt h g (by simp [Value.ownBlock])
theorem sp_step (h : Kd.R kQ 39 W base (fun _ => True) (.slice (some ⟨g, 0, none⟩) opn.length cap) qs) {row : Option Nat} (hg : W.grownBy W1 row) (hne : some g ≠ row) : Kd.R kQ 39 W1 base (fun _ => True) (.slice (some ⟨g, 0, none⟩) opn.length cap) qs := by
  have h1 : Kd.R kQ 39 W base (fun k => k = g) (.slice (some ⟨g, 0, none⟩) opn.length cap) qs := by
    obtain ⟨_, inner, ho, hr⟩ := h
    exact ⟨fun k hk => by simpa [Value.ownBlock] using hk.symm, inner, ho, hr⟩
  exact Kd.R_mono (Kd.R_grown h1 hg (fun k hk => by subst hk; exact hne)) (fun _ _ => trivial)

theorem Inv.det (h : Inv W base g cap opn qs) {q : Q} {x : S39} (hq : qs[t]? = some q) (hx : opn[t]? = some x) : Det W base g cap opn qs t q.v x.f1 where
  len := h.len
  lt := (List.getElem?_eq_some_iff.1 hx).1
  sp := h.sp
  sh := fun i q' x' hi hq' hx' => ⟨(h.sh i q' x' hq' hx').1, (h.sh i q' x' hq' hx').2.1, Kd.R_mono (h.sh i q' x' hq' hx').2.2 (fun k hk => ⟨hk.1, fun _ => hk.2 t q (Ne.symm hi) hq, fun j q2 hj _ h2 => hk.2 j q2 hj h2⟩)⟩
  top := fun q' x' hq' hx' => ⟨(h.sh t q' x' hq' hx').1, (h.sh t q' x' hq' hx').2.1⟩
  row := Kd.R_mono (h.sh t q x hq hx).2.2 (fun k hk => ⟨hk.1, fun hc => absurd rfl hc, fun j q2 hj _ h2 => hk.2 j q2 hj h2⟩)

theorem Det.ne_g (h : Det W base g cap opn qs t v1 L1) : some g ≠ v1.ownBlock := by
  intro he
  exact (h.row.1 g he.symm).1 rfl

/-- The list at v1 has gone on: at v2 now. -/
theorem Det.grown {v2 : Value} {L2 : List S39} (h : Det W base g cap opn qs t v1 L1) (hg : W.grownBy W1 v1.ownBlock) (hat : v2.ownBlock = v1.ownBlock ∨ ∃ b, v2.ownBlock = some b ∧ W.heap.size ≤ b)
    (hr : Kd.R k39 39 W1 base (okD g qs t v1 t) v2 L2) : Det W1 base g cap opn qs t v2 L2 where
  len := h.len
  lt := h.lt
  sp := sp_step h.sp hg h.ne_g
  sh := fun i q x hi hq hx => by
    obtain ⟨h1, h2, h3⟩ := h.sh i q x hi hq hx
    refine ⟨h1, h2, ?_⟩
    have h4 := Kd.R_bound h3
    have h5 := Kd.R_grown h4 hg (fun k hk => hk.1.2.1 hi)
    refine Kd.R_mono h5 (fun k hk => ⟨hk.1.1, fun _ => ?_, hk.1.2.2⟩)
    rcases hat with hat | ⟨b, hb, hle⟩
    · rw [hat]; exact hk.1.2.1 hi
    · rw [hb]
      intro he
      injection he with he
      have := hk.2.2.1
      omega
  top := h.top
  row := Kd.R_mono hr (fun k hk => ⟨hk.1, fun hc => absurd rfl hc, hk.2.2⟩)

theorem Det.fresh (h : Det W base g cap opn qs t v1 L1) : ∀ k, W.heap.size ≤ k → okD g qs t v1 t k := by
  intro k hk
  refine ⟨?_, fun hc => absurd rfl hc, fun j q hj _ hq => ?_⟩
  · rintro rfl
    have := sp_lt h.sp
    omega
  · intro he
    have hjl : j < opn.length := by rw [← h.len]; exact (List.getElem?_eq_some_iff.1 hq).1
    have := Kd.R_lt (h.sh j q _ hj hq (List.getElem?_eq_getElem hjl)).2.2 k he.symm
    omega

theorem getElem?_set_ {α : Type} {l : List α} {t i : Nat} {a b : α} (h : (l.set t a)[i]? = some b) : (i = t ∧ b = a) ∨ (i ≠ t ∧ l[i]? = some b) := by
  rw [List.getElem?_set] at h
  split at h
  · rename_i he
    split at h
    · exact .inl ⟨he.symm, (Option.some.inj h).symm⟩
    · cases h
  · rename_i he
    exact .inr ⟨fun e => he e.symm, h⟩

theorem own_one {v : Value} {L : List S39} {ok : Nat → Prop} (h : Kd.R k39 39 W base ok v L) : v.oneCell' = true := by
  obtain ⟨A, c, rfl, _⟩ := Kd.R_reads h
  rfl

/-- The list's new place is written into its element. -/
theorem Det.put (h : Det W base g cap opn qs t v1 L1) {q : Q} (hq : qs[t]? = some q) : Det (W.setCell ⟨g, t * 3 + 1, none⟩ v1) base g cap opn (qs.set t { q with v := v1 }) t v1 L1 where
  len := by rw [List.length_set]; exact h.len
  lt := h.lt
  sp := by
    have ht := h.lt
    obtain ⟨c, hcl, hM, hcc, hf⟩ := Kd.R_elem h.sp zQ (t : Int) (by omega) (by omega)
    have hq' : qs.getD (t : Int).toNat zQ = q := by simp [List.getD_eq_getElem?_getD, hq]
    rw [hq'] at hM
    obtain ⟨hc, _⟩ := (show QM q c from hM)
    subst hc
    have := (Kd.R_seg (d := kQ) h.sp (t : Int) (by omega) (by omega) (c := [.string q.s, q.v, .int .i64 q.p]) (seg := [v1]) (j := 1) rfl hcc (show 1 + 1 ≤ 3 by decide) (x' := { q with v := v1 }) (okp := fun _ => False) ⟨rfl, own_one h.row⟩ (fun _ hk => hk.elim)).1
    exact this
  sh := fun i q' x hi hq' hx => by
    rcases getElem?_set_ hq' with ⟨rfl, _⟩ | ⟨_, hq2⟩
    · exact absurd rfl hi
    obtain ⟨h1, h2, h3⟩ := h.sh i q' x hi hq2 hx
    refine ⟨h1, h2, Kd.R_mono (Kd.R_far h3 (p := ⟨g, t * 3 + 1, none⟩) (fun k hk => hk.1) v1) (fun k hk => ⟨hk.1, hk.2.1, fun j q2 hj ht h2 => ?_⟩)⟩
    rcases getElem?_set_ h2 with ⟨rfl, _⟩ | ⟨_, hq3⟩
    · exact absurd rfl ht
    exact hk.2.2 j q2 hj ht hq3
  top := fun q' x hq' hx => by
    rcases getElem?_set_ hq' with ⟨_, rfl⟩ | ⟨hc, _⟩
    · exact h.top q x hq hx
    · exact absurd rfl hc
  row := Kd.R_mono (Kd.R_far h.row (p := ⟨g, t * 3 + 1, none⟩) (fun k hk => hk.1) v1) (fun k hk => ⟨hk.1, fun hc => absurd rfl hc, fun j q2 hj ht h2 => by
    rcases getElem?_set_ h2 with ⟨rfl, _⟩ | ⟨_, hq3⟩
    · exact absurd rfl ht
    exact hk.2.2 j q2 hj ht hq3⟩)

/-- Where the element says where the list lies all is in order again. -/
theorem Det.inv (h : Det W base g cap opn qs t v1 L1) {q : Q} {x : S39} (hq : qs[t]? = some q) (hv : q.v = v1) (hx : opn[t]? = some x) : Inv W base g cap (opn.set t { x with f1 := L1 }) qs where
  len := by rw [List.length_set]; exact h.len
  sp := by rw [List.length_set]; exact h.sp
  sh := fun i q' x' hq' hx' => by
    rcases getElem?_set_ hx' with ⟨rfl, rfl⟩ | ⟨hi, hx2⟩
    · obtain rfl : q = q' := Option.some.inj (hq.symm.trans hq')
      obtain ⟨h1, h2⟩ := h.top q x hq hx
      refine ⟨h1, h2, ?_⟩
      rw [hv]
      exact Kd.R_mono h.row (fun k hk => ⟨hk.1, fun j q2 hj h2 => hk.2.2 j q2 hj hj h2⟩)
    · obtain ⟨h1, h2, h3⟩ := h.sh i q' x' hi hq' hx2
      refine ⟨h1, h2, Kd.R_mono h3 (fun k hk => ⟨hk.1, fun j q2 hj h2 => ?_⟩)⟩
      by_cases hj2 : j = t
      · subst hj2
        obtain rfl : q = q2 := Option.some.inj (hq.symm.trans h2)
        rw [hv]
        exact hk.2.1 hi
      · exact hk.2.2 j q2 hj hj2 h2

/-- What an element's cells hold. -/
theorem Inv.cells (h : Inv W base g cap opn qs) {i : Nat} {q : Q} {x : S39} (hq : qs[i]? = some q) (hx : opn[i]? = some x) :
    W.cell? ⟨g, i * 3, none⟩ = some (.string x.f0) ∧ W.cell? ⟨g, i * 3 + 1, none⟩ = some q.v ∧ W.cell? ⟨g, i * 3 + 2, none⟩ = some (.int .i64 x.f2) ∧ ∀ j, W.frozen? ⟨g, i * 3 + j, none⟩ = false := by
  have hil : i < opn.length := (List.getElem?_eq_some_iff.1 hx).1
  obtain ⟨c, hcl, hM, hcc, hf⟩ := Kd.R_elem h.sp zQ (i : Int) (by omega) (by omega)
  have hq' : qs.getD (i : Int).toNat zQ = q := by simp [List.getD_eq_getElem?_getD, hq]
  rw [hq'] at hM
  obtain ⟨hc, _⟩ := (show QM q c from hM)
  subst hc
  obtain ⟨h1, h2, _⟩ := h.sh i q x hq hx
  rw [← h1, ← h2]
  exact ⟨hcc 0 _ rfl, hcc 1 _ rfl, hcc 2 _ rfl, hf⟩

/-- A new open list. -/
theorem Inv.push {g1 cap1 : Nat} (h : Inv W base g cap opn qs) (y : S39) (hy : y.f1 = []) (hg : W.grownBy W1 (some g)) (hat : g1 = g ∨ W.heap.size ≤ g1)
    (hr : Kd.R kQ 39 W1 base (fun _ => True) (.slice (some ⟨g1, 0, none⟩) (opn ++ [y]).length cap1) (qs ++ [⟨y.f0, .slice none 0 0, y.f2⟩])) : Inv W1 base g1 cap1 (opn ++ [y]) (qs ++ [⟨y.f0, .slice none 0 0, y.f2⟩]) where
  len := by simp [h.len]
  sp := hr
  sh := fun i q x hq hx => by
    have hlen := h.len
    by_cases hi : i < opn.length
    · rw [List.getElem?_append_left (by omega)] at hq hx
      obtain ⟨h1, h2, h3⟩ := h.sh i q x hq hx
      refine ⟨h1, h2, Kd.R_mono (Kd.R_grown (Kd.R_bound h3) hg (fun k hk he => hk.1.1 (Option.some.inj he))) (fun k hk => ⟨?_, fun j q2 hj h2 => ?_⟩)⟩
      · rcases hat with rfl | hat
        · exact hk.1.1
        · have := hk.2.2.1
          omega
      · by_cases hjl : j < qs.length
        · rw [List.getElem?_append_left hjl] at h2
          exact hk.1.2 j q2 hj h2
        · rw [List.getElem?_append_right (by omega)] at h2
          obtain ⟨h5, h6⟩ := List.getElem?_eq_some_iff.1 h2
          simp only [List.length_singleton] at h5
          have h7 : j - qs.length = 0 := by omega
          simp only [h7, List.getElem_cons_zero] at h6
          subst h6
          simp [Value.ownBlock]
    · rw [List.getElem?_append_right (by omega)] at hq hx
      obtain ⟨h5, h6⟩ := List.getElem?_eq_some_iff.1 hq
      obtain ⟨h7, h8⟩ := List.getElem?_eq_some_iff.1 hx
      simp only [List.getElem_singleton] at h6 h8
      subst h6 h8
      refine ⟨rfl, rfl, ?_⟩
      rw [hy]
      exact Kd.R_nil _ _ _ _ _

/-- The last of the open lists is taken. -/
theorem Inv.cut (h : Inv W base g cap opn qs) {m : Nat} (hm : opn.length = m + 1) {q : Q} {x : S39} (hq : qs[m]? = some q) (hx : opn[m]? = some x) :
    Inv W base g cap (opn.take m) (qs.take m) ∧ Kd.R k39 39 W base (fun k => (k ≠ g ∧ ∀ (j : Nat) (q2 : Q), (qs.take m)[j]? = some q2 → some k ≠ q2.v.ownBlock) ∧ k < W.heap.size) q.v x.f1 := by
  have hlen := h.len
  have hget : ∀ {α : Type} {l : List α} {i : Nat} {a : α}, (l.take m)[i]? = some a → i < m ∧ l[i]? = some a := by
    intro α l i a hh
    rw [List.getElem?_take] at hh
    split at hh
    · exact ⟨by assumption, hh⟩
    · cases hh
  refine ⟨⟨by simp [hlen], ?_, fun i q' x' hq' hx' => ?_⟩, ?_⟩
  · have := Kd.R_take h.sp (m := m) (by omega)
    rwa [show (opn.take m).length = m by simp [hm]]
  · obtain ⟨hi, hq2⟩ := hget hq'
    obtain ⟨_, hx2⟩ := hget hx'
    obtain ⟨h1, h2, h3⟩ := h.sh i q' x' hq2 hx2
    exact ⟨h1, h2, Kd.R_mono h3 (fun k hk => ⟨hk.1, fun j q2 hj h2 => hk.2 j q2 hj (hget h2).2⟩)⟩
  · refine Kd.R_mono (Kd.R_bound (h.sh m q x hq hx).2.2) (fun k hk => ⟨⟨hk.1.1, fun j q2 h2 => ?_⟩, hk.2.2.1⟩)
    obtain ⟨hj, h3⟩ := hget h2
    exact hk.1.2 j q2 (by omega) h3
end
end Go.Proofs.YthbiofcgaegjkaaDoor.Inv
