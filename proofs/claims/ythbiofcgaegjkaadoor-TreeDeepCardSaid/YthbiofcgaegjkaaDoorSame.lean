/- tree.Same: what the call comes to wherever the plain function (nodes nested less deep than the rounds) has an answer. No other condition. -/
import Derived.Test.YthbiofcgaegjkaaDoorPTreeAx0
namespace Go.Proofs.YthbiofcgaegjkaaDoor.Same
open Go.RowKit Go.Proofs.YthbiofcgaegjkaaDoorW.PrintWords Go.Proofs.YthbiofcgaegjkaaDoorW.PrintLast Go.Proofs.YthbiofcgaegjkaaDoorW.PrintMore Go.Proofs.YthbiofcgaegjkaaDoor.PTreeA
set_option linter.unusedVariables false
set_option linter.unusedSimpArgs false
def smL (g : List S39 → List S39 → Option Bool) : List S39 → List S39 → Option Bool
  | x :: xs, y :: ys => if x.f0.toList = y.f0.toList then (g x.f1 y.f1).bind fun t => if t = true then smL g xs ys else some false else some false
  | _, _ => some true
def sm : Nat → List S39 → List S39 → Option Bool
  | 0, _, _ => none
  | k + 1, a, b => if a.length = b.length then smL (sm k) a b else some false
theorem smL_mono {g g' : List S39 → List S39 → Option Bool} (hg : ∀ a b, LeO (g a b) (g' a b)) : ∀ a b, LeO (smL g a b) (smL g' a b)
  | [], _ => by unfold smL; exact LeO.refl _
  | x :: xs, [] => by unfold smL; exact LeO.refl _
  | x :: xs, y :: ys => by
    unfold smL
    split
    · intro r h
      obtain ⟨t, ht, h⟩ := Option.bind_eq_some_iff.mp h
      refine Option.bind_eq_some_iff.mpr ⟨t, hg _ _ _ ht, ?_⟩
      split at h
      · rename_i hh; rw [if_pos hh]; exact smL_mono hg xs ys _ h
      · rename_i hh; rw [if_neg hh]; exact h
    · exact LeO.refl _
theorem sm_mono : ∀ k a b, LeO (sm k a b) (sm (k + 1) a b) := by
  intro k
  induction k with
  | zero => intro a b r h; cases h
  | succ k ih =>
    intro a b
    show LeO (if a.length = b.length then smL (sm k) a b else some false) (if a.length = b.length then smL (sm (k + 1)) a b else some false)
    split
    · exact smL_mono ih a b
    · exact LeO.refl _

def SameC (k : Nat) : Prop := ∀ (a b : List S39) (r : Bool) (A1 A2 : Option Addr) (c1 c2 : Nat) (w : World), sm k a b = some r → Kd.C k39 w A1 a.length a → a.length ≤ c1 → Kd.C k39 w A2 b.length b → b.length ≤ c2 →
    Calls Tryd.prog 13 #[.slice A1 a.length c1, .slice A2 b.length c2] w fun e w' => e = .returned (.bool r) ∧ Below w.heap.size w w'
theorem one_call {k : Nat} (ih : SameC k) (x y : S39) (r : Bool) (A1 A2 : Option Addr) (c1 c2 : Nat) (w : World) (h : (if x.f0.toList = y.f0.toList then sm k x.f1 y.f1 else some false) = some r) (h1 : Kd.C k39 w A1 x.f1.length x.f1) (l1 : x.f1.length ≤ c1) (h2 : Kd.C k39 w A2 y.f1.length y.f1) (l2 : y.f1.length ≤ c2) :
    Calls Tryd.prog 20 #[.agg #[.string x.f0, .slice A1 x.f1.length c1, .int .i64 x.f2], .agg #[.string y.f0, .slice A2 y.f1.length c2, .int .i64 y.f2]] w fun e w' => e = .returned (.bool r) ∧ Below w.heap.size w w' := by
  have hb : Below w.heap.size w ((w.alloc (.cells #[.string x.f0, .slice A1 x.f1.length c1, .int .i64 x.f2] 39)).alloc (.cells #[.string y.f0, .slice A2 y.f1.length c2, .int .i64 y.f2] 39)) := below_alloc (below_alloc (Below.refl _ _) _) _
  by_cases he : x.f0.toList = y.f0.toList
  · rw [if_pos he] at h
    have C := ih x.f1 y.f1 r A1 A2 c1 c2 _ h (Kd.C_below h1 hb) l1 (Kd.C_below h2 hb) l2
    have hq : (x.f0.toList == y.f0.toList) = true := by simpa using he
    clear h h1 h2 he
    go_enter Tryd.func20, Tryd.ntmps20
    go_wp2_with (go_at_call 13; refine C.mono ?_; rintro e w2 ⟨rfl, hb2⟩)
    go_ret
    exact ⟨by simp, below_step hb hb2⟩
  · rw [if_neg he] at h
    obtain rfl := Option.some.inj h
    have hq : (x.f0.toList == y.f0.toList) = false := by simpa using he
    clear h h1 h2 he
    go_enter Tryd.func20, Tryd.ntmps20
    go_wp2
    go_ret
    exact ⟨rfl, hb⟩
theorem smL_drop {g : List S39 → List S39 → Option Bool} {a b : List S39} {i : Nat} {r : Bool} (hab : a.length = b.length) (hi : i < a.length) (h : smL g (a.drop i) (b.drop i) = some r) :
    ∃ x y, a[i]? = some x ∧ b[i]? = some y ∧ ∃ t, (if x.f0.toList = y.f0.toList then g x.f1 y.f1 else some false) = some t ∧ (t = true → smL g (a.drop (i + 1)) (b.drop (i + 1)) = some r) ∧ (t = false → r = false) := by
  have hj : i < b.length := by omega
  refine ⟨a[i], b[i], List.getElem?_eq_getElem hi, List.getElem?_eq_getElem hj, ?_⟩
  rw [List.drop_eq_getElem_cons hi, List.drop_eq_getElem_cons hj] at h
  unfold smL at h
  split at h
  · rename_i he
    obtain ⟨t, ht, h⟩ := Option.bind_eq_some_iff.mp h
    refine ⟨t, by rw [if_pos he]; exact ht, (fun e => ?_), (fun e => ?_)⟩
    · rw [if_pos e] at h; exact h
    · subst e; simpa using h.symm
  · rename_i he
    exact ⟨false, by rw [if_neg he], (fun e => nomatch e), (fun _ => (Option.some.inj h).symm)⟩
set_option maxHeartbeats 2000000 in
set_option maxRecDepth 100000 in
theorem same_call : ∀ k, SameC k := by
  intro k
  induction k with
  | zero => intro a b r A1 A2 c1 c2 w h; cases h
  | succ k ih =>
    intro a b r A1 A2 c1 c2 w h h1 l1 h2 l2
    have h : (if a.length = b.length then smL (sm k) a b else some false) = some r := h
    by_cases hl : a.length = b.length
    · rw [if_pos hl] at h
      have hlb : ((a.length : Int) != (b.length : Int)) = false := by simp; omega
      have hm1 := h1.2.1
      have HL := Aside0.mk hl
      have H := Aside0.mk h
      have H1 := Aside0.mk h1
      have H2 := Aside0.mk h2
      clear h hl h1 h2
      go_enter Tryd.func13, Tryd.ntmps13
      go_wp2
      go_loopg [17] (a.length + 1) (fun kq v17 w' => ∃ i : Nat, v17 = .int .i64 (i : Int) ∧ i + kq = a.length + 1 ∧ 1 ≤ kq ∧ Aside0 (smL (sm k) (a.drop i) (b.drop i) = some r) ∧ Aside0 (Below w.heap.size w w'))
      case atStart => exact ⟨0, rfl, by omega, by omega, H, ⟨Below.refl _ _⟩⟩
      case round =>
        obtain ⟨i, rfl, hi, hk, hs, hb⟩ := hrel
        by_cases hlt : i < a.length
        · obtain ⟨x, y, hx, hy, t, ht, hgo, hstop⟩ := smL_drop HL.out hlt hs.out
          obtain ⟨a1, A3, c3, hA, hv0, hv1, hv2, hl3, hg3⟩ := at_T39 (Kd.C_below H1.out hb.out) (i : Int) (by omega) (by omega)
          obtain ⟨a2, A4, c4, hA2, hu0, hu1, hu2, hl4, hg4⟩ := at_T39 (Kd.C_below H2.out hb.out) (i : Int) (by omega) (by have := HL.out; omega)
          subst hA hA2
          have e1 : rd_T39 a (i : Int) = x := by simp [rd_T39, List.getD_eq_getElem?_getD, hx]
          have e2 : rd_T39 b (i : Int) = y := by simp [rd_T39, List.getD_eq_getElem?_getD, hy]
          simp only [Int.toNat_natCast] at hv0 hv1 hv2 hu0 hu1 hu2
          rw [e1] at hv0 hv1 hv2 hl3 hg3
          rw [e2] at hu0 hu1 hu2 hl4 hg4
          have p0 : 0 ≤ (i : Int) := by omega
          have q0 : (i : Int) < (a.length : Int) := by omega
          have q1 : decide ((i : Int) < (a.length : Int)) = true := decide_eq_true q0
          have q2 : (i : Int) < (b.length : Int) := by have := HL.out; omega
          have ga := fun {p : Addr} {v : Value} (h : wr.cell? p = some v) => (World.cell?_alloc_lt wr (.cells #[.string x.f0, .slice A3 x.f1.length c3, .int .i64 x.f2] 39) p (World.block_lt_of_cell? _ _ h)).trans h
          have hu0 := ga hu0
          have hu1 := ga hu1
          have hu2 := ga hu2
          clear ga
          have HB3 : Below wr.heap.size wr ((wr.alloc (.cells #[.string x.f0, .slice A3 x.f1.length c3, .int .i64 x.f2] 39)).alloc (.cells #[.string y.f0, .slice A4 y.f1.length c4, .int .i64 y.f2] 39)) := below_alloc (below_alloc (Below.refl _ _) _) _
          have CC := one_call ih x y t A3 A4 c3 c4 _ ht (Kd.C_below hg3 HB3) hl3 (Kd.C_below hg4 HB3) hl4
          have HB3 := Aside0.mk HB3
          have HGO := Aside0.mk hgo
          have HST := Aside0.mk hstop
          clear ht hgo hstop hg3 hg4 hl3 hl4 e1 e2 hx hy
          cases t with
          | true =>
            go_wp2_with (go_at_call 20; refine CC.mono ?_; rintro e w5 ⟨rfl, hb5⟩; have HB5 := Aside0.mk (below_step (below_step hb.out HB3.out) hb5); clear hb5)
            go_roundg (gk - 1)
            case measure => omega
            case rel => exact ⟨i + 1, by go_num, by omega, by omega, ⟨HGO.out trivial⟩, HB5⟩
          | false =>
            have hr := HST.out rfl
            subst hr
            go_wp2_with (go_at_call 20; refine CC.mono ?_; rintro e w5 ⟨rfl, hb5⟩; have HB5 := Aside0.mk (below_step (below_step hb.out HB3.out) hb5); clear hb5)
            go_ret
            exact ⟨rfl, HB5.out⟩
        · have q1 : decide ((i : Int) < (a.length : Int)) = false := decide_eq_false (by omega)
          have hr : r = true := by
            have := hs.out
            rw [List.drop_eq_nil_of_le (by omega)] at this
            unfold smL at this
            exact (Option.some.inj this).symm
          subst hr
          go_wp2
          go_ret
          exact ⟨rfl, hb.out⟩
    · rw [if_neg hl] at h
      obtain rfl := Option.some.inj h
      have hlb : ((a.length : Int) != (b.length : Int)) = true := by simp; omega
      clear h hl h1 h2
      go_enter Tryd.func13, Tryd.ntmps13
      go_wp2
      go_ret
      exact ⟨rfl, Below.refl _ _⟩
end Go.Proofs.YthbiofcgaegjkaaDoor.Same
