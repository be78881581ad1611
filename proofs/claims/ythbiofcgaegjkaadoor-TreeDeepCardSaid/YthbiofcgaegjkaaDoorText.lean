/- What the call of tree.Text comes to: the nodes' text, for nodes that are nested less deep than a bound on rounds, and a text of at most 2^47 bytes. -/
import Derived.Test.YthbiofcgaegjkaaDoorPTreeAx0
import Derived.Test.YthbiofcgaegjkaaDoorShelfK
import Derived.Sort.Row
namespace Go.Proofs.YthbiofcgaegjkaaDoor.Text
open Go.RowKit Go.Proofs.YthbiofcgaegjkaaDoor.PTreeA Go.Proofs.YthbiofcgaegjkaaDoorW.PrintWords Go.Proofs.YthbiofcgaegjkaaDoorW.PrintLast
set_option linter.unusedVariables false
set_option linter.unusedSimpArgs false

/-- A builder stays as it is where its own blocks stay. -/
theorem isB_keep {B b : Nat} {bs : List Value} {w w1 : World} (h : Lib.IsBuilderF 58 5 B b bs w) (hm : ∀ k : Nat, (∃ (cs : Array Value) (t : TypeId) (fz : Nat × Nat), w.heap[k]? = some (Obj.cells cs t fz) ∧ t ≠ 39) → w1.heap[k]? = w.heap[k]?) : Lib.IsBuilderF 58 5 B b bs w1 := by
  have key : ∀ p, Lib.BuilderAtF 58 5 B b p bs w → Lib.BuilderAtF 58 5 B b p bs w1 := by
    rintro p ⟨hB, v, hb, ho, hne⟩
    refine ⟨hB, v, (hm b ⟨_, 58, _, hb, by decide⟩).trans hb, ⟨ho.1, ?_⟩, hne⟩
    rcases ho.2 with h2 | ⟨g, cap, cur, fz, rfl, hg, hh, r⟩
    · exact .inl h2
    · exact .inr ⟨g, cap, cur, fz, rfl, hg, (hm g ⟨_, 5, _, hh, by decide⟩).trans hh, r⟩
  exact h.elim (fun x => .inl (key _ x)) (fun x => .inr (key _ x))
theorem isB_below {B b : Nat} {bs : List Value} {w w1 : World} (h : Lib.IsBuilderF 58 5 B b bs w) (hb : Below w.heap.size w w1) : Lib.IsBuilderF 58 5 B b bs w1 :=
  isB_keep h fun k ⟨cs, t, fz, hk, _⟩ => hb.block k (Array.getElem?_eq_some_iff.1 hk).1
theorem isB_set {B b nb i : Nat} {u : Value} {bs : List Value} {cs : Array Value} {w : World} (h : Lib.IsBuilderF 58 5 B b bs w) (hn : w.heap[nb]? = some (Obj.cells cs 39 (0, 0))) : Lib.IsBuilderF 58 5 B b bs (w.setCell ⟨nb, i, none⟩ u) :=
  isB_keep h fun k ⟨cs', t, fz, hk, ht⟩ => Below.heap_setCell w _ u k (fun e => ht (by subst e; rw [hn] at hk; injection (Option.some.inj hk) with _ e2 _; exact e2.symm))
theorem set_blk {w : World} {g i : Nat} {cs : Array Value} {t : TypeId} {fz : Nat × Nat} {v : Value} (h : w.heap[g]? = some (.cells cs t fz)) : (w.setCell ⟨g, i, none⟩ v).heap[g]? = some (.cells (cs.setIfInBounds i v) t fz) := by
  rw [Go.Sort.setCell_eq]
  simp only [Go.Sort.mapBlock, Array.getElem?_modify, if_true, h, Option.map_some, Go.Sort.onCells]
theorem b_ne {B b gb : Nat} {bs : List Value} {w : World} {cs : Array Value} {fz : Nat × Nat} (h : Lib.IsBuilderF 58 5 B b bs w) (hg : w.heap[gb]? = some (.cells cs 39 fz)) : some gb ≠ some b := by
  intro e
  have e := Option.some.inj e
  subst e
  rcases h with ⟨_, v, hb, _⟩ | ⟨_, v, hb, _⟩
  · rw [hg] at hb; injection (Option.some.inj hb) with _ e2 _; exact absurd e2 (by decide)
  · rw [hg] at hb; injection (Option.some.inj hb) with _ e2 _; exact absurd e2 (by decide)
theorem kept_new {e : TypeId} {b : Option Nat} {a w : World} {p : Addr} {v : Value} (h : Lib.OthersKept e b a w) (hp : a.heap.size ≤ p.block) : Lib.OthersKept e b a (w.setCell p v) := by
  intro k x hk hb hx
  have hlt : k < a.heap.size := (Array.getElem?_eq_some_iff.1 hk).1
  rw [Below.heap_setCell _ _ _ _ (by omega)]
  exact h k x hk hb hx
theorem kept_below {e : TypeId} {b : Option Nat} {a w w1 : World} (h : Lib.OthersKept e b a w) (hb : Below w.heap.size w w1) : Lib.OthersKept e b a w1 := by
  intro k x hk hb' hx
  have h1 := h k x hk hb' hx
  rw [hb.block k (Array.getElem?_eq_some_iff.1 h1).1]
  exact h1
theorem below_new {B : Nat} {a w : World} {p : Addr} {v : Value} (h : Below B a w) (hp : B ≤ p.block) : Below B a (w.setCell p v) := h.setCell hp v

/-- Nodes in a row (the first of all, or not); g: what stands in brackets. -/
def wl (g : List S39 → Option (List UInt8)) : Bool → List S39 → Option (List UInt8)
  | _, [] => some []
  | first, x :: r =>
    (if x.f0.toList.isEmpty = true then (g x.f1).map (fun t => 40 :: (t ++ [41])) else some x.f0.data.toList).bind fun a =>
      (wl g false r).map fun b => (if first = true then [] else [32]) ++ (a ++ b)
/-- The nodes' text; the bound is on how deep they are nested. -/
def wr : Nat → List S39 → Option (List UInt8)
  | 0, _ => none
  | k + 1, l => wl (wr k) true l
theorem cells_app (a b : List UInt8) : Lib.byteCells a ++ Lib.byteCells b = Lib.byteCells (a ++ b) := by simp [Lib.byteCells]
theorem cells_one (c : UInt8) : ([.int .u8 (c.toNat : Int)] : List Value) = Lib.byteCells [c] := by simp [Lib.byteCells]
theorem cells_len (a : List UInt8) : (Lib.byteCells a).length = a.length := by simp [Lib.byteCells]
theorem str_cells (s : ByteArray) : Lib.strCells s = Lib.byteCells s.data.toList := by simp [Lib.strCells, Lib.byteCells]


/-- What a call of tree.write comes to, nested at most k deep. -/
def Writes (k : Nat) : Prop := ∀ (l : List S39) (t bs : List UInt8) (A : Option Addr) (c b : Nat) (w0 w : World), wr k l = some t → Kd.C k39 w0 A l.length l → l.length ≤ c → Below w0.heap.size w0 w → Lib.IsBuilderF 58 5 w0.heap.size b (Lib.byteCells bs) w → bs.length + t.length ≤ 140737488351232 →
    Calls Tryd.prog 21 #[.pointer (some ⟨b, 0, none⟩), .slice A l.length c] w fun e w' => e = .returned (.tuple #[]) ∧ Lib.IsBuilderF 58 5 w0.heap.size b (Lib.byteCells (bs ++ t)) w' ∧ Below w0.heap.size w0 w' ∧ Lib.OthersKept 5 (some b) w w' ∧ w.heap.size ≤ w'.heap.size
/-- The state of a round: the builder holds bs; the node's own variable lies in block gb. -/
structure Rnd (B b gb : Nat) (x : S39) (v : Value) (w0 w W : World) (bs : List UInt8) : Prop where
  isB : Lib.IsBuilderF 58 5 B b (Lib.byteCells bs) W
  below : Below B w0 W
  kept : Lib.OthersKept 5 (some b) w W
  size : w.heap.size ≤ W.heap.size
  blk : W.heap[gb]? = some (.cells #[.string x.f0, v, .int .i64 x.f2] 39 (0, 0))
theorem after_alloc {B b c1 : Nat} {x : S39} {A1 : Option Addr} {w0 w W : World} {bs : List UInt8} (hI : Lib.IsBuilderF 58 5 B b (Lib.byteCells bs) W) (hB : Below B w0 W) (hK : Lib.OthersKept 5 (some b) w W) (hB0 : B ≤ W.heap.size) (hz : w.heap.size ≤ W.heap.size) :
    Rnd B b W.heap.size x (.slice A1 x.f1.length c1) w0 w (W.alloc (.cells #[.string x.f0, .slice A1 x.f1.length c1, .int .i64 x.f2] 39)) bs := by
  have hb2 : Below W.heap.size W (W.alloc (.cells #[.string x.f0, .slice A1 x.f1.length c1, .int .i64 x.f2] 39)) := below_alloc (Below.refl _ _) _
  exact ⟨isB_below hI hb2, hB.trans ⟨hb2.os, hb2.tape, hb2.output, hb2.size, fun k hk => hb2.block k (Nat.lt_of_lt_of_le hk hB0)⟩, hK.alloc _, Nat.le_trans hz hb2.size, blk_new W _⟩
theorem Rnd.next {B b gb : Nat} {x : S39} {v : Value} {w0 w W W' : World} {bs bs' : List UInt8} (h : Rnd B b gb x v w0 w W bs) (hI : Lib.IsBuilderF 58 5 B b (Lib.byteCells bs') W') (hB : Below B W W') (hK : Lib.OthersKept 5 (some b) W W') : Rnd B b gb x v w0 w W' bs' :=
  ⟨hI, h.below.trans hB, h.kept.trans hK, Nat.le_trans h.size hB.size, hK gb _ h.blk (b_ne h.isB h.blk) (fun c fz e => by injection e with _ e2 _; exact absurd e2 (by decide))⟩
/-- .. behind a call that told Below from the elder world. -/
theorem Rnd.next' {B b gb : Nat} {x : S39} {v : Value} {w0 w W W' : World} {bs bs' : List UInt8} (h : Rnd B b gb x v w0 w W bs) (hI : Lib.IsBuilderF 58 5 B b (Lib.byteCells bs') W') (hB : Below B w0 W') (hK : Lib.OthersKept 5 (some b) W W') (hz : W.heap.size ≤ W'.heap.size) : Rnd B b gb x v w0 w W' bs' :=
  h.next hI ⟨hB.os.trans h.below.os.symm, hB.tape.trans h.below.tape.symm, hB.output.trans h.below.output.symm, hz, fun k hk => (hB.block k hk).trans (h.below.block k hk).symm⟩ hK
theorem Rnd.cells {B b gb : Nat} {x : S39} {v : Value} {w0 w W : World} {bs : List UInt8} (h : Rnd B b gb x v w0 w W bs) : W.cell? ⟨gb, 0, none⟩ = some (.string x.f0) ∧ W.cell? ⟨gb, 1, none⟩ = some v ∧ W.cell? ⟨gb, 2, none⟩ = some (.int .i64 x.f2) :=
  ⟨(blk_cell h.blk 0).trans rfl, (blk_cell h.blk 1).trans rfl, (blk_cell h.blk 2).trans rfl⟩
/-- WriteByte, WriteString in a round. -/
theorem Rnd.byte {B b gb : Nat} {x : S39} {v : Value} {w0 w W : World} {bs : List UInt8} (h : Rnd B b gb x v w0 w W bs) (ch : UInt8) (hl : bs.length + 1 ≤ 140737488351232) (hB : B ≤ w0.heap.size) :
    Calls Tryd.prog 27 #[.pointer (some ⟨b, 0, none⟩), .int .u8 (ch.toNat : Int)] W fun e W' => e = .returned .nilIface ∧ Rnd B b gb x v w0 w W' (bs ++ [ch]) := by
  refine (Tryd.WriteByteK B b (Lib.byteCells bs) (ch.toNat : Int) W h.isB (by rw [cells_len]; omega) (Nat.le_trans hB h.below.size)).mono ?_
  rintro e W' ⟨rfl, hI, hb, hk⟩
  exact ⟨rfl, h.next (by rw [← cells_app, ← cells_one]; exact .inr hI) hb hk⟩
theorem Rnd.str {B b gb : Nat} {x : S39} {v : Value} {w0 w W : World} {bs : List UInt8} (h : Rnd B b gb x v w0 w W bs) (s : ByteArray) (hl : bs.length + s.size ≤ 140737488351232) (hB : B ≤ w0.heap.size) :
    Calls Tryd.prog 28 #[.pointer (some ⟨b, 0, none⟩), .string s] W fun e W' => e = .returned (.tuple #[.int .i64 s.size, .nilIface]) ∧ Rnd B b gb x v w0 w W' (bs ++ s.data.toList) := by
  refine (Tryd.WriteStringK B b (Lib.byteCells bs) s W h.isB (by rw [cells_len]; omega) (Nat.le_trans hB h.below.size)).mono ?_
  rintro e W' ⟨rfl, hI, hb, hk⟩
  exact ⟨rfl, h.next (by rw [← cells_app, ← str_cells]; exact .inr hI) hb hk⟩
theorem Rnd.node {k : Nat} (ih : Writes k) {b gb c1 : Nat} {x : S39} {v : Value} {A1 : Option Addr} {w0 w W : World} {bs t : List UInt8} (h : Rnd w0.heap.size b gb x v w0 w W bs) (ht : wr k x.f1 = some t) (hC : Kd.C k39 w0 A1 x.f1.length x.f1) (hc : x.f1.length ≤ c1) (hl : bs.length + t.length ≤ 140737488351232) :
    Calls Tryd.prog 21 #[.pointer (some ⟨b, 0, none⟩), .slice A1 x.f1.length c1] W fun e W' => e = .returned (.tuple #[]) ∧ Rnd w0.heap.size b gb x v w0 w W' (bs ++ t) := by
  refine (ih x.f1 t bs A1 c1 b w0 W ht hC hc h.below h.isB hl).mono ?_
  rintro e W' ⟨rfl, hI, hb, hk, hz⟩
  exact ⟨rfl, h.next' hI hb hk hz⟩
theorem len_any {t pre sep a rest bs : List UInt8} (ht : t = pre ++ (sep ++ (a ++ rest))) (hlen : bs.length + t.length ≤ 140737488351232) : (bs ++ pre).length + (sep.length + a.length) ≤ 140737488351232 := by
  subst ht
  simp only [List.length_append] at *
  omega
theorem bt_len (s : ByteArray) : s.data.toList.length = s.size := by rw [Array.length_toList]; rfl
set_option maxHeartbeats 8000000 in
set_option maxRecDepth 100000 in
theorem writes : ∀ k, Writes k := by
  intro k
  induction k with
  | zero => intro l t bs A c b w0 w h; cases h
  | succ k ih =>
    intro l t bs A c b w0 w h hC hc hb hB hlen
    have h : wl (wr k) true l = some t := h
    have hu39 := Tryd.underlying39
    go_enter Tryd.func21, Tryd.ntmps21
    go_wp2
    go_loopg [8] (l.length + 1) (fun kq v8 w' => ∃ i : Nat, v8 = .int .i64 (i : Int) ∧ i + kq = l.length + 1 ∧ 1 ≤ kq ∧ Aside0 (∃ pre rest, t = pre ++ rest ∧ wl (wr k) (decide (i = 0)) (l.drop i) = some rest ∧ Lib.IsBuilderF 58 5 w0.heap.size b (Lib.byteCells (bs ++ pre)) w') ∧ Aside0 (Below w0.heap.size w0 w') ∧ Aside0 (Lib.OthersKept 5 (some b) w w') ∧ Aside0 (w.heap.size ≤ w'.heap.size))
    case atStart => exact ⟨0, rfl, by omega, by omega, ⟨[], t, rfl, h, by rw [List.append_nil]; exact hB⟩, ⟨hb⟩, ⟨Lib.OthersKept.refl _ _ _⟩, ⟨Nat.le_refl _⟩⟩
    case round =>
      obtain ⟨i, rfl, hi, hk, hs0, hb1, hk1, hz1⟩ := hrel
      by_cases hlt : i < l.length
      · obtain ⟨ad, A1, c1, hA, hv0, hv1, hv2, hl1, hg1⟩ := at_T39 hC (i : Int) (by omega) (by omega)
        subst hA
        have p0 : 0 ≤ (i : Int) := by omega
        have q0 : (i : Int) < (l.length : Int) := by omega
        have q1 : decide ((i : Int) < (l.length : Int)) = true := decide_eq_true q0
        have hx : rd_T39 l (i : Int) = l[i] := by simp [rd_T39, hlt]
        have hwi : wrap64 ((i : Int) + 1) = ((i + 1 : Nat) : Int) := by have := hC.2.1; unfold wrap64; omega
        simp only [Int.toNat_natCast] at hv0 hv1 hv2
        rw [hx] at hv0 hv1 hv2 hl1 hg1
        have hw0 := (hb1.out.cell (World.block_lt_of_cell? _ _ hv0)).trans hv0
        have hw1 := (hb1.out.cell (World.block_lt_of_cell? _ _ hv1)).trans hv1
        have hw2 := (hb1.out.cell (World.block_lt_of_cell? _ _ hv2)).trans hv2
        obtain ⟨pre, rest, ht, hr, hs⟩ := hs0.out
        rw [List.drop_eq_getElem_cons hlt] at hr
        clear hv0 hv1 hv2 hs0
        generalize hxx : l[i] = x at *
        unfold wl at hr
        obtain ⟨a1, ha1, hr⟩ := Option.bind_eq_some_iff.mp hr
        obtain ⟨b1, hb1', hr⟩ := Option.map_eq_some_iff.mp hr
        subst hr
        have HL := Aside0.mk (len_any ht hlen)
        have P3 := Aside0.mk (after_alloc (x := x) (A1 := A1) (c1 := c1) hs hb1.out hk1.out hb1.out.size hz1.out)
        have HC := Aside0.mk hg1
        have HL1 := Aside0.mk hl1
        have HR := Aside0.mk ha1
        have HN := Aside0.mk hb1'
        have HT := Aside0.mk ht
        have HI := Aside0.mk hi
        clear ha1 hb1' ht hs hg1 hl1 hxx hi hx hlen
        -- behind the round
        have fin : ∀ W : World, Rnd w0.heap.size b wr.heap.size x (.slice A1 x.f1.length c1) w0 w W (bs ++ (pre ++ ((if decide (i = 0) = true then [] else [32]) ++ a1))) →
            Aside0 (∃ pre rest, t = pre ++ rest ∧ wl (Text.wr k) (decide (i + 1 = 0)) (l.drop (i + 1)) = some rest ∧ Lib.IsBuilderF 58 5 w0.heap.size b (Lib.byteCells (bs ++ pre)) W) ∧ Aside0 (Below w0.heap.size w0 W) ∧ Aside0 (Lib.OthersKept 5 (some b) w W) ∧ Aside0 (w.heap.size ≤ W.heap.size) := fun W hR =>
          ⟨⟨_, b1, by rw [HT.out]; simp only [List.append_assoc], by rw [decide_eq_false (by omega)]; exact HN.out, hR.isB⟩, ⟨hR.below⟩, ⟨hR.kept⟩, ⟨hR.size⟩⟩
        have FIN := Aside0.mk fin
        clear fin
        by_cases hi0 : i = 0
        · have z0 : decide (0 < i) = false := decide_eq_false (by omega)
          rw [if_pos (by simpa using hi0)] at HL FIN
          have HI0 := Aside0.mk hi0
          clear hi0
          by_cases he : x.f0.toList.isEmpty = true
          · obtain ⟨t1, ht1, e1⟩ := Option.map_eq_some_iff.mp (show (Text.wr k x.f1).map (fun t => 40 :: (t ++ [41])) = some a1 by have := HR.out; rwa [if_pos he] at this)
            have HA := Aside0.mk (And.intro ht1 e1)
            have HL2 := Aside0.mk (show (bs ++ pre).length + (t1.length + 2) ≤ 140737488351232 by have := HL.out; rw [← e1] at this; simp only [List.length_append, List.length_cons, List.length_nil] at this ⊢; omega)
            clear ht1 e1
            go_wp2_with (first | (go_at_call 27; refine (P5.out.byte 41 (by have := HL2.out; simp only [List.length_append, List.length_cons, List.length_nil] at this ⊢; omega) (Nat.le_refl _)).mono ?_; rintro e w6 ⟨rfl, hP6⟩; have P6 := Aside0.mk hP6; clear hP6) | (go_at_call 21; refine (P4.out.node ih HA.out.1 HC.out HL1.out (by have := HL2.out; simp only [List.length_append, List.length_cons, List.length_nil] at this ⊢; omega)).mono ?_; rintro e w5 ⟨rfl, hP5⟩; have P5 := Aside0.mk hP5; clear hP5) | (go_at_call 27; refine (P3.out.byte 40 (by have := HL2.out; omega) (Nat.le_refl _)).mono ?_; rintro e w4 ⟨rfl, hP4⟩; have P4 := Aside0.mk hP4; obtain ⟨hq0, hq1, hq2⟩ := hP4.cells; clear hP4))
            go_roundg (gk - 1)
            case measure => omega
            case rel =>
              refine ⟨i + 1, by rw [hwi], by have := HI.out; omega, by have := HI.out; omega, FIN.out _ ?_⟩
              have := P6.out
              rw [← HA.out.2]
              simpa using this
          · have he' : x.f0.toList.isEmpty = false := by simpa using he
            have e2 : a1 = x.f0.data.toList := (Option.some.inj (by have := HR.out; rwa [if_neg he] at this)).symm
            have HA := Aside0.mk e2
            clear e2
            go_wp2_with (first | (go_at_call 28; refine (P3.out.str x.f0 (by have := HL.out; rw [HA.out, bt_len] at this; simp only [List.length_nil] at this; omega) (Nat.le_refl _)).mono ?_; rintro e w4 ⟨rfl, hP4⟩; have P4 := Aside0.mk hP4; clear hP4))
            go_roundg (gk - 1)
            case measure => omega
            case rel =>
              refine ⟨i + 1, by rw [hwi], by have := HI.out; omega, by have := HI.out; omega, FIN.out _ ?_⟩
              have := P4.out
              rw [← HA.out] at this
              simpa using this
        · have z0 : decide (0 < i) = true := decide_eq_true (by omega)
          rw [if_neg (by simpa using hi0)] at HL FIN
          have HI0 := Aside0.mk hi0
          clear hi0
          by_cases he : x.f0.toList.isEmpty = true
          · obtain ⟨t1, ht1, e1⟩ := Option.map_eq_some_iff.mp (show (Text.wr k x.f1).map (fun t => 40 :: (t ++ [41])) = some a1 by have := HR.out; rwa [if_pos he] at this)
            have HA := Aside0.mk (And.intro ht1 e1)
            have HL2 := Aside0.mk (show (bs ++ pre).length + (t1.length + 3) ≤ 140737488351232 by have := HL.out; rw [← e1] at this; simp only [List.length_append, List.length_cons, List.length_nil] at this ⊢; omega)
            clear ht1 e1
            go_wp2_with (first | (go_at_call 27; refine (P5.out.byte 41 (by have := HL2.out; simp only [List.length_append, List.length_cons, List.length_nil] at this ⊢; omega) (Nat.le_refl _)).mono ?_; rintro e w6 ⟨rfl, hP6⟩; have P6 := Aside0.mk hP6; clear hP6) | (go_at_call 21; refine (P4.out.node ih HA.out.1 HC.out HL1.out (by have := HL2.out; simp only [List.length_append, List.length_cons, List.length_nil] at this ⊢; omega)).mono ?_; rintro e w5 ⟨rfl, hP5⟩; have P5 := Aside0.mk hP5; clear hP5) | (go_at_call 27; refine (P3b.out.byte 40 (by have := HL2.out; simp only [List.length_append, List.length_cons, List.length_nil] at this ⊢; omega) (Nat.le_refl _)).mono ?_; rintro e w4 ⟨rfl, hP4⟩; have P4 := Aside0.mk hP4; obtain ⟨hq0, hq1, hq2⟩ := hP4.cells; clear hP4) | (go_at_call 27; refine (P3.out.byte 32 (by have := HL2.out; omega) (Nat.le_refl _)).mono ?_; rintro e w3 ⟨rfl, hP3⟩; have P3b := Aside0.mk hP3; obtain ⟨hp0, hp1, hp2⟩ := hP3.cells; clear hP3))
            go_roundg (gk - 1)
            case measure => omega
            case rel =>
              refine ⟨i + 1, by rw [hwi], by have := HI.out; omega, by have := HI.out; omega, FIN.out _ ?_⟩
              have := P6.out
              rw [← HA.out.2]
              simpa using this
          · have he' : x.f0.toList.isEmpty = false := by simpa using he
            have e2 : a1 = x.f0.data.toList := (Option.some.inj (by have := HR.out; rwa [if_neg he] at this)).symm
            have HA := Aside0.mk e2
            have HL2 := Aside0.mk (show (bs ++ pre).length + (x.f0.size + 1) ≤ 140737488351232 by have := HL.out; rw [e2, bt_len] at this; simp only [List.length_cons, List.length_nil] at this; omega)
            clear e2
            go_wp2_with (first | (go_at_call 28; refine (P3b.out.str x.f0 (by have := HL2.out; simp only [List.length_append, List.length_cons, List.length_nil] at this ⊢; omega) (Nat.le_refl _)).mono ?_; rintro e w4 ⟨rfl, hP4⟩; have P4 := Aside0.mk hP4; clear hP4) | (go_at_call 27; refine (P3.out.byte 32 (by have := HL2.out; omega) (Nat.le_refl _)).mono ?_; rintro e w3 ⟨rfl, hP3⟩; have P3b := Aside0.mk hP3; obtain ⟨hp0, hp1, hp2⟩ := hP3.cells; clear hP3))
            go_roundg (gk - 1)
            case measure => omega
            case rel =>
              refine ⟨i + 1, by rw [hwi], by have := HI.out; omega, by have := HI.out; omega, FIN.out _ ?_⟩
              have := P4.out
              rw [← HA.out] at this
              simpa using this
      · have q0 : decide ((i : Int) < (l.length : Int)) = false := decide_eq_false (by omega)
        obtain ⟨pre, rest, ht, hr, hB2⟩ := hs0.out
        rw [List.drop_eq_nil_of_le (by omega)] at hr
        obtain rfl := Option.some.inj hr
        rw [List.append_nil] at ht
        subst ht
        clear hs0
        go_wp2
        go_end0
        exact ⟨rfl, hB2, hb1.out, hk1.out, hz1.out⟩

/-- The text of nodes that are nested less than ten deep. -/
def tree_Text.f (l0 : List S39) : Option ByteArray := (wr 10 l0).bind fun t => if t.length ≤ 140737488351232 then some ⟨t.toArray⟩ else none
set_option maxHeartbeats 8000000 in
set_option maxRecDepth 100000 in
theorem tree_Text.calls (A0 : Option Addr) (c0 : Nat) (l0 : List S39) (r : ByteArray) (w : World) (hr0 : Kd.C k39 w A0 l0.length l0) (hc0 : l0.length ≤ c0) (h : tree_Text.f l0 = some r) :
    Calls Tryd.prog 14 #[.slice A0 l0.length c0] w fun e w' => e = .returned (.string r) ∧ Below w.heap.size w w' := by
  unfold tree_Text.f at h
  obtain ⟨t, ht, h⟩ := Option.bind_eq_some_iff.mp h
  by_cases hl : t.length ≤ 140737488351232
  · rw [if_pos hl] at h
    obtain rfl := Option.some.inj h
    have hb : Below w.heap.size w (w.alloc (.cells #[.pointer none, .slice none 0 0] 58)) := below_alloc (Below.refl _ _) _
    have hI : Lib.IsBuilderF 58 5 w.heap.size w.heap.size (Lib.byteCells []) (w.alloc (.cells #[.pointer none, .slice none 0 0] 58)) :=
      .inl ⟨Nat.le_refl _, .slice none 0 0, blk_new w _, World.ownsRowF_nil _ _ _ _, by simp [Value.ownBlock]⟩
    have hwr := writes 10 l0 t [] A0 c0 w.heap.size w _ ht hr0 hc0 hb hI (by simpa using hl)
    have hst := fun (W : World) (h : Lib.IsBuilderF 58 5 w.heap.size w.heap.size (Lib.byteCells ([] ++ t)) W) (h2 : w.heap.size ≤ W.heap.size) => Tryd.StringK w.heap.size w.heap.size ([] ++ t) W h h2
    clear hI h ht
    go_enter Tryd.func14, Tryd.ntmps14
    go_wp2_with (first | (go_at_call 21; refine hwr.mono ?_; rintro e w1 ⟨rfl, hI1, hb1, hk1, hz1⟩) | (go_at_call 22; refine (hst _ hI1 hb1.size).mono ?_; rintro e w2 ⟨rfl, hI2, hb2, hk2⟩))
    go_ret
    exact ⟨rfl, hb1.trans hb2⟩
  · rw [if_neg hl] at h
    cases h
end Go.Proofs.YthbiofcgaegjkaaDoor.Text
