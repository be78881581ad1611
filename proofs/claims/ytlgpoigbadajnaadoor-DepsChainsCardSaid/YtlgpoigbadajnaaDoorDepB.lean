/- scope.Def. No condition beyond those that each states. -/
import Derived.Test.YtlgpoigbadajnaaDoorDepA
import Derived.Laws.Strings
namespace Go.Proofs.YtlgpoigbadajnaaDoor.DepA
open Go.RowKit Go.Proofs.YtlgpoigbadajnaaDoorW.PrintWords Go.Proofs.YtlgpoigbadajnaaDoorW.PrintLast Go.Proofs.YtlgpoigbadajnaaDoorW.PrintMore Go.Proofs.YtlgpoigbadajnaaDoor.PDepA
attribute [local go_sem] max2_int max_two
set_option linter.unusedVariables false
set_option linter.unusedSimpArgs false
theorem at_d {w0 wr : World} (hB : Below w0.heap.size w0 wr) {A : Option Addr} {l : List S34} (hC : Kd.C k34 w0 A l.length l) (i : Nat) (hi : i < l.length) :
    ∃ ad A1 c1 A3 c3 A4 c4 A5 c5, A = some ad ∧ wr.cell? (ad.add (i * 8)) = some (.string l[i].f0) ∧ wr.cell? ⟨(ad.add (i * 8)).block, (ad.add (i * 8)).off + 1, none⟩ = some (.slice A1 l[i].f1.length c1) ∧ wr.cell? ⟨(ad.add (i * 8)).block, (ad.add (i * 8)).off + 2, none⟩ = some (.int .i64 l[i].f2.f0) ∧ wr.cell? ⟨(ad.add (i * 8)).block, (ad.add (i * 8)).off + 3, none⟩ = some (.string l[i].f2.f1) ∧ wr.cell? ⟨(ad.add (i * 8)).block, (ad.add (i * 8)).off + 4, none⟩ = some (.int .i64 l[i].f2.f2) ∧ wr.cell? ⟨(ad.add (i * 8)).block, (ad.add (i * 8)).off + 5, none⟩ = some (.slice A3 l[i].f2.f3.length c3) ∧ wr.cell? ⟨(ad.add (i * 8)).block, (ad.add (i * 8)).off + 6, none⟩ = some (.slice A4 l[i].f2.f4.length c4) ∧ wr.cell? ⟨(ad.add (i * 8)).block, (ad.add (i * 8)).off + 7, none⟩ = some (.slice A5 l[i].f2.f5.length c5) ∧
      Kd.C Kd.string w0 A1 l[i].f1.length l[i].f1 ∧ Kd.C Kd.string w0 A3 l[i].f2.f3.length l[i].f2.f3 ∧ Kd.C k29 w0 A4 l[i].f2.f4.length l[i].f2.f4 ∧ Kd.C k88 w0 A5 l[i].f2.f5.length l[i].f2.f5 := by
  obtain ⟨ad, A1, c1, A3, c3, A4, c4, A5, c5, e, h0, h1, h2, h3, h4, h5, h6, h7, _, g1, _, g3, _, g4, _, g5⟩ := at_T34 hC (i : Int) (by omega) (by omega)
  have hx : rd_T34 l (i : Int) = l[i] := by simp [rd_T34, hi]
  rw [hx] at h0 h1 h2 h3 h4 h5 h6 h7 g1 g3 g4 g5
  simp only [Int.toNat_natCast] at h0 h1 h2 h3 h4 h5 h6 h7
  have T : ∀ {a : Addr} {u : Value}, w0.cell? a = some u → wr.cell? a = some u := fun h => (hB.cell (World.block_lt_of_cell? _ _ h)).trans h
  exact ⟨ad, A1, c1, A3, c3, A4, c4, A5, c5, e, T h0, T h1, T h2, T h3, T h4, T h5, T h6, T h7, g1, g3, g4, g5⟩
/-- The first place where a name is defined, or -1. -/
def dix : List S34 → ByteArray → Nat → Int
  | [], _, _ => -1
  | d :: l, nm, i => if d.f0 = nm then (i : Int) else dix l nm (i + 1)
theorem dix_drop {l : List S34} {i : Nat} (h : i < l.length) (nm : ByteArray) : dix (l.drop i) nm i = if l[i].f0 = nm then (i : Int) else dix (l.drop (i + 1)) nm (i + 1) := by rw [List.drop_eq_getElem_cons h]; rfl
theorem dix_bd : ∀ (l : List S34) (nm : ByteArray) (i : Nat), -1 ≤ dix l nm i ∧ dix l nm i < (i : Int) + l.length
  | [], nm, i => by simp only [dix, List.length_nil]; omega
  | d :: l, nm, i => by
    have := dix_bd l nm (i + 1)
    by_cases h : d.f0 = nm
    · simp only [dix, if_pos h, List.length_cons]; omega
    · simp only [dix, if_neg h, List.length_cons]; omega
theorem tl_data (s : ByteArray) : s.toList = s.data.toList := by
  have := ByteArray.toList_mk s.data.toList
  simpa using this
theorem tl_beq (s t : ByteArray) : (s.toList == t.toList) = decide (s = t) := by
  rw [tl_data, tl_data]
  by_cases h : s = t
  · subst h; simp
  · rw [decide_eq_false h]
    have : ¬ s.data.toList = t.data.toList := fun e => h (ByteArray.ext (Array.toList_inj.1 e))
    simpa using this
set_option maxHeartbeats 2000000 in
theorem def1_calls (w : World) (x0 nm : ByteArray) (v1 v2 v3 v4 v5 v6 v7 : Value) (h1 : v1.cells = #[v1]) (nb : Nat) (hx : w.cell? ⟨nb, 0, none⟩ = some (.string nm)) :
    Calls Tryd.prog 75 #[.agg #[.string x0, v1, v2, v3, v4, v5, v6, v7], .pointer (some ⟨nb, 0, none⟩)] w fun e w' => e = .returned (.bool (decide (x0 = nm))) ∧ Below w.heap.size w w' := by
  have hx2 := (World.cell?_alloc_lt w (.cells #[.string x0, v1, v2, v3, v4, v5, v6, v7] 34) _ (World.block_lt_of_cell? _ _ hx)).trans hx
  clear hx
  go_enter Tryd.func75, Tryd.ntmps75
  go_wp2
  go_ret
  exact ⟨by show Ending.returned (.bool (x0.toList == nm.toList)) = _; rw [tl_beq], below_alloc (Below.refl _ _) _⟩
set_option maxHeartbeats 4000000 in
set_option maxRecDepth 100000 in
theorem index_calls {w0 w : World} (hB : Below w0.heap.size w0 w) (l : List S34) (nm : ByteArray) {A : Option Addr} {c : Nat} (hC : Kd.C k34 w0 A l.length l) (nb : Nat) (hx : w.cell? ⟨nb, 0, none⟩ = some (.string nm)) :
    Calls Tryd.prog 74 #[.slice A l.length c, .func (.func 75) #[] #[.pointer (some ⟨nb, 0, none⟩)]] w fun e w' => e = .returned (.int .i64 (dix l nm 0)) ∧ Below w.heap.size w w' := by
  have hB9 := Aside0.mk hB
  have hC9 := Aside0.mk hC
  have hx9 := Aside0.mk hx
  have hlen := hC.2.1
  clear hB hC hx
  go_enter Tryd.func74, Tryd.ntmps74
  go_wp2
  go_loopg [8] (l.length + 1) (fun kq v8 w' => ∃ (i : Nat), v8 = .int .i64 (i : Int) ∧ i + kq = l.length + 1 ∧ 1 ≤ kq ∧ Aside0 (dix (l.drop i) nm i = dix l nm 0) ∧ Aside0 (Below w.heap.size w w'))
  case atStart => exact ⟨0, rfl, by omega, by omega, ⟨rfl⟩, ⟨Below.refl _ _⟩⟩
  case round =>
    obtain ⟨i, rfl, hi, hk, hs, hb⟩ := hrel
    by_cases hlt : i < l.length
    · obtain ⟨ad, A1, c1, A3, c3, A4, c4, A5, c5, rfl, hv0, hv1, hv2, hv3, hv4, hv5, hv6, hv7, _, _, _, _⟩ := at_d (hB9.out.trans (hb.out.mono hB9.out.size)) hC9.out i hlt
      have p0 : (0 : Int) ≤ (i : Int) := by omega
      have q0 : (i : Int) < (l.length : Int) := by omega
      have q1 : decide ((i : Int) < (l.length : Int)) = true := decide_eq_true q0
      have hd := Aside0.mk (dix_drop hlt nm)
      have C := def1_calls wr l[i].f0 nm (.slice A1 l[i].f1.length c1) (.int .i64 l[i].f2.f0) (.string l[i].f2.f1) (.int .i64 l[i].f2.f2) (.slice A3 l[i].f2.f3.length c3) (.slice A4 l[i].f2.f4.length c4) (.slice A5 l[i].f2.f5.length c5) rfl nb ((hb.out.cell (World.block_lt_of_cell? _ _ hx9.out)).trans hx9.out)
      generalize l[i] = d at *
      by_cases y1 : d.f0 = nm
      · rw [decide_eq_true y1] at C
        have hr := Aside0.mk (show dix l nm 0 = (i : Int) by rw [← hs.out, hd.out, if_pos y1])
        clear y1
        go_wp2_with (first | (go_at_call 75; go_loud (with_reducible refine C.mono ?_); rintro e w1 ⟨rfl, hb1⟩; have HB1 := Aside0.mk (below_step hb.out hb1); clear hb1 C))
        go_ret
        exact ⟨by rw [hr.out]; rfl, HB1.out⟩
      · rw [decide_eq_false y1] at C
        have hr := Aside0.mk (show dix (l.drop (i + 1)) nm (i + 1) = dix l nm 0 by rw [← hs.out, hd.out, if_neg y1])
        clear y1
        go_wp2_with (first | (go_at_call 75; go_loud (with_reducible refine C.mono ?_); rintro e w1 ⟨rfl, hb1⟩; have HB1 := Aside0.mk (below_step hb.out hb1); clear hb1 C))
        go_roundg (gk - 1)
        case measure => omega
        case rel => exact ⟨i + 1, by go_num, by omega, by omega, hr, HB1⟩
    · have q1 : decide ((i : Int) < (l.length : Int)) = false := decide_eq_false (by omega)
      have hr := Aside0.mk (show dix l nm 0 = -1 by rw [← hs.out, List.drop_eq_nil_of_le (by omega)]; rfl)
      go_wp2
      go_ret
      exact ⟨by rw [hr.out]; rfl, hb.out⟩
set_option maxHeartbeats 4000000 in
set_option maxRecDepth 100000 in
theorem def_calls {w0 w : World} (hB : Below w0.heap.size w0 w) (l : List S34) (nm : ByteArray) (vd : Value) (hvd : ∃ A n c, vd = .slice A n c) {A : Option Addr} {c : Nat} (hC : Kd.C k34 w0 A l.length l) :
    Calls Tryd.prog 60 #[.agg #[vd, .slice A l.length c], .string nm] w fun e w' => e = .returned (.tuple #[.int .i64 (if dix l nm 0 < 0 then 0 else dix l nm 0), .bool (decide (0 ≤ dix l nm 0))]) ∧ Below w.heap.size w w' := by
  obtain ⟨Ad, nd, cd, rfl⟩ := hvd
  have hb2 := below_alloc (below_alloc (Below.refl w.heap.size w) (.cells #[.slice Ad nd cd, .slice A l.length c] 38)) (.cells #[.string nm] 9)
  have hx := (blk_cell (blk_new (w.alloc (.cells #[.slice Ad nd cd, .slice A l.length c] 38)) (.cells #[.string nm] 9 (0, 0))) 0).trans rfl
  rw [show (w.alloc (.cells #[.slice Ad nd cd, .slice A l.length c] 38)).heap.size = w.heap.size + 1 from Array.size_push _] at hx
  have C := index_calls (hB.trans (hb2.mono hB.size)) l nm hC (c := c) (w.heap.size + 1) hx
  have hbd := dix_bd l nm 0
  have hlen := hC.2.1
  have hb2 := Aside0.mk hb2
  generalize dix l nm 0 = r at *
  clear hB hC hx
  go_enter Tryd.func60, Tryd.ntmps60
  go_wp2_with (first | (go_at_call 74; go_loud (with_reducible refine C.mono ?_); rintro e w1 ⟨rfl, hb1⟩; have HB1 := Aside0.mk (below_step hb2.out hb1); clear hb1 C))
  all_goals go_ret2
  all_goals exact ⟨rfl, HB1.out⟩
end Go.Proofs.YtlgpoigbadajnaaDoor.DepA
