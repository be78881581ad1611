/- What the calls of gristmillsee.Fault come to, at nil and at one of api's errors. Condition: the 18 variables hold errors, each its own ('ad' tells where an error of api's lies, by its number). -/
import Derived.Test.YthbiofcgaegjkaaDoorRows
import Derived.Test.YthbiofcgaegjkaaDoorWWords
import Derived.Tactics
import Derived.Tactics2
import Derived.Laws.Pointers
import Derived.LaidEql
import Derived.MakeChecks
import Derived.Stop.LaidErr
import Derived.LaidLaws
import Derived.Test.YthbiofcgaegjkaaDoorWLast
import Derived.Test.YthbiofcgaegjkaaDoorWMore
import Derived.Laws.MakeOwn
import Derived.Laws.OwnMore
import Derived.Deep.OwnRows
import Derived.Deep.DeepCutAuto
import Derived.Deep.LoopGhost
import Derived.Deep.QuietTactic
import Derived.BigQuiet
import Derived.WalkKit
namespace Go.Proofs.YthbiofcgaegjkaaDoor.See
open Go.RowKit Go.Proofs.YthbiofcgaegjkaaDoorW.PrintWords Go.Proofs.YthbiofcgaegjkaaDoorW.PrintLast Go.Proofs.YthbiofcgaegjkaaDoorW.PrintMore
set_option linter.unusedVariables false

/-- An error as it lies in memory: nil, or a pointer to where 'ad' tells. -/
def errW (ad : Int → Addr) : Option Int → Value
  | none => .nilIface
  | some c => .iface 74 (.pointer (some (ad c)))
theorem errW_none (ad : Int → Addr) : errW ad none = .nilIface := rfl
theorem errW_some (ad : Int → Addr) (c : Int) : errW ad (some c) = .iface 74 (.pointer (some (ad c))) := rfl

/-! ### gristmillref_Bare: function 25 -/
def gristmillref_Bare.f (a0 : Int) : Option (Int × Bool × Int) := some (a0, false, 0)
set_option maxHeartbeats 8000000 in
set_option maxRecDepth 100000 in
theorem gristmillref_Bare.calls (a0 : Int) (r1 : Int) (r2 : Bool) (r3 : Int) (w : World) (h : gristmillref_Bare.f a0 = some (r1, r2, r3)) :
    Calls Tryd.prog 25 #[.int .i64 a0] w fun e w' => e = .returned (.agg #[.int .i64 r1, .bool r2, .int .i64 r3]) ∧ Below w.heap.size w w' := by
  have huF := Tryd.underlying33
  have HB := Aside0.mk (Below.refl w.heap.size w)
  have H : (some (a0, false, 0)) = some (r1, r2, r3) := h
  clear h
  simp only [Option.some.injEq, Prod.mk.injEq] at H
  obtain ⟨rfl, rfl, rfl⟩ := H
  go_enter Tryd.func25, Tryd.ntmps25
  go_wp2_with (first | ((with_reducible refine gate_dst (N := 2) rfl ?_); refine box_event ?hg (N := 2) ?hd (cs := #[.int .i64 0, .bool false, .int .i64 0]) (t := 33) ?hr ?_; (case hd => rfl); (case hg => rfl); (case hr => first | (go_simp; done) | (go_simp; rfl)); intro gb127 hg w2 hbox hb; have n0_ := Aside0.mk (below_step (by repeat (first | (with_reducible first | exact HB.out | apply below_alloc | apply pw_below_drewN | apply below_drew1) | exact HB.out)) hb); have n1_ := Aside0.mk (hbox); have n2_ := Aside0.mk ((by rw [hg]; exact (below_size (by repeat (first | (with_reducible first | exact HB.out | apply below_alloc | apply pw_below_drewN | apply below_drew1) | exact HB.out))) : w.heap.size ≤ gb127)); have n3_ := Aside0.mk ((by rw [hg]; exact (below_size (by repeat (first | (with_reducible first | exact HB.out | apply below_alloc | apply pw_below_drewN | apply below_drew1) | exact HB.out))) : w.heap.size ≤ gb127)); clear HB; have HB := n0_; have BK127 := n1_; have GW127 := n2_; have GE127 := n3_; clear n0_ n1_ n2_ n3_; clear hb hbox hg; have hcz3_0 : w2.cell? ⟨gb127, 0, none⟩ = some (.int .i64 0) := (blk_cell BK127.out 0).trans rfl; have hcz3_1 : w2.cell? ⟨gb127, 1, none⟩ = some (.bool false) := (blk_cell BK127.out 1).trans rfl; have hcz3_2 : w2.cell? ⟨gb127, 2, none⟩ = some (.int .i64 0) := (blk_cell BK127.out 2).trans rfl; have hfz3_0 := blk_frozen BK127.out 0; have hfz3_1 := blk_frozen BK127.out 1; have hfz3_2 := blk_frozen BK127.out 2))
  refine bodyPost_ret (results_cell_row rfl _ _ gb127 33 #[.int .i64 a0, .bool false, .int .i64 0] (0, 0) _ rfl (by (with_reducible repeat (first | refine blk_drewN ?_ _ | refine blk_drew ?_ | refine blk_alloc ?_ _)); refine blk_put (cs := #[.int .i64 a0, .bool false, .int .i64 0]) ?_ 2 _ rfl; (with_reducible repeat (first | refine blk_drewN ?_ _ | refine blk_drew ?_ | refine blk_alloc ?_ _)); refine blk_put (cs := #[.int .i64 a0, .bool false, .int .i64 0]) ?_ 1 _ rfl; (with_reducible repeat (first | refine blk_drewN ?_ _ | refine blk_drew ?_ | refine blk_alloc ?_ _)); refine blk_put (cs := #[.int .i64 0, .bool false, .int .i64 0]) ?_ 0 _ rfl; (with_reducible repeat (first | refine blk_drewN ?_ _ | refine blk_drew ?_ | refine blk_alloc ?_ _)); exact BK127.out) Tryd.underlying33 rfl (by kernel_rfl)) rfl ?_
  exact ⟨by first | rfl | (simp <;> rfl) | (simp [*] <;> rfl) | (simp <;> (rw [Bool.eq_iff_iff]; simp; done)), by repeat (first | (with_reducible first | exact HB.out | apply below_alloc | apply pw_below_drewN | apply below_drew1 | refine below_set ?_ GE127.out) | exact HB.out)⟩

/-! ### gristmillref_None: function 18 -/
def gristmillref_None.f  : Option (Int × Bool × Int) := some (0, false, 0)
set_option maxHeartbeats 8000000 in
set_option maxRecDepth 100000 in
theorem gristmillref_None.calls  (r1 : Int) (r2 : Bool) (r3 : Int) (w : World) (h : gristmillref_None.f  = some (r1, r2, r3)) :
    Calls Tryd.prog 18 #[] w fun e w' => e = .returned (.agg #[.int .i64 r1, .bool r2, .int .i64 r3]) ∧ Below w.heap.size w w' := by
  have huF := Tryd.underlying33
  have HB := Aside0.mk (Below.refl w.heap.size w)
  have H : (some (0, false, 0)) = some (r1, r2, r3) := h
  clear h
  simp only [Option.some.injEq, Prod.mk.injEq] at H
  obtain ⟨rfl, rfl, rfl⟩ := H
  go_enter Tryd.func18, Tryd.ntmps18
  go_wp2_with (first | ((with_reducible refine gate_dst (N := 0) rfl ?_); refine box_event ?hg (N := 0) ?hd (cs := #[.int .i64 0, .bool false, .int .i64 0]) (t := 33) ?hr ?_; (case hd => rfl); (case hg => rfl); (case hr => first | (go_simp; done) | (go_simp; rfl)); intro gb128 hg w1 hbox hb; have n0_ := Aside0.mk (below_step (by repeat (first | (with_reducible first | exact HB.out | apply below_alloc | apply pw_below_drewN | apply below_drew1) | exact HB.out)) hb); have n1_ := Aside0.mk (hbox); have n2_ := Aside0.mk ((by rw [hg]; exact (below_size (by repeat (first | (with_reducible first | exact HB.out | apply below_alloc | apply pw_below_drewN | apply below_drew1) | exact HB.out))) : w.heap.size ≤ gb128)); have n3_ := Aside0.mk ((by rw [hg]; exact (below_size (by repeat (first | (with_reducible first | exact HB.out | apply below_alloc | apply pw_below_drewN | apply below_drew1) | exact HB.out))) : w.heap.size ≤ gb128)); clear HB; have HB := n0_; have BK128 := n1_; have GW128 := n2_; have GE128 := n3_; clear n0_ n1_ n2_ n3_; clear hb hbox hg; have hcz2_0 : w1.cell? ⟨gb128, 0, none⟩ = some (.int .i64 0) := (blk_cell BK128.out 0).trans rfl; have hcz2_1 : w1.cell? ⟨gb128, 1, none⟩ = some (.bool false) := (blk_cell BK128.out 1).trans rfl; have hcz2_2 : w1.cell? ⟨gb128, 2, none⟩ = some (.int .i64 0) := (blk_cell BK128.out 2).trans rfl; have hfz2_0 := blk_frozen BK128.out 0; have hfz2_1 := blk_frozen BK128.out 1; have hfz2_2 := blk_frozen BK128.out 2))
  refine bodyPost_ret (results_cell_row rfl _ _ gb128 33 #[.int .i64 0, .bool false, .int .i64 0] (0, 0) _ rfl (by (with_reducible repeat (first | refine blk_drewN ?_ _ | refine blk_drew ?_ | refine blk_alloc ?_ _)); refine blk_put (cs := #[.int .i64 0, .bool false, .int .i64 0]) ?_ 2 _ rfl; (with_reducible repeat (first | refine blk_drewN ?_ _ | refine blk_drew ?_ | refine blk_alloc ?_ _)); refine blk_put (cs := #[.int .i64 0, .bool false, .int .i64 0]) ?_ 1 _ rfl; (with_reducible repeat (first | refine blk_drewN ?_ _ | refine blk_drew ?_ | refine blk_alloc ?_ _)); refine blk_put (cs := #[.int .i64 0, .bool false, .int .i64 0]) ?_ 0 _ rfl; (with_reducible repeat (first | refine blk_drewN ?_ _ | refine blk_drew ?_ | refine blk_alloc ?_ _)); exact BK128.out) Tryd.underlying33 rfl (by kernel_rfl)) rfl ?_
  exact ⟨by first | rfl | (simp <;> rfl) | (simp [*] <;> rfl) | (simp <;> (rw [Bool.eq_iff_iff]; simp; done)), by repeat (first | (with_reducible first | exact HB.out | apply below_alloc | apply pw_below_drewN | apply below_drew1 | refine below_set ?_ GE128.out) | exact HB.out)⟩


theorem isComp : (Tryd.prog.info? 74).map (·.comparable) = some true := by kernel_rfl
theorem isSize : (Tryd.prog.info? 90).map (·.size) = some 1 := by kernel_rfl
/-- Which variable holds the error of a number. -/
def gl (c : Int) : Nat := match c with
  | 101 => 4
  | 102 => 5
  | 103 => 6
  | 104 => 3
  | 105 => 0
  | 106 => 2
  | 107 => 1
  | 108 => 7
  | 109 => 8
  | 110 => 9
  | 111 => 10
  | 112 => 11
  | 113 => 12
  | 114 => 13
  | 115 => 14
  | 116 => 15
  | 117 => 16
  | 118 => 17
  | _ => 0
/-- The 18 variables hold errors, each its own. -/
structure GS (ad : Int → Addr) (w : World) : Prop where
  cell : ∀ c : Int, 101 ≤ c → c ≤ 118 → w.cell? ⟨gl c, 0, none⟩ = some (.iface 74 (.pointer (some (ad c))))
  blk : ∀ c : Int, 101 ≤ c → c ≤ 118 → ∃ ca ta, w.heap[(ad c).block]? = some (.cells ca ta (0, 0))
  inj : ∀ c d : Int, 101 ≤ c → c ≤ 118 → 101 ≤ d → d ≤ 118 → ad c = ad d → c = d
theorem GS.below {ad : Int → Addr} {w W : World} (h : GS ad w) (hb : Below w.heap.size w W) : GS ad W := by
  refine ⟨fun c h0 h1 => ?_, fun c h0 h1 => ?_, h.inj⟩
  · have hc := h.cell c h0 h1
    have hl := World.block_lt_of_cell? _ _ hc
    exact (hb.cell hl).trans hc
  · obtain ⟨ca, ta, hh⟩ := h.blk c h0 h1
    have hl : (ad c).block < w.heap.size := (Array.getElem?_eq_some_iff.1 hh).1
    exact ⟨ca, ta, (hb.block _ hl).trans hh⟩

set_option maxRecDepth 100000 in
theorem alike_calls {ad : Int → Addr} (c d : Int) (w : World) (hS : GS ad w) (c0 : 101 ≤ c) (c1 : c ≤ 118) (d0 : 101 ≤ d) (d1 : d ≤ 118) :
    Calls Tryd.prog 30 #[.iface 74 (.pointer (some (ad c))), .iface 74 (.pointer (some (ad d)))] w fun e w' => e = .returned (.bool (decide (c = d))) ∧ Drawn0 w w' := by
  obtain ⟨i, hi, hcmp⟩ := Option.map_eq_some_iff.1 isComp
  obtain ⟨j, hj, hjs⟩ := Option.map_eq_some_iff.1 isSize
  obtain ⟨ca, ta, ha⟩ := hS.blk c c0 c1
  obtain ⟨cb, tb, hb⟩ := hS.blk d d0 d1
  by_cases h : c = d
  · subst h
    have heq := run_eql_iface_ptr_same (P := Tryd.prog) w (ad c) Tryd.underlying25 Tryd.underlying74 hi hcmp hj
    go_enter Tryd.func30, Tryd.ntmps30
    go_wp2
    go_ret
    exact ⟨by simp, Drawn0.refl _⟩
  · have heq := run_eql_iface_ptr_other (P := Tryd.prog) w Tryd.underlying25 Tryd.underlying74 hi hcmp hj (by rw [hjs]; decide) (fun e => h (hS.inj c d c0 c1 d0 d1 e)) ha hb
    go_enter Tryd.func30, Tryd.ntmps30
    go_wp2
    go_ret
    exact ⟨by simp [h], Drawn0.refl _⟩

theorem cell_new (w : World) (cs : Array Value) (t : TypeId) (j : Nat) : (w.alloc (.cells cs t)).cell? ⟨w.heap.size, j, none⟩ = cs[j]? := blk_cell (blk_new w (.cells cs t)) j
set_option maxRecDepth 100000 in
theorem sentinels_calls {ad : Int → Addr} (w : World) (hS : GS ad w) :
    Calls Tryd.prog 29 #[] w fun e w' => ∃ N, e = .returned (.slice (some ⟨N, 0, none⟩) 18 18) ∧ w.heap.size ≤ N ∧ (∀ j : Nat, j < 18 → w'.cell? ⟨N, j, none⟩ = some (.iface 74 (.pointer (some (ad (101 + (j : Int))))))) ∧ Below w.heap.size w w' := by
  have h0 := hS.cell 101 (by decide) (by decide)
  have h1 := hS.cell 102 (by decide) (by decide)
  have h2 := hS.cell 103 (by decide) (by decide)
  have h3 := hS.cell 104 (by decide) (by decide)
  have h4 := hS.cell 105 (by decide) (by decide)
  have h5 := hS.cell 106 (by decide) (by decide)
  have h6 := hS.cell 107 (by decide) (by decide)
  have h7 := hS.cell 108 (by decide) (by decide)
  have h8 := hS.cell 109 (by decide) (by decide)
  have h9 := hS.cell 110 (by decide) (by decide)
  have h10 := hS.cell 111 (by decide) (by decide)
  have h11 := hS.cell 112 (by decide) (by decide)
  have h12 := hS.cell 113 (by decide) (by decide)
  have h13 := hS.cell 114 (by decide) (by decide)
  have h14 := hS.cell 115 (by decide) (by decide)
  have h15 := hS.cell 116 (by decide) (by decide)
  have h16 := hS.cell 117 (by decide) (by decide)
  have h17 := hS.cell 118 (by decide) (by decide)
  simp only [gl] at *
  go_enter Tryd.func29, Tryd.ntmps29
  go_wp2
  go_ret
  refine ⟨_, rfl, Nat.le_refl _, fun j hj => ?_, (Below.refl _ _).alloc (Nat.le_refl _) _⟩
  have hcases : j = 0 ∨ j = 1 ∨ j = 2 ∨ j = 3 ∨ j = 4 ∨ j = 5 ∨ j = 6 ∨ j = 7 ∨ j = 8 ∨ j = 9 ∨ j = 10 ∨ j = 11 ∨ j = 12 ∨ j = 13 ∨ j = 14 ∨ j = 15 ∨ j = 16 ∨ j = 17 := by omega
  rcases hcases with rfl | rfl | rfl | rfl | rfl | rfl | rfl | rfl | rfl | rfl | rfl | rfl | rfl | rfl | rfl | rfl | rfl | rfl <;> (rw [cell_new]; rfl)

set_option maxRecDepth 100000 in
theorem sentinel_calls {ad : Int → Addr} (m : Nat) (hm : m < 18) (w : World) (hS : GS ad w) :
    Calls Tryd.prog 26 #[.iface 74 (.pointer (some (ad (101 + (m : Int)))))] w fun e w' => e = .returned (.int .i64 (101 + (m : Int))) ∧ Below w.heap.size w w' := by
  go_enter Tryd.func26, Tryd.ntmps26
  go_wp2_with (go_at_call 29; refine (sentinels_calls w hS).mono ?_; rintro e w1 ⟨N, rfl, hN, hc, hb⟩)
  go_loopg [4] (m + 1) (fun kq v4 w' => ∃ i : Nat, v4 = .int .i64 (i : Int) ∧ i + kq = m + 1 ∧ 1 ≤ kq ∧ Drawn0 w1 w')
  case atStart => exact ⟨0, rfl, by omega, by omega, Drawn0.refl _⟩
  case round =>
    obtain ⟨i, rfl, hi, hk, ⟨m1, rfl⟩⟩ := hrel
    have hx : w1.cell? ⟨N, i, none⟩ = some (.iface 74 (.pointer (some (ad (101 + (i : Int)))))) := hc i (by omega)
    have p0 : 0 ≤ (i : Int) := by omega
    have q0 : (i : Int) < 18 := by omega
    have q1 : decide ((i : Int) < 18) = true := decide_eq_true q0
    have hS1 : GS ad (w1.drewN m1) := (hS.below hb).below ⟨rfl, rfl, rfl, Nat.le_refl _, fun _ _ => rfl⟩
    by_cases him : i = m
    · subst him
      go_wp2_with (go_at_call 30; refine (alike_calls (101 + (i : Int)) (101 + (i : Int)) _ hS1 (by omega) (by omega) (by omega) (by omega)).mono ?_; rintro e w3 ⟨rfl, ⟨m3, rfl⟩⟩)
      go_ret
      exact ⟨rfl, by repeat (first | exact hb | apply pw_below_drewN)⟩
    · have hf : decide (101 + (m : Int) = 101 + (i : Int)) = false := decide_eq_false (by omega)
      go_wp2_with (go_at_call 30; refine (alike_calls (101 + (m : Int)) (101 + (i : Int)) _ hS1 (by omega) (by omega) (by omega) (by omega)).mono ?_; rintro e w3 ⟨he, ⟨m3, rfl⟩⟩; rw [hf] at he; subst he)
      have hw : wrap64 ((i : Int) + 1) = ((i + 1 : Nat) : Int) := by unfold wrap64; omega
      go_roundg (gk - 1)
      case measure => omega
      case rel => exact ⟨i + 1, by first | rfl | (simp; done) | (simp [*]; done), by omega, by omega, by repeat (first | exact Drawn0.refl _ | apply Drawn0.step)⟩

set_option maxHeartbeats 8000000 in
set_option maxRecDepth 100000 in
theorem fault_none (w : World) :
    Calls Tryd.prog 17 #[.nilIface] w fun e w' => e = .returned (.agg #[.int .i64 0, .bool false, .int .i64 0]) ∧ Below w.heap.size w w' := by
  have huF := Tryd.underlying33
  have HB := Aside0.mk (Below.refl w.heap.size w)
  go_enter Tryd.func17, Tryd.ntmps17
  go_wp2_with (first | ((with_reducible refine gate_dst (N := 2) rfl ?_); refine box_event ?hg (N := 2) ?hd (cs := #[.int .i64 0, .bool false, .int .i64 0]) (t := 33) ?hr ?_; (case hd => rfl); (case hg => rfl); (case hr => first | (go_simp; done) | (go_simp; rfl)); intro gb hg w2 hbox hb; have n0_ := Aside0.mk (below_step (by repeat (first | (with_reducible first | exact HB.out | apply below_alloc | apply pw_below_drewN | apply below_drew1) | exact HB.out)) hb); have n1_ := Aside0.mk (hbox); have n2_ := Aside0.mk ((by rw [hg]; exact (below_size (by repeat (first | (with_reducible first | exact HB.out | apply below_alloc | apply pw_below_drewN | apply below_drew1) | exact HB.out))) : w.heap.size ≤ gb)); clear HB; have HB := n0_; have BK := n1_; have GE := n2_; clear n0_ n1_ n2_; clear hb hbox hg; have hca0 : w2.cell? ⟨gb, 0, none⟩ = some (.int .i64 0) := (blk_cell BK.out 0).trans rfl; have hca1 : w2.cell? ⟨gb, 1, none⟩ = some (.bool false) := (blk_cell BK.out 1).trans rfl; have hca2 : w2.cell? ⟨gb, 2, none⟩ = some (.int .i64 0) := (blk_cell BK.out 2).trans rfl; have hfa0 := blk_frozen BK.out 0; have hfa1 := blk_frozen BK.out 1; have hfa2 := blk_frozen BK.out 2) | (go_at_call 18; refine (gristmillref_None.calls 0 false 0 _ rfl).mono ?_; rintro e w3 ⟨rfl, hb⟩; have n0_ := Aside0.mk (below_step (by repeat (first | (with_reducible first | exact HB.out | apply below_alloc | apply pw_below_drewN | apply below_drew1) | exact HB.out)) hb); have n1_ := Aside0.mk (blk_below BK.out hb); clear HB BK; have HB := n0_; have BK := n1_; clear n0_ n1_ hb; have hcb0 : w3.cell? ⟨gb, 0, none⟩ = some (.int .i64 0) := (blk_cell BK.out 0).trans rfl; have hcb1 : w3.cell? ⟨gb, 1, none⟩ = some (.bool false) := (blk_cell BK.out 1).trans rfl; have hcb2 : w3.cell? ⟨gb, 2, none⟩ = some (.int .i64 0) := (blk_cell BK.out 2).trans rfl; have hfb0 := blk_frozen BK.out 0; have hfb1 := blk_frozen BK.out 1; have hfb2 := blk_frozen BK.out 2))
  refine bodyPost_ret (results_cell_row rfl _ _ gb 33 #[.int .i64 0, .bool false, .int .i64 0] (0, 0) _ rfl (by (with_reducible repeat (first | refine blk_drewN ?_ _ | refine blk_drew ?_ | refine blk_alloc ?_ _)); refine blk_put (cs := #[.int .i64 0, .bool false, .int .i64 0]) ?_ 2 _ rfl; (with_reducible repeat (first | refine blk_drewN ?_ _ | refine blk_drew ?_ | refine blk_alloc ?_ _)); refine blk_put (cs := #[.int .i64 0, .bool false, .int .i64 0]) ?_ 1 _ rfl; (with_reducible repeat (first | refine blk_drewN ?_ _ | refine blk_drew ?_ | refine blk_alloc ?_ _)); refine blk_put (cs := #[.int .i64 0, .bool false, .int .i64 0]) ?_ 0 _ rfl; (with_reducible repeat (first | refine blk_drewN ?_ _ | refine blk_drew ?_ | refine blk_alloc ?_ _)); exact BK.out) Tryd.underlying33 rfl (by kernel_rfl)) rfl ?_
  exact ⟨rfl, by repeat (first | (with_reducible first | exact HB.out | apply below_alloc | apply pw_below_drewN | apply below_drew1 | refine below_set ?_ GE.out) | exact HB.out)⟩

theorem noAt (v : Value) (W : World) : (Instr.typeAssert (.iface 74 v) 25 47 true).run Tryd.prog W = .ok (.tuple #[.pointer none, .bool false]) W := by rfl
set_option maxHeartbeats 8000000 in
set_option maxRecDepth 100000 in
theorem fault_some {ad : Int → Addr} (m : Nat) (hm : m < 18) (w : World) (hS : GS ad w) :
    Calls Tryd.prog 17 #[.iface 74 (.pointer (some (ad (101 + (m : Int)))))] w fun e w' => e = .returned (.agg #[.int .i64 (101 + (m : Int)), .bool false, .int .i64 0]) ∧ Below w.heap.size w w' := by
  have huF := Tryd.underlying33
  have hta := noAt
  have HB := Aside0.mk (Below.refl w.heap.size w)
  go_enter Tryd.func17, Tryd.ntmps17
  go_wp2_with (first | ((with_reducible refine gate_dst (N := 2) rfl ?_); refine box_event ?hg (N := 2) ?hd (cs := #[.int .i64 0, .bool false, .int .i64 0]) (t := 33) ?hr ?_; (case hd => rfl); (case hg => rfl); (case hr => first | (go_simp; done) | (go_simp; rfl)); intro gb hg w2 hbox hb; have n0_ := Aside0.mk (below_step (by repeat (first | (with_reducible first | exact HB.out | apply below_alloc | apply pw_below_drewN | apply below_drew1) | exact HB.out)) hb); have n1_ := Aside0.mk (hbox); have n2_ := Aside0.mk ((by rw [hg]; exact (below_size (by repeat (first | (with_reducible first | exact HB.out | apply below_alloc | apply pw_below_drewN | apply below_drew1) | exact HB.out))) : w.heap.size ≤ gb)); clear HB; have HB := n0_; have BK := n1_; have GE := n2_; clear n0_ n1_ n2_; clear hb hbox hg; have hca0 : w2.cell? ⟨gb, 0, none⟩ = some (.int .i64 0) := (blk_cell BK.out 0).trans rfl; have hca1 : w2.cell? ⟨gb, 1, none⟩ = some (.bool false) := (blk_cell BK.out 1).trans rfl; have hca2 : w2.cell? ⟨gb, 2, none⟩ = some (.int .i64 0) := (blk_cell BK.out 2).trans rfl; have hfa0 := blk_frozen BK.out 0; have hfa1 := blk_frozen BK.out 1; have hfa2 := blk_frozen BK.out 2) | (go_at_call 26; refine (sentinel_calls m hm _ (hS.below HB.out)).mono ?_; rintro e w3 ⟨rfl, hb⟩; have n0_ := Aside0.mk (below_step (by repeat (first | (with_reducible first | exact HB.out | apply below_alloc | apply pw_below_drewN | apply below_drew1) | exact HB.out)) hb); have n1_ := Aside0.mk (blk_below BK.out hb); clear HB BK; have HB := n0_; have BK := n1_; clear n0_ n1_ hb) | (go_at_call 25; refine (gristmillref_Bare.calls (101 + (m : Int)) _ false 0 _ rfl).mono ?_; rintro e w4 ⟨rfl, hb⟩; have n0_ := Aside0.mk (below_step (by repeat (first | (with_reducible first | exact HB.out | apply below_alloc | apply pw_below_drewN | apply below_drew1) | exact HB.out)) hb); have n1_ := Aside0.mk (blk_below BK.out hb); clear HB BK; have HB := n0_; have BK := n1_; clear n0_ n1_ hb; have hcc0 : w4.cell? ⟨gb, 0, none⟩ = some (.int .i64 0) := (blk_cell BK.out 0).trans rfl; have hcc1 : w4.cell? ⟨gb, 1, none⟩ = some (.bool false) := (blk_cell BK.out 1).trans rfl; have hcc2 : w4.cell? ⟨gb, 2, none⟩ = some (.int .i64 0) := (blk_cell BK.out 2).trans rfl; have hfc0 := blk_frozen BK.out 0; have hfc1 := blk_frozen BK.out 1; have hfc2 := blk_frozen BK.out 2))
  refine bodyPost_ret (results_cell_row rfl _ _ gb 33 #[.int .i64 (101 + (m : Int)), .bool false, .int .i64 0] (0, 0) _ rfl (by (with_reducible repeat (first | refine blk_drewN ?_ _ | refine blk_drew ?_ | refine blk_alloc ?_ _)); refine blk_put (cs := #[.int .i64 (101 + (m : Int)), .bool false, .int .i64 0]) ?_ 2 _ rfl; (with_reducible repeat (first | refine blk_drewN ?_ _ | refine blk_drew ?_ | refine blk_alloc ?_ _)); refine blk_put (cs := #[.int .i64 (101 + (m : Int)), .bool false, .int .i64 0]) ?_ 1 _ rfl; (with_reducible repeat (first | refine blk_drewN ?_ _ | refine blk_drew ?_ | refine blk_alloc ?_ _)); refine blk_put (cs := #[.int .i64 0, .bool false, .int .i64 0]) ?_ 0 _ rfl; (with_reducible repeat (first | refine blk_drewN ?_ _ | refine blk_drew ?_ | refine blk_alloc ?_ _)); exact BK.out) Tryd.underlying33 rfl (by kernel_rfl)) rfl ?_
  exact ⟨rfl, by repeat (first | (with_reducible first | exact HB.out | apply below_alloc | apply pw_below_drewN | apply below_drew1 | refine below_set ?_ GE.out) | exact HB.out)⟩

/-! ### gristmillsee.Fault -/
def gristmillsee_Fault.f (a0 : Option Int) : Option (Int × Bool × Int) := match a0 with
  | none => some (0, false, 0)
  | some c => if 101 ≤ c ∧ c ≤ 118 then some (c, false, 0) else none
theorem gristmillsee_Fault.calls {ad : Int → Addr} (a0 : Option Int) (r1 : Int) (r2 : Bool) (r3 : Int) (w : World) (hGG : GS ad w) (h : gristmillsee_Fault.f a0 = some (r1, r2, r3)) :
    Calls Tryd.prog 17 #[errW ad a0] w fun e w' => e = .returned (.agg #[.int .i64 r1, .bool r2, .int .i64 r3]) ∧ Below w.heap.size w w' := by
  cases a0 with
  | none =>
    simp only [gristmillsee_Fault.f, Option.some.injEq, Prod.mk.injEq] at h
    obtain ⟨rfl, rfl, rfl⟩ := h
    exact fault_none w
  | some c =>
    simp only [gristmillsee_Fault.f] at h
    by_cases hc : 101 ≤ c ∧ c ≤ 118
    · rw [if_pos hc] at h
      simp only [Option.some.injEq, Prod.mk.injEq] at h
      obtain ⟨rfl, rfl, rfl⟩ := h
      obtain ⟨m, hm⟩ : ∃ m : Nat, c = 101 + (m : Int) := ⟨(c - 101).toNat, by omega⟩
      subst hm
      exact fault_some m (by omega) w hGG
    · rw [if_neg hc] at h
      cases h
end Go.Proofs.YthbiofcgaegjkaaDoor.See
