/- first. No condition beyond those that each states. -/
import Derived.Test.YtepaddjjdhpmpaaDoorHeapI
namespace Go.Proofs.YtepaddjjdhpmpaaDoor.HeapA
open Go.RowKit Go.Proofs.YtepaddjjdhpmpaaDoorW.PrintWords Go.Proofs.YtepaddjjdhpmpaaDoorW.PrintLast Go.Proofs.YtepaddjjdhpmpaaDoorW.PrintMore Go.Proofs.YtepaddjjdhpmpaaDoor.HeapK Go.Proofs.YtepaddjjdhpmpaaDoor.PHeapP
set_option linter.unusedVariables false
set_option linter.unusedSimpArgs false
section
variable {B : Nat} {W W1 : World} {b : Nat} {half : Int} {P P' : PH} {Z : Nat → Prop}
theorem cnil (w : World) : Kd.C k33 w none ([] : List S33).length [] := (Kd.R_reads' (Kd.R_nil k33 33 w 0 (fun _ => True))).2.2
theorem alloc_p0 (h : HP B W b half P Z) {tag : Int} {r : Int × Bool} (hp : pAlloc half P tag [] = some (P', r)) : Calls Tryd.prog 11 #[.pointer (some ⟨b, 0, none⟩), .int .i64 tag, .slice none 0 0] W fun e W' => e = .returned (.tuple #[.int .i64 r.1, .bool r.2]) ∧ Op B b half W Z P' W' := alloc_p h (cnil W) (c := 0) hp
theorem Op.beyond {W0 : World} {Z' : Nat → Prop} (hb : Below W0.heap.size W0 W) (hz : ∀ j, Z j → W0.heap.size ≤ j) (hm : Mod W W1 Z) (hz' : ∀ j, Z' j → Z j ∨ W.heap.size ≤ j) : Below W0.heap.size W0 W1 ∧ ∀ j, Z' j → W0.heap.size ≤ j :=
  ⟨hb.trans (hm.below hb.size (fun j _ hj => hz j hj)), fun j hj => (hz' j hj).elim (hz j) (fun h => Nat.le_trans hb.size h)⟩
set_option maxHeartbeats 4000000 in
set_option maxRecDepth 100000 in
theorem first_calls (W : World) : Calls Tryd.prog 8 #[] W fun e W' => e = .returned (.bool true) ∧ Below W.heap.size W W' := by
  have q1 : pAlloc 50 ⟨0, 0, []⟩ 1 [] = some (⟨3, 1, [(0, ⟨1, [], -1⟩)]⟩, (0, true)) := by kernel_rfl
  have q2 : pAlloc 50 ⟨3, 1, [(0, ⟨1, [], -1⟩)]⟩ 2 [] = some (⟨6, 2, [(3, ⟨2, [], -1⟩), (0, ⟨1, [], -1⟩)]⟩, (3, true)) := by kernel_rfl
  have CN := new_p (B := W.heap.size) (W := W) 100 (by decide) (by decide) (Nat.le_refl _)
  have q1 := Aside0.mk q1
  have q2 := Aside0.mk q2
  go_enter Tryd.func8, Tryd.ntmps8
  go_wp2_with (first | (go_at_call 10; (with_reducible refine CN.mono ?_); rintro e w1 ⟨rfl, hb1, Z1, hp1, hz1⟩; rw [show (100 : Int) / 2 = 50 by decide] at hp1; have C1 := alloc_p0 hp1 q1.out; have HB1 := Aside0.mk hb1; have HZ1 := Aside0.mk hz1; clear hp1 hb1 hz1) | (go_at_call 11; (with_reducible refine C1.mono ?_); rintro e w2 ⟨rfl, Z2, hp2, hm2, hz2⟩; have C2 := alloc_p0 hp2 q2.out; have H2 := Aside0.mk (Op.beyond HB1.out HZ1.out hm2 hz2); clear hp2 hm2 hz2 C1) | (go_at_call 11; (with_reducible refine C2.mono ?_); rintro e w3 ⟨rfl, Z3, hp3, hm3, hz3⟩; have H3 := Aside0.mk (Op.beyond H2.out.1 H2.out.2 hm3 hz3); clear hp3 hm3 hz3 C2))
  go_ret
  exact ⟨rfl, H3.out.1⟩
end
end Go.Proofs.YtepaddjjdhpmpaaDoor.HeapA
