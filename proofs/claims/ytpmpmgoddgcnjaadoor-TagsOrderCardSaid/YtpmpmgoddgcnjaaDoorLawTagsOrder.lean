/- The tied card of TagsOrder: for every input the law returns true and each argument reads behind the call as it read before; condition: the listed package-level variables read as start-up lays them (the card ties that to the text). -/
import Derived.Test.YtpmpmgoddgcnjaaDoorRows
import Derived.Test.YtpmpmgoddgcnjaaDoorPTagsBx8
import Derived.Test.YtpmpmgoddgcnjaaDoorPureTagsOrder
import Derived.Test.YtpmpmgoddgcnjaaDoorRowTag
import Derived.WalkKit
import Derived.ProofKit
import Derived.OpenShut
import Derived.ShutString
import Derived.ChangeOld
import Derived.Below
import Derived.SizedLaws
import Derived.LaidMore
import Derived.Stop.Joined
import Derived.Test.YtpmpmgoddgcnjaaDoorCards
import Derived.Test.YtpmpmgoddgcnjaaDoorTie
import Derived.SevenTiedAt
namespace Go.Proofs.YtpmpmgoddgcnjaaDoor.PTagsB
open Go.RowKit Go.Proofs.YtpmpmgoddgcnjaaDoorW.PrintWords Go.Proofs.YtpmpmgoddgcnjaaDoorW.PrintLast
theorem gristmilllaw14_TagsOrder.walk (P : ∀ (t0 : S23) (t1 : S23) (t2 : S23) (l3 : List S23), t0.f1.size ≤ 140737488351232 → t1.f1.size ≤ 140737488351232 → t2.f1.size ≤ 140737488351232 → l3.length * 32 ≤ 140737488351232 → ∃ k, PTagsB.gristmilllaw14_TagsOrder.f k t0.f0 t0.f1 t0.f2 t1.f0 t1.f1 t1.f2 t2.f0 t2.f1 t2.f2 l3 = some true) (t0 : S23) (t1 : S23) (t2 : S23) (A3 : Option Addr) (c3 : Nat) (l3 : List S23) (w : World) (w0_1 : t0.f1.size ≤ 140737488351232) (w1_1 : t1.f1.size ≤ 140737488351232) (w2_1 : t2.f1.size ≤ 140737488351232) (hr3 : Kd.C k23 w A3 l3.length l3) (hc3 : l3.length ≤ c3) (y3 : l3.length * 32 ≤ 140737488351232) :
    Calls Tryd.prog 4 #[.agg #[.int .i64 t0.f0, .string t0.f1, .int .i64 t0.f2], .agg #[.int .i64 t1.f0, .string t1.f1, .int .i64 t1.f2], .agg #[.int .i64 t2.f0, .string t2.f1, .int .i64 t2.f2], .slice A3 l3.length c3] w fun e w' => e = .returned (.bool true) ∧ Below w.heap.size w w' := by
  obtain ⟨k, h⟩ := P t0 t1 t2 l3 w0_1 w1_1 w2_1 y3
  refine (gristmilllaw14_TagsOrder.calls k t0.f0 t0.f1 t0.f2 t1.f0 t1.f1 t1.f2 t2.f0 t2.f1 t2.f2 _ _ l3 true w hr3 hc3 h).mono ?_
  rintro e w' ⟨rfl, hd⟩
  exact ⟨rfl, hd⟩
end Go.Proofs.YtpmpmgoddgcnjaaDoor.PTagsB
namespace Go.Proofs.YtpmpmgoddgcnjaaDoor.tagsOrder
open Go.ChangeShapes Go.WideShapes Go.ChangeAt Go.RowKit
open Go.ChangeMaps (open_string shut_string)
set_option linter.unusedVariables false
theorem own : ownKnob Tryd.prog.godebug = none := by kernel_rfl
theorem laidOut : laidOutB Tryd.prog = true := by kernel_rfl
/-- The door's own heap meets the condition: closed facts. -/
theorem door_met (os : Os) (args : Array Value) : laidMetH Tryd.prog Rows.tagsOrderRow.laid ((World.doorLaid Tryd.prog 400 os).forCall (fun _ _ => 0) ⟨#[], args, []⟩).memory :=
  laidMetH_of_parts3 (fuel := 8) (laidMet_of_run' 8 (by kernel_rfl) (by kernel_rfl)) (by kernel_rfl) (by kernel_rfl)
set_option maxRecDepth 100000 in
theorem lifted (os : Os) (started : os.Started) (H : Type) (enc : TypeId × Value → H) :
    ReturnsInHanded {} Tryd.checked os 4 .any (fun w args => (Rows.tagsOrderSpec.pre enc Tryd.prog Tryd.f4 [] false w args ∧ laidMetH Tryd.prog Rows.tagsOrderRow.laid w) ∧ sizedMet enc Tryd.prog Tryd.f4 (OpenSpec.ofChange Rows.tagsOrderSpec) false w args) (Rows.tagsOrderSpec.post enc Tryd.prog Tryd.f4 false true false false) := by
  refine returnsInHanded_of_change_and (C := Tryd.checked) (X := fun w _ => laidMetH Tryd.prog Rows.tagsOrderRow.laid w) (fun _ _ _ hh h => h.of_heap hh) own started (by kernel_rfl) Tryd.func4
    (ChangeSpec.witness_shaped (enc := enc) (C := Tryd.checked) (os := os) (X := fun w _ => laidMetH Tryd.prog Rows.tagsOrderRow.laid w) false (World.doorLaid Tryd.prog 400 os) #[.agg #[.int .i64 0, .string ByteArray.empty, .int .i64 0], .agg #[.int .i64 0, .string ByteArray.empty, .int .i64 0], .agg #[.int .i64 0, .string ByteArray.empty, .int .i64 0], .slice none 0 0] 8 rfl (World.shaped_of_RefB (by kernel_rfl) (by kernel_rfl)) (by kernel_rfl) (by kernel_rfl) (by kernel_rfl) (door_met os _)) ?_
  intro W base args ds gs before hval0 hW hcnd hsz0 hL _
  have hsz : (DataW.weightsEach Tryd.prog (Tryd.f4.params.toList ++ Rows.tagsOrderSpec.plain.varTypes Tryd.prog) (ds ++ gs)).all (· ≤ reachBytes) = true := hsz0
  have hval : ∀ (j : Nat) t v, Tryd.f4.params[j]? = some t → args[j]? = some v → Value.okWide Tryd.prog W .any base t v := hval0
  have hW' := hW
  obtain ⟨p, q, hA0, hV, rfl, hfz, hnd⟩ := hW
  have hA : DataW.TrodAll enc Tryd.prog W 0 (fun _ => true) true Tryd.f4.params.toList args.toList ds p := hA0
  rw [Tryd.params4] at hA hval hsz
  obtain ⟨v0, vs0, d0, ds0, p0, q0, hargs, rfl, rfl, h0, r0⟩ := trodAll_cons hA
  obtain ⟨v1, vs1, d1, ds1, p1, q1, rfl, rfl, rfl, h1, r1⟩ := trodAll_cons r0
  obtain ⟨v2, vs2, d2, ds2, p2, q2, rfl, rfl, rfl, h2, r2⟩ := trodAll_cons r1
  obtain ⟨v3, vs3, d3, ds3, p3, q3, rfl, rfl, rfl, h3, r3⟩ := trodAll_cons r2
  obtain ⟨rfl, rfl, rfl⟩ := trodAll_nil r3
  obtain rfl : args = #[v0, v1, v2, v3] := by cases args; simp_all
  obtain ⟨rfl, rfl⟩ := trodVars_none hV
  have k0 := h0
  have lt0 : ∀ x ∈ p0, x.block < W.heap.size := by obtain ⟨m, hm⟩ := k0; exact DataW.trod_lt m _ _ _ hm
  obtain ⟨t0, rfl, s0_1⟩ := RowTag.arg_st23 hsz (j := 0) rfl rfl (hval 0 23 v0 rfl rfl) h0
  have k1 := h1
  have lt1 : ∀ x ∈ p1, x.block < W.heap.size := by obtain ⟨m, hm⟩ := k1; exact DataW.trod_lt m _ _ _ hm
  obtain ⟨t1, rfl, s1_1⟩ := RowTag.arg_st23 hsz (j := 1) rfl rfl (hval 1 23 v1 rfl rfl) h1
  have k2 := h2
  have lt2 : ∀ x ∈ p2, x.block < W.heap.size := by obtain ⟨m, hm⟩ := k2; exact DataW.trod_lt m _ _ _ hm
  obtain ⟨t2, rfl, s2_1⟩ := RowTag.arg_st23 hsz (j := 2) rfl rfl (hval 2 23 v2 rfl rfl) h2
  obtain ⟨a3, len3, cap3, rfl⟩ := okWide_slice Tryd.underlying24 (hval 3 24 v3 rfl rfl)
  have k3 := h3
  have lt3 : ∀ x ∈ p3, x.block < W.heap.size := by obtain ⟨m, hm⟩ := k3; exact DataW.trod_lt m _ _ _ hm
  obtain ⟨l3, rfl, hC3, hc3, y3⟩ := RowTag.arg_sl23 hsz (j := 3) rfl rfl h3
  clear hA0 hval0 hsz0 hsz
  refine (PTagsB.gristmilllaw14_TagsOrder.walk Pure.TagsOrder t0 t1 t2 a3 cap3 l3 W s0_1 s1_1 s2_1 hC3 hc3 y3).mono fun e W' ⟨he, bel⟩ => ?_
  subst he
  exact ⟨_, rfl, _, _, _, [], _, [], hW', trodAll_mk1 (shut_bool Tryd.underlying4 _), (trodAll_cons_mk (Below.trod laidOut (by kernel_rfl) (of_decide_eq_true (by kernel_rfl)) k0 bel lt0) (trodAll_cons_mk (Below.trod laidOut (by kernel_rfl) (of_decide_eq_true (by kernel_rfl)) k1 bel lt1) (trodAll_cons_mk (Below.trod laidOut (by kernel_rfl) (of_decide_eq_true (by kernel_rfl)) k2 bel lt2) (trodAll_cons_mk (Below.trod laidOut (by kernel_rfl) (of_decide_eq_true (by kernel_rfl)) k3 bel lt3) trodAll_mk0)))), rfl, bel.frame _, fun h => by cases h⟩
theorem over : Rows.tagsOrderRow.holds Tryd.pinned (OpenSpec.ofChange Rows.tagsOrderSpec) :=
  OpenClaim.holds_of_wide 4 Tryd.f4 rfl rfl rfl rfl rfl rfl rfl ⟨rfl, rfl, rfl, rfl, rfl⟩ rfl rfl rfl rfl rfl (by kernel_rfl) Tryd.func4 (by kernel_rfl)
    (of_decide_eq_true (by kernel_rfl)) (by unfold Func.isWrapper; first | (rw [if_pos (by decide +kernel)]; kernel_rfl) | (rw [if_neg (by decide +kernel)]; exact ⟨rfl, rfl⟩))
    (fun os started H enc _ => lifted os started H enc)
theorem proved : Rows.TagsOrderSaid := over
/-- THE TIED CARD. -/
theorem card_proved : Rows.TagsOrderCardSaid :=
  Claim7.holds_tied_plain_at .later [] [.data, .data, .data] true (true, "c8aeb0d4cbd018cdccb0b5c668b3b3ffa91438c756b5be4c0b16390dd3b134f0") false
    proved (fun _ h => by cases h) (by kernel_rfl) (fun _ h => by cases h) tagsOrder_row_tie rfl ⟨rfl, rfl⟩ (by kernel_rfl) rfl
    (fun f fn hf hfn => by
      obtain rfl : f = 4 := Option.some.inj ((show Tryd.prog.funcNamed "gristmill/gristmilllaw14.TagsOrder" = some 4 by kernel_rfl).symm.trans hf) |>.symm
      obtain rfl : fn = Tryd.f4 := (Option.some.inj (Tryd.func4.symm.trans hfn)).symm
      exact ⟨by kernel_rfl, fun j t ht => by
        rw [Tryd.params4] at ht
        have hm : t ∈ [23, 23, 23, 24] := by simpa using Array.mem_of_getElem? ht
        have hall : ([23, 23, 23, 24].all fun u => !Tryd.prog.wantsStandIn u) = true := by kernel_rfl
        exact (show Tryd.prog.wantsStandIn t = false by simpa using List.all_eq_true.1 hall t hm)⟩)
    (by kernel_rfl)
#print axioms card_proved
end Go.Proofs.YtpmpmgoddgcnjaaDoor.tagsOrder
namespace Go.Proofs.YtpmpmgoddgcnjaaDoor
/-- The tied card, under a short name, for the claim. -/
theorem tagsOrder_holds : Rows.TagsOrderCardSaid := tagsOrder.card_proved
end Go.Proofs.YtpmpmgoddgcnjaaDoor
