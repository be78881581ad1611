/- HeapLinks. No condition beyond those that each states. -/
import Derived.Test.YtepaddjjdhpmpaaDoorHeapJ
namespace Go.Proofs.YtepaddjjdhpmpaaDoor.HeapA
open Go.RowKit Go.Proofs.YtepaddjjdhpmpaaDoorW.PrintWords Go.Proofs.YtepaddjjdhpmpaaDoorW.PrintLast Go.Proofs.YtepaddjjdhpmpaaDoorW.PrintMore Go.Proofs.YtepaddjjdhpmpaaDoor.HeapK Go.Proofs.YtepaddjjdhpmpaaDoor.PHeapP
set_option linter.unusedVariables false
set_option linter.unusedSimpArgs false
/-! ### plain -/
def lkA : Nat → Nat → PH → Option PH
  | 0, _, P => some P
  | k + 1, i, P => match pAlloc 500 P (i : Int) [⟨false, 100 + (i : Int)⟩] with
    | some (P', (p, true)) => if p = 3 * (i : Int) then lkA k (i + 1) P' else none
    | _ => none
def lkL : Nat → Nat → PH → Option PH
  | 0, _, P => some P
  | k + 1, i, P => match pLink P (3 * (i : Int)) (3 * (i : Int) + 3) with
    | some (P', true) => lkL k (i + 1) P'
    | _ => none
def lkC (P : PH) (n ask : Nat) : Bool := match pLink P (3 * (n : Int) - 3) 0 with
  | some (P2, false) => match pLink P2 0 0 with
    | some (P3, false) => match pNode P3 (3 * (ask : Int)) with
      | some nd => (match nd.fs with
        | [x] => decide (nd.tag = (n : Int) - 1) && decide (x.f1 = 99 + (n : Int))
        | _ => false) && (match pCollect P3 [⟨true, 3 * (ask : Int)⟩, ⟨true, 0⟩] with
          | some (P4, [r0, r1]) => r0.f0 && decide (r0.f1 = 0) && r1.f0 && decide (r1.f1 = 0) && decide (P4.used = 3)
          | _ => false)
      | none => false
    | _ => false
  | _ => false
def lkOk (n ask : Nat) : Bool := match lkA n 0 ⟨0, 0, []⟩ with
  | none => false
  | some P => match lkL (n - 1) 0 P with
    | none => false
    | some P => lkC P n ask
theorem lk_all : ∀ n < 22, 2 ≤ n → ∀ ask < n, lkOk n ask = true := by decide +kernel
theorem lkA_step {k i : Nat} {P Q : PH} (h : lkA (k + 1) i P = some Q) : ∃ P', pAlloc 500 P (i : Int) [⟨false, 100 + (i : Int)⟩] = some (P', (3 * (i : Int), true)) ∧ lkA k (i + 1) P' = some Q := by
  simp only [lkA] at h
  split at h
  · rename_i P' p hp
    split at h
    · rename_i e
      subst e
      exact ⟨P', hp, h⟩
    · cases h
  · cases h
theorem lkL_step {k i : Nat} {P Q : PH} (h : lkL (k + 1) i P = some Q) : ∃ P', pLink P (3 * (i : Int)) (3 * (i : Int) + 3) = some (P', true) ∧ lkL k (i + 1) P' = some Q := by
  simp only [lkL] at h
  split at h
  · rename_i P' hp
    exact ⟨P', hp, h⟩
  · cases h
theorem lkC_all {P : PH} {n ask : Nat} (h : lkC P n ask = true) : ∃ P2 P3 P4 nd x r0 r1, pLink P (3 * (n : Int) - 3) 0 = some (P2, false) ∧ pLink P2 0 0 = some (P3, false) ∧ pNode P3 (3 * (ask : Int)) = some nd ∧ nd.fs = [x] ∧ nd.tag = (n : Int) - 1 ∧ x.f1 = 99 + (n : Int) ∧ pCollect P3 [⟨true, 3 * (ask : Int)⟩, ⟨true, 0⟩] = some (P4, [r0, r1]) ∧ r0 = ⟨true, 0⟩ ∧ r1 = ⟨true, 0⟩ ∧ P4.used = 3 := by
  unfold lkC at h
  split at h
  · rename_i P2 h1
    split at h
    · rename_i P3 h2
      split at h
      · rename_i nd h3
        rw [Bool.and_eq_true] at h
        obtain ⟨ha, hb⟩ := h
        split at ha
        · rename_i x hx
          split at hb
          · rename_i P4 r0 r1 h4
            simp only [Bool.and_eq_true, decide_eq_true_eq] at ha hb
            obtain ⟨⟨⟨⟨b0, b1⟩, b2⟩, b3⟩, b4⟩ := hb
            exact ⟨P2, P3, P4, nd, x, r0, r1, h1, h2, h3, hx, ha.1, ha.2, h4, by cases r0; simp_all, by cases r1; simp_all, b4⟩
          · cases hb
        · cases ha
      · cases h
    · cases h
  · cases h
section
variable {B : Nat} {W W1 w0 : World} {b : Nat} {half : Int} {P P' : PH} {Z : Nat → Prop}
theorem number_p (a m : Int) (h0 : 0 < m) (h1 : m ≤ 1000) (w : World) : Calls Tryd.prog 9 #[.int .i64 a, .int .i64 m] w fun e w' => ∃ k : Nat, e = .returned (.int .i64 (k : Int)) ∧ (k : Int) < m ∧ Below w.heap.size w w' := by
  have t1 := Int.tmod_lt_of_pos a h0
  have t2 := Int.lt_tmod_of_pos a h0
  by_cases hn : Int.tmod a m < 0
  · refine (gristmillworld_Number.calls a m (Int.tmod a m + m) w ?_).mono ?_
    · unfold gristmillworld_Number.f
      rw [if_neg (by omega), if_pos hn, show wrap64 (Int.tmod a m + m) = Int.tmod a m + m by unfold wrap64; omega]
    · rintro e w' ⟨rfl, hd⟩
      exact ⟨(Int.tmod a m + m).toNat, by rw [Int.toNat_of_nonneg (by omega)], by omega, hd.below⟩
  · refine (gristmillworld_Number.calls a m (Int.tmod a m) w ?_).mono ?_
    · unfold gristmillworld_Number.f
      rw [if_neg (by omega), if_neg hn]
    · rintro e w' ⟨rfl, hd⟩
      exact ⟨(Int.tmod a m).toNat, by rw [Int.toNat_of_nonneg (by omega)], by omega, hd.below⟩
theorem c_one (w : World) (x : S33) : Kd.C k33 (w.alloc (.cells #[.bool x.f0, .int .i64 x.f1] 33)) (some ⟨w.heap.size, 0, none⟩) [x].length [x] := by
  refine ⟨rfl, by simp, fun _ => ⟨_, rfl, fun j p hj => ?_⟩⟩
  have hb := blk_new w (.cells #[.bool x.f0, .int .i64 x.f1] 33 (0, 0))
  match j, hj with
  | 0, hj =>
    obtain rfl := Option.some.inj hj
    refine ⟨[.bool x.f0, .int .i64 x.f1], rfl, Kd.K_of_M k33 (k33_mkM _ 0 (fun _ => True) x), fun i u hu => ?_⟩
    match i, hu with
    | 0, hu => exact ((blk_cell hb 0).trans rfl).trans hu
    | 1, hu => exact ((blk_cell hb 1).trans rfl).trans hu
theorem c_two (w : World) (x y : S33) : Kd.C k33 (w.alloc (.cells #[.bool x.f0, .int .i64 x.f1, .bool y.f0, .int .i64 y.f1] 33)) (some ⟨w.heap.size, 0, none⟩) [x, y].length [x, y] := by
  refine ⟨rfl, by simp, fun _ => ⟨_, rfl, fun j p hj => ?_⟩⟩
  have hb := blk_new w (.cells #[.bool x.f0, .int .i64 x.f1, .bool y.f0, .int .i64 y.f1] 33 (0, 0))
  match j, hj with
  | 0, hj =>
    obtain rfl := Option.some.inj hj
    refine ⟨[.bool x.f0, .int .i64 x.f1], rfl, Kd.K_of_M k33 (k33_mkM _ 0 (fun _ => True) x), fun i u hu => ?_⟩
    match i, hu with
    | 0, hu => exact ((blk_cell hb 0).trans rfl).trans hu
    | 1, hu => exact ((blk_cell hb 1).trans rfl).trans hu
  | 1, hj =>
    obtain rfl := Option.some.inj hj
    refine ⟨[.bool y.f0, .int .i64 y.f1], rfl, Kd.K_of_M k33 (k33_mkM _ 0 (fun _ => True) y), fun i u hu => ?_⟩
    match i, hu with
    | 0, hu => exact ((blk_cell hb 2).trans rfl).trans hu
    | 1, hu => exact ((blk_cell hb 3).trans rfl).trans hu
/-- A heap that lies behind all that lay at w0. -/
def HQ (w0 W : World) (b : Nat) (half : Int) (P : PH) : Prop := Below w0.heap.size w0 W ∧ ∃ Z, HP w0.heap.size W b half P Z
theorem HQ.below (h : HQ w0 W b half P) (hb : Below W.heap.size W W1) : HQ w0 W1 b half P := ⟨h.1.trans (hb.mono h.1.size), h.2.elim fun Z hz => ⟨Z, hz.below hb⟩⟩
theorem HQ.op {Z : Nat → Prop} (hb : Below w0.heap.size w0 W) (h : HP w0.heap.size W b half P Z) (ho : Op w0.heap.size b half W Z P' W1) : HQ w0 W1 b half P' := by
  obtain ⟨Z', h1, h2, h3⟩ := ho
  exact ⟨hb.trans (h2.below hb.size (fun j _ hj => (h.lt hj).1)), Z', h1⟩
theorem alloc_q (h : HQ w0 W b half P) {tag : Int} {ws : List S33} {A : Option Addr} {c m : Nat} (hC : Kd.C k33 W A ws.length ws) (hm : ws.length = m) {r : Int × Bool} (hp : pAlloc half P tag ws = some (P', r)) :
    Calls Tryd.prog 11 #[.pointer (some ⟨b, 0, none⟩), .int .i64 tag, .slice A m c] W fun e W' => e = .returned (.tuple #[.int .i64 r.1, .bool r.2]) ∧ HQ w0 W' b half P' := by
  subst hm
  obtain ⟨hb, Z, h⟩ := h
  refine (alloc_p h hC hp).mono ?_
  rintro e W' ⟨rfl, ho⟩
  exact ⟨rfl, HQ.op hb h ho⟩
theorem link_q (h : HQ w0 W b half P) {p p2 : Int} {r : Bool} (hp : pLink P p p2 = some (P', r)) : Calls Tryd.prog 18 #[.pointer (some ⟨b, 0, none⟩), .int .i64 p, .int .i64 p2] W fun e W' => e = .returned (.bool r) ∧ HQ w0 W' b half P' := by
  obtain ⟨hb, Z, h⟩ := h
  refine (link_p h hp).mono ?_
  rintro e W' ⟨rfl, ho⟩
  exact ⟨rfl, HQ.op hb h ho⟩
theorem node_q (h : HQ w0 W b half P) {p : Int} {nd : Nd} (hp : pNode P p = some nd) : Calls Tryd.prog 16 #[.pointer (some ⟨b, 0, none⟩), .int .i64 p] W fun e W' => ∃ A c, e = .returned (.tuple #[.int .i64 nd.tag, .slice A nd.fs.length c, .bool true]) ∧ Kd.C k33 W' A nd.fs.length nd.fs ∧ HQ w0 W' b half P := by
  obtain ⟨hb, Z, h⟩ := h
  refine (node_p h hp).mono ?_
  rintro e W' ⟨u, rfl, hR, hb1, h'⟩
  obtain ⟨A, c, hv⟩ := Kd.R_slice hR
  subst hv
  exact ⟨A, c, rfl, (Kd.R_reads' hR).2.2, hb.trans (hb1.mono hb.size), Z, h'⟩
theorem collect_q (h : HQ w0 W b half P) {ws rs : List S33} {A : Option Addr} {c m : Nat} (hC : Kd.C k33 W A ws.length ws) (hm : ws.length = m) (hl : ws.length ≤ 1000) (hp : pCollect P ws = some (P', rs)) :
    Calls Tryd.prog 14 #[.pointer (some ⟨b, 0, none⟩), .slice A m c] W fun e W' => ∃ A' c', e = .returned (.slice A' rs.length c') ∧ Kd.C k33 W' A' rs.length rs ∧ HQ w0 W' b half P' := by
  subst hm
  obtain ⟨hb, Z, h⟩ := h
  refine (collect_p h hC hl hp).mono ?_
  rintro e W' ⟨u, Z', rfl, h', hR, hm, hz⟩
  obtain ⟨A', c', hv⟩ := Kd.R_slice hR
  subst hv
  exact ⟨A', c', rfl, (Kd.R_reads' hR).2.2, HQ.op hb h ⟨Z', h', hm, hz⟩⟩
theorem new_q (hb : Below w0.heap.size w0 W) (words : Int) (h0 : 8 ≤ words) (h1 : words ≤ 1048576) : Calls Tryd.prog 10 #[.int .i64 words] W fun e W' => e = .returned (.tuple #[.pointer (some ⟨W.heap.size + 1, 0, none⟩), .nilIface]) ∧ HQ w0 W' (W.heap.size + 1) (words / 2) ⟨0, 0, []⟩ := by
  refine (new_p words h0 h1 hb.size).mono ?_
  rintro e W' ⟨rfl, hb1, Z, h, hz⟩
  exact ⟨rfl, hb.trans (hb1.mono hb.size), Z, h⟩
theorem ptr_q (h : HQ w0 W b half P) : Calls Tryd.prog 12 #[.pointer (some ⟨b, 0, none⟩)] W fun e W' => e = .returned (.int .i64 P.used) ∧ W = W' := h.2.elim fun Z hz => ptr_p hz
end
end Go.Proofs.YtepaddjjdhpmpaaDoor.HeapA
