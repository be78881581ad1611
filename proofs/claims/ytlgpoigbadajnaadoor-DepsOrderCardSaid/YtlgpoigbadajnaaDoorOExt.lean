/- What the calls of gristmillref.Texts come to; gristmillref5.Valid's stand for the print alone. No other condition. -/
import Derived.Test.YtlgpoigbadajnaaDoorODZ
import Derived.Laws.Cover1
import Derived.WalkKit
namespace Go.Proofs.YtlgpoigbadajnaaDoor.Ext
open Go.RowKit Go.Proofs.YtlgpoigbadajnaaDoorW.PrintWords Go.Proofs.YtlgpoigbadajnaaDoorW.PrintLast Go.Proofs.YtlgpoigbadajnaaDoorW.PrintMore Go.Proofs.YtlgpoigbadajnaaDoor.PDepA Go.Proofs.YtlgpoigbadajnaaDoor.DepA
set_option linter.unusedVariables false
set_option linter.unusedSimpArgs false
theorem infS : (Tryd.prog.info? 9).map (fun i => (i.zero, i.size, i.bytes)) = some (some (.string ⟨#[]⟩), 1, 16) := by kernel_rfl
def ZJ.f (l0 : List ByteArray) : Option (List ByteArray) := if l0.length ≤ 1000000000000 then some l0 else none
set_option maxHeartbeats 4000000 in
set_option maxRecDepth 100000 in
theorem texts_calls (l : List ByteArray) (w : World) (hl : l.length ≤ 1000000000000) {A : Option Addr} {c : Nat} (hC : Kd.C Kd.string w A l.length l) :
  Calls Tryd.prog 59 #[.slice A l.length c] w fun e w' => ∃ v0_ : Value, e = .returned (v0_) ∧ Kd.R Kd.string 9 w' w.heap.size (fun _ => True) v0_ l ∧ Below w.heap.size w w' := by
 obtain ⟨i0, hi, hzz⟩ := Option.map_eq_some_iff.1 infS
 simp only [Prod.mk.injEq] at hzz
 obtain ⟨hz0, hz1, hz2⟩ := hzz
 have hr := run_make (P := Tryd.prog) (w := w) 25 9 i0 (.string ⟨#[]⟩) Tryd.underlying25 hi hz0 .i64 .i64 0 (l.length : Int) (by omega) (by omega) (by rw [hz2]; omega) (by omega)
 simp only [Int.toNat_natCast, Int.toNat_zero] at hr
 rw [hz1] at hr
 have hown := World.ownsRow_made (base := w.heap.size) (size := 1) (e := 9) w (madeCells (Value.string ⟨#[]⟩).cells (l.length * 1)) l.length (Nat.le_refl _) (by unfold maxLen; omega) (by simp [size_madeCells])
 have hR : Kd.R Kd.string 9 (w.alloc (.cells (madeCells (Value.string ⟨#[]⟩).cells (l.length * 1)) 9)) w.heap.size (fun _ => True) (.slice (some ⟨w.heap.size, 0, none⟩) 0 l.length) [] := ⟨fun _ _ => trivial, [], hown, ⟨rfl, fun j p hj => by simp at hj⟩⟩
 have hb1 := Qd (Below.refl w.heap.size w) (.cells (madeCells (Value.string ⟨#[]⟩).cells (l.length * 1)) 9)
 rw [Nat.mul_one] at hR hb1
 have hR : Qb (Kd.R Kd.string 9 (w.alloc (.cells (madeCells #[.string ⟨#[]⟩] l.length) 9)) w.heap.size (fun _ => True) (.slice (some ⟨w.heap.size, 0, none⟩) 0 l.length) (l.take 0)) := ⟨hR⟩
 have hb1 : Qb (Below w.heap.size w (w.alloc (.cells (madeCells #[.string ⟨#[]⟩] l.length) 9))) := ⟨hb1⟩
 have hC9 := Qb.mk hC
 clear hC hown
 go_enter Tryd.func59, Tryd.ntmps59
 go_wp2
 go_loopg [3, 4] (l.length + 1) (fun kq v3 v4 w' => ∃ (i : Nat) (A1 : Option Addr) (c1 m1 : Nat), v3 = .slice A1 m1 c1 ∧ v4 = .int .i64 (i : Int) ∧ i + kq = l.length + 1 ∧ 1 ≤ kq ∧ Qb (m1 = i) ∧ Qb (Kd.R Kd.string 9 w' w.heap.size (fun _ => True) (.slice A1 m1 c1) (l.take i)) ∧ Qb (Below w.heap.size w w'))
 case atStart => exact ⟨0, _, _, _, rfl, rfl, by omega, by omega, ⟨rfl⟩, hR, hb1⟩
 case round =>
  obtain ⟨i, A1, c1, m1, rfl, rfl, hi, hk, hm, hRr, hBr⟩ := hrel
  by_cases hlt : i < l.length
  ·obtain ⟨ad, rfl, hv⟩ := at_str (Kd.Qj hC9.out hBr.out) i hlt hlt
   have p0 : (0 : Int) ≤ (i : Int) := by omega
   have q0 : (i : Int) < (l.length : Int) := by omega
   have q1 : decide ((i : Int) < (l.length : Int)) = true := decide_eq_true q0
   have htk : Qb (l.take (i + 1) = l.take i ++ [l[i]]) := ⟨by simp [List.take_append_getElem, hlt]⟩
   have hL : Qb (((l.take i).length + 1) * 16 ≤ 140737488355328) := ⟨by rw [List.length_take]; omega⟩
   generalize l[i] = s at *
   go_wp2_with (first | ((with_reducible refine Zi (b := .append) (xs := #[.tmp 14, .tmp 19]) rfl ?_); at_builtin; go_loud (refine Kd.R_append Kd.string (w0 := w) w.heap.size rfl (.tmp 14) (.tmp 19) 25 9 (.string ⟨#[]⟩) 16 rfl Tryd.underlying25 infS rfl (by decide) (by decide) (.slice A1 m1 c1) (l.take i) s [.string s] (fun _ => True) (fun _ => False) rfl rfl ?aP (fun _ hk => hk.elim) (fun _ _ => trivial) ?aO ?aB ?aS ?aL ?_); (case aP => exact rfl); (case aO => exact hRr.out); (case aB => exact hBr.out); (case aS => exact hBr.out.size); (case aL => exact hL.out); intro v3 w3 hr3 hb3 hg3 hat3; obtain ⟨A3, c3, hv3⟩ := Kd.Z8 hr3; rw [List.length_append, List.length_singleton, List.length_take, Nat.min_eq_left (by omega)] at hv3; subst hv3; rw [← htk.out] at hr3; have hr3 := Qb.mk hr3; have hb3 := Qb.mk hb3; clear hg3 hat3))
   go_roundg (gk - 1)
   case measure => omega
   case rel => exact ⟨i + 1, A3, c3, i + 1, rfl, by go_num, by omega, by omega, ⟨rfl⟩, hr3, hb3⟩
  ·have q1 : decide ((i : Int) < (l.length : Int)) = false := decide_eq_false (by omega)
   have hall : l.take i = l := List.take_of_length_le (by omega)
   have hfin := Qb.mk (hall ▸ hRr.out)
   go_wp2
   go_ret
   exact ⟨_, rfl, hfin.out, hBr.out⟩
theorem ZJ.calls (A0 : Option Addr) (c0 : Nat) (l0 r : List ByteArray) (w : World) (hr0 : Kd.C Kd.string w A0 l0.length l0) (hc0 : l0.length ≤ c0) (h : ZJ.f l0 = some r) :
  Calls Tryd.prog 59 #[.slice A0 l0.length c0] w fun e w' => ∃ v0_ : Value, e = .returned (v0_) ∧ Kd.R Kd.string 9 w' w.heap.size (fun _ => True) v0_ r ∧ Below w.heap.size w w' := by
 unfold ZJ.f at h
 split at h
 ·rename_i hl
  obtain rfl := Option.some.inj h
  exact texts_calls l0 w hl hr0
 ·cases h
def Vd.f (l0_0 : List S56) (l0_1 : List S34) : Option (Int × Bool × Int) := none
theorem Vd.calls (A0_0 : Option Addr) (c0_0 : Nat) (l0_0 : List S56) (A0_1 : Option Addr) (c0_1 : Nat) (l0_1 : List S34) (r1 : Int) (r2 : Bool) (r3 : Int) (w : World) (hr0_0 : Kd.C k56 w A0_0 l0_0.length l0_0) (hc0_0 : l0_0.length ≤ c0_0) (hr0_1 : Kd.C k34 w A0_1 l0_1.length l0_1) (hc0_1 : l0_1.length ≤ c0_1) (h : Vd.f l0_0 l0_1 = some (r1, r2, r3)) :
  Calls Tryd.prog 34 #[.agg #[.slice A0_0 l0_0.length c0_0, .slice A0_1 l0_1.length c0_1]] w fun e w' => e = .returned (.agg #[.int .i64 r1, .bool r2, .int .i64 r3]) ∧ Below w.heap.size w w' := by
 cases h
end Go.Proofs.YtlgpoigbadajnaaDoor.Ext

