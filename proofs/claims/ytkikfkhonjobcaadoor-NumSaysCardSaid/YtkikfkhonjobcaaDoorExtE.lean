/- What the calls of num.Text and num.Parse come to: a number's decimal numeral; the number of a text, or api.ErrNumber. Condition: the library's table of powers of ten reads as it is laid, and the variables strconv.ErrSyntax, strconv.ErrRange, api.ErrNumber hold errors ('ad' tells where an error of api's lies, by its number). -/
import Derived.Test.YtkikfkhonjobcaaDoorExt
import Derived.Test.YtkikfkhonjobcaaDoorShelfE
import Derived.Lib.ParseIntBTie
import Derived.LaidLaws
namespace Go.Proofs.YtkikfkhonjobcaaDoor.ExtE
open Go.RowKit Go.Proofs.YtkikfkhonjobcaaDoorW.PrintWords
set_option linter.unusedVariables false

/-- An error as it lies in memory: nil, or a pointer to where 'ad' tells. -/
def errW (ad : Int → Addr) : Option Int → Value
  | none => .nilIface
  | some c => .iface 93 (.pointer (some (ad c)))
theorem errW_none (ad : Int → Addr) : errW ad none = .nilIface := rfl
theorem errW_some (ad : Int → Addr) (c : Int) : errW ad (some c) = .iface 93 (.pointer (some (ad c))) := rfl

theorem gNum : Tryd.prog.globalNamed "gristmill/api.ErrNumber" = some 0 := by kernel_rfl
theorem gSyn : Tryd.prog.globalNamed "strconv.ErrSyntax" = some 1 := by kernel_rfl
theorem gRng : Tryd.prog.globalNamed "strconv.ErrRange" = some 2 := by kernel_rfl
structure GG (ad : Int → Addr) (w : World) : Prop where
  pow : Ext.GG w
  syn : ∃ tp p, w.var? Tryd.prog "strconv.ErrSyntax" = some #[.iface tp p]
  rng : ∃ tp p, w.var? Tryd.prog "strconv.ErrRange" = some #[.iface tp p]
  num : w.var? Tryd.prog "gristmill/api.ErrNumber" = some #[errW ad (some 118)]
theorem GG.below {ad : Int → Addr} {w W : World} (h : GG ad w) (hb : Below w.heap.size w W) : GG ad W := by
  have hl := h.pow.lt
  obtain ⟨tp, p, hs⟩ := h.syn
  obtain ⟨tq, q, hr⟩ := h.rng
  exact ⟨h.pow.below hb, ⟨tp, p, var?_below hb gSyn (by omega) hs⟩, ⟨tq, q, var?_below hb gRng (by omega) hr⟩, var?_below hb gNum (by omega) h.num⟩
theorem GG.drewN {ad : Int → Addr} {w : World} (h : GG ad w) (n : Nat) : GG ad (w.drewN n) := h.below ⟨rfl, rfl, rfl, Nat.le_refl _, fun _ _ => rfl⟩

/-! ### num.divide -/
def num_divide.f (a0 : ByteArray) (a1 a2 : Int) : Option (Int × Int × Bool) := Ext.num_divide.f a0 a1 a2
theorem num_divide.calls (a0 : ByteArray) (a1 a2 : Int) (r1 r2 : Int) (r3 : Bool) (w : World) (h : num_divide.f a0 a1 a2 = some (r1, r2, r3)) :
    Calls Tryd.prog 25 #[.string a0, .int .i64 a1, .int .i64 a2] w fun e w' => e = .returned (.tuple #[.int .i64 r1, .int .i64 r2, .bool r3]) ∧ Below w.heap.size w w' := Ext.num_divide.calls a0 a1 a2 r1 r2 r3 w h

/-! ### num.Text -/
def num_Text.f (a0 : Int) : Option ByteArray := Ext.strconv_FormatInt.f a0 10
theorem num_Text.calls {ad : Int → Addr} (a0 : Int) (r : ByteArray) (w : World) (hGG : GG ad w) (h : num_Text.f a0 = some r) :
    Calls Tryd.prog 15 #[.int .i64 a0] w fun e w' => e = .returned (.string r) ∧ Below w.heap.size w w' := by
  unfold num_Text.f at h
  go_enter Tryd.func15, Tryd.ntmps15
  go_wp2_with (go_at_call 29; refine (Ext.strconv_FormatInt.calls a0 10 r _ hGG.pow h).mono ?_; rintro e w' ⟨rfl, hb⟩)
  go_ret
  exact ⟨rfl, hb⟩

/-! ### num.Parse -/
def num_Parse.f (a0 : ByteArray) : Option (Int × Option Int) :=
  if a0.size ≤ 281474976710656 then
    (match Lib.parseIntB 64 a0.data.toList with
    | .ok v => if Lib.itoa v = a0.data.toList then some (v, none) else some (0, some 118)
    | _ => some (0, some 118))
  else none

theorem parse_err {ad : Int → Addr} (a0 : ByteArray) (n : Int) (W : World) (hGG : GG ad W)
    (hc : Calls Tryd.prog 28 #[.string a0, .int .i64 10, .int .i64 64] W fun e w' => ∃ N, e = .returned (.tuple #[.int .i64 n, .iface 60 (.pointer (some ⟨N, 0, none⟩))]) ∧ Below W.heap.size W w') :
    Calls Tryd.prog 14 #[.string a0] W fun e w' => e = .returned (.tuple #[.int .i64 0, errW ad (some 118)]) ∧ Below W.heap.size W w' := by
  go_enter Tryd.func14, Tryd.ntmps14
  go_wp2_with (go_at_call 28; refine hc.mono ?_; rintro e w' ⟨N, rfl, hb⟩; have hv := (hGG.below hb).num; have hcell := World.var?_cell gNum hv 0; simp only [List.getElem?_toArray, List.getElem?_cons_zero] at hcell)
  repeat (go_quiet (fail); try go_wp2)
  go_ret2
  exact ⟨rfl, by repeat (first | exact hb | apply pw_below_drewN)⟩
theorem parse_ok {ad : Int → Addr} (a0 : ByteArray) (v : Int) (hs : a0.size ≤ 281474976710656) (hp : Lib.parseIntB 64 a0.data.toList = .ok v) (r : Int × Option Int) (hr : (if Lib.itoa v = a0.data.toList then (v, none) else (0, some 118)) = r) (W : World) (hGG : GG ad W) :
    Calls Tryd.prog 14 #[.string a0] W fun e w' => e = .returned (.tuple #[.int .i64 r.1, errW ad r.2]) ∧ Below W.heap.size W w' := by
  have hvb := Lib.parseIntB_bounds hp
  have e63 : ((2 ^ (64 - 1) : Nat) : Int) = 9223372036854775808 := by decide
  rw [e63] at hvb
  have ht : num_Text.f v = some (⟨(Lib.itoa v).toArray⟩ : ByteArray) := by
    unfold num_Text.f Ext.strconv_FormatInt.f
    rw [if_pos rfl, if_pos hvb.1, if_pos (by omega)]
  have hl : (⟨(Lib.itoa v).toArray⟩ : ByteArray).toList = Lib.itoa v := ByteArray.toList_mk _
  have hl2 : a0.toList = a0.data.toList := ByteArray.toList_eq a0
  have hw : ∀ w' : World, (w' = W ∨ ∃ t, w' = Lib.bytesWorld W 5 t) → Below W.heap.size W w' := by
    rintro w' (rfl | ⟨t, rfl⟩)
    · exact Below.refl _ _
    · exact Lib.bytesWorld_below _ _ _
  by_cases hq : Lib.itoa v = a0.data.toList
  · rw [if_pos hq] at hr
    subst hr
    have hne : ((⟨(Lib.itoa v).toArray⟩ : ByteArray).toList != a0.toList) = false := by rw [hl, hl2, hq]; simp
    go_enter Tryd.func14, Tryd.ntmps14
    go_wp2_with (first | (go_at_call 28; refine (Tryd.strconv_ParseInt_10_at64_ok a0 (by omega) v hp _).mono ?_; rintro e w' ⟨rfl, hw0⟩; have hb := hw w' hw0; have hG2 := hGG.below hb; clear hw0) | (go_at_call 15; refine (num_Text.calls v _ _ hG2 ht).mono ?_; rintro e w'' ⟨rfl, hb2⟩))
    go_ret2
    exact ⟨rfl, below_step hb hb2⟩
  · rw [if_neg hq] at hr
    subst hr
    have hne : ((⟨(Lib.itoa v).toArray⟩ : ByteArray).toList != a0.toList) = true := by rw [hl, hl2]; simpa using hq
    have hbe : (Lib.itoa v == a0.data.toList) = false := by simpa using hq
    go_enter Tryd.func14, Tryd.ntmps14
    go_wp2_with (first | (go_at_call 28; refine (Tryd.strconv_ParseInt_10_at64_ok a0 (by omega) v hp _).mono ?_; rintro e w' ⟨rfl, hw0⟩; have hb := hw w' hw0; have hG2 := hGG.below hb; clear hw0) | (go_at_call 15; refine (num_Text.calls v _ _ hG2 ht).mono ?_; rintro e w'' ⟨rfl, hb2⟩; have hv := (hG2.below hb2).num; have hcell := World.var?_cell gNum hv 0; simp only [List.getElem?_toArray, List.getElem?_cons_zero] at hcell))
    repeat (go_quiet (fail); try go_wp2)
    go_ret2
    exact ⟨rfl, by repeat (first | exact below_step hb hb2 | apply pw_below_drewN)⟩

theorem num_Parse.calls {ad : Int → Addr} (a0 : ByteArray) (r1 : Int) (r2 : Option Int) (w : World) (hGG : GG ad w) (h : num_Parse.f a0 = some (r1, r2)) :
    Calls Tryd.prog 14 #[.string a0] w fun e w' => e = .returned (.tuple #[.int .i64 r1, errW ad r2]) ∧ Below w.heap.size w w' := by
  unfold num_Parse.f at h
  by_cases hs : a0.size ≤ 281474976710656
  · rw [if_pos hs] at h
    cases hp : Lib.parseIntB 64 a0.data.toList with
    | ok v =>
      rw [hp] at h
      refine parse_ok a0 v hs hp (r1, r2) ?_ w hGG
      by_cases hq : Lib.itoa v = a0.data.toList
      · simp only [if_pos hq] at h ⊢
        exact Option.some.inj h
      · simp only [if_neg hq] at h ⊢
        exact Option.some.inj h
    | «syntax» =>
      rw [hp] at h
      simp only [Option.some.injEq, Prod.mk.injEq] at h
      obtain ⟨rfl, rfl⟩ := h
      obtain ⟨tp, p, hv⟩ := hGG.syn
      exact parse_err a0 _ w hGG ((Tryd.strconv_ParseInt_10_at64_syntax_var a0 hs hp tp p w hv).mono fun e w' ⟨N, he, _, _, hb⟩ => ⟨N, he, hb⟩)
    | range =>
      rw [hp] at h
      simp only [Option.some.injEq, Prod.mk.injEq] at h
      obtain ⟨rfl, rfl⟩ := h
      obtain ⟨tp, p, hv⟩ := hGG.rng
      exact parse_err a0 _ w hGG ((Tryd.strconv_ParseInt_10_at64_range_var a0 hs hp tp p w hv).mono fun e w' ⟨N, he, _, _, hb⟩ => ⟨N, he, hb⟩)
  · rw [if_neg hs] at h
    cases h
end Go.Proofs.YtkikfkhonjobcaaDoor.ExtE
