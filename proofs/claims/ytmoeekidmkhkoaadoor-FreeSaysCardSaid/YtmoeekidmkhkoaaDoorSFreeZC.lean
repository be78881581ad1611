/- Texts of the walks put together: FreeZ, FreeAB, FreeAC. Conditions: as each states. -/
import Derived.Test.YtmoeekidmkhkoaaDoorSFreeSX
import Derived.Test.YtmoeekidmkhkoaaDoorSFreeAA
import Derived.Test.YtmoeekidmkhkoaaDoorSPFreeF
import Derived.Laws.Strings
namespace Go.Proofs.YtmoeekidmkhkoaaDoor.FreeA
open Go.RowKit Go.Proofs.YtmoeekidmkhkoaaDoorW.PrintWords Go.Proofs.YtmoeekidmkhkoaaDoorW.PrintLast Go.Proofs.YtmoeekidmkhkoaaDoorW.PrintMore Go.Proofs.YtmoeekidmkhkoaaDoor.PFreeA
set_option linter.unusedVariables false
set_option linter.unusedSimpArgs false
theorem C_agree {α : Type} {d : Kd α} {w w1 : World} {A : Option Addr} {n : Nat} {xs : List α} (hK : ∀ x ∈ xs, ∀ c, d.K w x c → d.K w1 x c) (hb : ∀ k, k < w.heap.size → w1.heap[k]? = w.heap[k]?) (h : d.C w A n xs) : d.C w1 A n xs :=
 ⟨h.1, h.2.1, fun hn => by
  obtain ⟨ad, e, hc⟩ := h.2.2 hn
  refine ⟨ad, e, fun j p hj => ?_⟩
  obtain ⟨c, hs, hr, hcell⟩ := hc j p hj
  exact ⟨c, hs, hK p (List.mem_of_getElem? hj) c hr, fun i u hu => Kd.cell_heap hb (hcell i u hu)⟩⟩
theorem inj33 {f0 f2 g0 g2 : Int} {f1 g1 : ByteArray} {A3 A4 A5 B3 B4 B5 : Option Addr} {n3 n4 n5 m3 m4 m5 c3 c4 c5 d3 d4 d5 : Nat} (h : ([.int .i64 f0, .string f1, .int .i64 f2, .slice A3 n3 c3, .slice A4 n4 c4, .slice A5 n5 c5] : List Value) = [.int .i64 g0, .string g1, .int .i64 g2, .slice B3 m3 d3, .slice B4 m4 d4, .slice B5 m5 d5]) : A3 = B3 ∧ c3 = d3 ∧ A4 = B4 ∧ c4 = d4 ∧ A5 = B5 ∧ c5 = d5 := by
 simp only [List.cons.injEq, Value.slice.injEq] at h
 exact ⟨h.2.2.2.1.1, h.2.2.2.1.2.2, h.2.2.2.2.1.1, h.2.2.2.2.1.2.2, h.2.2.2.2.2.1.1, h.2.2.2.2.2.1.2.2⟩
theorem inj40 {f0 f2 g0 g2 x0 x2 y0 y2 : Int} {f1 g1 x1 y1 : ByteArray} {P Q A3 A4 A5 B3 B4 B5 : Option Addr} {n m p q n3 n4 n5 m3 m4 m5 c3 c4 c5 d3 d4 d5 : Nat} (h : ([.int .i64 x0, .string x1, .int .i64 x2, .slice P n p, .int .i64 f0, .string f1, .int .i64 f2, .slice A3 n3 c3, .slice A4 n4 c4, .slice A5 n5 c5] : List Value) = [.int .i64 y0, .string y1, .int .i64 y2, .slice Q m q, .int .i64 g0, .string g1, .int .i64 g2, .slice B3 m3 d3, .slice B4 m4 d4, .slice B5 m5 d5]) : (P = Q ∧ p = q) ∧ A3 = B3 ∧ c3 = d3 ∧ A4 = B4 ∧ c4 = d4 ∧ A5 = B5 ∧ c5 = d5 := by
 simp only [List.cons.injEq, Value.slice.injEq] at h
 exact ⟨⟨h.2.2.2.1.1, h.2.2.2.1.2.2⟩, h.2.2.2.2.2.2.2.1.1, h.2.2.2.2.2.2.2.1.2.2, h.2.2.2.2.2.2.2.2.1.1, h.2.2.2.2.2.2.2.2.1.2.2, h.2.2.2.2.2.2.2.2.2.1.1, h.2.2.2.2.2.2.2.2.2.1.2.2⟩
theorem k33_agree {w w1 : World} (hb : ∀ k, k < w.heap.size → w1.heap[k]? = w.heap[k]?) : ∀ (m : Nat) (x : S33), cost x ≤ m → ∀ c, k33.K w x c → k33.K w1 x c
 | 0, x, hc => by have := cost_eq x; omega
 | m + 1, x, hc => by
  intro c h
  obtain ⟨A3, c3, A4, c4, A5, c5, rfl, l3, g3, l4, g4, l5, g5⟩ := k33_open h
  refine k33_mk w1 x l3 (Kd.heap_string.C hb g3) l4 (C_agree (fun y hy c h => k33_agree hb m y (by have := cost_mem hy; omega) c h) hb g4) l5 (C_agree (fun a ha c h => ?_) hb g5)
  obtain ⟨P3, p3, A7, c7, A8, c8, A9, c9, rfl, l3, g3, l7, g7, l8, g8, l9, g9⟩ := k40_open h
  have h4 := k33_agree hb m a.f4 (by have := cost_memA ha; omega) _ (k33_mk w a.f4 l7 g7 l8 g8 l9 g9)
  obtain ⟨B7, b7, B8, b8, B9, b9, e, q7, r7, q8, r8, q9, r9⟩ := k33_open h4
  obtain ⟨rfl, rfl, rfl, rfl, rfl, rfl⟩ := inj33 e
  exact k40_mk w1 a l3 (Kd.heap_string.C hb g3) q7 r7 q8 r8 q9 r9
theorem heap33 : Kd.Heap k33 := ⟨fun hb h => k33_agree hb _ _ (Nat.le_refl _) _ h⟩
theorem heap40 : Kd.Heap k40 := ⟨fun {w w1 x cs} hb h => by
 obtain ⟨P3, p3, A7, c7, A8, c8, A9, c9, rfl, l3, g3, l7, g7, l8, g8, l9, g9⟩ := k40_open h
 obtain ⟨B7, b7, B8, b8, B9, b9, e, q7, r7, q8, r8, q9, r9⟩ := k33_open (heap33.K hb (k33_mk w x.f4 l7 g7 l8 g8 l9 g9))
 obtain ⟨rfl, rfl, rfl, rfl, rfl, rfl⟩ := inj33 e
 exact k40_mk w1 x l3 (Kd.heap_string.C hb g3) q7 r7 q8 r8 q9 r9⟩
structure Fp (W : World) (ok : Nat → Prop) (e : S33) (A3 A4 A5 : Option Addr) (c3 c4 c5 : Nat) : Prop where
 f3 : Kd.F Kd.string W ok A3 e.f3.length e.f3
 m3 : e.f3.length ≤ c3
 f4 : Kd.F k33 W ok A4 e.f4.length e.f4
 m4 : e.f4.length ≤ c4
 f5 : Kd.F k40 W ok A5 e.f5.length e.f5
 m5 : e.f5.length ≤ c5
section
variable {W W1 : World} {ok ok' : Nat → Prop} {e : S33} {A3 A4 A5 : Option Addr} {c3 c4 c5 : Nat}
theorem Fp.below (h : Fp W ok e A3 A4 A5 c3 c4 c5) (hb : Below W.heap.size W W1) : Fp W1 ok e A3 A4 A5 c3 c4 c5 := ⟨Kd.F_below h.f3 hb, h.m3, Kd.F_below h.f4 hb, h.m4, Kd.F_below h.f5 hb, h.m5⟩
theorem Fp.mono (h : Fp W ok e A3 A4 A5 c3 c4 c5) (hb : ∀ k, ok k → ok' k) : Fp W ok' e A3 A4 A5 c3 c4 c5 := ⟨Kd.F_mono h.f3 hb, h.m3, Kd.F_mono h.f4 hb, h.m4, Kd.F_mono h.f5 hb, h.m5⟩
theorem Fp.upto {b : Nat} (h : Fp W ok e A3 A4 A5 c3 c4 c5) (hok : ∀ k, ok k → k < b) (hb : Below b W W1) : Fp W1 ok e A3 A4 A5 c3 c4 c5 := ⟨F_upto h.f3 hok hb, h.m3, F_upto h.f4 hok hb, h.m4, F_upto h.f5 hok hb, h.m5⟩
theorem Fp.far (h : Fp W ok e A3 A4 A5 c3 c4 c5) {p : Addr} (hp : ∀ k, ok k → k ≠ p.block) (v : Value) : Fp (W.setCell p v) ok e A3 A4 A5 c3 c4 c5 := ⟨Kd.F_far h.f3 hp v, h.m3, Kd.F_far h.f4 hp v, h.m4, Kd.F_far h.f5 hp v, h.m5⟩
theorem Fp.in (h : Fp W ok e A3 A4 A5 c3 c4 c5) : In W e A3 A4 A5 c3 c4 c5 := ⟨Kd.F_now h.f3, h.m3, Kd.F_now h.f4, h.m4, Kd.F_now h.f5, h.m5⟩
theorem In.fp (h : In W e A3 A4 A5 c3 c4 c5) : Fp W (fun k => k < W.heap.size) e A3 A4 A5 c3 c4 c5 := ⟨Kd.C_F Kd.heap_string h.h3, h.m3, Kd.C_F heap33 h.h4, h.m4, Kd.C_F heap40 h.h5, h.m5⟩
theorem Fp.K (h : Fp W ok e A3 A4 A5 c3 c4 c5) : Kd.FK k33 W ok e [.int .i64 e.f0, .string e.f1, .int .i64 e.f2, .slice A3 e.f3.length c3, .slice A4 e.f4.length c4, .slice A5 e.f5.length c5] := fun W' hW => k33_mk W' e h.m3 (h.f3 W' hW) h.m4 (h.f4 W' hW) h.m5 (h.f5 W' hW)
theorem Fp.K40 (h : Fp W ok e A3 A4 A5 c3 c4 c5) {t n : Int} {nm : ByteArray} {ns : List ByteArray} {A : Option Addr} {c : Nat} (hn : Kd.F Kd.string W ok A ns.length ns) (hc : ns.length ≤ c) : Kd.FK k40 W ok ⟨t, nm, n, ns, e⟩ [.int .i64 t, .string nm, .int .i64 n, .slice A ns.length c, .int .i64 e.f0, .string e.f1, .int .i64 e.f2, .slice A3 e.f3.length c3, .slice A4 e.f4.length c4, .slice A5 e.f5.length c5] := fun W' hW => k40_mk W' ⟨t, nm, n, ns, e⟩ hc (hn W' hW) h.m3 (h.f3 W' hW) h.m4 (h.f4 W' hW) h.m5 (h.f5 W' hW)
theorem FK33_open {x : S33} {c : List Value} (h : Kd.FK k33 W ok x c) : ∃ A3 c3 A4 c4 A5 c5, c = [.int .i64 x.f0, .string x.f1, .int .i64 x.f2, .slice A3 x.f3.length c3, .slice A4 x.f4.length c4, .slice A5 x.f5.length c5] ∧ Fp W ok x A3 A4 A5 c3 c4 c5 := by
 obtain ⟨A3, c3, A4, c4, A5, c5, rfl, l3, g3, l4, g4, l5, g5⟩ := k33_open (Kd.FK_now h)
 have hh : ∀ W' : World, (∀ k, ok k → k < W.heap.size → W'.heap[k]? = W.heap[k]?) → Kd.C Kd.string W' A3 x.f3.length x.f3 ∧ Kd.C k33 W' A4 x.f4.length x.f4 ∧ Kd.C k40 W' A5 x.f5.length x.f5 := fun W' hW => by
  obtain ⟨B3, d3, B4, d4, B5, d5, e, _, q3, _, q4, _, q5⟩ := k33_open (h W' hW)
  obtain ⟨rfl, rfl, rfl, rfl, rfl, rfl⟩ := inj33 e
  exact ⟨q3, q4, q5⟩
 exact ⟨A3, c3, A4, c4, A5, c5, rfl, fun W' hW => (hh W' hW).1, l3, fun W' hW => (hh W' hW).2.1, l4, fun W' hW => (hh W' hW).2.2, l5⟩
theorem FK40_open {x : S40} {c : List Value} (h : Kd.FK k40 W ok x c) : ∃ P3 p3 A3 c3 A4 c4 A5 c5, c = [.int .i64 x.f0, .string x.f1, .int .i64 x.f2, .slice P3 x.f3.length p3, .int .i64 x.f4.f0, .string x.f4.f1, .int .i64 x.f4.f2, .slice A3 x.f4.f3.length c3, .slice A4 x.f4.f4.length c4, .slice A5 x.f4.f5.length c5] ∧ Kd.F Kd.string W ok P3 x.f3.length x.f3 ∧ x.f3.length ≤ p3 ∧ Fp W ok x.f4 A3 A4 A5 c3 c4 c5 := by
 obtain ⟨P3, p3, A3, c3, A4, c4, A5, c5, rfl, l, g, l3, g3, l4, g4, l5, g5⟩ := k40_open (Kd.FK_now h)
 have hh : ∀ W' : World, (∀ k, ok k → k < W.heap.size → W'.heap[k]? = W.heap[k]?) → Kd.C Kd.string W' P3 x.f3.length x.f3 ∧ Kd.C Kd.string W' A3 x.f4.f3.length x.f4.f3 ∧ Kd.C k33 W' A4 x.f4.f4.length x.f4.f4 ∧ Kd.C k40 W' A5 x.f4.f5.length x.f4.f5 := fun W' hW => by
  obtain ⟨Q3, q, B3, d3, B4, d4, B5, d5, e, _, q0, _, q3, _, q4, _, q5⟩ := k40_open (h W' hW)
  obtain ⟨⟨rfl, rfl⟩, rfl, rfl, rfl, rfl, rfl, rfl⟩ := inj40 e
  exact ⟨q0, q3, q4, q5⟩
 exact ⟨P3, p3, A3, c3, A4, c4, A5, c5, rfl, fun W' hW => (hh W' hW).1, l, fun W' hW => (hh W' hW).2.1, l3, fun W' hW => (hh W' hW).2.2.1, l4, fun W' hW => (hh W' hW).2.2.2, l5⟩
theorem Fp.of {A : Option Addr} {n : Nat} {l : List S33} (hF : Kd.F k33 W ok A n l) (i : Nat) {x : S33} (hx : l[i]? = some x) : ∃ ad B3 d3 B4 d4 B5 d5, A = some ad ∧ EC W (ad.add (i * 6)) x B3 B4 B5 d3 d4 d5 ∧ Fp W ok x B3 B4 B5 d3 d4 d5 := by
 have hi := (List.getElem?_eq_some_iff.1 hx).1
 obtain ⟨ad, c, rfl, _, hK, hc0, _⟩ := Kd.F_get hF x (i : Int) (by omega) (by have := (Kd.F_now hF).1; omega)
 have hc : ∀ j u, c[j]? = some u → W.cell? (ad.add (i * 6 + j)) = some u := fun j u h => by have := hc0 j u h; rwa [Int.toNat_natCast] at this
 have hr : l.getD ((i : Int).toNat) x = x := by rw [Int.toNat_natCast, List.getD_eq_getElem?_getD, hx]; rfl
 rw [hr] at hK
 obtain ⟨A3, c3, A4, c4, A5, c5, rfl, hP⟩ := FK33_open hK
 exact ⟨ad, A3, c3, A4, c4, A5, c5, rfl, ⟨hc 0 _ rfl, by rw [← add_field _ _ 1 (by omega)]; exact hc 1 _ rfl, by rw [← add_field _ _ 2 (by omega)]; exact hc 2 _ rfl, by rw [← add_field _ _ 3 (by omega)]; exact hc 3 _ rfl, by rw [← add_field _ _ 4 (by omega)]; exact hc 4 _ rfl, by rw [← add_field _ _ 5 (by omega)]; exact hc 5 _ rfl⟩, hP⟩
theorem Fp.of40 {A : Option Addr} {n : Nat} {l : List S40} (hF : Kd.F k40 W ok A n l) (i : Nat) {x : S40} (hx : l[i]? = some x) : ∃ ad P3 p3 B3 d3 B4 d4 B5 d5, A = some ad ∧ AC W (ad.add (i * 10)) x P3 B3 B4 B5 p3 d3 d4 d5 ∧ Kd.F Kd.string W ok P3 x.f3.length x.f3 ∧ x.f3.length ≤ p3 ∧ Fp W ok x.f4 B3 B4 B5 d3 d4 d5 := by
 have hi := (List.getElem?_eq_some_iff.1 hx).1
 obtain ⟨ad, c, rfl, _, hK, hc0, _⟩ := Kd.F_get hF x (i : Int) (by omega) (by have := (Kd.F_now hF).1; omega)
 have hc : ∀ j u, c[j]? = some u → W.cell? (ad.add (i * 10 + j)) = some u := fun j u h => by have := hc0 j u h; rwa [Int.toNat_natCast] at this
 have hr : l.getD ((i : Int).toNat) x = x := by rw [Int.toNat_natCast, List.getD_eq_getElem?_getD, hx]; rfl
 rw [hr] at hK
 obtain ⟨P3, p3, A3, c3, A4, c4, A5, c5, rfl, g, l3, hP⟩ := FK40_open hK
 exact ⟨ad, P3, p3, A3, c3, A4, c4, A5, c5, rfl, ⟨hc 0 _ rfl, by rw [← add_field _ _ 1 (by omega)]; exact hc 1 _ rfl, by rw [← add_field _ _ 2 (by omega)]; exact hc 2 _ rfl, by rw [← add_field _ _ 3 (by omega)]; exact hc 3 _ rfl, by rw [← add_field _ _ 4 (by omega)]; exact hc 4 _ rfl, by rw [← add_field _ _ 5 (by omega)]; exact hc 5 _ rfl, by rw [← add_field _ _ 6 (by omega)]; exact hc 6 _ rfl, by rw [← add_field _ _ 7 (by omega)]; exact hc 7 _ rfl, by rw [← add_field _ _ 8 (by omega)]; exact hc 8 _ rfl, by rw [← add_field _ _ 9 (by omega)]; exact hc 9 _ rfl⟩, g, l3, hP⟩
end
def NH {α : Type} (d : Kd α) (e : Nat) (W : World) (bb b : Nat) (A : Option Addr) (n c : Nat) (xs : List α) : Prop := xs.length = n ∧ (∀ k, (Value.slice A n c).ownBlock = some k → b ≤ k) ∧ Kd.N d e W b (fun k => k < bb ∨ b ≤ k) (.slice A n c) xs
section
variable {α : Type} {d : Kd α} {e : Nat} {W W1 : World} {bb b n c : Nat} {A : Option Addr} {xs : List α}
theorem NH.nil (W : World) (bb b : Nat) : NH d e W bb b none 0 0 [] := ⟨rfl, fun k hk => by simp [Value.ownBlock] at hk, Kd.N_nil _ _ _ _ _⟩
theorem NH.below (h : NH d e W bb b A n c xs) (hb : Below W.heap.size W W1) : NH d e W1 bb b A n c xs := ⟨h.1, h.2.1, Kd.N_below h.2.2 hb⟩
theorem NH.lt (h : NH d e W bb b A n c xs) : ∀ k, (Value.slice A n c).ownBlock = some k → k < W.heap.size := Kd.N_lt h.2.2
theorem NH.F (h : NH d e W bb b A n c xs) : Kd.F d W (fun k => k < bb ∨ b ≤ k) A xs.length xs ∧ xs.length ≤ c := by
 have h1 := Kd.N_F h.2.2
 have h2 := (Kd.N_reads' h.2.2).2.1
 rw [h.1]
 exact ⟨h1, h2⟩
variable {P : Program} {ops : Array Oper} {rest : List Oper} {o : Oper} {a : Act} {Q : Exit → Act → World → Prop} {Kc : Act → World → Prop}
theorem NH.app_step (d : Kd α) {w0 : World} (bb b : Nat) (hw : Region.wanted o (yielded ops a.tmps) = true) (s x : Operand) (t e : TypeId) (z : Value) (bytes : Nat) (ho : o.op = .call { callee := .builtin .append, args := #[s, x], argTypes := #[t, t] })
  (ht : P.underlying t = some (.slice e)) (hinfo : (P.info? e).map (fun i => (i.zero, i.size, i.bytes)) = some (some z, d.sz, bytes)) (hz : z.cells.size = d.sz) (hs0 : 0 < d.sz) (hb0 : 0 < bytes) (hby : bytes ≤ 200)
  {p : α} {cs : List Value} {q : Nat} (hs : a.eval s = .slice A n c) (hx : a.eval x = .slice (some ⟨W.heap.size, 0, none⟩) 1 1) (HO : NH d e W bb b A n c xs) (hp : Kd.FK d W (fun k => k < bb ∨ q ≤ k) p cs) (hq : ∀ k, (Value.slice A n c).ownBlock = some k → k < q) (hbb : bb ≤ b) (hbq : b ≤ q) (HB : Below b w0 W) (hbase : b ≤ W.heap.size) (hl : n ≤ 100000000000)
  (h : ∀ A3 c3 w3, NH d e w3 bb b A3 (n + 1) c3 (xs ++ [p]) → Below b w0 w3 → Kc (a.put o.dst (.slice A3 (n + 1) c3)) w3) :
  if Region.wanted o (yielded ops a.tmps) = true then Oper.wp P o a (W.alloc (.cells cs.toArray e)) Kc Q else Kc (a.put o.dst undef) (W.alloc (.cells cs.toArray e)) := by
 refine Kd.N_append_step d (w0 := w0) b hw s x t e z bytes ho ht hinfo hz hs0 hb0 (.slice A n c) xs p cs (fun k => k < bb ∨ b ≤ k) (fun k => k < bb ∨ q ≤ k) hs hx hp (fun k hk => ⟨hk.imp id (Nat.le_trans hbq), fun e => by have h1 := hq k e.symm; have h2 := HO.2.1 k e.symm; omega⟩) (fun k hk => .inr (Nat.le_trans hbase hk)) HO.2.2 HB hbase (by rw [HO.1]; have h1 : (n + 1) * bytes ≤ (n + 1) * 200 := Nat.mul_le_mul_left _ hby; omega) ?_
 intro v1 w1 hn hb hg hat
 obtain ⟨A3, c3, hv⟩ := Kd.N_slice hn
 have hl3 : (xs ++ [p]).length = n + 1 := by simp [HO.1]
 rw [hl3] at hv
 subst hv
 exact h A3 c3 w1 ⟨hl3, fun k hk => by rcases hat with h1 | ⟨b1, h1, h2⟩; exact HO.2.1 k (h1 ▸ hk); (rw [hk] at h1; obtain rfl := Option.some.inj h1; omega), hn⟩ hb
theorem NH.app (d : Kd α) {w0 : World} (bb b : Nat) (hgd : o.guard = none) (s x : Operand) (t e : TypeId) (z : Value) (bytes : Nat) (ho : o.op = .call { callee := .builtin .append, args := #[s, x], argTypes := #[t, t] })
  (ht : P.underlying t = some (.slice e)) (hinfo : (P.info? e).map (fun i => (i.zero, i.size, i.bytes)) = some (some z, d.sz, bytes)) (hz : z.cells.size = d.sz) (hs0 : 0 < d.sz) (hb0 : 0 < bytes) (hby : bytes ≤ 200)
  {p : α} {cs : List Value} {q : Nat} (hs : a.eval s = .slice A n c) (hx : a.eval x = .slice (some ⟨W.heap.size, 0, none⟩) 1 1) (HO : NH d e W bb b A n c xs) (hp : Kd.FK d W (fun k => k < bb ∨ q ≤ k) p cs) (hq : ∀ k, (Value.slice A n c).ownBlock = some k → k < q) (hbb : bb ≤ b) (hbq : b ≤ q) (HB : Below b w0 W) (hbase : b ≤ W.heap.size) (hl : n ≤ 100000000000)
  (h : ∀ A3 c3 w3, NH d e w3 bb b A3 (n + 1) c3 (xs ++ [p]) → Below b w0 w3 → wpList P ops Q rest (a.put o.dst (.slice A3 (n + 1) c3)) w3) :
  wpList P ops Q (o :: rest) a (W.alloc (.cells cs.toArray e)) := by
 refine Kd.N_append d (w0 := w0) b hgd s x t e z bytes ho ht hinfo hz hs0 hb0 (.slice A n c) xs p cs (fun k => k < bb ∨ b ≤ k) (fun k => k < bb ∨ q ≤ k) hs hx hp (fun k hk => ⟨hk.imp id (Nat.le_trans hbq), fun e => by have h1 := hq k e.symm; have h2 := HO.2.1 k e.symm; omega⟩) (fun k hk => .inr (Nat.le_trans hbase hk)) HO.2.2 HB hbase (by rw [HO.1]; have h1 : (n + 1) * bytes ≤ (n + 1) * 200 := Nat.mul_le_mul_left _ hby; omega) ?_
 intro v1 w1 hn hb hg hat
 obtain ⟨A3, c3, hv⟩ := Kd.N_slice hn
 have hl3 : (xs ++ [p]).length = n + 1 := by simp [HO.1]
 rw [hl3] at hv
 subst hv
 exact h A3 c3 w1 ⟨hl3, fun k hk => by rcases hat with h1 | ⟨b1, h1, h2⟩; exact HO.2.1 k (h1 ▸ hk); (rw [hk] at h1; obtain rfl := Option.some.inj h1; omega), hn⟩ hb
end
theorem Fp.far6 {W : World} {ok : Nat → Prop} {e : S33} {A3 A4 A5 : Option Addr} {c3 c4 c5 : Nat} (h : Fp W ok e A3 A4 A5 c3 c4 c5) {q : Nat} (hq : ∀ k, ok k → k ≠ q) (v0 v1 v2 v3 v4 v5 : Value) : Fp ((((((W.setCell ⟨q, 0, none⟩ v0).setCell ⟨q, 1, none⟩ v1).setCell ⟨q, 2, none⟩ v2).setCell ⟨q, 3, none⟩ v3).setCell ⟨q, 4, none⟩ v4).setCell ⟨q, 5, none⟩ v5) ok e A3 A4 A5 c3 c4 c5 :=
 (((((h.far (p := ⟨q, 0, none⟩) hq _).far (p := ⟨q, 1, none⟩) hq _).far (p := ⟨q, 2, none⟩) hq _).far (p := ⟨q, 3, none⟩) hq _).far (p := ⟨q, 4, none⟩) hq _).far (p := ⟨q, 5, none⟩) hq _
def RS (s : ByteArray) (y e : S33) : Prop := ∀ (w : World) (bb : Nat) {A3 A4 A5 Y3 Y4 Y5 : Option Addr} {c3 c4 c5 z3 z4 z5 : Nat}, bb ≤ w.heap.size → Fp w (fun k => k < bb) e A3 A4 A5 c3 c4 c5 → Fp w (fun k => k < bb) y Y3 Y4 Y5 z3 z4 z5 →
 Calls Tryd.prog 28 #[.agg #[.int .i64 e.f0, .string e.f1, .int .i64 e.f2, .slice A3 e.f3.length c3, .slice A4 e.f4.length c4, .slice A5 e.f5.length c5], .string s, .agg #[.int .i64 y.f0, .string y.f1, .int .i64 y.f2, .slice Y3 y.f3.length z3, .slice Y4 y.f4.length z4, .slice Y5 y.f5.length z5]] w fun r w' => ∃ B3 B4 B5 d3 d4 d5, r = .returned (.agg #[.int .i64 (cl s y e).f0, .string (cl s y e).f1, .int .i64 (cl s y e).f2, .slice B3 (cl s y e).f3.length d3, .slice B4 (cl s y e).f4.length d4, .slice B5 (cl s y e).f5.length d5]) ∧ Fp w' (fun k => k < bb ∨ w.heap.size ≤ k) (cl s y e) B3 B4 B5 d3 d4 d5 ∧ Below w.heap.size w w'
theorem RS.at {s : ByteArray} {y e z : S33} (h : RS s y e) (hz : cl s y e = z) (w : World) (bb : Nat) {A3 A4 A5 Y3 Y4 Y5 : Option Addr} {c3 c4 c5 z3 z4 z5 : Nat} (hbb : bb ≤ w.heap.size) (i1 : Fp w (fun k => k < bb) e A3 A4 A5 c3 c4 c5) (i2 : Fp w (fun k => k < bb) y Y3 Y4 Y5 z3 z4 z5) :
 Calls Tryd.prog 28 #[.agg #[.int .i64 e.f0, .string e.f1, .int .i64 e.f2, .slice A3 e.f3.length c3, .slice A4 e.f4.length c4, .slice A5 e.f5.length c5], .string s, .agg #[.int .i64 y.f0, .string y.f1, .int .i64 y.f2, .slice Y3 y.f3.length z3, .slice Y4 y.f4.length z4, .slice Y5 y.f5.length z5]] w fun r w' => ∃ B3 B4 B5 d3 d4 d5, r = .returned (.agg #[.int .i64 z.f0, .string z.f1, .int .i64 z.f2, .slice B3 z.f3.length d3, .slice B4 z.f4.length d4, .slice B5 z.f5.length d5]) ∧ Fp w' (fun k => k < bb ∨ w.heap.size ≤ k) z B3 B4 B5 d3 d4 d5 ∧ Below w.heap.size w w' := by
 subst hz
 exact h w bb hbb i1 i2
set_option maxHeartbeats 16000000 in
set_option maxRecDepth 100000 in
theorem rs_step (s : ByteArray) (y e : S33) (hl3 : e.f3.length ≤ 1000000000) (hl4 : e.f4.length ≤ 1000000000) (hl5 : e.f5.length ≤ 1000000000) (ha3 : ∀ a ∈ e.f5, a.f3.length ≤ 1000000000) (hv : e.f0 = 1 → e.f3 = [] ∧ e.f4 = [] ∧ e.f5 = []) (hap : e.f3 = [] ∨ e.f5 = []) (ih : ∀ x ∈ e.f4, RS s y x) (iha : ∀ a ∈ e.f5, RS s y a.f4) : RS s y e := by
 intro w bb A3 A4 A5 Y3 Y4 Y5 c3 c4 c5 z3 z4 z5 hbb i1 i2
 have E : ∀ W : World, ∀ o : Obj, (W.alloc o).heap.size = W.heap.size + 1 := fun W o => Array.size_push _
 obtain ⟨f0, f1, f2, l3, l4, l5⟩ := e
 dsimp only at hl3 hl4 hl5 ha3 hv hap ih iha i1 i2 ⊢
 obtain ⟨W0, hW0⟩ : ∃ W0, ((w.alloc (.cells #[.int .i64 f0, .string f1, .int .i64 f2, .slice A3 l3.length c3, .slice A4 l4.length c4, .slice A5 l5.length c5] 33)).alloc (.cells #[.int .i64 y.f0, .string y.f1, .int .i64 y.f2, .slice Y3 y.f3.length z3, .slice Y4 y.f4.length z4, .slice Y5 y.f5.length z5] 33)).alloc (.cells #[.int .i64 0, .string ⟨#[]⟩, .int .i64 0, .slice none 0 0, .slice none 0 0, .slice none 0 0] 33) = W0 := ⟨_, rfl⟩
 have hB0 : Aside0 (Below w.heap.size w W0) := ⟨by rw [← hW0]; exact below_alloc (below_alloc (below_alloc (Below.refl _ _) _) _) _⟩
 have hbx : Aside0 (W0.heap[w.heap.size]? = some (.cells #[.int .i64 f0, .string f1, .int .i64 f2, .slice A3 l3.length c3, .slice A4 l4.length c4, .slice A5 l5.length c5] 33 (0, 0))) := ⟨by rw [← hW0]; exact (Below.heap_alloc _ _ _ (by rw [E, E]; omega)).trans ((Below.heap_alloc _ _ _ (by rw [E]; omega)).trans (blk_new w _))⟩
 have hby : Aside0 (W0.heap[w.heap.size + 1]? = some (.cells #[.int .i64 y.f0, .string y.f1, .int .i64 y.f2, .slice Y3 y.f3.length z3, .slice Y4 y.f4.length z4, .slice Y5 y.f5.length z5] 33 (0, 0))) := ⟨by rw [← hW0]; refine (Below.heap_alloc _ _ _ (by rw [E, E]; omega)).trans ?_; rw [← E w]; exact blk_new _ _⟩
 have hrx : Aside0 (W0.heap[w.heap.size + 1 + 1]? = some (.cells #[.int .i64 0, .string ⟨#[]⟩, .int .i64 0, .slice none 0 0, .slice none 0 0, .slice none 0 0] 33 (0, 0))) := ⟨by rw [← hW0]; rw [← E w]; rw [← E (w.alloc _)]; exact blk_new _ _⟩
 have hsz : Aside0 (W0.heap.size = w.heap.size + 1 + 1 + 1) := ⟨by rw [← hW0, E, E, E]⟩
 have k0 := (blk_cell hbx.out 0).trans rfl
 have k1 := (blk_cell hbx.out 1).trans rfl
 have k2 := (blk_cell hbx.out 2).trans rfl
 have k3 := (blk_cell hbx.out 3).trans rfl
 have k4 := (blk_cell hbx.out 4).trans rfl
 have k5 := (blk_cell hbx.out 5).trans rfl
 have b0 := (blk_cell hby.out 0).trans rfl
 have b1 := (blk_cell hby.out 1).trans rfl
 have b2 := (blk_cell hby.out 2).trans rfl
 have b3 := (blk_cell hby.out 3).trans rfl
 have b4 := (blk_cell hby.out 4).trans rfl
 have b5 := (blk_cell hby.out 5).trans rfl
 have r0 := (blk_cell hrx.out 0).trans rfl
 have r1 := (blk_cell hrx.out 1).trans rfl
 have r2 := (blk_cell hrx.out 2).trans rfl
 have r3 := (blk_cell hrx.out 3).trans rfl
 have r4 := (blk_cell hrx.out 4).trans rfl
 have r5 := (blk_cell hrx.out 5).trans rfl
 have y0 := blk_frozen hrx.out 0
 have y1 := blk_frozen hrx.out 1
 have y2 := blk_frozen hrx.out 2
 have y3 := blk_frozen hrx.out 3
 have y4 := blk_frozen hrx.out 4
 have y5 := blk_frozen hrx.out 5
 obtain ⟨kp, hkp⟩ : ∃ b, isIn l3 s = b := ⟨_, rfl⟩
 have CC := has_g l3 hl3 rfl s hkp W0 (Kd.C_below (Kd.F_now i1.f3) hB0.out) i1.m3
 have i1 := Aside0.mk i1
 have i2 := Aside0.mk i2
 have hl := Aside0.mk (And.intro hl4 hl5)
 have hih := Aside0.mk ih
 have hiha := Aside0.mk iha
 have ha3 := Aside0.mk ha3
 have hbb := Aside0.mk hbb
 clear hl3 hl4 hl5 ih iha
 have T1 : True := trivial
 obtain ⟨p1, hp1⟩ : ∃ b, (f0 == 1) = b := ⟨_, rfl⟩
 cases p1 with
 | true =>
  have h1 := eq_of_beq hp1
  obtain ⟨rfl, rfl, rfl⟩ := hv h1
  subst h1
  clear CC
  obtain ⟨p2, hp2⟩ : ∃ b, (f1.toList == s.toList) = b := ⟨_, rfl⟩
  cases p2 with
  | true =>
   have hz : cl s y ⟨1, f1, f2, [], [], []⟩ = y := by
    rw [cl, if_pos ⟨rfl, toList_eq.1 (eq_of_beq hp2)⟩]
   rw [hz]
   clear hz hkp T1
   go_enter Tryd.func28, Tryd.ntmps28
   go_wp2
   refine bodyPost_ret (v := .agg #[.int .i64 y.f0, .string y.f1, .int .i64 y.f2, .slice Y3 y.f3.length z3, .slice Y4 y.f4.length z4, .slice Y5 y.f5.length z5]) (by simp [results, Tryd.results28, go_sem, *]) rfl ⟨Y3, Y4, Y5, z3, z4, z5, rfl, ?_, ?_⟩
   ·exact (i2.out.below (below_alloc (below_alloc (below_alloc (Below.refl _ _) _) _) _)).mono (fun k hk => Or.inl hk)
   ·exact below_alloc (below_alloc (below_alloc (Below.refl _ _) _) _) _
  | false =>
   have hz : cl s y ⟨1, f1, f2, [], [], []⟩ = ⟨1, f1, f2, [], [], []⟩ := by
    rw [cl, if_neg (fun h => by rw [toList_eq.2 h.2, beq_self_eq_true] at hp2; cases hp2)]
    simp [clL, clA]
   rw [hz]
   clear hz hkp T1
   go_enter Tryd.func28, Tryd.ntmps28
   go_wp2
   refine bodyPost_ret (v := .agg #[.int .i64 1, .string f1, .int .i64 f2, .slice A3 0 c3, .slice A4 0 c4, .slice A5 0 c5]) (by simp [results, Tryd.results28, go_sem, *]) rfl ⟨A3, A4, A5, c3, c4, c5, rfl, ?_, ?_⟩
   ·exact (i1.out.below (below_alloc (below_alloc (below_alloc (Below.refl _ _) _) _) _)).mono (fun k hk => Or.inl hk)
   ·exact below_alloc (below_alloc (below_alloc (Below.refl _ _) _) _) _
 | false =>
  have h1 : ¬ f0 = 1 := fun h => by rw [h] at hp1; cases hp1
  cases kp with
  | true =>
   have hz : cl s y ⟨f0, f1, f2, l3, l4, l5⟩ = ⟨f0, f1, f2, l3, l4, l5⟩ := by
    rw [cl, if_neg (fun h => h1 h.1), if_pos hkp]
    rcases hap with rfl | rfl
    ·simp [isIn] at hkp
    ·rfl
   rw [hz]
   clear hz hap hv
   go_enter Tryd.func28, Tryd.ntmps28
   go_wp2_with (first | (clear T1; go_at_call 12; (try rw [hW0]); go_loud (with_reducible refine CC.mono ?_); rintro e' w1 ⟨rfl, hb1⟩; clear k0 k1 k2 k3 k4 k5 b0 b1 b2 b3 b4 b5 r0 r1 r2 r3 r4 r5 y0 y1 y2 y3 y4 y5; (have r0 := (blk_cell (blk_below hrx.out hb1) 0).trans rfl); (have r1 := (blk_cell (blk_below hrx.out hb1) 1).trans rfl); (have r2 := (blk_cell (blk_below hrx.out hb1) 2).trans rfl); (have r3 := (blk_cell (blk_below hrx.out hb1) 3).trans rfl); (have r4 := (blk_cell (blk_below hrx.out hb1) 4).trans rfl); (have r5 := (blk_cell (blk_below hrx.out hb1) 5).trans rfl); (have y0 := blk_frozen (blk_below hrx.out hb1) 0); (have y1 := blk_frozen (blk_below hrx.out hb1) 1); (have y2 := blk_frozen (blk_below hrx.out hb1) 2); (have y3 := blk_frozen (blk_below hrx.out hb1) 3); (have y4 := blk_frozen (blk_below hrx.out hb1) 4); (have y5 := blk_frozen (blk_below hrx.out hb1) 5); (have k0 := (blk_cell (blk_below hbx.out hb1) 0).trans rfl); (have k1 := (blk_cell (blk_below hbx.out hb1) 1).trans rfl); (have k2 := (blk_cell (blk_below hbx.out hb1) 2).trans rfl); (have k3 := (blk_cell (blk_below hbx.out hb1) 3).trans rfl); (have k4 := (blk_cell (blk_below hbx.out hb1) 4).trans rfl); (have k5 := (blk_cell (blk_below hbx.out hb1) 5).trans rfl); have HB1 := Aside0.mk hb1; clear hb1 CC hW0; skip))
   refine bodyPost_ret (v := .agg #[.int .i64 f0, .string f1, .int .i64 f2, .slice A3 l3.length c3, .slice A4 l4.length c4, .slice A5 l5.length c5]) (by simp [results, Tryd.results28, go_sem, *]) rfl ⟨A3, A4, A5, c3, c4, c5, rfl, ?_, ?_⟩
   ·exact (Fp.far6 (q := w.heap.size + 1 + 1) ((i1.out.below hB0.out).below (HB1.out)) (fun k hk => by have := hbb.out; have := hsz.out; omega) _ _ _ _ _ _).mono (fun k hk => Or.inl hk)
   ·exact below6 (q := w.heap.size + 1 + 1) (hB0.out.trans (HB1.out.mono hB0.out.size)) (by omega) _ _ _ _ _ _
  | false =>
   have hz : cl s y ⟨f0, f1, f2, l3, l4, l5⟩ = ⟨f0, f1, f2, l3, l4.map (cl s y), l5.map (fun a => ⟨a.f0, a.f1, a.f2, a.f3, if isIn a.f3 s = true then a.f4 else cl s y a.f4⟩)⟩ := by
    rw [cl, if_neg (fun h => h1 h.1), if_neg (by rw [hkp]; decide), clA_map, clL_map]
   rw [hz]
   clear hz hap hv h1
   obtain ⟨g, hg⟩ : ∃ g, cl s y = g := ⟨_, rfl⟩
   obtain ⟨h, hh⟩ : ∃ h, (fun a : S40 => (⟨a.f0, a.f1, a.f2, a.f3, if isIn a.f3 s = true then a.f4 else cl s y a.f4⟩ : S40)) = h := ⟨_, rfl⟩
   rw [hh]
   rw [hg]
   have hg := Aside0.mk hg
   have hh := Aside0.mk hh
   go_enter Tryd.func28, Tryd.ntmps28
   go_wp2_with (first | (clear T1; go_at_call 12; (try rw [hW0]); go_loud (with_reducible refine CC.mono ?_); rintro e' w1 ⟨rfl, hb1⟩; clear r0 r1 r2 r3 r4 r5 y0 y1 y2 y3 y4 y5; have HB1 := Aside0.mk hb1; clear hb1 CC; skip))
   go_loopg [7, 8] (l4.length + 1) (fun kq v7 v8 w' => ∃ (i c : Nat) (A : Option Addr), v7 = .slice A i c ∧ v8 = .int .i64 (i : Int) ∧ i + kq = l4.length + 1 ∧ 1 ≤ kq ∧ Aside0 (NH k33 33 w' bb W0.heap.size A i c ((l4.map g).take i)) ∧ Aside0 (Below W0.heap.size W0 w'))
   case atStart => exact ⟨0, 0, none, rfl, rfl, by omega, by omega, ⟨NH.nil _ _ _⟩, HB1⟩
   case round =>
    clear HB1 k0 k1 k2 k3 k4 k5 b0 b1 b2 b3 b4 b5 hW0
    obtain ⟨i, c, A, rfl, rfl, hi, hk, hR, hB⟩ := hrel
    have hBw : Aside0 (Below w.heap.size w wr) := ⟨hB0.out.trans (hB.out.mono hB0.out.size)⟩
    have k4 := (blk_cell (blk_below hbx.out hB.out) 4).trans rfl
    by_cases hlt : i < l4.length
    ·have hxi : l4[i]? = some l4[i] := List.getElem?_eq_getElem hlt
     have hx := hih.out _ (List.getElem_mem hlt)
     generalize l4[i] = x at hxi hx
     obtain ⟨z, hz⟩ : ∃ z, g x = z := ⟨_, rfl⟩
     have hzi : (l4.map g)[i]? = some z := by rw [List.getElem?_map, hxi]; exact congrArg some hz
     have hz' : cl s y x = z := by rw [← hz, ← hg.out]
     obtain ⟨ad, P3, q3, P4, q4, P5, q5, rfl, he, ie⟩ := Fp.of (Kd.F_below i1.out.f4 hBw.out) i hxi
     have CX := Aside0.mk (fun (W : World) (hb : Below wr.heap.size wr W) => hx.at hz' W bb (Nat.le_trans hbb.out (Nat.le_trans hBw.out.size hb.size)) (ie.below hb) ((i2.out.below hBw.out).below hb))
     have p0 : (0 : Int) ≤ (i : Int) := by omega
     have p1 : (i : Int) < (l4.length : Int) := by omega
     have q1 : decide ((i : Int) < (l4.length : Int)) = true := decide_eq_true p1
     have hjn : Value.int .i64 (wrap64 ((i : Int) + 1)) = .int .i64 ((i + 1 : Nat) : Int) := by rw [wr1 i (by have := hl.out; omega)]
     have hi7 : i + 1 + (gk - 1) = l4.length + 1 ∧ 1 ≤ gk - 1 ∧ gk - 1 < gk := by omega
     have hms : Aside0 (i ≤ 100000000000) := ⟨by have := hl.out; omega⟩
     clear hx ie hz hz' hxi
     have hzi := Aside0.mk hzi
     have he := Aside0.mk he
     go_wp2
     have HB_ : Below wr.heap.size wr wr.drew := below_drew1 (Below.refl _ _)
     refine start_ (n := 12) (S := fun w' => w'.cell? ⟨w.heap.size, 4, none⟩ = some (.slice (some ad) l4.length c4) ∧ w'.cell? (ad.add (i * 6)) = some (.int .i64 x.f0) ∧ w'.cell? ⟨((ad.add (i * 6))).block, ((ad.add (i * 6))).off + 1, none⟩ = some (.string x.f1) ∧ w'.cell? ⟨((ad.add (i * 6))).block, ((ad.add (i * 6))).off + 2, none⟩ = some (.int .i64 x.f2) ∧ w'.cell? ⟨((ad.add (i * 6))).block, ((ad.add (i * 6))).off + 3, none⟩ = some (.slice P3 x.f3.length q3) ∧ w'.cell? ⟨((ad.add (i * 6))).block, ((ad.add (i * 6))).off + 4, none⟩ = some (.slice P4 x.f4.length q4) ∧ w'.cell? ⟨((ad.add (i * 6))).block, ((ad.add (i * 6))).off + 5, none⟩ = some (.slice P5 x.f5.length q5) ∧ w'.cell? ⟨w.heap.size + 1, 0, none⟩ = some (.int .i64 y.f0) ∧ w'.cell? ⟨w.heap.size + 1, 1, none⟩ = some (.string y.f1) ∧ w'.cell? ⟨w.heap.size + 1, 2, none⟩ = some (.int .i64 y.f2) ∧ w'.cell? ⟨w.heap.size + 1, 3, none⟩ = some (.slice Y3 y.f3.length z3) ∧ w'.cell? ⟨w.heap.size + 1, 4, none⟩ = some (.slice Y4 y.f4.length z4) ∧ w'.cell? ⟨w.heap.size + 1, 5, none⟩ = some (.slice Y5 y.f5.length z5)) (ds := [10]) (bm 12 0) (by kernel_rfl) rfl rfl ⟨(blk_cell (blk_below (blk_below hbx.out hB.out) HB_) 4).trans rfl, (he.out.below HB_).1, (he.out.below HB_).2.1, (he.out.below HB_).2.2.1, (he.out.below HB_).2.2.2.1, (he.out.below HB_).2.2.2.2.1, (he.out.below HB_).2.2.2.2.2, (blk_cell (blk_below (blk_below hby.out hB.out) HB_) 0).trans rfl, (blk_cell (blk_below (blk_below hby.out hB.out) HB_) 1).trans rfl, (blk_cell (blk_below (blk_below hby.out hB.out) HB_) 2).trans rfl, (blk_cell (blk_below (blk_below hby.out hB.out) HB_) 3).trans rfl, (blk_cell (blk_below (blk_below hby.out hB.out) HB_) 4).trans rfl, (blk_cell (blk_below (blk_below hby.out hB.out) HB_) 5).trans rfl⟩ (fun hHeld => ?_)
     generalize wr.drew = W9 at *
     refine pure_ (i := 0) (N := some 33) (v := ?_) (a' := ?_) (bm 12 1) rfl rfl (by kernel_rfl) (fun _ _ _ h => h) (Or.inl ⟨by rfl, ?_⟩) ?_ ?_
     rotate_left
     ·intro w'
      go_simp
      with_reducible rfl
     rotate_left
     ·simp only [Act.put, sA, sB, sC, i64_w, i32_w]
      rfl
     refine pure_ (i := 1) (N := some 34) (v := ?_) (a' := ?_) (bm 12 3) rfl rfl (by kernel_rfl) (fun _ _ _ h => h) (Or.inl ⟨by rfl, ?_⟩) ?_ ?_
     rotate_left
     ·intro w'
      go_simp
      with_reducible rfl
     rotate_left
     ·simp only [Act.put, sA, sB, sC, i64_w, i32_w]
      rfl
     refine pure_ (i := 3) (N := some 36) (v := ?_) (a' := ?_) (bm 12 11) rfl rfl (by kernel_rfl) (fun _ _ _ h => h) (Or.inl ⟨by rfl, ?_⟩) ?_ ?_
     rotate_left
     ·intro w'
      go_simp
      with_reducible rfl
     rotate_left
     ·simp only [Act.put, sA, sB, sC, i64_w, i32_w]
      rfl
     refine pure_ (i := 6) (N := some 39) (v := ?_) (a' := ?_) (bm 12 75) rfl rfl (by kernel_rfl) (fun _ _ _ h => h) (Or.inl ⟨by rfl, ?_⟩) ?_ ?_
     rotate_left
     ·intro w'
      go_simp
      with_reducible rfl
     rotate_left
     ·simp only [Act.put, sA, sB, sC, i64_w, i32_w]
      rfl
     refine take_ (i := 2) (N := some 35) (v := ?_) (a' := ?_) (bm 12 79) rfl rfl (by kernel_rfl) (fun _ _ _ h => h) (Or.inl ⟨by rfl, ?_⟩) hHeld ?_ ?_
     rotate_left
     ·rintro w' ⟨s0, s1, s2, s3, s4, s5, s6, s7, s8, s9, s10, s11, s12⟩
      go_simp
      with_reducible rfl
     rotate_left
     ·simp only [Act.put, sA, sB, sC, i64_w, i32_w]
      rfl
     refine pure_ (i := 4) (N := some 37) (v := ?_) (a' := ?_) (bm 12 95) rfl rfl (by kernel_rfl) (fun _ _ _ h => h) (Or.inl ⟨by rfl, ?_⟩) ?_ ?_
     rotate_left
     ·intro w'
      go_simp
      with_reducible rfl
     rotate_left
     ·simp only [Act.put, sA, sB, sC, i64_w, i32_w]
      rfl
     refine take_ (i := 5) (N := some 38) (v := ?_) (a' := ?_) (bm 12 127) rfl rfl (by kernel_rfl) (fun _ _ _ h => h) (Or.inl ⟨by rfl, ?_⟩) hHeld ?_ ?_
     rotate_left
     ·rintro w' ⟨s0, s1, s2, s3, s4, s5, s6, s7, s8, s9, s10, s11, s12⟩
      go_simp
      with_reducible rfl
     rotate_left
     ·simp only [Act.put, sA, sB, sC, i64_w, i32_w]
      rfl
     refine take_ (i := 7) (N := some 40) (v := ?_) (a' := ?_) (bm 12 255) rfl rfl (by kernel_rfl) (fun _ _ _ h => h) (Or.inl ⟨by rfl, ?_⟩) hHeld ?_ ?_
     rotate_left
     ·rintro w' ⟨s0, s1, s2, s3, s4, s5, s6, s7, s8, s9, s10, s11, s12⟩
      go_simp
      with_reducible rfl
     rotate_left
     ·simp only [Act.put, sA, sB, sC, i64_w, i32_w]
      rfl
     refine one_ (i := 8) (N := some 41) (bm 12 511) rfl rfl (by kernel_rfl) (by decide) (fun K hK => ?_)
     refine goes_ Tryd.func28 (by kernel_rfl) rfl #[.agg #[.int .i64 x.f0, .string x.f1, .int .i64 x.f2, .slice P3 x.f3.length q3, .slice P4 x.f4.length q4, .slice P5 x.f5.length q5], .string s, .agg #[.int .i64 y.f0, .string y.f1, .int .i64 y.f2, .slice Y3 y.f3.length z3, .slice Y4 y.f4.length z4, .slice Y5 y.f5.length z5]] (by rfl) rfl rfl (by simp only [List.map_toArray, List.map_cons, List.map_nil]; rfl) ?_
     (with_reducible refine (CX.out W9 HB_).mono ?_)
     rintro e w5 ⟨G3, G4, G5, g3, g4, g5, rfl, hG, hbq5⟩
     refine ⟨_, rfl, ?_⟩
     have HB5 := below_step HB_ hbq5
     have hG := hG.mono (ok' := fun k => k < bb ∨ wr.heap.size ≤ k) (fun k hk => hk.imp id (fun h => Nat.le_trans HB_.size h))
     refine hK.out _ _ ⟨(blk_cell (blk_below (blk_below hbx.out hB.out) HB5) 4).trans rfl, (he.out.below HB5).1, (he.out.below HB5).2.1, (he.out.below HB5).2.2.1, (he.out.below HB5).2.2.2.1, (he.out.below HB5).2.2.2.2.1, (he.out.below HB5).2.2.2.2.2, (blk_cell (blk_below (blk_below hby.out hB.out) HB5) 0).trans rfl, (blk_cell (blk_below (blk_below hby.out hB.out) HB5) 1).trans rfl, (blk_cell (blk_below (blk_below hby.out hB.out) HB5) 2).trans rfl, (blk_cell (blk_below (blk_below hby.out hB.out) HB5) 3).trans rfl, (blk_cell (blk_below (blk_below hby.out hB.out) HB5) 4).trans rfl, (blk_cell (blk_below (blk_below hby.out hB.out) HB5) 5).trans rfl⟩ (fun hHeld => ?_)
     clear hK K
     refine norm_ (a' := ?_) ?_ ?_
     rotate_left
     ·show Act.put _ (some 41) _ = _
      simp only [Act.put, sA, sB, sC, i64_w, i32_w]
      rfl
     refine one_ (i := 9) (N := some 42) (bm 12 1023) rfl rfl (by kernel_rfl) (by decide) (fun K hK => ?_)
     refine value_ (w1 := ?_) (v := ?_) (by rfl) rfl ?_ ?_
     rotate_left 2
     ·go_simp
      constructor
      ·rfl
      ·rfl
     have HB6 := below_alloc HB5 (.cells #[.int .i64 z.f0, .string z.f1, .int .i64 z.f2, .slice G3 z.f3.length g3, .slice G4 z.f4.length g4, .slice G5 z.f5.length g5] 33)
     refine hK.out _ _ ⟨(blk_cell (blk_below (blk_below hbx.out hB.out) HB6) 4).trans rfl, (he.out.below HB6).1, (he.out.below HB6).2.1, (he.out.below HB6).2.2.1, (he.out.below HB6).2.2.2.1, (he.out.below HB6).2.2.2.2.1, (he.out.below HB6).2.2.2.2.2, (blk_cell (blk_below (blk_below hby.out hB.out) HB6) 0).trans rfl, (blk_cell (blk_below (blk_below hby.out hB.out) HB6) 1).trans rfl, (blk_cell (blk_below (blk_below hby.out hB.out) HB6) 2).trans rfl, (blk_cell (blk_below (blk_below hby.out hB.out) HB6) 3).trans rfl, (blk_cell (blk_below (blk_below hby.out hB.out) HB6) 4).trans rfl, (blk_cell (blk_below (blk_below hby.out hB.out) HB6) 5).trans rfl⟩ (fun hHeld => ?_)
     clear hK K
     refine norm_ (a' := ?_) ?_ ?_
     rotate_left
     ·show Act.put _ (some 42) _ = _
      simp only [Act.put, sA, sB, sC, i64_w, i32_w]
      rfl
     refine last_ (i := 10) (N := some 43) (bm 12 2047) rfl rfl (by kernel_rfl) (by decide) (fun K hK => ?_)
     refine NH.app_step k33 (w0 := w5) bb W0.heap.size (by rfl) (.tmp 33) (.tmp 42) 30 33 (.agg #[.int .i64 0, .string ⟨#[]⟩, .int .i64 0, .slice none 0 0, .slice none 0 0, .slice none 0 0]) 104 rfl Tryd.underlying30 info33 rfl (by decide) (by decide) (by decide) (A := A) (n := i) (c := c) (xs := (l4.map g).take i) (p := z) (cs := [.int .i64 z.f0, .string z.f1, .int .i64 z.f2, .slice G3 z.f3.length g3, .slice G4 z.f4.length g4, .slice G5 z.f5.length g5]) (q := wr.heap.size) rfl rfl (hR.out.below HB5) (hG.K) ?_ ?_ ?_ (Below.refl _ _) ?_ ?_ ?_
     ·exact NH.lt hR.out
     ·have h1 := hbb.out; have h2 := hB0.out.size; omega
     ·exact hB.out.size
     ·have h1 := hB.out.size; have h2 := HB5.size; omega
     ·have h1 := hms.out; omega
     intro A6 c6 w6 hr6 hb6
     refine hK.out _ _ ?_
     clear hK K
     refine norm_ (a' := ?_) ?_ ?_
     rotate_left
     ·show Act.put _ (some 43) _ = _
      simp only [Act.put, sA, sB, sC, i64_w, i32_w]
      rfl
     refine pure_ (i := 11) (N := some 7) (v := ?_) (a' := ?_) (bm 12 4095) rfl rfl (by kernel_rfl) (fun _ _ _ h => h) (Or.inl ⟨by rfl, ?_⟩) ?_ ?_
     rotate_left
     ·intro w'
      go_simp
      with_reducible rfl
     rotate_left
     ·simp only [Act.put, sA, sB, sC, i64_w, i32_w]
      rfl
     refine done_ (by kernel_rfl) ?_
     clear hHeld
     have hR7 : Aside0 (NH k33 33 w6 bb W0.heap.size A6 (i + 1) c6 ((l4.map g).take (i + 1))) := ⟨by rw [take_snoc hzi.out] at hr6; exact hr6⟩
     have hB7 : Aside0 (Below W0.heap.size W0 w6) := ⟨(hB.out.trans (HB5.mono hB.out.size)).trans hb6⟩
     clear hr6 hb6 HB5 HB6 HB_ hG hbq5
     go_wp2
     go_roundg (gk - 1)
     case measure => exact hi7.2.2
     case rel => exact ⟨i + 1, c6, A6, rfl, by first | exact hjn | rfl, hi7.1, hi7.2.1, hR7, hB7⟩
    ·obtain rfl : i = l4.length := by omega
     have q1 : decide ((l4.length : Int) < (l4.length : Int)) = false := decide_eq_false (by omega)
     have hF0 := hR.out.F
     rw [show (l4.map g).take l4.length = l4.map g from List.take_of_length_le (by rw [List.length_map]; exact Nat.le_refl _), List.length_map] at hF0
     obtain ⟨s2, hs2⟩ : ∃ s2, wr.heap.size = s2 := ⟨_, rfl⟩
     have hFm : Aside0 (Kd.F k33 wr (fun k => (k < bb ∨ W0.heap.size ≤ k) ∧ k < s2) A l4.length (l4.map g)) := ⟨by rw [← hs2]; exact Kd.F_bound hF0.1⟩
     have hc4 := Aside0.mk hF0.2
     have hs12 : Aside0 (W0.heap.size ≤ s2) := ⟨by rw [← hs2]; exact hB.out.size⟩
     have hs22 : Aside0 (s2 ≤ wr.heap.size) := ⟨Nat.le_of_eq hs2.symm⟩
     clear hF0 hi hk hs2 hR
     go_wp2
     go_loopg [9, 10] (l5.length + 1) (fun kq v9 v10 w' => ∃ (i c2 : Nat) (A2 : Option Addr), v9 = .slice A2 i c2 ∧ v10 = .int .i64 (i : Int) ∧ i + kq = l5.length + 1 ∧ 1 ≤ kq ∧ Aside0 (Kd.F k33 w' (fun k => (k < bb ∨ W0.heap.size ≤ k) ∧ k < s2) A l4.length (l4.map g)) ∧ Aside0 (NH k40 40 w' bb s2 A2 i c2 ((l5.map h).take i)) ∧ Aside0 (Below W0.heap.size W0 w') ∧ Aside0 (s2 ≤ w'.heap.size))
     case atStart => exact ⟨0, 0, none, rfl, rfl, by omega, by omega, hFm, ⟨NH.nil _ _ _⟩, hB, hs22⟩
     case round =>
      clear hFm hB hs22 hBw q1 k4 hlt
      obtain ⟨i, c2, A2, rfl, rfl, hi, hk, hF, hR, hB, hs2⟩ := hrel
      have hBw : Aside0 (Below w.heap.size w wr) := ⟨hB0.out.trans (hB.out.mono hB0.out.size)⟩
      have k5 := (blk_cell (blk_below hbx.out hB.out) 5).trans rfl
      by_cases hlt : i < l5.length
      ·have hxi : l5[i]? = some l5[i] := List.getElem?_eq_getElem hlt
       have hx := hiha.out _ (List.getElem_mem hlt)
       have hx3 := ha3.out _ (List.getElem_mem hlt)
       generalize l5[i] = a at hxi hx hx3
       obtain ⟨ka, hka⟩ : ∃ b, isIn a.f3 s = b := ⟨_, rfl⟩
       obtain ⟨z, hz⟩ : ∃ z, (if ka = true then a.f4 else cl s y a.f4) = z := ⟨_, rfl⟩
       have hzi : (l5.map h)[i]? = some ⟨a.f0, a.f1, a.f2, a.f3, z⟩ := by rw [List.getElem?_map, hxi, ← hh.out, ← hz, ← hka]; rfl
       obtain ⟨ad, P3, q3, P7, q7, P8, q8, P9, q9, rfl, ⟨e0, e1, e2, e3, e4, e5, e6, e7, e8, e9⟩, gn, m3, ie⟩ := Fp.of40 (Kd.F_below i1.out.f5 hBw.out) i hxi
       have p0 : (0 : Int) ≤ (i : Int) := by omega
       have p1 : (i : Int) < (l5.length : Int) := by omega
       have q1 : decide ((i : Int) < (l5.length : Int)) = true := decide_eq_true p1
       have hjn : Value.int .i64 (wrap64 ((i : Int) + 1)) = .int .i64 ((i + 1 : Nat) : Int) := by rw [wr1 i (by have := hl.out; omega)]
       have hi7 : i + 1 + (gk - 1) = l5.length + 1 ∧ 1 ≤ gk - 1 ∧ gk - 1 < gk := by omega
       have hms : Aside0 (i ≤ 100000000000) := ⟨by have := hl.out; omega⟩
       have CC := Aside0.mk (fun (W : World) (hb : Below wr.heap.size wr W) => has_g a.f3 hx3 rfl s hka W (Kd.C_below (Kd.F_now gn) hb) m3)
       have hzi := Aside0.mk hzi
       have gn := Aside0.mk gn
       have ie := Aside0.mk ie
       have hm3 := Aside0.mk m3
       have T1 : True := trivial
       clear hka hxi m3
       obtain ⟨Wq, hWq⟩ : ∃ Wq, wr.alloc (.cells #[.int .i64 a.f0, .string a.f1, .int .i64 a.f2, .slice P3 a.f3.length q3, .int .i64 a.f4.f0, .string a.f4.f1, .int .i64 a.f4.f2, .slice P7 a.f4.f3.length q7, .slice P8 a.f4.f4.length q8, .slice P9 a.f4.f5.length q9] 40) = Wq := ⟨_, rfl⟩
       have hBq : Aside0 (Below wr.heap.size wr Wq) := ⟨by rw [← hWq]; exact below_alloc (Below.refl _ _) _⟩
       have hxq : Aside0 (Wq.heap[wr.heap.size]? = some (.cells #[.int .i64 a.f0, .string a.f1, .int .i64 a.f2, .slice P3 a.f3.length q3, .int .i64 a.f4.f0, .string a.f4.f1, .int .i64 a.f4.f2, .slice P7 a.f4.f3.length q7, .slice P8 a.f4.f4.length q8, .slice P9 a.f4.f5.length q9] 40 (0, 0))) := ⟨by rw [← hWq]; exact blk_new wr _⟩
       have hsq : Aside0 (Wq.heap.size = wr.heap.size + 1) := ⟨by rw [← hWq, E]⟩
       have t0 := (blk_cell hxq.out 0).trans rfl
       have t1 := (blk_cell hxq.out 1).trans rfl
       have t2 := (blk_cell hxq.out 2).trans rfl
       have t3 := (blk_cell hxq.out 3).trans rfl
       have t4 := (blk_cell hxq.out 4).trans rfl
       have t5 := (blk_cell hxq.out 5).trans rfl
       have t6 := (blk_cell hxq.out 6).trans rfl
       have t7 := (blk_cell hxq.out 7).trans rfl
       have t8 := (blk_cell hxq.out 8).trans rfl
       have t9 := (blk_cell hxq.out 9).trans rfl
       have CC1 := CC.out Wq hBq.out
       cases ka with
       | true =>
        have hz2 : a.f4 = z := by rw [← hz]; rfl
        subst hz2
        clear hz hx hx3
        go_upto_region 19 with (first | (clear T1; go_at_call 12; (try rw [hWq]); go_loud (with_reducible refine CC1.mono ?_); rintro e' w3 ⟨rfl, hb3⟩; have HB3 := Aside0.mk hb3; clear hb3 CC1 e0 e1 e2 e3 e4 e5 e6 e7 e8 e9 t0 t1 t2 t3 t4 t5 t6 t7 t8 t9; skip))
        clear hWq
        have hBa : Aside0 (Below wr.heap.size wr w3) := ⟨below_step hBq.out HB3.out⟩
        have hGa : Aside0 (Fp w3 (fun k => k < bb ∨ wr.heap.size ≤ k) a.f4 P7 P8 P9 q7 q8 q9) := ⟨(ie.out.below hBa.out).mono (fun k hk => .inl hk)⟩
        have hNa : Aside0 (Kd.F Kd.string w3 (fun k => k < bb ∨ wr.heap.size ≤ k) P3 a.f3.length a.f3) := ⟨Kd.F_mono (Kd.F_below gn.out hBa.out) (fun k hk => .inl hk)⟩
        have hxa := Aside0.mk (blk_below hxq.out HB3.out)
        have hRa := Aside0.mk (hR.out.below hBa.out)
        have hFa := Aside0.mk (F_upto hF.out (fun k hk => hk.2) (hBa.out.mono hs2.out))
        have CSS : True := trivial
        have m0 := (blk_cell hxa.out 0).trans rfl
        have m1 := (blk_cell hxa.out 1).trans rfl
        have m2 := (blk_cell hxa.out 2).trans rfl
        have m3 := (blk_cell hxa.out 3).trans rfl
        have m4 := (blk_cell hxa.out 4).trans rfl
        have m5 := (blk_cell hxa.out 5).trans rfl
        have m6 := (blk_cell hxa.out 6).trans rfl
        have m7 := (blk_cell hxa.out 7).trans rfl
        have m8 := (blk_cell hxa.out 8).trans rfl
        have m9 := (blk_cell hxa.out 9).trans rfl
        clear HB3 hBq hxq
        rename World => Wa
        have T3 : True := trivial
        go_wp2_with (first | (clear T3; (with_reducible refine gate_builtin (b := .append) (xs := #[.tmp 67, .tmp 69]) rfl ?_); at_builtin; go_loud (refine NH.app k40 (w0 := Wa) bb s2 rfl (.tmp 67) (.tmp 69) 31 40 (.agg #[.int .i64 0, .string ⟨#[]⟩, .int .i64 0, .slice none 0 0, .int .i64 0, .string ⟨#[]⟩, .int .i64 0, .slice none 0 0, .slice none 0 0, .slice none 0 0]) 160 rfl Tryd.underlying31 info40 rfl (by decide) (by decide) (by decide) (A := A2) (n := i) (c := c2) (xs := (l5.map h).take i) (p := ⟨a.f0, a.f1, a.f2, a.f3, a.f4⟩) (cs := [.int .i64 a.f0, .string a.f1, .int .i64 a.f2, .slice P3 a.f3.length q3, .int .i64 a.f4.f0, .string a.f4.f1, .int .i64 a.f4.f2, .slice P7 a.f4.f3.length q7, .slice P8 a.f4.f4.length q8, .slice P9 a.f4.f5.length q9]) (q := wr.heap.size) rfl rfl hRa.out (hGa.out.K40 hNa.out hm3.out) ?qA ?qE ?qB (Below.refl _ _) ?qC ?qD ?_); (case qA => exact NH.lt hR.out); (case qE => have h1 := hbb.out; have h2 := hB0.out.size; have h3 := hs12.out; omega); (case qB => exact hs2.out); (case qC => have h1 := hs2.out; have h2 := hBa.out.size; omega); (case qD => have h1 := hms.out; omega); intro A6 c6 w6 hr6 hb6; have hR7 : Aside0 (NH k40 40 w6 bb s2 A6 (i + 1) c6 ((l5.map h).take (i + 1))) := ⟨by rw [take_snoc hzi.out] at hr6; exact hr6⟩; have hF7 := Aside0.mk (F_upto hFa.out (fun k hk => hk.2) hb6); have hB7 : Aside0 (Below W0.heap.size W0 w6) := ⟨(hB.out.trans (hBa.out.mono hB.out.size)).trans (hb6.mono hs12.out)⟩; have hs7 : Aside0 (s2 ≤ w6.heap.size) := ⟨Nat.le_trans hs2.out (Nat.le_trans hBa.out.size hb6.size)⟩; clear hr6 hb6 m0 m1 m2 m3 m4 m5 m6 m7 m8 m9; have T4 : True := trivial))
        go_roundg (gk - 1)
        case measure => exact hi7.2.2
        case rel => exact ⟨i + 1, c6, A6, rfl, by first | exact hjn | rfl, hi7.1, hi7.2.1, hF7, hR7, hB7, hs7⟩
       | false =>
        have hz2 : cl s y a.f4 = z := by rw [← hz]; rfl
        have CX := Aside0.mk (fun (W : World) (hb : Below wr.heap.size wr W) => hx.at hz2 W bb (Nat.le_trans hbb.out (Nat.le_trans hBw.out.size hb.size)) (ie.out.below hb) ((i2.out.below hBw.out).below hb))
        clear hz hz2 hx hx3
        go_upto_region 19 with (first | (clear T1; go_at_call 12; (try rw [hWq]); go_loud (with_reducible refine CC1.mono ?_); rintro e' w3 ⟨rfl, hb3⟩; have HB3 := Aside0.mk hb3; have CX1 := CX.out w3 (below_step hBq.out hb3); clear e0 e1 e2 e3 e4 e5 e6 e7 e8 e9 t0 t1 t2 t3 t4 t5 t6 t7 t8 t9; (have n0 := (blk_cell (blk_below hxq.out hb3) 0).trans rfl); (have n1 := (blk_cell (blk_below hxq.out hb3) 1).trans rfl); (have n2 := (blk_cell (blk_below hxq.out hb3) 2).trans rfl); (have n3 := (blk_cell (blk_below hxq.out hb3) 3).trans rfl); (have n4 := (blk_cell (blk_below hxq.out hb3) 4).trans rfl); (have n5 := (blk_cell (blk_below hxq.out hb3) 5).trans rfl); (have n6 := (blk_cell (blk_below hxq.out hb3) 6).trans rfl); (have n7 := (blk_cell (blk_below hxq.out hb3) 7).trans rfl); (have n8 := (blk_cell (blk_below hxq.out hb3) 8).trans rfl); (have n9 := (blk_cell (blk_below hxq.out hb3) 9).trans rfl); (have u0 := (blk_cell (blk_below hby.out (below_step (below_step hB.out hBq.out) hb3)) 0).trans rfl); (have u1 := (blk_cell (blk_below hby.out (below_step (below_step hB.out hBq.out) hb3)) 1).trans rfl); (have u2 := (blk_cell (blk_below hby.out (below_step (below_step hB.out hBq.out) hb3)) 2).trans rfl); (have u3 := (blk_cell (blk_below hby.out (below_step (below_step hB.out hBq.out) hb3)) 3).trans rfl); (have u4 := (blk_cell (blk_below hby.out (below_step (below_step hB.out hBq.out) hb3)) 4).trans rfl); (have u5 := (blk_cell (blk_below hby.out (below_step (below_step hB.out hBq.out) hb3)) 5).trans rfl); clear hb3 CC1; have T2 : True := trivial) | (clear T2; go_at_call 28; go_loud (with_reducible refine CX1.mono ?_); rintro e' w5 ⟨G3, G4, G5, g3, g4, g5, rfl, hG, hb5⟩; have HG := Aside0.mk hG; have hx5 := Aside0.mk (blk_below (blk_below hxq.out HB3.out) hb5); clear n0 n1 n2 n3 n4 n5 n6 n7 n8 n9 u0 u1 u2 u3 u4 u5; (have n4 := (blk_cell hx5.out 4).trans rfl; have v4 := blk_frozen hx5.out 4); (have n5 := (blk_cell hx5.out 5).trans rfl; have v5 := blk_frozen hx5.out 5); (have n6 := (blk_cell hx5.out 6).trans rfl; have v6 := blk_frozen hx5.out 6); (have n7 := (blk_cell hx5.out 7).trans rfl; have v7 := blk_frozen hx5.out 7); (have n8 := (blk_cell hx5.out 8).trans rfl; have v8 := blk_frozen hx5.out 8); (have n9 := (blk_cell hx5.out 9).trans rfl; have v9 := blk_frozen hx5.out 9); have HB5 := Aside0.mk hb5; clear hb5 hG CX1; skip))
        clear hWq
        obtain ⟨Wa, hWa⟩ : ∃ Wa, ((((((w5.setCell ⟨wr.heap.size, 4, none⟩ (.int .i64 z.f0)).setCell ⟨wr.heap.size, 5, none⟩ (.string z.f1)).setCell ⟨wr.heap.size, 6, none⟩ (.int .i64 z.f2)).setCell ⟨wr.heap.size, 7, none⟩ (.slice G3 z.f3.length g3)).setCell ⟨wr.heap.size, 8, none⟩ (.slice G4 z.f4.length g4)).setCell ⟨wr.heap.size, 9, none⟩ (.slice G5 z.f5.length g5)) = Wa := ⟨_, rfl⟩
        have hxa : Aside0 (Wa.heap[wr.heap.size]? = some (.cells #[.int .i64 a.f0, .string a.f1, .int .i64 a.f2, .slice P3 a.f3.length q3, .int .i64 z.f0, .string z.f1, .int .i64 z.f2, .slice G3 z.f3.length g3, .slice G4 z.f4.length g4, .slice G5 z.f5.length g5] 40 (0, 0))) := ⟨by rw [← hWa]; exact blk_put (blk_put (blk_put (blk_put (blk_put (blk_put (hx5.out) 4 _ rfl) 5 _ rfl) 6 _ rfl) 7 _ rfl) 8 _ rfl) 9 _ rfl⟩
        have hB5 : Below wr.heap.size wr w5 := below_step (below_step hBq.out HB3.out) HB5.out
        have hBa : Aside0 (Below wr.heap.size wr Wa) := ⟨by rw [← hWa]; exact ((((((hB5.setCell (p := ⟨wr.heap.size, 4, none⟩) (Nat.le_refl _) _).setCell (p := ⟨wr.heap.size, 5, none⟩) (Nat.le_refl _) _).setCell (p := ⟨wr.heap.size, 6, none⟩) (Nat.le_refl _) _).setCell (p := ⟨wr.heap.size, 7, none⟩) (Nat.le_refl _) _).setCell (p := ⟨wr.heap.size, 8, none⟩) (Nat.le_refl _) _).setCell (p := ⟨wr.heap.size, 9, none⟩) (Nat.le_refl _) _)⟩
        have h3w : wr.heap.size < w3.heap.size := by have h1 := hsq.out; have h2 := HB3.out.size; omega
        have hwb : bb ≤ wr.heap.size := Nat.le_trans hbb.out hBw.out.size
        have hGa : Aside0 (Fp Wa (fun k => k < bb ∨ wr.heap.size ≤ k) z G3 G4 G5 g3 g4 g5) := ⟨by rw [← hWa]; exact (((((((HG.out.far (p := ⟨wr.heap.size, 4, none⟩) (fun k hk => by show k ≠ wr.heap.size; omega) _).far (p := ⟨wr.heap.size, 5, none⟩) (fun k hk => by show k ≠ wr.heap.size; omega) _).far (p := ⟨wr.heap.size, 6, none⟩) (fun k hk => by show k ≠ wr.heap.size; omega) _).far (p := ⟨wr.heap.size, 7, none⟩) (fun k hk => by show k ≠ wr.heap.size; omega) _).far (p := ⟨wr.heap.size, 8, none⟩) (fun k hk => by show k ≠ wr.heap.size; omega) _).far (p := ⟨wr.heap.size, 9, none⟩) (fun k hk => by show k ≠ wr.heap.size; omega) _)).mono (fun k hk => hk.imp id (fun h => by omega))⟩
        have hNa : Aside0 (Kd.F Kd.string Wa (fun k => k < bb ∨ wr.heap.size ≤ k) P3 a.f3.length a.f3) := ⟨Kd.F_mono (Kd.F_below gn.out hBa.out) (fun k hk => .inl hk)⟩
        rw [hWa]
        clear hWa hB5 n4 v4 n5 v5 n6 v6 n7 v7 n8 v8 n9 v9
        have hRa := Aside0.mk (hR.out.below hBa.out)
        have hFa := Aside0.mk (F_upto hF.out (fun k hk => hk.2) (hBa.out.mono hs2.out))
        have m0 := (blk_cell hxa.out 0).trans rfl
        have m1 := (blk_cell hxa.out 1).trans rfl
        have m2 := (blk_cell hxa.out 2).trans rfl
        have m3 := (blk_cell hxa.out 3).trans rfl
        have m4 := (blk_cell hxa.out 4).trans rfl
        have m5 := (blk_cell hxa.out 5).trans rfl
        have m6 := (blk_cell hxa.out 6).trans rfl
        have m7 := (blk_cell hxa.out 7).trans rfl
        have m8 := (blk_cell hxa.out 8).trans rfl
        have m9 := (blk_cell hxa.out 9).trans rfl
        clear HB3 HB5 hBq hxq hx5 HG h3w hwb
        have T3 : True := trivial
        go_wp2_with (first | (clear T3; (with_reducible refine gate_builtin (b := .append) (xs := #[.tmp 67, .tmp 69]) rfl ?_); at_builtin; go_loud (refine NH.app k40 (w0 := Wa) bb s2 rfl (.tmp 67) (.tmp 69) 31 40 (.agg #[.int .i64 0, .string ⟨#[]⟩, .int .i64 0, .slice none 0 0, .int .i64 0, .string ⟨#[]⟩, .int .i64 0, .slice none 0 0, .slice none 0 0, .slice none 0 0]) 160 rfl Tryd.underlying31 info40 rfl (by decide) (by decide) (by decide) (A := A2) (n := i) (c := c2) (xs := (l5.map h).take i) (p := ⟨a.f0, a.f1, a.f2, a.f3, z⟩) (cs := [.int .i64 a.f0, .string a.f1, .int .i64 a.f2, .slice P3 a.f3.length q3, .int .i64 z.f0, .string z.f1, .int .i64 z.f2, .slice G3 z.f3.length g3, .slice G4 z.f4.length g4, .slice G5 z.f5.length g5]) (q := wr.heap.size) rfl rfl hRa.out (hGa.out.K40 hNa.out hm3.out) ?qA ?qE ?qB (Below.refl _ _) ?qC ?qD ?_); (case qA => exact NH.lt hR.out); (case qE => have h1 := hbb.out; have h2 := hB0.out.size; have h3 := hs12.out; omega); (case qB => exact hs2.out); (case qC => have h1 := hs2.out; have h2 := hBa.out.size; omega); (case qD => have h1 := hms.out; omega); intro A6 c6 w6 hr6 hb6; have hR7 : Aside0 (NH k40 40 w6 bb s2 A6 (i + 1) c6 ((l5.map h).take (i + 1))) := ⟨by rw [take_snoc hzi.out] at hr6; exact hr6⟩; have hF7 := Aside0.mk (F_upto hFa.out (fun k hk => hk.2) hb6); have hB7 : Aside0 (Below W0.heap.size W0 w6) := ⟨(hB.out.trans (hBa.out.mono hB.out.size)).trans (hb6.mono hs12.out)⟩; have hs7 : Aside0 (s2 ≤ w6.heap.size) := ⟨Nat.le_trans hs2.out (Nat.le_trans hBa.out.size hb6.size)⟩; clear hr6 hb6 m0 m1 m2 m3 m4 m5 m6 m7 m8 m9; have T4 : True := trivial))
        go_roundg (gk - 1)
        case measure => exact hi7.2.2
        case rel => exact ⟨i + 1, c6, A6, rfl, by first | exact hjn | rfl, hi7.1, hi7.2.1, hF7, hR7, hB7, hs7⟩
      ·obtain rfl : i = l5.length := by omega
       have q1 : decide ((l5.length : Int) < (l5.length : Int)) = false := decide_eq_false (by omega)
       have hF5 := hR.out.F
       rw [show (l5.map h).take l5.length = l5.map h from List.take_of_length_le (by rw [List.length_map]; exact Nat.le_refl _), List.length_map] at hF5
       have hF5 := Aside0.mk hF5
       clear hi hk
       have hb8 := blk_below hbx.out hB.out
       have k4' := (blk_cell hb8 4).trans rfl
       have k5' := (blk_cell hb8 5).trans rfl
       have f4' := blk_frozen hb8 4
       have f5' := blk_frozen hb8 5
       go_upto_region 22 with (fail)
       obtain ⟨Wb, hWb⟩ : ∃ Wb, (wr.setCell ⟨w.heap.size, 4, none⟩ (.slice A l4.length c)).setCell ⟨w.heap.size, 5, none⟩ (.slice A2 l5.length c2) = Wb := ⟨_, rfl⟩
       have hxb : Aside0 (Wb.heap[w.heap.size]? = some (.cells #[.int .i64 f0, .string f1, .int .i64 f2, .slice A3 l3.length c3, .slice A l4.length c, .slice A2 l5.length c2] 33 (0, 0))) := ⟨by rw [← hWb]; exact blk_put (blk_put hb8 4 _ rfl) 5 _ rfl⟩
       have hxr : Aside0 (Wb.heap[w.heap.size + 1 + 1]? = some (.cells #[.int .i64 0, .string ⟨#[]⟩, .int .i64 0, .slice none 0 0, .slice none 0 0, .slice none 0 0] 33 (0, 0))) := ⟨by rw [← hWb]; exact (Below.heap_setCell _ _ _ _ (by show w.heap.size + 1 + 1 ≠ w.heap.size; omega)).trans ((Below.heap_setCell _ _ _ _ (by show w.heap.size + 1 + 1 ≠ w.heap.size; omega)).trans (blk_below hrx.out hB.out))⟩
       have hBb : Aside0 (Below w.heap.size w Wb) := ⟨by rw [← hWb]; exact (hBw.out.setCell (p := ⟨w.heap.size, 4, none⟩) (Nat.le_refl _) _).setCell (p := ⟨w.heap.size, 5, none⟩) (Nat.le_refl _) _⟩
       have hFb : Aside0 (Kd.F k33 Wb (fun k => k < bb ∨ w.heap.size + 1 + 1 < k) A l4.length (l4.map g)) := ⟨by rw [← hWb]; exact Kd.F_far (p := ⟨w.heap.size, 5, none⟩) (Kd.F_far (p := ⟨w.heap.size, 4, none⟩) (Kd.F_mono hF.out (fun k hk => by have := hsz.out; omega)) (fun k hk => by have := hbb.out; show k ≠ w.heap.size; omega) _) (fun k hk => by have := hbb.out; show k ≠ w.heap.size; omega) _⟩
       have hF5b : Aside0 (Kd.F k40 Wb (fun k => k < bb ∨ w.heap.size + 1 + 1 < k) A2 l5.length (l5.map h)) := ⟨by rw [← hWb]; exact Kd.F_far (p := ⟨w.heap.size, 5, none⟩) (Kd.F_far (p := ⟨w.heap.size, 4, none⟩) (Kd.F_mono hF5.out.1 (fun k hk => by have := hsz.out; have := hs12.out; omega)) (fun k hk => by have := hbb.out; show k ≠ w.heap.size; omega) _) (fun k hk => by have := hbb.out; show k ≠ w.heap.size; omega) _⟩
       have hF3b : Aside0 (Kd.F Kd.string Wb (fun k => k < bb ∨ w.heap.size + 1 + 1 < k) A3 l3.length l3) := ⟨Kd.F_mono (Kd.F_below i1.out.f3 hBb.out) (fun k hk => .inl hk)⟩
       rw [hWb]
       clear hWb k4' k5' f4' f5' k5
       have o0 := (blk_cell hxb.out 0).trans rfl
       have o1 := (blk_cell hxb.out 1).trans rfl
       have o2 := (blk_cell hxb.out 2).trans rfl
       have o3 := (blk_cell hxb.out 3).trans rfl
       have o4 := (blk_cell hxb.out 4).trans rfl
       have o5 := (blk_cell hxb.out 5).trans rfl
       have r0 := (blk_cell hxr.out 0).trans rfl
       have r1 := (blk_cell hxr.out 1).trans rfl
       have r2 := (blk_cell hxr.out 2).trans rfl
       have r3 := (blk_cell hxr.out 3).trans rfl
       have r4 := (blk_cell hxr.out 4).trans rfl
       have r5 := (blk_cell hxr.out 5).trans rfl
       have y0 := blk_frozen hxr.out 0
       have y1 := blk_frozen hxr.out 1
       have y2 := blk_frozen hxr.out 2
       have y3 := blk_frozen hxr.out 3
       have y4 := blk_frozen hxr.out 4
       have y5 := blk_frozen hxr.out 5
       go_wp2
       refine bodyPost_ret (v := .agg #[.int .i64 f0, .string f1, .int .i64 f2, .slice A3 l3.length c3, .slice A l4.length c, .slice A2 l5.length c2]) (by simp [results, Tryd.results28, go_sem, *]) rfl ⟨A3, A, A2, c3, c, c2, by simp only [List.length_map], ?_, ?_⟩
       ·have hFI : Fp Wb (fun k => k < bb ∨ w.heap.size + 1 + 1 < k) ⟨f0, f1, f2, l3, l4.map g, l5.map h⟩ A3 A A2 c3 c c2 := ⟨hF3b.out, i1.out.m3, by show Kd.F k33 _ _ _ (l4.map g).length _; rw [List.length_map]; exact hFb.out, by show (l4.map g).length ≤ _; rw [List.length_map]; exact hc4.out, by show Kd.F k40 _ _ _ (l5.map h).length _; rw [List.length_map]; exact hF5b.out, by show (l5.map h).length ≤ _; rw [List.length_map]; exact hF5.out.2⟩
        exact (Fp.far6 (q := w.heap.size + 1 + 1) hFI (fun k hk => by have := hbb.out; omega) _ _ _ _ _ _).mono (fun k hk => hk.imp id (fun h => by omega))
       ·exact below6 (q := w.heap.size + 1 + 1) hBb.out (by omega) _ _ _ _ _ _
theorem rs_all (s : ByteArray) (y : S33) : ∀ (m : Nat) (e : S33), cost e ≤ m → cn e ≤ 1000000000 → Shp e → RS s y e
 | 0, e, hc, _, _ => by have := cost_eq e; omega
 | m + 1, e, hc, hn, hs => by
  have hcn := cn_eq e
  have h4 := len_cnL e.f4
  have h5 := len_cnA e.f5
  obtain ⟨hl, sl, sa⟩ := (shp_iff e).1 hs
  exact rs_step s y e (by omega) (by omega) (by omega) (fun a ha => by have := cn_memA ha; omega) (fun h => (hl.2.2.2.1 h).2) hl.2.2.2.2 (fun x hx => rs_all s y m x (by have := cost_mem hx; omega) (by have := cn_mem hx; omega) (sl x hx)) (fun a ha => rs_all s y m a.f4 (by have := cost_memA ha; omega) (by have := cn_memA ha; omega) (sa a ha))
end Go.Proofs.YtmoeekidmkhkoaaDoor.FreeA
namespace Go.Proofs.YtmoeekidmkhkoaaDoor.FreeA
open Go.RowKit Go.Proofs.YtmoeekidmkhkoaaDoor.PFreeF Go.Proofs.YtmoeekidmkhkoaaDoorW.PrintWords Go.Proofs.YtmoeekidmkhkoaaDoorW.PrintLast Go.Proofs.YtmoeekidmkhkoaaDoorW.PrintMore Go.Proofs.YtmoeekidmkhkoaaDoor.PFreeA Go.Proofs.YtmoeekidmkhkoaaDoor.Ext
set_option linter.unusedVariables false
set_option linter.unusedSimpArgs false
namespace Fr
theorem tl_data (s : ByteArray) : s.toList = s.data.toList := by
 have := ByteArray.toList_mk s.data.toList
 simpa using this
theorem tl_inj {s t : ByteArray} : s.toList = t.toList ↔ s = t := by
 constructor
 ·intro h
  rw [tl_data, tl_data] at h
  exact ByteArray.ext (Array.toList_inj.1 h)
 ·rintro rfl; rfl
theorem w64 {n : Nat} (h : n < 1000000000000000) : wrap64 ((n : Int) + 1) = ((n + 1 : Nat) : Int) := by unfold wrap64; omega
theorem rd_get {l : List ByteArray} {i : Nat} (h : i < l.length) : rdOf ByteArray.empty l (i : Int) = l[i] := by simp [rdOf, h]
theorem isIn_drop {l : List ByteArray} {i : Nat} (h : i < l.length) (a : ByteArray) : isIn (l.drop i) a = (decide (l[i] = a) || isIn (l.drop (i + 1)) a) := by rw [List.drop_eq_getElem_cons h]; rfl
theorem index_run {l : List ByteArray} (a : ByteArray) (hl : l.length < 1000000000000) : ∀ (d i k : Nat), i + d = l.length → d < k → ∃ r : Int, slices_Index_string_string.l0 k l a (l.length : Int) (i : Int) = some r ∧ decide (r ≥ 0) = isIn (l.drop i) a
 | d, i, 0, _, hk => absurd hk (Nat.not_lt_zero _)
 | 0, i, k + 1, hd, _ => by
  refine ⟨-1, ?_, ?_⟩
  ·simp only [slices_Index_string_string.l0]
   rw [if_neg (by omega)]
  ·rw [List.drop_eq_nil_of_le (by omega)]
   simp [isIn]
 | d + 1, i, k + 1, hd, hk => by
  have hi : i < l.length := by omega
  have ih := index_run a hl d (i + 1) k (by omega) (by omega)
  simp only [slices_Index_string_string.l0]
  rw [if_pos (by omega), if_pos (by omega), if_pos (by omega), rd_get hi, w64 (by omega), isIn_drop hi]
  by_cases h : a.toList = l[i].toList
  ·rw [if_pos h]
   have e := (tl_inj.1 h).symm
   exact ⟨(i : Int), rfl, by simp [e]⟩
  ·rw [if_neg h]
   have e : ¬ l[i] = a := fun e => h (tl_inj.2 e.symm)
   simpa [e] using ih
theorem contains_run {l : List ByteArray} (a : ByteArray) (hl : l.length < 1000000000000) {k : Nat} (hk : l.length < k) : slices_Contains_string_string.f k l a = some (isIn l a) := by
 obtain ⟨r, h1, h2⟩ := index_run a hl l.length 0 k (by omega) hk
 simp only [slices_Contains_string_string.f, slices_Index_string_string.f]
 have h3 := h1
 rw [show ((0 : Nat) : Int) = 0 from rfl] at h3
 rw [h3]
 simp only [Option.bind_some]
 rw [h2]
 rfl
def dg (i : Nat) : ByteArray := ⟨(Lib.decDigits i).toArray⟩
def S (b : ByteArray) : Nat → ByteArray
 | 0 => b
 | i + 1 => b ++ (⟨#[95]⟩ : ByteArray) ++ dg (i + 1)
theorem dg_inj : ∀ i < 100, ∀ j < 100, Lib.decDigits i = Lib.decDigits j → i = j := by decide +kernel
theorem dg_len : ∀ i < 100, (Lib.decDigits i).length ≤ 2 := by decide +kernel
theorem app_inj {a b c : ByteArray} (h : a ++ b = a ++ c) : b = c := by
 have h1 : (a ++ b).data.toList = (a ++ c).data.toList := by rw [h]
 rw [ByteArray.data_append, ByteArray.data_append, Array.toList_append, Array.toList_append, List.append_cancel_left_eq] at h1
 exact ByteArray.ext (Array.toList_inj.1 h1)
theorem S_inj (b : ByteArray) {i j : Nat} (hi : i < 100) (hj : j < 100) (h : S b i = S b j) : i = j := by
 have size : ∀ n, (S b (n + 1)).size = b.size + 1 + (Lib.decDigits (n + 1)).length := by
  intro n
  simp only [S, ByteArray.size_append, dg]
  rfl
 cases i with
 | zero =>
  cases j with
  | zero => rfl
  | succ j =>
   have h1 := congrArg ByteArray.size h
   rw [size] at h1
   simp only [S] at h1
   omega
 | succ i =>
  cases j with
  | zero =>
   have h1 := congrArg ByteArray.size h
   rw [size] at h1
   simp only [S] at h1
   omega
  | succ j =>
   simp only [S] at h
   have h2 := app_inj h
   have h3 : Lib.decDigits (i + 1) = Lib.decDigits (j + 1) := by
    have := congrArg (fun x : ByteArray => x.data.toList) h2
    simpa [dg] using this
   exact dg_inj _ hi _ hj h3
theorem itoa_eq (i : Nat) (h : i < 100) : strconv_Itoa.f (i : Int) = some (dg i) := by
 unfold strconv_Itoa.f
 rw [if_pos (by omega), if_pos (by omega)]
 rfl
theorem dg_size (i : Nat) (h : i < 100) : (dg i).size ≤ 2 := by
 have := dg_len i h
 simpa [dg, ByteArray.size] using this
theorem fresh_run {b : ByteArray} (hb : b.size ≤ 100) {used : List ByteArray} (hu : used.length < 100) : ∀ (d i k : Nat), (∀ j, i ≤ j → j < i + d → isIn used (S b j) = true) → isIn used (S b (i + d)) = false → i + d < 99 → used.length + d + 1 < k → free_Fresh.l0 k b used (S b i) ((i + 1 : Nat) : Int) = some (S b (i + d))
 | d, i, 0, _, _, _, hk => absurd hk (Nat.not_lt_zero _)
 | 0, i, k + 1, _, h1, _, hk => by
  simp only [free_Fresh.l0]
  rw [contains_run _ (by omega) (by omega)]
  simp only [Option.bind_some]
  rw [Nat.add_zero] at h1
  rw [h1]
  rfl
 | d + 1, i, k + 1, h0, h1, hi, hk => by
  simp only [free_Fresh.l0]
  rw [contains_run _ (by omega) (by omega)]
  simp only [Option.bind_some]
  rw [h0 i (Nat.le_refl _) (by omega), if_pos rfl, if_pos (by omega), itoa_eq _ (by omega)]
  simp only [Option.bind_some]
  have hs := dg_size (i + 1) (by omega)
  rw [if_pos (by rw [ByteArray.size_append]; have : (⟨#[95]⟩ : ByteArray).size = 1 := rfl; omega), w64 (by omega)]
  have := fresh_run hb hu d (i + 1) k (fun j hj hj2 => h0 j (by omega) (by omega)) (by rw [show i + 1 + d = i + (d + 1) by omega]; exact h1) (by omega) (by omega)
  rw [show i + (d + 1) = i + 1 + d by omega]
  exact this
theorem fresh_f {b : ByteArray} (hb : b.size ≤ 100) {used : List ByteArray} (hu : used.length < 90) {m : Nat} (h0 : ∀ j, j < m → isIn used (S b j) = true) (h1 : isIn used (S b m) = false) (hm : m < 99) {k : Nat} (hk : used.length + m + 1 < k) : free_Fresh.f k b used = some (S b m) := by
 have := fresh_run hb (by omega) m 0 k (fun j _ hj => h0 j (by omega)) (by simpa using h1) (by omega) (by omega)
 simpa [free_Fresh.f, S] using this
theorem pigeon (b : ByteArray) : ∀ (n : Nat) (u : List ByteArray), n ≤ 100 → (∀ j, j < n → S b j ∈ u) → n ≤ u.length
 | 0, _, _, _ => Nat.zero_le _
 | n + 1, u, hn, h => by
  have ih := pigeon b n (u.filter (fun x => decide (x ≠ S b n))) (by omega) (fun j hj => List.mem_filter.2 ⟨h j (by omega), by
   have : S b j ≠ S b n := fun e => by have := S_inj b (by omega) (by omega) e; omega
   simpa using this⟩)
  have hlt : (u.filter (fun x => decide (x ≠ S b n))).length < u.length := List.length_filter_lt_length_iff_exists.2 ⟨S b n, h n (by omega), by simp⟩
  omega
theorem least (b : ByteArray) (u : List ByteArray) : ∀ n : Nat, (∀ j, j < n → isIn u (S b j) = true) ∨ ∃ m, m < n ∧ isIn u (S b m) = false ∧ ∀ j, j < m → isIn u (S b j) = true
 | 0 => .inl (fun j hj => absurd hj (Nat.not_lt_zero _))
 | n + 1 => by
  rcases least b u n with h | ⟨m, hm, h1, h2⟩
  ·cases hn : isIn u (S b n) with
   | true => exact .inl (fun j hj => by
     rcases Nat.lt_or_ge j n with h3 | h3
     ·exact h j h3
     ·rw [show j = n by omega]; exact hn)
   | false => exact .inr ⟨n, by omega, hn, h⟩
  ·exact .inr ⟨m, by omega, h1, h2⟩
theorem first_free (b : ByteArray) (u : List ByteArray) (hu : u.length < 90) : ∃ m, m ≤ u.length ∧ isIn u (S b m) = false ∧ ∀ j, j < m → isIn u (S b j) = true := by
 rcases least b u (u.length + 1) with h | ⟨m, hm, h1, h2⟩
 ·have := pigeon b (u.length + 1) u (by omega) (fun j hj => isIn_iff.1 (h j hj))
  omega
 ·exact ⟨m, by omega, h1, h2⟩
end Fr
theorem fresh_c (s : ByteArray) (hs : s.size ≤ 60) (u : List ByteArray) (hu : u.length ≤ 12) : ∃ m, m ≤ 12 ∧ (∀ j, j < m → isIn u (Fr.S s j) = true) ∧ isIn u (Fr.S s m) = false ∧ ∀ (w : World) {A : Option Addr} {c : Nat}, Kd.C Kd.string w A u.length u → u.length ≤ c → Calls Tryd.prog 10 #[.string s, .slice A u.length c] w fun e w' => e = .returned (.string (Fr.S s m)) ∧ Below w.heap.size w w' := by
 obtain ⟨m, hm, h1, h0⟩ := Fr.first_free s u (by omega)
 exact ⟨m, by omega, h0, h1, fun w A c hC hc => (free_Fresh.calls (u.length + m + 2) s A c u _ w hC hc (Fr.fresh_f (by omega) (by omega) h0 h1 (by omega) (by omega))).mono fun e w' h => ⟨h.1, h.2.below⟩⟩
theorem num_c (j : Nat) (hj : j < 99) (w : World) : Calls Tryd.prog 9 #[.int .i64 ((j : Int) + 1)] w fun e w' => e = .returned (.string (Fr.dg (j + 1))) ∧ Below w.heap.size w w' :=
 (gristmillworld_Num.calls _ _ w (by unfold gristmillworld_Num.f; rw [show (j : Int) + 1 = ((j + 1 : Nat) : Int) from rfl, Fr.itoa_eq (j + 1) (by omega)]; rfl)).mono fun e w' h => ⟨h.1, h.2.below⟩
mutual
theorem cn_cost : ∀ e : S33, cn e + 1 ≤ 2 * cost e
 | ⟨_, _, _, ns, l, al⟩ => by
  simp only [cost, cn]
  have h1 := cnL_cost l
  have h2 := cnA_cost al
  omega
theorem cnL_cost : ∀ l : List S33, cnL l ≤ 2 * costL l
 | [] => by simp [cnL]
 | e :: l => by
  simp only [costL, cnL]
  have h1 := cn_cost e
  have h2 := cnL_cost l
  omega
theorem cnA_cost : ∀ l : List S40, cnA l ≤ 2 * costA l
 | [] => by simp [cnA]
 | ⟨_, _, _, ns, e⟩ :: l => by
  simp only [costA, cnA]
  have h1 := cn_cost e
  have h2 := cnA_cost l
  omega
end
theorem rsG {s : ByteArray} {y e z : S33} (h : RS s y e) (hz : cl s y e = z) (w : World) {A3 A4 A5 Y3 Y4 Y5 : Option Addr} {c3 c4 c5 z3 z4 z5 : Nat} (i1 : In w e A3 A4 A5 c3 c4 c5) (i2 : In w y Y3 Y4 Y5 z3 z4 z5) :
  Calls Tryd.prog 28 #[.agg #[.int .i64 e.f0, .string e.f1, .int .i64 e.f2, .slice A3 e.f3.length c3, .slice A4 e.f4.length c4, .slice A5 e.f5.length c5], .string s, .agg #[.int .i64 y.f0, .string y.f1, .int .i64 y.f2, .slice Y3 y.f3.length z3, .slice Y4 y.f4.length z4, .slice Y5 y.f5.length z5]] w fun r w' => ∃ B3 B4 B5 d3 d4 d5, r = .returned (.agg #[.int .i64 z.f0, .string z.f1, .int .i64 z.f2, .slice B3 z.f3.length d3, .slice B4 z.f4.length d4, .slice B5 z.f5.length d5]) ∧ In w' z B3 B4 B5 d3 d4 d5 ∧ Below w.heap.size w w' := by
 refine (h.at hz w w.heap.size (Nat.le_refl _) i1.fp i2.fp).mono ?_
 rintro r w' ⟨B3, B4, B5, d3, d4, d5, rfl, hF, hb⟩
 exact ⟨B3, B4, B5, d3, d4, d5, rfl, hF.in, hb⟩
theorem rsV {s t : ByteArray} {e z : S33} (h : RS s (exV t) e) (hz : cl s (exV t) e = z) (w : World) {A3 A4 A5 : Option Addr} {c3 c4 c5 : Nat} (i1 : In w e A3 A4 A5 c3 c4 c5) :
  Calls Tryd.prog 28 #[.agg #[.int .i64 e.f0, .string e.f1, .int .i64 e.f2, .slice A3 e.f3.length c3, .slice A4 e.f4.length c4, .slice A5 e.f5.length c5], .string s, .agg #[.int .i64 1, .string t, .int .i64 0, .slice none 0 0, .slice none 0 0, .slice none 0 0]] w fun r w' => ∃ B3 B4 B5 d3 d4 d5, r = .returned (.agg #[.int .i64 z.f0, .string z.f1, .int .i64 z.f2, .slice B3 z.f3.length d3, .slice B4 z.f4.length d4, .slice B5 z.f5.length d5]) ∧ In w' z B3 B4 B5 d3 d4 d5 ∧ Below w.heap.size w w' :=
 rsG h hz w i1 (Y3 := none) (Y4 := none) (Y5 := none) (z3 := 0) (z4 := 0) (z5 := 0) ⟨Kd.C_nil _ _, Nat.le_refl _, Kd.C_nil _ _, Nat.le_refl _, Kd.C_nil _ _, Nat.le_refl _⟩
set_option maxHeartbeats 4000000 in
set_option maxRecDepth 100000 in
theorem closed_c (e : S33) (hok : okE e = true) (hc : cost e ≤ 100000000000) {r : List ByteArray} (hr : fx e [] [] = r) {b : Bool} (hb : ((r.length : Int) == 0) = b) (w : World) {A3 A4 A5 : Option Addr} {c3 c4 c5 : Nat} (i : In w e A3 A4 A5 c3 c4 c5) :
  Calls Tryd.prog 27 #[.agg #[.int .i64 e.f0, .string e.f1, .int .i64 e.f2, .slice A3 e.f3.length c3, .slice A4 e.f4.length c4, .slice A5 e.f5.length c5]] w fun x w' => x = .returned (.bool b) ∧ Below w.heap.size w w' := by
 obtain ⟨W0, hW0⟩ : ∃ W0, w.alloc (.cells #[.int .i64 e.f0, .string e.f1, .int .i64 e.f2, .slice A3 e.f3.length c3, .slice A4 e.f4.length c4, .slice A5 e.f5.length c5] 33) = W0 := ⟨_, rfl⟩
 have hB0 : Aside0 (Below w.heap.size w W0) := ⟨by rw [← hW0]; exact below_alloc (Below.refl _ _) _⟩
 have hbx : Aside0 (W0.heap[w.heap.size]? = some (.cells #[.int .i64 e.f0, .string e.f1, .int .i64 e.f2, .slice A3 e.f3.length c3, .slice A4 e.f4.length c4, .slice A5 e.f5.length c5] 33 (0, 0))) := ⟨by rw [← hW0]; exact blk_new w _⟩
 have i0 := i.below hB0.out
 have CN := names_g e hok hc rfl rfl rfl rfl rfl rfl hr rfl W0 (c3 := c3) (c4 := c4) (c5 := c5) i0.h3 i0.h4 i0.h5
 have k0 := (blk_cell hbx.out 0).trans rfl
 have k1 := (blk_cell hbx.out 1).trans rfl
 have k2 := (blk_cell hbx.out 2).trans rfl
 have k3 := (blk_cell hbx.out 3).trans rfl
 have k4 := (blk_cell hbx.out 4).trans rfl
 have k5 := (blk_cell hbx.out 5).trans rfl
 clear hok hc hr i i0
 go_enter Tryd.func27, Tryd.ntmps27
 go_wp2_with (first | (go_at_call 15; (try rw [hW0]); go_loud (with_reducible refine CN.mono ?_); rintro x w2 ⟨A, c, rfl, _, _, hb2⟩; have HB2 := Aside0.mk hb2; clear CN hb2))
 go_ret
 exact ⟨rfl, hB0.out.trans (HB2.out.mono hB0.out.size)⟩
end Go.Proofs.YtmoeekidmkhkoaaDoor.FreeA
namespace Go.Proofs.YtmoeekidmkhkoaaDoor.FreeA
open Go.RowKit Go.Proofs.YtmoeekidmkhkoaaDoorW.PrintWords Go.Proofs.YtmoeekidmkhkoaaDoorW.PrintLast Go.Proofs.YtmoeekidmkhkoaaDoorW.PrintMore Go.Proofs.YtmoeekidmkhkoaaDoor.PFreeA
set_option linter.unusedVariables false
set_option linter.unusedSimpArgs false
theorem six_ {W : World} {b t : Nat} {v0 v1 v2 v3 v4 v5 : Value} (h : W.heap[b]? = some (.cells #[v0, v1, v2, v3, v4, v5] t (0, 0))) : W.cell? ⟨b, 0, none⟩ = some v0 ∧ W.cell? ⟨b, 1, none⟩ = some v1 ∧ W.cell? ⟨b, 2, none⟩ = some v2 ∧ W.cell? ⟨b, 3, none⟩ = some v3 ∧ W.cell? ⟨b, 4, none⟩ = some v4 ∧ W.cell? ⟨b, 5, none⟩ = some v5 := ⟨(blk_cell h 0).trans rfl, (blk_cell h 1).trans rfl, (blk_cell h 2).trans rfl, (blk_cell h 3).trans rfl, (blk_cell h 4).trans rfl, (blk_cell h 5).trans rfl⟩
theorem cat6_ {W : World} {b t : Nat} {v0 v1 v2 v3 v4 v5 : Value} {R : Prop} (h : W.heap[b]? = some (.cells #[v0, v1, v2, v3, v4, v5] t (0, 0))) (r : R) : W.cell? ⟨b, 0, none⟩ = some v0 ∧ W.cell? ⟨b, 1, none⟩ = some v1 ∧ W.cell? ⟨b, 2, none⟩ = some v2 ∧ W.cell? ⟨b, 3, none⟩ = some v3 ∧ W.cell? ⟨b, 4, none⟩ = some v4 ∧ W.cell? ⟨b, 5, none⟩ = some v5 ∧ R := ⟨(blk_cell h 0).trans rfl, (blk_cell h 1).trans rfl, (blk_cell h 2).trans rfl, (blk_cell h 3).trans rfl, (blk_cell h 4).trans rfl, (blk_cell h 5).trans rfl, r⟩
set_option maxHeartbeats 32000000 in
set_option maxRecDepth 100000 in
theorem says_walk (a b : S33) (s t : ByteArray) (u : List ByteArray) (ra : RW a) (rb : RW b) (w : World) (hg : GG w) {A3 A4 A5 : Option Addr} {c3 c4 c5 : Nat} {B3 B4 B5 : Option Addr} {d3 d4 d5 : Nat} {U : Option Addr} {cu : Nat} (ia : In w a A3 A4 A5 c3 c4 c5) (ib : In w b B3 B4 B5 d3 d4 d5) (hu : Kd.C Kd.string w U u.length u) (mu : u.length ≤ cu) :
  Calls Tryd.prog 6 #[.agg #[.int .i64 a.f0, .string a.f1, .int .i64 a.f2, .slice A3 a.f3.length c3, .slice A4 a.f4.length c4, .slice A5 a.f5.length c5], .agg #[.int .i64 b.f0, .string b.f1, .int .i64 b.f2, .slice B3 b.f3.length d3, .slice B4 b.f4.length d4, .slice B5 b.f5.length d5], .string s, .string t, .slice U u.length cu] w fun e w' => e = .returned (.bool true) ∧ Below w.heap.size w w' := by
 have E : ∀ W : World, ∀ o : Obj, (W.alloc o).heap.size = W.heap.size + 1 := fun W o => Array.size_push _
 obtain ⟨ba, hba, CA⟩ := expr_m a ra 150 (by decide) (by decide)
 obtain ⟨bb, hbb, CB⟩ := expr_m b rb 40 (by decide) (by decide)
 obtain ⟨z1, hz1⟩ : ∃ b, decide (60 < (s.size : Int)) = b := ⟨_, rfl⟩
 obtain ⟨z2, hz2⟩ : ∃ b, decide (60 < (t.size : Int)) = b := ⟨_, rfl⟩
 obtain ⟨z3, hz3⟩ : ∃ b, decide (12 < (u.length : Int)) = b := ⟨_, rfl⟩
 have hca : Aside0 (ba = true → WF a ∧ cn a ≤ 150) := ⟨fun h => ⟨wf_of _ a (Nat.le_refl _) ra (by have := hba h; omega), by have := hba h; omega⟩⟩
 have hcb : Aside0 (bb = true → WF b ∧ cn b ≤ 40) := ⟨fun h => ⟨wf_of _ b (Nat.le_refl _) rb (by have := hbb h; omega), by have := hbb h; omega⟩⟩
 have hc1 : Aside0 (z1 = false → s.size ≤ 60) := ⟨fun h => by rw [h] at hz1; have := of_decide_eq_false hz1; omega⟩
 have hc3 : Aside0 (z3 = false → u.length ≤ 12) := ⟨fun h => by rw [h] at hz3; have := of_decide_eq_false hz3; omega⟩
 have hoa := Aside0.mk (okE_of a ra)
 have hob := Aside0.mk (okE_of b rb)
 obtain ⟨W0, hW0⟩ : ∃ W0, (w.alloc (.cells #[.int .i64 a.f0, .string a.f1, .int .i64 a.f2, .slice A3 a.f3.length c3, .slice A4 a.f4.length c4, .slice A5 a.f5.length c5] 33)).alloc (.cells #[.int .i64 b.f0, .string b.f1, .int .i64 b.f2, .slice B3 b.f3.length d3, .slice B4 b.f4.length d4, .slice B5 b.f5.length d5] 33) = W0 := ⟨_, rfl⟩
 have HB0 : Aside0 (Below w.heap.size w W0) := ⟨by rw [← hW0]; exact below_alloc (below_alloc (Below.refl _ _) _) _⟩
 have hxa : Aside0 (W0.heap[w.heap.size]? = some (.cells #[.int .i64 a.f0, .string a.f1, .int .i64 a.f2, .slice A3 a.f3.length c3, .slice A4 a.f4.length c4, .slice A5 a.f5.length c5] 33 (0, 0))) := ⟨by rw [← hW0]; exact (Below.heap_alloc _ _ _ (by rw [E]; omega)).trans (blk_new w _)⟩
 have hxb : Aside0 (W0.heap[w.heap.size + 1]? = some (.cells #[.int .i64 b.f0, .string b.f1, .int .i64 b.f2, .slice B3 b.f3.length d3, .slice B4 b.f4.length d4, .slice B5 b.f5.length d5] 33 (0, 0))) := ⟨by rw [← hW0, ← E w]; exact blk_new _ _⟩
 have ia := Aside0.mk (ia.below HB0.out)
 have ib := Aside0.mk (ib.below HB0.out)
 have hu := Aside0.mk (Kd.C_below hu HB0.out)
 have hg0 := Aside0.mk (GG.below hg HB0.out)
 have CA := Aside0.mk (@CA)
 have CB := Aside0.mk (@CB)
 clear hba hbb ra rb hg
 go_enter Tryd.func6, Tryd.ntmps6
 go_upto_region 4 with (first | (go_at_call 7; (try rw [hW0]); go_loud (with_reducible refine (Ext.first_calls W0).mono ?_); rintro e w1 ⟨rfl, hb1⟩; have HB1 := Aside0.mk hb1; clear hb1))
 go_cut [51] (fun v51 wc => ∃ z : Bool, v51 = .bool z ∧ Aside0 (z = false → (ba = true ∧ bb = true) ∧ (z1 = false ∧ z3 = false) ∧ Shp a) ∧ Aside0 (Below W0.heap.size W0 wc))
 case first => as_aux_lemma =>
  clear hW0
  (have ka0 := (blk_cell (blk_below hxa.out HB1.out) 0).trans rfl)
  (have ka1 := (blk_cell (blk_below hxa.out HB1.out) 1).trans rfl)
  (have ka2 := (blk_cell (blk_below hxa.out HB1.out) 2).trans rfl)
  (have ka3 := (blk_cell (blk_below hxa.out HB1.out) 3).trans rfl)
  (have ka4 := (blk_cell (blk_below hxa.out HB1.out) 4).trans rfl)
  (have ka5 := (blk_cell (blk_below hxa.out HB1.out) 5).trans rfl)
  (have kb0 := (blk_cell (blk_below hxb.out HB1.out) 0).trans rfl)
  (have kb1 := (blk_cell (blk_below hxb.out HB1.out) 1).trans rfl)
  (have kb2 := (blk_cell (blk_below hxb.out HB1.out) 2).trans rfl)
  (have kb3 := (blk_cell (blk_below hxb.out HB1.out) 3).trans rfl)
  (have kb4 := (blk_cell (blk_below hxb.out HB1.out) 4).trans rfl)
  (have kb5 := (blk_cell (blk_below hxb.out HB1.out) 5).trans rfl)
  have CA1 := CA.out w1 (ia.out.below HB1.out)
  cases ba
  ·go_wp2_with (first | (go_at_call 13; go_loud (with_reducible refine CA1.mono ?_); rintro e w2 ⟨rfl, hb2⟩; have HB2 := Aside0.mk (below_step HB1.out hb2); clear hb2 CA1))
   go_meet
   case rel => exact ⟨true, rfl, ⟨fun h => by cases h⟩, HB2⟩
  ·have hwa := Aside0.mk (hca.out rfl).1
   cases bb
   ·go_wp2_with (first | (go_at_call 13; go_loud (with_reducible refine CA1.mono ?_); rintro e w2 ⟨rfl, hb2⟩; have HB2 := Aside0.mk (below_step HB1.out hb2); have CB2 := CB.out w2 (ib.out.below HB2.out); clear ka0 kb0 ka1 kb1 ka2 kb2 ka3 kb3 ka4 kb4 ka5 kb5; (have ka0 := (blk_cell (blk_below hxa.out HB2.out) 0).trans rfl); (have ka1 := (blk_cell (blk_below hxa.out HB2.out) 1).trans rfl); (have ka2 := (blk_cell (blk_below hxa.out HB2.out) 2).trans rfl); (have ka3 := (blk_cell (blk_below hxa.out HB2.out) 3).trans rfl); (have ka4 := (blk_cell (blk_below hxa.out HB2.out) 4).trans rfl); (have ka5 := (blk_cell (blk_below hxa.out HB2.out) 5).trans rfl); (have kb0 := (blk_cell (blk_below hxb.out HB2.out) 0).trans rfl); (have kb1 := (blk_cell (blk_below hxb.out HB2.out) 1).trans rfl); (have kb2 := (blk_cell (blk_below hxb.out HB2.out) 2).trans rfl); (have kb3 := (blk_cell (blk_below hxb.out HB2.out) 3).trans rfl); (have kb4 := (blk_cell (blk_below hxb.out HB2.out) 4).trans rfl); (have kb5 := (blk_cell (blk_below hxb.out HB2.out) 5).trans rfl); clear hb2 CA1) | (go_at_call 13; go_loud (with_reducible refine CB2.mono ?_); rintro e w3 ⟨rfl, hb3⟩; have HB3 := Aside0.mk (below_step HB2.out hb3); clear hb3 CB2))
    go_meet
    case rel => exact ⟨true, rfl, ⟨fun h => by cases h⟩, HB3⟩
   ·have hwb := Aside0.mk (hcb.out rfl).1
    cases z1
    ·cases z2
     ·cases z3
      ·go_wp2_with (first | (go_at_call 13; go_loud (with_reducible refine CA1.mono ?_); rintro e w2 ⟨rfl, hb2⟩; have HB2 := Aside0.mk (below_step HB1.out hb2); have CB2 := CB.out w2 (ib.out.below HB2.out); clear ka0 kb0 ka1 kb1 ka2 kb2 ka3 kb3 ka4 kb4 ka5 kb5; (have ka0 := (blk_cell (blk_below hxa.out HB2.out) 0).trans rfl); (have ka1 := (blk_cell (blk_below hxa.out HB2.out) 1).trans rfl); (have ka2 := (blk_cell (blk_below hxa.out HB2.out) 2).trans rfl); (have ka3 := (blk_cell (blk_below hxa.out HB2.out) 3).trans rfl); (have ka4 := (blk_cell (blk_below hxa.out HB2.out) 4).trans rfl); (have ka5 := (blk_cell (blk_below hxa.out HB2.out) 5).trans rfl); (have kb0 := (blk_cell (blk_below hxb.out HB2.out) 0).trans rfl); (have kb1 := (blk_cell (blk_below hxb.out HB2.out) 1).trans rfl); (have kb2 := (blk_cell (blk_below hxb.out HB2.out) 2).trans rfl); (have kb3 := (blk_cell (blk_below hxb.out HB2.out) 3).trans rfl); (have kb4 := (blk_cell (blk_below hxb.out HB2.out) 4).trans rfl); (have kb5 := (blk_cell (blk_below hxb.out HB2.out) 5).trans rfl); clear hb2 CA1) | (go_at_call 13; go_loud (with_reducible refine CB2.mono ?_); rintro e w4 ⟨rfl, hb4⟩; have HB4 := Aside0.mk (below_step HB2.out hb4); have CV4 := valid_s a hwa.out w4 (GG.below hg0.out HB4.out) (ia.out.below HB4.out); clear ka0 kb0 ka1 kb1 ka2 kb2 ka3 kb3 ka4 kb4 ka5 kb5; (have ka0 := (blk_cell (blk_below hxa.out HB4.out) 0).trans rfl); (have ka1 := (blk_cell (blk_below hxa.out HB4.out) 1).trans rfl); (have ka2 := (blk_cell (blk_below hxa.out HB4.out) 2).trans rfl); (have ka3 := (blk_cell (blk_below hxa.out HB4.out) 3).trans rfl); (have ka4 := (blk_cell (blk_below hxa.out HB4.out) 4).trans rfl); (have ka5 := (blk_cell (blk_below hxa.out HB4.out) 5).trans rfl); (have kb0 := (blk_cell (blk_below hxb.out HB4.out) 0).trans rfl); (have kb1 := (blk_cell (blk_below hxb.out HB4.out) 1).trans rfl); (have kb2 := (blk_cell (blk_below hxb.out HB4.out) 2).trans rfl); (have kb3 := (blk_cell (blk_below hxb.out HB4.out) 3).trans rfl); (have kb4 := (blk_cell (blk_below hxb.out HB4.out) 4).trans rfl); (have kb5 := (blk_cell (blk_below hxb.out HB4.out) 5).trans rfl); clear hb4 CB2) | (go_at_call 14; go_loud (with_reducible refine CV4.mono ?_); rintro e w5 ⟨va, rfl, hva, hb5⟩; have HB5 := Aside0.mk (below_step HB4.out hb5); have hva := Aside0.mk hva; have CV5 := valid_s b hwb.out w5 (GG.below hg0.out HB5.out) (ib.out.below HB5.out); (try (clear ka0 kb0 ka1 kb1 ka2 kb2 ka3 kb3 ka4 kb4 ka5 kb5)); (have ka0 := (blk_cell (blk_below hxa.out HB5.out) 0).trans rfl); (have ka1 := (blk_cell (blk_below hxa.out HB5.out) 1).trans rfl); (have ka2 := (blk_cell (blk_below hxa.out HB5.out) 2).trans rfl); (have ka3 := (blk_cell (blk_below hxa.out HB5.out) 3).trans rfl); (have ka4 := (blk_cell (blk_below hxa.out HB5.out) 4).trans rfl); (have ka5 := (blk_cell (blk_below hxa.out HB5.out) 5).trans rfl); (have kb0 := (blk_cell (blk_below hxb.out HB5.out) 0).trans rfl); (have kb1 := (blk_cell (blk_below hxb.out HB5.out) 1).trans rfl); (have kb2 := (blk_cell (blk_below hxb.out HB5.out) 2).trans rfl); (have kb3 := (blk_cell (blk_below hxb.out HB5.out) 3).trans rfl); (have kb4 := (blk_cell (blk_below hxb.out HB5.out) 4).trans rfl); (have kb5 := (blk_cell (blk_below hxb.out HB5.out) 5).trans rfl); clear hb5 CV4) | (go_at_call 14; go_loud (with_reducible refine CV5.mono ?_); rintro e w6 ⟨vb, rfl, _, hb6⟩; have HB6 := Aside0.mk (below_step HB5.out hb6); clear hb6 CV5))
       all_goals go_meet
       all_goals (case rel => exact ⟨_, rfl, ⟨fun h => by first | exact ⟨⟨rfl, rfl⟩, ⟨rfl, rfl⟩, hva.out (by first | rfl | assumption | trivial)⟩ | exact ⟨⟨trivial, trivial⟩, ⟨trivial, trivial⟩, hva.out (by first | rfl | assumption | trivial)⟩ | (simp only [*]; exact ⟨⟨trivial, trivial⟩, ⟨trivial, trivial⟩, hva.out (by first | rfl | assumption | trivial)⟩) | cases h | trivial⟩, by first | exact HB6 | exact HB5⟩)
      ·go_wp2_with (first | (go_at_call 13; go_loud (with_reducible refine CA1.mono ?_); rintro e w2 ⟨rfl, hb2⟩; have HB2 := Aside0.mk (below_step HB1.out hb2); have CB2 := CB.out w2 (ib.out.below HB2.out); clear ka0 kb0 ka1 kb1 ka2 kb2 ka3 kb3 ka4 kb4 ka5 kb5; (have ka0 := (blk_cell (blk_below hxa.out HB2.out) 0).trans rfl); (have ka1 := (blk_cell (blk_below hxa.out HB2.out) 1).trans rfl); (have ka2 := (blk_cell (blk_below hxa.out HB2.out) 2).trans rfl); (have ka3 := (blk_cell (blk_below hxa.out HB2.out) 3).trans rfl); (have ka4 := (blk_cell (blk_below hxa.out HB2.out) 4).trans rfl); (have ka5 := (blk_cell (blk_below hxa.out HB2.out) 5).trans rfl); (have kb0 := (blk_cell (blk_below hxb.out HB2.out) 0).trans rfl); (have kb1 := (blk_cell (blk_below hxb.out HB2.out) 1).trans rfl); (have kb2 := (blk_cell (blk_below hxb.out HB2.out) 2).trans rfl); (have kb3 := (blk_cell (blk_below hxb.out HB2.out) 3).trans rfl); (have kb4 := (blk_cell (blk_below hxb.out HB2.out) 4).trans rfl); (have kb5 := (blk_cell (blk_below hxb.out HB2.out) 5).trans rfl); clear hb2 CA1) | (go_at_call 13; go_loud (with_reducible refine CB2.mono ?_); rintro e w3 ⟨rfl, hb3⟩; have HB3 := Aside0.mk (below_step HB2.out hb3); clear hb3 CB2))
       go_meet
       case rel => exact ⟨true, rfl, ⟨fun h => by cases h⟩, HB3⟩
     ·go_wp2_with (first | (go_at_call 13; go_loud (with_reducible refine CA1.mono ?_); rintro e w2 ⟨rfl, hb2⟩; have HB2 := Aside0.mk (below_step HB1.out hb2); have CB2 := CB.out w2 (ib.out.below HB2.out); clear ka0 kb0 ka1 kb1 ka2 kb2 ka3 kb3 ka4 kb4 ka5 kb5; (have ka0 := (blk_cell (blk_below hxa.out HB2.out) 0).trans rfl); (have ka1 := (blk_cell (blk_below hxa.out HB2.out) 1).trans rfl); (have ka2 := (blk_cell (blk_below hxa.out HB2.out) 2).trans rfl); (have ka3 := (blk_cell (blk_below hxa.out HB2.out) 3).trans rfl); (have ka4 := (blk_cell (blk_below hxa.out HB2.out) 4).trans rfl); (have ka5 := (blk_cell (blk_below hxa.out HB2.out) 5).trans rfl); (have kb0 := (blk_cell (blk_below hxb.out HB2.out) 0).trans rfl); (have kb1 := (blk_cell (blk_below hxb.out HB2.out) 1).trans rfl); (have kb2 := (blk_cell (blk_below hxb.out HB2.out) 2).trans rfl); (have kb3 := (blk_cell (blk_below hxb.out HB2.out) 3).trans rfl); (have kb4 := (blk_cell (blk_below hxb.out HB2.out) 4).trans rfl); (have kb5 := (blk_cell (blk_below hxb.out HB2.out) 5).trans rfl); clear hb2 CA1) | (go_at_call 13; go_loud (with_reducible refine CB2.mono ?_); rintro e w3 ⟨rfl, hb3⟩; have HB3 := Aside0.mk (below_step HB2.out hb3); clear hb3 CB2))
      go_meet
      case rel => exact ⟨true, rfl, ⟨fun h => by cases h⟩, HB3⟩
    ·go_wp2_with (first | (go_at_call 13; go_loud (with_reducible refine CA1.mono ?_); rintro e w2 ⟨rfl, hb2⟩; have HB2 := Aside0.mk (below_step HB1.out hb2); have CB2 := CB.out w2 (ib.out.below HB2.out); clear ka0 kb0 ka1 kb1 ka2 kb2 ka3 kb3 ka4 kb4 ka5 kb5; (have ka0 := (blk_cell (blk_below hxa.out HB2.out) 0).trans rfl); (have ka1 := (blk_cell (blk_below hxa.out HB2.out) 1).trans rfl); (have ka2 := (blk_cell (blk_below hxa.out HB2.out) 2).trans rfl); (have ka3 := (blk_cell (blk_below hxa.out HB2.out) 3).trans rfl); (have ka4 := (blk_cell (blk_below hxa.out HB2.out) 4).trans rfl); (have ka5 := (blk_cell (blk_below hxa.out HB2.out) 5).trans rfl); (have kb0 := (blk_cell (blk_below hxb.out HB2.out) 0).trans rfl); (have kb1 := (blk_cell (blk_below hxb.out HB2.out) 1).trans rfl); (have kb2 := (blk_cell (blk_below hxb.out HB2.out) 2).trans rfl); (have kb3 := (blk_cell (blk_below hxb.out HB2.out) 3).trans rfl); (have kb4 := (blk_cell (blk_below hxb.out HB2.out) 4).trans rfl); (have kb5 := (blk_cell (blk_below hxb.out HB2.out) 5).trans rfl); clear hb2 CA1) | (go_at_call 13; go_loud (with_reducible refine CB2.mono ?_); rintro e w3 ⟨rfl, hb3⟩; have HB3 := Aside0.mk (below_step HB2.out hb3); clear hb3 CB2))
     go_meet
     case rel => exact ⟨true, rfl, ⟨fun h => by cases h⟩, HB3⟩
 case rest =>
  obtain ⟨z, rfl, hz, HBc⟩ := hcut
  clear HB1
  rename World => wc
  have HBc := HBc
  cases z
  ·have hab := hz.out (by first | rfl | trivial)
   have ha1 := (hca.out hab.1.1).2
   have hb1 := (hcb.out hab.1.2).2
   have hs60 := hc1.out hab.2.1.1
   have hu12 := hc3.out hab.2.1.2
   have hsp := hab.2.2
   clear hz hca hcb CA CB hab hg0 hc1 hc3 hz1 hz2 hz3
   obtain ⟨m, hm, hm0, hm1, CFr⟩ := fresh_c s hs60 u hu12
   obtain ⟨na, hna⟩ : ∃ l, fx a [] [] = l := ⟨_, rfl⟩
   obtain ⟨bo, hbo⟩ : ∃ l, bx a [] = l := ⟨_, rfl⟩
   obtain ⟨sv, hsv⟩ : ∃ z, cl s b a = z := ⟨_, rfl⟩
   obtain ⟨sw, hsw⟩ : ∃ z, cl s (exV t) a = z := ⟨_, rfl⟩
   obtain ⟨cb, hcb⟩ : ∃ b, ((na.length : Int) == 0) = b := ⟨_, rfl⟩
   have ka : cost a ≤ 300 := by have := cost_cn a; omega
   have kb : cost b ≤ 80 := by have := cost_cn b; omega
   have kS : cost sv ≤ 24000 := by have h1 := cost_cl s b a; rw [hsv] at h1; exact Nat.le_trans h1 (Nat.le_trans (Nat.mul_le_mul ka kb) (by decide))
   have kT : cost sw ≤ 300 := by have h1 := cost_cl s (exV t) a; rw [hsw] at h1; have h2 : cost (exV t) = 1 := (by simp [exV, cost, costL, costA]); rw [h2] at h1; omega
   have la : Aside0 (na.length ≤ 1000) := ⟨by have h1 := fx_len a [] []; rw [hna] at h1; simp only [List.length_nil] at h1; omega⟩
   have lo : Aside0 (bo.length ≤ 1000) := ⟨by have h1 := bx_len a []; rw [hbo] at h1; simp only [List.length_nil] at h1; omega⟩
   have SV := Aside0.mk (same_all (cost sv) sv (Nat.le_refl _) (by have := cn_cost sv; omega))
   have SW := Aside0.mk (same_all (cost sw) sw (Nat.le_refl _) (by have := cn_cost sw; omega))
   have OB := own_all (cost b) b (Nat.le_refl _) (by omega)
   have OV : OWN (exV t) := own_all (cost (exV t)) (exV t) (Nat.le_refl _) (by simp [exV, cn, cnL, cnA])
   have CSA := Aside0.mk (clone_all s b OB (cost a) a (Nat.le_refl _) (by omega))
   have CRA := Aside0.mk (clone_all s (exV t) OV (cost a) a (Nat.le_refl _) (by omega))
   have RSA := Aside0.mk (rs_all s b (cost a) a (Nat.le_refl _) (by omega) hsp)
   have RSV := Aside0.mk (rs_all s (exV t) (cost a) a (Nat.le_refl _) (by omega) hsp)
   have hsv := Aside0.mk hsv
   have hsw := Aside0.mk hsw
   have ic := Aside0.mk (ia.out.below HBc.out)
   have id := Aside0.mk (ib.out.below HBc.out)
   have uc := Aside0.mk (Kd.C_below hu.out HBc.out)
   have CN1 : ∀ (w6 : World), In w6 a A3 A4 A5 c3 c4 c5 → _ := fun w6 i => names_g a hoa.out (by omega) rfl rfl rfl rfl rfl rfl hna rfl w6 (c3 := c3) (c4 := c4) (c5 := c5) i.h3 i.h4 i.h5
   have CN2 : ∀ (w6 : World), In w6 a A3 A4 A5 c3 c4 c5 → _ := fun w6 i => names_ref a hsp (by omega) w6 i.h3 i.m3 i.h4 i.m4 i.h5 i.m5 hna rfl
   have CB1 : ∀ (w6 : World), In w6 a A3 A4 A5 c3 c4 c5 → _ := fun w6 i => bound_g a hoa.out (by omega) rfl rfl rfl rfl rfl rfl hbo rfl w6 (c3 := c3) (c4 := c4) (c5 := c5) i.h3 i.h4 i.h5
   have CB2 : ∀ (w6 : World), In w6 a A3 A4 A5 c3 c4 c5 → _ := fun w6 i => bound_ref a (by omega) w6 i.h3 i.m3 i.h4 i.m4 i.h5 i.m5 hbo rfl
   have CCl : ∀ (w6 : World), In w6 a A3 A4 A5 c3 c4 c5 → _ := fun w6 i => closed_c a hoa.out (by omega) hna hcb w6 i
   have CN1 := Aside0.mk @CN1
   have CN2 := Aside0.mk @CN2
   have CB1 := Aside0.mk @CB1
   have CB2 := Aside0.mk @CB2
   have CCl := Aside0.mk @CCl
   have hcb := Aside0.mk hcb
   have hs60 := Aside0.mk hs60
   have hmm := Aside0.mk hm
   have hm0 := Aside0.mk hm0
   have hm1 := Aside0.mk hm1
   have hu12 := Aside0.mk hu12
   have CF1 := CFr wc uc.out mu
   clear ka kb kS kT OB OV ha1 hb1 hna hbo hW0 hoa hob hsp CFr hm
   have T1 : True := trivial
   go_wp2_with (first | (clear T1; go_at_call 10; go_loud (with_reducible refine CF1.mono ?_); rintro e W4 ⟨rfl, hb4⟩; have HB4 := Aside0.mk (below_step HBc.out hb4); clear hb4 CF1; have T2 : True := trivial))
   have hB44 := Aside0.mk (Below.refl W4.heap.size W4)
   go_loopg [13, 14] (m + 1) (fun kq v13 v14 w' => ∃ j : Nat, v13 = .string (Fr.S s j) ∧ v14 = .int .i64 ((j : Int) + 1) ∧ j + kq = m + 1 ∧ 1 ≤ kq ∧ Aside0 (Below W4.heap.size W4 w'))
   case atStart => exact ⟨0, rfl, rfl, by omega, by omega, hB44⟩
   case round =>
    clear hB44
    obtain ⟨j, rfl, rfl, hj, hk, hBr⟩ := hrel
    have HBr := Aside0.mk (HB4.out.trans (hBr.out.mono HB4.out.size))
    have T1 : True := trivial
    by_cases hlt : j < m
    ·have CH := has_g u (by have := hu12.out; omega) rfl (Fr.S s j) (b := true) (hm0.out j hlt) wr (Kd.C_below hu.out HBr.out) mu
     have hjn : Value.int .i64 (wrap64 ((j : Int) + 1 + 1)) = .int .i64 (((j + 1 : Nat) : Int) + 1) := by rw [show (j : Int) + 1 = ((j + 1 : Nat) : Int) from rfl, wr1 (j + 1) (by have := hmm.out; omega)]; rfl
     have hi7 : j + 1 + (gk - 1) = m + 1 ∧ 1 ≤ gk - 1 ∧ gk - 1 < gk := by omega
     have CNu : ∀ W : World, _ := num_c j (by have := hmm.out; omega)
     have hdz := Fr.dg_size (j + 1) (by have := hmm.out; omega)
     have hSn : (s ++ (⟨#[95]⟩ : ByteArray)) ++ Fr.dg (j + 1) = Fr.S s (j + 1) := rfl
     obtain ⟨dz, hdz'⟩ : ∃ d, Fr.dg (j + 1) = d := ⟨_, rfl⟩
     obtain ⟨sj, hsj⟩ : ∃ d, Fr.S s j = d := ⟨_, rfl⟩
     rw [hdz'] at hdz CNu hSn
     rw [hsj] at CH
     rw [hsj]
     clear hdz' hsj
     have qs5 : s.size + 1 ≤ 9223372036854775807 := by have := hs60.out; omega
     have qs5b0 := eq_true qs5
     have qs5b1 : decide (s.size + 1 ≤ 9223372036854775807) = true := decide_eq_true qs5
     have qs5b2 : (9223372036854775807 < s.size + 1) = False := eq_false (Nat.not_lt.2 qs5)
     have qs7 : (s ++ (⟨#[95]⟩ : ByteArray)).size + dz.size ≤ 9223372036854775807 := by rw [ByteArray.size_append]; have h1 : (⟨#[95]⟩ : ByteArray).size = 1 := rfl; have := hs60.out; omega
     have qs7b0 := eq_true qs7
     have qs7b1 : decide ((s ++ (⟨#[95]⟩ : ByteArray)).size + dz.size ≤ 9223372036854775807) = true := decide_eq_true qs7
     have qs7b3 := qs7
     (try simp only [go_sem, ByteArray.size_append, show ∀ a_ : UInt8, (⟨#[a_]⟩ : ByteArray).size = 1 from fun _ => rfl] at qs7b3)
     (try have qs7b4 := eq_true qs7b3)
     (try have qs7b5 := eq_false (Nat.not_lt.2 qs7b3))
     have qs7b2 : (9223372036854775807 < (s ++ (⟨#[95]⟩ : ByteArray)).size + dz.size) = False := eq_false (Nat.not_lt.2 qs7)
     have hSn := Aside0.mk hSn
     go_wp2_with (first | (clear T1; go_at_call 12; go_loud (with_reducible refine CH.mono ?_); rintro e w5 ⟨rfl, hb5⟩; have HB5 := Aside0.mk (below_step hBr.out hb5); have CN5 := CNu w5; clear hb5 CH CNu; have T2 : True := trivial) | (clear T2; go_at_call 9; go_loud (with_reducible refine CN5.mono ?_); rintro e w6 ⟨rfl, hb6⟩; have HB6 := Aside0.mk (below_step HB5.out hb6); clear hb6 CN5 HB5; have T3 : True := trivial))
     go_roundg (gk - 1)
     case measure => exact hi7.2.2
     case rel => exact ⟨j + 1, by first | rw [← hSn.out] | (rw [hSn.out]) | (exact congrArg Value.string hSn.out), by first | exact hjn | rfl, hi7.1, hi7.2.1, HB6⟩
    ·obtain rfl : j = m := by omega
     have CH := has_g u (by have := hu12.out; omega) rfl (Fr.S s j) (b := false) hm1.out wr (Kd.C_below hu.out HBr.out) mu
     obtain ⟨sj, hsj⟩ : ∃ d, Fr.S s j = d := ⟨_, rfl⟩
     rw [hsj] at CH
     rw [hsj]
     clear hsj hm0 hm1 hmm hj hk
     go_wp2_with (first | (clear T1; go_at_call 12; go_loud (with_reducible refine CH.mono ?_); rintro e w5 ⟨rfl, hb5⟩; have HB5 := Aside0.mk (below_step HBr.out hb5); have C25 := CN2.out w5 (ia.out.below HB5.out); (try (clear ka0 kb0 ka1 kb1 ka2 kb2 ka3 kb3 ka4 kb4 ka5 kb5)); (have ka0 := (blk_cell (blk_below hxa.out HB5.out) 0).trans rfl); (have ka1 := (blk_cell (blk_below hxa.out HB5.out) 1).trans rfl); (have ka2 := (blk_cell (blk_below hxa.out HB5.out) 2).trans rfl); (have ka3 := (blk_cell (blk_below hxa.out HB5.out) 3).trans rfl); (have ka4 := (blk_cell (blk_below hxa.out HB5.out) 4).trans rfl); (have ka5 := (blk_cell (blk_below hxa.out HB5.out) 5).trans rfl); (have kb0 := (blk_cell (blk_below hxb.out HB5.out) 0).trans rfl); (have kb1 := (blk_cell (blk_below hxb.out HB5.out) 1).trans rfl); (have kb2 := (blk_cell (blk_below hxb.out HB5.out) 2).trans rfl); (have kb3 := (blk_cell (blk_below hxb.out HB5.out) 3).trans rfl); (have kb4 := (blk_cell (blk_below hxb.out HB5.out) 4).trans rfl); (have kb5 := (blk_cell (blk_below hxb.out HB5.out) 5).trans rfl); clear hb5 CH CN2; have T2 : True := trivial) | (clear T2; go_at_call 25; go_loud (with_reducible refine C25.mono ?_); rintro e w6 ⟨N5, n5, rfl, hn5, hC5, hb6⟩; have HB6 := Aside0.mk (below_step HB5.out hb6); have hC5 := Aside0.mk hC5; clear hb6 C25 HB5; have T3 : True := trivial))
     have hq0 : (cb == cb) = true := by cases cb <;> rfl
     have HB_ : Below w6.heap.size w6 w6.drew := below_drew1 (Below.refl _ _)
     refine start_ (n := 51) (S := fun w' => w'.cell? ⟨w.heap.size, 0, none⟩ = some (.int .i64 a.f0) ∧ w'.cell? ⟨w.heap.size, 1, none⟩ = some (.string a.f1) ∧ w'.cell? ⟨w.heap.size, 2, none⟩ = some (.int .i64 a.f2) ∧ w'.cell? ⟨w.heap.size, 3, none⟩ = some (.slice A3 a.f3.length c3) ∧ w'.cell? ⟨w.heap.size, 4, none⟩ = some (.slice A4 a.f4.length c4) ∧ w'.cell? ⟨w.heap.size, 5, none⟩ = some (.slice A5 a.f5.length c5) ∧ w'.cell? ⟨w.heap.size + 1, 0, none⟩ = some (.int .i64 b.f0) ∧ w'.cell? ⟨w.heap.size + 1, 1, none⟩ = some (.string b.f1) ∧ w'.cell? ⟨w.heap.size + 1, 2, none⟩ = some (.int .i64 b.f2) ∧ w'.cell? ⟨w.heap.size + 1, 3, none⟩ = some (.slice B3 b.f3.length d3) ∧ w'.cell? ⟨w.heap.size + 1, 4, none⟩ = some (.slice B4 b.f4.length d4) ∧ w'.cell? ⟨w.heap.size + 1, 5, none⟩ = some (.slice B5 b.f5.length d5)) (ds := []) (bm 51 0) (by kernel_rfl) rfl rfl (cat6_ (blk_below (blk_below hxa.out HB6.out) HB_) (six_ (blk_below (blk_below hxb.out HB6.out) HB_))) (fun hHeld => ?_)
     generalize w6.drew = W9 at *
     refine pure_ (i := 0) (N := some 69) (v := ?_) (a' := ?_) (bm 51 1) rfl rfl (by kernel_rfl) (fun _ _ _ h => h) (Or.inl ⟨by rfl, ?_⟩) ?_ ?_
     rotate_left
     ·intro w'
      go_simp
      with_reducible rfl
     rotate_left
     ·simp only [Act.put, sA, sB, sC, i64_w, i32_w]
      rfl
     refine pure_ (i := 1) (N := some 70) (v := ?_) (a' := ?_) (bm 51 3) rfl rfl (by kernel_rfl) (fun _ _ _ h => h) (Or.inl ⟨by rfl, ?_⟩) ?_ ?_
     rotate_left
     ·intro w'
      go_simp
      with_reducible rfl
     rotate_left
     ·simp only [Act.put, sA, sB, sC, i64_w, i32_w]
      rfl
     refine pure_ (i := 2) (N := some 71) (v := ?_) (a' := ?_) (bm 51 7) rfl rfl (by kernel_rfl) (fun _ _ _ h => h) (Or.inl ⟨by rfl, ?_⟩) ?_ ?_
     rotate_left
     ·intro w'
      go_simp
      with_reducible rfl
     rotate_left
     ·simp only [Act.put, sA, sB, sC, i64_w, i32_w]
      rfl
     refine pure_ (i := 3) (N := some 72) (v := ?_) (a' := ?_) (bm 51 15) rfl rfl (by kernel_rfl) (fun _ _ _ h => h) (Or.inl ⟨by rfl, ?_⟩) ?_ ?_
     rotate_left
     ·intro w'
      go_simp
      with_reducible rfl
     rotate_left
     ·simp only [Act.put, sA, sB, sC, i64_w, i32_w]
      rfl
     refine pure_ (i := 4) (N := some 73) (v := ?_) (a' := ?_) (bm 51 31) rfl rfl (by kernel_rfl) (fun _ _ _ h => h) (Or.inl ⟨by rfl, ?_⟩) ?_ ?_
     rotate_left
     ·intro w'
      go_simp
      with_reducible rfl
     rotate_left
     ·simp only [Act.put, sA, sB, sC, i64_w, i32_w]
      rfl
     refine pure_ (i := 5) (N := some 74) (v := ?_) (a' := ?_) (bm 51 63) rfl rfl (by kernel_rfl) (fun _ _ _ h => h) (Or.inl ⟨by rfl, ?_⟩) ?_ ?_
     rotate_left
     ·intro w'
      go_simp
      with_reducible rfl
     rotate_left
     ·simp only [Act.put, sA, sB, sC, i64_w, i32_w]
      rfl
     refine pure_ (i := 6) (N := some 75) (v := ?_) (a' := ?_) (bm 51 127) rfl rfl (by kernel_rfl) (fun _ _ _ h => h) (Or.inl ⟨by rfl, ?_⟩) ?_ ?_
     rotate_left
     ·intro w'
      go_simp
      with_reducible rfl
     rotate_left
     ·simp only [Act.put, sA, sB, sC, i64_w, i32_w]
      rfl
     refine pure_ (i := 9) (N := some 78) (v := ?_) (a' := ?_) (bm 51 639) rfl rfl (by kernel_rfl) (fun _ _ _ h => h) (Or.inl ⟨by rfl, ?_⟩) ?_ ?_
     rotate_left
     ·intro w'
      go_simp
      with_reducible rfl
     rotate_left
     ·simp only [Act.put, sA, sB, sC, i64_w, i32_w]
      rfl
     refine take_ (i := 7) (N := some 76) (v := ?_) (a' := ?_) (bm 51 767) rfl rfl (by kernel_rfl) (fun _ _ _ h => h) (Or.inl ⟨by rfl, ?_⟩) hHeld ?_ ?_
     rotate_left
     ·rintro w' ⟨s0, s1, s2, s3, s4, s5, s6, s7, s8, s9, s10, s11⟩
      go_simp
      with_reducible rfl
     rotate_left
     ·simp only [Act.put, sA, sB, sC, i64_w, i32_w]
      rfl
     refine one_ (i := 8) (N := some 77) (bm 51 1023) rfl rfl (by kernel_rfl) (by decide) (fun K hK => ?_)
     refine goes_ Tryd.func15 (by kernel_rfl) rfl #[.agg #[.int .i64 a.f0, .string a.f1, .int .i64 a.f2, .slice A3 a.f3.length c3, .slice A4 a.f4.length c4, .slice A5 a.f5.length c5]] (by rfl) rfl rfl (by simp only [List.map_toArray, List.map_cons, List.map_nil]; rfl) ?_
     (with_reducible refine (CN1.out W9 (ia.out.below (below_step HB6.out HB_))).mono ?_)
     rintro e w20 ⟨N6, n6, rfl, hn6, hC6, hb20⟩
     refine ⟨_, rfl, ?_⟩
     have HB20 := below_step HB_ hb20
     refine hK.out _ _ (cat6_ (blk_below (blk_below hxa.out HB6.out) HB20) (six_ (blk_below (blk_below hxb.out HB6.out) HB20))) (fun hHeld => ?_)
     clear hK K
     refine norm_ (a' := ?_) ?_ ?_
     rotate_left
     ·show Act.put _ (some 77) _ = _
      simp only [Act.put, sA, sB, sC, i64_w, i32_w]
      rfl
     refine one_ (i := 10) (N := some 79) (bm 51 2047) rfl rfl (by kernel_rfl) (by decide) (fun K hK => ?_)
     refine goes_ Tryd.func17 (by kernel_rfl) rfl #[.slice N6 na.length n6, .slice N5 na.length n5] (by rfl) rfl rfl (by simp only [List.map_toArray, List.map_cons, List.map_nil]; rfl) ?_
     (with_reducible refine (same_g na (by have := la.out; omega) rfl w20 hC6 hn6 (Kd.C_below hC5.out HB20) hn5).mono ?_)
     rintro e w21 ⟨rfl, hb21⟩
     refine ⟨_, rfl, ?_⟩
     have HB21 := below_step HB20 hb21
     refine hK.out _ _ (cat6_ (blk_below (blk_below hxa.out HB6.out) HB21) (six_ (blk_below (blk_below hxb.out HB6.out) HB21))) (fun hHeld => ?_)
     clear hK K
     refine norm_ (a' := ?_) ?_ ?_
     rotate_left
     ·show Act.put _ (some 79) _ = _
      simp only [Act.put, sA, sB, sC, i64_w, i32_w]
      rfl
     refine pure_ (i := 11) (N := some 80) (v := ?_) (a' := ?_) (bm 51 4095) rfl rfl (by kernel_rfl) (fun _ _ _ h => h) (Or.inl ⟨by rfl, ?_⟩) ?_ ?_
     rotate_left
     ·intro w'
      go_simp
      with_reducible rfl
     rotate_left
     ·simp only [Act.put, sA, sB, sC, i64_w, i32_w]
      rfl
     refine pure_ (i := 12) (N := some 81) (v := ?_) (a' := ?_) (bm 51 8191) rfl rfl (by kernel_rfl) (fun _ _ _ h => h) (Or.inl ⟨by rfl, ?_⟩) ?_ ?_
     rotate_left
     ·intro w'
      go_simp
      with_reducible rfl
     rotate_left
     ·simp only [Act.put, sA, sB, sC, i64_w, i32_w]
      rfl
     refine take_ (i := 13) (N := some 82) (v := ?_) (a' := ?_) (bm 51 16383) rfl rfl (by kernel_rfl) (fun _ _ _ h => h) (Or.inl ⟨by rfl, ?_⟩) hHeld ?_ ?_
     rotate_left
     ·rintro w' ⟨s0, s1, s2, s3, s4, s5, s6, s7, s8, s9, s10, s11⟩
      go_simp
      with_reducible rfl
     rotate_left
     ·simp only [Act.put, sA, sB, sC, i64_w, i32_w]
      rfl
     refine take_ (i := 15) (N := some 84) (v := ?_) (a' := ?_) (bm 51 49151) rfl rfl (by kernel_rfl) (fun _ _ _ h => h) (Or.inl ⟨by rfl, ?_⟩) hHeld ?_ ?_
     rotate_left
     ·rintro w' ⟨s0, s1, s2, s3, s4, s5, s6, s7, s8, s9, s10, s11⟩
      go_simp
      with_reducible rfl
     rotate_left
     ·simp only [Act.put, sA, sB, sC, i64_w, i32_w]
      rfl
     refine one_ (i := 14) (N := some 83) (bm 51 65535) rfl rfl (by kernel_rfl) (by decide) (fun K hK => ?_)
     refine goes_ Tryd.func21 (by kernel_rfl) rfl #[.agg #[.int .i64 a.f0, .string a.f1, .int .i64 a.f2, .slice A3 a.f3.length c3, .slice A4 a.f4.length c4, .slice A5 a.f5.length c5]] (by rfl) rfl rfl (by simp only [List.map_toArray, List.map_cons, List.map_nil]; rfl) ?_
     (with_reducible refine (CB1.out w21 (ia.out.below (below_step HB6.out HB21))).mono ?_)
     rintro e w22 ⟨N7, n7, rfl, hn7, hC7, hb22⟩
     refine ⟨_, rfl, ?_⟩
     have HB22 := below_step HB21 hb22
     refine hK.out _ _ (cat6_ (blk_below (blk_below hxa.out HB6.out) HB22) (six_ (blk_below (blk_below hxb.out HB6.out) HB22))) (fun hHeld => ?_)
     clear hK K
     refine norm_ (a' := ?_) ?_ ?_
     rotate_left
     ·show Act.put _ (some 83) _ = _
      simp only [Act.put, sA, sB, sC, i64_w, i32_w]
      rfl
     refine one_ (i := 16) (N := some 85) (bm 51 131071) rfl rfl (by kernel_rfl) (by decide) (fun K hK => ?_)
     refine goes_ Tryd.func26 (by kernel_rfl) rfl #[.agg #[.int .i64 a.f0, .string a.f1, .int .i64 a.f2, .slice A3 a.f3.length c3, .slice A4 a.f4.length c4, .slice A5 a.f5.length c5]] (by rfl) rfl rfl (by simp only [List.map_toArray, List.map_cons, List.map_nil]; rfl) ?_
     (with_reducible refine (CB2.out w22 (ia.out.below (below_step HB6.out HB22))).mono ?_)
     rintro e w23 ⟨N8, n8, rfl, hn8, hC8, hb23⟩
     refine ⟨_, rfl, ?_⟩
     have HB23 := below_step HB22 hb23
     have hC7b := Kd.C_below hC7 hb23
     refine hK.out _ _ (cat6_ (blk_below (blk_below hxa.out HB6.out) HB23) (six_ (blk_below (blk_below hxb.out HB6.out) HB23))) (fun hHeld => ?_)
     clear hK K
     refine norm_ (a' := ?_) ?_ ?_
     rotate_left
     ·show Act.put _ (some 85) _ = _
      simp only [Act.put, sA, sB, sC, i64_w, i32_w]
      rfl
     refine one_ (i := 17) (N := some 86) (bm 51 262143) rfl rfl (by kernel_rfl) (by decide) (fun K hK => ?_)
     refine goes_ Tryd.func17 (by kernel_rfl) rfl #[.slice N7 bo.length n7, .slice N8 bo.length n8] (by rfl) rfl rfl (by simp only [List.map_toArray, List.map_cons, List.map_nil]; rfl) ?_
     (with_reducible refine (same_g bo (by have := lo.out; omega) rfl w23 hC7b hn7 hC8 hn8).mono ?_)
     rintro e w24 ⟨rfl, hb24⟩
     refine ⟨_, rfl, ?_⟩
     have HB24 := below_step HB23 hb24
     refine hK.out _ _ (cat6_ (blk_below (blk_below hxa.out HB6.out) HB24) (six_ (blk_below (blk_below hxb.out HB6.out) HB24))) (fun hHeld => ?_)
     clear hK K
     refine norm_ (a' := ?_) ?_ ?_
     rotate_left
     ·show Act.put _ (some 86) _ = _
      simp only [Act.put, sA, sB, sC, i64_w, i32_w]
      rfl
     refine pure_ (i := 18) (N := some 87) (v := ?_) (a' := ?_) (bm 51 524287) rfl rfl (by kernel_rfl) (fun _ _ _ h => h) (Or.inl ⟨by rfl, ?_⟩) ?_ ?_
     rotate_left
     ·intro w'
      go_simp
      with_reducible rfl
     rotate_left
     ·simp only [Act.put, sA, sB, sC, i64_w, i32_w]
      rfl
     refine pure_ (i := 19) (N := some 88) (v := ?_) (a' := ?_) (bm 51 1048575) rfl rfl (by kernel_rfl) (fun _ _ _ h => h) (Or.inl ⟨by rfl, ?_⟩) ?_ ?_
     rotate_left
     ·intro w'
      go_simp
      with_reducible rfl
     rotate_left
     ·simp only [Act.put, sA, sB, sC, i64_w, i32_w]
      rfl
     refine pure_ (i := 22) (N := some 91) (v := ?_) (a' := ?_) (bm 51 5242879) rfl rfl (by kernel_rfl) (fun _ _ _ h => h) (Or.inl ⟨by rfl, ?_⟩) ?_ ?_
     rotate_left
     ·intro w'
      go_simp
      with_reducible rfl
     rotate_left
     ·simp only [Act.put, sA, sB, sC, i64_w, i32_w]
      rfl
     refine pure_ (i := 23) (N := some 92) (v := ?_) (a' := ?_) (bm 51 13631487) rfl rfl (by kernel_rfl) (fun _ _ _ h => h) (Or.inl ⟨by rfl, ?_⟩) ?_ ?_
     rotate_left
     ·intro w'
      go_simp
      with_reducible rfl
     rotate_left
     ·simp only [Act.put, sA, sB, sC, i64_w, i32_w]
      rfl
     refine pure_ (i := 24) (N := some 93) (v := ?_) (a' := ?_) (bm 51 30408703) rfl rfl (by kernel_rfl) (fun _ _ _ h => h) (Or.inl ⟨by rfl, ?_⟩) ?_ ?_
     rotate_left
     ·intro w'
      go_simp
      with_reducible rfl
     rotate_left
     ·simp only [Act.put, sA, sB, sC, i64_w, i32_w]
      rfl
     refine take_ (i := 20) (N := some 89) (v := ?_) (a' := ?_) (bm 51 31457279) rfl rfl (by kernel_rfl) (fun _ _ _ h => h) (Or.inl ⟨by rfl, ?_⟩) hHeld ?_ ?_
     rotate_left
     ·rintro w' ⟨s0, s1, s2, s3, s4, s5, s6, s7, s8, s9, s10, s11⟩
      go_simp
      with_reducible rfl
     rotate_left
     ·simp only [Act.put, sA, sB, sC, i64_w, i32_w]
      rfl
     refine one_ (i := 21) (N := some 90) (bm 51 33554431) rfl rfl (by kernel_rfl) (by decide) (fun K hK => ?_)
     refine goes_ Tryd.func27 (by kernel_rfl) rfl #[.agg #[.int .i64 a.f0, .string a.f1, .int .i64 a.f2, .slice A3 a.f3.length c3, .slice A4 a.f4.length c4, .slice A5 a.f5.length c5]] (by rfl) rfl rfl (by simp only [List.map_toArray, List.map_cons, List.map_nil]; rfl) ?_
     (with_reducible refine (CCl.out w24 (ia.out.below (below_step HB6.out HB24))).mono ?_)
     rintro e w25 ⟨rfl, hb25⟩
     refine ⟨_, rfl, ?_⟩
     have HB25 := below_step HB24 hb25
     refine hK.out _ _ (cat6_ (blk_below (blk_below hxa.out HB6.out) HB25) (six_ (blk_below (blk_below hxb.out HB6.out) HB25))) (fun hHeld => ?_)
     clear hK K
     refine norm_ (a' := ?_) ?_ ?_
     rotate_left
     ·show Act.put _ (some 90) _ = _
      simp only [Act.put, sA, sB, sC, i64_w, i32_w]
      rfl
     refine pure_ (i := 25) (N := some 94) (v := ?_) (a' := ?_) (bm 51 67108863) rfl rfl (by kernel_rfl) (fun _ _ _ h => h) (Or.inl ⟨by rfl, ?_⟩) ?_ ?_
     rotate_left
     ·intro w'
      go_simp
      with_reducible rfl
     rotate_left
     ·simp only [Act.put, sA, sB, sC, i64_w, i32_w]
      rfl
     refine pure_ (i := 26) (N := some 95) (v := ?_) (a' := ?_) (bm 51 134217727) rfl rfl (by kernel_rfl) (fun _ _ _ h => h) (Or.inl ⟨by rfl, ?_⟩) ?_ ?_
     rotate_left
     ·intro w'
      go_simp
      with_reducible rfl
     rotate_left
     ·simp only [Act.put, sA, sB, sC, i64_w, i32_w]
      rfl
     refine pure_ (i := 27) (N := some 96) (v := ?_) (a' := ?_) (bm 51 268435455) rfl rfl (by kernel_rfl) (fun _ _ _ h => h) (Or.inl ⟨by rfl, ?_⟩) ?_ ?_
     rotate_left
     ·intro w'
      go_simp
      with_reducible rfl
     rotate_left
     ·simp only [Act.put, sA, sB, sC, i64_w, i32_w]
      rfl
     refine pure_ (i := 29) (N := some 98) (v := ?_) (a' := ?_) (bm 51 805306367) rfl rfl (by kernel_rfl) (fun _ _ _ h => h) (Or.inl ⟨by rfl, ?_⟩) ?_ ?_
     rotate_left
     ·intro w'
      go_simp
      with_reducible rfl
     rotate_left
     ·simp only [Act.put, sA, sB, sC, i64_w, i32_w]
      rfl
     refine pure_ (i := 33) (N := some 102) (v := ?_) (a' := ?_) (bm 51 9395240959) rfl rfl (by kernel_rfl) (fun _ _ _ h => h) (Or.inl ⟨by rfl, ?_⟩) ?_ ?_
     rotate_left
     ·intro w'
      go_simp
      with_reducible rfl
     rotate_left
     ·simp only [Act.put, sA, sB, sC, i64_w, i32_w]
      rfl
     refine take_ (i := 28) (N := some 97) (v := ?_) (a' := ?_) (bm 51 9663676415) rfl rfl (by kernel_rfl) (fun _ _ _ h => h) (Or.inl ⟨by rfl, ?_⟩) hHeld ?_ ?_
     rotate_left
     ·rintro w' ⟨s0, s1, s2, s3, s4, s5, s6, s7, s8, s9, s10, s11⟩
      go_simp
      with_reducible rfl
     rotate_left
     ·simp only [Act.put, sA, sB, sC, i64_w, i32_w]
      rfl
     refine take_ (i := 30) (N := some 99) (v := ?_) (a' := ?_) (bm 51 10737418239) rfl rfl (by kernel_rfl) (fun _ _ _ h => h) (Or.inl ⟨by rfl, ?_⟩) hHeld ?_ ?_
     rotate_left
     ·rintro w' ⟨s0, s1, s2, s3, s4, s5, s6, s7, s8, s9, s10, s11⟩
      go_simp
      with_reducible rfl
     rotate_left
     ·simp only [Act.put, sA, sB, sC, i64_w, i32_w]
      rfl
     refine take_ (i := 32) (N := some 101) (v := ?_) (a' := ?_) (bm 51 15032385535) rfl rfl (by kernel_rfl) (fun _ _ _ h => h) (Or.inl ⟨by rfl, ?_⟩) hHeld ?_ ?_
     rotate_left
     ·rintro w' ⟨s0, s1, s2, s3, s4, s5, s6, s7, s8, s9, s10, s11⟩
      go_simp
      with_reducible rfl
     rotate_left
     ·simp only [Act.put, sA, sB, sC, i64_w, i32_w]
      rfl
     refine take_ (i := 34) (N := some 103) (v := ?_) (a' := ?_) (bm 51 32212254719) rfl rfl (by kernel_rfl) (fun _ _ _ h => h) (Or.inl ⟨by rfl, ?_⟩) hHeld ?_ ?_
     rotate_left
     ·rintro w' ⟨s0, s1, s2, s3, s4, s5, s6, s7, s8, s9, s10, s11⟩
      go_simp
      with_reducible rfl
     rotate_left
     ·simp only [Act.put, sA, sB, sC, i64_w, i32_w]
      rfl
     refine one_ (i := 31) (N := some 100) (bm 51 34359738367) rfl rfl (by kernel_rfl) (by decide) (fun K hK => ?_)
     refine goes_ Tryd.func23 (by kernel_rfl) rfl #[.agg #[.int .i64 a.f0, .string a.f1, .int .i64 a.f2, .slice A3 a.f3.length c3, .slice A4 a.f4.length c4, .slice A5 a.f5.length c5], .string s, .agg #[.int .i64 b.f0, .string b.f1, .int .i64 b.f2, .slice B3 b.f3.length d3, .slice B4 b.f4.length d4, .slice B5 b.f5.length d5]] (by rfl) rfl rfl (by simp only [List.map_toArray, List.map_cons, List.map_nil]; rfl) ?_
     (with_reducible refine (subst_calls CSA.out hsv.out w25 (ia.out.below (below_step HB6.out HB25)) (ib.out.below (below_step HB6.out HB25))).mono ?_)
     rintro e w26 ⟨G3, G4, G5, g3, g4, g5, rfl, hG, hb26⟩
     refine ⟨_, rfl, ?_⟩
     have HB26 := below_step HB25 hb26
     refine hK.out _ _ (cat6_ (blk_below (blk_below hxa.out HB6.out) HB26) (six_ (blk_below (blk_below hxb.out HB6.out) HB26))) (fun hHeld => ?_)
     clear hK K
     refine norm_ (a' := ?_) ?_ ?_
     rotate_left
     ·show Act.put _ (some 100) _ = _
      simp only [Act.put, sA, sB, sC, i64_w, i32_w]
      rfl
     refine one_ (i := 35) (N := some 104) (bm 51 68719476735) rfl rfl (by kernel_rfl) (by decide) (fun K hK => ?_)
     refine goes_ Tryd.func28 (by kernel_rfl) rfl #[.agg #[.int .i64 a.f0, .string a.f1, .int .i64 a.f2, .slice A3 a.f3.length c3, .slice A4 a.f4.length c4, .slice A5 a.f5.length c5], .string s, .agg #[.int .i64 b.f0, .string b.f1, .int .i64 b.f2, .slice B3 b.f3.length d3, .slice B4 b.f4.length d4, .slice B5 b.f5.length d5]] (by rfl) rfl rfl (by simp only [List.map_toArray, List.map_cons, List.map_nil]; rfl) ?_
     (with_reducible refine (rsG RSA.out hsv.out w26 (ia.out.below (below_step HB6.out HB26)) (ib.out.below (below_step HB6.out HB26))).mono ?_)
     rintro e w27 ⟨H3, H4, H5, h3, h4, h5, rfl, hH, hb27⟩
     refine ⟨_, rfl, ?_⟩
     have HB27 := below_step HB26 hb27
     have hG2 := hG.in.below hb27
     refine hK.out _ _ (cat6_ (blk_below (blk_below hxa.out HB6.out) HB27) (six_ (blk_below (blk_below hxb.out HB6.out) HB27))) (fun hHeld => ?_)
     clear hK K
     refine norm_ (a' := ?_) ?_ ?_
     rotate_left
     ·show Act.put _ (some 104) _ = _
      simp only [Act.put, sA, sB, sC, i64_w, i32_w]
      rfl
     refine one_ (i := 36) (N := some 105) (bm 51 137438953471) rfl rfl (by kernel_rfl) (by decide) (fun K hK => ?_)
     refine goes_ Tryd.func22 (by kernel_rfl) rfl #[.agg #[.int .i64 sv.f0, .string sv.f1, .int .i64 sv.f2, .slice G3 sv.f3.length g3, .slice G4 sv.f4.length g4, .slice G5 sv.f5.length g5], .agg #[.int .i64 sv.f0, .string sv.f1, .int .i64 sv.f2, .slice H3 sv.f3.length h3, .slice H4 sv.f4.length h4, .slice H5 sv.f5.length h5]] (by rfl) rfl rfl (by simp only [List.map_toArray, List.map_cons, List.map_nil]; rfl) ?_
     (with_reducible refine (SV.out.at w27 hG2 hH).mono ?_)
     rintro e w28 ⟨rfl, hb28⟩
     refine ⟨_, rfl, ?_⟩
     have HB28 := below_step HB27 hb28
     refine hK.out _ _ (cat6_ (blk_below (blk_below hxa.out HB6.out) HB28) (six_ (blk_below (blk_below hxb.out HB6.out) HB28))) (fun hHeld => ?_)
     clear hK K
     refine norm_ (a' := ?_) ?_ ?_
     rotate_left
     ·show Act.put _ (some 105) _ = _
      simp only [Act.put, sA, sB, sC, i64_w, i32_w]
      rfl
     refine pure_ (i := 37) (N := some 106) (v := ?_) (a' := ?_) (bm 51 274877906943) rfl rfl (by kernel_rfl) (fun _ _ _ h => h) (Or.inl ⟨by rfl, ?_⟩) ?_ ?_
     rotate_left
     ·intro w'
      go_simp
      with_reducible rfl
     rotate_left
     ·simp only [Act.put, sA, sB, sC, i64_w, i32_w]
      rfl
     refine pure_ (i := 38) (N := some 107) (v := ?_) (a' := ?_) (bm 51 549755813887) rfl rfl (by kernel_rfl) (fun _ _ _ h => h) (Or.inl ⟨by rfl, ?_⟩) ?_ ?_
     rotate_left
     ·intro w'
      go_simp
      with_reducible rfl
     rotate_left
     ·simp only [Act.put, sA, sB, sC, i64_w, i32_w]
      rfl
     refine pure_ (i := 40) (N := some 109) (v := ?_) (a' := ?_) (bm 51 1649267441663) rfl rfl (by kernel_rfl) (fun _ _ _ h => h) (Or.inl ⟨by rfl, ?_⟩) ?_ ?_
     rotate_left
     ·intro w'
      go_simp
      with_reducible rfl
     rotate_left
     ·simp only [Act.put, sA, sB, sC, i64_w, i32_w]
      rfl
     refine pure_ (i := 41) (N := some 110) (v := ?_) (a' := ?_) (bm 51 3848290697215) rfl rfl (by kernel_rfl) (fun _ _ _ h => h) (Or.inl ⟨by rfl, ?_⟩) ?_ ?_
     rotate_left
     ·intro w'
      go_simp
      with_reducible rfl
     rotate_left
     ·simp only [Act.put, sA, sB, sC, i64_w, i32_w]
      rfl
     refine pure_ (i := 44) (N := some 113) (v := ?_) (a' := ?_) (bm 51 21440476741631) rfl rfl (by kernel_rfl) (fun _ _ _ h => h) (Or.inl ⟨by rfl, ?_⟩) ?_ ?_
     rotate_left
     ·intro w'
      go_simp
      with_reducible rfl
     rotate_left
     ·simp only [Act.put, sA, sB, sC, i64_w, i32_w]
      rfl
     refine pure_ (i := 45) (N := some 114) (v := ?_) (a' := ?_) (bm 51 56624848830463) rfl rfl (by kernel_rfl) (fun _ _ _ h => h) (Or.inl ⟨by rfl, ?_⟩) ?_ ?_
     rotate_left
     ·intro w'
      go_simp
      with_reducible rfl
     rotate_left
     ·simp only [Act.put, sA, sB, sC, i64_w, i32_w]
      rfl
     refine take_ (i := 39) (N := some 108) (v := ?_) (a' := ?_) (bm 51 57174604644351) rfl rfl (by kernel_rfl) (fun _ _ _ h => h) (Or.inl ⟨by rfl, ?_⟩) hHeld ?_ ?_
     rotate_left
     ·rintro w' ⟨s0, s1, s2, s3, s4, s5, s6, s7, s8, s9, s10, s11⟩
      go_simp
      with_reducible rfl
     rotate_left
     ·simp only [Act.put, sA, sB, sC, i64_w, i32_w]
      rfl
     refine take_ (i := 43) (N := some 112) (v := ?_) (a' := ?_) (bm 51 65970697666559) rfl rfl (by kernel_rfl) (fun _ _ _ h => h) (Or.inl ⟨by rfl, ?_⟩) hHeld ?_ ?_
     rotate_left
     ·rintro w' ⟨s0, s1, s2, s3, s4, s5, s6, s7, s8, s9, s10, s11⟩
      go_simp
      with_reducible rfl
     rotate_left
     ·simp only [Act.put, sA, sB, sC, i64_w, i32_w]
      rfl
     refine one_ (i := 42) (N := some 111) (bm 51 70368744177663) rfl rfl (by kernel_rfl) (by decide) (fun K hK => ?_)
     refine goes_ Tryd.func24 (by kernel_rfl) rfl #[.agg #[.int .i64 a.f0, .string a.f1, .int .i64 a.f2, .slice A3 a.f3.length c3, .slice A4 a.f4.length c4, .slice A5 a.f5.length c5], .string s, .string t] (by rfl) rfl rfl (by simp only [List.map_toArray, List.map_cons, List.map_nil]; rfl) ?_
     (with_reducible refine (rename_calls CRA.out hsw.out w28 (ia.out.below (below_step HB6.out HB28))).mono ?_)
     rintro e w29 ⟨R3, R4, R5, r3, r4, r5, rfl, hR, hb29⟩
     refine ⟨_, rfl, ?_⟩
     have HB29 := below_step HB28 hb29
     refine hK.out _ _ (cat6_ (blk_below (blk_below hxa.out HB6.out) HB29) (six_ (blk_below (blk_below hxb.out HB6.out) HB29))) (fun hHeld => ?_)
     clear hK K
     refine norm_ (a' := ?_) ?_ ?_
     rotate_left
     ·show Act.put _ (some 111) _ = _
      simp only [Act.put, sA, sB, sC, i64_w, i32_w]
      rfl
     refine one_ (i := 46) (N := some 115) (bm 51 140737488355327) rfl rfl (by kernel_rfl) (by decide) (fun K hK => ?_)
     refine goes_ Tryd.func29 (by kernel_rfl) rfl #[.string t] (by rfl) rfl rfl (by simp only [List.map_toArray, List.map_cons, List.map_nil]; rfl) ?_
     (with_reducible refine (Ext.v_calls t w29).mono ?_)
     rintro e w30 ⟨rfl, hb30⟩
     refine ⟨_, rfl, ?_⟩
     have HB30 := below_step HB29 hb30
     have hR2 := hR.in.below hb30
     refine hK.out _ _ (cat6_ (blk_below (blk_below hxa.out HB6.out) HB30) (six_ (blk_below (blk_below hxb.out HB6.out) HB30))) (fun hHeld => ?_)
     clear hK K
     refine norm_ (a' := ?_) ?_ ?_
     rotate_left
     ·show Act.put _ (some 115) _ = _
      simp only [Act.put, sA, sB, sC, i64_w, i32_w]
      rfl
     refine one_ (i := 47) (N := some 116) (bm 51 281474976710655) rfl rfl (by kernel_rfl) (by decide) (fun K hK => ?_)
     refine goes_ Tryd.func28 (by kernel_rfl) rfl #[.agg #[.int .i64 a.f0, .string a.f1, .int .i64 a.f2, .slice A3 a.f3.length c3, .slice A4 a.f4.length c4, .slice A5 a.f5.length c5], .string s, .agg #[.int .i64 1, .string t, .int .i64 0, .slice none 0 0, .slice none 0 0, .slice none 0 0]] (by rfl) rfl rfl (by simp only [List.map_toArray, List.map_cons, List.map_nil]; rfl) ?_
     (with_reducible refine (rsV RSV.out hsw.out w30 (ia.out.below (below_step HB6.out HB30))).mono ?_)
     rintro e w31 ⟨Q3, Q4, Q5, q3, q4, q5, rfl, hQ, hb31⟩
     refine ⟨_, rfl, ?_⟩
     have HB31 := below_step HB30 hb31
     have hR3 := hR2.below hb31
     refine hK.out _ _ (cat6_ (blk_below (blk_below hxa.out HB6.out) HB31) (six_ (blk_below (blk_below hxb.out HB6.out) HB31))) (fun hHeld => ?_)
     clear hK K
     refine norm_ (a' := ?_) ?_ ?_
     rotate_left
     ·show Act.put _ (some 116) _ = _
      simp only [Act.put, sA, sB, sC, i64_w, i32_w]
      rfl
     refine one_ (i := 48) (N := some 117) (bm 51 562949953421311) rfl rfl (by kernel_rfl) (by decide) (fun K hK => ?_)
     refine goes_ Tryd.func22 (by kernel_rfl) rfl #[.agg #[.int .i64 sw.f0, .string sw.f1, .int .i64 sw.f2, .slice R3 sw.f3.length r3, .slice R4 sw.f4.length r4, .slice R5 sw.f5.length r5], .agg #[.int .i64 sw.f0, .string sw.f1, .int .i64 sw.f2, .slice Q3 sw.f3.length q3, .slice Q4 sw.f4.length q4, .slice Q5 sw.f5.length q5]] (by rfl) rfl rfl (by simp only [List.map_toArray, List.map_cons, List.map_nil]; rfl) ?_
     (with_reducible refine (SW.out.at w31 hR3 hQ).mono ?_)
     rintro e w32 ⟨rfl, hb32⟩
     refine ⟨_, rfl, ?_⟩
     have HB32 := below_step HB31 hb32
     have HBz := Aside0.mk (below_step HB6.out HB32)
     refine hK.out _ _ (cat6_ (blk_below (blk_below hxa.out HB6.out) HB32) (six_ (blk_below (blk_below hxb.out HB6.out) HB32))) (fun hHeld => ?_)
     clear hK K
     refine norm_ (a' := ?_) ?_ ?_
     rotate_left
     ·show Act.put _ (some 117) _ = _
      simp only [Act.put, sA, sB, sC, i64_w, i32_w]
      rfl
     refine pure_ (i := 49) (N := some 118) (v := ?_) (a' := ?_) (bm 51 1125899906842623) rfl rfl (by kernel_rfl) (fun _ _ _ h => h) (Or.inl ⟨by rfl, ?_⟩) ?_ ?_
     rotate_left
     ·intro w'
      go_simp
      with_reducible rfl
     rotate_left
     ·simp only [Act.put, sA, sB, sC, i64_w, i32_w]
      rfl
     refine pure_ (i := 50) (N := some 10) (v := ?_) (a' := ?_) (bm 51 2251799813685247) rfl rfl (by kernel_rfl) (fun _ _ _ h => h) (Or.inl ⟨by rfl, ?_⟩) ?_ ?_
     rotate_left
     ·intro w'
      go_simp
      with_reducible rfl
     rotate_left
     ·simp only [Act.put, sA, sB, sC, i64_w, i32_w]
      rfl
     refine done_ (by kernel_rfl) ?_
     clear hHeld
     go_wp2
     go_ret
     exact ⟨rfl, HB0.out.trans (HBz.out.mono HB0.out.size)⟩
  ·go_wp2
   go_ret
   exact ⟨rfl, HB0.out.trans (HBc.out.mono HB0.out.size)⟩
theorem says_row (a b : S33) (s t : ByteArray) (u : List ByteArray) (w : World) (hg : GG w) (ra : RW a) {A3 A4 A5 : Option Addr} {c3 c4 c5 : Nat} (ia : In w a A3 A4 A5 c3 c4 c5) (rb : RW b) {B3 B4 B5 : Option Addr} {d3 d4 d5 : Nat} (ib : In w b B3 B4 B5 d3 d4 d5) (hs : s.size ≤ 140737488351232) (ht : t.size ≤ 140737488351232) {U : Option Addr} {cu : Nat} (hu : Kd.C Kd.string w U u.length u) (mu : u.length ≤ cu) (yu : u.length * 16 ≤ 140737488351232) :
  Calls Tryd.prog 6 #[.agg #[.int .i64 a.f0, .string a.f1, .int .i64 a.f2, .slice A3 a.f3.length c3, .slice A4 a.f4.length c4, .slice A5 a.f5.length c5], .agg #[.int .i64 b.f0, .string b.f1, .int .i64 b.f2, .slice B3 b.f3.length d3, .slice B4 b.f4.length d4, .slice B5 b.f5.length d5], .string s, .string t, .slice U u.length cu] w fun e w' => e = .returned (.bool true) ∧ Below w.heap.size w w' := says_walk a b s t u ra rb w hg ia ib hu mu
end Go.Proofs.YtmoeekidmkhkoaaDoor.FreeA
