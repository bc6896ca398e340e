/-
  Arguments by value: arrays and structs of integers (and a bool), opened: over any program.
-/
import Derived.Test.YtoijjnhlmndhpaaMa
import Derived.ProofKit
import Derived.OpenShut
import Derived.Deep.Strs
namespace Go.Proofs.Ytoijjnhlmndhpaa
open Go.ChangeShapes Go.WideShapes Go.ChangeAt Go.RowKit
section
variable {H : Type} {enc : TypeId × Value → H} {P : Program} {w : World} {base : Nat} {spare : Nat → Bool} {held : Bool}

theorem cells_int {e : TypeId} {n : Nat} {c : List Value} {x : DataW H × List MemPlace} (he : P.underlying e = some (.int .i64)) (h : DataW.trod enc P w base spare held n e c = some x) : ∃ a, c = [.int .i64 a] ∧ I64 a := by
  obtain ⟨a, h1, _, h2⟩ := DataW.trod_int he h
  exact ⟨a, h1, i64_of h2⟩

/-- A struct whose cells are integers but for those that are told bools. -/
theorem cells_pair {t e : TypeId} {f0 f1 : Field} {fuel : Nat} {cs : List Value} {x : DataW H × List MemPlace} (ht : P.underlying t = some (.struct #[f0, f1])) (he : P.underlying e = some (.int .i64))
    (hk : (f0.type == e && f1.type == e && f0.offset == 0 && f1.offset == 1 && P.cellsOf e == 1 && P.cellsOf t == 2) = true) (h : DataW.trod enc P w base spare held fuel t cs = some x) :
    ∃ a b, cs = [.int .i64 a, .int .i64 b] ∧ I64 a ∧ I64 b := by
  simp only [Bool.and_eq_true, beq_iff_eq] at hk
  obtain ⟨⟨⟨⟨⟨k0, k1⟩, o0⟩, o1⟩, kc⟩, kt⟩ := hk
  obtain ⟨y0, y1, n, _, hl, h0, h1⟩ := trod_struct2 ht h
  rw [kt] at hl
  match cs, hl with
  | [c0, c1], _ =>
    rw [k0, o0, kc] at h0
    rw [k1, o1, kc] at h1
    obtain ⟨a, e0, wa⟩ := cells_int he h0
    obtain ⟨b, e1, wb⟩ := cells_int he h1
    simp at e0 e1
    exact ⟨a, b, by rw [e0, e1], wa, wb⟩
theorem cells_path {t e : TypeId} {f0 f1 f2 : Field} {fuel : Nat} {cs : List Value} {x : DataW H × List MemPlace} (ht : P.underlying t = some (.struct #[f0, f1, f2])) (he : P.underlying e = some (.int .i64))
    (hk : (f0.type == e && f1.type == e && f2.type == e && f0.offset == 0 && f1.offset == 1 && f2.offset == 2 && P.cellsOf e == 1 && P.cellsOf t == 3) = true) (h : DataW.trod enc P w base spare held fuel t cs = some x) :
    ∃ a b c, cs = [.int .i64 a, .int .i64 b, .int .i64 c] ∧ I64 a ∧ I64 b ∧ I64 c := by
  simp only [Bool.and_eq_true, beq_iff_eq] at hk
  obtain ⟨⟨⟨⟨⟨⟨⟨k0, k1⟩, k2⟩, o0⟩, o1⟩, o2⟩, kc⟩, kt⟩ := hk
  obtain ⟨y0, y1, y2, n, _, hl, h0, h1, h2⟩ := Deep.trod_struct3 ht h
  rw [kt] at hl
  match cs, hl with
  | [c0, c1, c2], _ =>
    rw [k0, o0, kc] at h0
    rw [k1, o1, kc] at h1
    rw [k2, o2, kc] at h2
    obtain ⟨a, e0, wa⟩ := cells_int he h0
    obtain ⟨b, e1, wb⟩ := cells_int he h1
    obtain ⟨c, e2, wc⟩ := cells_int he h2
    simp at e0 e1 e2
    exact ⟨a, b, c, by rw [e0, e1, e2], wa, wb, wc⟩
theorem cells_span {t e u : TypeId} {f0 f1 f2 : Field} {fuel : Nat} {cs : List Value} {x : DataW H × List MemPlace} (ht : P.underlying t = some (.struct #[f0, f1, f2])) (he : P.underlying e = some (.int .i64)) (hu : P.underlying u = some .bool)
    (hk : (f0.type == e && f1.type == e && f2.type == u && f0.offset == 0 && f1.offset == 1 && f2.offset == 2 && P.cellsOf e == 1 && P.cellsOf u == 1 && P.cellsOf t == 3) = true) (h : DataW.trod enc P w base spare held fuel t cs = some x) :
    ∃ a b c, cs = [.int .i64 a, .int .i64 b, .bool c] ∧ I64 a ∧ I64 b := by
  simp only [Bool.and_eq_true, beq_iff_eq] at hk
  obtain ⟨⟨⟨⟨⟨⟨⟨⟨k0, k1⟩, k2⟩, o0⟩, o1⟩, o2⟩, kc⟩, ku⟩, kt⟩ := hk
  obtain ⟨y0, y1, y2, n, _, hl, h0, h1, h2⟩ := Deep.trod_struct3 ht h
  rw [kt] at hl
  match cs, hl with
  | [c0, c1, c2], _ =>
    rw [k0, o0, kc] at h0
    rw [k1, o1, kc] at h1
    rw [k2, o2, ku] at h2
    obtain ⟨a, e0, wa⟩ := cells_int he h0
    obtain ⟨b, e1, wb⟩ := cells_int he h1
    obtain ⟨c, e2, _⟩ := DataW.trod_bool hu h2
    simp at e0 e1 e2
    exact ⟨a, b, c, by rw [e0, e1, e2], wa, wb⟩

theorem list2 {α : Type} {l : List α} (h : l.length = 2) : ∃ a b, l = [a, b] := by
  match l, h with
  | [a, b], _ => exact ⟨a, b, rfl⟩
theorem list3 {α : Type} {l : List α} (h : l.length = 3) : ∃ a b c, l = [a, b, c] := by
  match l, h with
  | [a, b, c], _ => exact ⟨a, b, c, rfl⟩
theorem list4 {α : Type} {l : List α} (h : l.length = 4) : ∃ a b c d, l = [a, b, c, d] := by
  match l, h with
  | [a, b, c, d], _ => exact ⟨a, b, c, d, rfl⟩

theorem cells_arr2 {t e : TypeId} {fuel : Nat} {cs : List Value} {x : DataW H × List MemPlace} (ht : P.underlying t = some (.array 2 e)) (he : P.underlying e = some (.int .i64))
    (hk : (P.cellsOf e == 1 && P.cellsOf t == 2) = true) (h : DataW.trod enc P w base spare held fuel t cs = some x) : ∃ a b, cs = [.int .i64 a, .int .i64 b] ∧ I64 a ∧ I64 b := by
  simp only [Bool.and_eq_true, beq_iff_eq] at hk
  obtain ⟨xs, n, _, _, hl, hx, hf⟩ := DataW.trod_array ht h
  rw [hk.2] at hl
  obtain ⟨c0, c1, rfl⟩ := list2 hl
  obtain ⟨y0, y1, rfl⟩ := list2 hx
  have h0 := hf 0 (by omega)
  have h1 := hf 1 (by omega)
  rw [hk.1] at h0 h1
  obtain ⟨a, e0, wa⟩ := cells_int he (h0.trans rfl)
  obtain ⟨b, e1, wb⟩ := cells_int he (h1.trans rfl)
  simp at e0 e1
  exact ⟨a, b, by rw [e0, e1], wa, wb⟩
theorem cells_arr4 {t e : TypeId} {fuel : Nat} {cs : List Value} {x : DataW H × List MemPlace} (ht : P.underlying t = some (.array 4 e)) (he : P.underlying e = some (.int .i64))
    (hk : (P.cellsOf e == 1 && P.cellsOf t == 4) = true) (h : DataW.trod enc P w base spare held fuel t cs = some x) : ∃ a b c d, cs = [.int .i64 a, .int .i64 b, .int .i64 c, .int .i64 d] ∧ I64 a ∧ I64 b ∧ I64 c ∧ I64 d := by
  simp only [Bool.and_eq_true, beq_iff_eq] at hk
  obtain ⟨xs, n, _, _, hl, hx, hf⟩ := DataW.trod_array ht h
  rw [hk.2] at hl
  obtain ⟨c0, c1, c2, c3, rfl⟩ := list4 hl
  obtain ⟨y0, y1, y2, y3, rfl⟩ := list4 hx
  have h0 := hf 0 (by omega)
  have h1 := hf 1 (by omega)
  have h2 := hf 2 (by omega)
  have h3 := hf 3 (by omega)
  rw [hk.1] at h0 h1 h2 h3
  obtain ⟨a, e0, wa⟩ := cells_int he (h0.trans rfl)
  obtain ⟨b, e1, wb⟩ := cells_int he (h1.trans rfl)
  obtain ⟨c, e2, wc⟩ := cells_int he (h2.trans rfl)
  obtain ⟨d, e3, wd⟩ := cells_int he (h3.trans rfl)
  simp at e0 e1 e2 e3
  exact ⟨a, b, c, d, by rw [e0, e1, e2, e3], wa, wb, wc, wd⟩

variable {r : Reach} {b0 : Nat} {t e u : TypeId} {v : Value} {d : DataW H} {ps : List MemPlace}

theorem agg_struct {fs : Array Field} (ht : P.underlying t = some (.struct fs)) (hv : Value.okWide P w r b0 t v) (h : DataW.Trod enc P w base spare held t v d ps) : ∃ (cs : List Value) (n : Nat) (x : _), v = .agg ⟨cs⟩ ∧ DataW.trod enc P w base spare held n t cs = some x := by
  obtain ⟨⟨cs⟩, rfl, _⟩ := okWide_struct ht hv
  obtain ⟨fuel, hf⟩ := h
  exact ⟨cs, fuel, _, rfl, by simpa [Value.cells] using hf⟩
theorem agg_array {n : Nat} (ht : P.underlying t = some (.array n e)) (hv : Value.okWide P w r b0 t v) (h : DataW.Trod enc P w base spare held t v d ps) : ∃ (cs : List Value) (n : Nat) (x : _), v = .agg ⟨cs⟩ ∧ DataW.trod enc P w base spare held n t cs = some x := by
  obtain ⟨⟨cs⟩, rfl, _, _⟩ : ∃ cs, v = .agg cs ∧ cs.size = P.cellsOf t ∧ Row.okWide P w r b0 t cs := by
    simpa [Value.okWide, ht] using hv
  obtain ⟨fuel, hf⟩ := h
  exact ⟨cs, fuel, _, rfl, by simpa [Value.cells] using hf⟩

theorem open_pair {f0 f1 : Field} (ht : P.underlying t = some (.struct #[f0, f1])) (he : P.underlying e = some (.int .i64))
    (hk : (f0.type == e && f1.type == e && f0.offset == 0 && f1.offset == 1 && P.cellsOf e == 1 && P.cellsOf t == 2) = true) (hv : Value.okWide P w r b0 t v) (h : DataW.Trod enc P w base spare held t v d ps) :
    ∃ a b, v = .agg #[.int .i64 a, .int .i64 b] ∧ I64 a ∧ I64 b := by
  obtain ⟨cs, n, x, rfl, hf⟩ := agg_struct ht hv h
  obtain ⟨a, b, rfl, g⟩ := cells_pair ht he hk hf
  exact ⟨a, b, rfl, g⟩
theorem open_path {f0 f1 f2 : Field} (ht : P.underlying t = some (.struct #[f0, f1, f2])) (he : P.underlying e = some (.int .i64))
    (hk : (f0.type == e && f1.type == e && f2.type == e && f0.offset == 0 && f1.offset == 1 && f2.offset == 2 && P.cellsOf e == 1 && P.cellsOf t == 3) = true) (hv : Value.okWide P w r b0 t v) (h : DataW.Trod enc P w base spare held t v d ps) :
    ∃ a b c, v = .agg #[.int .i64 a, .int .i64 b, .int .i64 c] ∧ I64 a ∧ I64 b ∧ I64 c := by
  obtain ⟨cs, n, x, rfl, hf⟩ := agg_struct ht hv h
  obtain ⟨a, b, c, rfl, g⟩ := cells_path ht he hk hf
  exact ⟨a, b, c, rfl, g⟩
theorem open_span {f0 f1 f2 : Field} (ht : P.underlying t = some (.struct #[f0, f1, f2])) (he : P.underlying e = some (.int .i64)) (hu : P.underlying u = some .bool)
    (hk : (f0.type == e && f1.type == e && f2.type == u && f0.offset == 0 && f1.offset == 1 && f2.offset == 2 && P.cellsOf e == 1 && P.cellsOf u == 1 && P.cellsOf t == 3) = true) (hv : Value.okWide P w r b0 t v) (h : DataW.Trod enc P w base spare held t v d ps) :
    ∃ a b c, v = .agg #[.int .i64 a, .int .i64 b, .bool c] ∧ I64 a ∧ I64 b := by
  obtain ⟨cs, n, x, rfl, hf⟩ := agg_struct ht hv h
  obtain ⟨a, b, c, rfl, g⟩ := cells_span ht he hu hk hf
  exact ⟨a, b, c, rfl, g⟩
theorem open_arr2 (ht : P.underlying t = some (.array 2 e)) (he : P.underlying e = some (.int .i64)) (hk : (P.cellsOf e == 1 && P.cellsOf t == 2) = true) (hv : Value.okWide P w r b0 t v) (h : DataW.Trod enc P w base spare held t v d ps) :
    ∃ a b, v = .agg #[.int .i64 a, .int .i64 b] ∧ I64 a ∧ I64 b := by
  obtain ⟨cs, n, x, rfl, hf⟩ := agg_array ht hv h
  obtain ⟨a, b, rfl, g⟩ := cells_arr2 ht he hk hf
  exact ⟨a, b, rfl, g⟩
theorem open_arr4 (ht : P.underlying t = some (.array 4 e)) (he : P.underlying e = some (.int .i64)) (hk : (P.cellsOf e == 1 && P.cellsOf t == 4) = true) (hv : Value.okWide P w r b0 t v) (h : DataW.Trod enc P w base spare held t v d ps) :
    ∃ a b c d', v = .agg #[.int .i64 a, .int .i64 b, .int .i64 c, .int .i64 d'] ∧ I64 a ∧ I64 b ∧ I64 c ∧ I64 d' := by
  obtain ⟨cs, n, x, rfl, hf⟩ := agg_array ht hv h
  obtain ⟨a, b, c, d', rfl, g⟩ := cells_arr4 ht he hk hf
  exact ⟨a, b, c, d', rfl, g⟩
end
end Go.Proofs.Ytoijjnhlmndhpaa
