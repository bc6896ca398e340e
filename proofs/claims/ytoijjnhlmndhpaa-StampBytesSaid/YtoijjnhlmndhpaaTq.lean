/-
  The walks of the document's Put and Get; a slice of bytes as an argument.
-/
import Derived.Test.YtoijjnhlmndhpaaTp
import Derived.Test.YtoijjnhlmndhpaaOp
import Derived.Deep.SlicePairs
namespace Go.Proofs.Ytoijjnhlmndhpaa
open Go.RowKit Go.Proofs.Ytoijjnhlmndhpaa.PStampBytes Go.Proofs.YtoijjnhlmndhpaaW.PrintWords Go.ChangeShapes Go.WideShapes Go.Deep

/-- A slice of bytes. -/
def BytesAt (w : World) (v : Value) (xs : List Int) : Prop := ∃ (a : Option Addr) (cap : Nat), v = .slice a xs.length cap ∧ xs.length ≤ cap ∧ xs.length ≤ 9223372036854775807 ∧ (∀ x, x ∈ xs → 0 ≤ x ∧ x ≤ 255) ∧
  ∀ i, i < xs.length → ∃ b o, a = some ⟨b, o, none⟩ ∧ b < w.heap.size ∧ w.cell? ⟨b, o + i, none⟩ = some (.int .u8 (xs.getD i 0))

section
variable {H : Type} {enc : TypeId × Value → H} {P : Program} {w : World} {base : Nat} {spare : Nat → Bool} {held : Bool} {t e u : TypeId} {v : Value} {d : DataW H} {ps : List MemPlace} {r : Reach} {b0 : Nat}
theorem cells_u8 {e : TypeId} {n : Nat} {c : List Value} {x : DataW H × List MemPlace} (he : P.underlying e = some (.int .u8)) (h : DataW.trod enc P w base spare held n e c = some x) : ∃ a, c = [.int .u8 a] ∧ 0 ≤ a ∧ a ≤ 255 := by
  obtain ⟨a, h1, _, h2⟩ := DataW.trod_int he h
  exact ⟨a, h1, by simpa [Lit.wf, IntKind.min, IntKind.max, IntKind.signed, IntKind.bits] using h2⟩
theorem add_off1 {b o n : Nat} {spot : Option Nat} (h : spot = none) : (⟨b, o, spot⟩ : Addr).add n = ⟨b, o + n, none⟩ := by
  subst h
  unfold Addr.add
  split
  · rename_i h; subst h; rfl
  · rfl
theorem open_bytes (ht : P.underlying t = some (.slice e)) (he : P.underlying e = some (.int .u8)) (kt : P.cellsOf e = 1) (h : DataW.Trod enc P w base spare held t v d ps) (hv : ∃ a l c, v = .slice a l c) : ∃ xs, BytesAt w v xs := by
  obtain ⟨a0, l0, c0, rfl⟩ := hv
  obtain ⟨fuel, hf⟩ := h
  have hf' : DataW.trod enc P w base spare held fuel t [.slice a0 l0 c0] = some (d, ps) := by simpa [Value.cells] using hf
  rcases open_slice ht hf' with ⟨hc, _⟩ | ⟨a, len, cap, m, k, D, Pl, hc, _, hl, hm, hmm, _, hall⟩
  · simp only [List.cons.injEq, and_true] at hc
    rw [hc]
    exact ⟨[], none, 0, rfl, by simp, by simp, fun x hx => absurd hx List.not_mem_nil, fun i hi => absurd hi (Nat.not_lt_zero _)⟩
  · simp only [List.cons.injEq, and_true] at hc
    rw [hc]
    have hlm : len ≤ m := by rw [hmm]; split <;> omega
    have key : ∀ i, ∃ q : Int, i < len → (0 ≤ q ∧ q ≤ 255) ∧ w.cell? (a.add i) = some (.int .u8 q) := by
      intro i
      by_cases hi : i < len
      · obtain ⟨cs', h1, h2⟩ := hall i (by omega)
        obtain ⟨q, rfl, q0, q1⟩ := cells_u8 he h2
        rw [kt] at h1
        obtain ⟨_, _, hcell⟩ := World.cells?_some h1
        have e0 := hcell 0 (by omega)
        exact ⟨q, fun _ => ⟨⟨q0, q1⟩, by simpa [Addr.add] using e0⟩⟩
      · exact ⟨0, fun h => absurd h hi⟩
    have hml : cap ≤ 9223372036854775807 := hm
    have hlen : ((List.range len).map fun i => (key i).choose).length = len := by rw [List.length_map, List.length_range]
    have hget : ∀ i, i < len → ((List.range len).map fun i => (key i).choose).getD i 0 = (key i).choose := fun i hi => by
      rw [List.getD_eq_getElem?_getD, List.getElem?_map, List.getElem?_range hi]; rfl
    refine ⟨(List.range len).map fun i => (key i).choose, some a, cap, by rw [hlen], by rw [hlen]; exact hl, by rw [hlen]; omega, ?_, ?_⟩
    · intro x hx
      obtain ⟨i, hi, rfl⟩ := List.mem_map.1 hx
      exact ((key i).choose_spec (List.mem_range.1 hi)).1
    · intro i hi
      rw [hlen] at hi
      have hc := ((key i).choose_spec hi).2
      obtain ⟨b, o, spot⟩ := a
      have hspot : spot = none := by
        have d0 := ((key 0).choose_spec (by omega)).2
        simpa [Addr.add] using World.cell?_spot d0
      have a1 : (⟨b, o, spot⟩ : Addr).add i = ⟨b, o + i, none⟩ := add_off1 hspot
      have d0 := (congrArg w.cell? a1).symm.trans hc
      exact ⟨b, o, by rw [hspot], ltc d0, by rw [hget i hi]; exact d0⟩
end

theorem BytesAt.keep {w w1 : World} {v : Value} {xs : List Int} (hb : Below w.heap.size w w1) (h : BytesAt w v xs) : BytesAt w1 v xs := by
  obtain ⟨a, cap, e, h1, h2, h3, h4⟩ := h
  exact ⟨a, cap, e, h1, h2, h3, fun i hi => by obtain ⟨b, o, e1, e2, e3⟩ := h4 i hi; exact ⟨b, o, e1, Nat.lt_of_lt_of_le e2 hb.size, (hb.cell (p := ⟨b, o + i, none⟩) e2).trans e3⟩⟩

theorem rGet_is {v : Value} {xs : List Int} (x y z : Int) (H : Hid (horologeref02_Get.f 10 xs = some (x, y, z))) (w : World) (h : BytesAt w v xs) :
    Calls Try.prog 29 #[v] w fun e w' => e = .returned (.tuple #[.agg #[.int .i64 x, .int .i64 y], .int .i64 z]) ∧ Below w.heap.size w w' := by
  obtain ⟨a, cap, rfl, h1, h2, h3, h4⟩ := h
  refine horologeref02_Get.calls 10 a cap xs x y z w (Kd.C_of_reads (d := (0 : Int)) ⟨rfl, h2, fun hn => ?_⟩) h1 H.out
  obtain ⟨b, o, e1, _, _⟩ := h4 0 hn
  refine ⟨⟨b, o, none⟩, e1, fun j hj => ?_⟩
  obtain ⟨b', o', e2, _, e3⟩ := h4 j hj
  have hbo : (⟨b, o, none⟩ : Addr) = ⟨b', o', none⟩ := Option.some.inj (e1.symm.trans e2)
  injection hbo with hb ho
  subst hb ho
  have := add_off1 (b := b) (o := o) (n := j) (spot := none) rfl
  rw [this]
  exact e3

/-- What both Gets answer of bytes. -/
def getP (xs : List Int) : Int × Int × Int := if xs.length = 10 then (if stRight (vl (xs.take 6)) (vl (xs.drop 6)) = true then (vl (xs.take 6), vl (xs.drop 6), 0) else (0, 0, 20)) else (0, 0, 20)
theorem getP_ev {xs : List Int} (h : ∀ x, x ∈ xs → 0 ≤ x ∧ x ≤ 255) : horologeref02_Get.f 10 xs = some (getP xs) := by
  unfold getP
  by_cases hl : xs.length = 10
  · rw [if_pos hl]; exact get_ev hl h
  · rw [if_neg hl]; exact get_ev0 hl
theorem Get_is {v : Value} {xs : List Int} (x y z : Int) (H : Hid (getP xs = (x, y, z))) (w : World) (h : BytesAt w v xs) :
    Calls Try.prog 28 #[v] w fun e w' => e = .returned (.tuple #[.agg #[.int .i64 x, .int .i64 y], .int .i64 z]) ∧ Below w.heap.size w w' := by
  obtain ⟨a, cap, rfl, h1, h2, h3, h4⟩ := h
  have hx := H.out
  unfold getP at hx
  by_cases hl : xs.length = 10
  · rw [if_pos hl] at hx
    obtain ⟨b, o, rfl, hb, _⟩ := h4 0 (by omega)
    have hc : ∀ i, i < 10 → 0 ≤ (fun i => xs.getD i 0) i ∧ (fun i => xs.getD i 0) i ≤ 255 := fun i hi => by
      show 0 ≤ xs.getD i 0 ∧ xs.getD i 0 ≤ 255
      rw [List.getD_eq_getElem?_getD, List.getElem?_eq_getElem (by omega)]
      exact h3 _ (List.getElem_mem _)
    have hw : ∀ i : Nat, i < 10 → w.cell? ⟨b, o + i, none⟩ = some (.int .u8 ((fun i => xs.getD i 0) i)) := fun i hi => by
      obtain ⟨b', o', e2, _, e3⟩ := h4 i (by omega)
      have hbo : (⟨b, o, none⟩ : Addr) = ⟨b', o', none⟩ := Option.some.inj e2
      injection hbo with hb ho
      subst hb ho
      exact e3
    have hs : be (fun i => xs.getD i 0) 0 6 = vl (xs.take 6) := be_vl xs 0 6 (by omega)
    have hn : be (fun i => xs.getD i 0) 6 4 = vl (xs.drop 6) := by
      have := be_vl xs 6 4 (by omega)
      rw [List.take_of_length_le (by rw [List.length_drop]; omega)] at this
      exact this
    rw [hl]
    cases hr : stRight (vl (xs.take 6)) (vl (xs.drop 6)) with
    | true =>
      rw [hr, if_pos rfl] at hx
      obtain ⟨e1, hx⟩ := Prod.mk.inj hx
      obtain ⟨e2, e3⟩ := Prod.mk.inj hx
      subst e1 e2 e3
      exact Get_ok _ b o cap _ _ hc hs hn (Lib.hid hr) w hb hw
    | false =>
      rw [hr, if_neg (by decide)] at hx
      obtain ⟨e1, hx⟩ := Prod.mk.inj hx
      obtain ⟨e2, e3⟩ := Prod.mk.inj hx
      subst e1 e2 e3
      exact Get_bad _ b o cap _ _ hc hs hn (Lib.hid hr) w hb hw
  · rw [if_neg hl] at hx
    obtain ⟨e1, hx⟩ := Prod.mk.inj hx
    obtain ⟨e2, e3⟩ := Prod.mk.inj hx
    subst e1 e2 e3
    exact Get_other a xs.length cap hl w

theorem rPut_no (s n : Int) (H : Hid (stRight s n = false)) (w : World) : Calls Try.prog 27 #[.agg #[.int .i64 s, .int .i64 n]] w fun e w' => e = .returned (.tuple #[.slice none 0 0, .int .i64 20]) ∧ Below w.heap.size w w' := by
  go_enter Try.func27, Try.ntmps27
  go_wp2_with fail
  refine (r2Right_is _ _ _ H _).mono ?_
  rintro e w1 ⟨rfl, hb1⟩
  go_wp2
  go_ret2
  exact ⟨rfl, (by repeat (first | exact brefl _ | refine balloc ?_ _ | refine bdrewN ?_ _ | refine bset ?_ (by dsimp only; omega) _ | refine bstep ?_ (by assumption)))⟩

theorem rNum6 (a : Int) (S : ByteArray) (h0 : 0 ≤ a) (h1 : a ≤ 9223372036854775807) (H : Hid (strOfNums (digs a 6) = S)) (w : World) :
    Calls Try.prog 33 #[.int .i64 a, .int .i64 6] w fun e w' => e = .returned (.string S) ∧ Below w.heap.size w w' := rNumber_is 6 a S (by omega) h0 h1 H w
theorem rNum4 (a : Int) (S : ByteArray) (h0 : 0 ≤ a) (h1 : a ≤ 9223372036854775807) (H : Hid (strOfNums (digs a 4) = S)) (w : World) :
    Calls Try.prog 33 #[.int .i64 a, .int .i64 4] w fun e w' => e = .returned (.string S) ∧ Below w.heap.size w w' := rNumber_is 4 a S (by omega) h0 h1 H w

/-- What the document's Put leaves. -/
def RPutAt (s n : Int) (w : World) (e : Ending) (w' : World) : Prop := ∃ b cap, e = .returned (.tuple #[.slice (some ⟨b, 0, none⟩) 10 cap, .int .i64 0]) ∧ Below w.heap.size w w' ∧ ∀ i : Nat, i < 10 → b < w'.heap.size ∧ w'.cell? ⟨b, i, none⟩ = some (.int .u8 (tenB s n i))
set_option maxHeartbeats 1000000 in
theorem rPut_yes (s n : Int) (H : Hid (stRight s n = true)) (w : World) : Calls Try.prog 27 #[.agg #[.int .i64 s, .int .i64 n]] w (RPutAt s n w) := by
  obtain ⟨⟨h1, h2⟩, h3, h4⟩ := st_bd H.out
  obtain ⟨S6, e6⟩ : ∃ S, strOfNums (digs s 6) = S := ⟨_, rfl⟩
  obtain ⟨S4, e4⟩ : ∃ S, strOfNums (digs n 4) = S := ⟨_, rfl⟩
  have hS : S6 ++ S4 = strOfNums (tenL s n) := by rw [← e6, ← e4, str_app, digs_ten H.out]
  have hz6 : S6.size = 6 := by rw [← e6, strOfNums_size, digs_len]
  have hz4 : S4.size = 4 := by rw [← e4, strOfNums_size, digs_len]
  obtain ⟨S, eS⟩ : ∃ S, strOfNums (tenL s n) = S := ⟨_, rfl⟩
  rw [eS] at hS
  have hzS : S.size = 10 := by rw [← eS, strOfNums_size]; rfl
  have H6 := Lib.hid e6
  have H4 := Lib.hid e4
  have HS := Lib.hid eS
  have hconv : ∀ w : World, (convert 9 39 (.string S)).run Try.prog w = .ok (.slice (some ⟨w.heap.size, 0, none⟩) 10 (grownCap w 10 0 5)) (Lib.bytesWorld w 5 S) := fun w => by
    have := Lib.run_convert_string_bytes (P := Try.prog) w 9 39 5 S (u := .string) (by kernel_rfl) (by kernel_rfl) (by kernel_rfl)
    rw [hzS] at this
    exact this
  clear e6 e4 eS
  have hs9 : s ≤ 9223372036854775807 := by omega
  have hn9 : n ≤ 9223372036854775807 := by omega
  go_enter Try.func27, Try.ntmps27
  go_wp2_with fail
  refine (r2Right_is _ _ _ H _).mono ?_
  rintro e w1 ⟨rfl, hb1⟩
  have q0 : CellF w1 ⟨w.heap.size, 0, none⟩ (.int .i64 s) := CellF.keep hb1 (CellF.at_ rfl rfl)
  have q1 : CellF w1 ⟨w.heap.size, 1, none⟩ (.int .i64 n) := CellF.keep hb1 (CellF.at_ rfl rfl)
  have c0 := q0.1
  have c1 := q1.1
  have z0 := ltc c0
  go_wp2_with fail
  go_region_with
    (first | (go_at_call 33; ((with_reducible refine (rNum6 s S6 h1 hs9 H6 _).mono ?_)); rintro e w2 ⟨rfl, hb2⟩; have r0 := CellF.keep hb2 (by first | exact CellF.drew q0 | exact q0); have r1 := CellF.keep hb2 (by first | exact CellF.drew q1 | exact q1); have d0 := r0.1; have d1 := r1.1) | (go_at_call 33; ((with_reducible refine (rNum4 n S4 h3 hn9 H4 _).mono ?_)); rintro e w3 ⟨rfl, hb3⟩; have s0 := CellF.keep hb3 r0; have s1 := CellF.keep hb3 r1; have f0 := s0.1; have f1 := s1.1; have z3 := ltc f0; dsimp only at z3))
  all_goals (
    go_wp2
    refine bodyPost_ret (v := .tuple #[.slice (some ⟨w3.heap.size, 0, none⟩) 10 (grownCap w3 10 0 5), .int .i64 0]) (by simp [results, Try.results27, go_sem]) rfl ⟨w3.heap.size, _, rfl, ?_, fun i hi => ⟨?_, ?_⟩⟩
    · exact Below.trans (by repeat (first | exact brefl _ | refine balloc ?_ _ | refine bdrew ?_ | refine bstep ?_ (by assumption))) ((Lib.bytesWorld_below w3 _ S).mono (by have := hb1.size; have := hb2.size; have := hb3.size; simp at *; omega))
    · rw [Lib.bytesWorld_size]; omega
    · have hc := Lib.bytesWorld_cell w3 5 S i (by rw [hzS]; exact hi)
      rw [← HS.out] at hc
      have e : ((strOfNums (tenL s n)).data.toList.getD i 0).toNat = (tenB s n i).toNat := by
        have hb := tenB_bd H.out i hi
        rw [strOfNums_data, List.getD_eq_getElem?_getD, List.getElem?_map]
        have hg : (tenL s n)[i]? = some (tenB s n i) := by
          have := tenL_get (s := s) (n := n) i hi
          rw [List.getD_eq_getElem?_getD] at this
          have hl : i < (tenL s n).length := by show i < 10; exact hi
          rw [List.getElem?_eq_getElem hl] at this ⊢
          exact congrArg some this
        rw [hg]
        exact u8_of hb.1 hb.2
      rw [e, Int.toNat_of_nonneg (tenB_bd H.out i hi).1, HS.out] at hc
      exact hc)
end Go.Proofs.Ytoijjnhlmndhpaa
