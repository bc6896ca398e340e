/-
  The walk of package stamp's Put.
-/
import Derived.Test.YtoijjnhlmndhpaaTb
namespace Go.Proofs.Ytoijjnhlmndhpaa
open Go.RowKit

theorem Put_no (s n : Int) (H : Hid (stRight s n = false)) (w : World) : Calls Try.prog 20 #[.agg #[.int .i64 s, .int .i64 n]] w fun e w' => e = .returned (.tuple #[.slice none 0 0, .int .i64 20]) ∧ Below w.heap.size w w' := by
  go_enter Try.func20, Try.ntmps20
  go_wp2_with fail
  refine (StRight_is _ _ _ H _).mono ?_
  rintro e w1 ⟨rfl, hb1⟩
  go_wp2
  go_ret2
  exact ⟨rfl, (by repeat (first | exact brefl _ | refine balloc ?_ _ | refine bdrewN ?_ _ | refine bset ?_ (by dsimp only; omega) _ | refine bstep ?_ (by assumption)))⟩

/-- What Put leaves: ten bytes in a block of its own. -/
def PutLeaves (s n : Int) (w : World) (e : Ending) (w' : World) : Prop := ∃ b, e = .returned (.tuple #[.slice (some ⟨b, 0, none⟩) 10 10, .int .i64 0]) ∧ Below w.heap.size w w' ∧ w.heap.size ≤ b ∧
  CellF w' ⟨b, 0, none⟩ (.int .u8 (s / 1099511627776)) ∧
  CellF w' ⟨b, 1, none⟩ (.int .u8 (s / 4294967296 % 256)) ∧
  CellF w' ⟨b, 2, none⟩ (.int .u8 (s / 16777216 % 256)) ∧
  CellF w' ⟨b, 3, none⟩ (.int .u8 (s / 65536 % 256)) ∧
  CellF w' ⟨b, 4, none⟩ (.int .u8 (s / 256 % 256)) ∧
  CellF w' ⟨b, 5, none⟩ (.int .u8 (s % 256)) ∧
  CellF w' ⟨b, 6, none⟩ (.int .u8 (n / 16777216)) ∧
  CellF w' ⟨b, 7, none⟩ (.int .u8 (n / 65536 % 256)) ∧
  CellF w' ⟨b, 8, none⟩ (.int .u8 (n / 256 % 256)) ∧
  CellF w' ⟨b, 9, none⟩ (.int .u8 (n % 256))

set_option maxHeartbeats 4000000 in
theorem Put_yes (s n : Int) (H : Hid (stRight s n = true)) (h1 : 0 ≤ s) (h2 : s < 281474976710656) (h3 : 0 ≤ n) (h4 : n < 1000000000) (w : World) : Calls Try.prog 20 #[.agg #[.int .i64 s, .int .i64 n]] w (PutLeaves s n w) := by
  go_enter Try.func20, Try.ntmps20
  go_wp2_with fail
  refine (StRight_is _ _ _ H _).mono ?_
  rintro e w1 ⟨rfl, hb1⟩
  have q1_1_0 : CellF w1 ⟨w.heap.size, 0, none⟩ (.int .i64 s) := (by refine CellF.keep hb1 ?_; refine ⟨?_, ?_⟩ <;> go_simp)
  have c1_1_0 := q1_1_0.1
  have q1_1_1 : CellF w1 ⟨w.heap.size, 1, none⟩ (.int .i64 n) := (by refine CellF.keep hb1 ?_; refine ⟨?_, ?_⟩ <;> go_simp)
  have c1_1_1 := q1_1_1.1
  have z1_1 : w.heap.size < w1.heap.size := ltc c1_1_0
  go_wp2_with fail
  refine wp_loop_rounds 11 ?_
  iterate 11 (rw [rounds_succ]; go_wp2)
  go_ret2
  exact ⟨w1.heap.size, rfl, (by repeat (first | exact brefl _ | refine balloc ?_ _ | refine bdrewN ?_ _ | refine bset ?_ (by dsimp only; omega) _ | refine bstep ?_ (by assumption))), Nat.le_of_lt z1_1, ⟨by go_simp, by go_simp⟩, ⟨by go_simp, by go_simp⟩, ⟨by go_simp, by go_simp⟩, ⟨by go_simp, by go_simp⟩, ⟨by go_simp, by go_simp⟩, ⟨by go_simp, by go_simp⟩, ⟨by go_simp, by go_simp⟩, ⟨by go_simp, by go_simp⟩, ⟨by go_simp, by go_simp⟩, ⟨by go_simp, by go_simp⟩⟩
end Go.Proofs.Ytoijjnhlmndhpaa
