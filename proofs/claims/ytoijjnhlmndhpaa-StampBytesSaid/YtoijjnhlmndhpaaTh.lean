/-
  Get: what it answers; the ten bytes of a stamp; what is written is read as it was.
-/
import Derived.Test.YtoijjnhlmndhpaaTg
import Derived.Test.YtoijjnhlmndhpaaTs
namespace Go.Proofs.Ytoijjnhlmndhpaa
open Go.RowKit

theorem Get_ok (c : Nat → Int) (b o cap : Nat) (x y : Int) (hc : ∀ i, i < 10 → 0 ≤ c i ∧ c i ≤ 255) (hx : be c 0 6 = x) (hy : be c 6 4 = y) (H : Hid (stRight x y = true)) (w : World) (hb : b < w.heap.size) (hw : ∀ i : Nat, i < 10 → w.cell? ⟨b, o + i, none⟩ = some (.int .u8 (c i))) :
    Calls Try.prog 28 #[.slice (some ⟨b, o, none⟩) 10 cap] w fun e w' => e = .returned (.tuple #[.agg #[.int .i64 x, .int .i64 y], .int .i64 0]) ∧ Below w.heap.size w w' :=
  Get_ten c b o cap x y true hc hx hy H w hb hw
theorem Get_bad (c : Nat → Int) (b o cap : Nat) (x y : Int) (hc : ∀ i, i < 10 → 0 ≤ c i ∧ c i ≤ 255) (hx : be c 0 6 = x) (hy : be c 6 4 = y) (H : Hid (stRight x y = false)) (w : World) (hb : b < w.heap.size) (hw : ∀ i : Nat, i < 10 → w.cell? ⟨b, o + i, none⟩ = some (.int .u8 (c i))) :
    Calls Try.prog 28 #[.slice (some ⟨b, o, none⟩) 10 cap] w fun e w' => e = .returned (.tuple #[.agg #[.int .i64 0, .int .i64 0], .int .i64 20]) ∧ Below w.heap.size w w' :=
  Get_ten c b o cap x y false hc hx hy H w hb hw
theorem Get_other (a : Option Addr) (n cap : Nat) (hn : n ≠ 10) (w : World) :
    Calls Try.prog 28 #[.slice a n cap] w fun e w' => e = .returned (.tuple #[.agg #[.int .i64 0, .int .i64 0], .int .i64 20]) ∧ Below w.heap.size w w' := by
  have hn' : ¬ (n : Int) = 10 := by omega
  go_enter Try.func28, Try.ntmps28
  go_wp2
  exact bodyPost_ret (v := .tuple #[.agg #[.int .i64 0, .int .i64 0], .int .i64 20]) (by simp [results, Try.results28, go_sem]) rfl ⟨rfl, (by repeat (first | exact brefl _ | refine balloc ?_ _ | refine bdrewN ?_ _ | refine bset ?_ (by dsimp only; omega) _ | refine bstep ?_ (by assumption)))⟩

/-- The ten bytes of a stamp. -/
def tenB (s n : Int) : Nat → Int
  | 0 => s / 1099511627776
  | 1 => s / 4294967296 % 256
  | 2 => s / 16777216 % 256
  | 3 => s / 65536 % 256
  | 4 => s / 256 % 256
  | 5 => s % 256
  | 6 => n / 16777216
  | 7 => n / 65536 % 256
  | 8 => n / 256 % 256
  | 9 => n % 256
  | _ => 0
theorem st_bd {s n : Int} (h : stRight s n = true) : (0 ≤ s ∧ s < 281474976710656) ∧ 0 ≤ n ∧ n < 1000000000 := by
  unfold stRight at h
  simp at h
  omega
theorem tenB_bd {s n : Int} (h : stRight s n = true) : ∀ i, i < 10 → 0 ≤ tenB s n i ∧ tenB s n i ≤ 255 := by
  obtain ⟨⟨h1, h2⟩, h3, h4⟩ := st_bd h
  intro i hi
  match i, hi with
  | 0, _ => exact ⟨by show 0 ≤ s / 1099511627776; omega, by show s / 1099511627776 ≤ 255; omega⟩
  | 1, _ => exact ⟨by show 0 ≤ s / 4294967296 % 256; omega, by show s / 4294967296 % 256 ≤ 255; omega⟩
  | 2, _ => exact ⟨by show 0 ≤ s / 16777216 % 256; omega, by show s / 16777216 % 256 ≤ 255; omega⟩
  | 3, _ => exact ⟨by show 0 ≤ s / 65536 % 256; omega, by show s / 65536 % 256 ≤ 255; omega⟩
  | 4, _ => exact ⟨by show 0 ≤ s / 256 % 256; omega, by show s / 256 % 256 ≤ 255; omega⟩
  | 5, _ => exact ⟨by show 0 ≤ s % 256; omega, by show s % 256 ≤ 255; omega⟩
  | 6, _ => exact ⟨by show 0 ≤ n / 16777216; omega, by show n / 16777216 ≤ 255; omega⟩
  | 7, _ => exact ⟨by show 0 ≤ n / 65536 % 256; omega, by show n / 65536 % 256 ≤ 255; omega⟩
  | 8, _ => exact ⟨by show 0 ≤ n / 256 % 256; omega, by show n / 256 % 256 ≤ 255; omega⟩
  | 9, _ => exact ⟨by show 0 ≤ n % 256; omega, by show n % 256 ≤ 255; omega⟩
theorem tenB_sec {s n : Int} (h : stRight s n = true) : be (tenB s n) 0 6 = s := by
  obtain ⟨⟨h1, h2⟩, _, _⟩ := st_bd h
  show ((((((0 * 256 + s / 1099511627776) * 256 + s / 4294967296 % 256) * 256 + s / 16777216 % 256) * 256 + s / 65536 % 256) * 256 + s / 256 % 256) * 256 + s % 256) = s
  omega
theorem tenB_ns {s n : Int} (h : stRight s n = true) : be (tenB s n) 6 4 = n := by
  obtain ⟨_, h3, h4⟩ := st_bd h
  show ((((0 * 256 + n / 16777216) * 256 + n / 65536 % 256) * 256 + n / 256 % 256) * 256 + n % 256) = n
  omega
/-- What Put leaves, cell by cell. -/
theorem put_cells {s n : Int} {b : Nat} {w : World} (p0 : CellF w ⟨b, 0, none⟩ (.int .u8 (s / 1099511627776))) (p1 : CellF w ⟨b, 1, none⟩ (.int .u8 (s / 4294967296 % 256))) (p2 : CellF w ⟨b, 2, none⟩ (.int .u8 (s / 16777216 % 256))) (p3 : CellF w ⟨b, 3, none⟩ (.int .u8 (s / 65536 % 256))) (p4 : CellF w ⟨b, 4, none⟩ (.int .u8 (s / 256 % 256))) (p5 : CellF w ⟨b, 5, none⟩ (.int .u8 (s % 256))) (p6 : CellF w ⟨b, 6, none⟩ (.int .u8 (n / 16777216))) (p7 : CellF w ⟨b, 7, none⟩ (.int .u8 (n / 65536 % 256))) (p8 : CellF w ⟨b, 8, none⟩ (.int .u8 (n / 256 % 256))) (p9 : CellF w ⟨b, 9, none⟩ (.int .u8 (n % 256))) :
    ∀ i : Nat, i < 10 → CellF w ⟨b, i, none⟩ (.int .u8 (tenB s n i)) := by
  intro i hi
  match i, hi with
  | 0, _ => exact p0
  | 1, _ => exact p1
  | 2, _ => exact p2
  | 3, _ => exact p3
  | 4, _ => exact p4
  | 5, _ => exact p5
  | 6, _ => exact p6
  | 7, _ => exact p7
  | 8, _ => exact p8
  | 9, _ => exact p9
def PutAt (s n : Int) (w : World) (e : Ending) (w' : World) : Prop := ∃ b, e = .returned (.tuple #[.slice (some ⟨b, 0, none⟩) 10 10, .int .i64 0]) ∧ Below w.heap.size w w' ∧ w.heap.size ≤ b ∧ ∀ i : Nat, i < 10 → CellF w' ⟨b, i, none⟩ (.int .u8 (tenB s n i))
theorem Put_ten (s n : Int) (H : Hid (stRight s n = true)) (w : World) : Calls Try.prog 20 #[.agg #[.int .i64 s, .int .i64 n]] w (PutAt s n w) := by
  obtain ⟨⟨h1, h2⟩, h3, h4⟩ := st_bd H.out
  refine (Put_yes s n H h1 h2 h3 h4 w).mono ?_
  rintro e w' ⟨b, he, hb, hbb, p0, p1, p2, p3, p4, p5, p6, p7, p8, p9⟩
  exact ⟨b, he, hb, hbb, put_cells p0 p1 p2 p3 p4 p5 p6 p7 p8 p9⟩

/-- A stamp of nanoseconds is right, and is these nanoseconds. -/
theorem of_back {n x y : Int} (h : stOf n = (x, y, true)) : stRight x y = true ∧ stNanos x y = (n, true) ∧ 0 ≤ n ∧ x = n / 1000000000 ∧ y = n % 1000000000 := by
  unfold stOf at h
  split at h
  · cases h
  · rename_i hc
    obtain ⟨e1, hh⟩ := Prod.mk.inj h
    obtain ⟨e2, _⟩ := Prod.mk.inj hh
    have h0 : 0 ≤ n := Int.not_lt.1 fun z => hc (.inl z)
    have hs : smallB n = true := by
      cases hq : smallB n with
      | true => rfl
      | false => exact absurd (.inr hq) hc
    have hb := smallB_iff.1 hs
    have hr : stRight x y = true := by
      unfold stRight
      rw [decide_eq_true (show 0 ≤ x by omega), decide_eq_true (show x < 281474976710656 by omega), decide_eq_true (show 0 ≤ y by omega), decide_eq_true (show y < 1000000000 by omega)]; rfl
    refine ⟨hr, ?_, h0, e1.symm, e2.symm⟩
    rw [← r2_nanos, hr, if_pos ⟨rfl, by omega, by omega⟩]
    congr 1
    omega
end Go.Proofs.Ytoijjnhlmndhpaa
