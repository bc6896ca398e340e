/-
  The walk of package stamp's Get, at ten bytes and at another number of bytes.
-/
import Derived.Test.YtoijjnhlmndhpaaTc
namespace Go.Proofs.Ytoijjnhlmndhpaa
open Go.RowKit

theorem CellF.at_ {a : World} {c : Array Value} {t : TypeId} {n i : Nat} {v : Value} (hn : n = a.heap.size) (hv : c[i]? = some v) : CellF (a.alloc (.cells c t)) ⟨n, i, none⟩ v := by
  subst hn
  refine ⟨?_, ?_⟩
  · rw [World.cell?_alloc_new]; exact hv
  · go_simp
theorem CellF.set_same' {a : World} {p : Addr} {u : Value} (v : Value) (h : CellF a p u) : CellF (a.setCell p v) p v :=
  ⟨World.cell?_setCell_same _ _ _ h.1, by rw [World.frozen?_setCell]; exact h.2⟩
theorem CellF.set_other' {a : World} {p q : Addr} {u : Value} (v : Value) (hne : p ≠ q) (h : CellF a q u) : CellF (a.setCell p v) q u :=
  ⟨(World.cell?_setCell_other _ _ _ _ hne).trans h.1, by rw [World.frozen?_setCell]; exact h.2⟩

/-- The number that so many bytes stand for, the highest first. -/
def be (c : Nat → Int) (lo : Nat) : Nat → Int
  | 0 => 0
  | n + 1 => be c lo n * 256 + c (lo + n)
theorem be_bd {c : Nat → Int} {lo : Nat} (n : Nat) (h : ∀ i, i < n → 0 ≤ c (lo + i) ∧ c (lo + i) ≤ 255) : 0 ≤ be c lo n ∧ be c lo n < 256 ^ n := by
  induction n with
  | zero => exact ⟨by show (0 : Int) ≤ 0; omega, by show (0 : Int) < 1; omega⟩
  | succ n ih =>
    have := ih fun i hi => h i (by omega)
    have hn := h n (by omega)
    have e : (256 : Int) ^ (n + 1) = 256 ^ n * 256 := Int.pow_succ ..
    refine ⟨?_, ?_⟩
    · show 0 ≤ be c lo n * 256 + c (lo + n); omega
    · show be c lo n * 256 + c (lo + n) < _; rw [e]; omega
theorem pow256 {k n : Nat} (h : k ≤ n) : (256 : Int) ^ k ≤ 256 ^ n := by
  obtain ⟨d, rfl⟩ := Nat.le.dest h
  induction d with
  | zero => exact Int.le_refl _
  | succ d ih =>
    have h1 := ih (by omega)
    have e : (256 : Int) ^ (k + (d + 1)) = 256 ^ (k + d) * 256 := Int.pow_succ ..
    have h0 : (0 : Int) ≤ 256 ^ (k + d) := Int.le_of_lt (Int.pow_pos (by omega))
    omega
theorem or8 (x y : Int) (h1 : 0 ≤ x) (h2 : x < 36028797018963968) (h3 : 0 ≤ y) (h4 : y ≤ 255) : bits .or .i64 (x * 256) y = x * 256 + y := by
  have e1 : (BitVec.ofInt 64 (x * 256)).toNat = (x * 256).toNat := by
    rw [BitVec.toNat_ofInt]
    show (x * 256 % 18446744073709551616).toNat = _
    omega
  have e2 : (BitVec.ofInt 64 y).toNat = y.toNat := by
    rw [BitVec.toNat_ofInt]
    show (y % 18446744073709551616).toNat = _
    omega
  show IntKind.i64.wrap (((BitVec.ofInt 64 (x * 256) ||| BitVec.ofInt 64 y).toNat : Nat) : Int) = _
  rw [BitVec.toNat_or, e1, e2, nat_join 8 (x * 256).toNat y.toNat (by omega) (by omega), IntKind.wrap_i64]
  omega

set_option maxRecDepth 100000 in
set_option maxHeartbeats 4000000 in
theorem Get_ten (c : Nat → Int) (b o cap : Nat) (x y : Int) (p : Bool) (hc : ∀ i, i < 10 → 0 ≤ c i ∧ c i ≤ 255) (hx : be c 0 6 = x) (hy : be c 6 4 = y) (H : Hid (stRight x y = p)) (w : World) (hb : b < w.heap.size) (hw : ∀ i : Nat, i < 10 → w.cell? ⟨b, o + i, none⟩ = some (.int .u8 (c i))) :
    Calls Try.prog 28 #[.slice (some ⟨b, o, none⟩) 10 cap] w fun e w' => e = .returned (.tuple #[if p = true then .agg #[.int .i64 x, .int .i64 y] else .agg #[.int .i64 0, .int .i64 0], .int .i64 (if p = true then 0 else 20)]) ∧ Below w.heap.size w w' := by
  have HC := Lib.hid hc
  have HW := Lib.hid hw
  have HX := Lib.hid hx
  have HY := Lib.hid hy
  clear hc hw hx hy
  go_enter Try.func28, Try.ntmps28
  go_wp2
  go_loopw [14] (fun i wr => ∃ k : Nat, k ≤ 10 ∧ i = .int .i64 k ∧ Hid (Below w.heap.size w wr) ∧ Hid (CellF wr ⟨w.heap.size + 1, 0, none⟩ (.int .i64 (be c 0 (min k 6))) ∧ CellF wr ⟨w.heap.size + 1, 1, none⟩ (.int .i64 (be c 6 (k - 6))) ∧ CellF wr ⟨w.heap.size, 0, none⟩ (.int .i64 0) ∧ CellF wr ⟨w.heap.size, 1, none⟩ (.int .i64 0))) (fun i _ => 10 - (intOf i).toNat)
  case atStart => exact ⟨0, by omega, rfl, Lib.hid (balloc (balloc (brefl _) _) _), Lib.hid ⟨CellF.at_ (by simp) rfl, CellF.at_ (by simp) rfl, CellF.past _ (CellF.at_ rfl rfl), CellF.past _ (CellF.at_ rfl rfl)⟩⟩
  case round =>
    obtain ⟨k, hk, rfl, HB, HS⟩ := hrel
    have hwr := HB.out
    have q0 := HS.out.1
    have q1 := HS.out.2.1
    have q2 := HS.out.2.2.1
    have q3 := HS.out.2.2.2
    have c0 := q0.1
    have c1 := q1.1
    have c2 := q2.1
    have c3 := q3.1
    have g0 := q0.2
    have g1 := q1.2
    have g2 := q2.2
    have g3 := q3.2
    have z1 := ltc c0
    have z0 := ltc c2
    dsimp only at z0 z1
    clear q0 q1 q2 q3
    by_cases hkn : k < 10
    · have e0 := (hwr.cell (p := ⟨b, o + k, none⟩) hb).trans (HW.out k hkn)
      have hck := HC.out k hkn
      generalize hcc : c k = ck at e0 hck
      obtain ⟨k0, k1⟩ := hck
      by_cases h6 : k < 6
      · have hm : min k 6 = k := by omega
        have hm1 : min (k + 1) 6 = k + 1 := by omega
        have hz : k - 6 = 0 := by omega
        have hz1 : k + 1 - 6 = 0 := by omega
        rw [hm] at c0
        rw [hz] at c1
        have hbd := be_bd (c := c) (lo := 0) k fun i hi => by rw [Nat.zero_add]; exact HC.out i (by omega)
        have hpw : (256 : Int) ^ k ≤ 256 ^ 5 := pow256 (by omega)
        have hstep : be c 0 (k + 1) = be c 0 k * 256 + ck := by rw [← hcc]; show _ * 256 + c (0 + k) = _; rw [Nat.zero_add]
        generalize hxx : be c 0 k = xx at c0 hbd hstep
        have h5 : (256 : Int) ^ 5 = 1099511627776 := by decide
        rw [h5] at hpw
        have hlt : xx < 1099511627776 := by omega
        have hge := hbd.1
        have hor := or8 xx ck hge (by omega) k0 k1
        clear hbd hpw h5
        have n01 : (⟨w.heap.size + 1, 0, none⟩ : Addr) ≠ ⟨w.heap.size + 1, 1, none⟩ := by intro e; injection e with e1 e2; omega
        have n10 : (⟨w.heap.size + 1, 1, none⟩ : Addr) ≠ ⟨w.heap.size + 1, 0, none⟩ := by intro e; injection e with e1 e2; omega
        have nr : ∀ i j, (⟨w.heap.size + 1, i, none⟩ : Addr) ≠ ⟨w.heap.size, j, none⟩ := by intro i j e; injection e with e1 e2; omega
        have hW : Below w.heap.size w (wr.setCell ⟨w.heap.size + 1, 0, none⟩ (.int .i64 (xx * 256 + ck))) := bset hwr (by dsimp only; omega) _
        have r0 : CellF (wr.setCell ⟨w.heap.size + 1, 0, none⟩ (.int .i64 (xx * 256 + ck))) ⟨w.heap.size + 1, 0, none⟩ (.int .i64 (be c 0 (min (k + 1) 6))) := by rw [hm1, hstep]; exact (CellF.set_same' _ ⟨c0, g0⟩)
        have r1 : CellF (wr.setCell ⟨w.heap.size + 1, 0, none⟩ (.int .i64 (xx * 256 + ck))) ⟨w.heap.size + 1, 1, none⟩ (.int .i64 (be c 6 (k + 1 - 6))) := by rw [hz1]; exact (CellF.set_other' _ n01 ⟨c1, g1⟩)
        have r2 : CellF (wr.setCell ⟨w.heap.size + 1, 0, none⟩ (.int .i64 (xx * 256 + ck))) ⟨w.heap.size, 0, none⟩ (.int .i64 0) := CellF.set_other' _ (nr _ _) ⟨c2, g2⟩
        have r3 : CellF (wr.setCell ⟨w.heap.size + 1, 0, none⟩ (.int .i64 (xx * 256 + ck))) ⟨w.heap.size, 1, none⟩ (.int .i64 0) := CellF.set_other' _ (nr _ _) ⟨c3, g3⟩
        have HR := Lib.hid (And.intro r0 (And.intro r1 (And.intro r2 r3)))
        clear r0 r1 r2 r3 n01 n10 nr hstep hm hm1 hz hz1
        go_wp2
        go_roundw
        case rel => exact ⟨k + 1, by omega, by go_num, Lib.hid hW, HR⟩
        case measure => simp [intOf]; omega
      · obtain ⟨j, rfl⟩ : ∃ j, k = 6 + j := ⟨k - 6, by omega⟩
        have hm : min (6 + j) 6 = 6 := by omega
        have hm1 : min (6 + j + 1) 6 = 6 := by omega
        have hz : 6 + j - 6 = j := by omega
        have hz1 : 6 + j + 1 - 6 = j + 1 := by omega
        rw [hm] at c0
        rw [hz] at c1
        have hbd := be_bd (c := c) (lo := 6) j fun i hi => HC.out (6 + i) (by omega)
        have hpw : (256 : Int) ^ j ≤ 256 ^ 5 := pow256 (by omega)
        have hstep : be c 6 (j + 1) = be c 6 j * 256 + ck := by rw [← hcc]; rfl
        generalize hxx : be c 6 j = xx at c1 hbd hstep
        have h5 : (256 : Int) ^ 5 = 1099511627776 := by decide
        rw [h5] at hpw
        have hlt : xx < 1099511627776 := by omega
        have hge := hbd.1
        have hor := or8 xx ck hge (by omega) k0 k1
        clear hbd hpw h5
        have n01 : (⟨w.heap.size + 1, 0, none⟩ : Addr) ≠ ⟨w.heap.size + 1, 1, none⟩ := by intro e; injection e with e1 e2; omega
        have n10 : (⟨w.heap.size + 1, 1, none⟩ : Addr) ≠ ⟨w.heap.size + 1, 0, none⟩ := by intro e; injection e with e1 e2; omega
        have nr : ∀ i j, (⟨w.heap.size + 1, i, none⟩ : Addr) ≠ ⟨w.heap.size, j, none⟩ := by intro i j e; injection e with e1 e2; omega
        have hW : Below w.heap.size w (wr.setCell ⟨w.heap.size + 1, 1, none⟩ (.int .i64 (xx * 256 + ck))) := bset hwr (by dsimp only; omega) _
        have r0 : CellF (wr.setCell ⟨w.heap.size + 1, 1, none⟩ (.int .i64 (xx * 256 + ck))) ⟨w.heap.size + 1, 0, none⟩ (.int .i64 (be c 0 (min (6 + j + 1) 6))) := by rw [hm1]; exact (CellF.set_other' _ n10 ⟨c0, g0⟩)
        have r1 : CellF (wr.setCell ⟨w.heap.size + 1, 1, none⟩ (.int .i64 (xx * 256 + ck))) ⟨w.heap.size + 1, 1, none⟩ (.int .i64 (be c 6 (6 + j + 1 - 6))) := by rw [hz1, hstep]; exact (CellF.set_same' _ ⟨c1, g1⟩)
        have r2 : CellF (wr.setCell ⟨w.heap.size + 1, 1, none⟩ (.int .i64 (xx * 256 + ck))) ⟨w.heap.size, 0, none⟩ (.int .i64 0) := CellF.set_other' _ (nr _ _) ⟨c2, g2⟩
        have r3 : CellF (wr.setCell ⟨w.heap.size + 1, 1, none⟩ (.int .i64 (xx * 256 + ck))) ⟨w.heap.size, 1, none⟩ (.int .i64 0) := CellF.set_other' _ (nr _ _) ⟨c3, g3⟩
        have HR := Lib.hid (And.intro r0 (And.intro r1 (And.intro r2 r3)))
        clear r0 r1 r2 r3 n01 n10 nr hstep hm hm1 hz hz1
        go_wp2
        go_roundw
        case rel => exact ⟨(6 + j) + 1, by omega, by go_num, Lib.hid hW, HR⟩
        case measure => simp [intOf]; omega
    · have hk10 : k = 10 := by omega
      subst hk10
      have hx6 : be c 0 (min 10 6) = x := HX.out
      have hy4 : be c 6 (10 - 6) = y := HY.out
      rw [hx6] at c0
      rw [hy4] at c1
      clear hx6 hy4 hk hkn HS
      by_cases hx0 : x = 0
      · by_cases hy0 : y = 0
        · subst hx0 hy0
          have hp : true = p := H.out
          subst hp
          go_wp2
          exact bodyPost_ret (v := .tuple #[.agg #[.int .i64 0, .int .i64 0], .int .i64 0]) (by simp [results, Try.results28, go_sem, c2, c3]) rfl ⟨rfl, by repeat (first | with_reducible exact hwr | with_reducible refine bset ?_ ?_ _ | (dsimp only; omega))⟩
        · subst hx0
          go_wp2_with fail
          refine (StRight_is _ _ _ H _).mono ?_
          rintro e w1 ⟨rfl, hb1⟩
          have s0 : CellF w1 ⟨w.heap.size + 1, 0, none⟩ (.int .i64 0) := CellF.keep hb1 ⟨c0, g0⟩
          have d0 := s0.1
          have f0 := s0.2
          have s1 : CellF w1 ⟨w.heap.size + 1, 1, none⟩ (.int .i64 y) := CellF.keep hb1 ⟨c1, g1⟩
          have d1 := s1.1
          have f1 := s1.2
          have s2 : CellF w1 ⟨w.heap.size, 0, none⟩ (.int .i64 0) := CellF.keep hb1 ⟨c2, g2⟩
          have d2 := s2.1
          have f2 := s2.2
          have s3 : CellF w1 ⟨w.heap.size, 1, none⟩ (.int .i64 0) := CellF.keep hb1 ⟨c3, g3⟩
          have d3 := s3.1
          have f3 := s3.2
          have y1 := ltc d0
          have y0 := ltc d2
          dsimp only at y0 y1
          have hw1 : Below w.heap.size w w1 := bstep hwr hb1
          clear c0 c1 c2 c3 g0 g1 g2 g3 z0 z1
          cases p with
          | false =>
            go_wp2
            exact bodyPost_ret (v := .tuple #[.agg #[.int .i64 0, .int .i64 0], .int .i64 20]) (by simp [results, Try.results28, go_sem, d2, d3]) rfl ⟨rfl, by repeat (first | with_reducible exact hw1 | with_reducible refine bset ?_ ?_ _ | (dsimp only; omega))⟩
          | true =>
            go_wp2
            exact bodyPost_ret (v := .tuple #[.agg #[.int .i64 0, .int .i64 y], .int .i64 0]) (by simp [results, Try.results28, go_sem, d2, d3]) rfl ⟨rfl, by repeat (first | with_reducible exact hw1 | with_reducible refine bset ?_ ?_ _ | (dsimp only; omega))⟩
      · go_wp2_with fail
        refine (StRight_is _ _ _ H _).mono ?_
        rintro e w1 ⟨rfl, hb1⟩
        have s0 : CellF w1 ⟨w.heap.size + 1, 0, none⟩ (.int .i64 x) := CellF.keep hb1 ⟨c0, g0⟩
        have d0 := s0.1
        have f0 := s0.2
        have s1 : CellF w1 ⟨w.heap.size + 1, 1, none⟩ (.int .i64 y) := CellF.keep hb1 ⟨c1, g1⟩
        have d1 := s1.1
        have f1 := s1.2
        have s2 : CellF w1 ⟨w.heap.size, 0, none⟩ (.int .i64 0) := CellF.keep hb1 ⟨c2, g2⟩
        have d2 := s2.1
        have f2 := s2.2
        have s3 : CellF w1 ⟨w.heap.size, 1, none⟩ (.int .i64 0) := CellF.keep hb1 ⟨c3, g3⟩
        have d3 := s3.1
        have f3 := s3.2
        have y1 := ltc d0
        have y0 := ltc d2
        dsimp only at y0 y1
        have hw1 : Below w.heap.size w w1 := bstep hwr hb1
        clear c0 c1 c2 c3 g0 g1 g2 g3 z0 z1
        cases p with
        | false =>
          go_wp2
          exact bodyPost_ret (v := .tuple #[.agg #[.int .i64 0, .int .i64 0], .int .i64 20]) (by simp [results, Try.results28, go_sem, d2, d3]) rfl ⟨rfl, by repeat (first | with_reducible exact hw1 | with_reducible refine bset ?_ ?_ _ | (dsimp only; omega))⟩
        | true =>
          go_wp2
          exact bodyPost_ret (v := .tuple #[.agg #[.int .i64 x, .int .i64 y], .int .i64 0]) (by simp [results, Try.results28, go_sem, d2, d3]) rfl ⟨rfl, by repeat (first | with_reducible exact hw1 | with_reducible refine bset ?_ ?_ _ | (dsimp only; omega))⟩
end Go.Proofs.Ytoijjnhlmndhpaa
