/-
  Plain stamps: what package stamp's functions make.
-/
import Derived.Test.YtoijjnhlmndhpaaMd
namespace Go.Proofs.Ytoijjnhlmndhpaa
open Go.RowKit

theorem iand16 (a : Int) : bits .and .i64 a 65535 = a % 65536 := by
  have h1 : (BitVec.ofInt 64 65535).toNat = 65535 := by decide
  have h2 : (BitVec.ofInt 64 a).toNat = (a % 18446744073709551616).toNat := by
    rw [BitVec.toNat_ofInt]; rfl
  show IntKind.i64.wrap (((BitVec.ofInt 64 a &&& BitVec.ofInt 64 65535).toNat : Nat) : Int) = _
  rw [BitVec.toNat_and, h1, h2, nat_mask16, IntKind.wrap_i64]
  omega

def stRight (s n : Int) : Bool := ((decide (0 ≤ s) && decide (s < 281474976710656)) && decide (0 ≤ n)) && decide (n < 1000000000)
def stDown (n : Int) : Int := n / 65536
def stUp (n : Int) : Int := if n % 65536 = 0 then n / 65536 else n / 65536 + 1
def stLess (s n s2 n2 : Int) : Bool := decide (s < s2) || (decide (s = s2) && decide (n < n2))
/-- Seconds, nanoseconds, whether there is such a stamp. -/
def stOf (n : Int) : Int × Int × Bool := if n < 0 ∨ smallB n = false then (0, 0, false) else (n / 1000000000, n % 1000000000, true)
def stNanos (s n : Int) : Int × Bool := if stRight s n = true ∧ (mulP s 1000000000).2 = true then addP (mulP s 1000000000).1 n else (0, false)
def stScaled (n : Int) : Int × Bool := if n < -140737488355328 ∨ 140737488355328 ≤ n then (0, false) else (n * 65536, true)
end Go.Proofs.Ytoijjnhlmndhpaa
