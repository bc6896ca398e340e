/-
  The walk of wide.Floor.
-/
import Derived.Test.YtklnlhphgiipjaaWb
import Derived.Test.YtklnlhphgiipjaaMb
namespace Go.Proofs.Ytklnlhphgiipjaa
open Go.RowKit

theorem quo_nonneg {a b c A B q : Int} (h : okB a b c = true) (hc : 1 ≤ c) (hA : absP a = A) (hB : absP b = B) (hq : A * B / c = q) : 0 ≤ q := by
  obtain ⟨ha, hbc⟩ := Bool.and_eq_true_iff.1 h
  have h1 := absP_bd ha
  have h2 := absP_bd (Bool.and_eq_true_iff.1 hbc).1
  rw [hA] at h1
  rw [hB] at h2
  rw [← hq]; exact Int.ediv_nonneg (Int.mul_nonneg h1.1 h2.1) (by omega)

end Go.Proofs.Ytklnlhphgiipjaa
