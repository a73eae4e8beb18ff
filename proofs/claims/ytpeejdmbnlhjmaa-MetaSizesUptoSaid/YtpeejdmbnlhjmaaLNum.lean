import Derived.Test.YtpeejdmbnlhjmaaWMore
import Derived.Test.YtpeejdmbnlhjmaaWLast
import Derived.Test.YtpeejdmbnlhjmaaLEv
namespace Go.Proofs.Ytpeejdmbnlhjmaa.L
open Go.RowKit Go.Proofs.YtpeejdmbnlhjmaaW.PrintWords Go.Proofs.YtpeejdmbnlhjmaaW.PrintLast
set_option linter.unusedVariables false
set_option linter.unusedSimpArgs false
/-- How many bytes a number has (0 to 2^36 - 1). -/
def nsize (n : Int) : Int := if n < 128 then 1 else if n < 2048 then 2 else if n < 65536 then 3 else if n < 2097152 then 4 else if n < 67108864 then 5 else if n < 2147483648 then 6 else 7
theorem nsize_rng (n : Int) : 1 ≤ nsize n ∧ nsize n ≤ 7 := by unfold nsize; omega
/-- How many bytes the numbers below m have together. -/
def numsum (m : Int) : Int := 7 * m - (min m 128 + min m 2048 + min m 65536 + min m 2097152 + min m 67108864 + min m 2147483648)
theorem numsum_succ (n : Int) : numsum (n + 1) = numsum n + nsize n := by unfold numsum nsize; omega
theorem numsum_zero : numsum 0 = 0 := by unfold numsum; omega
theorem numsum_le (n : Int) (h0 : 0 ≤ n) (h : n ≤ 2147483648) : n ≤ numsum n ∧ numsum n ≤ 6 * n := by unfold numsum; omega
end Go.Proofs.Ytpeejdmbnlhjmaa.L
