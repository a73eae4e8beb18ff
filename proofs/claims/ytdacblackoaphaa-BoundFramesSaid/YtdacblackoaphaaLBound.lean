import Derived.Test.YtdacblackoaphaaWMore
import Derived.Test.YtdacblackoaphaaWLast
import Derived.Test.YtdacblackoaphaaLEv
import Derived.Test.YtdacblackoaphaaLNum
namespace Go.Proofs.Ytdacblackoaphaa.L
open Go.RowKit Go.Proofs.YtdacblackoaphaaW.PrintWords Go.Proofs.YtdacblackoaphaaW.PrintLast
set_option linter.unusedVariables false
set_option linter.unusedSimpArgs false
def blockList : List Int := [192, 576, 1152, 2304, 4608, 256, 512, 1024, 2048, 4096, 8192, 16384, 32768]
def rateList : List Int := [88200, 176400, 192000, 8000, 16000, 22050, 24000, 32000, 44100, 48000, 96000]
/-- How many bytes a block's code has behind it. -/
def blk (n : Int) : Int := if n ∈ blockList then 0 else if n ≤ 256 then 1 else 2
/-- How many a rate's has. -/
def rte (n : Int) : Int := if n ∈ rateList then 0 else if n % 1000 = 0 ∧ n ≤ 255000 then 1 else if n ≤ 65535 ∨ (n % 10 = 0 ∧ n ≤ 655350) then 2 else 0
theorem blk_rng (n : Int) : 0 ≤ blk n ∧ blk n ≤ 2 := by unfold blk; repeat' split <;> omega
theorem rte_rng (n : Int) : 0 ≤ rte n ∧ rte n ≤ 2 := by unfold rte; repeat' split <;> omega
/-- How many bytes a frame has behind its header. -/
def bdy (b c d : Int) : Int := (c * (8 + d * b) + 7) / 8 + 2
theorem bdy_bits (b c d : Int) (hb : 1 ≤ b ∧ b ≤ 65535) (hc : 1 ≤ c ∧ c ≤ 8) (hd : 4 ≤ d ∧ d ≤ 32) :
    (4 ≤ d * b ∧ d * b ≤ 2097120) ∧ (12 ≤ c * (8 + d * b) ∧ c * (8 + d * b) ≤ 16777024) := by
  have h1 : 4 * 1 ≤ d * b := Int.mul_le_mul (by omega) (by omega) (by omega) (by omega)
  have h2 : d * b ≤ 32 * 65535 := Int.mul_le_mul (by omega) (by omega) (by omega) (by omega)
  have h3 : 1 * (8 + 4) ≤ c * (8 + d * b) := Int.mul_le_mul (by omega) (by omega) (by omega) (by omega)
  have h4 : c * (8 + d * b) ≤ 8 * (8 + 2097120) := Int.mul_le_mul (by omega) (by omega) (by omega) (by omega)
  omega
theorem bdy_rng (b c d : Int) (hb : 1 ≤ b ∧ b ≤ 65535) (hc : 1 ≤ c ∧ c ≤ 8) (hd : 4 ≤ d ∧ d ≤ 32) : 0 ≤ bdy b c d ∧ bdy b c d ≤ 3000000 := by
  have := bdy_bits b c d hb hc hd
  unfold bdy
  omega
end Go.Proofs.Ytdacblackoaphaa.L
