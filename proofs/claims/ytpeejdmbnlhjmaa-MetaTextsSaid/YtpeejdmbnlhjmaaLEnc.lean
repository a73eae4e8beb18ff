import Derived.Test.YtpeejdmbnlhjmaaWMore
import Derived.Test.YtpeejdmbnlhjmaaWLast
import Derived.Test.YtpeejdmbnlhjmaaLEv
import Derived.Test.YtpeejdmbnlhjmaaLNum
namespace Go.Proofs.Ytpeejdmbnlhjmaa.L
open Go.RowKit Go.Proofs.YtpeejdmbnlhjmaaW.PrintWords Go.Proofs.YtpeejdmbnlhjmaaW.PrintLast
set_option linter.unusedVariables false
set_option linter.unusedSimpArgs false
def lead (s : Int) : Int := if s = 1 then 0 else if s = 2 then 192 else if s = 3 then 224 else if s = 4 then 240 else if s = 5 then 248 else if s = 6 then 252 else 254
def encTail : Nat → Int → List Int
  | 0, _ => []
  | j + 1, n => encTail j (n / 64) ++ [128 + n % 64]
theorem encTail_length : ∀ (j : Nat) (n : Int), (encTail j n).length = j
  | 0, _ => rfl
  | j + 1, n => by simp [encTail, encTail_length j]
theorem encTail_rng : ∀ (j : Nat) (n : Int), ∀ x ∈ encTail j n, 128 ≤ x ∧ x ≤ 191
  | 0, _ => by simp [encTail]
  | j + 1, n => by
    intro x hx
    simp only [encTail, List.mem_append, List.mem_singleton] at hx
    rcases hx with hx | hx
    · exact encTail_rng j _ x hx
    · omega
/-- A number's first byte. -/
def encHead (n : Int) : Int := lead (nsize n) + n / 64 ^ ((nsize n).toNat - 1)
/-- A number's bytes. -/
def encBytes (n : Int) : List Int := encHead n :: encTail ((nsize n).toNat - 1) n
theorem encBytes_length (n : Int) : ((encBytes n).length : Int) = nsize n := by
  have := nsize_rng n
  simp only [encBytes, List.length_cons, encTail_length]
  omega
theorem encHead_eq (n : Int) : encHead n = if n < 128 then n else if n < 2048 then 192 + n / 64 else if n < 65536 then 224 + n / 4096 else if n < 2097152 then 240 + n / 262144 else if n < 67108864 then 248 + n / 16777216 else if n < 2147483648 then 252 + n / 1073741824 else 254 + n / 68719476736 := by
  unfold encHead nsize
  split; · simp [lead]
  split; · simp [lead]
  split; · simp [lead]
  split; · simp [lead]
  split; · simp [lead]
  split; · simp [lead]
  simp [lead]
theorem encHead_rng (n : Int) (h0 : 0 ≤ n) (h1 : n ≤ 68719476735) : 0 ≤ encHead n ∧ encHead n ≤ 254 := by
  rw [encHead_eq]
  omega
theorem encBytes_rng (n : Int) (h0 : 0 ≤ n) (h1 : n ≤ 68719476735) : ∀ x ∈ encBytes n, 0 ≤ x ∧ x ≤ 255 := by
  intro x hx
  have := encHead_rng n h0 h1
  simp only [encBytes, List.mem_cons] at hx
  rcases hx with rfl | hx
  · omega
  · have := encTail_rng _ _ x hx
    omega
end Go.Proofs.Ytpeejdmbnlhjmaa.L
