import Derived.Test.YtdacblackoaphaaWMore
import Derived.Test.YtdacblackoaphaaWLast
import Derived.Test.YtdacblackoaphaaLEv
import Derived.Test.YtdacblackoaphaaLNum
import Derived.Test.YtdacblackoaphaaLEnc
import Derived.Test.YtdacblackoaphaaLBits
namespace Go.Proofs.Ytdacblackoaphaa.L
open Go.RowKit Go.Proofs.YtdacblackoaphaaW.PrintWords Go.Proofs.YtdacblackoaphaaW.PrintLast
set_option linter.unusedVariables false
set_option linter.unusedSimpArgs false
def hBlocks : List Int := [0, 192, 576, 1152, 2304, 4608, 0, 0, 256, 512, 1024, 2048, 4096, 8192, 16384, 32768]
def hRates : List Int := [0, 88200, 176400, 192000, 8000, 16000, 22050, 24000, 32000, 44100, 48000, 96000, 0, 0, 0, 0]
def hDepths : List Int := [0, 8, 12, 0, 16, 20, 24, 32]
/-- A number's place behind the first one; 0: none. -/
def codeAt (n : Int) : List Int → Int → Int
  | [], _ => 0
  | x :: l, i => if x = n then i else codeAt n l (i + 1)
/-- A number's own code; 0: none. -/
def codeOf (n : Int) (l : List Int) : Int := if n > 0 then codeAt n (l.drop 1) 1 else 0
theorem codeAt_rng (n : Int) : ∀ (l : List Int) (i : Int), 0 ≤ i → 0 ≤ codeAt n l i ∧ codeAt n l i ≤ i + l.length
  | [], i, h => by simp [codeAt]; omega
  | x :: l, i, h => by
    unfold codeAt
    have := codeAt_rng n l (i + 1) (by omega)
    simp only [List.length_cons]
    split <;> omega
theorem codeOf_rng (n : Int) (l : List Int) (hl : l.length ≤ 16) (h1 : 1 ≤ l.length) : 0 ≤ codeOf n l ∧ codeOf n l ≤ 16 := by
  unfold codeOf
  have := codeAt_rng n (l.drop 1) 1 (by omega)
  have e : (l.drop 1).length = l.length - 1 := List.length_drop ..
  split <;> omega
theorem codeAt_bound (n : Int) : ∀ (l : List Int) (i : Int), 1 ≤ i → codeAt n l i = 0 ∨ codeAt n l i < i + l.length
  | [], i, h => by simp [codeAt]
  | x :: l, i, h => by
    unfold codeAt
    have := codeAt_bound n l (i + 1) (by omega)
    simp only [List.length_cons]
    split <;> omega
theorem codeOf_lt (n : Int) (l : List Int) (h : 1 ≤ l.length) : 0 ≤ codeOf n l ∧ codeOf n l < l.length := by
  unfold codeOf
  have a := codeAt_bound n (l.drop 1) 1 (by omega)
  have b := codeAt_rng n (l.drop 1) 1 (by omega)
  have e : (l.drop 1).length = l.length - 1 := List.length_drop ..
  split <;> omega
/-- What is wrong with a header. -/
def headCheck (b r m d n : Int) (v : Bool) : Int :=
  if b < 1 ∨ b > 65535 then 15 else if r < 0 ∨ r > 1048575 then 11 else if m < 0 ∨ m > 10 then 12 else if d ≠ 0 ∧ (d < 4 ∨ d > 32) then 10
  else if n < 0 ∨ n > 68719476735 ∨ (v = false ∧ n > 2147483647) then 6 else 0
def blockCode (b : Int) : Int := if codeOf b hBlocks ≠ 0 then codeOf b hBlocks else if b ≤ 256 then 6 else 7
def blockMore (b : Int) : List Int := if codeOf b hBlocks ≠ 0 then [] else if b ≤ 256 then [b - 1] else [(b - 1) / 256, (b - 1) % 256]
def rateCode (r : Int) : Int := if codeOf r hRates ≠ 0 ∨ r ≤ 0 then codeOf r hRates else if r % 1000 = 0 ∧ r ≤ 255000 then 12 else if r ≤ 65535 then 13 else if r % 10 = 0 ∧ r ≤ 655350 then 14 else 0
def rateMore (r : Int) : List Int := if codeOf r hRates ≠ 0 ∨ r ≤ 0 then [] else if r % 1000 = 0 ∧ r ≤ 255000 then [r / 1000] else if r ≤ 65535 then [r / 256, r % 256] else if r % 10 = 0 ∧ r ≤ 655350 then [r / 10 / 256, r / 10 % 256] else []
/-- A header's bytes, but for the check. -/
def headBody (b r m d n : Int) (v : Bool) : List Int :=
  [255, if v then 249 else 248, 16 * blockCode b + rateCode r, 16 * m + 2 * codeOf d hDepths] ++ encBytes n ++ (blockMore b ++ rateMore r)
/-- A header's bytes. -/
def headBytes (b r m d n : Int) (v : Bool) : List Int := headBody b r m d n v ++ [crc8 (headBody b r m d n v)]
theorem blockCode_rng (b : Int) : 0 ≤ blockCode b ∧ blockCode b ≤ 15 := by
  have := codeOf_lt b hBlocks (by decide)
  have e : (hBlocks.length : Int) = 16 := rfl
  unfold blockCode
  repeat' split <;> omega
theorem rateCode_rng (b : Int) : 0 ≤ rateCode b ∧ rateCode b ≤ 15 := by
  have := codeOf_lt b hRates (by decide)
  have e : (hRates.length : Int) = 16 := rfl
  unfold rateCode
  repeat' split <;> omega
theorem depthCode_rng (b : Int) : 0 ≤ codeOf b hDepths ∧ codeOf b hDepths ≤ 7 := by
  have := codeOf_lt b hDepths (by decide)
  have e : (hDepths.length : Int) = 8 := rfl
  omega
theorem headBody_rng (b r m d n : Int) (v : Bool) (hb : 1 ≤ b ∧ b ≤ 65535) (hr : 0 ≤ r ∧ r ≤ 1048575) (hm : 0 ≤ m ∧ m ≤ 10) (hn : 0 ≤ n ∧ n ≤ 68719476735) :
    ∀ x ∈ headBody b r m d n v, 0 ≤ x ∧ x ≤ 255 := by
  have h1 := blockCode_rng b
  have h2 := rateCode_rng r
  have h3 := depthCode_rng d
  intro x hx
  simp only [headBody, List.mem_append, List.mem_cons, List.not_mem_nil, or_false] at hx
  rcases hx with ((rfl | rfl | rfl | rfl) | hx) | hx | hx
  · omega
  · split <;> omega
  · omega
  · omega
  · exact encBytes_rng n hn.1 hn.2 x hx
  · unfold blockMore at hx
    split at hx
    · simp at hx
    · split at hx <;> simp at hx <;> omega
  · unfold rateMore at hx
    split at hx
    · simp at hx
    · split at hx
      · simp at hx; omega
      · split at hx
        · simp at hx; omega
        · split at hx
          · simp at hx; omega
          · simp at hx
theorem more_len (b r : Int) : (blockMore b).length ≤ 2 ∧ (rateMore r).length ≤ 2 := by
  unfold blockMore rateMore
  constructor
  · repeat' split
    all_goals simp
  · repeat' split
    all_goals simp
theorem headBody_len (b r m d n : Int) (v : Bool) : ((headBody b r m d n v).length : Int) = 4 + nsize n + (blockMore b).length + (rateMore r).length := by
  have := encBytes_length n
  simp only [headBody, List.length_append, List.length_cons, List.length_nil]
  omega
end Go.Proofs.Ytdacblackoaphaa.L
