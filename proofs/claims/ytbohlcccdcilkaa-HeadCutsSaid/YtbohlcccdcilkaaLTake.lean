import Derived.Test.YtbohlcccdcilkaaWMore
import Derived.Test.YtbohlcccdcilkaaWLast
import Derived.Test.YtbohlcccdcilkaaLEv
import Derived.Test.YtbohlcccdcilkaaLNum
import Derived.Test.YtbohlcccdcilkaaLEnc
import Derived.Test.YtbohlcccdcilkaaLBits
import Derived.Test.YtbohlcccdcilkaaLDec2
import Derived.Test.YtbohlcccdcilkaaLHead
namespace Go.Proofs.Ytbohlcccdcilkaa.L
open Go.RowKit Go.Proofs.YtbohlcccdcilkaaW.PrintWords Go.Proofs.YtbohlcccdcilkaaW.PrintLast
set_option linter.unusedVariables false
set_option linter.unusedSimpArgs false
abbrev Hd8 := Int × Int × Int × Int × Int × Bool × Int × Int
def tZ (e : Int) : Hd8 := (0, 0, 0, 0, 0, false, 0, e)
/-- How many bytes a block's code, a rate's code have behind them; what a rate's number is times. -/
def xC (b : Int) : Int := if b = 6 then 1 else if b = 7 then 2 else 0
def yC (r : Int) : Int := if r = 12 then 1 else if r = 13 then 2 else if r = 14 then 2 else 0
def sC (r : Int) : Int := if r = 12 then 1000 else if r = 14 then 10 else 1
def whole2 : List Int → Int
  | [] => 0
  | [a] => a
  | a :: b :: _ => 256 * a + b
def tBlock (l : List Int) (bc p : Int) : Int := if 0 < xC bc then whole2 ((l.drop p.toNat).take (xC bc).toNat) + 1 else rd hBlocks bc
def tRate (l : List Int) (rc p : Int) : Int := if 0 < yC rc then whole2 ((l.drop p.toNat).take (yC rc).toNat) * sC rc else rd hRates rc
def tEnd (l : List Int) (b1 bc rc m dc n z : Int) : Hd8 :=
  if 2147483648 ≤ n ∧ b1 = 248 then tZ 5 else if (l.length : Int) ≤ 4 + z + xC bc + yC rc then tZ 2 else if tBlock l bc (4 + z) > 65535 then tZ 5
  else if crc8 (l.take (4 + z + xC bc + yC rc).toNat) ≠ rd l (4 + z + xC bc + yC rc) then tZ 4
  else (tBlock l bc (4 + z), tRate l rc (4 + z + xC bc), m, rd hDepths dc, n, decide (b1 = 249), 4 + z + xC bc + yC rc + 1, 0)
/-- The header that bytes begin with, how many bytes it has; what is wrong. -/
def takeP (l : List Int) : Hd8 :=
  if l.length < 4 then tZ 2 else if rd l 0 = 255 ∧ (rd l 1 = 248 ∨ rd l 1 = 249) then
    if rd l 2 / 16 = 0 ∨ rd l 2 % 16 = 15 ∨ rd l 3 / 16 ≥ 11 ∨ rd l 3 / 2 % 8 = 3 ∨ rd l 3 % 2 = 1 then tZ 5
    else if (dec (l.drop 4)).2.2 = 0 then tEnd l (rd l 1) (rd l 2 / 16) (rd l 2 % 16) (rd l 3 / 16) (rd l 3 / 2 % 8) (dec (l.drop 4)).1 (dec (l.drop 4)).2.1
    else tZ (dec (l.drop 4)).2.2
  else tZ 9
theorem xC_rng (b : Int) : 0 ≤ xC b ∧ xC b ≤ 2 := by unfold xC; omega
theorem yC_rng (b : Int) : 0 ≤ yC b ∧ yC b ≤ 2 := by unfold yC; omega
theorem dec_rng (l : List Int) (hr : ∀ x ∈ l, 0 ≤ x ∧ x ≤ 255) (h : (dec l).2.2 = 0) : (0 ≤ (dec l).1 ∧ (dec l).1 ≤ 68719476735) ∧ 1 ≤ (dec l).2.1 ∧ (dec l).2.1 ≤ 7 ∧ (dec l).2.1 = nsize (dec l).1 ∧ l.take (dec l).2.1.toNat = encBytes (dec l).1 ∧ (dec l).2.1 ≤ l.length := by
  have hb := dec_back l hr (dec l).1 (dec l).2.1 (by rw [← h])
  have hz := nsize_rng (dec l).1
  have e := encBytes_length (dec l).1
  rw [← hb.2.2.2, List.length_take] at e
  exact ⟨hb.2.2.1, by omega, by omega, by omega, hb.2.2.2, hb.2.1⟩
theorem codeAt_back (n : Int) : ∀ (l : List Int) (i : Int), 0 ≤ i → codeAt n l i ≠ 0 → i ≤ codeAt n l i ∧ rd l (codeAt n l i - i) = n
  | [], i, h, hc => (hc rfl).elim
  | x :: l, i, h, hc => by
    unfold codeAt at hc ⊢
    by_cases e : x = n
    · rw [if_pos e]
      refine ⟨Int.le_refl _, ?_⟩
      rw [Int.sub_self, e]
      rfl
    · rw [if_neg e] at hc ⊢
      have ih := codeAt_back n l (i + 1) (by omega) hc
      refine ⟨by omega, ?_⟩
      refine Eq.trans ?_ ih.2
      unfold rd
      rw [show (codeAt n l (i + 1) - i).toNat = (codeAt n l (i + 1) - (i + 1)).toNat + 1 by omega, List.getD_cons_succ]
theorem codeOf_back (n : Int) (l : List Int) (h : codeOf n (0 :: l) ≠ 0) : 0 < n ∧ rd (0 :: l) (codeOf n (0 :: l)) = n := by
  unfold codeOf at h ⊢
  by_cases c : n > 0
  · rw [if_pos c] at h ⊢
    have ih := codeAt_back n l 1 (by omega) h
    refine ⟨c, ?_⟩
    refine Eq.trans ?_ ih.2
    have hi : 1 ≤ codeAt n l 1 := ih.1
    unfold rd
    show (0 :: l).getD (codeAt n l 1).toNat 0 = _
    rw [show (codeAt n l 1).toNat = (codeAt n l 1 - 1).toNat + 1 by omega, List.getD_cons_succ]
  · rw [if_neg c] at h
    exact (h rfl).elim
def rTold (r : Int) : Int := if rateCode r = 0 then 0 else r
def dTold (d : Int) : Int := if codeOf d hDepths = 0 then 0 else d
theorem codeB (b : Int) (h : codeOf b hBlocks ≠ 0) : 0 < b ∧ rd hBlocks (codeOf b hBlocks) = b := codeOf_back b _ h
theorem codeR (b : Int) (h : codeOf b hRates ≠ 0) : 0 < b ∧ rd hRates (codeOf b hRates) = b := codeOf_back b _ h
theorem codeD (b : Int) (h : codeOf b hDepths ≠ 0) : 0 < b ∧ rd hDepths (codeOf b hDepths) = b := codeOf_back b _ h
theorem codeB_ne (b : Int) (h : codeOf b hBlocks ≠ 0) : codeOf b hBlocks ≠ 6 ∧ codeOf b hBlocks ≠ 7 := by
  obtain ⟨h1, h2⟩ := codeB b h
  constructor
  · intro e; rw [e, show rd hBlocks 6 = 0 by decide] at h2; omega
  · intro e; rw [e, show rd hBlocks 7 = 0 by decide] at h2; omega
theorem codeR_ne (b : Int) (h : codeOf b hRates ≠ 0) : codeOf b hRates ≠ 12 ∧ codeOf b hRates ≠ 13 ∧ codeOf b hRates ≠ 14 ∧ codeOf b hRates ≠ 15 := by
  obtain ⟨h1, h2⟩ := codeR b h
  refine ⟨?_, ?_, ?_, ?_⟩
  · intro e; rw [e, show rd hRates 12 = 0 by decide] at h2; omega
  · intro e; rw [e, show rd hRates 13 = 0 by decide] at h2; omega
  · intro e; rw [e, show rd hRates 14 = 0 by decide] at h2; omega
  · intro e; rw [e, show rd hRates 15 = 0 by decide] at h2; omega
theorem codeD_ne (b : Int) (h : codeOf b hDepths ≠ 0) : codeOf b hDepths ≠ 3 := by
  obtain ⟨h1, h2⟩ := codeD b h
  intro e; rw [e, show rd hDepths 3 = 0 by decide] at h2; omega
/-- A block's code: not 0, its bytes behind, and what they tell. -/
theorem block_back (b : Int) (hb : 1 ≤ b ∧ b ≤ 65535) : blockCode b ≠ 0 ∧ xC (blockCode b) = ((blockMore b).length : Int) ∧ (if 0 < xC (blockCode b) then whole2 (blockMore b) + 1 else rd hBlocks (blockCode b)) = b := by
  unfold blockCode blockMore
  by_cases c : codeOf b hBlocks ≠ 0
  · have hn := codeB_ne b c
    have hx : xC (codeOf b hBlocks) = 0 := by unfold xC; omega
    rw [if_pos c, if_pos c, hx, if_neg (by omega)]
    exact ⟨c, rfl, (codeB b c).2⟩
  · rw [if_neg c, if_neg c]
    by_cases c1 : b ≤ 256
    · rw [if_pos c1, if_pos c1]
      refine ⟨by decide, rfl, ?_⟩
      rw [if_pos (by decide)]
      show b - 1 + 1 = b
      omega
    · rw [if_neg c1, if_neg c1]
      refine ⟨by decide, rfl, ?_⟩
      rw [if_pos (by decide)]
      show 256 * ((b - 1) / 256) + (b - 1) % 256 + 1 = b
      omega
theorem rate_back (r : Int) (hr : 0 ≤ r ∧ r ≤ 1048575) : rateCode r ≠ 15 ∧ yC (rateCode r) = ((rateMore r).length : Int) ∧ (if 0 < yC (rateCode r) then whole2 (rateMore r) * sC (rateCode r) else rd hRates (rateCode r)) = rTold r := by
  unfold rTold rateCode rateMore
  by_cases c : codeOf r hRates ≠ 0 ∨ r ≤ 0
  · rw [if_pos c, if_pos c]
    by_cases c1 : codeOf r hRates ≠ 0
    · have hn := codeR_ne r c1
      have hx : yC (codeOf r hRates) = 0 := by unfold yC; omega
      rw [hx, if_neg (by omega), if_neg c1]
      exact ⟨hn.2.2.2, rfl, (codeR r c1).2⟩
    · have e : codeOf r hRates = 0 := by omega
      rw [e]
      exact ⟨by decide, rfl, rfl⟩
  · rw [if_neg c, if_neg c]
    by_cases c1 : r % 1000 = 0 ∧ r ≤ 255000
    · rw [if_pos c1, if_pos c1]
      refine ⟨by decide, rfl, ?_⟩
      rw [if_pos (by decide), if_neg (by decide)]
      show r / 1000 * 1000 = r
      omega
    rw [if_neg c1, if_neg c1]
    by_cases c2 : r ≤ 65535
    · rw [if_pos c2, if_pos c2]
      refine ⟨by decide, rfl, ?_⟩
      rw [if_pos (by decide), if_neg (by decide)]
      show (256 * (r / 256) + r % 256) * 1 = r
      omega
    rw [if_neg c2, if_neg c2]
    by_cases c3 : r % 10 = 0 ∧ r ≤ 655350
    · rw [if_pos c3, if_pos c3]
      refine ⟨by decide, rfl, ?_⟩
      rw [if_pos (by decide), if_neg (by decide)]
      show (256 * (r / 10 / 256) + r / 10 % 256) * 10 = r
      omega
    · rw [if_neg c3, if_neg c3]
      exact ⟨by decide, rfl, rfl⟩
theorem depth_back (d : Int) : codeOf d hDepths ≠ 3 ∧ rd hDepths (codeOf d hDepths) = dTold d := by
  unfold dTold
  by_cases c : codeOf d hDepths = 0
  · rw [if_pos c, c]
    exact ⟨by decide, rfl⟩
  · rw [if_neg c]
    exact ⟨codeD_ne d c, (codeD d c).2⟩
theorem headZero {b r m d n : Int} {v : Bool} (h : headCheck b r m d n v = 0) : (1 ≤ b ∧ b ≤ 65535) ∧ (0 ≤ r ∧ r ≤ 1048575) ∧ (0 ≤ m ∧ m ≤ 10) ∧ (d = 0 ∨ 4 ≤ d ∧ d ≤ 32) ∧ (0 ≤ n ∧ n ≤ 68719476735) ∧ (v = false → n ≤ 2147483647) := by
  unfold headCheck at h
  repeat' split at h
  all_goals first | (exfalso; omega) | skip
  rename_i h1 h2 h3 h4 h5
  refine ⟨by omega, by omega, by omega, by omega, by omega, fun hv => ?_⟩
  by_cases c : n ≤ 2147483647
  · exact c
  · exact (h5 (.inr (.inr ⟨hv, by omega⟩))).elim
theorem headZero' {b r m d n : Int} {v : Bool} (hb : 1 ≤ b ∧ b ≤ 65535) (hr : 0 ≤ r ∧ r ≤ 1048575) (hm : 0 ≤ m ∧ m ≤ 10) (hd : d = 0 ∨ 4 ≤ d ∧ d ≤ 32) (hn : 0 ≤ n ∧ n ≤ 68719476735) (hv : v = false → n ≤ 2147483647) : headCheck b r m d n v = 0 := by
  unfold headCheck
  rw [if_neg (by omega), if_neg (by omega), if_neg (by omega), if_neg (by omega), if_neg]
  rintro (h | h | ⟨h1, h2⟩)
  · omega
  · omega
  · have := hv h1; omega
/-- WHAT IS PUT IS TAKEN. -/
theorem takeP_head (b r m d n : Int) (v : Bool) (more : List Int) (h : headCheck b r m d n v = 0) : takeP (headBytes b r m d n v ++ more) = (b, rTold r, m, dTold d, n, v, ((headBytes b r m d n v).length : Int), 0) := by
  obtain ⟨hb, hr, hm, hd, hn, hv⟩ := headZero h
  obtain ⟨b1, b2, b3⟩ := block_back b hb
  obtain ⟨r1, r2, r3⟩ := rate_back r hr
  obtain ⟨d1, d2⟩ := depth_back d
  have k1 := blockCode_rng b
  have k2 := rateCode_rng r
  have k3 := depthCode_rng d
  have hz := nsize_rng n
  have he := encBytes_length n
  have hl : headBytes b r m d n v ++ more = 255 :: (if v then 249 else 248) :: (16 * blockCode b + rateCode r) :: (16 * m + 2 * codeOf d hDepths) :: (encBytes n ++ (blockMore b ++ (rateMore r ++ (crc8 (headBody b r m d n v) :: more)))) := by
    unfold headBytes headBody
    simp
  have hbl : (headBytes b r m d n v).length = 5 + (encBytes n).length + (blockMore b).length + (rateMore r).length := by
    unfold headBytes headBody
    simp
    omega
  have hE : headBytes b r m d n v ++ more = headBody b r m d n v ++ (crc8 (headBody b r m d n v) :: more) := by
    unfold headBytes
    simp
  have hbo : (headBody b r m d n v).length = 4 + (encBytes n).length + (blockMore b).length + (rateMore r).length := by
    unfold headBody
    simp
    omega
  unfold takeP
  rw [if_neg (by rw [List.length_append]; omega)]
  have q0 : rd (headBytes b r m d n v ++ more) 0 = 255 := by rw [hl]; rfl
  have q1 : rd (headBytes b r m d n v ++ more) 1 = if v then 249 else 248 := by rw [hl]; rfl
  have q2 : rd (headBytes b r m d n v ++ more) 2 = 16 * blockCode b + rateCode r := by rw [hl]; rfl
  have q3 : rd (headBytes b r m d n v ++ more) 3 = 16 * m + 2 * codeOf d hDepths := by rw [hl]; rfl
  have q4 : (headBytes b r m d n v ++ more).drop 4 = encBytes n ++ (blockMore b ++ (rateMore r ++ (crc8 (headBody b r m d n v) :: more))) := by rw [hl]; rfl
  rw [q0, q1, q2, q3, q4, if_pos ⟨rfl, by cases v <;> simp⟩, dec_enc n hn.1 hn.2]
  rw [show (16 * blockCode b + rateCode r) / 16 = blockCode b by omega, show (16 * blockCode b + rateCode r) % 16 = rateCode r by omega, show (16 * m + 2 * codeOf d hDepths) / 16 = m by omega,
    show (16 * m + 2 * codeOf d hDepths) / 2 % 8 = codeOf d hDepths by omega]
  rw [if_neg (by omega), if_pos rfl]
  dsimp only
  unfold tEnd
  rw [if_neg (by rintro ⟨h1, h2⟩; cases v; exact absurd (hv rfl) (by omega); simp at h2)]
  rw [if_neg (by rw [List.length_append]; omega)]
  have s1 : (headBytes b r m d n v ++ more).drop (4 + nsize n).toNat = blockMore b ++ (rateMore r ++ (crc8 (headBody b r m d n v) :: more)) := by
    rw [show (4 + nsize n).toNat = 4 + (encBytes n).length by omega, ← List.drop_drop, q4, List.drop_left]
  have s2 : (headBytes b r m d n v ++ more).drop (4 + nsize n + xC (blockCode b)).toNat = rateMore r ++ (crc8 (headBody b r m d n v) :: more) := by
    rw [show (4 + nsize n + xC (blockCode b)).toNat = (4 + nsize n).toNat + (blockMore b).length by omega, ← List.drop_drop, s1, List.drop_left]
  have tb : tBlock (headBytes b r m d n v ++ more) (blockCode b) (4 + nsize n) = b := by
    unfold tBlock
    rw [s1, show (xC (blockCode b)).toNat = (blockMore b).length by omega, List.take_left]
    exact b3
  have tr : tRate (headBytes b r m d n v ++ more) (rateCode r) (4 + nsize n + xC (blockCode b)) = rTold r := by
    unfold tRate
    rw [s2, show (yC (rateCode r)).toNat = (rateMore r).length by omega, List.take_left]
    exact r3
  rw [tb, tr, if_neg (by omega)]
  have e1 : (4 + nsize n + xC (blockCode b) + yC (rateCode r)).toNat = (headBody b r m d n v).length := by omega
  rw [if_neg, d2]
  · have ev : decide ((if v = true then (249 : Int) else 248) = 249) = v := by cases v <;> simp
    rw [ev, show 4 + nsize n + xC (blockCode b) + yC (rateCode r) + 1 = ((headBytes b r m d n v).length : Int) by omega]
  · rw [e1, hE, List.take_left, show 4 + nsize n + xC (blockCode b) + yC (rateCode r) = ((headBody b r m d n v).length : Int) by omega]
    intro hne
    refine hne ?_
    rw [rd_nat _ _ (by simp)]
    simp
theorem take1 (l : List Int) (p n : Nat) (hn : n = 1) (h : p + 1 ≤ l.length) (hr : ∀ x ∈ l, 0 ≤ x ∧ x ≤ 255) : 0 ≤ whole2 ((l.drop p).take n) ∧ whole2 ((l.drop p).take n) ≤ 255 := by
  subst hn
  rw [List.drop_eq_getElem_cons (by omega), List.take_succ_cons, List.take_zero]
  exact hr _ (List.getElem_mem (by omega))
theorem take2 (l : List Int) (p n : Nat) (hn : n = 2) (h : p + 2 ≤ l.length) (hr : ∀ x ∈ l, 0 ≤ x ∧ x ≤ 255) : 0 ≤ whole2 ((l.drop p).take n) ∧ whole2 ((l.drop p).take n) ≤ 65535 := by
  subst hn
  rw [List.drop_eq_getElem_cons (by omega), List.take_succ_cons, List.drop_eq_getElem_cons (by omega), List.take_succ_cons, List.take_zero]
  have h1 := hr _ (List.getElem_mem (l := l) (n := p) (by omega))
  have h2 := hr _ (List.getElem_mem (l := l) (n := p + 1) (by omega))
  show 0 ≤ 256 * l[p] + l[p + 1] ∧ 256 * l[p] + l[p + 1] ≤ 65535
  omega
theorem blocks_all : ∀ c : Fin 16, (c.val : Int) ≠ 0 → (c.val : Int) ≠ 6 → (c.val : Int) ≠ 7 → (1 ≤ rd hBlocks c.val ∧ rd hBlocks c.val ≤ 32768) ∧ codeOf (rd hBlocks c.val) hBlocks ≠ 0 := by decide
theorem blocks_at (c : Int) (h : 0 ≤ c ∧ c ≤ 15) (h0 : c ≠ 0) (h6 : c ≠ 6) (h7 : c ≠ 7) : (1 ≤ rd hBlocks c ∧ rd hBlocks c ≤ 32768) ∧ codeOf (rd hBlocks c) hBlocks ≠ 0 := by
  have := blocks_all ⟨c.toNat, by omega⟩
  simp only [Int.toNat_of_nonneg h.1] at this
  exact this h0 h6 h7
theorem rates_all : ∀ c : Fin 12, (0 ≤ rd hRates c.val ∧ rd hRates c.val ≤ 192000) ∧ (codeOf (rd hRates c.val) hRates ≠ 0 ∨ rd hRates c.val = 0) := by decide
theorem rates_at (c : Int) (h : 0 ≤ c ∧ c ≤ 11) : (0 ≤ rd hRates c ∧ rd hRates c ≤ 192000) ∧ (codeOf (rd hRates c) hRates ≠ 0 ∨ rd hRates c = 0) := by
  have := rates_all ⟨c.toNat, by omega⟩
  simp only [Int.toNat_of_nonneg h.1] at this
  exact this
theorem depths_all : ∀ c : Fin 8, (c.val : Int) ≠ 3 → (rd hDepths c.val = 0 ∨ 4 ≤ rd hDepths c.val ∧ rd hDepths c.val ≤ 32) ∧ dTold (rd hDepths c.val) = rd hDepths c.val := by decide
theorem depths_at (c : Int) (h : 0 ≤ c ∧ c ≤ 7) (h3 : c ≠ 3) : (rd hDepths c = 0 ∨ 4 ≤ rd hDepths c ∧ rd hDepths c ≤ 32) ∧ dTold (rd hDepths c) = rd hDepths c := by
  have := depths_all ⟨c.toNat, by omega⟩
  simp only [Int.toNat_of_nonneg h.1] at this
  exact this h3
theorem block_more (b : Int) : ((blockMore b).length : Int) ≤ (if codeOf b hBlocks ≠ 0 then 0 else if b ≤ 256 then 1 else 2) := by
  unfold blockMore
  split
  · exact Int.le_refl _
  split <;> exact Int.le_refl _
/-- What a whole header tells of its block: it can be, and has no more bytes behind its code. -/
theorem tBlock_rng (l : List Int) (hr : ∀ x ∈ l, 0 ≤ x ∧ x ≤ 255) (bc p : Int) (hb : 1 ≤ bc ∧ bc ≤ 15) (hp : 0 ≤ p) (hl : p + xC bc ≤ l.length) : 1 ≤ tBlock l bc p ∧ ((blockMore (tBlock l bc p)).length : Int) ≤ xC bc := by
  have hm := block_more (tBlock l bc p)
  unfold tBlock at hm ⊢
  by_cases c6 : bc = 6
  · rw [c6] at hl hm ⊢
    have ht := take1 l p.toNat (xC 6).toNat (by decide) (by have : xC 6 = 1 := rfl; omega) hr
    rw [if_pos (show (0 : Int) < xC 6 by decide)] at hm ⊢
    refine ⟨by omega, ?_⟩
    have e : xC 6 = 1 := rfl
    refine Int.le_trans hm ?_
    split
    · omega
    · rw [if_pos (by omega)]; omega
  by_cases c7 : bc = 7
  · rw [c7] at hl hm ⊢
    have ht := take2 l p.toNat (xC 7).toNat (by decide) (by have : xC 7 = 2 := rfl; omega) hr
    rw [if_pos (show (0 : Int) < xC 7 by decide)] at hm ⊢
    refine ⟨by omega, ?_⟩
    have e : xC 7 = 2 := rfl
    refine Int.le_trans hm ?_
    split
    · omega
    · split <;> omega
  have e : xC bc = 0 := by unfold xC; omega
  rw [e, if_neg (by omega)] at hm ⊢
  obtain ⟨h1, h2⟩ := blocks_at bc (by omega) (by omega) c6 c7
  rw [if_pos h2] at hm
  exact ⟨h1.1, hm⟩
theorem tRate_rng (l : List Int) (hr : ∀ x ∈ l, 0 ≤ x ∧ x ≤ 255) (rc p : Int) (hb : 0 ≤ rc ∧ rc ≤ 14) (hp : 0 ≤ p) (hl : p + yC rc ≤ l.length) : (0 ≤ tRate l rc p ∧ tRate l rc p ≤ 1048575) ∧ rTold (tRate l rc p) = tRate l rc p ∧ ((rateMore (tRate l rc p)).length : Int) ≤ yC rc := by
  unfold tRate
  by_cases c12 : rc = 12
  · rw [c12] at hl ⊢
    have ht := take1 l p.toNat (yC 12).toNat (by decide) (by have : yC 12 = 1 := rfl; omega) hr
    rw [if_pos (show (0 : Int) < yC 12 by decide)]
    generalize whole2 ((l.drop p.toNat).take (yC 12).toNat) = v at *
    have e : yC 12 = 1 := rfl
    have e2 : sC 12 = 1000 := rfl
    rw [e, e2]
    refine ⟨by omega, ?_⟩
    unfold rTold rateCode rateMore
    by_cases c : codeOf (v * 1000) hRates ≠ 0 ∨ v * 1000 ≤ 0
    · rw [if_pos c, if_pos c]
      refine ⟨?_, by simp⟩
      by_cases c0 : codeOf (v * 1000) hRates = 0
      · rw [if_pos c0]; omega
      · rw [if_neg c0]
    · have c1 : v * 1000 % 1000 = 0 ∧ v * 1000 ≤ 255000 := by omega
      rw [if_neg c, if_neg c, if_pos c1, if_pos c1, if_neg (by decide)]
      exact ⟨rfl, by simp⟩
  by_cases c13 : rc = 13
  · rw [c13] at hl ⊢
    have ht := take2 l p.toNat (yC 13).toNat (by decide) (by have : yC 13 = 2 := rfl; omega) hr
    rw [if_pos (show (0 : Int) < yC 13 by decide)]
    generalize whole2 ((l.drop p.toNat).take (yC 13).toNat) = v at *
    have e : yC 13 = 2 := rfl
    have e2 : sC 13 = 1 := rfl
    rw [e, e2, Int.mul_one]
    refine ⟨by omega, ?_⟩
    unfold rTold rateCode rateMore
    by_cases c : codeOf v hRates ≠ 0 ∨ v ≤ 0
    · rw [if_pos c, if_pos c]
      refine ⟨?_, by simp⟩
      by_cases c0 : codeOf v hRates = 0
      · rw [if_pos c0]; omega
      · rw [if_neg c0]
    · rw [if_neg c, if_neg c]
      by_cases c1 : v % 1000 = 0 ∧ v ≤ 255000
      · rw [if_pos c1, if_pos c1, if_neg (by decide)]
        exact ⟨rfl, by simp⟩
      · have c2 : v ≤ 65535 := by omega
        rw [if_neg c1, if_neg c1, if_pos c2, if_pos c2, if_neg (by decide)]
        exact ⟨rfl, by simp⟩
  by_cases c14 : rc = 14
  · rw [c14] at hl ⊢
    have ht := take2 l p.toNat (yC 14).toNat (by decide) (by have : yC 14 = 2 := rfl; omega) hr
    rw [if_pos (show (0 : Int) < yC 14 by decide)]
    generalize whole2 ((l.drop p.toNat).take (yC 14).toNat) = v at *
    have e : yC 14 = 2 := rfl
    have e2 : sC 14 = 10 := rfl
    rw [e, e2]
    refine ⟨by omega, ?_⟩
    unfold rTold rateCode rateMore
    by_cases c : codeOf (v * 10) hRates ≠ 0 ∨ v * 10 ≤ 0
    · rw [if_pos c, if_pos c]
      refine ⟨?_, by simp⟩
      by_cases c0 : codeOf (v * 10) hRates = 0
      · rw [if_pos c0]; omega
      · rw [if_neg c0]
    · rw [if_neg c, if_neg c]
      by_cases c1 : v * 10 % 1000 = 0 ∧ v * 10 ≤ 255000
      · rw [if_pos c1, if_pos c1, if_neg (by decide)]
        exact ⟨rfl, by simp⟩
      rw [if_neg c1, if_neg c1]
      by_cases c2 : v * 10 ≤ 65535
      · rw [if_pos c2, if_pos c2, if_neg (by decide)]
        exact ⟨rfl, by simp⟩
      · have c3 : v * 10 % 10 = 0 ∧ v * 10 ≤ 655350 := by omega
        rw [if_neg c2, if_neg c2, if_pos c3, if_pos c3, if_neg (by decide)]
        exact ⟨rfl, by simp⟩
  have e : yC rc = 0 := by unfold yC; omega
  rw [e, if_neg (by omega)]
  obtain ⟨h1, h2⟩ := rates_at rc (by omega)
  refine ⟨by omega, ?_⟩
  unfold rTold rateCode rateMore
  rw [if_pos (show codeOf (rd hRates rc) hRates ≠ 0 ∨ rd hRates rc ≤ 0 by omega), if_pos (show codeOf (rd hRates rc) hRates ≠ 0 ∨ rd hRates rc ≤ 0 by omega)]
  refine ⟨?_, by simp⟩
  by_cases c0 : codeOf (rd hRates rc) hRates = 0
  · rw [if_pos c0]; omega
  · rw [if_neg c0]
theorem rd_rng (l : List Int) (hr : ∀ x ∈ l, 0 ≤ x ∧ x ≤ 255) (i : Nat) (h : i < l.length) : 0 ≤ rd l (i : Int) ∧ rd l (i : Int) ≤ 255 := by
  rw [rd_nat l i h]
  exact hr _ (List.getElem_mem h)
/-- WHAT IS TAKEN CAN BE PUT, in no more bytes. -/
theorem takeP_cases (l : List Int) (hr : ∀ x ∈ l, 0 ≤ x ∧ x ≤ 255) : (∃ e, e ≠ 0 ∧ takeP l = tZ e) ∨
    (∃ b r m d n : Int, ∃ v : Bool, ∃ s : Int, takeP l = (b, r, m, d, n, v, s, 0) ∧ headCheck b r m d n v = 0 ∧ rTold r = r ∧ dTold d = d ∧ ((headBytes b r m d n v).length : Int) ≤ s ∧ s ≤ l.length) := by
  unfold takeP
  split
  · exact .inl ⟨2, by decide, rfl⟩
  rename_i h4
  have r2 : 0 ≤ rd l 2 ∧ rd l 2 ≤ 255 := rd_rng l hr 2 (by omega)
  have r3 : 0 ≤ rd l 3 ∧ rd l 3 ≤ 255 := rd_rng l hr 3 (by omega)
  split
  case isFalse => exact .inl ⟨9, by decide, rfl⟩
  rename_i h01
  split
  · exact .inl ⟨5, by decide, rfl⟩
  rename_i hc
  split
  case isFalse he => exact .inl ⟨_, he, rfl⟩
  rename_i he
  have hd := dec_rng (l.drop 4) (fun x hx => hr x (List.mem_of_mem_drop hx)) he
  have hdl : (l.drop 4).length = l.length - 4 := List.length_drop ..
  generalize (dec (l.drop 4)).1 = n at *
  generalize (dec (l.drop 4)).2.1 = z at *
  have x1 := xC_rng (rd l 2 / 16)
  have x2 := yC_rng (rd l 2 % 16)
  unfold tEnd
  split
  · exact .inl ⟨5, by decide, rfl⟩
  rename_i hv
  split
  · exact .inl ⟨2, by decide, rfl⟩
  rename_i hl
  have tb := tBlock_rng l hr (rd l 2 / 16) (4 + z) (by omega) (by omega) (by omega)
  have tr := tRate_rng l hr (rd l 2 % 16) (4 + z + xC (rd l 2 / 16)) (by omega) (by omega) (by omega)
  have td := depths_at (rd l 3 / 2 % 8) (by omega) (by omega)
  split
  · exact .inl ⟨5, by decide, rfl⟩
  rename_i hB
  split
  · exact .inl ⟨4, by decide, rfl⟩
  refine .inr ⟨_, _, _, _, _, _, _, rfl, ?_, tr.2.1, td.2, ?_, by omega⟩
  · refine headZero' ⟨tb.1, by omega⟩ tr.1 (by omega) td.1 hd.1 ?_
    intro hv1
    have hv2 := of_decide_eq_false hv1
    by_cases c : n ≤ 2147483647
    · exact c
    · exact (hv ⟨by omega, by omega⟩).elim
  · have hbo : ∀ b r m d n : Int, ∀ v : Bool, (headBytes b r m d n v).length = 5 + (encBytes n).length + (blockMore b).length + (rateMore r).length := by
      intro b r m d n v
      unfold headBytes headBody
      simp
      omega
    have e := encBytes_length n
    rw [hbo]
    omega
end Go.Proofs.Ytbohlcccdcilkaa.L
