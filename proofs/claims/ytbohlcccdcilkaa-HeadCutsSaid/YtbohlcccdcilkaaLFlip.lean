/- Facts, put together from several texts. -/
import Derived.Test.YtbohlcccdcilkaaWMore
import Derived.Test.YtbohlcccdcilkaaWLast
import Derived.Test.YtbohlcccdcilkaaLEv
import Derived.Test.YtbohlcccdcilkaaLBits
import Derived.Test.YtbohlcccdcilkaaLNum
import Derived.Test.YtbohlcccdcilkaaLEnc
import Derived.Test.YtbohlcccdcilkaaLDec2
import Derived.Test.YtbohlcccdcilkaaLHead
import Derived.Test.YtbohlcccdcilkaaLTake
namespace Go.Proofs.Ytbohlcccdcilkaa.L
open Go.RowKit Go.Proofs.YtbohlcccdcilkaaW.PrintWords Go.Proofs.YtbohlcccdcilkaaW.PrintLast
set_option linter.unusedVariables false
set_option linter.unusedSimpArgs false
/-- The register ahead of a step, told by the one behind it. -/
def unStep (r : Nat) (b : Bool) : Nat := (if r % 2 = 1 then r ^^^ 7 else r) / 2 + (if (decide (r % 2 = 1)) != b then 128 else 0)
theorem unStep_all : ∀ (b : Bool) (s : Fin 256), unStep (crcStep 8 7 s.val b) b = s.val := by decide +kernel
theorem crcStep_inj (b : Bool) (s t : Nat) (hs : s < 256) (ht : t < 256) (h : crcStep 8 7 s b = crcStep 8 7 t b) : s = t := by
  have h1 := unStep_all b ⟨s, hs⟩
  have h2 := unStep_all b ⟨t, ht⟩
  simp only at h1 h2
  rw [← h1, h, h2]
theorem crc_inj : ∀ (l : List Bool) (s t : Nat), s < 256 → t < 256 → crc 8 7 s l = crc 8 7 t l → s = t
  | [], _, _, _, _, h => h
  | b :: l, s, t, hs, ht, h => by
    have h1 := crc_inj l (crcStep 8 7 s b) (crcStep 8 7 t b) (crc_lt 8 7 (by decide) [b] s hs) (crc_lt 8 7 (by decide) [b] t ht) h
    exact crcStep_inj b s t hs ht h1
theorem feed_all : ∀ (b : Bool) (s : Fin 256), crcStep 8 7 s.val b = crcStep 8 7 (s.val ^^^ (if b then 128 else 0)) false := by decide +kernel
theorem shift_all : ∀ (s : Fin 256) (d : Fin 128), crcStep 8 7 (s.val ^^^ d.val) false = crcStep 8 7 s.val false ^^^ (2 * d.val) := by decide +kernel
theorem high_all : ∀ (b : Bool) (d : Fin 128), (if b then 128 else 0) + d.val = (if b then 128 else 0) ^^^ d.val := by decide +kernel
/-- Bits as the highest ones of a byte. -/
def val8 : List Bool → Nat
  | [] => 0
  | b :: l => (if b then 128 else 0) + val8 l / 2
theorem val8_lt : ∀ l : List Bool, val8 l < 256
  | [] => by decide
  | b :: l => by
    have := val8_lt l
    show (if b then 128 else 0) + val8 l / 2 < 256
    split <;> omega
theorem val8_dvd : ∀ (l : List Bool) (n : Nat), l.length + n = 8 → val8 l % 2 ^ n = 0
  | [], _, _ => Nat.zero_mod _
  | b :: l, n, h => by
    have ih := val8_dvd l (n + 1) (by simp only [List.length_cons] at h; omega)
    have hn : n ≤ 7 := by simp only [List.length_cons] at h; omega
    have hl := val8_lt l
    show ((if b then 128 else 0) + val8 l / 2) % 2 ^ n = 0
    have hc : n = 0 ∨ n = 1 ∨ n = 2 ∨ n = 3 ∨ n = 4 ∨ n = 5 ∨ n = 6 ∨ n = 7 := by omega
    rcases hc with rfl | rfl | rfl | rfl | rfl | rfl | rfl | rfl <;> (simp only [Nat.reducePow, Nat.reduceAdd] at ih ⊢) <;> (split <;> omega)
theorem crc_window : ∀ (l : List Bool) (s : Nat), s < 256 → l.length ≤ 8 → crc 8 7 s l = crc 8 7 (s ^^^ val8 l) (List.replicate l.length false)
  | [], s, _, _ => by simp [val8, crc]
  | b :: l, s, hs, hl => by
    have hv := val8_lt l
    have h2 := val8_dvd l (8 - l.length) (by simp only [List.length_cons] at hl; omega)
    have he : val8 l % 2 = 0 := by
      have h3 : 2 ∣ 2 ^ (8 - l.length) := ⟨2 ^ (7 - l.length), by rw [← Nat.pow_succ']; congr 1; simp only [List.length_cons] at hl; omega⟩
      have h4 : 2 ^ (8 - l.length) ∣ val8 l := Nat.dvd_of_mod_eq_zero h2
      exact Nat.mod_eq_zero_of_dvd (Nat.dvd_trans h3 h4)
    have hs1 : crcStep 8 7 s b < 256 := crcStep_lt 8 7 s b (by decide)
    have ih := crc_window l (crcStep 8 7 s b) hs1 (by simp only [List.length_cons] at hl; omega)
    have f := feed_all b ⟨s, hs⟩
    have hB : s ^^^ (if b then 128 else 0) < 256 := Nat.xor_lt_two_pow (n := 8) hs (by split <;> decide)
    have g := shift_all ⟨s ^^^ (if b then 128 else 0), hB⟩ ⟨val8 l / 2, by omega⟩
    have k := high_all b ⟨val8 l / 2, by omega⟩
    simp only at f g k
    show crc 8 7 (crcStep 8 7 s b) l = crc 8 7 (crcStep 8 7 (s ^^^ ((if b then 128 else 0) + val8 l / 2)) false) (List.replicate l.length false)
    rw [ih, k, ← Nat.xor_assoc, g, ← f, show 2 * (val8 l / 2) = val8 l by omega]
theorem val8_even (l : List Bool) (hl : l.length ≤ 7) : val8 l % 2 = 0 := by
  have h2 := val8_dvd l (8 - l.length) (by omega)
  have h3 : 2 ∣ 2 ^ (8 - l.length) := ⟨2 ^ (7 - l.length), by rw [← Nat.pow_succ']; congr 1; omega⟩
  exact Nat.mod_eq_zero_of_dvd (Nat.dvd_trans h3 (Nat.dvd_of_mod_eq_zero h2))
theorem val8_inj : ∀ (u v : List Bool), u.length = v.length → u.length ≤ 8 → val8 u = val8 v → u = v
  | [], [], _, _, _ => rfl
  | [], _ :: _, h, _, _ => by simp at h
  | _ :: _, [], h, _, _ => by simp at h
  | b :: u, c :: v, h, h8, e => by
    simp only [List.length_cons] at h h8
    have e1 := val8_even u (by omega)
    have e2 := val8_even v (by omega)
    have l1 := val8_lt u
    have l2 := val8_lt v
    have e3 : (if b then 128 else 0) + val8 u / 2 = (if c then 128 else 0) + val8 v / 2 := e
    have hb : b = c := by
      cases b <;> cases c <;> first | rfl | (exfalso; simp at e3; omega)
    subst hb
    rw [val8_inj u v (by omega) (by omega) (by omega)]
theorem window_inj (u v : List Bool) (s : Nat) (hs : s < 256) (hu : u.length = v.length) (h8 : u.length ≤ 8) (h : crc 8 7 s u = crc 8 7 s v) : u = v := by
  rw [crc_window u s hs h8, crc_window v s hs (hu ▸ h8), hu] at h
  have h1 := crc_inj _ _ _ (Nat.xor_lt_two_pow (n := 8) hs (val8_lt u)) (Nat.xor_lt_two_pow (n := 8) hs (val8_lt v)) h
  refine val8_inj u v hu h8 ?_
  have h2 : s ^^^ (s ^^^ val8 u) = s ^^^ (s ^^^ val8 v) := by rw [h1]
  rwa [← Nat.xor_assoc, ← Nat.xor_assoc, Nat.xor_self, Nat.zero_xor, Nat.zero_xor] at h2
/-- Rows of bits that differ within 8 bits in a row, and leave the same, are the same. -/
theorem burst8 (p u v q : List Bool) (hu : u.length = v.length) (h8 : u.length ≤ 8) (h : crc 8 7 0 (p ++ (u ++ q)) = crc 8 7 0 (p ++ (v ++ q))) : u = v := by
  have ap : ∀ (s : Nat) (a b : List Bool), crc 8 7 s (a ++ b) = crc 8 7 (crc 8 7 s a) b := fun s a b => by unfold crc; rw [List.foldl_append]
  rw [ap, ap, ap, ap] at h
  have hp := crc_lt 8 7 (by decide) p 0 (by decide)
  refine window_inj u v (crc 8 7 0 p) hp hu h8 ?_
  exact crc_inj q _ _ (crc_lt 8 7 (by decide) u _ hp) (crc_lt 8 7 (by decide) v _ hp) h
theorem seal_all : ∀ s : Fin 256, crc 8 7 s.val (dig 8 (s.val : Int)) = 0 := by decide +kernel
/-- A row that ends with its own check leaves nothing. -/
theorem seal_zero (m : List Int) : crc 8 7 0 (bitsOf (m ++ [crc8 m])) = 0 := by
  have hlt := crc_lt 8 7 (by decide) (bitsOf m) 0 (by decide)
  have e : bitsOf (m ++ [crc8 m]) = bitsOf m ++ dig 8 ((crc 8 7 0 (bitsOf m) : Nat) : Int) := by
    unfold bitsOf crc8
    rw [List.flatMap_append, List.flatMap_cons, List.flatMap_nil, List.append_nil]
    rfl
  have ap : ∀ (s : Nat) (a b : List Bool), crc 8 7 s (a ++ b) = crc 8 7 (crc 8 7 s a) b := fun s a b => by unfold crc; rw [List.foldl_append]
  rw [e, ap]
  exact seal_all ⟨crc 8 7 0 (bitsOf m), hlt⟩
end Go.Proofs.Ytbohlcccdcilkaa.L
namespace Go.Proofs.Ytbohlcccdcilkaa.L
open Go.RowKit Go.Proofs.YtbohlcccdcilkaaW.PrintWords Go.Proofs.YtbohlcccdcilkaaW.PrintLast
set_option linter.unusedVariables false
set_option linter.unusedSimpArgs false
/-- WHAT IS CUT OFF IS SHORT. -/
theorem takeP_cut (b r m d n : Int) (v : Bool) (c : Nat) (h : headCheck b r m d n v = 0) (hc : c < (headBytes b r m d n v).length) : takeP ((headBytes b r m d n v).take c) = tZ 2 := by
  obtain ⟨hb, hr, hm, hd, hn, hv⟩ := headZero h
  obtain ⟨b1, b2, b3⟩ := block_back b hb
  obtain ⟨r1, r2, r3⟩ := rate_back r hr
  obtain ⟨d1, d2⟩ := depth_back d
  have k1 := blockCode_rng b
  have k2 := rateCode_rng r
  have k3 := depthCode_rng d
  have hz := nsize_rng n
  have he := encBytes_length n
  have hl : headBytes b r m d n v = 255 :: (if v then 249 else 248) :: (16 * blockCode b + rateCode r) :: (16 * m + 2 * codeOf d hDepths) :: (encBytes n ++ (blockMore b ++ (rateMore r ++ [crc8 (headBody b r m d n v)]))) := by
    unfold headBytes headBody
    simp
  have hbl : (headBytes b r m d n v).length = 5 + (encBytes n).length + (blockMore b).length + (rateMore r).length := by
    unfold headBytes headBody
    simp
    omega
  have hlen : ((headBytes b r m d n v).take c).length = c := by rw [List.length_take]; omega
  unfold takeP
  by_cases c4 : c < 4
  · rw [if_pos (by rw [hlen]; exact c4)]
  obtain ⟨j, rfl⟩ : ∃ j, c = j + 4 := ⟨c - 4, by omega⟩
  have ht : (headBytes b r m d n v).take (j + 4) = 255 :: (if v then 249 else 248) :: (16 * blockCode b + rateCode r) :: (16 * m + 2 * codeOf d hDepths) :: (encBytes n ++ (blockMore b ++ (rateMore r ++ [crc8 (headBody b r m d n v)]))).take j := by rw [hl]; rfl
  have q0 : rd ((headBytes b r m d n v).take (j + 4)) 0 = 255 := by rw [ht]; rfl
  have q1 : rd ((headBytes b r m d n v).take (j + 4)) 1 = if v then 249 else 248 := by rw [ht]; rfl
  have q2 : rd ((headBytes b r m d n v).take (j + 4)) 2 = 16 * blockCode b + rateCode r := by rw [ht]; rfl
  have q3 : rd ((headBytes b r m d n v).take (j + 4)) 3 = 16 * m + 2 * codeOf d hDepths := by rw [ht]; rfl
  have q4 : ((headBytes b r m d n v).take (j + 4)).drop 4 = (encBytes n ++ (blockMore b ++ (rateMore r ++ [crc8 (headBody b r m d n v)]))).take j := by rw [ht]; rfl
  rw [if_neg (by rw [hlen]; omega), q0, q1, q2, q3, q4, if_pos ⟨rfl, by cases v <;> simp⟩]
  rw [show (16 * blockCode b + rateCode r) / 16 = blockCode b by omega, show (16 * blockCode b + rateCode r) % 16 = rateCode r by omega, show (16 * m + 2 * codeOf d hDepths) / 16 = m by omega,
    show (16 * m + 2 * codeOf d hDepths) / 2 % 8 = codeOf d hDepths by omega]
  rw [if_neg (by omega)]
  by_cases cj : j < (encBytes n).length
  · rw [List.take_append_of_le_length (by omega), dec_cut n hn.1 hn.2 j (by omega), if_neg (by decide)]
  · have e : (encBytes n ++ (blockMore b ++ (rateMore r ++ [crc8 (headBody b r m d n v)]))).take j = encBytes n ++ (blockMore b ++ (rateMore r ++ [crc8 (headBody b r m d n v)])).take (j - (encBytes n).length) := by
      rw [List.take_append, List.take_of_length_le (by omega)]
    rw [e, dec_enc n hn.1 hn.2, if_pos rfl]
    dsimp only
    unfold tEnd
    rw [if_neg (by rintro ⟨h1, h2⟩; cases v; exact absurd (hv rfl) (by omega); simp at h2), if_pos (by rw [hlen]; omega)]
/-- A header that is taken has a right check. -/
theorem takeP_check (l : List Int) (hr : ∀ x ∈ l, 0 ≤ x ∧ x ≤ 255) : (∃ e, e ≠ 0 ∧ takeP l = tZ e) ∨
    (∃ E : Nat, (takeP l).2.2.2.2.2.2.1 = (E : Int) + 1 ∧ (takeP l).2.2.2.2.2.2.2 = 0 ∧ E < l.length ∧ crc8 (l.take E) = rd l (E : Int)) := by
  unfold takeP
  split
  · exact .inl ⟨2, by decide, rfl⟩
  split
  case isFalse => exact .inl ⟨9, by decide, rfl⟩
  split
  · exact .inl ⟨5, by decide, rfl⟩
  split
  case isFalse he => exact .inl ⟨_, he, rfl⟩
  rename_i he
  have hd := dec_rng (l.drop 4) (fun x hx => hr x (List.mem_of_mem_drop hx)) he
  have hz : 1 ≤ (dec (l.drop 4)).2.1 := hd.2.1
  clear hd
  generalize (dec (l.drop 4)).1 = n at *
  generalize (dec (l.drop 4)).2.1 = z at *
  have x1 := xC_rng (rd l 2 / 16)
  have x2 := yC_rng (rd l 2 % 16)
  unfold tEnd
  split
  · exact .inl ⟨5, by decide, rfl⟩
  split
  · exact .inl ⟨2, by decide, rfl⟩
  rename_i hl
  split
  · exact .inl ⟨5, by decide, rfl⟩
  split
  · exact .inl ⟨4, by decide, rfl⟩
  rename_i hc
  obtain ⟨E, hE⟩ := Int.eq_ofNat_of_zero_le (show 0 ≤ 4 + z + xC (rd l 2 / 16) + yC (rd l 2 % 16) by omega)
  refine .inr ⟨E, ?_, rfl, by omega, ?_⟩
  · show 4 + z + xC (rd l 2 / 16) + yC (rd l 2 % 16) + 1 = (E : Int) + 1
    omega
  · rw [hE, Int.toNat_natCast] at hc
    exact Classical.byContradiction hc
end Go.Proofs.Ytbohlcccdcilkaa.L
namespace Go.Proofs.Ytbohlcccdcilkaa.L
open Go.RowKit Go.Proofs.YtbohlcccdcilkaaW.PrintWords Go.Proofs.YtbohlcccdcilkaaW.PrintLast
set_option linter.unusedVariables false
set_option linter.unusedSimpArgs false
/-- One bit of a row of bytes turned over. -/
def flipB (c : List Int) (j : Nat) : List Int := c.set (j / 8) (Go.bits .xor .u8 (rd c ((j / 8 : Nat) : Int)) ((128 >>> (j % 8) : Nat) : Int))
/-- Up to n bits in a row from the bit j on, those whose digit in a number is 1, turned over; whether any was. -/
def cutsL : Nat → Nat → List Int → Int → Bool → List Int × Bool
  | 0, _, c, _, ch => (c, ch)
  | n + 1, j, c, y, ch => if j < 8 * c.length then (if y % 2 = 1 then cutsL n (j + 1) (flipB c j) (y / 2) true else cutsL n (j + 1) c (y / 2) ch) else (c, ch)
theorem dig_flip : ∀ (s : Fin 8) (x : Fin 256), dig 8 (Go.bits .xor .u8 (x.val : Int) ((128 >>> s.val : Nat) : Int)) = (dig 8 (x.val : Int)).take s.val ++ (!((dig 8 (x.val : Int)).getD s.val false)) :: (dig 8 (x.val : Int)).drop (s.val + 1) := by decide +kernel
theorem xor_u8_rng (a b : Int) : 0 ≤ Go.bits .xor .u8 a b ∧ Go.bits .xor .u8 a b ≤ 255 := by
  have h : ∀ n : Int, 0 ≤ IntKind.u8.wrap n ∧ IntKind.u8.wrap n ≤ 255 := fun n => by
    simp [IntKind.wrap, IntKind.bits, IntKind.signed]
    omega
  exact h _
theorem split_at {α : Type} (l : List α) (i : Nat) (h : i < l.length) : l = l.take i ++ l[i] :: l.drop (i + 1) := by
  conv => lhs; rw [← List.take_append_drop i l]
  rw [List.drop_eq_getElem_cons h]
theorem bits_app (a b : List Int) : bitsOf (a ++ b) = bitsOf a ++ bitsOf b := by unfold bitsOf; rw [List.flatMap_append]
theorem bits_cons (x : Int) (b : List Int) : bitsOf (x :: b) = dig 8 x ++ bitsOf b := by unfold bitsOf; rw [List.flatMap_cons]
theorem flip_bits (c : List Int) (j : Nat) (hj : j < 8 * c.length) (hc : ∀ x ∈ c, 0 ≤ x ∧ x ≤ 255) :
    ∃ P : List Bool, ∃ b : Bool, ∃ Q : List Bool, bitsOf c = P ++ b :: Q ∧ bitsOf (flipB c j) = P ++ (!b) :: Q ∧ P.length = j := by
  have hi : j / 8 < c.length := by omega
  have hx := hc c[j / 8] (List.getElem_mem hi)
  have hd := dig_flip ⟨j % 8, by omega⟩ ⟨c[j / 8].toNat, by omega⟩
  simp only [Int.toNat_of_nonneg hx.1] at hd
  have hl : (dig 8 c[j / 8]).length = 8 := dig_length 8 _
  have e1 : flipB c j = c.take (j / 8) ++ (Go.bits .xor .u8 c[j / 8] ((128 >>> (j % 8) : Nat) : Int)) :: c.drop (j / 8 + 1) := by
    unfold flipB
    rw [rd_nat c _ hi, List.set_eq_take_append_cons_drop, if_pos hi]
  have e2 := split_at c (j / 8) hi
  have e3 : dig 8 c[j / 8] = (dig 8 c[j / 8]).take (j % 8) ++ (dig 8 c[j / 8]).getD (j % 8) false :: (dig 8 c[j / 8]).drop (j % 8 + 1) := by
    have h8 : j % 8 < (dig 8 c[j / 8]).length := by omega
    have := split_at (dig 8 c[j / 8]) (j % 8) h8
    rw [List.getD_eq_getElem?_getD, List.getElem?_eq_getElem h8]
    exact this
  refine ⟨bitsOf (c.take (j / 8)) ++ (dig 8 c[j / 8]).take (j % 8), (dig 8 c[j / 8]).getD (j % 8) false, (dig 8 c[j / 8]).drop (j % 8 + 1) ++ bitsOf (c.drop (j / 8 + 1)), ?_, ?_, ?_⟩
  · conv => lhs; rw [e2]
    rw [bits_app, bits_cons]
    conv => lhs; rw [e3]
    simp only [List.append_assoc, List.cons_append]
  · rw [e1, bits_app, bits_cons, hd]
    simp only [List.append_assoc, List.cons_append]
  · rw [List.length_append, bitsOf_length, List.length_take, List.length_take, hl]
    omega
theorem flip_len (c : List Int) (j : Nat) : (flipB c j).length = c.length := List.length_set ..
theorem flip_rng (c : List Int) (j : Nat) (hc : ∀ x ∈ c, 0 ≤ x ∧ x ≤ 255) : ∀ x ∈ flipB c j, 0 ≤ x ∧ x ≤ 255 := by
  intro x hx
  rcases List.mem_or_eq_of_mem_set hx with h | h
  · exact hc x h
  · rw [h]; exact xor_u8_rng _ _
theorem take_less {α : Type} {a b : List α} {i j : Nat} (h : a.take j = b.take j) (hi : i ≤ j) : a.take i = b.take i := by
  have := congrArg (List.take i) h
  rwa [List.take_take, List.take_take, Nat.min_eq_left hi] at this
theorem cuts_spec : ∀ (n j : Nat) (c : List Int) (y : Int) (ch : Bool), (∀ x ∈ c, 0 ≤ x ∧ x ≤ 255) →
    (∀ x ∈ (cutsL n j c y ch).1, 0 ≤ x ∧ x ≤ 255) ∧ (cutsL n j c y ch).1.length = c.length ∧ (bitsOf c).take j = (bitsOf (cutsL n j c y ch).1).take j ∧ (bitsOf c).drop (j + n) = (bitsOf (cutsL n j c y ch).1).drop (j + n) ∧
    (ch = false → (cutsL n j c y ch).2 = true → bitsOf c ≠ bitsOf (cutsL n j c y ch).1)
  | 0, j, c, y, ch, hc => ⟨hc, rfl, rfl, rfl, fun h h' => by rw [show (cutsL 0 j c y ch).2 = ch from rfl, h] at h'; cases h'⟩
  | n + 1, j, c, y, ch, hc => by
    unfold cutsL
    by_cases hj : j < 8 * c.length
    · rw [if_pos hj]
      by_cases hy : y % 2 = 1
      · rw [if_pos hy]
        obtain ⟨a1, a2, a3, a4, a5⟩ := cuts_spec n (j + 1) (flipB c j) (y / 2) true (flip_rng c j hc)
        obtain ⟨P, b, Q, p1, p2, p3⟩ := flip_bits c j hj hc
        have t1 : (bitsOf c).take j = P := by rw [p1, ← p3, List.take_left]
        have t2 : (bitsOf (flipB c j)).take j = P := by rw [p2, ← p3, List.take_left]
        have d1 : (bitsOf c).drop (j + (n + 1)) = Q.drop n := by rw [p1, show j + (n + 1) = P.length + (n + 1) by omega, ← List.drop_drop, List.drop_left, List.drop_succ_cons]
        have d2 : (bitsOf (flipB c j)).drop (j + (n + 1)) = Q.drop n := by rw [p2, show j + (n + 1) = P.length + (n + 1) by omega, ← List.drop_drop, List.drop_left, List.drop_succ_cons]
        refine ⟨a1, by rw [a2, flip_len], ?_, ?_, ?_⟩
        · rw [t1, ← take_less a3 (Nat.le_succ j), t2]
        · rw [d1, ← d2, show j + (n + 1) = j + 1 + n by omega, a4]
        · intro _ _ he
          have h1 : (bitsOf c).take (j + 1) = P ++ [b] := by rw [p1, show j + 1 = P.length + 1 by omega, List.take_length_add_append]; rfl
          have h2 : (bitsOf (flipB c j)).take (j + 1) = P ++ [!b] := by rw [p2, show j + 1 = P.length + 1 by omega, List.take_length_add_append]; rfl
          rw [he, ← a3, h2] at h1
          have := List.append_cancel_left h1
          cases b <;> simp at this
      · rw [if_neg hy]
        obtain ⟨a1, a2, a3, a4, a5⟩ := cuts_spec n (j + 1) c (y / 2) ch hc
        refine ⟨a1, a2, take_less a3 (Nat.le_succ j), ?_, a5⟩
        rw [show j + (n + 1) = j + 1 + n by omega, a4]
    · rw [if_neg hj]
      exact ⟨hc, rfl, rfl, rfl, fun h h' => by simp only at h'; rw [h] at h'; cases h'⟩
/-- WHAT DIFFERS WITHIN 8 BITS IN A ROW ISN'T TAKEN AS A HEADER OF THE SAME SIZE. -/
theorem cuts_told (b r m d n : Int) (v : Bool) (h : headCheck b r m d n v = 0) (hr : ∀ x ∈ headBytes b r m d n v, 0 ≤ x ∧ x ≤ 255) (k : Nat) (y : Int) (hc : (cutsL 8 k (headBytes b r m d n v) y false).2 = true) :
    (takeP (cutsL 8 k (headBytes b r m d n v) y false).1).2.2.2.2.2.2.1 ≠ ((headBytes b r m d n v).length : Int) := by
  obtain ⟨a1, a2, a3, a4, a5⟩ := cuts_spec 8 k (headBytes b r m d n v) y false hr
  have ne := a5 rfl hc
  clear a5 hc
  have hz : crc 8 7 0 (bitsOf (headBytes b r m d n v)) = 0 := seal_zero (headBody b r m d n v)
  have hlen : 1 ≤ (headBytes b r m d n v).length := by unfold headBytes; rw [List.length_append]; simp
  generalize headBytes b r m d n v = L at *
  generalize (cutsL 8 k L y false).1 = C at *
  intro hs
  rcases takeP_check C a1 with ⟨e, _, he⟩ | ⟨E, h1, _, h3, h4⟩
  · rw [he] at hs
    have : (0 : Int) = (L.length : Int) := hs
    omega
  · have hE : E + 1 = C.length := by omega
    have hsp := split_at C E h3
    rw [List.drop_of_length_le (by omega)] at hsp
    rw [rd_nat C E h3] at h4
    rw [← h4] at hsp
    have hz2 : crc 8 7 0 (bitsOf C) = 0 := by
      rw [hsp]
      exact seal_zero _
    have s1 : bitsOf L = (bitsOf L).take k ++ (((bitsOf L).drop k).take 8 ++ (bitsOf L).drop (k + 8)) := by
      rw [← List.drop_drop, List.take_append_drop, List.take_append_drop]
    have s2 : bitsOf C = (bitsOf L).take k ++ (((bitsOf C).drop k).take 8 ++ (bitsOf L).drop (k + 8)) := by
      rw [a3, a4, ← List.drop_drop, List.take_append_drop, List.take_append_drop]
    have hl : (bitsOf L).length = (bitsOf C).length := by rw [bitsOf_length, bitsOf_length, a2]
    have hu := burst8 ((bitsOf L).take k) (((bitsOf L).drop k).take 8) (((bitsOf C).drop k).take 8) ((bitsOf L).drop (k + 8)) (by rw [List.length_take, List.length_take, List.length_drop, List.length_drop, hl]) (by rw [List.length_take]; omega) (by rw [← s1, ← s2, hz, hz2])
    rw [hu, ← s2] at s1
    exact ne s1
end Go.Proofs.Ytbohlcccdcilkaa.L
