/- Facts, put together from several texts. -/
import Derived.Test.YtdacblackoaphaaPBoundFramesx14
import Derived.Test.YtdacblackoaphaaLEv
import Derived.Test.YtdacblackoaphaaLHead
import Derived.Test.YtdacblackoaphaaLNum
import Derived.Test.YtdacblackoaphaaLEnc
import Derived.Test.YtdacblackoaphaaLBits
namespace Go.Proofs.Ytdacblackoaphaa.FBoundFrames
open Go.RowKit Go.Proofs.YtdacblackoaphaaW.PrintWords Go.Proofs.YtdacblackoaphaaW.PrintLast Go.Proofs.Ytdacblackoaphaa.PBoundFrames Go.Proofs.Ytdacblackoaphaa.L
set_option linter.unusedVariables false
set_option linter.unusedSimpArgs false
theorem rcheck_j3 (b r m d n : Int) (v x : Bool) : Ev (fun k => serinetteref17_Check.j3 k x b r m d n v) (if x = true then 10 else if n < 0 ∨ n > 68719476735 ∨ (v = false ∧ n > 2147483647) then 6 else 0) := by
  refine Ev.step (fun k => serinetteref17_Check.j3.eq_2 ..) ?_
  by_cases c : x = true
  · exact evTT c (Ev.now _)
  refine evFF c ?_
  by_cases c1 : n < 0
  · refine evT c1 ?_
    rw [if_pos (Or.inl c1)]; exact Ev.now _
  refine evF c1 ?_
  by_cases c2 : n > 68719476735
  · refine evT c2 ?_
    rw [if_pos (Or.inr (Or.inl c2))]; exact Ev.now _
  refine evF c2 ?_
  by_cases c3 : v = true
  · refine evT c3 ?_
    rw [if_neg (by simp [c3]; omega)]; exact Ev.now _
  refine evF c3 ?_
  by_cases c4 : n > 2147483647
  · refine evT c4 ?_
    rw [if_pos (Or.inr (Or.inr ⟨by simpa using c3, c4⟩))]; exact Ev.now _
  · refine evF c4 ?_
    rw [if_neg (by omega)]
    exact Ev.now _
theorem rcheck_j2 (b r m d n : Int) (v x : Bool) : Ev (fun k => serinetteref17_Check.j2 k x b r m d n v)
    (if x = true then 12 else if d ≠ 0 ∧ (d < 4 ∨ d > 32) then 10 else if n < 0 ∨ n > 68719476735 ∨ (v = false ∧ n > 2147483647) then 6 else 0) := by
  refine Ev.step (fun k => serinetteref17_Check.j2.eq_2 ..) ?_
  by_cases c : x = true
  · exact evTT c (Ev.now _)
  refine evFF c ?_
  by_cases c1 : d = 0
  · refine evT c1 ?_
    rw [if_neg (by omega)]
    exact evR (rcheck_j3 b r m d n v false) (by rfl)
  refine evF c1 ?_
  refine evR (ev_or (fun k y => serinetteref17_Check.j3 k y b r m d n v) _ (rcheck_j3 b r m d n v)) ?_
  simp [c1]
theorem rcheck_j1 (b r m d n : Int) (v x : Bool) : Ev (fun k => serinetteref17_Check.j1 k x b r m d n v)
    (if x = true then 11 else if m < 0 ∨ m > 10 then 12 else if d ≠ 0 ∧ (d < 4 ∨ d > 32) then 10 else if n < 0 ∨ n > 68719476735 ∨ (v = false ∧ n > 2147483647) then 6 else 0) := by
  refine Ev.step (fun k => serinetteref17_Check.j1.eq_2 ..) ?_
  by_cases c : x = true
  · exact evTT c (Ev.now _)
  refine evFF c ?_
  refine evR (ev_or (fun k y => serinetteref17_Check.j2 k y b r m d n v) _ (rcheck_j2 b r m d n v)) ?_
  simp
theorem rcheck_j0 (b r m d n : Int) (v x : Bool) : Ev (fun k => serinetteref17_Check.j0 k x b r m d n v)
    (if x = true then 15 else if r < 0 ∨ r > 1048575 then 11 else if m < 0 ∨ m > 10 then 12 else if d ≠ 0 ∧ (d < 4 ∨ d > 32) then 10 else if n < 0 ∨ n > 68719476735 ∨ (v = false ∧ n > 2147483647) then 6 else 0) := by
  refine Ev.step (fun k => serinetteref17_Check.j0.eq_2 ..) ?_
  by_cases c : x = true
  · exact evTT c (Ev.now _)
  refine evFF c ?_
  refine evR (ev_or (fun k y => serinetteref17_Check.j1 k y b r m d n v) _ (rcheck_j1 b r m d n v)) ?_
  simp
theorem rcheck_ev (b r m d n : Int) (v : Bool) : Ev (fun k => serinetteref17_Check.f k b r m d n v) (headCheck b r m d n v) := by
  unfold serinetteref17_Check.f headCheck
  refine evR (ev_or (fun k y => serinetteref17_Check.j0 k y b r m d n v) _ (rcheck_j0 b r m d n v)) ?_
  simp
end Go.Proofs.Ytdacblackoaphaa.FBoundFrames
namespace Go.Proofs.Ytdacblackoaphaa.FBoundFrames
open Go.RowKit Go.Proofs.YtdacblackoaphaaW.PrintWords Go.Proofs.YtdacblackoaphaaW.PrintLast Go.Proofs.Ytdacblackoaphaa.PBoundFrames Go.Proofs.Ytdacblackoaphaa.L
set_option linter.unusedVariables false
set_option linter.unusedSimpArgs false
theorem rroom_at (s t : Int) (h : serinetteref03_Room.f s = some t) : serinetteref03_Room.f s = some t := h
theorem rsize_inner (n s t r : Int) (ht : serinetteref03_Room.f s = some t) (ht' : t ≤ 36) (d : Nat) : ∀ (i : Nat), (i : Int) + d = t →
    Ev (fun k => serinetteref03_Size.l1 k n s (2 ^ (i + d)) t) r → Ev (fun k => serinetteref03_Size.l1 k n s (2 ^ i) i) r := by
  induction d with
  | zero =>
    intro i hi h
    have e : t = (i : Int) := by omega
    subst e
    exact h
  | succ d ih =>
    intro i hi h
    refine Ev.step (fun k => serinetteref03_Size.l1.eq_2 ..) ?_
    refine evC ht ?_
    refine evT (by omega) ?_
    have hp : (2 : Int) * 2 ^ i = 2 ^ (i + 1) := by rw [Int.pow_succ]; omega
    have hb : (2 : Int) ^ (i + 1) ≤ 2 ^ 36 := by
      have : (2 : Nat) ^ (i + 1) ≤ 2 ^ 36 := Nat.pow_le_pow_right (by omega) (by omega)
      exact_mod_cast this
    have h0 : (0 : Int) ≤ 2 ^ (i + 1) := Int.pow_nonneg (by omega)
    have hb' : (2 : Int) ^ (i + 1) ≤ 68719476736 := hb
    rw [hp, wr _ (by omega), wr _ (by omega)]
    have := ih (i + 1) (by omega) (by rw [show i + 1 + d = i + (d + 1) by omega]; exact h)
    exact this
theorem rsize_round (n s t p r : Int) (hs : s < 7) (hs' : 1 ≤ s) (ht : serinetteref03_Room.f s = some t) (ht' : 0 ≤ t ∧ t ≤ 36) (hp : p = 2 ^ t.toNat)
    (h : n < p → r = s) (h' : ¬ n < p → Ev (fun k => serinetteref03_Size.l0 k n (s + 1)) r) : Ev (fun k => serinetteref03_Size.l0 k n s) r := by
  refine Ev.step (fun k => serinetteref03_Size.l0.eq_2 ..) ?_
  refine evT hs ?_
  refine rsize_inner n s t r ht ht'.2 t.toNat 0 (by omega) ?_
  refine Ev.step (fun k => serinetteref03_Size.l1.eq_2 ..) ?_
  refine evC ht ?_
  refine evF (by omega) ?_
  rw [show 0 + t.toNat = t.toNat by omega, ← hp]
  by_cases e : n < p
  · rw [h e]; exact evT e (Ev.now _)
  · refine evF e ?_
    rw [wr _ (by omega)]
    exact h' e
theorem rsize_in (n : Int) (h0 : 0 ≤ n) (h1 : n ≤ 68719476735) : Ev (fun k => serinetteref03_Size.f k n) (nsize n) := by
  unfold serinetteref03_Size.f
  refine evF (by omega) ?_
  refine Ev.step (fun k => serinetteref03_Size.j0.eq_2 ..) ?_
  refine evF (by simp; omega) ?_
  refine rsize_round n 1 7 128 _ (by omega) (by omega) rfl (by omega) rfl (fun c => by unfold nsize; rw [if_pos (by omega)]) (fun c1 => ?_)
  refine rsize_round n 2 11 2048 _ (by omega) (by omega) rfl (by omega) rfl (fun c => by unfold nsize; rw [if_neg (by omega), if_pos (by omega)]) (fun c2 => ?_)
  refine rsize_round n 3 16 65536 _ (by omega) (by omega) rfl (by omega) rfl (fun c => by unfold nsize; rw [if_neg (by omega), if_neg (by omega), if_pos (by omega)]) (fun c3 => ?_)
  refine rsize_round n 4 21 2097152 _ (by omega) (by omega) rfl (by omega) rfl (fun c => by unfold nsize; rw [if_neg (by omega), if_neg (by omega), if_neg (by omega), if_pos (by omega)]) (fun c4 => ?_)
  refine rsize_round n 5 26 67108864 _ (by omega) (by omega) rfl (by omega) rfl (fun c => by unfold nsize; rw [if_neg (by omega), if_neg (by omega), if_neg (by omega), if_neg (by omega), if_pos (by omega)]) (fun c5 => ?_)
  refine rsize_round n 6 31 2147483648 _ (by omega) (by omega) rfl (by omega) rfl (fun c => by unfold nsize; rw [if_neg (by omega), if_neg (by omega), if_neg (by omega), if_neg (by omega), if_neg (by omega), if_pos (by omega)]) (fun c6 => ?_)
  refine Ev.step (fun k => serinetteref03_Size.l0.eq_2 ..) ?_
  refine evF (by omega) ?_
  unfold nsize
  rw [if_neg (by omega), if_neg (by omega), if_neg (by omega), if_neg (by omega), if_neg (by omega), if_neg (by omega)]
  exact Ev.now _
end Go.Proofs.Ytdacblackoaphaa.FBoundFrames
namespace Go.Proofs.Ytdacblackoaphaa.FBoundFrames
open Go.RowKit Go.Proofs.YtdacblackoaphaaW.PrintWords Go.Proofs.YtdacblackoaphaaW.PrintLast Go.Proofs.Ytdacblackoaphaa.PBoundFrames Go.Proofs.Ytdacblackoaphaa.L
set_option linter.unusedVariables false
set_option linter.unusedSimpArgs false
theorem rlead (s : Int) (h : 1 ≤ s ∧ s ≤ 7) : serinetteref03_Lead.f s = some (lead s) := by
  have : s = 1 ∨ s = 2 ∨ s = 3 ∨ s = 4 ∨ s = 5 ∨ s = 6 ∨ s = 7 := by omega
  rcases this with rfl | rfl | rfl | rfl | rfl | rfl | rfl <;> decide +kernel
theorem renc_loop (s : Int) (hs : 1 ≤ s ∧ s ≤ 7) (j : Nat) : ∀ (n : Int) (out : List Int) (i : Int), 0 ≤ n ∧ n ≤ 68719476735 → i + j = s → 1 ≤ i → out.length + j ≤ 7 →
    Ev (fun k => serinetteref03_Encode.l0 k n s out i) ((lead s + n / 64 ^ j) % 256 :: (encTail j n ++ out), 0) := by
  have hl : 0 ≤ lead s ∧ lead s ≤ 254 := by unfold lead; omega
  induction j with
  | zero =>
    intro n out i hn hi h1 ho
    refine Ev.step (fun k => serinetteref03_Encode.l0.eq_2 ..) ?_
    refine evF (by omega) ?_
    refine evC (rlead s hs) ?_
    refine evC rfl ?_
    refine evT (by simp; omega) ?_
    rw [wr _ (by omega)]
    simp only [Int.pow_zero, Int.ediv_one, encTail, List.nil_append, List.cons_append]
    exact Ev.now _
  | succ j ih =>
    intro n out i hn hi h1 ho
    refine Ev.step (fun k => serinetteref03_Encode.l0.eq_2 ..) ?_
    refine evT (by omega) ?_
    refine evC rfl ?_
    refine evT (by simp; omega) ?_
    rw [tmod_pos _ _ (by omega), tdiv_pos _ _ (by omega), wr (128 + n % 64) (by omega), wr (n / 64) (by omega), wr (i + 1) (by omega)]
    have := ih (n / 64) ([(128 + n % 64) % 256] ++ out) (i + 1) (by omega) (by omega) (by omega) (by simp; omega)
    refine evR this ?_
    have e : n / 64 / 64 ^ j = n / 64 ^ (j + 1) := by
      rw [Int.pow_succ, Int.mul_comm (64 ^ j) 64, Int.ediv_ediv_of_nonneg (by omega)]
    rw [e, show (128 + n % 64) % 256 = 128 + n % 64 by omega]
    simp [encTail]
theorem renc_in (n : Int) (h0 : 0 ≤ n) (h1 : n ≤ 68719476735) : Ev (fun k => serinetteref03_Encode.f k n) (encBytes n, 0) := by
  have hs := nsize_rng n
  have hh := encHead_rng n h0 h1
  unfold serinetteref03_Encode.f
  refine evB (rsize_in n h0 h1) ?_
  refine evF (by omega) ?_
  refine evR (renc_loop (nsize n) hs ((nsize n).toNat - 1) n [] 1 ⟨h0, h1⟩ (by omega) (by omega) (by simp; omega)) ?_
  rw [List.append_nil]
  unfold encBytes
  rw [show (lead (nsize n) + n / 64 ^ ((nsize n).toNat - 1)) = encHead n from rfl, show encHead n % 256 = encHead n by omega]
end Go.Proofs.Ytdacblackoaphaa.FBoundFrames
namespace Go.Proofs.Ytdacblackoaphaa.FBoundFrames
open Go.RowKit Go.Proofs.YtdacblackoaphaaW.PrintWords Go.Proofs.YtdacblackoaphaaW.PrintLast Go.Proofs.Ytdacblackoaphaa.PBoundFrames Go.Proofs.Ytdacblackoaphaa.L
set_option linter.unusedVariables false
set_option linter.unusedSimpArgs false
theorem set_rep (i : Nat) (b : Bool) (l : List Bool) : (List.replicate (i + 1) false ++ l).set i b = List.replicate i false ++ (b :: l) := by
  rw [List.replicate_succ', List.append_assoc, List.set_append_right (s := List.replicate i false) i b (by simp)]
  simp
theorem rdigits_loop (w : Nat) : ∀ (n : Int) (out : List Bool), 0 ≤ n ∧ n ≤ 18446744073709551615 → w ≤ 64 →
    Ev (fun k => serinetteref01_Digits.l0 k n (List.replicate w false ++ out) ((w : Int) - 1)) (dig w n ++ out) := by
  induction w with
  | zero =>
    intro n out hn hw
    refine Ev.step (fun k => serinetteref01_Digits.l0.eq_2 ..) ?_
    refine evF (by omega) ?_
    simp only [List.replicate, List.nil_append, dig]
    exact Ev.now _
  | succ w ih =>
    intro n out hn hw
    refine Ev.step (fun k => serinetteref01_Digits.l0.eq_2 ..) ?_
    refine evT (by omega) ?_
    refine evT (by omega) ?_
    refine evT (by simp; omega) ?_
    rw [tmod_pos _ _ (by omega), tdiv_pos _ _ (by omega), wraps_u64 (n / 2) (by omega) (by omega), show (((w + 1 : Nat) : Int) - 1).toNat = w by omega, set_rep, wr _ (by omega), show (((w + 1 : Nat) : Int) - 1 - 1) = (w : Int) - 1 by omega]
    refine evR (ih (n / 2) ((n % 2 == 1) :: out) (by omega) (by omega)) ?_
    simp [dig]
theorem rdigits_ev (n w : Int) (hn : 0 ≤ n ∧ n ≤ 18446744073709551615) (hw : 0 ≤ w ∧ w ≤ 64) : Ev (fun k => serinetteref01_Digits.f k n w) (dig w.toNat n) := by
  unfold serinetteref01_Digits.f
  have e : serinetteref01_Width.f w = some w := by
    unfold serinetteref01_Width.f
    rw [mx_eq, mn_eq]
    congr 1
    omega
  refine evC e ?_
  refine evT (by omega) ?_
  refine evT (by omega) ?_
  rw [wr _ (by omega)]
  have := rdigits_loop w.toNat n [] hn (by omega)
  rw [List.append_nil, List.append_nil, show ((w.toNat : Nat) : Int) - 1 = w - 1 by omega] at this
  exact this
theorem rbits_loop (l : List Int) (hl : l.length ≤ 1000000000) (hr : ∀ x ∈ l, 0 ≤ x ∧ x ≤ 255) (d : Nat) : ∀ (i : Nat) (out : List Bool), i + d = l.length → out.length = 8 * i →
    Ev (fun k => serinetteref01_Bits.l0 k l out i) (out ++ bitsOf (l.drop i)) := by
  induction d with
  | zero =>
    intro i out hi ho
    refine Ev.step (fun k => serinetteref01_Bits.l0.eq_2 ..) ?_
    refine evF (by omega) ?_
    rw [List.drop_eq_nil_of_le (by omega)]
    simp only [bitsOf, List.flatMap_nil, List.append_nil]
    exact Ev.now _
  | succ d ih =>
    intro i out hi ho
    have hlt : i < l.length := by omega
    have hx := hr l[i] (List.getElem_mem hlt)
    refine Ev.step (fun k => serinetteref01_Bits.l0.eq_2 ..) ?_
    refine evT (by omega) ?_
    refine evT (by omega) ?_
    rw [rd_nat l i hlt, wraps_u64 _ (by omega) (by omega)]
    refine evB (rdigits_ev l[i] 8 (by omega) (by omega)) ?_
    refine evT (by rw [dig_length]; simp; omega) ?_
    rw [wr _ (by omega)]
    refine evR (ih (i + 1) (out ++ dig (Int.toNat 8) l[i]) (by omega) (by rw [List.length_append, dig_length]; simp; omega)) ?_
    unfold bitsOf
    rw [drop_cons_rd l i hlt, List.flatMap_cons, List.append_assoc]
    rfl
theorem rbits_ev (l : List Int) (hl : l.length ≤ 1000000000) (hr : ∀ x ∈ l, 0 ≤ x ∧ x ≤ 255) : Ev (fun k => serinetteref01_Bits.f k l) (bitsOf l) := by
  unfold serinetteref01_Bits.f
  exact rbits_loop l hl hr l.length 0 [] (by omega) rfl
end Go.Proofs.Ytdacblackoaphaa.FBoundFrames
namespace Go.Proofs.Ytdacblackoaphaa.FBoundFrames
open Go.RowKit Go.Proofs.YtdacblackoaphaaW.PrintWords Go.Proofs.YtdacblackoaphaaW.PrintLast Go.Proofs.Ytdacblackoaphaa.PBoundFrames Go.Proofs.Ytdacblackoaphaa.L
set_option linter.unusedVariables false
set_option linter.unusedSimpArgs false
theorem rgo_size (c : Int) (l : List Bool) (w by_ r : Int) (hw : w ≤ 30) (d : Nat) : ∀ (i : Nat), (i : Int) + d = w →
    Ev (fun k => serinetteref04_Go.l1 k c l by_ (2 ^ (i + d)) 0) r → Ev (fun k => serinetteref04_Go.l0 k c l w by_ (2 ^ i) i) r := by
  induction d with
  | zero =>
    intro i hi h
    refine Ev.step (fun k => serinetteref04_Go.l0.eq_2 ..) ?_
    refine evF (by omega) ?_
    exact h
  | succ d ih =>
    intro i hi h
    refine Ev.step (fun k => serinetteref04_Go.l0.eq_2 ..) ?_
    refine evT (by omega) ?_
    have hp : (2 : Int) * 2 ^ i = 2 ^ (i + 1) := by rw [Int.pow_succ]; omega
    have hb : (2 : Int) ^ (i + 1) ≤ 2 ^ 30 := by
      have : (2 : Nat) ^ (i + 1) ≤ 2 ^ 30 := Nat.pow_le_pow_right (by omega) (by omega)
      exact_mod_cast this
    have h0 : (0 : Int) ≤ 2 ^ (i + 1) := Int.pow_nonneg (by omega)
    have hb' : (2 : Int) ^ (i + 1) ≤ 1073741824 := hb
    rw [hp, wr _ (by omega), wr _ (by omega)]
    have := ih (i + 1) (by omega) (by rw [show i + 1 + d = i + (d + 1) by omega]; exact h)
    exact this
theorem rgo_loop (l : List Bool) (w by_ : Nat) (hw : 1 ≤ w ∧ w ≤ 30) (hb : by_ < 2 ^ w) (hl : l.length ≤ 1000000000000) (d : Nat) : ∀ (i : Nat) (c : Nat), i + d = l.length → c < 2 ^ w →
    Ev (fun k => serinetteref04_Go.l1 k (c : Int) l (by_ : Int) (2 ^ w) i) (crc w by_ c (l.drop i) : Int) := by
  have hp : (2 : Nat) ^ w ≤ 2 ^ 30 := Nat.pow_le_pow_right (by omega) (by omega)
  have hp0 : 0 < (2 : Nat) ^ w := Nat.two_pow_pos w
  have hpi : ((2 : Int) ^ w) = ((2 ^ w : Nat) : Int) := by simp
  have hq : (2 : Nat) ^ 30 = 1073741824 := rfl
  induction d with
  | zero =>
    intro i c hi hc
    refine Ev.step (fun k => serinetteref04_Go.l1.eq_2 ..) ?_
    refine evF (by omega) ?_
    rw [List.drop_eq_nil_of_le (by omega)]
    exact Ev.now _
  | succ d ih =>
    intro i c hi hc
    have hlt : i < l.length := by omega
    refine Ev.step (fun k => serinetteref04_Go.l1.eq_2 ..) ?_
    refine evT (by omega) ?_
    refine evF (by omega) ?_
    refine evT (by omega) ?_
    rw [wr (2 * (c : Int)) (by omega), tmod_pos _ _ (by omega), wr _ (by omega), hpi]
    have e1 : (2 * (c : Int)) % ((2 ^ w : Nat) : Int) = ((2 * c % 2 ^ w : Nat) : Int) := by simp
    have hm : 2 * c % 2 ^ w < 2 ^ w := Nat.mod_lt _ hp0
    have hr : rdOf false l (i : Int) = l[i] := by simp [rdOf, List.getD_eq_getElem?_getD, List.getElem?_eq_getElem hlt]
    have hd : decide (2 * (c : Int) ≥ ((2 ^ w : Nat) : Int)) = decide (2 ^ w ≤ 2 * c) := by rw [decide_eq_decide]; omega
    rw [e1, hr, hd, i64_xor _ _ (by omega) (by omega), drop_cons_rd' l i hlt]
    rw [← hpi]
    have s1 := ih (i + 1) (crcStep w by_ c l[i]) (by omega) (crcStep_lt w by_ c _ hb)
    refine evR ?_ (show (crc w by_ (crcStep w by_ c l[i]) (l.drop (i + 1)) : Int) = _ from rfl)
    by_cases e : (decide (2 ^ w ≤ 2 * c) != l[i]) = true
    · refine evT e ?_
      have : crcStep w by_ c l[i] = (2 * c % 2 ^ w) ^^^ by_ := by unfold crcStep; rw [if_pos e]
      rw [this] at s1 ⊢
      exact s1
    · refine evF e ?_
      have : crcStep w by_ c l[i] = 2 * c % 2 ^ w := by unfold crcStep; rw [if_neg e]
      rw [this] at s1 ⊢
      exact s1
theorem rgo_ev (c : Nat) (l : List Bool) (w by_ : Nat) (hw : 1 ≤ w ∧ w ≤ 30) (hb : by_ < 2 ^ w) (hl : l.length ≤ 1000000000000) (hc : c < 2 ^ w) :
    Ev (fun k => serinetteref04_Go.f k c l w by_) (crc w by_ c l : Int) := by
  unfold serinetteref04_Go.f
  refine rgo_size c l w by_ _ (by omega) w 0 (by omega) ?_
  rw [Nat.zero_add]
  exact rgo_loop l w by_ hw hb hl l.length 0 c (by omega) hc
end Go.Proofs.Ytdacblackoaphaa.FBoundFrames
namespace Go.Proofs.Ytdacblackoaphaa.FBoundFrames
open Go.RowKit Go.Proofs.YtdacblackoaphaaW.PrintWords Go.Proofs.YtdacblackoaphaaW.PrintLast Go.Proofs.Ytdacblackoaphaa.PBoundFrames Go.Proofs.Ytdacblackoaphaa.L
set_option linter.unusedVariables false
set_option linter.unusedSimpArgs false
theorem reight_ev (l : List Int) (hl : l.length ≤ 1000000000) (hr : ∀ x ∈ l, 0 ≤ x ∧ x ≤ 255) : Ev (fun k => serinetteref04_Eight.f k 0 l) (crc8 l) := by
  unfold serinetteref04_Eight.f
  refine evB (rbits_ev l hl hr) ?_
  have hb := bitsOf_length l
  have hc := crc8_rng l
  rw [wr 0 (by omega)]
  refine evB (rgo_ev 0 (bitsOf l) 8 7 (by omega) (by decide) (by omega) (by decide)) ?_
  refine evR (Ev.now _) ?_
  show crc8 l % 256 = crc8 l
  omega
end Go.Proofs.Ytdacblackoaphaa.FBoundFrames
namespace Go.Proofs.Ytdacblackoaphaa.FBoundFrames
open Go.RowKit Go.Proofs.YtdacblackoaphaaW.PrintWords Go.Proofs.YtdacblackoaphaaW.PrintLast Go.Proofs.Ytdacblackoaphaa.PBoundFrames Go.Proofs.Ytdacblackoaphaa.L
set_option linter.unusedVariables false
set_option linter.unusedSimpArgs false
theorem rcode_loop (n : Int) (l : List Int) (hl : l.length ≤ 1000) (d : Nat) : ∀ (i : Nat), i + d = l.length →
    Ev (fun k => serinetteref17_code.l0 k n l i) (if n > 0 then codeAt n (l.drop i) i else 0) := by
  induction d with
  | zero =>
    intro i hi
    refine Ev.step (fun k => serinetteref17_code.l0.eq_2 ..) ?_
    refine evF (by omega) ?_
    rw [List.drop_eq_nil_of_le (by omega)]
    simp only [codeAt]
    split <;> exact Ev.now _
  | succ d ih =>
    intro i hi
    have hlt : i < l.length := by omega
    refine Ev.step (fun k => serinetteref17_code.l0.eq_2 ..) ?_
    refine evT (by omega) ?_
    rw [wr _ (by omega)]
    have h := ih (i + 1) (by omega)
    rw [drop_cons_rd l i hlt]
    by_cases c : n > 0
    · rw [if_pos c] at h ⊢
      refine evT c ?_
      refine evT (by omega) ?_
      rw [rd_nat l i hlt]
      unfold codeAt
      exact evIte (fun e => by rw [if_pos e]; exact Ev.now _) (fun e => by rw [if_neg e]; exact h)
    · rw [if_neg c] at h ⊢
      refine evF c ?_
      exact h
theorem rcode_ev (n : Int) (l : List Int) (hl : l.length ≤ 1000) (h1 : 1 ≤ l.length) : Ev (fun k => serinetteref17_code.f k n l) (codeOf n l) := by
  unfold serinetteref17_code.f codeOf
  exact rcode_loop n l hl (l.length - 1) 1 (by omega)
/-- What is put behind all parts. -/
theorem rput_j5 (x5 x6 x7 : Int) (x8 : List Int) (b r m d n : Int) (v : Bool) (hb : 0 ≤ x5 ∧ x5 ≤ 15) (hr : 0 ≤ x6 ∧ x6 ≤ 15) (hd : 0 ≤ x7 ∧ x7 ≤ 7) (hm : 0 ≤ m ∧ m ≤ 10)
    (hn : 0 ≤ n ∧ n ≤ 68719476735) (hl : x8.length ≤ 4) (h8 : ∀ x ∈ x8, 0 ≤ x ∧ x ≤ 255) (out : List Int) (ho : out = [255, if v then 249 else 248, 16 * x5 + x6, 16 * m + 2 * x7] ++ encBytes n ++ x8) :
    Ev (fun k => serinetteref17_Put.j5 k x5 x6 x7 x8 b r m d n v) (out ++ [crc8 out], 0) := by
  have he := encBytes_length n
  have hz := nsize_rng n
  have hlen : out.length ≤ 15 := by
    rw [ho]
    simp only [List.length_append, List.length_cons, List.length_nil]
    omega
  have hrange : ∀ x ∈ out, 0 ≤ x ∧ x ≤ 255 := by
    intro x hx
    rw [ho] at hx
    simp only [List.mem_append, List.mem_cons, List.not_mem_nil, or_false] at hx
    rcases hx with ((rfl | rfl | rfl | rfl) | hx) | hx
    · omega
    · split <;> omega
    · omega
    · omega
    · exact encBytes_rng n hn.1 hn.2 x hx
    · exact h8 x hx
  have e8 := reight_ev out (by omega) hrange
  refine Ev.step (fun k => serinetteref17_Put.j5.eq_2 ..) ?_
  rw [wr (16 * x5) (by omega), wr (16 * x5 + x6) (by omega), wr (16 * m) (by omega), wr (2 * x7) (by omega), wr (16 * m + 2 * x7) (by omega),
    show (16 * x5 + x6) % 256 = 16 * x5 + x6 by omega, show (16 * m + 2 * x7) % 256 = 16 * m + 2 * x7 by omega]
  have go : ∀ (y : Int), out = [255, y, 16 * x5 + x6, 16 * m + 2 * x7] ++ encBytes n ++ x8 →
      Ev (fun k => (serinetteref03_Encode.f k n).bind fun bt => ((some ([255, y, 16 * x5 + x6, 16 * m + 2 * x7] : List Int)).bind fun y221 => (if y221.length + bt.1.length < 140737488355328 then ((some (y221 ++ bt.1 : List Int)).bind fun y224 => (if y224.length + x8.length < 140737488355328 then ((some (y224 ++ x8 : List Int)).bind fun y227 => ((serinetteref04_Eight.f k 0 y227).bind fun t230 => (if y227.length < 140737488355328 then (some ((y227 ++ [t230]), (0 : Int))) else (none)))) else (none))) else (none)))) (out ++ [crc8 out], 0) := by
    intro y hy
    refine evB (renc_in n hn.1 hn.2) ?_
    refine evC rfl ?_
    refine evT (by simp; omega) ?_
    refine evC rfl ?_
    refine evT (by simp; omega) ?_
    refine evC rfl ?_
    rw [← hy]
    refine evB e8 ?_
    refine evT (by omega) ?_
    exact Ev.now _
  cases v with
  | true => exact evT rfl (go 249 ho)
  | false => exact evF (by decide) (go 248 ho)
/-- The rate's part. -/
theorem rput_j2 (x5 x7 : Int) (x8 : List Int) (b r m d n : Int) (v : Bool) (hb : 0 ≤ x5 ∧ x5 ≤ 15) (hr : 0 ≤ r ∧ r ≤ 1048575) (hd : 0 ≤ x7 ∧ x7 ≤ 7) (hm : 0 ≤ m ∧ m ≤ 10)
    (hn : 0 ≤ n ∧ n ≤ 68719476735) (hl : x8.length ≤ 2) (h8 : ∀ x ∈ x8, 0 ≤ x ∧ x ≤ 255) (out : List Int) (ho : out = [255, if v then 249 else 248, 16 * x5 + rateCode r, 16 * m + 2 * x7] ++ encBytes n ++ (x8 ++ rateMore r)) :
    Ev (fun k => serinetteref17_Put.j2 k x5 (codeOf r hRates) x7 x8 b r m d n v) (out ++ [crc8 out], 0) := by
  have hc := codeOf_lt r hRates (by decide)
  have hc' : (hRates.length : Int) = 16 := rfl
  refine Ev.step (fun k => serinetteref17_Put.j2.eq_2 ..) ?_
  by_cases c0 : codeOf r hRates ≠ 0 ∨ r ≤ 0
  · have e1 : rateCode r = codeOf r hRates := by unfold rateCode; rw [if_pos c0]
    have e2 : rateMore r = [] := by unfold rateMore; rw [if_pos c0]
    rw [e1, e2, List.append_nil] at ho
    have h5 := rput_j5 x5 (codeOf r hRates) x7 x8 b r m d n v hb (by omega) hd hm hn (by omega) h8 out ho
    have h3 : Ev (fun k => serinetteref17_Put.j3 k x5 (codeOf r hRates) x7 x8 false b r m d n v) (out ++ [crc8 out], 0) := by
      refine Ev.step (fun k => serinetteref17_Put.j3.eq_2 ..) ?_
      exact evF (by decide) h5
    by_cases c1 : codeOf r hRates = 0
    · refine evT c1 ?_
      rw [decide_eq_false (by omega)]
      exact h3
    · exact evF c1 h3
  have c1 : codeOf r hRates = 0 := by omega
  refine evT c1 ?_
  rw [decide_eq_true (by omega)]
  refine Ev.step (fun k => serinetteref17_Put.j3.eq_2 ..) ?_
  refine evT rfl ?_
  rw [tmod_pos _ _ hr.1]
  have h4 : ¬ (r % 1000 = 0 ∧ r ≤ 255000) → Ev (fun k => serinetteref17_Put.j4 k x5 (codeOf r hRates) x7 x8 false b r m d n v) (out ++ [crc8 out], 0) := by
    intro c2
    refine Ev.step (fun k => serinetteref17_Put.j4.eq_2 ..) ?_
    refine evF (by decide) ?_
    rw [tdiv_pos _ _ hr.1, tdiv_pos _ _ hr.1, tmod_pos _ _ hr.1, tmod_pos _ _ hr.1, wr (r / 256) (by omega), wr (r / 10) (by omega), tdiv_pos _ _ (by omega), tmod_pos _ _ (by omega), wr (r / 10 / 256) (by omega)]
    by_cases c3 : r ≤ 65535
    · have e1 : rateCode r = 13 := by unfold rateCode; rw [if_neg c0, if_neg c2, if_pos c3]
      have e2 : rateMore r = [r / 256, r % 256] := by unfold rateMore; rw [if_neg c0, if_neg c2, if_pos c3]
      rw [e1, e2] at ho
      refine evT c3 ?_
      refine evC rfl ?_
      refine evT (by simp; omega) ?_
      rw [show (r / 256) % 256 = r / 256 by omega, show r % 256 % 256 = r % 256 by omega]
      refine rput_j5 x5 13 x7 _ b r m d n v hb (by omega) hd hm hn (by simp; omega) ?_ out ho
      intro x hx
      simp only [List.mem_append, List.mem_cons, List.not_mem_nil, or_false] at hx
      rcases hx with hx | rfl | rfl
      · exact h8 x hx
      · omega
      · omega
    refine evF c3 ?_
    by_cases c4 : r % 10 = 0
    · refine evT c4 ?_
      by_cases c5 : r ≤ 655350
      · have e1 : rateCode r = 14 := by unfold rateCode; rw [if_neg c0, if_neg c2, if_neg c3, if_pos ⟨c4, c5⟩]
        have e2 : rateMore r = [r / 10 / 256, r / 10 % 256] := by unfold rateMore; rw [if_neg c0, if_neg c2, if_neg c3, if_pos ⟨c4, c5⟩]
        rw [e1, e2] at ho
        refine evT c5 ?_
        refine evC rfl ?_
        refine evT (by simp; omega) ?_
        rw [show (r / 10 / 256) % 256 = r / 10 / 256 by omega, show r / 10 % 256 % 256 = r / 10 % 256 by omega]
        refine rput_j5 x5 14 x7 _ b r m d n v hb (by omega) hd hm hn (by simp; omega) ?_ out ho
        intro x hx
        simp only [List.mem_append, List.mem_cons, List.not_mem_nil, or_false] at hx
        rcases hx with hx | rfl | rfl
        · exact h8 x hx
        · omega
        · omega
      · have e1 : rateCode r = codeOf r hRates := by unfold rateCode; rw [if_neg c0, if_neg c2, if_neg c3, if_neg (by omega), c1]
        have e2 : rateMore r = [] := by unfold rateMore; rw [if_neg c0, if_neg c2, if_neg c3, if_neg (by omega)]
        rw [e1, e2, List.append_nil] at ho
        exact evF c5 (rput_j5 x5 _ x7 x8 b r m d n v hb (by omega) hd hm hn (by omega) h8 out ho)
    · have e1 : rateCode r = codeOf r hRates := by unfold rateCode; rw [if_neg c0, if_neg c2, if_neg c3, if_neg (by omega), c1]
      have e2 : rateMore r = [] := by unfold rateMore; rw [if_neg c0, if_neg c2, if_neg c3, if_neg (by omega)]
      rw [e1, e2, List.append_nil] at ho
      exact evF c4 (rput_j5 x5 _ x7 x8 b r m d n v hb (by omega) hd hm hn (by omega) h8 out ho)
  by_cases c2 : r % 1000 = 0
  · refine evT c2 ?_
    by_cases c3 : r ≤ 255000
    · have e1 : rateCode r = 12 := by unfold rateCode; rw [if_neg c0, if_pos ⟨c2, c3⟩]
      have e2 : rateMore r = [r / 1000] := by unfold rateMore; rw [if_neg c0, if_pos ⟨c2, c3⟩]
      rw [e1, e2] at ho
      rw [decide_eq_true c3]
      refine Ev.step (fun k => serinetteref17_Put.j4.eq_2 ..) ?_
      refine evT rfl ?_
      refine evT (by omega) ?_
      rw [tdiv_pos _ 1000 hr.1, wr (r / 1000) (by omega), show (r / 1000) % 256 = r / 1000 by omega]
      refine rput_j5 x5 12 x7 _ b r m d n v hb (by omega) hd hm hn (by simp; omega) ?_ out ho
      intro x hx
      simp only [List.mem_append, List.mem_cons, List.not_mem_nil, or_false] at hx
      rcases hx with hx | rfl
      · exact h8 x hx
      · omega
    · rw [decide_eq_false c3]
      exact h4 (by omega)
  · exact evF c2 (h4 (by omega))
theorem rput_ok (b r m d n : Int) (v : Bool) (h : headCheck b r m d n v = 0) (hb : 1 ≤ b ∧ b ≤ 65535) (hr : 0 ≤ r ∧ r ≤ 1048575) (hm : 0 ≤ m ∧ m ≤ 10) (hn : 0 ≤ n ∧ n ≤ 68719476735) :
    Ev (fun k => serinetteref17_Put.f k b r m d n v) (headBytes b r m d n v, 0) := by
  have hcb := codeOf_lt b hBlocks (by decide)
  have hcb' : (hBlocks.length : Int) = 16 := rfl
  have hcd := depthCode_rng d
  unfold serinetteref17_Put.f
  refine evB (rcheck_ev b r m d n v) ?_
  refine evT h ?_
  refine evC rfl ?_
  refine evB (rcode_ev b hBlocks (by decide) (by decide)) ?_
  refine evC rfl ?_
  refine evB (rcode_ev r hRates (by decide) (by decide)) ?_
  refine evC rfl ?_
  refine evB (rcode_ev d hDepths (by decide) (by decide)) ?_
  have fin : ∀ x : Bool, x = decide (codeOf b hBlocks = 0 ∧ b ≤ 256) → Ev (fun k => serinetteref17_Put.j0 k (codeOf b hBlocks) (codeOf r hRates) (codeOf d hDepths) [] x b r m d n v) (headBytes b r m d n v, 0) := by
    intro x hx
    refine Ev.step (fun k => serinetteref17_Put.j0.eq_2 ..) ?_
    unfold headBytes
    by_cases c1 : codeOf b hBlocks = 0
    · by_cases c2 : b ≤ 256
      · rw [decide_eq_true ⟨c1, c2⟩] at hx
        have e1 : blockCode b = 6 := by unfold blockCode; rw [if_neg (by omega), if_pos c2]
        have e2 : blockMore b = [b - 1] := by unfold blockMore; rw [if_neg (by omega), if_pos c2]
        refine evT hx ?_
        refine evT (by simp) ?_
        refine Ev.step (fun k => serinetteref17_Put.j1.eq_2 ..) ?_
        refine evF (by omega) ?_
        rw [wr (b - 1) (by omega), show (b - 1) % 256 = b - 1 by omega]
        refine rput_j2 6 _ _ b r m d n v (by omega) hr hcd hm hn (by simp) ?_ _ ?_
        · intro x hx; simp at hx; omega
        · unfold headBody; rw [e1, e2]; rfl
      · rw [decide_eq_false (by omega)] at hx
        have e1 : blockCode b = 7 := by unfold blockCode; rw [if_neg (by omega), if_neg c2]
        have e2 : blockMore b = [(b - 1) / 256, (b - 1) % 256] := by unfold blockMore; rw [if_neg (by omega), if_neg c2]
        refine evF (by rw [hx]; decide) ?_
        refine Ev.step (fun k => serinetteref17_Put.j1.eq_2 ..) ?_
        refine evT c1 ?_
        refine evC rfl ?_
        refine evT (by simp) ?_
        rw [wr (b - 1) (by omega), tdiv_pos _ _ (by omega), tmod_pos _ _ (by omega), wr ((b - 1) / 256) (by omega), show (b - 1) / 256 % 256 = (b - 1) / 256 by omega, show (b - 1) % 256 % 256 = (b - 1) % 256 by omega]
        refine rput_j2 7 _ _ b r m d n v (by omega) hr hcd hm hn (by simp) ?_ _ ?_
        · intro x hx; simp at hx; omega
        · unfold headBody; rw [e1, e2]; rfl
    · rw [decide_eq_false (by omega)] at hx
      have e1 : blockCode b = codeOf b hBlocks := by unfold blockCode; rw [if_pos c1]
      have e2 : blockMore b = [] := by unfold blockMore; rw [if_pos c1]
      refine evF (by rw [hx]; decide) ?_
      refine Ev.step (fun k => serinetteref17_Put.j1.eq_2 ..) ?_
      refine evF c1 ?_
      refine rput_j2 _ _ _ b r m d n v (by omega) hr hcd hm hn (by simp) ?_ _ ?_
      · intro x hx; simp at hx
      · unfold headBody; rw [e1, e2]
  by_cases c1 : codeOf b hBlocks = 0
  · exact evT c1 (fin _ (by rw [decide_eq_decide]; omega))
  · exact evF c1 (fin _ (by simp [c1]))
theorem rput_bad (b r m d n : Int) (v : Bool) (h : headCheck b r m d n v ≠ 0) : Ev (fun k => serinetteref17_Put.f k b r m d n v) ([], headCheck b r m d n v) := by
  unfold serinetteref17_Put.f
  refine evB (rcheck_ev b r m d n v) ?_
  exact evF h (Ev.now _)
end Go.Proofs.Ytdacblackoaphaa.FBoundFrames
