/- Facts on a header's functions (Channels, Check, Put): what they answer, in plain numbers. For any header. -/
import Derived.Test.YtbohlcccdcilkaaHput
import Derived.Test.YtbohlcccdcilkaaLEv
import Derived.Test.YtbohlcccdcilkaaLNum
import Derived.Test.YtbohlcccdcilkaaLEnc
import Derived.Test.YtbohlcccdcilkaaLBits
import Derived.Test.YtbohlcccdcilkaaLHead
import Derived.Test.YtbohlcccdcilkaaFHeadAll
namespace Go.Proofs.Ytbohlcccdcilkaa.Pure
open Go.RowKit Go.Proofs.YtbohlcccdcilkaaW.PrintWords Go.Proofs.YtbohlcccdcilkaaW.PrintLast Go.Proofs.Ytbohlcccdcilkaa.H Go.Proofs.Ytbohlcccdcilkaa.L Go.Proofs.Ytbohlcccdcilkaa.FHead
set_option linter.unusedVariables false
set_option linter.unusedSimpArgs false
theorem hchan_ev (m : Int) (h : 0 ≤ m ∧ m ≤ 10 ∨ m < 0 ∨ m ≥ 11) : Ev (fun k => head_Channels.f k m) (if m < 0 ∨ m ≥ 11 then 0 else if m < 8 then m + 1 else 2) := by
  unfold head_Channels.f
  have j (x : Bool) (hx : x = true ∨ 0 ≤ m ∧ m ≤ 10) : Ev (fun k => head_Channels.j0 k m x) (if x = true then 0 else if m < 8 then m + 1 else 2) := by
    refine Ev.step (fun k => head_Channels.j0.eq_2 ..) ?_
    by_cases c : x = true
    · exact evTT c (Ev.now _)
    refine evFF c ?_
    have hm : 0 ≤ m ∧ m ≤ 10 := hx.resolve_left c
    by_cases c1 : m < 8
    · refine evT c1 ?_
      rw [if_pos c1, wr _ (by omega)]
      exact Ev.now _
    · refine evF c1 ?_
      rw [if_neg c1]
      exact Ev.now _
  by_cases c : m < 0
  · refine evT c ?_
    rw [if_pos (Or.inl c)]
    exact evR (j true (.inl rfl)) rfl
  · refine evF c ?_
    by_cases c1 : m ≥ 11
    · rw [if_pos (Or.inr c1), decide_eq_true c1]
      exact evR (j true (.inl rfl)) rfl
    · rw [if_neg (by omega), decide_eq_false c1]
      exact evR (j false (.inr (by omega))) rfl
theorem hcheck_j3 (b r m d n X : Int) (v x : Bool) : Ev (fun k => head_Check.j3 k X x b r m d n v) (if x = true then 10 else if n < 0 ∨ n > X then 6 else 0) := by
  refine Ev.step (fun k => head_Check.j3.eq_2 ..) ?_
  by_cases c : x = true
  · exact evTT c (Ev.now _)
  refine evFF c ?_
  by_cases c1 : n < 0
  · refine evT c1 ?_
    rw [if_pos (Or.inl c1)]; exact Ev.now _
  refine evF c1 ?_
  by_cases c2 : n > X
  · refine evT c2 ?_
    rw [if_pos (Or.inr c2)]; exact Ev.now _
  refine evF c2 ?_
  rw [if_neg (by omega)]; exact Ev.now _
theorem hcheck_j2 (b r m d n X : Int) (v x : Bool) : Ev (fun k => head_Check.j2 k X x b r m d n v)
    (if x = true then 11 else if m < 0 ∨ m > 10 then 12 else if d ≠ 0 ∧ (d < 4 ∨ d > 32) then 10 else if n < 0 ∨ n > X then 6 else 0) := by
  refine Ev.step (fun k => head_Check.j2.eq_2 ..) ?_
  by_cases c : x = true
  · exact evTT c (Ev.now _)
  refine evFF c ?_
  refine evB (hchan_ev m (by omega)) ?_
  by_cases c0 : m < 0 ∨ m > 10
  · rw [if_pos (show m < 0 ∨ m ≥ 11 by omega)]
    refine evT rfl ?_
    rw [if_pos c0]; exact Ev.now _
  refine evF (by rw [if_neg (by omega)]; split <;> omega) ?_
  rw [if_neg c0]
  by_cases c1 : d = 0
  · refine evT c1 ?_
    rw [if_neg (by omega)]
    exact evR (hcheck_j3 b r m d n X v false) (by rfl)
  refine evF c1 ?_
  refine evR (ev_or (fun k y => head_Check.j3 k X y b r m d n v) _ (hcheck_j3 b r m d n X v)) ?_
  simp [c1]
theorem hcheck_j1 (b r m d n X : Int) (v x : Bool) : Ev (fun k => head_Check.j1 k X x b r m d n v)
    (if x = true then 15 else if r < 0 ∨ r > 1048575 then 11 else if m < 0 ∨ m > 10 then 12 else if d ≠ 0 ∧ (d < 4 ∨ d > 32) then 10 else if n < 0 ∨ n > X then 6 else 0) := by
  refine Ev.step (fun k => head_Check.j1.eq_2 ..) ?_
  by_cases c : x = true
  · exact evTT c (Ev.now _)
  refine evFF c ?_
  refine evR (ev_or (fun k y => head_Check.j2 k X y b r m d n v) _ (hcheck_j2 b r m d n X v)) ?_
  simp
theorem hcheck_j0 (b r m d n X : Int) (v : Bool) : Ev (fun k => head_Check.j0 k X b r m d n v)
    (if b < 1 ∨ b > 65535 then 15 else if r < 0 ∨ r > 1048575 then 11 else if m < 0 ∨ m > 10 then 12 else if d ≠ 0 ∧ (d < 4 ∨ d > 32) then 10 else if n < 0 ∨ n > X then 6 else 0) := by
  refine Ev.step (fun k => head_Check.j0.eq_2 ..) ?_
  refine evR (ev_or (fun k y => head_Check.j1 k X y b r m d n v) _ (hcheck_j1 b r m d n X v)) ?_
  simp
theorem hcheck_ev (b r m d n : Int) (v : Bool) : Ev (fun k => head_Check.f k b r m d n v) (headCheck b r m d n v) := by
  unfold head_Check.f headCheck
  cases v
  · refine evF (by decide) ?_
    refine evR (hcheck_j0 b r m d n 2147483647 false) ?_
    have e : (n < 0 ∨ n > 68719476735 ∨ (True ∧ n > 2147483647)) ↔ (n < 0 ∨ n > 2147483647) := by simp; omega
    simp only [e]
  · refine evT rfl ?_
    refine evR (hcheck_j0 b r m d n 68719476735 true) ?_
    simp
theorem headCheck_zero {b r m d n : Int} {v : Bool} (h : headCheck b r m d n v = 0) : (1 ≤ b ∧ b ≤ 65535) ∧ (0 ≤ r ∧ r ≤ 1048575) ∧ (0 ≤ m ∧ m ≤ 10) ∧ (0 ≤ n ∧ n ≤ 68719476735) := by
  unfold headCheck at h
  repeat' split at h
  all_goals first | omega | (exfalso; omega)
theorem own_codeAt (n : Int) (hn : 0 < n) : ∀ (l : List Int) (i : Int), 0 ≤ i → mx 0 (ownAt n l i) = codeAt n l i
  | [], i, h => by simp only [ownAt, codeAt, mx_eq]; decide
  | x :: l, i, h => by
    unfold ownAt codeAt
    by_cases c : x = n
    · rw [if_pos ⟨c, hn⟩, if_pos c, mx_eq]; omega
    · rw [if_neg (fun y => c y.1), if_neg c]
      exact own_codeAt n hn l (i + 1) (by omega)
theorem own_none (n : Int) (hn : ¬ 0 < n) : ∀ (l : List Int) (i : Int), ownAt n l i = -1
  | [], i => rfl
  | x :: l, i => by
    unfold ownAt
    rw [if_neg (fun y => hn y.2)]
    exact own_none n hn l (i + 1)
theorem own_code (n : Int) (l : List Int) : mx 0 (ownAt n (0 :: l) 0) = codeOf n (0 :: l) := by
  unfold codeOf
  by_cases c : 0 < n
  · rw [if_pos (show n > 0 from c)]
    unfold ownAt
    rw [if_neg (fun y => by omega)]
    exact own_codeAt n c l 1 (by omega)
  · rw [if_neg (show ¬ n > 0 from c), own_none n c, mx_eq]; omega
theorem dig_eight : ∀ x : Fin 256, dig 8 (x.val : Int) = dig 4 ((x.val : Int) / 16) ++ dig 4 ((x.val : Int) % 16) := by decide +kernel
theorem four_crc : ∀ (c : Fin 256) (x : Fin 16), fourP (c.val : Int) (x.val : Int) = (crc 8 7 c.val (dig 4 (x.val : Int)) : Int) := by decide +kernel
theorem four_crc' (c : Nat) (hc : c < 256) (x : Int) (h : 0 ≤ x ∧ x ≤ 15) : fourP (c : Int) x = (crc 8 7 c (dig 4 x) : Int) := by
  have := four_crc ⟨c, hc⟩ ⟨x.toNat, by omega⟩
  simpa [Int.toNat_of_nonneg h.1] using this
theorem crc_append (w p c : Nat) (l l' : List Bool) : crc w p c (l ++ l') = crc w p (crc w p c l) l' := by unfold crc; rw [List.foldl_append]
theorem reg_crc : ∀ (l : List Int) (c : Nat), (∀ x ∈ l, 0 ≤ x ∧ x ≤ 255) → c < 256 → reg8 l (c : Int) = (crc 8 7 c (bitsOf l) : Int)
  | [], c, _, _ => rfl
  | x :: l, c, h, hc => by
    have hx := h x (List.mem_cons_self ..)
    have e1 := dig_eight ⟨x.toNat, by omega⟩
    simp only [Int.toNat_of_nonneg hx.1] at e1
    have k1 := crc_lt 8 7 (by decide) (dig 4 (x / 16)) c hc
    show reg8 l (fourP (fourP (c : Int) (x / 16)) (x % 16)) = _
    rw [four_crc' c hc (x / 16) (by omega), four_crc' _ k1 (x % 16) (by omega), reg_crc l _ (fun y hy => h y (List.mem_cons_of_mem _ hy)) (crc_lt 8 7 (by decide) _ _ k1)]
    unfold bitsOf
    rw [List.flatMap_cons, e1, crc_append, crc_append]
theorem reg_crc8 (l : List Int) (h : ∀ x ∈ l, 0 ≤ x ∧ x ≤ 255) : reg8 l 0 = crc8 l := reg_crc l 0 h (by decide)
theorem or_nib : ∀ a b : Fin 16, Go.bits .or .i64 (wrap64 ((a.val : Int) * 16)) (b.val : Int) % 256 = 16 * (a.val : Int) + (b.val : Int) := by decide +kernel
theorem or_nib' (a b : Int) (ha : 0 ≤ a ∧ a ≤ 15) (hb : 0 ≤ b ∧ b ≤ 15) : Go.bits .or .i64 (wrap64 (a * 16)) b % 256 = 16 * a + b := by
  have := or_nib ⟨a.toNat, by omega⟩ ⟨b.toNat, by omega⟩
  simpa only [Int.toNat_of_nonneg ha.1, Int.toNat_of_nonneg hb.1] using this
theorem or_mode (m d : Int) (hm : 0 ≤ m ∧ m ≤ 10) (hd : 0 ≤ d ∧ d ≤ 7) : Go.bits .or .i64 (wrap64 (m * 16)) (wrap64 (d * 2)) % 256 = 16 * m + 2 * d := by
  have e : wrap64 (d * 2) = 2 * d := by rw [wr _ (by omega)]; omega
  rw [e]
  exact or_nib' m (2 * d) (by omega) (by omega)
theorem blockP_eq (b : Int) (hb : 1 ≤ b ∧ b ≤ 65535) : blockP b = (blockCode b, blockMore b) := by
  have e : mx 0 (ownAt b BLOCKS 0) = codeOf b hBlocks := own_code b _
  have h := codeOf_lt b hBlocks (by decide)
  unfold blockP blockCode blockMore
  rw [e]
  by_cases c : codeOf b hBlocks ≠ 0
  · rw [if_pos (by omega), if_pos c, if_pos c]
  · rw [if_neg (by omega), if_neg c, if_neg c]
    by_cases c1 : b ≤ 256
    · rw [if_pos c1, if_pos c1, if_pos c1, show (b - 1) % 256 = b - 1 by omega]
    · rw [if_neg c1, if_neg c1, if_neg c1, show (b - 1) / 256 % 256 = (b - 1) / 256 by omega]
theorem rateP_eq (r : Int) (hr : 0 ≤ r ∧ r ≤ 1048575) : rateP r = (rateCode r, rateMore r) := by
  have e : mx 0 (ownAt r RATES 0) = codeOf r hRates := own_code r _
  have h := codeOf_lt r hRates (by decide)
  unfold rateP rateCode rateMore
  rw [e]
  by_cases c : codeOf r hRates ≠ 0 ∨ r ≤ 0
  · rw [if_pos (by omega), if_pos c, if_pos c]
  · rw [if_neg (by omega), if_neg c, if_neg c]
    by_cases c1 : r % 1000 = 0 ∧ r ≤ 255000
    · rw [if_pos c1, if_pos c1, if_pos c1, show r / 1000 % 256 = r / 1000 by omega]
    rw [if_neg c1, if_neg c1, if_neg c1]
    by_cases c2 : r ≤ 65535
    · rw [if_pos c2, if_pos c2, if_pos c2, show r / 256 % 256 = r / 256 by omega]
    rw [if_neg c2, if_neg c2, if_neg c2]
    by_cases c3 : r % 10 = 0 ∧ r ≤ 655350
    · rw [if_pos c3, if_pos c3, if_pos c3, show r / 10 / 256 % 256 = r / 10 / 256 by omega]
    · rw [if_neg c3, if_neg c3, if_neg c3]
theorem putB_eq (b r m d n : Int) (v : Bool) (hb : 1 ≤ b ∧ b ≤ 65535) (hr : 0 ≤ r ∧ r ≤ 1048575) (hm : 0 ≤ m ∧ m ≤ 10) : putB b r m (codeOf d hDepths) v (encBytes n) = headBody b r m d n v := by
  unfold putB headBody
  rw [blockP_eq b hb, rateP_eq r hr]
  dsimp only
  rw [or_nib' _ _ (blockCode_rng b) (rateCode_rng r), or_mode _ _ hm (depthCode_rng d), List.append_assoc]
theorem hput_ok (b r m d n : Int) (v : Bool) (h : headCheck b r m d n v = 0) : Ev (fun k => head_Put.f k b r m d n v) (headBytes b r m d n v, 0) := by
  obtain ⟨hb, hr, hm, hn⟩ := headCheck_zero h
  unfold head_Put.f
  refine evB (hcheck_ev b r m d n v) ?_
  refine evT h ?_
  refine evT ⟨hb.1, hb.2, hr.1, hr.2⟩ ?_
  refine evB (enc_in n hn.1 hn.2) ?_
  have ho : head_own.f d DEPTHS = some (codeOf d hDepths) := by
    unfold head_own.f
    rw [if_pos (by decide)]
    exact congrArg some (own_code d _)
  refine evC ho ?_
  have hrng := headBody_rng b r m d n v hb hr hm hn
  have hlen := headBody_len b r m d n v
  have hml := more_len b r
  have hz := nsize_rng n
  have he := encBytes_length n
  dsimp only
  rw [putB_eq b r m d n v hb hr hm, blockP_eq b hb, rateP_eq r hr]
  refine evT (by dsimp only; simp only [List.length_append]; omega) ?_
  have h8 : checks_Eight.f (headBody b r m d n v) = some (crc8 (headBody b r m d n v)) := by
    unfold checks_Eight.f
    rw [if_pos ⟨by omega, List.all_eq_true.mpr fun x hx => by simpa using hrng x hx⟩, reg_crc8 _ hrng]
  refine evC h8 ?_
  exact Ev.now _
theorem hput_bad (b r m d n : Int) (v : Bool) (h : headCheck b r m d n v ≠ 0) : Ev (fun k => head_Put.f k b r m d n v) ([], headCheck b r m d n v) := by
  unfold head_Put.f
  refine evB (hcheck_ev b r m d n v) ?_
  refine evF h ?_
  exact Ev.now _
theorem headBytes_len (b r m d n : Int) (v : Bool) : 6 ≤ (headBytes b r m d n v).length ∧ (headBytes b r m d n v).length ≤ 16 ∧ ((headBytes b r m d n v).length : Int) = 5 + nsize n + (blockMore b).length + (rateMore r).length := by
  have h1 := headBody_len b r m d n v
  have h2 := more_len b r
  have h3 := nsize_rng n
  have e : (headBytes b r m d n v).length = (headBody b r m d n v).length + 1 := by unfold headBytes; simp
  omega
end Go.Proofs.Ytbohlcccdcilkaa.Pure
