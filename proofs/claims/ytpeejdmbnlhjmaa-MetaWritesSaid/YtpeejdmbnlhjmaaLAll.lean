/- Facts, put together from several texts. -/
import Derived.Test.YtpeejdmbnlhjmaaWMore
import Derived.Test.YtpeejdmbnlhjmaaWLast
import Derived.Lib.Strings
import Derived.Laws.RangeAny
namespace Go.Proofs.Ytpeejdmbnlhjmaa.L
open Go.RowKit Go.Proofs.YtpeejdmbnlhjmaaW.PrintWords Go.Proofs.YtpeejdmbnlhjmaaW.PrintLast
set_option linter.unusedVariables false
set_option linter.unusedSimpArgs false
theorem wr (n : Int) (h : -9223372036854775808 ≤ n ∧ n ≤ 9223372036854775807) : wrap64 n = n := by unfold wrap64; omega
theorem tdiv_pos (a b : Int) (h : 0 ≤ a) : Int.tdiv a b = a / b := Int.tdiv_eq_ediv_of_nonneg h
theorem tmod_pos (a b : Int) (h : 0 ≤ a) : Int.tmod a b = a % b := Int.tmod_eq_emod_of_nonneg h
theorem mx_eq (a b : Int) : mx a b = max a b := by unfold mx; omega
theorem mn_eq (a b : Int) : mn a b = min a b := by unfold mn; omega
section
variable {α β : Type}
theorem evS {a : Option α} {r : α} (h : a = some r) : Ev (fun _ => a) r := ⟨0, fun _ _ => h⟩
theorem evT {c : Prop} [Decidable c] {a b : Nat → Option α} {r : α} (h : c) (e : Ev a r) : Ev (fun k => if c then a k else b k) r := by
  obtain ⟨K, e⟩ := e
  exact ⟨K, fun k hk => by simp only [if_pos h]; exact e k hk⟩
theorem evF {c : Prop} [Decidable c] {a b : Nat → Option α} {r : α} (h : ¬ c) (e : Ev b r) : Ev (fun k => if c then a k else b k) r := by
  obtain ⟨K, e⟩ := e
  exact ⟨K, fun k hk => by simp only [if_neg h]; exact e k hk⟩
theorem evIte {c : Prop} [Decidable c] {a b : Nat → Option α} {r : α} (h : c → Ev a r) (h' : ¬ c → Ev b r) : Ev (fun k => if c then a k else b k) r := by
  by_cases e : c
  · exact evT e (h e)
  · exact evF e (h' e)
theorem evI {c : Prop} [Decidable c] {a b : Nat → Option α} {r q : α} (h : Ev a r) (h' : Ev b q) : Ev (fun k => if c then a k else b k) (if c then r else q) := by
  by_cases e : c
  · rw [if_pos e]; exact evT e h
  · rw [if_neg e]; exact evF e h'
theorem evTT {c : Prop} [Decidable c] {a b : Nat → Option α} {r q : α} (h : c) (e : Ev a r) : Ev (fun k => if c then a k else b k) (if c then r else q) := by
  rw [if_pos h]; exact evT h e
theorem evFF {c : Prop} [Decidable c] {a b : Nat → Option α} {r q : α} (h : ¬ c) (e : Ev b q) : Ev (fun k => if c then a k else b k) (if c then r else q) := by
  rw [if_neg h]; exact evF h e
theorem evB {g : Nat → Option α} {f : Nat → α → Option β} {a : α} {r : β} (h : Ev g a) (k : Ev (fun n => f n a) r) : Ev (fun n => (g n).bind (f n)) r := Ev.bind h k
theorem evC {g : Option α} {f : Nat → α → Option β} {a : α} {r : β} (h : g = some a) (k : Ev (fun n => f n a) r) : Ev (fun n => g.bind (f n)) r := Ev.bind (evS h) k
theorem evR {g : Nat → Option α} {r q : α} (h : Ev g r) (e : r = q) : Ev g q := e ▸ h
theorem ev_inj {g : Nat → Option α} {r q : α} (h : Ev g r) (h' : Ev g q) : r = q := by
  obtain ⟨K, h⟩ := h
  obtain ⟨K', h'⟩ := h'
  have a := h (max K K') (by omega)
  have b := h' (max K K') (by omega)
  rw [a] at b
  exact Option.some.inj b
end
theorem wfb {k : IntKind} {n : Int} (h : (Lit.int k n).wf = true) : k.min ≤ n ∧ n ≤ k.max := by simpa [Lit.wf] using h
theorem wf_u8 {n : Int} (h : (Lit.int .u8 n).wf = true) : 0 ≤ n ∧ n ≤ 255 := wfb h
theorem wf_u16 {n : Int} (h : (Lit.int .u16 n).wf = true) : 0 ≤ n ∧ n ≤ 65535 := wfb h
theorem wf_u32 {n : Int} (h : (Lit.int .u32 n).wf = true) : 0 ≤ n ∧ n ≤ 4294967295 := wfb h
theorem wf_u64 {n : Int} (h : (Lit.int .u64 n).wf = true) : 0 ≤ n ∧ n ≤ 18446744073709551615 := wfb h
theorem wf_i64 {n : Int} (h : (Lit.int .i64 n).wf = true) : -9223372036854775808 ≤ n ∧ n ≤ 9223372036854775807 := wfb h
theorem rd_nat (xs : List Int) (i : Nat) (h : i < xs.length) : rd xs (i : Int) = xs[i] := by
  unfold rd
  simp [List.getD_eq_getElem?_getD, List.getElem?_eq_getElem h]
/-- Where a number stands in a list; below 0: nowhere. -/
def where_ (a : Int) : List Int → Int → Int
  | [], _ => -1
  | x :: l, i => if a = x then i else where_ a l (i + 1)
theorem where_rng (a : Int) : ∀ (l : List Int) (i : Int), 0 ≤ i → (0 ≤ where_ a l i ↔ a ∈ l)
  | [], _, _ => by simp [where_]
  | x :: l, i, h => by
    unfold where_
    by_cases e : a = x
    · simp [e, h]
    · rw [if_neg e, where_rng a l (i + 1) (by omega)]
      simp [e]
theorem drop_cons_rd (l : List Int) (i : Nat) (h : i < l.length) : l.drop i = l[i] :: l.drop (i + 1) := List.drop_eq_getElem_cons h
section
variable {α : Type}
theorem ev_or {c c' : Prop} [Decidable c] [Decidable c'] (g : Nat → Bool → Option α) (f : Bool → α) (h : ∀ b, Ev (fun k => g k b) (f b)) :
    Ev (fun k => if c then g k true else g k (decide c')) (f (decide (c ∨ c'))) := by
  by_cases e : c
  · refine evT e ?_
    rw [decide_eq_true (Or.inl e)]
    exact h true
  · refine evF e ?_
    rw [show decide (c ∨ c') = decide c' by simp [e]]
    exact h _
theorem ev_and {c c' : Prop} [Decidable c] [Decidable c'] (g : Nat → Bool → Option α) (f : Bool → α) (h : ∀ b, Ev (fun k => g k b) (f b)) :
    Ev (fun k => if c then g k (decide c') else g k false) (f (decide (c ∧ c'))) := by
  by_cases e : c
  · refine evT e ?_
    rw [show decide (c ∧ c') = decide c' by simp [e]]
    exact h _
  · refine evF e ?_
    rw [decide_eq_false (fun x => e x.1)]
    exact h false
end
theorem drop_cons_rd' {α : Type} (l : List α) (i : Nat) (h : i < l.length) : l.drop i = l[i] :: l.drop (i + 1) := List.drop_eq_getElem_cons h
end Go.Proofs.Ytpeejdmbnlhjmaa.L
namespace Go.Proofs.Ytpeejdmbnlhjmaa.L
open Go.RowKit Go.Proofs.YtpeejdmbnlhjmaaW.PrintWords Go.Proofs.YtpeejdmbnlhjmaaW.PrintLast
set_option linter.unusedVariables false
set_option linter.unusedSimpArgs false
/-- How many bytes a number has (0 to 2^36 - 1). -/
def nsize (n : Int) : Int := if n < 128 then 1 else if n < 2048 then 2 else if n < 65536 then 3 else if n < 2097152 then 4 else if n < 67108864 then 5 else if n < 2147483648 then 6 else 7
theorem nsize_rng (n : Int) : 1 ≤ nsize n ∧ nsize n ≤ 7 := by unfold nsize; omega
/-- How many bytes the numbers below m have together. -/
def numsum (m : Int) : Int := 7 * m - (min m 128 + min m 2048 + min m 65536 + min m 2097152 + min m 67108864 + min m 2147483648)
theorem numsum_succ (n : Int) : numsum (n + 1) = numsum n + nsize n := by unfold numsum nsize; omega
theorem numsum_zero : numsum 0 = 0 := by unfold numsum; omega
theorem numsum_le (n : Int) (h0 : 0 ≤ n) (h : n ≤ 2147483648) : n ≤ numsum n ∧ numsum n ≤ 6 * n := by unfold numsum; omega
end Go.Proofs.Ytpeejdmbnlhjmaa.L
namespace Go.Proofs.Ytpeejdmbnlhjmaa.L
open Go.RowKit Go.Proofs.YtpeejdmbnlhjmaaW.PrintWords Go.Proofs.YtpeejdmbnlhjmaaW.PrintLast
set_option linter.unusedVariables false
set_option linter.unusedSimpArgs false
/-- What bytes begin with: a rune and its size; size 0: none. b0: the first byte, m: how many there are. -/
def runV (m b0 b1 b2 b3 : Nat) : Nat × Nat :=
  if b0 < 128 then (b0, 1)
  else if 194 ≤ b0 ∧ b0 ≤ 223 then (if 2 ≤ m ∧ (128 ≤ b1 ∧ b1 ≤ 191) then ((b0 - 192) * 64 + (b1 - 128), 2) else (0, 0))
  else if 224 ≤ b0 ∧ b0 ≤ 239 then (if 3 ≤ m ∧ (128 ≤ b1 ∧ b1 ≤ 191) ∧ (128 ≤ b2 ∧ b2 ≤ 191) ∧ 2048 ≤ ((b0 - 224) * 64 + (b1 - 128)) * 64 + (b2 - 128) ∧ (((b0 - 224) * 64 + (b1 - 128)) * 64 + (b2 - 128) < 55296 ∨ 57343 < ((b0 - 224) * 64 + (b1 - 128)) * 64 + (b2 - 128)) then (((b0 - 224) * 64 + (b1 - 128)) * 64 + (b2 - 128), 3) else (0, 0))
  else if 240 ≤ b0 ∧ b0 ≤ 244 then (if 4 ≤ m ∧ (128 ≤ b1 ∧ b1 ≤ 191) ∧ (128 ≤ b2 ∧ b2 ≤ 191) ∧ (128 ≤ b3 ∧ b3 ≤ 191) ∧ 65536 ≤ (((b0 - 240) * 64 + (b1 - 128)) * 64 + (b2 - 128)) * 64 + (b3 - 128) ∧ (((b0 - 240) * 64 + (b1 - 128)) * 64 + (b2 - 128)) * 64 + (b3 - 128) ≤ 1114111 then ((((b0 - 240) * 64 + (b1 - 128)) * 64 + (b2 - 128)) * 64 + (b3 - 128), 4) else (0, 0))
  else (0, 0)
def runeN (s : ByteArray) (p : Nat) : Nat × Nat := runV (s.size - p) (s.get! (p + 0)).toNat (s.get! (p + 1)).toNat (s.get! (p + 2)).toNat (s.get! (p + 3)).toNat
theorem valid_iff (c : Nat) : Utf8.valid (c : Int) = true ↔ c < 55296 ∨ 57343 < c ∧ c ≤ 1114111 := by
  unfold Utf8.valid
  simp only [Bool.or_eq_true, Bool.and_eq_true, decide_eq_true_eq]
  omega
theorem dec_good {s : ByteArray} {p : Nat} {v : Nat × Nat} (hr : runeN s p = v) (hz : v.2 ≠ 0) (hd : Utf8.decode s p = v) : Utf8.decode s p = if (runeN s p).2 = 0 then (65533, 1) else runeN s p := by
  rw [hr, if_neg hz, hd]
theorem dec_bad {s : ByteArray} {p : Nat} (hr : runeN s p = (0, 0)) (hd : Utf8.decode s p = (65533, 1)) : Utf8.decode s p = if (runeN s p).2 = 0 then (65533, 1) else runeN s p := by
  rw [hr, hd]
  rfl
theorem dec_run (s : ByteArray) (p : Nat) : Utf8.decode s p = if (runeN s p).2 = 0 then (65533, 1) else runeN s p := by
  have h0 := (s.get! (p + 0)).toNat_lt
  have h1 := (s.get! (p + 1)).toNat_lt
  have h2 := (s.get! (p + 2)).toNat_lt
  have h3 := (s.get! (p + 3)).toNat_lt
  by_cases c0 : (s.get! (p + 0)).toNat < 128
  · exact dec_good (v := ((s.get! (p + 0)).toNat, 1)) (by unfold runeN runV; rw [if_pos c0]) (Nat.succ_ne_zero _) (by unfold Utf8.decode; dsimp only; rw [if_pos c0])
  by_cases c2 : 194 ≤ (s.get! (p + 0)).toNat ∧ (s.get! (p + 0)).toNat ≤ 223
  · by_cases d : 2 ≤ s.size - p ∧ (128 ≤ (s.get! (p + 1)).toNat ∧ (s.get! (p + 1)).toNat ≤ 191)
    · refine dec_good (v := (((s.get! (p + 0)).toNat - 192) * 64 + ((s.get! (p + 1)).toNat - 128), 2)) (by unfold runeN runV; rw [if_neg c0, if_pos c2, if_pos d]) (Nat.succ_ne_zero _) ?_
      unfold Utf8.decode
      dsimp only
      rw [if_neg c0, if_pos (by simp only [Bool.and_eq_true, decide_eq_true_eq, beq_iff_eq]; omega), if_pos (by omega), Prod.mk.injEq]
      exact ⟨by omega, rfl⟩
    · refine dec_bad (by unfold runeN runV; rw [if_neg c0, if_pos c2, if_neg d]) ?_
      unfold Utf8.decode
      dsimp only
      rw [if_neg c0, if_neg (by simp only [Bool.and_eq_true, decide_eq_true_eq, beq_iff_eq]; omega), if_neg (by simp only [Bool.and_eq_true, decide_eq_true_eq, beq_iff_eq]; omega), if_neg (by simp only [Bool.and_eq_true, decide_eq_true_eq, beq_iff_eq]; omega)]
      rfl
  by_cases c3 : 224 ≤ (s.get! (p + 0)).toNat ∧ (s.get! (p + 0)).toNat ≤ 239
  · by_cases e : 3 ≤ s.size - p ∧ (128 ≤ (s.get! (p + 1)).toNat ∧ (s.get! (p + 1)).toNat ≤ 191) ∧ (128 ≤ (s.get! (p + 2)).toNat ∧ (s.get! (p + 2)).toNat ≤ 191)
    · have en : (s.get! (p + 0)).toNat % 16 * 4096 + (s.get! (p + 1)).toNat % 64 * 64 + (s.get! (p + 2)).toNat % 64 = (((s.get! (p + 0)).toNat - 224) * 64 + ((s.get! (p + 1)).toNat - 128)) * 64 + ((s.get! (p + 2)).toNat - 128) := by omega
      have vn := valid_iff ((((s.get! (p + 0)).toNat - 224) * 64 + ((s.get! (p + 1)).toNat - 128)) * 64 + ((s.get! (p + 2)).toNat - 128))
      by_cases d : 2048 ≤ (((s.get! (p + 0)).toNat - 224) * 64 + ((s.get! (p + 1)).toNat - 128)) * 64 + ((s.get! (p + 2)).toNat - 128) ∧ ((((s.get! (p + 0)).toNat - 224) * 64 + ((s.get! (p + 1)).toNat - 128)) * 64 + ((s.get! (p + 2)).toNat - 128) < 55296 ∨ 57343 < (((s.get! (p + 0)).toNat - 224) * 64 + ((s.get! (p + 1)).toNat - 128)) * 64 + ((s.get! (p + 2)).toNat - 128))
      · refine dec_good (v := ((((s.get! (p + 0)).toNat - 224) * 64 + ((s.get! (p + 1)).toNat - 128)) * 64 + ((s.get! (p + 2)).toNat - 128), 3)) (by unfold runeN runV; rw [if_neg c0, if_neg c2, if_pos c3, if_pos ⟨e.1, e.2.1, e.2.2, d.1, d.2⟩]) (Nat.succ_ne_zero _) ?_
        unfold Utf8.decode
        dsimp only
        rw [if_neg c0, if_neg (by simp only [Bool.and_eq_true, decide_eq_true_eq, beq_iff_eq]; omega), if_pos (by simp only [Bool.and_eq_true, decide_eq_true_eq, beq_iff_eq]; omega), en, if_pos (by simp only [Bool.and_eq_true, decide_eq_true_eq, vn]; omega)]
      · refine dec_bad (by unfold runeN runV; rw [if_neg c0, if_neg c2, if_pos c3, if_neg (fun q => d ⟨q.2.2.2.1, q.2.2.2.2⟩)]) ?_
        unfold Utf8.decode
        dsimp only
        rw [if_neg c0, if_neg (by simp only [Bool.and_eq_true, decide_eq_true_eq, beq_iff_eq]; omega), if_pos (by simp only [Bool.and_eq_true, decide_eq_true_eq, beq_iff_eq]; omega), en, if_neg (by simp only [Bool.and_eq_true, decide_eq_true_eq, vn]; omega)]
        rfl
    · refine dec_bad (by unfold runeN runV; rw [if_neg c0, if_neg c2, if_pos c3, if_neg (fun q => e ⟨q.1, q.2.1, q.2.2.1⟩)]) ?_
      unfold Utf8.decode
      dsimp only
      rw [if_neg c0, if_neg (by simp only [Bool.and_eq_true, decide_eq_true_eq, beq_iff_eq]; omega), if_neg (by simp only [Bool.and_eq_true, decide_eq_true_eq, beq_iff_eq]; omega), if_neg (by simp only [Bool.and_eq_true, decide_eq_true_eq, beq_iff_eq]; omega)]
      rfl
  by_cases c4 : 240 ≤ (s.get! (p + 0)).toNat ∧ (s.get! (p + 0)).toNat ≤ 244
  · by_cases e : 4 ≤ s.size - p ∧ (128 ≤ (s.get! (p + 1)).toNat ∧ (s.get! (p + 1)).toNat ≤ 191) ∧ (128 ≤ (s.get! (p + 2)).toNat ∧ (s.get! (p + 2)).toNat ≤ 191) ∧ (128 ≤ (s.get! (p + 3)).toNat ∧ (s.get! (p + 3)).toNat ≤ 191)
    · have en : (s.get! (p + 0)).toNat % 8 * 262144 + (s.get! (p + 1)).toNat % 64 * 4096 + (s.get! (p + 2)).toNat % 64 * 64 + (s.get! (p + 3)).toNat % 64 = ((((s.get! (p + 0)).toNat - 240) * 64 + ((s.get! (p + 1)).toNat - 128)) * 64 + ((s.get! (p + 2)).toNat - 128)) * 64 + ((s.get! (p + 3)).toNat - 128) := by omega
      have vn := valid_iff (((((s.get! (p + 0)).toNat - 240) * 64 + ((s.get! (p + 1)).toNat - 128)) * 64 + ((s.get! (p + 2)).toNat - 128)) * 64 + ((s.get! (p + 3)).toNat - 128))
      by_cases d : 65536 ≤ ((((s.get! (p + 0)).toNat - 240) * 64 + ((s.get! (p + 1)).toNat - 128)) * 64 + ((s.get! (p + 2)).toNat - 128)) * 64 + ((s.get! (p + 3)).toNat - 128) ∧ ((((s.get! (p + 0)).toNat - 240) * 64 + ((s.get! (p + 1)).toNat - 128)) * 64 + ((s.get! (p + 2)).toNat - 128)) * 64 + ((s.get! (p + 3)).toNat - 128) ≤ 1114111
      · refine dec_good (v := (((((s.get! (p + 0)).toNat - 240) * 64 + ((s.get! (p + 1)).toNat - 128)) * 64 + ((s.get! (p + 2)).toNat - 128)) * 64 + ((s.get! (p + 3)).toNat - 128), 4)) (by unfold runeN runV; rw [if_neg c0, if_neg c2, if_neg c3, if_pos c4, if_pos ⟨e.1, e.2.1, e.2.2.1, e.2.2.2, d.1, d.2⟩]) (Nat.succ_ne_zero _) ?_
        unfold Utf8.decode
        dsimp only
        rw [if_neg c0, if_neg (by simp only [Bool.and_eq_true, decide_eq_true_eq, beq_iff_eq]; omega), if_neg (by simp only [Bool.and_eq_true, decide_eq_true_eq, beq_iff_eq]; omega), if_pos (by simp only [Bool.and_eq_true, decide_eq_true_eq, beq_iff_eq]; omega), en, if_pos (by simp only [Bool.and_eq_true, decide_eq_true_eq, vn]; omega)]
      · refine dec_bad (by unfold runeN runV; rw [if_neg c0, if_neg c2, if_neg c3, if_pos c4, if_neg (fun q => d ⟨q.2.2.2.2.1, q.2.2.2.2.2⟩)]) ?_
        unfold Utf8.decode
        dsimp only
        rw [if_neg c0, if_neg (by simp only [Bool.and_eq_true, decide_eq_true_eq, beq_iff_eq]; omega), if_neg (by simp only [Bool.and_eq_true, decide_eq_true_eq, beq_iff_eq]; omega), if_pos (by simp only [Bool.and_eq_true, decide_eq_true_eq, beq_iff_eq]; omega), en, if_neg (by simp only [Bool.and_eq_true, decide_eq_true_eq, vn]; omega)]
        rfl
    · refine dec_bad (by unfold runeN runV; rw [if_neg c0, if_neg c2, if_neg c3, if_pos c4, if_neg (fun q => e ⟨q.1, q.2.1, q.2.2.1, q.2.2.2.1⟩)]) ?_
      unfold Utf8.decode
      dsimp only
      rw [if_neg c0, if_neg (by simp only [Bool.and_eq_true, decide_eq_true_eq, beq_iff_eq]; omega), if_neg (by simp only [Bool.and_eq_true, decide_eq_true_eq, beq_iff_eq]; omega), if_neg (by simp only [Bool.and_eq_true, decide_eq_true_eq, beq_iff_eq]; omega)]
      rfl
  refine dec_bad (by unfold runeN runV; rw [if_neg c0, if_neg c2, if_neg c3, if_neg c4]) ?_
  unfold Utf8.decode
  dsimp only
  rw [if_neg c0]
  by_cases q2 : (s.get! (p + 0)).toNat / 32 = 6
  · by_cases w : (p + 1 < s.size) ∧ (s.get! (p + 1)).toNat / 64 = 2
    · rw [if_pos (by simp only [Bool.and_eq_true, decide_eq_true_eq, beq_iff_eq]; omega), if_neg (by omega)]
      rfl
    · rw [if_neg (by simp only [Bool.and_eq_true, decide_eq_true_eq, beq_iff_eq]; omega), if_neg (by simp only [Bool.and_eq_true, decide_eq_true_eq, beq_iff_eq]; omega), if_neg (by simp only [Bool.and_eq_true, decide_eq_true_eq, beq_iff_eq]; omega)]
      rfl
  · rw [if_neg (by simp only [Bool.and_eq_true, decide_eq_true_eq, beq_iff_eq]; omega), if_neg (by simp only [Bool.and_eq_true, decide_eq_true_eq, beq_iff_eq]; omega)]
    by_cases w : (s.get! (p + 0)).toNat / 8 = 30 ∧ (p + 1 < s.size) ∧ (s.get! (p + 1)).toNat / 64 = 2 ∧ (p + 2 < s.size) ∧ (s.get! (p + 2)).toNat / 64 = 2 ∧ (p + 3 < s.size) ∧ (s.get! (p + 3)).toNat / 64 = 2
    · have vn := valid_iff ((s.get! (p + 0)).toNat % 8 * 262144 + (s.get! (p + 1)).toNat % 64 * 4096 + (s.get! (p + 2)).toNat % 64 * 64 + (s.get! (p + 3)).toNat % 64)
      rw [if_pos (by simp only [Bool.and_eq_true, decide_eq_true_eq, beq_iff_eq]; omega), if_neg (by simp only [Bool.and_eq_true, decide_eq_true_eq, vn]; omega)]
      rfl
    · rw [if_neg (by simp only [Bool.and_eq_true, decide_eq_true_eq, beq_iff_eq]; omega)]
      rfl
end Go.Proofs.Ytpeejdmbnlhjmaa.L
namespace Go.Proofs.Ytpeejdmbnlhjmaa.L
open Go.RowKit Go.Proofs.YtpeejdmbnlhjmaaW.PrintWords Go.Proofs.YtpeejdmbnlhjmaaW.PrintLast
set_option linter.unusedVariables false
set_option linter.unusedSimpArgs false
def lead (s : Int) : Int := if s = 1 then 0 else if s = 2 then 192 else if s = 3 then 224 else if s = 4 then 240 else if s = 5 then 248 else if s = 6 then 252 else 254
def encTail : Nat → Int → List Int
  | 0, _ => []
  | j + 1, n => encTail j (n / 64) ++ [128 + n % 64]
theorem encTail_length : ∀ (j : Nat) (n : Int), (encTail j n).length = j
  | 0, _ => rfl
  | j + 1, n => by simp [encTail, encTail_length j]
theorem encTail_rng : ∀ (j : Nat) (n : Int), ∀ x ∈ encTail j n, 128 ≤ x ∧ x ≤ 191
  | 0, _ => by simp [encTail]
  | j + 1, n => by
    intro x hx
    simp only [encTail, List.mem_append, List.mem_singleton] at hx
    rcases hx with hx | hx
    · exact encTail_rng j _ x hx
    · omega
/-- A number's first byte. -/
def encHead (n : Int) : Int := lead (nsize n) + n / 64 ^ ((nsize n).toNat - 1)
/-- A number's bytes. -/
def encBytes (n : Int) : List Int := encHead n :: encTail ((nsize n).toNat - 1) n
theorem encBytes_length (n : Int) : ((encBytes n).length : Int) = nsize n := by
  have := nsize_rng n
  simp only [encBytes, List.length_cons, encTail_length]
  omega
theorem encHead_eq (n : Int) : encHead n = if n < 128 then n else if n < 2048 then 192 + n / 64 else if n < 65536 then 224 + n / 4096 else if n < 2097152 then 240 + n / 262144 else if n < 67108864 then 248 + n / 16777216 else if n < 2147483648 then 252 + n / 1073741824 else 254 + n / 68719476736 := by
  unfold encHead nsize
  split; · simp [lead]
  split; · simp [lead]
  split; · simp [lead]
  split; · simp [lead]
  split; · simp [lead]
  split; · simp [lead]
  simp [lead]
theorem encHead_rng (n : Int) (h0 : 0 ≤ n) (h1 : n ≤ 68719476735) : 0 ≤ encHead n ∧ encHead n ≤ 254 := by
  rw [encHead_eq]
  omega
theorem encBytes_rng (n : Int) (h0 : 0 ≤ n) (h1 : n ≤ 68719476735) : ∀ x ∈ encBytes n, 0 ≤ x ∧ x ≤ 255 := by
  intro x hx
  have := encHead_rng n h0 h1
  simp only [encBytes, List.mem_cons] at hx
  rcases hx with rfl | hx
  · omega
  · have := encTail_rng _ _ x hx
    omega
end Go.Proofs.Ytpeejdmbnlhjmaa.L
namespace Go.Proofs.Ytpeejdmbnlhjmaa.L
open Go.RowKit Go.Proofs.YtpeejdmbnlhjmaaW.PrintWords Go.Proofs.YtpeejdmbnlhjmaaW.PrintLast
set_option linter.unusedVariables false
set_option linter.unusedSimpArgs false
theorem byte_of (c : Nat) (h : c < 256) : ((UInt8.ofNat c).toNat : Int) = c := by
  simp [UInt8.toNat_ofNat]; omega
/-- A rune's bytes in a text are those of its number. -/
theorem utf_enc (n : Int) (h0 : 0 ≤ n) (h1 : n ≤ 1114111) (hv : n < 55296 ∨ 57343 < n) : bytesOf (Utf8.encode n) = encBytes n := by
  have hval : Utf8.valid n = true := by unfold Utf8.valid; simp; omega
  have e : ((n.toNat : Nat) : Int) = n := Int.toNat_of_nonneg h0
  unfold Utf8.encode
  simp only [hval, if_true]
  by_cases c1 : n < 128
  · rw [if_pos (by omega)]
    simp only [bytesOf, encBytes, encHead_eq, nsize, if_pos c1, List.map_cons, List.map_nil]
    rw [byte_of _ (by omega), e]
    rfl
  rw [if_neg (by omega)]
  by_cases c2 : n < 2048
  · rw [if_pos (by omega)]
    simp only [bytesOf, encBytes, encHead_eq, nsize, if_neg c1, if_pos c2, List.map_cons, List.map_nil]
    rw [byte_of _ (by omega), byte_of _ (by omega)]
    show _ = [192 + n / 64, 128 + n % 64]
    rw [List.cons.injEq, List.cons.injEq]
    exact ⟨by omega, by omega, rfl⟩
  rw [if_neg (by omega)]
  by_cases c3 : n < 65536
  · rw [if_pos (by omega)]
    simp only [bytesOf, encBytes, encHead_eq, nsize, if_neg c1, if_neg c2, if_pos c3, List.map_cons, List.map_nil]
    rw [byte_of _ (by omega), byte_of _ (by omega), byte_of _ (by omega)]
    show _ = [224 + n / 4096, 128 + n / 64 % 64, 128 + n % 64]
    rw [List.cons.injEq, List.cons.injEq, List.cons.injEq]
    exact ⟨by omega, by omega, by omega, rfl⟩
  rw [if_neg (by omega)]
  have c4 : n < 2097152 := by omega
  simp only [bytesOf, encBytes, encHead_eq, nsize, if_neg c1, if_neg c2, if_neg c3, if_pos c4, List.map_cons, List.map_nil]
  rw [byte_of _ (by omega), byte_of _ (by omega), byte_of _ (by omega), byte_of _ (by omega)]
  show _ = [240 + n / 262144, 128 + n / 64 / 64 % 64, 128 + n / 64 % 64, 128 + n % 64]
  rw [List.cons.injEq, List.cons.injEq, List.cons.injEq, List.cons.injEq]
  exact ⟨by omega, by omega, by omega, by omega, rfl⟩
end Go.Proofs.Ytpeejdmbnlhjmaa.L
namespace Go.Proofs.Ytpeejdmbnlhjmaa.L
open Go.RowKit Go.Proofs.YtpeejdmbnlhjmaaW.PrintWords Go.Proofs.YtpeejdmbnlhjmaaW.PrintLast
set_option linter.unusedVariables false
set_option linter.unusedSimpArgs false
theorem bytesOf_rng (s : ByteArray) : ∀ x ∈ bytesOf s, 0 ≤ x ∧ x ≤ 255 := by
  intro x hx
  obtain ⟨b, _, rfl⟩ := List.mem_map.mp hx
  have := b.toNat_lt
  omega
theorem bytesOf_str (l : List Int) (h : ∀ x ∈ l, 0 ≤ x ∧ x ≤ 255) : bytesOf (strOfNums l) = l := by
  unfold bytesOf strOfNums
  simp only [List.map_map]
  refine (List.map_congr_left fun x hx => ?_).trans (List.map_id l)
  have := h x hx
  simp only [Function.comp_apply, id_eq]
  rw [UInt8.toNat_ofNat']
  omega
theorem toList_bytes {a b : ByteArray} (h : a.toList = b.toList) : bytesOf a = bytesOf b := by
  rw [ByteArray.toList_eq, ByteArray.toList_eq] at h
  unfold bytesOf
  rw [h]
theorem bytes_toList {a b : ByteArray} (h : bytesOf a = bytesOf b) : a.toList = b.toList := by
  rw [ByteArray.toList_eq, ByteArray.toList_eq]
  unfold bytesOf at h
  refine List.map_inj_right (f := fun b : UInt8 => (b.toNat : Int)) ?_ |>.mp h
  intro x y e
  exact UInt8.toNat_inj.mp (by omega)
theorem bytesOf_extract (s : ByteArray) (p r : Nat) (hr : r ≤ s.size) : bytesOf (s.extract p r) = ((bytesOf s).drop p).take (r - p) := by
  unfold bytesOf
  rw [ByteArray.data_extract, Array.toList_extract, List.extract_eq_take_drop, List.map_take, List.map_drop]
theorem get_bytes (s : ByteArray) (j : Nat) : (((s.get! j).toNat : Nat) : Int) = (bytesOf s).getD j 0 := by
  by_cases h : j < s.size
  · have e : s.get! j = s[j]'h := by
      simp [ByteArray.get!, getElem!_pos, h]
      rfl
    have h' : j < s.data.toList.length := by rw [data_length]; exact h
    rw [e]
    simp [bytesOf, List.getD_eq_getElem?_getD, List.getElem?_eq_getElem h']
    rfl
  · have h' : s.data.toList.length ≤ j := by rw [data_length]; omega
    have e : s.get! j = 0 := by
      have h2 : ¬ j < s.data.size := h
      show s.data[j]! = 0
      rw [getElem!_neg s.data j h2]
      rfl
    rw [e]
    simp [bytesOf, List.getD_eq_getElem?_getD, List.getElem?_eq_none h']
/-- Three bytes of U+FFFD are read as it. -/
theorem decode_fffd (s : ByteArray) (p : Nat) (h : p + 3 ≤ s.size) (h0 : (s.get! (p + 0)).toNat = 239) (h1 : (s.get! (p + 1)).toNat = 191) (h2 : (s.get! (p + 2)).toNat = 189) : Utf8.decode s p = (65533, 3) := by
  unfold Utf8.decode
  simp only [h0, h1, h2]
  have a1 : p + 1 < s.size := by omega
  have a2 : p + 2 < s.size := by omega
  simp [a1, a2, Utf8.valid]
theorem rune4 (c : Nat) (h : c ≥ 65536 ∧ ((0 ≤ (c : Int) ∧ (c : Int) < 55296) ∨ ((57344 : Int) ≤ (c : Int) ∧ (c : Int) ≤ 1114111))) : ((4 : Nat) : Int) = nsize (c : Int) ∧ c ≤ 1114111 ∧ (c < 55296 ∨ 57343 < c) := by
  refine ⟨?_, by omega, by omega⟩
  unfold nsize
  omega
/-- What a place of a text tells: a rune with the size of its number, or U+FFFD with size 1. -/
theorem decode_size (s : ByteArray) (p : Nat) : Utf8.decode s p = (65533, 1) ∨
    (((Utf8.decode s p).2 : Int) = nsize ((Utf8.decode s p).1 : Int) ∧ (Utf8.decode s p).1 ≤ 1114111 ∧ ((Utf8.decode s p).1 < 55296 ∨ 57343 < (Utf8.decode s p).1)) := by
  have b0 := (s.get! (p + 0)).toNat_lt
  have b1 := (s.get! (p + 1)).toNat_lt
  have b2 := (s.get! (p + 2)).toNat_lt
  have b3 := (s.get! (p + 3)).toNat_lt
  generalize hd : Utf8.decode s p = d
  unfold Utf8.decode at hd
  dsimp only at hd
  split at hd
  · subst hd
    refine .inr ⟨?_, ?_, ?_⟩
    · unfold nsize; simp only; omega
    · simp only; omega
    · simp only; omega
  split at hd
  · split at hd
    · subst hd
      refine .inr ⟨?_, ?_, ?_⟩
      · unfold nsize; simp only; omega
      · simp only; omega
      · simp only; omega
    · exact .inl hd.symm
  split at hd
  · split at hd
    · rename_i h1 h2 h3 h4
      simp only [Bool.and_eq_true, decide_eq_true_eq, Utf8.valid, Bool.or_eq_true] at h4
      subst hd
      refine .inr ⟨?_, ?_, ?_⟩
      · unfold nsize; simp only; omega
      · simp only; omega
      · simp only; omega
    · exact .inl hd.symm
  split at hd
  · split at hd
    · rename_i h1 h2 h3 h4 h5
      simp only [Bool.and_eq_true, decide_eq_true_eq, Utf8.valid, Bool.or_eq_true] at h5
      subst hd
      exact .inr (rune4 _ h5)
    · exact .inl hd.symm
  exact .inl hd.symm
theorem decode_rune (s : ByteArray) (p : Nat) : (Utf8.decode s p).1 ≤ 1114111 ∧ ((Utf8.decode s p).1 < 55296 ∨ 57343 < (Utf8.decode s p).1) := by
  rcases decode_size s p with h | h
  · rw [h]; decide
  · exact h.2
theorem getD_drop (l : List Int) (p k : Nat) : l.getD (p + k) 0 = (l.drop p).getD k 0 := by
  rw [List.getD_eq_getElem?_getD, List.getD_eq_getElem?_getD, List.getElem?_drop]
/-- Where a rune's own bytes stand it is read with their number. -/
theorem decode_width (s : ByteArray) (p : Nat) (more : List Int) (h : (bytesOf s).drop p = encBytes ((Utf8.decode s p).1 : Int) ++ more) : ((Utf8.decode s p).2 : Int) = nsize ((Utf8.decode s p).1 : Int) := by
  rcases decode_size s p with e | e
  · exfalso
    rw [e] at h
    have hb : encBytes 65533 = [239, 191, 189] := by
      simp only [encBytes, encHead_eq, nsize]
      rfl
    have h3 : (bytesOf s).drop p = 239 :: 191 :: 189 :: more := by
      rw [h, show (((65533, 1) : Nat × Nat).1 : Int) = 65533 from rfl, hb]
      rfl
    have hl := congrArg List.length h3
    rw [List.length_drop, bytesOf_length] at hl
    simp only [List.length_cons] at hl
    have g := fun k => (get_bytes s (p + k)).trans ((getD_drop (bytesOf s) p k).trans (by rw [h3]))
    have g0 := g 0
    have g1 := g 1
    have g2 := g 2
    simp only [List.getD_cons_zero, List.getD_cons_succ] at g0 g1 g2
    have := decode_fffd s p (by omega) (by omega) (by omega) (by omega)
    rw [e] at this
    cases this
  · exact e.1
end Go.Proofs.Ytpeejdmbnlhjmaa.L
namespace Go.Proofs.Ytpeejdmbnlhjmaa.L
open Go.RowKit Go.Proofs.YtpeejdmbnlhjmaaW.PrintWords Go.Proofs.YtpeejdmbnlhjmaaW.PrintLast
set_option linter.unusedVariables false
set_option linter.unusedSimpArgs false
theorem drop1 (s : ByteArray) (p : Nat) (h : p < s.size) : (bytesOf s).drop p = ((s.get! p).toNat : Int) :: (bytesOf s).drop (p + 1) := by
  have hl : p < (bytesOf s).length := by rw [bytesOf_length]; exact h
  rw [List.drop_eq_getElem_cons hl, get_bytes, List.getD_eq_getElem?_getD, List.getElem?_eq_getElem hl]
  rfl
theorem enc1 (n : Int) (h : n < 128) : encBytes n = [n] := by
  simp only [encBytes, encHead_eq, nsize, if_pos h]
  rfl
theorem enc2 (n : Int) (h : 128 ≤ n ∧ n < 2048) : encBytes n = [192 + n / 64, 128 + n % 64] := by
  simp only [encBytes, encHead_eq, nsize, if_neg (show ¬ n < 128 by omega), if_pos h.2]
  rfl
theorem enc3 (n : Int) (h : 2048 ≤ n ∧ n < 65536) : encBytes n = [224 + n / 4096, 128 + n / 64 % 64, 128 + n % 64] := by
  simp only [encBytes, encHead_eq, nsize, if_neg (show ¬ n < 128 by omega), if_neg (show ¬ n < 2048 by omega), if_pos h.2]
  rfl
theorem enc4 (n : Int) (h : 65536 ≤ n ∧ n < 2097152) : encBytes n = [240 + n / 262144, 128 + n / 64 / 64 % 64, 128 + n / 64 % 64, 128 + n % 64] := by
  simp only [encBytes, encHead_eq, nsize, if_neg (show ¬ n < 128 by omega), if_neg (show ¬ n < 2048 by omega), if_neg (show ¬ n < 65536 by omega), if_pos h.2]
  rfl
/-- A rune's cases. -/
theorem run_cases (s : ByteArray) (p : Nat) (hz : (runeN s p).2 ≠ 0) :
    ((s.get! p).toNat < 128 ∧ runeN s p = ((s.get! p).toNat, 1)) ∨
    (194 ≤ (s.get! p).toNat ∧ (s.get! p).toNat ≤ 223 ∧ p + 2 ≤ s.size ∧ 128 ≤ (s.get! (p + 1)).toNat ∧ (s.get! (p + 1)).toNat ≤ 191 ∧ runeN s p = (((s.get! p).toNat - 192) * 64 + ((s.get! (p + 1)).toNat - 128), 2)) ∨
    (224 ≤ (s.get! p).toNat ∧ (s.get! p).toNat ≤ 239 ∧ p + 3 ≤ s.size ∧ 128 ≤ (s.get! (p + 1)).toNat ∧ (s.get! (p + 1)).toNat ≤ 191 ∧ 128 ≤ (s.get! (p + 2)).toNat ∧ (s.get! (p + 2)).toNat ≤ 191 ∧ 2048 ≤ (((s.get! p).toNat - 224) * 64 + ((s.get! (p + 1)).toNat - 128)) * 64 + ((s.get! (p + 2)).toNat - 128) ∧ ((((s.get! p).toNat - 224) * 64 + ((s.get! (p + 1)).toNat - 128)) * 64 + ((s.get! (p + 2)).toNat - 128) < 55296 ∨ 57343 < (((s.get! p).toNat - 224) * 64 + ((s.get! (p + 1)).toNat - 128)) * 64 + ((s.get! (p + 2)).toNat - 128)) ∧ runeN s p = ((((s.get! p).toNat - 224) * 64 + ((s.get! (p + 1)).toNat - 128)) * 64 + ((s.get! (p + 2)).toNat - 128), 3)) ∨
    (240 ≤ (s.get! p).toNat ∧ (s.get! p).toNat ≤ 244 ∧ p + 4 ≤ s.size ∧ 128 ≤ (s.get! (p + 1)).toNat ∧ (s.get! (p + 1)).toNat ≤ 191 ∧ 128 ≤ (s.get! (p + 2)).toNat ∧ (s.get! (p + 2)).toNat ≤ 191 ∧ 128 ≤ (s.get! (p + 3)).toNat ∧ (s.get! (p + 3)).toNat ≤ 191 ∧ 65536 ≤ ((((s.get! p).toNat - 240) * 64 + ((s.get! (p + 1)).toNat - 128)) * 64 + ((s.get! (p + 2)).toNat - 128)) * 64 + ((s.get! (p + 3)).toNat - 128) ∧ ((((s.get! p).toNat - 240) * 64 + ((s.get! (p + 1)).toNat - 128)) * 64 + ((s.get! (p + 2)).toNat - 128)) * 64 + ((s.get! (p + 3)).toNat - 128) ≤ 1114111 ∧ runeN s p = (((((s.get! p).toNat - 240) * 64 + ((s.get! (p + 1)).toNat - 128)) * 64 + ((s.get! (p + 2)).toNat - 128)) * 64 + ((s.get! (p + 3)).toNat - 128), 4)) := by
  unfold runeN at hz ⊢
  rw [Nat.add_zero] at hz ⊢
  generalize (s.get! p).toNat = b0 at *
  generalize (s.get! (p + 1)).toNat = b1 at *
  generalize (s.get! (p + 2)).toNat = b2 at *
  generalize (s.get! (p + 3)).toNat = b3 at *
  unfold runV at hz ⊢
  by_cases c0 : b0 < 128
  · rw [if_pos c0]
    exact .inl ⟨c0, rfl⟩
  rw [if_neg c0] at hz ⊢
  by_cases c2 : 194 ≤ b0 ∧ b0 ≤ 223
  · rw [if_pos c2] at hz ⊢
    by_cases d : 2 ≤ s.size - p ∧ (128 ≤ b1 ∧ b1 ≤ 191)
    · rw [if_pos d]
      exact .inr (.inl ⟨c2.1, c2.2, by omega, d.2.1, d.2.2, rfl⟩)
    · rw [if_neg d] at hz
      exact absurd rfl hz
  rw [if_neg c2] at hz ⊢
  by_cases c3 : 224 ≤ b0 ∧ b0 ≤ 239
  · rw [if_pos c3] at hz ⊢
    split at hz
    · rename_i d
      rw [if_pos d]
      exact .inr (.inr (.inl ⟨c3.1, c3.2, by omega, d.2.1.1, d.2.1.2, d.2.2.1.1, d.2.2.1.2, d.2.2.2.1, d.2.2.2.2, rfl⟩))
    · exact absurd rfl hz
  rw [if_neg c3] at hz ⊢
  by_cases c4 : 240 ≤ b0 ∧ b0 ≤ 244
  · rw [if_pos c4] at hz ⊢
    split at hz
    · rename_i d
      rw [if_pos d]
      exact .inr (.inr (.inr ⟨c4.1, c4.2, by omega, d.2.1.1, d.2.1.2, d.2.2.1.1, d.2.2.1.2, d.2.2.2.1.1, d.2.2.2.1.2, d.2.2.2.2.1, d.2.2.2.2.2, rfl⟩))
    · exact absurd rfl hz
  rw [if_neg c4] at hz
  exact absurd rfl hz
/-- A rune has the bytes that it was read from. -/
theorem enc_run (s : ByteArray) (p : Nat) (hp : p < s.size) (hz : (runeN s p).2 ≠ 0) : bytesOf (Utf8.encode ((runeN s p).1 : Int)) = ((bytesOf s).drop p).take (runeN s p).2 := by
  rcases run_cases s p hz with ⟨h0, hr⟩ | ⟨h0, h1, h2, h3, h4, hr⟩ | ⟨h0, h1, h2, h3, h4, h5, h6, h7, h8, hr⟩ | ⟨h0, h1, h2, h3, h4, h5, h6, h7, h8, h9, h10, hr⟩
  · rw [hr]
    simp only
    rw [utf_enc _ (by omega) (by omega) (by omega), enc1 _ (by omega), drop1 s p hp]
    rfl
  · rw [hr]
    simp only
    rw [utf_enc _ (by omega) (by omega) (by omega), enc2 _ (by omega), drop1 s p hp, drop1 s (p + 1) (by omega)]
    show _ = [_, _]
    rw [List.cons.injEq, List.cons.injEq]
    exact ⟨by omega, by omega, rfl⟩
  · rw [hr]
    simp only
    rw [utf_enc _ (by omega) (by omega) (by omega), enc3 _ (by omega), drop1 s p hp, drop1 s (p + 1) (by omega), show p + 1 + 1 = p + 2 from rfl, drop1 s (p + 2) (by omega)]
    show _ = [_, _, _]
    rw [List.cons.injEq, List.cons.injEq, List.cons.injEq]
    exact ⟨by omega, by omega, by omega, rfl⟩
  · rw [hr]
    simp only
    rw [utf_enc _ (by omega) (by omega) (by omega), enc4 _ (by omega), drop1 s p hp, drop1 s (p + 1) (by omega), show p + 1 + 1 = p + 2 from rfl, drop1 s (p + 2) (by omega), show p + 2 + 1 = p + 3 from rfl, drop1 s (p + 3) (by omega)]
    show _ = [_, _, _, _]
    rw [List.cons.injEq, List.cons.injEq, List.cons.injEq, List.cons.injEq]
    exact ⟨by omega, by omega, by omega, by omega, rfl⟩
theorem run_end (s : ByteArray) (p : Nat) (hp : p < s.size) (hz : (runeN s p).2 ≠ 0) : p + (runeN s p).2 ≤ s.size := by
  rcases run_cases s p hz with ⟨h0, hr⟩ | ⟨h0, h1, h2, h3, h4, hr⟩ | ⟨h0, h1, h2, h3, h4, h5, h6, h7, h8, hr⟩ | ⟨h0, h1, h2, h3, h4, h5, h6, h7, h8, h9, h10, hr⟩ <;> rw [hr] <;> simp only <;> omega
/-- U+FFFD in three bytes. -/
theorem run_fffd (s : ByteArray) (p : Nat) (hp : p < s.size) : (runeN s p).2 ≠ 0 ∧ (runeN s p).1 = 65533 ↔ p + 3 ≤ s.size ∧ (s.get! p).toNat = 239 ∧ (s.get! (p + 1)).toNat = 191 ∧ (s.get! (p + 2)).toNat = 189 := by
  constructor
  · rintro ⟨hz, hq⟩
    rcases run_cases s p hz with ⟨h0, hr⟩ | ⟨h0, h1, h2, h3, h4, hr⟩ | ⟨h0, h1, h2, h3, h4, h5, h6, h7, h8, hr⟩ | ⟨h0, h1, h2, h3, h4, h5, h6, h7, h8, h9, h10, hr⟩ <;> rw [hr] at hq <;> simp only at hq <;> omega
  · rintro ⟨h0, h1, h2, h3⟩
    have := decode_fffd s p h0 (by rw [Nat.add_zero]; exact h1) h2 h3
    rw [dec_run] at this
    split at this
    · cases this
    · rename_i hz
      exact ⟨hz, by rw [this]⟩
end Go.Proofs.Ytpeejdmbnlhjmaa.L
