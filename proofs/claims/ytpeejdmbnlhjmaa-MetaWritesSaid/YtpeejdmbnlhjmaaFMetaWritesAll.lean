/- Facts, put together from several texts. -/
import Derived.Test.YtpeejdmbnlhjmaaPMetaWritesx6
import Derived.Laws.Bits64b
import Derived.Test.YtpeejdmbnlhjmaaLAll
import Derived.Test.YtpeejdmbnlhjmaaPMetaWritesx3
namespace Go.Proofs.Ytpeejdmbnlhjmaa.FMetaWrites
open Go.RowKit Go.Proofs.YtpeejdmbnlhjmaaW.PrintWords Go.Proofs.YtpeejdmbnlhjmaaW.PrintLast Go.Proofs.Ytpeejdmbnlhjmaa.PMetaWrites Go.Proofs.Ytpeejdmbnlhjmaa.L
set_option linter.unusedVariables false
set_option linter.unusedSimpArgs false
/-- The number that bytes make, the first one highest. -/
def bigN : List Int → Nat
  | [] => 0
  | x :: l => x.toNat * 256 ^ l.length + bigN l
theorem bigN_lt : ∀ (l : List Int), (∀ x ∈ l, 0 ≤ x ∧ x ≤ 255) → bigN l < 256 ^ l.length
  | [], _ => by simp [bigN]
  | x :: l, h => by
    have h1 := h x (by simp)
    have h2 := bigN_lt l (fun y hy => h y (by simp [hy]))
    have h3 : x.toNat ≤ 255 := by omega
    have h4 : x.toNat * 256 ^ l.length ≤ 255 * 256 ^ l.length := Nat.mul_le_mul_right _ h3
    simp only [bigN, List.length_cons, Nat.pow_succ]
    omega
theorem bigN_byte : ∀ (l : List Int), (∀ x ∈ l, 0 ≤ x ∧ x ≤ 255) → ∀ (i : Nat) (h : i < l.length), l[i] = ((bigN l / 256 ^ (l.length - 1 - i) % 256 : Nat) : Int)
  | [], _, i, h => by simp at h
  | x :: l, hb, 0, _ => by
    have h1 := hb x (by simp)
    have h2 := bigN_lt l (fun y hy => hb y (by simp [hy]))
    have hp : 0 < 256 ^ l.length := Nat.pow_pos (by decide)
    simp only [bigN, List.length_cons, List.getElem_cons_zero, Nat.add_sub_cancel, Nat.sub_zero]
    rw [Nat.mul_comm, Nat.mul_add_div hp, Nat.div_eq_of_lt h2, Nat.add_zero, Nat.mod_eq_of_lt (by omega)]
    omega
  | x :: l, hb, i + 1, h => by
    have hl : i < l.length := by simpa using h
    have ih := bigN_byte l (fun y hy => hb y (by simp [hy])) i hl
    have hp : 0 < 256 ^ (l.length - 1 - i) := Nat.pow_pos (by decide)
    simp only [List.getElem_cons_succ, bigN, List.length_cons]
    rw [ih, show l.length + 1 - 1 - (i + 1) = l.length - 1 - i by omega]
    have e : x.toNat * 256 ^ l.length = 256 ^ (l.length - 1 - i) * (256 * (x.toNat * 256 ^ i)) := by
      have : 256 ^ l.length = 256 ^ (l.length - 1 - i) * 256 * 256 ^ i := by
        rw [← Nat.pow_succ, ← Nat.pow_add]
        congr 1
        omega
      rw [this]
      simp only [Nat.mul_assoc, Nat.mul_comm, Nat.mul_left_comm]
    rw [e, Nat.mul_add_div hp, Nat.mul_add_mod]
theorem and_mask8 : ∀ (x : Fin 256) (m : Fin 9), Go.bits .and .u8 (x.val : Int) ((2 ^ m.val - 1) % 256) = ((x.val % 2 ^ m.val : Nat) : Int) := by decide +kernel
theorem mod_split (x a b : Nat) : x % 2 ^ (a + b) = (x / 2 ^ a % 2 ^ b) * 2 ^ a + x % 2 ^ a := by
  rw [Nat.pow_add, Nat.mod_mul]
  rw [Nat.add_comm, Nat.mul_comm]
theorem bits_or_u8_nat (a b : Nat) (ha : a < 256) (hb : b < 256) : Go.bits .or .u8 (a : Int) (b : Int) = ((a ||| b : Nat) : Int) := by
  have hx : a ||| b < 2 ^ 8 := Nat.or_lt_two_pow (by omega) (by omega)
  have h1 : (BitVec.ofInt 8 (a : Int)).toNat = a := by
    rw [BitVec.ofInt_natCast, BitVec.toNat_ofNat]; exact Nat.mod_eq_of_lt (by omega)
  have h2 : (BitVec.ofInt 8 (b : Int)).toNat = b := by
    rw [BitVec.ofInt_natCast, BitVec.toNat_ofNat]; exact Nat.mod_eq_of_lt (by omega)
  show IntKind.u8.wrap ((BitVec.ofInt 8 (a : Int) ||| BitVec.ofInt 8 (b : Int)).toNat : Int) = _
  rw [BitVec.toNat_or, h1, h2, IntKind.wrap_u8]
  omega
theorem bigN_snoc : ∀ (l : List Int) (x : Int), bigN (l ++ [x]) = bigN l * 256 + x.toNat
  | [], x => by simp [bigN]
  | y :: l, x => by
    simp only [List.cons_append, bigN, List.length_append, List.length_cons, List.length_nil, bigN_snoc l x, Nat.zero_add, Nat.pow_succ]
    rw [Nat.add_mul, Nat.mul_assoc, Nat.add_assoc]
/-- Bytes that make the number of their first n bits, with bits 0 behind. -/
def WN (bs : List Int) (n A : Nat) : Prop := (∀ x ∈ bs, 0 ≤ x ∧ x ≤ 255) ∧ bs.length = (n + 7) / 8 ∧ bigN bs = A * 2 ^ (8 * bs.length - n)
theorem WN_nil : WN [] 0 0 := ⟨by simp, by simp, by simp [bigN]⟩
theorem wpart_val (u m c : Nat) (hm : m ≤ 8) : Go.bits .and .u8 (((u : Int)) / 2 ^ c % 256) ((2 ^ m - 1) % 256) = ((u / 2 ^ c % 2 ^ m : Nat) : Int) := by
  have e1 : ((u : Int)) / 2 ^ c % 256 = ((u / 2 ^ c % 256 : Nat) : Int) := by rw [Int.natCast_emod, Int.natCast_ediv, Int.natCast_pow]; rfl
  have := and_mask8 ⟨u / 2 ^ c % 256, Nat.mod_lt _ (by decide)⟩ ⟨m, by omega⟩
  simp only at this
  rw [e1, this]
  congr 1
  rw [show (256 : Nat) = 2 ^ 8 by decide]
  exact Nat.mod_mod_of_dvd _ (Nat.pow_dvd_pow 2 hm)
theorem wrow_last (bs : List Int) (n A : Nat) (h : WN bs n A) : ∃ (init : List Int) (x : Nat), H.wRow bs (n : Int) = init ++ [(x : Int)] ∧ (∀ y ∈ init, 0 ≤ y ∧ y ≤ 255) ∧ x < 256 ∧ init.length = n / 8 ∧ bigN init * 256 + x = A * 2 ^ (8 - n % 8) ∧ x % 2 ^ (8 - n % 8) = 0 := by
  obtain ⟨h1, h2, h3⟩ := h
  unfold H.wRow
  by_cases c : n % 8 = 0
  · rw [if_pos (by omega), c]
    refine ⟨bs, 0, rfl, h1, by decide, by omega, ?_, by simp⟩
    rw [h3, show 8 * bs.length - n = 0 by omega]
    simp
  · rw [if_neg (by omega)]
    have hne : bs ≠ [] := by
      intro e
      subst e
      simp at h2
      omega
    obtain ⟨init, x, rfl⟩ : ∃ init x, bs = init ++ [x] := ⟨bs.dropLast, bs.getLast hne, (List.dropLast_concat_getLast hne).symm⟩
    have hx := h1 x (by simp)
    have hlen : (init ++ [x]).length = init.length + 1 := by simp
    rw [hlen] at h2 h3
    rw [bigN_snoc, show 8 * (init.length + 1) - n = 8 - n % 8 by omega] at h3
    refine ⟨init, x.toNat, by rw [show ((x.toNat : Nat) : Int) = x by omega], fun y hy => h1 y (by simp [hy]), by omega, by omega, h3, ?_⟩
    have e : (256 : Nat) = 2 ^ (8 - n % 8) * 2 ^ (n % 8) := by rw [← Nat.pow_add, show 8 - n % 8 + n % 8 = 8 by omega]
    have h5 : (bigN init * 256 + x.toNat) % 2 ^ (8 - n % 8) = 0 := by rw [h3]; exact Nat.mul_mod_left _ _
    rw [e, Nat.mul_left_comm, Nat.mul_add_mod] at h5
    exact h5
theorem wround_val (bs : List Int) (n A u left m : Nat) (h : WN bs n A) (h1 : 1 ≤ left) (hm : m = min (8 - n % 8) left) :
    WN ((H.wRow bs (n : Int)).set ((H.wRow bs (n : Int)).length - 1) (H.wByte bs (n : Int) (u : Int) (left : Int))) (n + m) (A * 2 ^ m + u / 2 ^ (left - m) % 2 ^ m) ∧ H.wMany (n : Int) (left : Int) = (m : Int) := by
  have hM : H.wMany (n : Int) (left : Int) = (m : Int) := by unfold H.wMany; omega
  refine ⟨?_, hM⟩
  obtain ⟨init, x, hr, hi, hx, hl, hN, hz⟩ := wrow_last bs n A h
  obtain ⟨s, hs⟩ : ∃ s : Nat, m + s = 8 - n % 8 := ⟨8 - n % 8 - m, by omega⟩
  have hP := Nat.mod_lt (u / 2 ^ (left - m)) (Nat.pow_pos (n := m) (show 0 < 2 by decide))
  obtain ⟨p, hp⟩ : ∃ p : Nat, p = u / 2 ^ (left - m) % 2 ^ m := ⟨_, rfl⟩
  rw [← hp] at hP ⊢
  have hps : p * 2 ^ s + 2 ^ s ≤ 2 ^ (8 - n % 8) := by
    rw [← hs, Nat.pow_add]
    have : (p + 1) * 2 ^ s ≤ 2 ^ m * 2 ^ s := Nat.mul_le_mul_right _ hP
    rw [Nat.add_mul, Nat.one_mul] at this
    exact this
  have h8 : (2 : Nat) ^ (8 - n % 8) ≤ 256 := by
    rw [show (256 : Nat) = 2 ^ 8 by decide]
    exact Nat.pow_le_pow_right (by decide) (by omega)
  have hsp : 0 < (2 : Nat) ^ s := Nat.pow_pos (by decide)
  have hxx : x = 2 ^ (8 - n % 8) * (x / 2 ^ (8 - n % 8)) := by
    have := Nat.div_add_mod x (2 ^ (8 - n % 8))
    omega
  have hadd : x ||| p * 2 ^ s = x + p * 2 ^ s := by
    rw [hxx]
    exact (Nat.two_pow_add_eq_or_of_lt (by omega) _).symm
  have hlt : x + p * 2 ^ s < 256 := by
    rw [← hadd]
    exact Nat.or_lt_two_pow (n := 8) hx (by omega)
  have hrl : (H.wRow bs (n : Int)).length = init.length + 1 := by rw [hr]; simp
  have hb : H.wByte bs (n : Int) (u : Int) (left : Int) = ((x + p * 2 ^ s : Nat) : Int) := by
    unfold H.wByte H.wPart
    rw [hrl, hM, hr]
    have e1 : rd (init ++ [(x : Int)]) (((init.length + 1 : Nat) : Int) - 1) = (x : Int) := by
      unfold rd
      rw [show (((init.length + 1 : Nat) : Int) - 1).toNat = init.length by omega]
      simp
    rw [e1, show ((left : Int) - (m : Int)).toNat = left - m by omega, Int.toNat_natCast, show (8 - (n : Int) % 8 - (m : Int)).toNat = s by omega, wpart_val u m (left - m) (by omega), ← hp]
    have e2 : ((p : Nat) : Int) * 2 ^ s % 256 = ((p * 2 ^ s : Nat) : Int) := by
      have : ((p : Nat) : Int) * 2 ^ s = ((p * 2 ^ s : Nat) : Int) := by rw [Int.natCast_mul, Int.natCast_pow]; rfl
      rw [this]
      omega
    rw [e2, bits_or_u8_nat _ _ hx (by omega), hadd]
  rw [hb, hrl, hr, Nat.add_sub_cancel]
  have hset : (init ++ [(x : Int)]).set init.length ((x + p * 2 ^ s : Nat) : Int) = init ++ [((x + p * 2 ^ s : Nat) : Int)] := by simp [List.set_append]
  rw [hset]
  refine ⟨?_, ?_, ?_⟩
  · intro y hy
    rcases List.mem_append.1 hy with hy | hy
    · exact hi y hy
    · have : y = ((x + p * 2 ^ s : Nat) : Int) := by simpa using hy
      omega
  · rw [List.length_append, List.length_cons, List.length_nil]
    omega
  · rw [bigN_snoc, List.length_append, List.length_cons, List.length_nil, Int.toNat_natCast, show 8 * (init.length + (0 + 1)) - (n + m) = s by omega, ← Nat.add_assoc, hN, Nat.add_mul, ← hs, Nat.pow_add, Nat.mul_assoc]
theorem wput_val (u : Nat) : ∀ (f : Nat) (bs : List Int) (n A left : Nat), WN bs n A → left ≤ f →
    (H.wput f bs (n : Int) (u : Int) (left : Int)).2 = ((n + left : Nat) : Int) ∧ WN (H.wput f bs (n : Int) (u : Int) (left : Int)).1 (n + left) (A * 2 ^ left + u % 2 ^ left) := by
  intro f
  induction f with
  | zero =>
    intro bs n A left h hf
    obtain rfl : left = 0 := by omega
    unfold H.wput
    exact ⟨rfl, by rw [Nat.pow_zero, Nat.mul_one, Nat.mod_one, Nat.add_zero]; exact h⟩
  | succ f ih =>
    intro bs n A left h hf
    unfold H.wput
    by_cases hz : left = 0
    · subst hz
      rw [if_pos (by omega)]
      exact ⟨rfl, by rw [Nat.pow_zero, Nat.mul_one, Nat.mod_one, Nat.add_zero]; exact h⟩
    · rw [if_neg (by omega)]
      obtain ⟨m, hm⟩ : ∃ m : Nat, m = min (8 - n % 8) left := ⟨_, rfl⟩
      obtain ⟨hW, hM⟩ := wround_val bs n A u left m h (by omega) hm
      rw [hM, show ((n : Int) + (m : Int)) = ((n + m : Nat) : Int) by omega, show ((left : Int) - (m : Int)) = ((left - m : Nat) : Int) by omega]
      obtain ⟨r1, r2⟩ := ih _ (n + m) _ (left - m) hW (by omega)
      refine ⟨by rw [r1]; congr 1; omega, ?_⟩
      rw [show n + left = n + m + (left - m) by omega]
      have e : (A * 2 ^ m + u / 2 ^ (left - m) % 2 ^ m) * 2 ^ (left - m) + u % 2 ^ (left - m) = A * 2 ^ left + u % 2 ^ left := by
        obtain ⟨c, hc⟩ : ∃ c : Nat, left = c + m := ⟨left - m, by omega⟩
        subst hc
        rw [Nat.add_sub_cancel, mod_split u c m, Nat.pow_add 2 c m, Nat.add_mul, Nat.mul_assoc, Nat.mul_comm (2 ^ m) (2 ^ c), Nat.add_assoc]
      rw [← e]
      exact r2

theorem bigN_inj {l r : List Int} (hl : ∀ x ∈ l, 0 ≤ x ∧ x ≤ 255) (hr : ∀ x ∈ r, 0 ≤ x ∧ x ≤ 255) (h : l.length = r.length) (e : bigN l = bigN r) : l = r := by
  refine List.ext_getElem h fun i h1 h2 => ?_
  rw [bigN_byte l hl i h1, bigN_byte r hr i h2, e, h]
theorem bigN_app : ∀ (l r : List Int), bigN (l ++ r) = bigN l * 256 ^ r.length + bigN r
  | [], r => by simp [bigN]
  | x :: l, r => by
    rw [List.cons_append, bigN, bigN, bigN_app l r, List.length_append, Nat.pow_add, Nat.add_mul, Nat.mul_assoc, Nat.add_assoc]
/-- A number laid behind others. -/
theorem wput1_val (s : List Int × Int) (n A : Nat) (hn : s.2 = n) (h : WN s.1 n A) (u : Int) (hu : 0 ≤ u) (w : Nat) (hw : w ≤ 64) : (H.wput1 s u w).2 = ((n + w : Nat) : Int) ∧ WN (H.wput1 s u w).1 (n + w) (A * 2 ^ w + u.toNat % 2 ^ w) := by
  unfold H.wput1
  obtain ⟨v, rfl⟩ : ∃ v : Nat, u = (v : Int) := ⟨u.toNat, by omega⟩
  rw [show (max 0 (min (w : Int) 64)) = (w : Int) by omega, hn, Int.toNat_natCast]
  exact wput_val v 64 s.1 n A w h hw
end Go.Proofs.Ytpeejdmbnlhjmaa.FMetaWrites
namespace Go.Proofs.Ytpeejdmbnlhjmaa.FMetaWrites
open Go.RowKit Go.Proofs.YtpeejdmbnlhjmaaW.PrintWords Go.Proofs.YtpeejdmbnlhjmaaW.PrintLast Go.Proofs.Ytpeejdmbnlhjmaa.PMetaWrites Go.Proofs.Ytpeejdmbnlhjmaa.L
set_option linter.unusedVariables false
set_option linter.unusedSimpArgs false
/-- A whole number laid behind others. -/
theorem wput8_val (s : List Int × Int) (n A : Nat) (hn : s.2 = n) (h : WN s.1 n A) (x : Int) (wi : Int) (w : Nat) (he : wi = w) (hw : w ≤ 64) : (H.wput8 s x wi).2 = ((n + w : Nat) : Int) ∧ WN (H.wput8 s x wi).1 (n + w) (A * 2 ^ w + (IntKind.u64.wrap x).toNat % 2 ^ w) := by
  subst he
  unfold H.wput8
  exact wput1_val s n A hn h _ (H.u64_rng x).1 w hw
/-- What a stream has, as one number of 144 bits. -/
def infoA (i : H.Inf) : Nat := (((((((((0 * 2 ^ 16 + (IntKind.u64.wrap i.i0).toNat % 2 ^ 16) * 2 ^ 16 + (IntKind.u64.wrap i.i1).toNat % 2 ^ 16) * 2 ^ 24 + (IntKind.u64.wrap i.i2).toNat % 2 ^ 24) * 2 ^ 24 + (IntKind.u64.wrap i.i3).toNat % 2 ^ 24) * 2 ^ 20 + (IntKind.u64.wrap i.i4).toNat % 2 ^ 20) * 2 ^ 3 + (IntKind.u64.wrap (wrap64 (i.i5 - 1))).toNat % 2 ^ 3) * 2 ^ 5 + (IntKind.u64.wrap (wrap64 (i.i6 - 1))).toNat % 2 ^ 5) * 2 ^ 36 + (IntKind.u64.wrap i.i7).toNat % 2 ^ 36))
theorem infoW_val (i : H.Inf) : WN (H.infoW i).1 144 (infoA i) := by
  unfold H.infoW infoA
  have a0 := wput8_val ([], 0) 0 0 rfl WN_nil i.i0 16 16 rfl (by decide)
  generalize H.wput8 ([], 0) i.i0 16 = s0 at a0 ⊢
  have a1 := wput8_val s0 _ _ a0.1 a0.2 i.i1 16 16 rfl (by decide)
  generalize H.wput8 s0 i.i1 16 = s1 at a1 ⊢
  have a2 := wput8_val s1 _ _ a1.1 a1.2 i.i2 24 24 rfl (by decide)
  generalize H.wput8 s1 i.i2 24 = s2 at a2 ⊢
  have a3 := wput8_val s2 _ _ a2.1 a2.2 i.i3 24 24 rfl (by decide)
  generalize H.wput8 s2 i.i3 24 = s3 at a3 ⊢
  have a4 := wput8_val s3 _ _ a3.1 a3.2 i.i4 20 20 rfl (by decide)
  generalize H.wput8 s3 i.i4 20 = s4 at a4 ⊢
  have a5 := wput8_val s4 _ _ a4.1 a4.2 (wrap64 (i.i5 - 1)) 3 3 rfl (by decide)
  generalize H.wput8 s4 (wrap64 (i.i5 - 1)) 3 = s5 at a5 ⊢
  have a6 := wput8_val s5 _ _ a5.1 a5.2 (wrap64 (i.i6 - 1)) 5 5 rfl (by decide)
  generalize H.wput8 s5 (wrap64 (i.i6 - 1)) 5 = s6 at a6 ⊢
  have a7 := wput8_val s6 _ _ a6.1 a6.2 i.i7 36 36 rfl (by decide)
  generalize H.wput8 s6 i.i7 36 = s7 at a7 ⊢
  exact a7.2
/-- A row of bits as a number, the first one highest. -/
def valB (l : List Bool) : Nat := l.foldl (fun a b => 2 * a + b.toNat) 0
theorem valB_acc : ∀ (l : List Bool) (a : Nat), l.foldl (fun a b => 2 * a + b.toNat) a = a * 2 ^ l.length + valB l
  | [], a => by simp [valB]
  | b :: l, a => by
    unfold valB
    rw [List.foldl_cons, List.foldl_cons, valB_acc l, valB_acc l, List.length_cons, Nat.pow_succ, Nat.add_mul, Nat.mul_comm 2 a, Nat.mul_assoc, Nat.mul_comm 2 (2 ^ l.length)]
    simp [Nat.add_assoc]
theorem valB_app (l r : List Bool) : valB (l ++ r) = valB l * 2 ^ r.length + valB r := by
  unfold valB
  rw [List.foldl_append, valB_acc]
  rfl
theorem valB_lt : ∀ l : List Bool, valB l < 2 ^ l.length
  | [] => by simp [valB]
  | b :: l => by
    have h := valB_lt l
    have e : valB (b :: l) = b.toNat * 2 ^ l.length + valB l := by
      have := valB_acc l b.toNat
      show List.foldl (fun a b => 2 * a + b.toNat) (2 * 0 + b.toNat) l = _
      rw [Nat.mul_zero, Nat.zero_add]
      exact this
    have hb : b.toNat ≤ 1 := by cases b <;> decide
    have := Nat.mul_le_mul_right (2 ^ l.length) hb
    rw [e, List.length_cons, Nat.pow_succ]
    omega
/-- The bits of a number, the highest one first. -/
def digB (u n : Nat) : List Bool := (List.range n).map fun i => u / 2 ^ (n - 1 - i) % 2 == 1
theorem digB_len (u n : Nat) : (digB u n).length = n := by simp [digB]
theorem digB_succ (u n : Nat) : digB u (n + 1) = digB (u / 2) n ++ [u % 2 == 1] := by
  unfold digB
  rw [List.range_succ, List.map_append]
  congr 1
  · refine List.map_congr_left fun i hi => ?_
    have := List.mem_range.mp hi
    rw [Nat.div_div_eq_div_mul, show n + 1 - 1 - i = (n - 1 - i) + 1 by omega, Nat.pow_succ, Nat.mul_comm 2]
  · simp
theorem digB_val (n : Nat) : ∀ u, valB (digB u n) = u % 2 ^ n := by
  induction n with
  | zero => intro u; simp [digB, valB, Nat.mod_one]
  | succ n ih =>
    intro u
    rw [digB_succ, valB_app, ih]
    have e : valB [u % 2 == 1] = u % 2 := by
      have : u % 2 = 0 ∨ u % 2 = 1 := by omega
      rcases this with h | h <;> simp [valB, h]
    have h1 := Nat.mod_mul (a := 2) (b := 2 ^ n) (x := u)
    rw [e, List.length_singleton, Nat.pow_one, Nat.pow_succ, Nat.mul_comm (2 ^ n) 2, h1]
    omega
theorem digB_cons (u n : Nat) : digB u (n + 1) = (u / 2 ^ n % 2 == 1) :: digB u n := by
  unfold digB
  rw [List.range_succ_eq_map, List.map_cons, List.map_map]
  congr 1
  refine List.map_congr_left fun i hi => ?_
  show (u / 2 ^ (n + 1 - 1 - (i + 1)) % 2 == 1) = _
  rw [show n + 1 - 1 - (i + 1) = n - 1 - i by omega]
theorem digits_loop (n : Nat) (hn : n ≤ 64) (j : Nat) : ∀ (u : Nat), u < 18446744073709551616 → j ≤ n → ∀ r : List Bool, r.length = n - j → Ev (fun k => H.serinetteref01_Digits.l0 k (u : Int) (List.replicate j false ++ r) ((j : Int) - 1)) (digB u j ++ r) := by
  induction j with
  | zero =>
    intro u hu hj r hr
    refine Ev.step (fun k => H.serinetteref01_Digits.l0.eq_2 ..) ?_
    refine evF (by omega) ?_
    exact Ev.now _
  | succ j ih =>
    intro u hu hj r hr
    refine Ev.step (fun k => H.serinetteref01_Digits.l0.eq_2 ..) ?_
    refine evT (by omega) ?_
    refine evT (by omega) ?_
    refine evT (by rw [List.length_append, List.length_replicate]; omega) ?_
    have e1 : IntKind.u64.wrap (Int.tdiv (u : Int) 2) = ((u / 2 : Nat) : Int) := by
      rw [tdiv_pos _ _ (by omega)]
      simp [IntKind.wrap, IntKind.bits, IntKind.signed]
      omega
    have e2 : (Int.tmod (u : Int) 2 == 1) = (u % 2 == 1) := by
      rw [tmod_pos _ _ (by omega)]
      have : u % 2 = 0 ∨ u % 2 = 1 := by omega
      rcases this with h | h
      · rw [h, show ((u : Int) % 2) = 0 by omega]; rfl
      · rw [h, show ((u : Int) % 2) = 1 by omega]; rfl
    have e3 : (List.replicate (j + 1) false ++ r).set (((j + 1 : Nat) : Int) - 1).toNat (u % 2 == 1) = List.replicate j false ++ ((u % 2 == 1) :: r) := by
      rw [show (((j + 1 : Nat) : Int) - 1).toNat = j by omega, List.set_append_left _ _ (by rw [List.length_replicate]; omega), List.replicate_succ', List.set_append_right _ _ (by rw [List.length_replicate]; exact Nat.le_refl _), List.length_replicate, Nat.sub_self, List.set_cons_zero, List.append_assoc]
      rfl
    rw [e1, e2, e3, show wrap64 (((j + 1 : Nat) : Int) - 1 - 1) = (j : Int) - 1 by rw [wr _ (by omega)]; omega, digB_succ, List.append_assoc]
    exact ih (u / 2) (by omega) (by omega) _ (by rw [List.length_cons]; omega)
theorem digits_ev (u n : Nat) (hu : u < 18446744073709551616) (hn : n ≤ 64) (ni : Int) (hi : ni = n) : Ev (fun k => H.serinetteref01_Digits.f k (u : Int) ni) (digB u n) := by
  subst hi
  unfold H.serinetteref01_Digits.f H.serinetteref01_Width.f
  have e : mx 0 (mn (n : Int) 64) = (n : Int) := by rw [mx_eq, mn_eq]; omega
  refine evC (congrArg some e) ?_
  refine evT (by omega) ?_
  refine evT (by omega) ?_
  rw [Int.toNat_natCast, wr _ (by omega)]
  have := digits_loop n hn n u hu (Nat.le_refl _) [] (by simp)
  rwa [List.append_nil, List.append_nil] at this
end Go.Proofs.Ytpeejdmbnlhjmaa.FMetaWrites
namespace Go.Proofs.Ytpeejdmbnlhjmaa.FMetaWrites
open Go.RowKit Go.Proofs.YtpeejdmbnlhjmaaW.PrintWords Go.Proofs.YtpeejdmbnlhjmaaW.PrintLast Go.Proofs.Ytpeejdmbnlhjmaa.PMetaWrites Go.Proofs.Ytpeejdmbnlhjmaa.L
set_option linter.unusedVariables false
set_option linter.unusedSimpArgs false
theorem number_loop (l : List Bool) (hl : l.length ≤ 64) (n : Nat) : ∀ (i : Nat), i + n = l.length → Ev (fun k => H.serinetteref01_Number.l0 k l ((valB (l.take i) : Nat) : Int) (i : Int)) ((valB l : Nat) : Int) := by
  induction n with
  | zero =>
    intro i hi
    obtain rfl : i = l.length := by omega
    refine Ev.step (fun k => H.serinetteref01_Number.l0.eq_2 ..) ?_
    refine evF (by omega) ?_
    rw [List.take_length]
    exact Ev.now _
  | succ n ih =>
    intro i hi
    have hlt : i < l.length := by omega
    have hv := valB_lt (l.take i)
    rw [List.length_take, Nat.min_eq_left (by omega)] at hv
    have hp : 2 ^ i ≤ 2 ^ 63 := Nat.pow_le_pow_right (by decide) (by omega)
    have e63 : (2 : Nat) ^ 63 = 9223372036854775808 := by decide
    have hs : valB (l.take (i + 1)) = 2 * valB (l.take i) + (l[i]).toNat := by
      rw [List.take_succ_eq_append_getElem hlt, valB_app, List.length_singleton, Nat.pow_one, Nat.mul_comm]
      congr 1
      cases l[i] <;> rfl
    have hrd : rdOf false l (i : Int) = l[i] := by
      unfold rdOf
      rw [Int.toNat_natCast, List.getD_eq_getElem?_getD, List.getElem?_eq_getElem hlt]
      rfl
    have w1 : IntKind.u64.wrap (2 * ((valB (l.take i) : Nat) : Int)) = 2 * ((valB (l.take i) : Nat) : Int) := by
      simp [IntKind.wrap, IntKind.bits, IntKind.signed]
      omega
    have w2 : IntKind.u64.wrap (2 * ((valB (l.take i) : Nat) : Int) + 1) = 2 * ((valB (l.take i) : Nat) : Int) + 1 := by
      simp [IntKind.wrap, IntKind.bits, IntKind.signed]
      omega
    refine Ev.step (fun k => H.serinetteref01_Number.l0.eq_2 ..) ?_
    refine evT (by omega) ?_
    refine evT (by omega) ?_
    rw [hrd, w1, w2, show wrap64 ((i : Int) + 1) = ((i + 1 : Nat) : Int) by rw [wr _ (by omega)]; omega]
    have := ih (i + 1) (by omega)
    rw [hs] at this
    cases hb : l[i]
    · rw [hb] at this
      refine evF (by decide) ?_
      simpa using this
    · rw [hb] at this
      refine evT rfl ?_
      simpa using this
theorem number_ev (l : List Bool) (hl : l.length ≤ 64) : Ev (fun k => H.serinetteref01_Number.f k l) ((valB l : Nat) : Int) := by
  unfold H.serinetteref01_Number.f
  exact number_loop l hl l.length 0 (by omega)
theorem bytes_loop (l : List Bool) (m : Nat) (hm : l.length = 8 * m) (hb : m ≤ 100000) (n : Nat) : ∀ (i : Nat) (x : List Int), i + n = m → x.length ≤ 100000 + i → (∀ y ∈ x, 0 ≤ y ∧ y ≤ 255) →
    ∃ r, Ev (fun k => H.serinetteref01_Bytes.l1 k l x ((8 * i : Nat) : Int)) r ∧ (∀ y ∈ r, 0 ≤ y ∧ y ≤ 255) ∧ r.length = x.length + n ∧ bigN r = bigN x * 256 ^ n + valB (l.drop (8 * i)) := by
  induction n with
  | zero =>
    intro i x hi hx hy
    obtain rfl : i = m := by omega
    refine ⟨x, Ev.step (fun k => H.serinetteref01_Bytes.l1.eq_2 ..) ?_, hy, rfl, ?_⟩
    · exact evF (by omega) (Ev.now _)
    · rw [← hm, List.drop_length]
      simp [valB]
  | succ n ih =>
    intro i x hi hx hy
    have hc : ((l.take (8 * i + 8)).drop (8 * i)).length = 8 := by
      rw [List.length_drop, List.length_take]
      omega
    have hv := valB_lt ((l.take (8 * i + 8)).drop (8 * i))
    rw [hc] at hv
    have hd : l.drop (8 * i) = (l.take (8 * i + 8)).drop (8 * i) ++ l.drop (8 * (i + 1)) := by
      rw [show 8 * (i + 1) = 8 * i + 8 by omega]
      have := List.take_append_drop (8 * i + 8) l
      conv => lhs; rw [← this]
      rw [List.drop_append_of_le_length (by rw [List.length_take]; omega)]
    obtain ⟨r, h1, h2, h3, h4⟩ := ih (i + 1) (x ++ [((valB ((l.take (8 * i + 8)).drop (8 * i)) : Nat) : Int) % 256]) (by omega) (by rw [List.length_append, List.length_singleton]; omega) (fun y hy' => by
      rcases List.mem_append.mp hy' with h | h
      · exact hy y h
      · rw [List.mem_singleton.mp h]; omega)
    have e : wrap64 (((8 * i : Nat) : Int) + 8) = ((8 * (i + 1) : Nat) : Int) := by rw [wr _ (by omega)]; omega
    refine ⟨r, Ev.step (fun k => H.serinetteref01_Bytes.l1.eq_2 ..) ?_, h2, ?_, ?_⟩
    · refine evT (by omega) ?_
      refine evT (by omega) ?_
      rw [e]
      refine evT (by omega) ?_
      refine evT (by omega) ?_
      rw [Int.toNat_natCast, Int.toNat_natCast, show 8 * (i + 1) = 8 * i + 8 by omega]
      refine evB (number_ev _ (by rw [hc]; decide)) ?_
      refine evT (by omega) ?_
      exact h1
    · rw [h3, List.length_append, List.length_singleton]; omega
    · rw [h4, hd, valB_app, bigN_snoc, List.length_drop]
      have hx2 : (((valB ((l.take (8 * i + 8)).drop (8 * i)) : Nat) : Int) % 256).toNat = valB ((l.take (8 * i + 8)).drop (8 * i)) := by
        have : (2 : Nat) ^ 8 = 256 := by decide
        omega
      rw [hx2, show l.length - 8 * (i + 1) = 8 * n by omega, Nat.pow_mul, show (2 : Nat) ^ 8 = 256 by decide, Nat.pow_succ, Nat.add_mul, Nat.mul_assoc, Nat.mul_comm 256 (256 ^ n), Nat.add_assoc]
theorem bytes_ev (l : List Bool) (m : Nat) (hm : l.length = 8 * m) (hb : m ≤ 100000) : ∃ r, Ev (fun k => H.serinetteref01_Bytes.f k l) r ∧ (∀ y ∈ r, 0 ≤ y ∧ y ≤ 255) ∧ r.length = m ∧ bigN r = valB l := by
  obtain ⟨r, h1, h2, h3, h4⟩ := bytes_loop l m hm hb m 0 [] (by omega) (by simp) (by simp)
  refine ⟨r, ?_, h2, by simpa using h3, by simpa [bigN] using h4⟩
  unfold H.serinetteref01_Bytes.f
  refine evC rfl ?_
  refine evT (by simp; omega) ?_
  rw [List.nil_append]
  refine Ev.step (fun k => H.serinetteref01_Bytes.l0.eq_2 ..) ?_
  refine evT (by omega) ?_
  exact h1
end Go.Proofs.Ytpeejdmbnlhjmaa.FMetaWrites
namespace Go.Proofs.Ytpeejdmbnlhjmaa.FMetaWrites
open Go.RowKit Go.Proofs.YtpeejdmbnlhjmaaW.PrintWords Go.Proofs.YtpeejdmbnlhjmaaW.PrintLast Go.Proofs.Ytpeejdmbnlhjmaa.PMetaWrites Go.Proofs.Ytpeejdmbnlhjmaa.L
set_option linter.unusedVariables false
set_option linter.unusedSimpArgs false
theorem digits_evI (x : Int) (hx : 0 ≤ x ∧ x < 18446744073709551616) (n : Nat) (hn : n ≤ 64) (ni : Int) (hi : ni = n) : Ev (fun k => H.serinetteref01_Digits.f k x ni) (digB x.toNat n) := by
  obtain ⟨u, rfl⟩ : ∃ u : Nat, x = (u : Int) := ⟨x.toNat, by omega⟩
  rw [Int.toNat_natCast]
  exact digits_ev u n (by omega) hn ni hi
theorem infobody_ev (a0_0 a0_1 a0_2 a0_3 a0_4 a0_5 a0_6 a0_7 a0_8 a0_9 a0_10 a0_11 a0_12 a0_13 a0_14 a0_15 a0_16 a0_17 a0_18 a0_19 a0_20 a0_21 a0_22 a0_23 : Int) : Ev (fun k => H.serinetteref18_InfoBody.f k a0_0 a0_1 a0_2 a0_3 a0_4 a0_5 a0_6 a0_7 a0_8 a0_9 a0_10 a0_11 a0_12 a0_13 a0_14 a0_15 a0_16 a0_17 a0_18 a0_19 a0_20 a0_21 a0_22 a0_23) (H.infoL ⟨a0_0, a0_1, a0_2, a0_3, a0_4, a0_5, a0_6, a0_7, a0_8, a0_9, a0_10, a0_11, a0_12, a0_13, a0_14, a0_15, a0_16, a0_17, a0_18, a0_19, a0_20, a0_21, a0_22, a0_23⟩) := by
  have hA := infoW_val ⟨a0_0, a0_1, a0_2, a0_3, a0_4, a0_5, a0_6, a0_7, a0_8, a0_9, a0_10, a0_11, a0_12, a0_13, a0_14, a0_15, a0_16, a0_17, a0_18, a0_19, a0_20, a0_21, a0_22, a0_23⟩
  obtain ⟨r, h1, h2, h3, h4⟩ := bytes_ev (digB (IntKind.u64.wrap a0_0).toNat 16 ++ digB (IntKind.u64.wrap a0_1).toNat 16 ++ digB (IntKind.u64.wrap a0_2).toNat 24 ++ digB (IntKind.u64.wrap a0_3).toNat 24 ++ digB (IntKind.u64.wrap a0_4).toNat 20 ++ digB (IntKind.u64.wrap (wrap64 (a0_5 - 1))).toNat 3 ++ digB (IntKind.u64.wrap (wrap64 (a0_6 - 1))).toNat 5 ++ digB (IntKind.u64.wrap a0_7).toNat 36) 18 (by simp [digB_len]) (by decide)
  have hval : valB (digB (IntKind.u64.wrap a0_0).toNat 16 ++ digB (IntKind.u64.wrap a0_1).toNat 16 ++ digB (IntKind.u64.wrap a0_2).toNat 24 ++ digB (IntKind.u64.wrap a0_3).toNat 24 ++ digB (IntKind.u64.wrap a0_4).toNat 20 ++ digB (IntKind.u64.wrap (wrap64 (a0_5 - 1))).toNat 3 ++ digB (IntKind.u64.wrap (wrap64 (a0_6 - 1))).toNat 5 ++ digB (IntKind.u64.wrap a0_7).toNat 36) = infoA ⟨a0_0, a0_1, a0_2, a0_3, a0_4, a0_5, a0_6, a0_7, a0_8, a0_9, a0_10, a0_11, a0_12, a0_13, a0_14, a0_15, a0_16, a0_17, a0_18, a0_19, a0_20, a0_21, a0_22, a0_23⟩ := by
    unfold infoA
    simp only [valB_app, digB_val, digB_len, Nat.zero_mul, Nat.zero_add]
  have hr : r = (H.infoW ⟨a0_0, a0_1, a0_2, a0_3, a0_4, a0_5, a0_6, a0_7, a0_8, a0_9, a0_10, a0_11, a0_12, a0_13, a0_14, a0_15, a0_16, a0_17, a0_18, a0_19, a0_20, a0_21, a0_22, a0_23⟩).1 := by
    obtain ⟨b1, b2, b3⟩ := hA
    refine bigN_inj h2 b1 (by rw [h3, b2]) ?_
    rw [h4, b3, b2, hval]
    simp
  unfold H.serinetteref18_InfoBody.f
  refine evB (digits_evI (IntKind.u64.wrap a0_0) (H.u64_rng _) 16 (by decide) 16 rfl) ?_
  refine evB (digits_evI (IntKind.u64.wrap a0_1) (H.u64_rng _) 16 (by decide) 16 rfl) ?_
  refine evB (digits_evI (IntKind.u64.wrap a0_2) (H.u64_rng _) 24 (by decide) 24 rfl) ?_
  refine evB (digits_evI (IntKind.u64.wrap a0_3) (H.u64_rng _) 24 (by decide) 24 rfl) ?_
  refine evB (digits_evI (IntKind.u64.wrap a0_4) (H.u64_rng _) 20 (by decide) 20 rfl) ?_
  refine evB (digits_evI (IntKind.u64.wrap (wrap64 (a0_5 - 1))) (H.u64_rng _) 3 (by decide) 3 rfl) ?_
  refine evB (digits_evI (IntKind.u64.wrap (wrap64 (a0_6 - 1))) (H.u64_rng _) 5 (by decide) 5 rfl) ?_
  refine evB (digits_evI (IntKind.u64.wrap a0_7) (H.u64_rng _) 36 (by decide) 36 rfl) ?_
  refine evT (by simp only [digB_len]; decide) ?_
  refine evB h1 ?_
  refine evT (by omega) ?_
  refine evR (Ev.now _) ?_
  rw [hr]
  rfl
end Go.Proofs.Ytpeejdmbnlhjmaa.FMetaWrites
namespace Go.Proofs.Ytpeejdmbnlhjmaa.FMetaWrites
open Go.RowKit Go.Proofs.YtpeejdmbnlhjmaaW.PrintWords Go.Proofs.YtpeejdmbnlhjmaaW.PrintLast Go.Proofs.Ytpeejdmbnlhjmaa.PMetaWrites Go.Proofs.Ytpeejdmbnlhjmaa.L
set_option linter.unusedVariables false
set_option linter.unusedSimpArgs false
/-- The document's number of so many bytes. -/
theorem num_loop (m : Nat) (hm : m ≤ 100) (j : Nat) : ∀ (i : Nat) (n : Nat) (x : List Int), i + j = m → n < 9223372036854775808 → x.length = i → (∀ y ∈ x, 0 ≤ y ∧ y ≤ 255) →
    ∃ r, Ev (fun k => serinetteref18_Number.l0 k (n : Int) (m : Int) x (i : Int)) r ∧ (∀ y ∈ r, 0 ≤ y ∧ y ≤ 255) ∧ r.length = m ∧ bigN r = n % 256 ^ j * 256 ^ i + bigN x := by
  induction j with
  | zero =>
    intro i n x hi hn hx hb
    obtain rfl : i = m := by omega
    refine ⟨x, Ev.step (fun k => serinetteref18_Number.l0.eq_2 ..) ?_, hb, hx, by simp [Nat.mod_one]⟩
    exact evF (by omega) (Ev.now _)
  | succ j ih =>
    intro i n x hi hn hx hb
    have hc : Int.tmod (n : Int) 256 % 256 = ((n % 256 : Nat) : Int) := by rw [tmod_pos _ _ (by omega)]; omega
    have hd : wrap64 (Int.tdiv (n : Int) 256) = ((n / 256 : Nat) : Int) := by rw [tdiv_pos _ _ (by omega), wr _ (by omega)]; omega
    obtain ⟨r, h1, h2, h3, h4⟩ := ih (i + 1) (n / 256) (((n % 256 : Nat) : Int) :: x) (by omega) (by omega) (by rw [List.length_cons, hx]) (fun y hy => by
      rcases List.mem_cons.mp hy with rfl | h
      · omega
      · exact hb y h)
    refine ⟨r, Ev.step (fun k => serinetteref18_Number.l0.eq_2 ..) ?_, h2, h3, ?_⟩
    · refine evT (by omega) ?_
      refine evC rfl ?_
      refine evT (by rw [List.length_singleton, hx]; omega) ?_
      rw [hc, hd, show wrap64 ((i : Int) + 1) = ((i + 1 : Nat) : Int) by rw [wr _ (by omega)]; omega]
      exact h1
    · rw [h4, bigN, hx, Int.toNat_natCast, Nat.pow_succ 256 j, Nat.mul_comm (256 ^ j) 256, Nat.mod_mul, Nat.add_mul, Nat.pow_succ, ← Nat.add_assoc]
      congr 1
      rw [Nat.mul_comm (256 ^ i) 256, ← Nat.mul_assoc, Nat.mul_comm (n / 256 % 256 ^ j) 256, Nat.add_comm]
theorem num_ev (n m : Nat) (hm : m ≤ 100) (hn : n < 9223372036854775808) (ni mi : Int) (h1 : ni = n) (h2 : mi = m) : ∃ r, Ev (fun k => serinetteref18_Number.f k ni mi) r ∧ (∀ y ∈ r, 0 ≤ y ∧ y ≤ 255) ∧ r.length = m ∧ bigN r = n % 256 ^ m := by
  subst h1 h2
  obtain ⟨r, h1, h2, h3, h4⟩ := num_loop m hm m 0 n [] (by omega) hn rfl (by simp)
  exact ⟨r, h1, h2, h3, by simpa [bigN] using h4⟩
/-- A place that can be. -/
def pOk (p : H.S122) : Prop := (p.f3 = true → p.f0 = 0 ∧ p.f1 = 0 ∧ p.f2 = 0) ∧ 0 ≤ p.f0 ∧ p.f0 ≤ 68719476735 ∧ 0 ≤ p.f1 ∧ p.f1 ≤ 4611686018427387904 ∧ 0 ≤ p.f2 ∧ p.f2 ≤ 65535
theorem u64_small (x : Int) (h : 0 ≤ x ∧ x < 18446744073709551616) : IntKind.u64.wrap x = x := by
  simp [IntKind.wrap, IntKind.bits, IntKind.signed]
  omega
/-- One place laid: eighteen bytes more. -/
theorem point_val (s : List Int × Int) (n A : Nat) (hn : s.2 = ((8 * n : Nat) : Int)) (h : WN s.1 (8 * n) A) (p : H.S122) (hp : pOk p) (x0 x1 x2 : List Int)
    (b0 : ∀ y ∈ x0, 0 ≤ y ∧ y ≤ 255) (b1 : ∀ y ∈ x1, 0 ≤ y ∧ y ≤ 255) (b2 : ∀ y ∈ x2, 0 ≤ y ∧ y ≤ 255) (l0 : x0.length = 8) (l1 : x1.length = 8) (l2 : x2.length = 2)
    (v0 : bigN x0 = if p.f3 = true then 18446744073709551615 else p.f0.toNat) (v1 : bigN x1 = p.f1.toNat) (v2 : bigN x2 = p.f2.toNat) :
    (H.pointW s p).1 = s.1 ++ x0 ++ x1 ++ x2 ∧ (H.pointW s p).2 = ((8 * (n + 18) : Nat) : Int) ∧ ∃ A', WN (H.pointW s p).1 (8 * (n + 18)) A' := by
  obtain ⟨hh, p1, p2, p3, p4, p5, p6⟩ := hp
  obtain ⟨u, hu⟩ : ∃ u : Int, (if p.f3 = true then (18446744073709551615 : Int) else IntKind.u64.wrap p.f0) = u := ⟨_, rfl⟩
  have hu0 : 0 ≤ u ∧ u < 18446744073709551616 ∧ u.toNat = (if p.f3 = true then 18446744073709551615 else p.f0.toNat) := by
    subst hu
    by_cases c : p.f3 = true
    · rw [if_pos c, if_pos c]; decide
    · rw [if_neg c, if_neg c, u64_small p.f0 (by omega)]
      omega
  have e : H.pointW s p = H.wput8 (H.wput8 (H.wput1 s u 64) p.f1 64) p.f2 16 := by
    unfold H.pointW
    rw [hu]
  rw [e]
  have a0 := wput1_val s (8 * n) A hn h u hu0.1 64 (by decide)
  generalize hs0 : H.wput1 s u 64 = s0
  have a0' : s0.2 = ((8 * n + 64 : Nat) : Int) ∧ WN s0.1 (8 * n + 64) (A * 2 ^ 64 + u.toNat % 2 ^ 64) := by rw [← hs0]; exact a0
  have a1 := wput8_val s0 _ _ a0'.1 a0'.2 p.f1 64 64 rfl (by decide)
  generalize H.wput8 s0 p.f1 64 = s1 at a1 ⊢
  have a2 := wput8_val s1 _ _ a1.1 a1.2 p.f2 16 16 rfl (by decide)
  generalize H.wput8 s1 p.f2 16 = s2 at a2 ⊢
  rw [u64_small p.f1 (by omega)] at a2
  rw [u64_small p.f2 (by omega)] at a2
  have en : 8 * n + 64 + 64 + 16 = 8 * (n + 18) := by omega
  rw [en] at a2
  refine ⟨?_, a2.1, _, a2.2⟩
  obtain ⟨c1, c2, c3⟩ := a2.2
  obtain ⟨d1, d2, d3⟩ := h
  refine bigN_inj c1 (fun y hy => ?_) ?_ ?_
  · simp only [List.mem_append] at hy
    rcases hy with ((hy | hy) | hy) | hy
    · exact d1 y hy
    · exact b0 y hy
    · exact b1 y hy
    · exact b2 y hy
  · simp only [List.length_append, l0, l1, l2, d2, c2]
    omega
  · rw [c3, c2, bigN_app, bigN_app, bigN_app, l0, l1, l2, v0, v1, v2, d3, d2, ← hu0.2.2]
    have m0 : u.toNat % 2 ^ 64 = u.toNat := Nat.mod_eq_of_lt (by have : (2 : Nat) ^ 64 = 18446744073709551616 := by decide
                                                                 omega)
    have m1 : p.f1.toNat % 2 ^ 64 = p.f1.toNat := Nat.mod_eq_of_lt (by have : (2 : Nat) ^ 64 = 18446744073709551616 := by decide
                                                                       omega)
    have m2 : p.f2.toNat % 2 ^ 16 = p.f2.toNat := Nat.mod_eq_of_lt (by have : (2 : Nat) ^ 16 = 65536 := by decide
                                                                       omega)
    rw [m0, m1, m2, show 8 * ((8 * (n + 18) + 7) / 8) - 8 * (n + 18) = 0 by omega, show 8 * ((8 * n + 7) / 8) - 8 * n = 0 by omega, show (256 : Nat) ^ 8 = 2 ^ 64 by decide, show (256 : Nat) ^ 2 = 2 ^ 16 by decide]
    simp
end Go.Proofs.Ytpeejdmbnlhjmaa.FMetaWrites
namespace Go.Proofs.Ytpeejdmbnlhjmaa.FMetaWrites
open Go.RowKit Go.Proofs.YtpeejdmbnlhjmaaW.PrintWords Go.Proofs.YtpeejdmbnlhjmaaW.PrintLast Go.Proofs.Ytpeejdmbnlhjmaa.PMetaWrites Go.Proofs.Ytpeejdmbnlhjmaa.L
set_option linter.unusedVariables false
set_option linter.unusedSimpArgs false
theorem rd_pt (l : List H.S122) (i : Nat) (h : i < l.length) : H.rd_T122 l (i : Int) = l[i] := by
  unfold H.rd_T122
  rw [Int.toNat_natCast, List.getD_eq_getElem?_getD, List.getElem?_eq_getElem h]
  rfl
theorem seekb_loop (l : List H.S122) (hl : l.length ≤ 20) (hp : ∀ p ∈ l, pOk p) (n : Nat) : ∀ (i : Nat) (s : List Int × Int), i + n = l.length → s = H.seekW (l.take i) → s.2 = ((8 * (18 * i) : Nat) : Int) → (∃ A, WN s.1 (8 * (18 * i)) A) →
    Ev (fun k => serinetteref18_SeekBody.l0 k l s.1 (i : Int)) (H.seekW l).1 := by
  induction n with
  | zero =>
    intro i s hi hs h2 hA
    obtain rfl : i = l.length := by omega
    refine Ev.step (fun k => serinetteref18_SeekBody.l0.eq_2 ..) ?_
    refine evF (by omega) ?_
    rw [hs, List.take_length]
    exact Ev.now _
  | succ n ih =>
    intro i s hi hs h2 hA
    have hlt : i < l.length := by omega
    obtain ⟨A, hA⟩ := hA
    have hlen : s.1.length ≤ 400 := by have := hA.2.1; omega
    have hpo := hp l[i] (List.getElem_mem hlt)
    have hst := H.seekW_take l i hlt
    rw [rd_pt l i hlt, ← hs] at hst
    obtain ⟨hh, p1, p2, p3, p4, p5, p6⟩ := hpo
    have hpo := hp l[i] (List.getElem_mem hlt)
    have hrd := rd_pt l i hlt
    generalize l[i] = p at *
    obtain ⟨x1, e1, b1, l1, v1⟩ := num_ev p.f1.toNat 8 (by decide) (by omega) p.f1 8 (by omega) rfl
    obtain ⟨x2, e2, b2, l2, v2⟩ := num_ev p.f2.toNat 2 (by decide) (by omega) p.f2 2 (by omega) rfl
    have v1' : bigN x1 = p.f1.toNat := by rw [v1]; exact Nat.mod_eq_of_lt (by have : (256 : Nat) ^ 8 = 18446744073709551616 := by decide
                                                                              omega)
    have v2' : bigN x2 = p.f2.toNat := by rw [v2]; exact Nat.mod_eq_of_lt (by have : (256 : Nat) ^ 2 = 65536 := by decide
                                                                              omega)
    have en : 8 * (18 * i + 18) = 8 * (18 * (i + 1)) := by omega
    refine Ev.step (fun k => serinetteref18_SeekBody.l0.eq_2 ..) ?_
    refine evT (by omega) ?_
    refine evT (by omega) ?_
    rw [hrd]
    by_cases c : p.f3 = true
    · obtain ⟨q1, q2, A', q3⟩ := point_val s (18 * i) A h2 hA p hpo [255, 255, 255, 255, 255, 255, 255, 255] x1 x2 (by simp) b1 b2 rfl l1 l2 (by rw [if_pos c]; decide) v1' v2'
      rw [en] at q2 q3
      have := ih (i + 1) (H.pointW s p) (by omega) hst.symm q2 ⟨A', q3⟩
      rw [q1] at this
      refine evT c ?_
      refine evC rfl ?_
      refine evT (by show s.1.length + 8 < _; omega) ?_
      refine evC rfl ?_
      refine evB e1 ?_
      refine evT (by rw [List.length_append]; show s.1.length + 8 + x1.length < _; omega) ?_
      refine evC rfl ?_
      refine evB e2 ?_
      refine evT (by rw [List.length_append, List.length_append]; show s.1.length + 8 + x1.length + x2.length < _; omega) ?_
      rw [show wrap64 ((i : Int) + 1) = ((i + 1 : Nat) : Int) by rw [wr _ (by omega)]; omega]
      exact this
    · obtain ⟨x0, e0, b0, l0, v0⟩ := num_ev p.f0.toNat 8 (by decide) (by omega) p.f0 8 (by omega) rfl
      have v0' : bigN x0 = p.f0.toNat := by rw [v0]; exact Nat.mod_eq_of_lt (by have : (256 : Nat) ^ 8 = 18446744073709551616 := by decide
                                                                                omega)
      obtain ⟨q1, q2, A', q3⟩ := point_val s (18 * i) A h2 hA p hpo x0 x1 x2 b0 b1 b2 l0 l1 l2 (by rw [if_neg c]; exact v0') v1' v2'
      rw [en] at q2 q3
      have := ih (i + 1) (H.pointW s p) (by omega) hst.symm q2 ⟨A', q3⟩
      rw [q1] at this
      refine evF c ?_
      refine evB e0 ?_
      refine evT (by omega) ?_
      refine evC rfl ?_
      refine evB e1 ?_
      refine evT (by rw [List.length_append]; omega) ?_
      refine evC rfl ?_
      refine evB e2 ?_
      refine evT (by rw [List.length_append, List.length_append]; omega) ?_
      rw [show wrap64 ((i : Int) + 1) = ((i + 1 : Nat) : Int) by rw [wr _ (by omega)]; omega]
      exact this
theorem seekbody_ev (l : List H.S122) (hl : l.length ≤ 20) (hp : ∀ p ∈ l, pOk p) : Ev (fun k => serinetteref18_SeekBody.f k l) (H.seekW l).1 := by
  unfold serinetteref18_SeekBody.f
  exact seekb_loop l hl hp l.length 0 ([], 0) (by omega) rfl rfl ⟨0, WN_nil⟩
theorem seekW_wn (l : List H.S122) : ∀ i : Nat, i ≤ l.length → (H.seekW (l.take i)).2 = ((144 * i : Nat) : Int) ∧ ∃ A, WN (H.seekW (l.take i)).1 (144 * i) A
  | 0, _ => by
    rw [List.take_zero]
    exact ⟨rfl, 0, WN_nil⟩
  | i + 1, h => by
    obtain ⟨h1, A, h2⟩ := seekW_wn l i (by omega)
    rw [H.seekW_take l i (by omega)]
    generalize H.seekW (l.take i) = s at *
    generalize H.rd_T122 l (i : Int) = p
    unfold H.pointW
    have hu : 0 ≤ (if p.f3 = true then (18446744073709551615 : Int) else IntKind.u64.wrap p.f0) := by
      split
      · decide
      · exact (H.u64_rng _).1
    generalize (if p.f3 = true then (18446744073709551615 : Int) else IntKind.u64.wrap p.f0) = u at hu ⊢
    have a0 := wput1_val s (144 * i) A h1 h2 u hu 64 (by decide)
    rw [show ((64 : Nat) : Int) = 64 from rfl] at a0
    generalize H.wput1 s u 64 = s0 at a0 ⊢
    have a1 := wput8_val s0 _ _ a0.1 a0.2 p.f1 64 64 rfl (by decide)
    generalize H.wput8 s0 p.f1 64 = s1 at a1 ⊢
    have a2 := wput8_val s1 _ _ a1.1 a1.2 p.f2 16 16 rfl (by decide)
    generalize H.wput8 s1 p.f2 16 = s2 at a2 ⊢
    rw [show 144 * i + 64 + 64 + 16 = 144 * (i + 1) by omega] at a2
    exact ⟨a2.1, _, a2.2⟩
theorem seekW_len (l : List H.S122) (hl : l.length ≤ 20) : (H.seekW l).1.length ≤ 1000000000 := by
  obtain ⟨_, A, _, h, _⟩ := seekW_wn l l.length (Nat.le_refl _)
  rw [List.take_length] at h
  omega
end Go.Proofs.Ytpeejdmbnlhjmaa.FMetaWrites
namespace Go.Proofs.Ytpeejdmbnlhjmaa.FMetaWrites
open Go.RowKit Go.Proofs.YtpeejdmbnlhjmaaW.PrintWords Go.Proofs.YtpeejdmbnlhjmaaW.PrintLast Go.Proofs.Ytpeejdmbnlhjmaa.PMetaWrites Go.Proofs.Ytpeejdmbnlhjmaa.L
set_option linter.unusedVariables false
set_option linter.unusedSimpArgs false
/-- Whether places can be, from one on behind another one. -/
def rng (p : H.S122) : Prop := 0 ≤ p.f0 ∧ p.f0 ≤ 68719476735 ∧ 0 ≤ p.f1 ∧ p.f1 ≤ 4611686018427387904 ∧ 1 ≤ p.f2 ∧ p.f2 ≤ 65535
def behind (prev : Option H.S122) (p : H.S122) : Prop := ∀ q, prev = some q → q.f3 = false ∧ q.f0 < p.f0
def okAt (prev : Option H.S122) (p : H.S122) : Prop := (p.f3 = true ∧ p.f0 = 0 ∧ p.f1 = 0 ∧ p.f2 = 0) ∨ (p.f3 = false ∧ rng p ∧ behind prev p)
def okAll : Option H.S122 → List H.S122 → Prop
  | _, [] => True
  | prev, p :: l => okAt prev p ∧ okAll (some p) l
theorem okAll_pOk : ∀ (l : List H.S122) (prev : Option H.S122), okAll prev l → ∀ p ∈ l, pOk p
  | p :: l, prev, h, q, hq => by
    rcases List.mem_cons.mp hq with rfl | hq
    · rcases h.1 with ⟨h0, h1, h2, h3⟩ | ⟨h0, h1, _⟩
      · exact ⟨fun _ => ⟨h1, h2, h3⟩, by omega, by omega, by omega, by omega, by omega, by omega⟩
      · obtain ⟨a, b, c, d, e, f⟩ := h1
        exact ⟨fun hh => absurd (h0.symm.trans hh) (by decide), a, b, c, d, by omega, f⟩
    · exact okAll_pOk l _ h.2 q hq
def prevAt (l : List H.S122) (i : Nat) : Option H.S122 := if i = 0 then none else l[i - 1]?
theorem prev_succ (l : List H.S122) (i : Nat) (h : i < l.length) : prevAt l (i + 1) = some l[i] := by
  unfold prevAt
  rw [if_neg (by omega), Nat.add_sub_cancel, List.getElem?_eq_getElem h]
theorem ref_loop (l : List H.S122) (hl : l.length ≤ 20) (b : Bool) (n : Nat) : ∀ i : Nat, i + n = l.length → (b = true ↔ okAll (prevAt l i) (l.drop i)) → Ev (fun k => serinetteref18_SeekRight.l0 k l (i : Int)) b := by
  induction n with
  | zero =>
    intro i hi hb
    obtain rfl : i = l.length := by omega
    refine Ev.step (fun k => serinetteref18_SeekRight.l0.eq_2 ..) ?_
    refine evF (by omega) ?_
    rw [List.drop_length] at hb
    rw [hb.mpr trivial]
    exact Ev.now _
  | succ n ih =>
    intro i hi hb
    have hlt : i < l.length := by omega
    have hd : l.drop i = l[i] :: l.drop (i + 1) := List.drop_eq_getElem_cons hlt
    rw [hd] at hb
    have hnext := ih (i + 1) (by omega)
    rw [prev_succ l i hlt] at hnext
    have hrd := rd_pt l i hlt
    have hprev : 0 < i → ∃ q, prevAt l i = some q ∧ H.rd_T122 l ((i : Int) - 1) = q := fun h0 => by
      refine ⟨l[i - 1], ?_, ?_⟩
      · unfold prevAt
        rw [if_neg (by omega), List.getElem?_eq_getElem (by omega)]
      · have := rd_pt l (i - 1) (by omega)
        rwa [show ((i - 1 : Nat) : Int) = (i : Int) - 1 by omega] at this
    have hzero : i = 0 → prevAt l i = none := fun h0 => by unfold prevAt; rw [if_pos h0]
    have ew : wrap64 ((i : Int) + 1) = ((i + 1 : Nat) : Int) := by rw [wr _ (by omega)]; omega
    have ew1 : wrap64 ((i : Int) - 1) = (i : Int) - 1 := wr _ (by omega)
    generalize l[i] = p at *
    generalize prevAt l i = pv at *
    have no : ¬ okAt pv p → b = false := fun h => Bool.eq_false_iff.mpr fun hb' => h (hb.mp hb').1
    have yes : okAt pv p → Ev (fun k => serinetteref18_SeekRight.l0 k l ((i + 1 : Nat) : Int)) b := fun h => hnext ⟨fun hb' => (hb.mp hb').2, fun h' => hb.mpr ⟨h, h'⟩⟩
    refine Ev.step (fun k => serinetteref18_SeekRight.l0.eq_2 ..) ?_
    refine evT (by omega) ?_
    refine evT (by omega) ?_
    rw [hrd]
    by_cases c : p.f3 = true
    · have nr : ¬ (p.f3 = false ∧ rng p ∧ behind pv p) := fun h => by rw [c] at h; cases h.1
      refine evT c ?_
      by_cases c0 : p.f0 = 0
      · refine evT c0 ?_
        by_cases c1 : p.f1 = 0
        · refine evT c1 ?_
          by_cases c2 : p.f2 = 0
          · refine evT c2 ?_
            rw [ew]
            exact yes (Or.inl ⟨c, c0, c1, c2⟩)
          · rw [no (fun h => h.elim (fun h => c2 h.2.2.2) nr)]
            exact evF c2 (Ev.now _)
        · rw [no (fun h => h.elim (fun h => c1 h.2.2.1) nr)]
          exact evF c1 (Ev.now _)
      · rw [no (fun h => h.elim (fun h => c0 h.2.1) nr)]
        exact evF c0 (Ev.now _)
    · have cf : p.f3 = false := Bool.eq_false_iff.mpr c
      have nl : ¬ (p.f3 = true ∧ p.f0 = 0 ∧ p.f1 = 0 ∧ p.f2 = 0) := fun h => c h.1
      refine evF c ?_
      have bad : ¬ rng p → Ev (fun k => serinetteref18_SeekRight.j1 k l (i : Int) true p.f0 p.f1 p.f2 p.f3) b := fun h => by
        rw [no (fun h' => h'.elim nl (fun h'' => h h''.2.1))]
        refine Ev.step (fun k => serinetteref18_SeekRight.j1.eq_2 ..) ?_
        exact evT rfl (Ev.now _)
      by_cases r0 : p.f0 < 0
      · exact evT r0 (bad fun h => by unfold rng at h; omega)
      refine evF r0 ?_
      by_cases r1 : p.f0 > 68719476735
      · exact evT r1 (bad fun h => by unfold rng at h; omega)
      refine evF r1 ?_
      by_cases r2 : p.f1 < 0
      · exact evT r2 (bad fun h => by unfold rng at h; omega)
      refine evF r2 ?_
      by_cases r3 : p.f1 > 4611686018427387904
      · exact evT r3 (bad fun h => by unfold rng at h; omega)
      refine evF r3 ?_
      by_cases r4 : p.f2 < 1
      · exact evT r4 (bad fun h => by unfold rng at h; omega)
      refine evF r4 ?_
      by_cases r5 : p.f2 > 65535
      · rw [decide_eq_true r5]
        exact bad fun h => by unfold rng at h; omega
      rw [decide_eq_false r5]
      have hr : rng p := by unfold rng; omega
      refine Ev.step (fun k => serinetteref18_SeekRight.j1.eq_2 ..) ?_
      refine evF (by decide) ?_
      by_cases hi0 : i = 0
      · refine evF (by omega) ?_
        rw [ew]
        refine yes (Or.inr ⟨cf, hr, fun q hq => ?_⟩)
        rw [hzero hi0] at hq
        cases hq
      · obtain ⟨q, hq1, hq2⟩ := hprev (by omega)
        refine evT (by omega) ?_
        rw [ew1, hq2]
        refine evT (by omega) ?_
        refine evT (by omega) ?_
        by_cases g : q.f3 = true
        · rw [no (fun h => h.elim nl (fun h' => by have := (h'.2.2 q hq1).1; rw [g] at this; cases this))]
          exact evT g (Ev.now _)
        · refine evF g ?_
          by_cases g1 : q.f0 ≥ p.f0
          · rw [no (fun h => h.elim nl (fun h' => by have := (h'.2.2 q hq1).2; omega))]
            exact evT g1 (Ev.now _)
          · refine evF g1 ?_
            rw [ew]
            refine yes (Or.inr ⟨cf, hr, fun q' hq' => ?_⟩)
            obtain rfl : q = q' := Option.some.inj (hq1.symm.trans hq')
            exact ⟨Bool.eq_false_iff.mpr g, by omega⟩
theorem ref_right (l : List H.S122) (hl : l.length ≤ 20) (b : Bool) (hb : b = true ↔ okAll none l) : Ev (fun k => serinetteref18_SeekRight.f k l) b := by
  unfold serinetteref18_SeekRight.f
  refine evF (by omega) ?_
  exact ref_loop l hl b l.length 0 (by omega) hb
theorem within_t {a lo hi : Int} (h : lo ≤ a ∧ a ≤ hi) : H.meta_within.f a lo hi = some true := by
  unfold H.meta_within.f
  rw [if_pos (show a ≥ lo from h.1), decide_eq_true h.2]
theorem within_f {a lo hi : Int} (h : ¬ (lo ≤ a ∧ a ≤ hi)) : H.meta_within.f a lo hi = some false := by
  unfold H.meta_within.f
  by_cases c : a ≥ lo
  · rw [if_pos c, decide_eq_false (fun x => h ⟨c, x⟩)]
  · rw [if_neg c]
/-- What the program bears in mind of what stands ahead. -/
def mind (prev : Option H.S122) (before : Int) (holes : Bool) : Prop := (prev = none ∧ before = -1 ∧ holes = false) ∨ (∃ q, prev = some q ∧ q.f3 = true ∧ holes = true) ∨ (∃ q, prev = some q ∧ q.f3 = false ∧ holes = false ∧ before = q.f0 ∧ 0 ≤ q.f0)
theorem own_loop (l : List H.S122) (hl : l.length ≤ 20) (b : Bool) (n : Nat) : ∀ (i : Nat) (before : Int) (holes : Bool), i + n = l.length → mind (prevAt l i) before holes → (b = true ↔ okAll (prevAt l i) (l.drop i)) → Ev (fun k => H.meta_seekRight.l0 k l before holes l (l.length : Int) (i : Int)) b := by
  induction n with
  | zero =>
    intro i before holes hi hm hb
    obtain rfl : i = l.length := by omega
    refine Ev.step (fun k => H.meta_seekRight.l0.eq_2 ..) ?_
    refine evF (by omega) ?_
    rw [List.drop_length] at hb
    rw [hb.mpr trivial, decide_eq_true (by omega)]
    exact Ev.now _
  | succ n ih =>
    intro i before holes hi hm hb
    have hlt : i < l.length := by omega
    have hd : l.drop i = l[i] :: l.drop (i + 1) := List.drop_eq_getElem_cons hlt
    rw [hd] at hb
    have hnext := fun before holes => ih (i + 1) before holes (by omega)
    rw [prev_succ l i hlt] at hnext
    have hrd := rd_pt l i hlt
    have ew : wrap64 ((i : Int) + 1) = ((i + 1 : Nat) : Int) := by rw [wr _ (by omega)]; omega
    generalize l[i] = p at *
    generalize prevAt l i = pv at *
    have no : ¬ okAt pv p → b = false := fun h => Bool.eq_false_iff.mpr fun hb' => h (hb.mp hb').1
    have yes : ∀ before holes, okAt pv p → mind (some p) before holes → Ev (fun k => H.meta_seekRight.l0 k l before holes l (l.length : Int) ((i + 1 : Nat) : Int)) b := fun before holes h hm' => hnext before holes hm' ⟨fun hb' => (hb.mp hb').2, fun h' => hb.mpr ⟨h, h'⟩⟩
    refine Ev.step (fun k => H.meta_seekRight.l0.eq_2 ..) ?_
    refine evT (by omega) ?_
    refine evT (by omega) ?_
    refine evT (by omega) ?_
    rw [hrd, ew]
    by_cases c : p.f3 = true
    · have nr : ¬ (p.f3 = false ∧ rng p ∧ behind pv p) := fun h => by rw [c] at h; cases h.1
      refine evT c ?_
      by_cases z : p.f0 = 0 ∧ p.f1 = 0 ∧ p.f2 = 0
      · refine evF (by rw [z.1, z.2.1, z.2.2, c]; decide) ?_
        exact yes _ _ (Or.inl ⟨c, z⟩) (Or.inr (Or.inl ⟨p, rfl, c, rfl⟩))
      · rw [no (fun h => h.elim (fun h => z h.2) nr)]
        refine evT ?_ (Ev.now _)
        rw [c]
        by_cases z0 : p.f0 = 0
        · by_cases z1 : p.f1 = 0
          · have z2 : ¬ p.f2 = 0 := fun h => z ⟨z0, z1, h⟩
            simp [z0, z1, z2]
          · simp [z0, z1]
        · simp [z0]
    · have cf : p.f3 = false := Bool.eq_false_iff.mpr c
      have nl : ¬ (p.f3 = true ∧ p.f0 = 0 ∧ p.f1 = 0 ∧ p.f2 = 0) := fun h => c h.1
      refine evF c ?_
      cases holes
      · have hm' : (pv = none ∧ before = -1) ∨ (∃ q, pv = some q ∧ q.f3 = false ∧ before = q.f0 ∧ 0 ≤ q.f0) := by
          rcases hm with h | ⟨q, h1, h2, h3⟩ | ⟨q, h1, h2, h3, h4, h5⟩
          · exact Or.inl ⟨h.1, h.2.1⟩
          · cases h3
          · exact Or.inr ⟨q, h1, h2, h4, h5⟩
        refine evF (by decide) ?_
        by_cases g0 : p.f0 ≤ before
        · refine evT g0 ?_
          rw [no (fun h => h.elim nl (fun h' => by
            rcases hm' with ⟨h1, h2⟩ | ⟨q, h1, h2, h3, h4⟩
            · have := h'.2.1.1; omega
            · have := (h'.2.2 q h1).2; omega))]
          exact Ev.now _
        refine evF g0 ?_
        have hb4 : behind pv p ∧ 0 ≤ p.f0 := by
          rcases hm' with ⟨h1, h2⟩ | ⟨q, h1, h2, h3, h4⟩
          · exact ⟨fun q' hq => absurd (h1.symm.trans hq) (by simp), by omega⟩
          · exact ⟨fun q' hq => by
              obtain rfl : q = q' := Option.some.inj (h1.symm.trans hq)
              exact ⟨h2, by omega⟩, by omega⟩
        by_cases g1 : p.f0 > 68719476735
        · rw [no (fun h => h.elim nl (fun h' => by have := h'.2.1.2.1; omega))]
          exact evT g1 (Ev.now _)
        refine evF g1 ?_
        by_cases g2 : 0 ≤ p.f1 ∧ p.f1 ≤ 4611686018427387904
        · refine evC (within_t g2) ?_
          refine evT rfl ?_
          by_cases g3 : 1 ≤ p.f2 ∧ p.f2 ≤ 65535
          · refine evC (within_t g3) ?_
            refine evT rfl ?_
            refine yes _ _ (Or.inr ⟨cf, ?_, hb4.1⟩) (Or.inr (Or.inr ⟨p, rfl, cf, rfl, rfl, hb4.2⟩))
            unfold rng
            omega
          · refine evC (within_f g3) ?_
            rw [no (fun h => h.elim nl (fun h' => g3 (by have := h'.2.1; unfold rng at this; omega)))]
            exact evF (by decide) (Ev.now _)
        · refine evC (within_f g2) ?_
          rw [no (fun h => h.elim nl (fun h' => g2 (by have := h'.2.1; unfold rng at this; omega)))]
          exact evF (by decide) (Ev.now _)
      · refine evT rfl ?_
        obtain ⟨q, h1, h2, _⟩ : ∃ q, pv = some q ∧ q.f3 = true ∧ true = true := by
          rcases hm with h | h | ⟨q, _, _, h3, _⟩
          · cases h.2.2
          · exact h
          · cases h3
        rw [no (fun h => h.elim nl (fun h' => by have := (h'.2.2 q h1).1; rw [h2] at this; cases this))]
        exact Ev.now _
theorem own_right (l : List H.S122) (hl : l.length ≤ 20) (b : Bool) (hb : b = true ↔ okAll none l) : Ev (fun k => H.meta_seekRight.f k l) b := by
  unfold H.meta_seekRight.f
  exact own_loop l hl b l.length 0 (-1) false (by omega) (Or.inl ⟨rfl, rfl, rfl⟩) hb
end Go.Proofs.Ytpeejdmbnlhjmaa.FMetaWrites
namespace Go.Proofs.Ytpeejdmbnlhjmaa.FMetaWrites
open Go.RowKit Go.Proofs.YtpeejdmbnlhjmaaW.PrintWords Go.Proofs.YtpeejdmbnlhjmaaW.PrintLast Go.Proofs.Ytpeejdmbnlhjmaa.PMetaWrites Go.Proofs.Ytpeejdmbnlhjmaa.L
set_option linter.unusedVariables false
set_option linter.unusedSimpArgs false
theorem within_b (a lo hi : Int) : H.meta_within.f a lo hi = some (decide (lo ≤ a ∧ a ≤ hi)) := by
  by_cases c : lo ≤ a ∧ a ≤ hi
  · rw [within_t c, decide_eq_true c]
  · rw [within_f c, decide_eq_false c]
theorem own_j1 (x3 x4 : Bool) (a0 a1 a2 a3 a4 a5 a6 a7 a8 a9 a10 a11 a12 a13 a14 a15 a16 a17 a18 a19 a20 a21 a22 a23 : Int) : Ev (fun k => H.meta_infoRight.j1 k x3 x4 a0 a1 a2 a3 a4 a5 a6 a7 a8 a9 a10 a11 a12 a13 a14 a15 a16 a17 a18 a19 a20 a21 a22 a23) (x3 && (x4 && (decide (1 ≤ a4 ∧ a4 ≤ 1048575) && (decide (1 ≤ a5 ∧ a5 ≤ 8) && (decide (4 ≤ a6 ∧ a6 ≤ 32) && decide (0 ≤ a7 ∧ a7 ≤ 68719476735)))))) := by
  refine Ev.step (fun k => H.meta_infoRight.j1.eq_2 ..) ?_
  refine evC (within_b ..) ?_
  generalize decide (1 ≤ a4 ∧ a4 ≤ 1048575) = p
  cases p
  · refine evF (by decide) ?_
    cases x3
    · exact evF (by decide) (Ev.now _)
    · refine evT rfl ?_
      cases x4
      · exact evF (by decide) (Ev.now _)
      · exact evT rfl (Ev.now _)
  · refine evT rfl ?_
    refine evC (within_b ..) ?_
    generalize decide (1 ≤ a5 ∧ a5 ≤ 8) = q
    cases q
    · refine evF (by decide) ?_
      cases x3
      · exact evF (by decide) (Ev.now _)
      · refine evT rfl ?_
        cases x4
        · exact evF (by decide) (Ev.now _)
        · exact evT rfl (Ev.now _)
    · refine evT rfl ?_
      refine evC (within_b ..) ?_
      generalize decide (4 ≤ a6 ∧ a6 ≤ 32) = s
      cases x3
      · exact evF (by decide) (Ev.now _)
      · refine evT rfl ?_
        cases x4
        · exact evF (by decide) (Ev.now _)
        · refine evT rfl ?_
          cases s
          · exact evF (by decide) (Ev.now _)
          · refine evT rfl ?_
            refine evC (within_b ..) ?_
            exact Ev.now _
theorem own_j0 (x3 : Bool) (a0 a1 a2 a3 a4 a5 a6 a7 a8 a9 a10 a11 a12 a13 a14 a15 a16 a17 a18 a19 a20 a21 a22 a23 : Int) : Ev (fun k => H.meta_infoRight.j0 k x3 a0 a1 a2 a3 a4 a5 a6 a7 a8 a9 a10 a11 a12 a13 a14 a15 a16 a17 a18 a19 a20 a21 a22 a23) (x3 && ((decide (0 ≤ a2 ∧ a2 ≤ 16777215) && decide (0 ≤ a3 ∧ a3 ≤ 16777215)) && (decide (1 ≤ a4 ∧ a4 ≤ 1048575) && (decide (1 ≤ a5 ∧ a5 ≤ 8) && (decide (4 ≤ a6 ∧ a6 ≤ 32) && decide (0 ≤ a7 ∧ a7 ≤ 68719476735)))))) := by
  refine Ev.step (fun k => H.meta_infoRight.j0.eq_2 ..) ?_
  refine evC (within_b ..) ?_
  generalize decide (0 ≤ a2 ∧ a2 ≤ 16777215) = p
  cases p
  · refine evF (by decide) ?_
    exact own_j1 x3 false a0 a1 a2 a3 a4 a5 a6 a7 a8 a9 a10 a11 a12 a13 a14 a15 a16 a17 a18 a19 a20 a21 a22 a23
  · refine evT rfl ?_
    refine evC (within_b ..) ?_
    exact own_j1 x3 _ a0 a1 a2 a3 a4 a5 a6 a7 a8 a9 a10 a11 a12 a13 a14 a15 a16 a17 a18 a19 a20 a21 a22 a23
theorem own_info (a0 a1 a2 a3 a4 a5 a6 a7 a8 a9 a10 a11 a12 a13 a14 a15 a16 a17 a18 a19 a20 a21 a22 a23 : Int) (b : Bool) (hb : b = true ↔ (1 ≤ a0 ∧ a0 ≤ a1 ∧ a1 ≤ 65535 ∧ 0 ≤ a2 ∧ a2 ≤ 16777215 ∧ 0 ≤ a3 ∧ a3 ≤ 16777215 ∧ 1 ≤ a4 ∧ a4 ≤ 1048575 ∧ 1 ≤ a5 ∧ a5 ≤ 8 ∧ 4 ≤ a6 ∧ a6 ≤ 32 ∧ 0 ≤ a7 ∧ a7 ≤ 68719476735)) : Ev (fun k => H.meta_infoRight.f k a0 a1 a2 a3 a4 a5 a6 a7 a8 a9 a10 a11 a12 a13 a14 a15 a16 a17 a18 a19 a20 a21 a22 a23) b := by
  unfold H.meta_infoRight.f
  refine evC (within_b ..) ?_
  have e : b = (decide (1 ≤ a0 ∧ a0 ≤ a1) && (decide (a1 ≤ 65535) && ((decide (0 ≤ a2 ∧ a2 ≤ 16777215) && decide (0 ≤ a3 ∧ a3 ≤ 16777215)) && (decide (1 ≤ a4 ∧ a4 ≤ 1048575) && (decide (1 ≤ a5 ∧ a5 ≤ 8) && (decide (4 ≤ a6 ∧ a6 ≤ 32) && decide (0 ≤ a7 ∧ a7 ≤ 68719476735))))))) := by
    rw [Bool.eq_iff_iff, hb]
    simp only [Bool.and_eq_true, decide_eq_true_eq]
    omega
  rw [e]
  generalize decide (1 ≤ a0 ∧ a0 ≤ a1) = p
  cases p
  · refine evF (by decide) ?_
    exact own_j0 false a0 a1 a2 a3 a4 a5 a6 a7 a8 a9 a10 a11 a12 a13 a14 a15 a16 a17 a18 a19 a20 a21 a22 a23
  · refine evT rfl ?_
    exact own_j0 _ a0 a1 a2 a3 a4 a5 a6 a7 a8 a9 a10 a11 a12 a13 a14 a15 a16 a17 a18 a19 a20 a21 a22 a23
theorem ref_j0 (x17 : Bool) (a0 a1 a2 a3 a4 a5 a6 a7 a8 a9 a10 a11 a12 a13 a14 a15 a16 a17 a18 a19 a20 a21 a22 a23 : Int) (b : Bool) (hb : b = true ↔ x17 = false ∧ 0 ≤ a2 ∧ a2 ≤ 16777215 ∧ 0 ≤ a3 ∧ a3 ≤ 16777215 ∧ 1 ≤ a4 ∧ a4 ≤ 1048575 ∧ 1 ≤ a5 ∧ a5 ≤ 8 ∧ 4 ≤ a6 ∧ a6 ≤ 32 ∧ 0 ≤ a7 ∧ a7 ≤ 68719476735) : Ev (fun k => serinetteref18_InfoRight.j0 k x17 a0 a1 a2 a3 a4 a5 a6 a7 a8 a9 a10 a11 a12 a13 a14 a15 a16 a17 a18 a19 a20 a21 a22 a23) b := by
  have no : ¬ (x17 = false ∧ 0 ≤ a2 ∧ a2 ≤ 16777215 ∧ 0 ≤ a3 ∧ a3 ≤ 16777215 ∧ 1 ≤ a4 ∧ a4 ≤ 1048575 ∧ 1 ≤ a5 ∧ a5 ≤ 8 ∧ 4 ≤ a6 ∧ a6 ≤ 32 ∧ 0 ≤ a7 ∧ a7 ≤ 68719476735) → b = false := fun h => Bool.eq_false_iff.mpr fun h' => h (hb.mp h')
  refine Ev.step (fun k => serinetteref18_InfoRight.j0.eq_2 ..) ?_
  cases x17
  case true =>
    rw [no (fun h => by cases h.1)]
    exact evT rfl (Ev.now _)
  refine evF (by decide) ?_
  by_cases c : a2 < 0
  · rw [no (fun h => by omega)]
    exact evT c (Ev.now _)
  refine evF c ?_
  have ha2l0 := Int.not_lt.mp c
  clear c
  by_cases c : a2 > 16777215
  · rw [no (fun h => by omega)]
    exact evT c (Ev.now _)
  refine evF c ?_
  have ha2g16777215 := Int.not_lt.mp c
  clear c
  by_cases c : a3 < 0
  · rw [no (fun h => by omega)]
    exact evT c (Ev.now _)
  refine evF c ?_
  have ha3l0 := Int.not_lt.mp c
  clear c
  by_cases c : a3 > 16777215
  · rw [no (fun h => by omega)]
    exact evT c (Ev.now _)
  refine evF c ?_
  have ha3g16777215 := Int.not_lt.mp c
  clear c
  by_cases c : a4 ≥ 1
  case neg =>
    rw [no (fun h => by omega)]
    exact evF c (Ev.now _)
  refine evT c ?_
  have ha4g1 := c
  clear c
  by_cases c : a4 ≤ 1048575
  case neg =>
    rw [no (fun h => by omega)]
    exact evF c (Ev.now _)
  refine evT c ?_
  have ha4l1048575 := c
  clear c
  by_cases c : a5 ≥ 1
  case neg =>
    rw [no (fun h => by omega)]
    exact evF c (Ev.now _)
  refine evT c ?_
  have ha5g1 := c
  clear c
  by_cases c : a5 ≤ 8
  case neg =>
    rw [no (fun h => by omega)]
    exact evF c (Ev.now _)
  refine evT c ?_
  have ha5l8 := c
  clear c
  by_cases c : a6 ≥ 4
  case neg =>
    rw [no (fun h => by omega)]
    exact evF c (Ev.now _)
  refine evT c ?_
  have ha6g4 := c
  clear c
  by_cases c : a6 ≤ 32
  case neg =>
    rw [no (fun h => by omega)]
    exact evF c (Ev.now _)
  refine evT c ?_
  have ha6l32 := c
  clear c
  by_cases c : a7 ≥ 0
  case neg =>
    rw [no (fun h => by omega)]
    exact evF c (Ev.now _)
  refine evT c ?_
  have ha7g0 := c
  clear c
  have e : b = decide (a7 ≤ 68719476735) := by
    rw [Bool.eq_iff_iff, hb, decide_eq_true_eq]
    exact ⟨fun h => by omega, fun h => ⟨rfl, by omega⟩⟩
  rw [e]
  exact Ev.now _
theorem ref_info (a0 a1 a2 a3 a4 a5 a6 a7 a8 a9 a10 a11 a12 a13 a14 a15 a16 a17 a18 a19 a20 a21 a22 a23 : Int) (b : Bool) (hb : b = true ↔ (1 ≤ a0 ∧ a0 ≤ a1 ∧ a1 ≤ 65535 ∧ 0 ≤ a2 ∧ a2 ≤ 16777215 ∧ 0 ≤ a3 ∧ a3 ≤ 16777215 ∧ 1 ≤ a4 ∧ a4 ≤ 1048575 ∧ 1 ≤ a5 ∧ a5 ≤ 8 ∧ 4 ≤ a6 ∧ a6 ≤ 32 ∧ 0 ≤ a7 ∧ a7 ≤ 68719476735)) : Ev (fun k => serinetteref18_InfoRight.f k a0 a1 a2 a3 a4 a5 a6 a7 a8 a9 a10 a11 a12 a13 a14 a15 a16 a17 a18 a19 a20 a21 a22 a23) b := by
  have no : ¬ (1 ≤ a0 ∧ a0 ≤ a1 ∧ a1 ≤ 65535) → b = false := fun h => Bool.eq_false_iff.mpr fun h' => h (by have := hb.mp h'; omega)
  unfold serinetteref18_InfoRight.f
  by_cases c0 : a0 < 1
  · refine evT c0 ?_
    exact ref_j0 true a0 a1 a2 a3 a4 a5 a6 a7 a8 a9 a10 a11 a12 a13 a14 a15 a16 a17 a18 a19 a20 a21 a22 a23 b ⟨fun h => absurd (h.symm.trans (no (by omega))) (by decide), fun h => absurd h.1 (by decide)⟩
  refine evF c0 ?_
  by_cases c1 : a0 > a1
  · refine evT c1 ?_
    exact ref_j0 true a0 a1 a2 a3 a4 a5 a6 a7 a8 a9 a10 a11 a12 a13 a14 a15 a16 a17 a18 a19 a20 a21 a22 a23 b ⟨fun h => absurd (h.symm.trans (no (by omega))) (by decide), fun h => absurd h.1 (by decide)⟩
  refine evF c1 ?_
  refine ref_j0 _ a0 a1 a2 a3 a4 a5 a6 a7 a8 a9 a10 a11 a12 a13 a14 a15 a16 a17 a18 a19 a20 a21 a22 a23 b ?_
  rw [hb, decide_eq_false_iff_not]
  omega
end Go.Proofs.Ytpeejdmbnlhjmaa.FMetaWrites
namespace Go.Proofs.Ytpeejdmbnlhjmaa.FMetaWrites
open Go.RowKit Go.Proofs.YtpeejdmbnlhjmaaW.PrintWords Go.Proofs.YtpeejdmbnlhjmaaW.PrintLast Go.Proofs.Ytpeejdmbnlhjmaa.PMetaWrites Go.Proofs.Ytpeejdmbnlhjmaa.H Go.Proofs.Ytpeejdmbnlhjmaa.L
set_option linter.unusedVariables false
set_option linter.unusedSimpArgs false
theorem dropu (s : ByteArray) (p : Nat) (h : p < s.size) : s.data.toList.drop p = s.get! p :: s.data.toList.drop (p + 1) := by
  have hl : p < s.data.toList.length := by rw [data_length]; exact h
  rw [List.drop_eq_getElem_cons hl]
  have e : s.get! p = s[p]'h := by
    simp [ByteArray.get!, getElem!_pos, h]
    rfl
  rw [e]
  rfl
theorem ext_drop (t : ByteArray) (p : Nat) : (t.extract p t.size).data.toList = t.data.toList.drop p := by
  rw [ByteArray.data_extract, Array.toList_extract, List.extract_eq_take_drop]
  refine List.take_of_length_le ?_
  rw [List.length_drop, data_length]
  exact Nat.le_refl _
theorem prefix_iff (t : ByteArray) (p : Nat) (hp : p < t.size) : Lib.hasPrefix (t.extract p t.size).data.toList [239, 191, 189] = true ↔ p + 3 ≤ t.size ∧ (t.get! p).toNat = 239 ∧ (t.get! (p + 1)).toNat = 191 ∧ (t.get! (p + 2)).toNat = 189 := by
  rw [ext_drop]
  by_cases h : p + 3 ≤ t.size
  · rw [dropu t p hp, dropu t (p + 1) (by omega), dropu t (p + 1 + 1) (by omega)]
    show (([239, 191, 189] : List UInt8).isPrefixOf _) = true ↔ _
    simp only [List.isPrefixOf, Bool.and_eq_true, beq_iff_eq, Bool.and_true]
    constructor
    · rintro ⟨h1, h2, h3⟩
      rw [← h1, ← h2]
      refine ⟨h, rfl, rfl, ?_⟩
      rw [show p + 1 + 1 = p + 2 from rfl] at h3
      rw [← h3]
      rfl
    · rintro ⟨_, h1, h2, h3⟩
      exact ⟨UInt8.toNat_inj.mp h1.symm, UInt8.toNat_inj.mp h2.symm, UInt8.toNat_inj.mp h3.symm⟩
  · constructor
    · intro e
      have := Lib.hasPrefix_le e
      rw [List.length_drop, data_length] at this
      simp only [List.length_cons, List.length_nil] at this
      omega
    · rintro ⟨h1, _⟩
      exact absurd h1 h
theorem bad_run (t : ByteArray) (p : Nat) (hp : p < t.size) : badAt t p = decide ((runeN t p).2 = 0) := by
  have hf := (prefix_iff t p hp).trans (run_fffd t p hp).symm
  unfold badAt
  rw [dec_run]
  by_cases hz : (runeN t p).2 = 0
  · rw [if_pos hz, decide_eq_true hz, decide_eq_true rfl]
    have : Lib.hasPrefix (t.extract p t.size).data.toList [239, 191, 189] = false := Bool.eq_false_iff.mpr fun e => (hf.mp e).1 hz
    rw [this]
    rfl
  · rw [if_neg hz, decide_eq_false hz]
    by_cases h1 : (runeN t p).1 = 65533
    · rw [hf.mpr ⟨hz, h1⟩, Bool.not_true, Bool.and_false]
    · rw [decide_eq_false h1, Bool.false_and]
/-! The document's rune. -/
theorem rl_end (l : List Int) (size n least : Int) (R : Int × Int) (h : R = if n < least ∨ n > 1114111 ∨ (55296 ≤ n ∧ n ≤ 57343) then (0, 0) else (n, size)) : Ev (fun k => serinetteref18_Rune.l0 k l size n least size) R := by
  refine Ev.step (fun k => serinetteref18_Rune.l0.eq_2 ..) ?_
  refine evF (by omega) ?_
  by_cases h1 : n < least
  · rw [h.trans (if_pos (Or.inl h1))]
    exact evT h1 (Ev.now _)
  refine evF h1 ?_
  by_cases h2 : n > 1114111
  · rw [h.trans (if_pos (Or.inr (Or.inl h2)))]
    exact evT h2 (Ev.now _)
  refine evF h2 ?_
  by_cases h3 : n ≥ 55296
  · refine evT h3 ?_
    by_cases h4 : n ≤ 57343
    · rw [h.trans (if_pos (Or.inr (Or.inr ⟨h3, h4⟩)))]
      exact evT h4 (Ev.now _)
    · rw [h.trans (if_neg (by omega))]
      exact evF h4 (Ev.now _)
  · rw [h.trans (if_neg (by omega))]
    exact evF h3 (Ev.now _)
theorem rl_step (l : List Int) (size n least i : Int) (b : Int) (R : Int × Int) (hi : 0 ≤ i ∧ i < l.length ∧ i < size) (hs : size ≤ 4) (hn : 0 ≤ n ∧ n ≤ 1000000000) (hb : rd l i = b) (hb2 : 0 ≤ b ∧ b ≤ 255) (h0 : ¬ (128 ≤ b ∧ b ≤ 191) → R = (0, 0))
    (h1 : 128 ≤ b ∧ b ≤ 191 → Ev (fun k => serinetteref18_Rune.l0 k l size (64 * n + (b - 128)) least (i + 1)) R) : Ev (fun k => serinetteref18_Rune.l0 k l size n least i) R := by
  refine Ev.step (fun k => serinetteref18_Rune.l0.eq_2 ..) ?_
  refine evT hi.2.2 ?_
  refine evT hi.1 ?_
  refine evT hi.2.1 ?_
  rw [hb]
  by_cases c1 : b < 128
  · rw [h0 (by omega)]
    exact evT c1 (Ev.now _)
  refine evF c1 ?_
  by_cases c2 : b > 191
  · rw [h0 (by omega)]
    exact evT c2 (Ev.now _)
  refine evF c2 ?_
  have := h1 (by omega)
  rw [wr b (by omega), wr (64 * n) (by omega), wr (64 * n + b) (by omega), wr (64 * n + b - 128) (by omega), wr (i + 1) (by omega), show 64 * n + b - 128 = 64 * n + (b - 128) by omega]
  exact this
/-- Behind the choice of a size. -/
theorem rj5 (l : List Int) (size n least : Int) (R : Int × Int) (hz : size ≠ 0) (h0 : (l.length : Int) < size → R = (0, 0)) (h1 : size ≤ l.length → Ev (fun k => serinetteref18_Rune.l0 k l size n least 1) R) : Ev (fun k => serinetteref18_Rune.j5 k l size n least) R := by
  refine Ev.step (fun k => serinetteref18_Rune.j5.eq_2 ..) ?_
  refine evF hz ?_
  refine Ev.step (fun k => serinetteref18_Rune.j6.eq_2 ..) ?_
  by_cases c : (l.length : Int) < size
  · rw [decide_eq_true c, h0 c]
    exact evT rfl (Ev.now _)
  · rw [decide_eq_false c]
    exact evF (by decide) (h1 (by omega))
theorem rune_evL (l : List Int) (m b0 b1 b2 b3 : Nat) (hm : l.length = m) (hm1 : 1 ≤ m) (h0 : rd l 0 = (b0 : Int)) (h1 : 2 ≤ m → rd l 1 = (b1 : Int)) (h2 : 3 ≤ m → rd l 2 = (b2 : Int)) (h3 : 4 ≤ m → rd l 3 = (b3 : Int)) (g0 : b0 < 256) (g1 : b1 < 256) (g2 : b2 < 256) (g3 : b3 < 256) :
    Ev (fun k => serinetteref18_Rune.f k l) (((runV m b0 b1 b2 b3).1 : Int), ((runV m b0 b1 b2 b3).2 : Int)) := by
  unfold serinetteref18_Rune.f
  refine evF (by omega) ?_
  refine evT (by omega) ?_
  rw [h0, wr (b0 : Int) (by omega)]
  unfold runV
  by_cases c0 : b0 < 128
  · rw [if_pos c0]
    exact evT (by omega) (Ev.now _)
  rw [if_neg c0]
  refine evF (by omega) ?_
  by_cases c2 : 194 ≤ b0 ∧ b0 ≤ 223
  · rw [if_pos c2]
    refine evT (by omega) ?_
    rw [decide_eq_true (show (b0 : Int) ≤ 223 by omega)]
    refine Ev.step (fun k => serinetteref18_Rune.j0.eq_2 ..) ?_
    refine evT rfl ?_
    rw [wr ((b0 : Int) - 192) (by omega)]
    refine Ev.step (fun k => serinetteref18_Rune.j1.eq_2 ..) ?_
    refine evF (by omega) ?_
    refine Ev.step (fun k => serinetteref18_Rune.j2.eq_2 ..) ?_
    refine evF (by decide) ?_
    refine Ev.step (fun k => serinetteref18_Rune.j3.eq_2 ..) ?_
    refine evF (by omega) ?_
    refine Ev.step (fun k => serinetteref18_Rune.j4.eq_2 ..) ?_
    refine evF (by decide) ?_
    refine rj5 _ _ _ _ _ (by decide) (fun hl => by rw [if_neg (by omega)]; rfl) fun hl => ?_
    refine rl_step _ _ _ _ _ _ _ ⟨by decide, by omega, by decide⟩ (by decide) (by omega) (h1 (by omega)) (by omega) (fun hb => by rw [if_neg (by omega)]; rfl) fun hb => ?_
    rw [if_pos (by omega)]
    refine rl_end _ _ _ _ _ ?_
    rw [if_neg (by omega)]
    simp only
    rw [Prod.mk.injEq]
    exact ⟨by omega, rfl⟩
  rw [if_neg c2]
  have hj0 : ∀ (R : Int × Int), Ev (fun k => serinetteref18_Rune.j1 k l (b0 : Int) 0 0 0) R → Ev (fun k => if (b0 : Int) ≥ 194 then serinetteref18_Rune.j0 k l (b0 : Int) 0 0 0 (decide ((b0 : Int) ≤ 223)) else serinetteref18_Rune.j0 k l (b0 : Int) 0 0 0 false) R := by
    intro R hR
    by_cases c : (b0 : Int) ≥ 194
    · refine evT c ?_
      rw [decide_eq_false (show ¬ (b0 : Int) ≤ 223 by omega)]
      refine Ev.step (fun k => serinetteref18_Rune.j0.eq_2 ..) ?_
      exact evF (by decide) hR
    · refine evF c ?_
      refine Ev.step (fun k => serinetteref18_Rune.j0.eq_2 ..) ?_
      exact evF (by decide) hR
  refine hj0 _ ?_
  refine Ev.step (fun k => serinetteref18_Rune.j1.eq_2 ..) ?_
  by_cases c3 : 224 ≤ b0 ∧ b0 ≤ 239
  · rw [if_pos c3]
    refine evT (by omega) ?_
    rw [decide_eq_true (show (b0 : Int) ≤ 239 by omega)]
    refine Ev.step (fun k => serinetteref18_Rune.j2.eq_2 ..) ?_
    refine evT rfl ?_
    rw [wr ((b0 : Int) - 224) (by omega)]
    refine Ev.step (fun k => serinetteref18_Rune.j3.eq_2 ..) ?_
    refine evF (by omega) ?_
    refine Ev.step (fun k => serinetteref18_Rune.j4.eq_2 ..) ?_
    refine evF (by decide) ?_
    refine rj5 _ _ _ _ _ (by decide) (fun hl => by rw [if_neg (by omega)]; rfl) fun hl => ?_
    refine rl_step _ _ _ _ _ _ _ ⟨by decide, by omega, by decide⟩ (by decide) (by omega) (h1 (by omega)) (by omega) (fun hb => by rw [if_neg (by omega)]; rfl) fun hb1 => ?_
    refine rl_step _ _ _ _ _ _ _ ⟨by decide, by omega, by decide⟩ (by decide) (by omega) (h2 (by omega)) (by omega) (fun hb => by rw [if_neg (by omega)]; rfl) fun hb2 => ?_
    refine rl_end _ _ _ _ _ ?_
    by_cases d : 2048 ≤ ((b0 - 224) * 64 + (b1 - 128)) * 64 + (b2 - 128) ∧ (((b0 - 224) * 64 + (b1 - 128)) * 64 + (b2 - 128) < 55296 ∨ 57343 < ((b0 - 224) * 64 + (b1 - 128)) * 64 + (b2 - 128))
    · rw [if_pos (by omega), if_neg (by omega)]
      simp only
      rw [Prod.mk.injEq]
      exact ⟨by omega, rfl⟩
    · rw [if_neg (fun q => d ⟨q.2.2.2.1, q.2.2.2.2⟩), if_pos (by omega)]
      rfl
  rw [if_neg c3]
  have hj1 : ∀ (R : Int × Int), Ev (fun k => serinetteref18_Rune.j3 k l (b0 : Int) 0 0 0) R → Ev (fun k => if (b0 : Int) ≥ 224 then serinetteref18_Rune.j2 k l (b0 : Int) 0 0 0 (decide ((b0 : Int) ≤ 239)) else serinetteref18_Rune.j2 k l (b0 : Int) 0 0 0 false) R := by
    intro R hR
    by_cases c : (b0 : Int) ≥ 224
    · refine evT c ?_
      rw [decide_eq_false (show ¬ (b0 : Int) ≤ 239 by omega)]
      refine Ev.step (fun k => serinetteref18_Rune.j2.eq_2 ..) ?_
      exact evF (by decide) hR
    · refine evF c ?_
      refine Ev.step (fun k => serinetteref18_Rune.j2.eq_2 ..) ?_
      exact evF (by decide) hR
  refine hj1 _ ?_
  refine Ev.step (fun k => serinetteref18_Rune.j3.eq_2 ..) ?_
  by_cases c4 : 240 ≤ b0 ∧ b0 ≤ 244
  · rw [if_pos c4]
    refine evT (by omega) ?_
    rw [decide_eq_true (show (b0 : Int) ≤ 244 by omega)]
    refine Ev.step (fun k => serinetteref18_Rune.j4.eq_2 ..) ?_
    refine evT rfl ?_
    rw [wr ((b0 : Int) - 240) (by omega)]
    refine rj5 _ _ _ _ _ (by decide) (fun hl => by rw [if_neg (by omega)]; rfl) fun hl => ?_
    refine rl_step _ _ _ _ _ _ _ ⟨by decide, by omega, by decide⟩ (by decide) (by omega) (h1 (by omega)) (by omega) (fun hb => by rw [if_neg (by omega)]; rfl) fun hb1 => ?_
    refine rl_step _ _ _ _ _ _ _ ⟨by decide, by omega, by decide⟩ (by decide) (by omega) (h2 (by omega)) (by omega) (fun hb => by rw [if_neg (by omega)]; rfl) fun hb2 => ?_
    refine rl_step _ _ _ _ _ _ _ ⟨by decide, by omega, by decide⟩ (by decide) (by omega) (h3 (by omega)) (by omega) (fun hb => by rw [if_neg (by omega)]; rfl) fun hb3 => ?_
    refine rl_end _ _ _ _ _ ?_
    by_cases d : 65536 ≤ (((b0 - 240) * 64 + (b1 - 128)) * 64 + (b2 - 128)) * 64 + (b3 - 128) ∧ (((b0 - 240) * 64 + (b1 - 128)) * 64 + (b2 - 128)) * 64 + (b3 - 128) ≤ 1114111
    · rw [if_pos (by omega), if_neg (by omega)]
      simp only
      rw [Prod.mk.injEq]
      exact ⟨by omega, rfl⟩
    · rw [if_neg (fun q => d ⟨q.2.2.2.2.1, q.2.2.2.2.2⟩), if_pos (by omega)]
      rfl
  rw [if_neg c4]
  have hj3 : ∀ (R : Int × Int), Ev (fun k => serinetteref18_Rune.j5 k l 0 0 0) R → Ev (fun k => if (b0 : Int) ≥ 240 then serinetteref18_Rune.j4 k l (b0 : Int) 0 0 0 (decide ((b0 : Int) ≤ 244)) else serinetteref18_Rune.j4 k l (b0 : Int) 0 0 0 false) R := by
    intro R hR
    by_cases c : (b0 : Int) ≥ 240
    · refine evT c ?_
      rw [decide_eq_false (show ¬ (b0 : Int) ≤ 244 by omega)]
      refine Ev.step (fun k => serinetteref18_Rune.j4.eq_2 ..) ?_
      exact evF (by decide) hR
    · refine evF c ?_
      refine Ev.step (fun k => serinetteref18_Rune.j4.eq_2 ..) ?_
      exact evF (by decide) hR
  refine hj3 _ ?_
  refine Ev.step (fun k => serinetteref18_Rune.j5.eq_2 ..) ?_
  refine evT rfl ?_
  refine Ev.step (fun k => serinetteref18_Rune.j6.eq_2 ..) ?_
  exact evT rfl (Ev.now _)
theorem rd_drop (t : ByteArray) (p i : Nat) : rd ((bytesOf t).drop p) (i : Int) = ((t.get! (p + i)).toNat : Int) := by
  unfold rd
  rw [Int.toNat_natCast, ← getD_drop, get_bytes]
theorem rune_ev (t : ByteArray) (p : Nat) (hp : p < t.size) : Ev (fun k => serinetteref18_Rune.f k ((bytesOf t).drop p)) (((runeN t p).1 : Int), ((runeN t p).2 : Int)) :=
  rune_evL _ (t.size - p) _ _ _ _ (by rw [List.length_drop, bytesOf_length]) (by omega) (rd_drop t p 0) (fun _ => rd_drop t p 1) (fun _ => rd_drop t p 2) (fun _ => rd_drop t p 3) (t.get! (p + 0)).toNat_lt (t.get! (p + 1)).toNat_lt (t.get! (p + 2)).toNat_lt (t.get! (p + 3)).toNat_lt
theorem text_ev0 (t : ByteArray) (ht : t.size ≤ 1000000000) : ∀ (n p : Nat), t.size < p + n → Ev (fun k => serinetteref18_Text.l0 k ((bytesOf t).drop p)) (textL t n p)
  | 0, p, h => by
    refine Ev.step (fun k => serinetteref18_Text.l0.eq_2 ..) ?_
    refine evF (by rw [List.length_drop, bytesOf_length]; omega) ?_
    exact Ev.now _
  | n + 1, p, h => by
    refine Ev.step (fun k => serinetteref18_Text.l0.eq_2 ..) ?_
    unfold textL
    by_cases hp : p < t.size
    · rw [if_pos hp]
      refine evT (by rw [List.length_drop, bytesOf_length]; omega) ?_
      refine evB (rune_ev t p hp) ?_
      rw [bad_run t p hp]
      by_cases hz : (runeN t p).2 = 0
      · rw [decide_eq_true hz, if_pos rfl]
        exact evT (by simp only; omega) (Ev.now _)
      · rw [decide_eq_false hz, if_neg (by decide)]
        have he := run_end t p hp hz
        refine evF (by simp only; omega) ?_
        refine evT (by simp only; omega) ?_
        refine evT (by simp only [List.length_drop, bytesOf_length]; omega) ?_
        simp only
        rw [Int.toNat_natCast, List.drop_drop, dec_run, if_neg hz]
        exact text_ev0 t ht n (p + (runeN t p).2) (by omega)
    · rw [if_neg hp]
      refine evF (by rw [List.length_drop, bytesOf_length]; omega) ?_
      exact Ev.now _
theorem text_ev (t : ByteArray) (ht : t.size ≤ 1000000000) : Ev (fun k => serinetteref18_Text.f k t) (textP t) := by
  unfold serinetteref18_Text.f
  refine evT (by omega) ?_
  exact text_ev0 t ht (t.size + 1) 0 (by omega)
/-! Fields. -/
theorem bt_get (t : ByteArray) (i : Nat) (h : i < t.size) : bt t (i : Int) = ((t.get! i).toNat : Int) := by
  unfold bt
  have hi : (i : Int).toNat < t.size := by rw [Int.toNat_natCast]; exact h
  rw [dif_pos hi]
  have e : t.get! i = t[i]'h := by
    simp [ByteArray.get!, getElem!_pos, h]
    rfl
  rw [e]
  rfl
theorem dec_low (t : ByteArray) (p : Nat) (h : (t.get! p).toNat < 128) : Utf8.decode t p = ((t.get! p).toNat, 1) := by
  have hr : runeN t p = ((t.get! p).toNat, 1) := by
    unfold runeN runV
    exact if_pos h
  rw [dec_run, hr]
  rfl
theorem dec_high (t : ByteArray) (p : Nat) (h : 128 ≤ (t.get! p).toNat) : 128 ≤ (Utf8.decode t p).1 := by
  rw [dec_run]
  by_cases hz : (runeN t p).2 = 0
  · rw [if_pos hz]; decide
  · rw [if_neg hz]
    rcases run_cases t p hz with ⟨h0, hr⟩ | ⟨h0, h1, h2, h3, h4, hr⟩ | ⟨h0, h1, h2, h3, h4, h5, h6, h7, h8, hr⟩ | ⟨h0, h1, h2, h3, h4, h5, h6, h7, h8, h9, h10, hr⟩ <;> rw [hr] <;> simp only <;> omega
theorem odd_false (c : Nat) (h : 32 ≤ c ∧ c ≤ 125) : oddR c = false := by
  unfold oddR
  rw [decide_eq_false (by omega), decide_eq_false (by omega)]
  rfl
theorem odd_true (c : Nat) (h : c < 32 ∨ 125 < c) : oddR c = true := by
  unfold oddR
  rcases h with h | h
  · rw [decide_eq_true h, Bool.true_or]
  · rw [decide_eq_true h, Bool.or_true]
theorem no_odd (nm : ByteArray) (h : ∀ j, j < nm.size → 32 ≤ (nm.get! j).toNat ∧ (nm.get! j).toNat ≤ 125) : ∀ (f p : Nat), Lib.idxFuncFrom oddR true nm f p = -1
  | 0, _ => rfl
  | f + 1, p => by
    unfold Lib.idxFuncFrom
    by_cases c : p < nm.size
    · have := h p c
      rw [if_pos c, dec_low nm p (by omega)]
      simp only
      rw [odd_false _ this, if_neg (by decide)]
      exact no_odd nm h f (p + 1)
    · rw [if_neg c]
theorem some_odd (nm : ByteArray) (j : Nat) (hj : j < nm.size) (ho : (nm.get! j).toNat < 32 ∨ 125 < (nm.get! j).toNat) : ∀ (f p : Nat), p ≤ j → nm.size ≤ p + f → 0 ≤ Lib.idxFuncFrom oddR true nm f p
  | 0, p, h1, h2 => by omega
  | f + 1, p, h1, h2 => by
    unfold Lib.idxFuncFrom
    rw [if_pos (by omega)]
    by_cases c : (nm.get! p).toNat < 128
    · rw [dec_low nm p c]
      simp only
      by_cases e : oddR (nm.get! p).toNat = true
      · rw [if_pos e]; omega
      · rw [if_neg e]
        have hne : p ≠ j := by
          intro q
          subst q
          exact e (odd_true _ ho)
        exact some_odd nm j hj ho f (p + 1) (by omega) (by omega)
    · have := dec_high nm p (by omega)
      rw [if_pos (odd_true _ (by omega))]
      omega
theorem get_eq (s : ByteArray) (j : Nat) (h : j < s.size) : s.get! j = s[j]'h := by
  simp [ByteArray.get!, getElem!_pos, h]
  rfl
theorem name_get (t : ByteArray) (e j : Nat) (he : e ≤ t.size) (hj : j < e) : (t.extract 0 e).get! j = t.get! j := by
  have h1 : j < (t.extract 0 e).size := by rw [ByteArray.size_extract]; omega
  have h2 : j < t.size := by omega
  rw [get_eq _ j h1, get_eq _ j h2, ByteArray.getElem_extract]
  congr 1
  omega
theorem name_size (t : ByteArray) (e : Nat) (he : e ≤ t.size) : (t.extract 0 e).size = e := by rw [ByteArray.size_extract]; omega
theorem byte_at (t : ByteArray) (i : Nat) (h : i < t.size) : t.data.toList[i]? = some (t.get! i) := by
  have hl : i < t.data.toList.length := by rw [data_length]; exact h
  rw [List.getElem?_eq_getElem hl]
  have e : t.get! i = t[i]'h := by
    simp [ByteArray.get!, getElem!_pos, h]
    rfl
  rw [e]
  rfl
theorem eq_at (t : ByteArray) (i : Nat) (hi : i < t.size) (h : (t.get! i).toNat = 61) (hb : ∀ j, j < i → (t.get! j).toNat ≠ 61) : eqAt t = (i : Int) := by
  unfold eqAt
  have hge := Lib.indexByte_ge t.data.toList 61
  have hi61 : t.data.toList[i]? = some 61 := by rw [byte_at t i hi]; exact congrArg some (UInt8.toNat_inj.mp h)
  by_cases c : Lib.indexByte t.data.toList 61 = -1
  · exact absurd hi61 (Lib.indexByte_none c i)
  · obtain ⟨o, ho⟩ : ∃ o : Nat, Lib.indexByte t.data.toList 61 = (o : Int) := ⟨(Lib.indexByte t.data.toList 61).toNat, by omega⟩
    obtain ⟨h1, h2⟩ := Lib.indexByte_some ho
    rw [ho]
    have hol : o < t.size := by
      have := (List.getElem?_eq_some_iff.1 h1).1
      rwa [data_length] at this
    rw [byte_at t o hol] at h1
    have ho61 : (t.get! o).toNat = 61 := by rw [Option.some.inj h1]; rfl
    by_cases d : o < i
    · exact absurd ho61 (hb o d)
    · by_cases d2 : i < o
      · exact absurd hi61 (h2 i d2)
      · have : o = i := by omega
        rw [this]
theorem eq_none (t : ByteArray) (hb : ∀ j, j < t.size → (t.get! j).toNat ≠ 61) : ¬ 0 ≤ eqAt t := by
  intro h
  unfold eqAt at h
  obtain ⟨o, ho⟩ : ∃ o : Nat, Lib.indexByte t.data.toList 61 = (o : Int) := ⟨(Lib.indexByte t.data.toList 61).toNat, by omega⟩
  obtain ⟨h1, _⟩ := Lib.indexByte_some ho
  have hol : o < t.size := by
    have := (List.getElem?_eq_some_iff.1 h1).1
    rwa [data_length] at this
  rw [byte_at t o hol] at h1
  exact hb o hol (by rw [Option.some.inj h1]; rfl)
theorem field_l0 (t : ByteArray) (ht : t.size ≤ 1000000000) (hx : textP t = true) (d : Nat) : ∀ (i : Nat), i + d = t.size → (∀ j, j < i → (t.get! j).toNat ≠ 61 ∧ 32 ≤ (t.get! j).toNat ∧ (t.get! j).toNat ≤ 125) → Ev (fun k => serinetteref18_Field.l0 k t (i : Int)) (fieldP t) := by
  induction d with
  | zero =>
    intro i hi hb
    refine Ev.step (fun k => serinetteref18_Field.l0.eq_2 ..) ?_
    refine evF (by omega) ?_
    have e : fieldP t = false := by
      unfold fieldP
      rw [decide_eq_false (eq_none t fun j hj => (hb j (by omega)).1)]
      rfl
    rw [e]
    exact Ev.now _
  | succ d ih =>
    intro i hi hb
    have hlt : i < t.size := by omega
    refine Ev.step (fun k => serinetteref18_Field.l0.eq_2 ..) ?_
    refine evT (by omega) ?_
    refine evT (by omega) ?_
    rw [bt_get t i hlt]
    by_cases c : (t.get! i).toNat = 61
    · refine evT (by omega) ?_
      have he := eq_at t i hlt c (fun j hj => (hb j hj).1)
      have hn : nameOf t = t.extract 0 i := by unfold nameOf; rw [he, Int.toNat_natCast]
      have hz : Lib.idxFunc oddR true (nameOf t) = -1 := by
        rw [hn]
        exact no_odd _ (fun j hj => by
          rw [name_size t i (by omega)] at hj
          rw [name_get t i j (by omega) hj]
          exact (hb j hj).2) _ _
      have e : fieldP t = decide ((i : Int) > 0) := by
        unfold fieldP
        rw [hx, hz, he, decide_eq_true (show (0 : Int) ≤ (i : Int) by omega)]
        simp
      rw [e]
      exact Ev.now _
    refine evF (by omega) ?_
    have hbad : (t.get! i).toNat < 32 ∨ 125 < (t.get! i).toNat → fieldP t = false := by
      intro ho
      unfold fieldP
      by_cases q : 0 ≤ eqAt t
      · have hlt2 := eqAt_lt t q
        obtain ⟨e, he⟩ : ∃ e : Nat, eqAt t = (e : Int) := ⟨(eqAt t).toNat, by omega⟩
        rw [he, Int.toNat_natCast] at hlt2
        have hge : i < e := by
          obtain ⟨h1, _⟩ := Lib.indexByte_some (show Lib.indexByte t.data.toList 61 = (e : Int) from he)
          rw [byte_at t e hlt2] at h1
          have h61 : (t.get! e).toNat = 61 := by rw [Option.some.inj h1]; rfl
          by_cases d1 : e < i
          · exact absurd h61 (hb e d1).1
          · by_cases d2 : e = i
            · subst d2
              exact absurd h61 c
            · omega
        have hn : nameOf t = t.extract 0 e := by unfold nameOf; rw [he, Int.toNat_natCast]
        have hs := name_size t e (by omega)
        have : 0 ≤ Lib.idxFunc oddR true (nameOf t) := by
          rw [hn]
          unfold Lib.idxFunc
          exact some_odd _ i (by omega) (by rw [name_get t e i (by omega) hge]; exact ho) _ 0 (Nat.zero_le _) (by omega)
        rw [decide_eq_true this]
        simp
      · rw [decide_eq_false q]
        rfl
    by_cases c1 : (t.get! i).toNat < 32
    · rw [hbad (.inl c1)]
      exact evT (by omega) (Ev.now _)
    refine evF (by omega) ?_
    by_cases c2 : 125 < (t.get! i).toNat
    · rw [hbad (.inr c2)]
      exact evT (by omega) (Ev.now _)
    refine evF (by omega) ?_
    rw [wr _ (by omega)]
    refine ih (i + 1) (by omega) fun j hj => ?_
    by_cases e : j = i
    · subst e
      exact ⟨c, by omega, by omega⟩
    · exact hb j (by omega)
theorem field_ev (t : ByteArray) (ht : t.size ≤ 1000000000) : Ev (fun k => serinetteref18_Field.f k t) (fieldP t) := by
  unfold serinetteref18_Field.f
  refine evB (text_ev t ht) ?_
  by_cases hx : textP t = true
  · refine evT hx ?_
    exact field_l0 t ht hx t.size 0 (by omega) (fun j hj => by omega)
  · refine evF hx ?_
    have e : fieldP t = false := by
      unfold fieldP
      rw [Bool.eq_false_iff.mpr hx, Bool.and_false, Bool.false_and]
    rw [e]
    exact Ev.now _
end Go.Proofs.Ytpeejdmbnlhjmaa.FMetaWrites
namespace Go.Proofs.Ytpeejdmbnlhjmaa.FMetaWrites
open Go.RowKit Go.Proofs.YtpeejdmbnlhjmaaW.PrintWords Go.Proofs.YtpeejdmbnlhjmaaW.PrintLast Go.Proofs.Ytpeejdmbnlhjmaa.PMetaWrites Go.Proofs.Ytpeejdmbnlhjmaa.H Go.Proofs.Ytpeejdmbnlhjmaa.L
set_option linter.unusedVariables false
set_option linter.unusedSimpArgs false
theorem cr_loop (M : ByteArray) (F : List ByteArray) (hF : F.length ≤ 10) (hb : ∀ x ∈ F, x.size ≤ 50) (n : Nat) : ∀ (i : Nat) (s : Int), i + n = F.length → 0 ≤ s → s ≤ 1000 + 100 * (i : Int) → Ev (fun k => serinetteref18_CommentRight.l0 k s (i : Int) M F) (!((F.drop i).any H.badF)) := by
  induction n with
  | zero =>
    intro i s hi h0 h1
    obtain rfl : i = F.length := by omega
    refine Ev.step (fun k => serinetteref18_CommentRight.l0.eq_2 ..) ?_
    refine evF (by omega) ?_
    rw [List.drop_length, decide_eq_true (show s ≤ 16777215 by omega)]
    exact Ev.now _
  | succ n ih =>
    intro i s hi h0 h1
    have hlt : i < F.length := by omega
    have hsz := hb F[i] (List.getElem_mem hlt)
    have hd : F.drop i = F[i] :: F.drop (i + 1) := List.drop_eq_getElem_cons hlt
    have hrd : rdOf ByteArray.empty F (i : Int) = F[i] := H.rdB_at F i hlt
    refine Ev.step (fun k => serinetteref18_CommentRight.l0.eq_2 ..) ?_
    refine evT (by omega) ?_
    refine evT (by omega) ?_
    rw [hrd, hd, List.any_cons]
    refine evB (field_ev F[i] (by omega)) ?_
    unfold H.badF
    by_cases c : fieldP F[i] = true
    · refine evT c ?_
      rw [c, Bool.not_true, Bool.false_or, show wrap64 ((i : Int) + 1) = ((i + 1 : Nat) : Int) by rw [wr _ (by omega)]; omega]
      have e : wrap64 ((wrap64 (s + 4)) + ((F[i]).size : Int)) = s + 4 + ((F[i]).size : Int) := by rw [wr (s + 4) (by omega), wr _ (by omega)]
      rw [e]
      exact ih (i + 1) _ (by omega) (by omega) (by omega)
    · refine evF c ?_
      rw [Bool.eq_false_iff.mpr c, Bool.not_false, Bool.true_or]
      exact Ev.now _
theorem cright_ev (M : ByteArray) (F : List ByteArray) (hM : M.size ≤ 50) (hF : F.length ≤ 10) (hb : ∀ x ∈ F, x.size ≤ 50) : Ev (fun k => serinetteref18_CommentRight.f k M F) (H.crightP M F) := by
  unfold serinetteref18_CommentRight.f H.crightP
  refine evB (text_ev M (by omega)) ?_
  by_cases c : textP M = true
  · refine evT c ?_
    rw [c, Bool.true_and, wr _ (by omega)]
    have := cr_loop M F hF hb F.length 0 (8 + (M.size : Int)) (by omega) (by omega) (by omega)
    rwa [List.drop_zero] at this
  · refine evF c ?_
    rw [Bool.eq_false_iff.mpr c, Bool.false_and]
    exact Ev.now _
theorem rlit_eq (n : Nat) (h : n ≤ 1000) : H.rlit4 (n : Int) = H.lit4 (n : Int) := by
  unfold H.rlit4 H.lit4
  simp only [tdiv_pos (n : Int) 256 (by omega), tdiv_pos (n : Int) 65536 (by omega), tdiv_pos (n : Int) 16777216 (by omega), tmod_pos (n : Int) 256 (by omega)]
  rw [wr ((n : Int) / 256) (by omega), wr ((n : Int) / 65536) (by omega), wr ((n : Int) / 16777216) (by omega)]
  simp only [tmod_pos ((n : Int) / 256) 256 (by omega), tmod_pos ((n : Int) / 65536) 256 (by omega), tmod_pos ((n : Int) / 16777216) 256 (by omega)]
  congr 1
  · omega
  congr 1
  · omega
  congr 1
  · omega
  congr 1
  omega
theorem fold_eq : ∀ (F : List ByteArray) (l : List Int), (∀ x ∈ F, x.size ≤ 50) → F.foldl (fun l f => l ++ H.rlit4 (f.size : Int) ++ bytesOf f) l = F.foldl (fun l f => l ++ H.lit4 (f.size : Int) ++ bytesOf f) l
  | [], _, _ => rfl
  | x :: F, l, h => by
    rw [List.foldl_cons, List.foldl_cons, rlit_eq x.size (by have := h x (by simp); omega)]
    exact fold_eq F _ (fun y hy => h y (by simp [hy]))
theorem cbody_eq (M : ByteArray) (F : List ByteArray) (hM : M.size ≤ 50) (hF : F.length ≤ 10) (hb : ∀ x ∈ F, x.size ≤ 50) : H.rcbodyP M F = H.cbodyP M F := by
  unfold H.rcbodyP H.cbodyP H.rcbodyT H.cbodyT
  rw [rlit_eq M.size (by omega), rlit_eq F.length (by omega)]
  exact fold_eq _ _ (fun x hx => hb x (List.mem_of_mem_take hx))
theorem sh_loop (M : ByteArray) (F : List ByteArray) (hm : F.length ≤ maxLen) (n : Nat) : ∀ (i : Nat), i + n = F.length → Ev (fun k => serinettelaw18_shortly.l0 k (i : Int) M F) (decide ((∀ x ∈ F.drop i, x.size ≤ 50) ∧ F.length ≤ 10 ∧ M.size ≤ 50)) := by
  have hM : (maxLen : Nat) = 9223372036854775807 := rfl
  induction n with
  | zero =>
    intro i hi
    obtain rfl : i = F.length := by omega
    refine Ev.step (fun k => serinettelaw18_shortly.l0.eq_2 ..) ?_
    refine evF (by omega) ?_
    rw [List.drop_length]
    by_cases c : (F.length : Int) ≤ 10
    · refine evT c ?_
      refine evR (Ev.now _) ?_
      rw [decide_eq_decide]
      exact ⟨fun h => ⟨by simp, by omega, by omega⟩, fun h => by omega⟩
    · refine evF c ?_
      rw [decide_eq_false (fun h => c (by omega))]
      exact Ev.now _
  | succ n ih =>
    intro i hi
    have hlt : i < F.length := by omega
    have hd : F.drop i = F[i] :: F.drop (i + 1) := List.drop_eq_getElem_cons hlt
    have hrd : rdOf ByteArray.empty F (i : Int) = F[i] := H.rdB_at F i hlt
    refine Ev.step (fun k => serinettelaw18_shortly.l0.eq_2 ..) ?_
    refine evT (by omega) ?_
    refine evT (by omega) ?_
    rw [hrd, hd]
    by_cases c : ((F[i]).size : Int) > 50
    · rw [decide_eq_false (fun h => by have := h.1 F[i] (List.mem_cons_self ..); omega)]
      exact evT c (Ev.now _)
    · refine evF c ?_
      rw [show wrap64 ((i : Int) + 1) = ((i + 1 : Nat) : Int) by rw [wr _ (by omega)]; omega]
      refine evR (ih (i + 1) (by omega)) ?_
      rw [decide_eq_decide]
      constructor
      · rintro ⟨h1, h2⟩
        refine ⟨fun x hx => ?_, h2⟩
        rcases List.mem_cons.mp hx with rfl | hx
        · omega
        · exact h1 x hx
      · rintro ⟨h1, h2⟩
        exact ⟨fun x hx => h1 x (List.mem_cons_of_mem _ hx), h2⟩
theorem shortly_ev (M : ByteArray) (F : List ByteArray) (hm : F.length ≤ maxLen) : Ev (fun k => serinettelaw18_shortly.f k M F) (decide ((∀ x ∈ F, x.size ≤ 50) ∧ F.length ≤ 10 ∧ M.size ≤ 50)) := by
  unfold serinettelaw18_shortly.f
  exact sh_loop M F hm F.length 0 (by omega)
theorem same_loop (l : List Int) (hl : l.length ≤ 1000000000) (n : Nat) : ∀ (i : Nat), i + n = l.length → Ev (fun k => PMetaWrites.serinetteref01_Same.l0 k l l (i : Int)) true := by
  induction n with
  | zero =>
    intro i hi
    refine Ev.step (fun k => PMetaWrites.serinetteref01_Same.l0.eq_2 ..) ?_
    exact evF (by omega) (Ev.now _)
  | succ n ih =>
    intro i hi
    refine Ev.step (fun k => PMetaWrites.serinetteref01_Same.l0.eq_2 ..) ?_
    refine evT (by omega) ?_
    refine evT (by omega) ?_
    refine evT (by omega) ?_
    refine evT rfl ?_
    rw [show wrap64 ((i : Int) + 1) = ((i + 1 : Nat) : Int) by rw [wr _ (by omega)]; omega]
    exact ih (i + 1) (by omega)
theorem same_ev (l : List Int) (hl : l.length ≤ 1000000000) : Ev (fun k => PMetaWrites.serinetteref01_Same.f k l l) true := by
  unfold PMetaWrites.serinetteref01_Same.f
  exact evT rfl (same_loop l hl l.length 0 (by omega))
def oddP (a : Int) (l : List Int) : Int := if a < 0 ∨ a > 126 then 8 else if (l.length : Int) > 16777215 then 7 else 0
theorem own_odd (a : Int) (l : List Int) : Ev (fun k => H.meta_odd.f k a l) (oddP a l) := by
  unfold H.meta_odd.f
  have hj : ∀ b : Bool, Ev (fun k => H.meta_odd.j0 k b a l) (if b = true then 8 else if (l.length : Int) > 16777215 then 7 else 0) := fun b => by
    refine Ev.step (fun k => H.meta_odd.j0.eq_2 ..) ?_
    by_cases c : b = true
    · exact evR (evT c (Ev.now _)) (if_pos c).symm
    · refine evR (evF c ?_) (if_neg c).symm
      by_cases d : (l.length : Int) > 16777215
      · exact evR (evT d (Ev.now _)) (if_pos d).symm
      · exact evR (evF d (Ev.now _)) (if_neg d).symm
  unfold oddP
  by_cases c : a < 0
  · refine evT c ?_
    exact evR (hj true) (by rw [if_pos rfl, if_pos (Or.inl c)])
  · refine evF c ?_
    refine evR (hj _) ?_
    by_cases d : a > 126
    · rw [if_pos (decide_eq_true (by omega)), if_pos (Or.inr d)]
    · exact (if_neg (by rw [decide_eq_false (by omega)]; decide)).trans (if_neg (by omega)).symm
theorem ref_odd (a : Int) (l : List Int) : Ev (fun k => serinetteref18_Odd.f k a l) (oddP a l) := by
  unfold serinetteref18_Odd.f
  have hj : ∀ b : Bool, Ev (fun k => serinetteref18_Odd.j0 k b a l) (if b = true then 8 else if (l.length : Int) > 16777215 then 7 else 0) := fun b => by
    refine Ev.step (fun k => serinetteref18_Odd.j0.eq_2 ..) ?_
    by_cases c : b = true
    · exact evR (evT c (Ev.now _)) (if_pos c).symm
    · refine evR (evF c ?_) (if_neg c).symm
      by_cases d : (l.length : Int) > 16777215
      · exact evR (evT d (Ev.now _)) (if_pos d).symm
      · exact evR (evF d (Ev.now _)) (if_neg d).symm
  unfold oddP
  by_cases c : a < 0
  · refine evT c ?_
    exact evR (hj true) (by rw [if_pos rfl, if_pos (Or.inl c)])
  · refine evF c ?_
    refine evR (hj _) ?_
    by_cases d : a > 126
    · rw [if_pos (decide_eq_true (by omega)), if_pos (Or.inr d)]
    · exact (if_neg (by rw [decide_eq_false (by omega)]; decide)).trans (if_neg (by omega)).symm
end Go.Proofs.Ytpeejdmbnlhjmaa.FMetaWrites
