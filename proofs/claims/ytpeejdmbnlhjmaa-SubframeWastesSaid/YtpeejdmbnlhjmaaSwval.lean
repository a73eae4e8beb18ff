/- What is laid as bits: the number that the bytes make. -/
import Derived.Test.YtpeejdmbnlhjmaaProg
import Derived.Below
import Derived.Deep.Draws
import Derived.Deep.AppendLies
import Derived.Maps.AppendAt
import Derived.OwnWalk
import Derived.Laws.BytesArg
import Derived.Laws.MakeOwn
import Derived.Laws.OwnMore
import Derived.Deep.OwnRows
import Derived.Tactics
import Derived.Lib.ConvBytes
import Derived.Laws.Slices
import Derived.WalkKit
import Derived.KernelRfl
import Derived.RowKit3
import Derived.Deep.LoopGhost
import Derived.Deep.QuietTactic
import Derived.BigQuiet
import Derived.WideLaws
import Derived.Deep.DeepCutAuto
import Derived.Deep.CutBlock
import Derived.Deep.RegionHeld3
import Derived.Laws.Rows
import Derived.Lib.AppendStr
import Derived.ArgAppend
import Derived.Laws.IdiomCopy
import Derived.OrdersHeld
import Derived.Laws.BitsLemmas
import Derived.RowKit
import Derived.Test.YtpeejdmbnlhjmaaWWords
import Derived.Test.YtpeejdmbnlhjmaaWLast
import Derived.Test.YtpeejdmbnlhjmaaWTab
import Derived.Test.YtpeejdmbnlhjmaaWFour
import Derived.Test.YtpeejdmbnlhjmaaWQPut
import Derived.Test.YtpeejdmbnlhjmaaWApart
import Derived.Test.YtpeejdmbnlhjmaaWArr
import Derived.Test.YtpeejdmbnlhjmaaWZeros
import Derived.Test.YtpeejdmbnlhjmaaWFoot
import Derived.Test.YtpeejdmbnlhjmaaWKept
import Derived.Test.YtpeejdmbnlhjmaaWShare
import Derived.Test.YtpeejdmbnlhjmaaWN
import Derived.Test.YtpeejdmbnlhjmaaWFootNe
import Derived.Test.YtpeejdmbnlhjmaaWAt
import Derived.Test.YtpeejdmbnlhjmaaWEqStruct
import Derived.Test.YtpeejdmbnlhjmaaWRepsOne
import Derived.Test.YtpeejdmbnlhjmaaWInv
import Derived.Test.YtpeejdmbnlhjmaaWInvWords
import Derived.Test.YtpeejdmbnlhjmaaWGuard
import Derived.Test.YtpeejdmbnlhjmaaWNEv
import Derived.Test.YtpeejdmbnlhjmaaWMore
import Derived.Laws.Bits64b
import Derived.Test.YtpeejdmbnlhjmaaSrdval
import Derived.Test.YtpeejdmbnlhjmaaSw
namespace Go.Proofs.Ytpeejdmbnlhjmaa.H
open Go.RowKit Go.Proofs.YtpeejdmbnlhjmaaW.PrintWords Go.Proofs.YtpeejdmbnlhjmaaW.PrintLast Go.Proofs.YtpeejdmbnlhjmaaW.PrintMore
attribute [local go_sem] max2_int min2_int max_two min_two max_three min_three max_four min_four   -- for this text's walks alone
set_option linter.unusedVariables false
set_option linter.unusedSimpArgs false
theorem bits_or_u8_nat (a b : Nat) (ha : a < 256) (hb : b < 256) : Go.bits .or .u8 (a : Int) (b : Int) = ((a ||| b : Nat) : Int) := by
  have hx : a ||| b < 2 ^ 8 := Nat.or_lt_two_pow (by omega) (by omega)
  have h1 : (BitVec.ofInt 8 (a : Int)).toNat = a := by
    rw [BitVec.ofInt_natCast, BitVec.toNat_ofNat]; exact Nat.mod_eq_of_lt (by omega)
  have h2 : (BitVec.ofInt 8 (b : Int)).toNat = b := by
    rw [BitVec.ofInt_natCast, BitVec.toNat_ofNat]; exact Nat.mod_eq_of_lt (by omega)
  show IntKind.u8.wrap ((BitVec.ofInt 8 (a : Int) ||| BitVec.ofInt 8 (b : Int)).toNat : Int) = _
  rw [BitVec.toNat_or, h1, h2, IntKind.wrap_u8]
  omega
theorem bigN_snoc : ∀ (l : List Int) (x : Int), bigN (l ++ [x]) = bigN l * 256 + x.toNat
  | [], x => by simp [bigN]
  | y :: l, x => by
    simp only [List.cons_append, bigN, List.length_append, List.length_cons, List.length_nil, bigN_snoc l x, Nat.zero_add, Nat.pow_succ]
    rw [Nat.add_mul, Nat.mul_assoc, Nat.add_assoc]
/-- Bytes that make the number of their first n bits, with bits 0 behind. -/
def WN (bs : List Int) (n A : Nat) : Prop := (∀ x ∈ bs, 0 ≤ x ∧ x ≤ 255) ∧ bs.length = (n + 7) / 8 ∧ bigN bs = A * 2 ^ (8 * bs.length - n)
theorem WN_nil : WN [] 0 0 := ⟨by simp, by simp, by simp [bigN]⟩
theorem wpart_val (u m c : Nat) (hm : m ≤ 8) : Go.bits .and .u8 (((u : Int)) / 2 ^ c % 256) ((2 ^ m - 1) % 256) = ((u / 2 ^ c % 2 ^ m : Nat) : Int) := by
  have e1 : ((u : Int)) / 2 ^ c % 256 = ((u / 2 ^ c % 256 : Nat) : Int) := by rw [Int.natCast_emod, Int.natCast_ediv, Int.natCast_pow]; rfl
  have := and_mask8 ⟨u / 2 ^ c % 256, Nat.mod_lt _ (by decide)⟩ ⟨m, by omega⟩
  simp only at this
  rw [e1, this]
  congr 1
  rw [show (256 : Nat) = 2 ^ 8 by decide]
  exact Nat.mod_mod_of_dvd _ (Nat.pow_dvd_pow 2 hm)
theorem wrow_last (bs : List Int) (n A : Nat) (h : WN bs n A) : ∃ (init : List Int) (x : Nat), wRow bs (n : Int) = init ++ [(x : Int)] ∧ (∀ y ∈ init, 0 ≤ y ∧ y ≤ 255) ∧ x < 256 ∧ init.length = n / 8 ∧ bigN init * 256 + x = A * 2 ^ (8 - n % 8) ∧ x % 2 ^ (8 - n % 8) = 0 := by
  obtain ⟨h1, h2, h3⟩ := h
  unfold wRow
  by_cases c : n % 8 = 0
  · rw [if_pos (by omega), c]
    refine ⟨bs, 0, rfl, h1, by decide, by omega, ?_, by simp⟩
    rw [h3, show 8 * bs.length - n = 0 by omega]
    simp
  · rw [if_neg (by omega)]
    have hne : bs ≠ [] := by
      intro e
      subst e
      simp at h2
      omega
    obtain ⟨init, x, rfl⟩ : ∃ init x, bs = init ++ [x] := ⟨bs.dropLast, bs.getLast hne, (List.dropLast_concat_getLast hne).symm⟩
    have hx := h1 x (by simp)
    have hlen : (init ++ [x]).length = init.length + 1 := by simp
    rw [hlen] at h2 h3
    rw [bigN_snoc, show 8 * (init.length + 1) - n = 8 - n % 8 by omega] at h3
    refine ⟨init, x.toNat, by rw [show ((x.toNat : Nat) : Int) = x by omega], fun y hy => h1 y (by simp [hy]), by omega, by omega, h3, ?_⟩
    have e : (256 : Nat) = 2 ^ (8 - n % 8) * 2 ^ (n % 8) := by rw [← Nat.pow_add, show 8 - n % 8 + n % 8 = 8 by omega]
    have h5 : (bigN init * 256 + x.toNat) % 2 ^ (8 - n % 8) = 0 := by rw [h3]; exact Nat.mul_mod_left _ _
    rw [e, Nat.mul_left_comm, Nat.mul_add_mod] at h5
    exact h5
theorem wround_val (bs : List Int) (n A u left m : Nat) (h : WN bs n A) (h1 : 1 ≤ left) (hm : m = min (8 - n % 8) left) :
    WN ((wRow bs (n : Int)).set ((wRow bs (n : Int)).length - 1) (wByte bs (n : Int) (u : Int) (left : Int))) (n + m) (A * 2 ^ m + u / 2 ^ (left - m) % 2 ^ m) ∧ wMany (n : Int) (left : Int) = (m : Int) := by
  have hM : wMany (n : Int) (left : Int) = (m : Int) := by unfold wMany; omega
  refine ⟨?_, hM⟩
  obtain ⟨init, x, hr, hi, hx, hl, hN, hz⟩ := wrow_last bs n A h
  obtain ⟨s, hs⟩ : ∃ s : Nat, m + s = 8 - n % 8 := ⟨8 - n % 8 - m, by omega⟩
  have hP := Nat.mod_lt (u / 2 ^ (left - m)) (Nat.pow_pos (n := m) (show 0 < 2 by decide))
  obtain ⟨p, hp⟩ : ∃ p : Nat, p = u / 2 ^ (left - m) % 2 ^ m := ⟨_, rfl⟩
  rw [← hp] at hP ⊢
  have hps : p * 2 ^ s + 2 ^ s ≤ 2 ^ (8 - n % 8) := by
    rw [← hs, Nat.pow_add]
    have : (p + 1) * 2 ^ s ≤ 2 ^ m * 2 ^ s := Nat.mul_le_mul_right _ hP
    rw [Nat.add_mul, Nat.one_mul] at this
    exact this
  have h8 : (2 : Nat) ^ (8 - n % 8) ≤ 256 := by
    rw [show (256 : Nat) = 2 ^ 8 by decide]
    exact Nat.pow_le_pow_right (by decide) (by omega)
  have hsp : 0 < (2 : Nat) ^ s := Nat.pow_pos (by decide)
  have hxx : x = 2 ^ (8 - n % 8) * (x / 2 ^ (8 - n % 8)) := by
    have := Nat.div_add_mod x (2 ^ (8 - n % 8))
    omega
  have hadd : x ||| p * 2 ^ s = x + p * 2 ^ s := by
    rw [hxx]
    exact (Nat.two_pow_add_eq_or_of_lt (by omega) _).symm
  have hlt : x + p * 2 ^ s < 256 := by
    rw [← hadd]
    exact Nat.or_lt_two_pow (n := 8) hx (by omega)
  have hrl : (wRow bs (n : Int)).length = init.length + 1 := by rw [hr]; simp
  have hb : wByte bs (n : Int) (u : Int) (left : Int) = ((x + p * 2 ^ s : Nat) : Int) := by
    unfold wByte wPart
    rw [hrl, hM, hr]
    have e1 : rd (init ++ [(x : Int)]) (((init.length + 1 : Nat) : Int) - 1) = (x : Int) := by
      unfold rd
      rw [show (((init.length + 1 : Nat) : Int) - 1).toNat = init.length by omega]
      simp
    rw [e1, show ((left : Int) - (m : Int)).toNat = left - m by omega, Int.toNat_natCast, show (8 - (n : Int) % 8 - (m : Int)).toNat = s by omega, wpart_val u m (left - m) (by omega), ← hp]
    have e2 : ((p : Nat) : Int) * 2 ^ s % 256 = ((p * 2 ^ s : Nat) : Int) := by
      have : ((p : Nat) : Int) * 2 ^ s = ((p * 2 ^ s : Nat) : Int) := by rw [Int.natCast_mul, Int.natCast_pow]; rfl
      rw [this]
      omega
    rw [e2, bits_or_u8_nat _ _ hx (by omega), hadd]
  rw [hb, hrl, hr, Nat.add_sub_cancel]
  have hset : (init ++ [(x : Int)]).set init.length ((x + p * 2 ^ s : Nat) : Int) = init ++ [((x + p * 2 ^ s : Nat) : Int)] := by simp [List.set_append]
  rw [hset]
  refine ⟨?_, ?_, ?_⟩
  · intro y hy
    rcases List.mem_append.1 hy with hy | hy
    · exact hi y hy
    · have : y = ((x + p * 2 ^ s : Nat) : Int) := by simpa using hy
      omega
  · rw [List.length_append, List.length_cons, List.length_nil]
    omega
  · rw [bigN_snoc, List.length_append, List.length_cons, List.length_nil, Int.toNat_natCast, show 8 * (init.length + (0 + 1)) - (n + m) = s by omega, ← Nat.add_assoc, hN, Nat.add_mul, ← hs, Nat.pow_add, Nat.mul_assoc]
theorem wput_val (u : Nat) : ∀ (f : Nat) (bs : List Int) (n A left : Nat), WN bs n A → left ≤ f →
    (wput f bs (n : Int) (u : Int) (left : Int)).2 = ((n + left : Nat) : Int) ∧ WN (wput f bs (n : Int) (u : Int) (left : Int)).1 (n + left) (A * 2 ^ left + u % 2 ^ left) := by
  intro f
  induction f with
  | zero =>
    intro bs n A left h hf
    obtain rfl : left = 0 := by omega
    unfold wput
    exact ⟨rfl, by rw [Nat.pow_zero, Nat.mul_one, Nat.mod_one, Nat.add_zero]; exact h⟩
  | succ f ih =>
    intro bs n A left h hf
    unfold wput
    by_cases hz : left = 0
    · subst hz
      rw [if_pos (by omega)]
      exact ⟨rfl, by rw [Nat.pow_zero, Nat.mul_one, Nat.mod_one, Nat.add_zero]; exact h⟩
    · rw [if_neg (by omega)]
      obtain ⟨m, hm⟩ : ∃ m : Nat, m = min (8 - n % 8) left := ⟨_, rfl⟩
      obtain ⟨hW, hM⟩ := wround_val bs n A u left m h (by omega) hm
      rw [hM, show ((n : Int) + (m : Int)) = ((n + m : Nat) : Int) by omega, show ((left : Int) - (m : Int)) = ((left - m : Nat) : Int) by omega]
      obtain ⟨r1, r2⟩ := ih _ (n + m) _ (left - m) hW (by omega)
      refine ⟨by rw [r1]; congr 1; omega, ?_⟩
      rw [show n + left = n + m + (left - m) by omega]
      have e : (A * 2 ^ m + u / 2 ^ (left - m) % 2 ^ m) * 2 ^ (left - m) + u % 2 ^ (left - m) = A * 2 ^ left + u % 2 ^ left := by
        obtain ⟨c, hc⟩ : ∃ c : Nat, left = c + m := ⟨left - m, by omega⟩
        subst hc
        rw [Nat.add_sub_cancel, mod_split u c m, Nat.pow_add 2 c m, Nat.add_mul, Nat.mul_assoc, Nat.mul_comm (2 ^ m) (2 ^ c), Nat.add_assoc]
      rw [← e]
      exact r2
end Go.Proofs.Ytpeejdmbnlhjmaa.H
