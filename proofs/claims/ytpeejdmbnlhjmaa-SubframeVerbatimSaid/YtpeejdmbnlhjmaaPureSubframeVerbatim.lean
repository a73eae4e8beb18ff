/- The statement SubframeVerbatim: any numbers can be written as they are, in as many bits as they have, and eight; one that stays in one number's bits, and eight. For up to forty numbers, a depth. -/
import Derived.Test.YtpeejdmbnlhjmaaPSubframeVerbatimx1
import Derived.Test.YtpeejdmbnlhjmaaLEv
import Derived.Test.YtpeejdmbnlhjmaaLComp
import Derived.Test.YtpeejdmbnlhjmaaFSubframeVerbatimInts
import Derived.Test.YtpeejdmbnlhjmaaFSubframeVerbatimOdd
namespace Go.Proofs.Ytpeejdmbnlhjmaa.Pure
open Go.RowKit Go.Proofs.YtpeejdmbnlhjmaaW.PrintWords Go.Proofs.YtpeejdmbnlhjmaaW.PrintLast Go.Proofs.Ytpeejdmbnlhjmaa.PSubframeVerbatim Go.Proofs.Ytpeejdmbnlhjmaa.H Go.Proofs.Ytpeejdmbnlhjmaa.L Go.Proofs.Ytpeejdmbnlhjmaa.FSubframeVerbatim
set_option linter.unusedVariables false
set_option linter.unusedSimpArgs false
theorem shl_one : ∀ n : Fin 33, shl .i64 1 (n.val : Int) = 2 ^ n.val := by decide +kernel
theorem shl_at (d : Int) (h : 4 ≤ d ∧ d ≤ 33) : shl .i64 1 (wrap64 (d - 1)) = 2 ^ (d - 1).toNat := by
  have := shl_one ⟨(d - 1).toNat, by omega⟩
  simp only at this
  rw [wr _ (by omega), ← this, Int.toNat_of_nonneg (by omega)]
theorem pow_rng : ∀ n : Fin 33, (1 : Int) ≤ 2 ^ n.val ∧ (2 : Int) ^ n.val ≤ 4294967296 := by decide +kernel
theorem pow_at (d : Int) (h : 4 ≤ d ∧ d ≤ 33) : (1 : Int) ≤ 2 ^ (d - 1).toNat ∧ (2 : Int) ^ (d - 1).toNat ≤ 4294967296 := pow_rng ⟨(d - 1).toNat, by omega⟩
theorem tmod_rng (x m : Int) (hm : 0 < m) : -m ≤ Int.tmod x m ∧ Int.tmod x m < m := by
  have h1 := Int.tmod_lt_of_pos x hm
  have h2 := Int.tmod_lt_of_pos (-x) hm
  rw [Int.neg_tmod] at h2
  exact ⟨by omega, h1⟩
theorem plain_in (x d : Int) (hd : 4 ≤ d ∧ d ≤ 33) (h : inD x d) : shl .i64 (shr .i64 x 0) 0 = x := by
  obtain ⟨h1, h2⟩ := h
  have := pow_at d hd
  rw [shr_eq _ _ (by decide)]
  show IntKind.i64.wrap (x / 2 ^ (0 : Int).toNat * 2 ^ min (0 : Int).toNat 64) = x
  rw [IntKind.wrap_i64]
  simp
  omega
theorem rd_map0 (l : List Int) (f : Int → Int) (i : Nat) (h : 1 ≤ l.length) : rd ((l.take (i + 1)).map f) 0 = f (rd l 0) := by
  cases l with
  | nil => simp at h
  | cons a l => rfl
theorem verb_loop (l : List Int) (d : Int) (hl : 1 ≤ l.length ∧ l.length ≤ 40) (hd : 4 ≤ d ∧ d ≤ 33) (j : Nat) : ∀ i : Nat, i + j = l.length →
    Ev (fun k => serinettelaw16_SubframeVerbatim.l0 k l true d ((l.take i).map fun x => Int.tmod x (2 ^ (d - 1).toNat)) (List.replicate i (Int.tmod (rd l 0) (2 ^ (d - 1).toNat))) (i : Int)) true := by
  have hp := pow_at d hd
  induction j with
  | succ j ih =>
    intro i hi
    have hlt : i < l.length := by omega
    refine Ev.step (fun k => serinettelaw16_SubframeVerbatim.l0.eq_2 ..) ?_
    refine evT (by omega) ?_
    refine evT (by omega) ?_
    refine evT (by rw [wr _ (by omega)]; omega) ?_
    rw [shl_at d hd]
    refine evF (by omega) ?_
    refine evT (by simp; omega) ?_
    refine evC rfl ?_
    have e : ((l.take i).map fun x => Int.tmod x (2 ^ (d - 1).toNat)) ++ [Int.tmod (rd l (i : Int)) (2 ^ (d - 1).toNat)] = (l.take (i + 1)).map fun x => Int.tmod x (2 ^ (d - 1).toNat) := by
      rw [List.take_succ_eq_append_getElem hlt, List.map_append, rd_nat l i hlt]
      rfl
    rw [e, rd_map0 l _ i hl.1, ← List.replicate_succ', wr _ (by omega)]
    refine evT (by simp; omega) ?_
    refine evT (by simp; omega) ?_
    exact ih (i + 1) (by omega)
  | zero =>
    intro i hi
    obtain rfl : i = l.length := by omega
    refine Ev.step (fun k => serinettelaw16_SubframeVerbatim.l0.eq_2 ..) ?_
    refine evF (by omega) ?_
    rw [List.take_length]
    have hX : ∀ x ∈ l.map fun x => Int.tmod x (2 ^ (d - 1).toNat), inD x d := by
      intro x hx
      obtain ⟨y, _, rfl⟩ := List.mem_map.mp hx
      exact tmod_rng y _ (by omega)
    have hc : (l.map fun x => Int.tmod x (2 ^ (d - 1).toNat)).getD 0 0 = Int.tmod (rd l 0) (2 ^ (d - 1).toNat) := by
      cases l with
      | nil => simp at hl
      | cons a l => rfl
    have hlen : (l.map fun x => Int.tmod x (2 ^ (d - 1).toNat)).length = l.length := List.length_map ..
    have hcD : inD (Int.tmod (rd l 0) (2 ^ (d - 1).toNat)) d := tmod_rng _ _ (by omega)
    generalize (l.map fun x => Int.tmod x (2 ^ (d - 1).toNat)) = X at *
    generalize Int.tmod (rd l 0) (2 ^ (d - 1).toNat) = c at *
    generalize l.length = n at *
    have hR : ∀ x ∈ List.replicate n c, inD x d := fun x hx => by rw [(List.mem_replicate.mp hx).2]; exact hcD
    refine evB (bits_verb_ev X 0 d hd (by omega) (by omega) fun x hx => ⟨hX x hx, plain_in x d hd (hX x hx)⟩) ?_
    refine evB (bits_const_ev (List.replicate n c) 0 d hd (by simp; omega) (by omega) fun x hx => ⟨hR x hx, plain_in x d hd (hR x hx)⟩) ?_
    refine evB (bits_const_ev X 0 d hd (by omega) (by omega) fun x hx => ⟨hX x hx, plain_in x d hd (hX x hx)⟩) ?_
    refine evB (ints_ev X (List.replicate n c) (by omega)) ?_
    have er : List.replicate n c = List.replicate (List.replicate n c).length ((List.replicate n c).getD 0 0) := by
      rw [List.length_replicate]
      congr 1
      rw [List.getD_eq_getElem?_getD, List.getElem?_replicate, if_pos (by omega)]
      rfl
    rw [if_pos er, hc, hlen]
    have hm : 0 ≤ d * (n : Int) ∧ d * (n : Int) ≤ 33 * 40 := ⟨Int.mul_nonneg (by omega) (by omega), Int.mul_le_mul hd.2 (by omega) (by omega) (by decide)⟩
    refine evT rfl ?_
    refine evT rfl ?_
    refine evT rfl ?_
    refine evT (by dsimp only; rw [wr (d * (n : Int)) (by omega), wr _ (by omega), Int.sub_zero, Int.add_zero]) ?_
    refine evT (by dsimp only; rw [wr _ (by omega)]; omega) ?_
    by_cases e : X = List.replicate n c
    · rw [if_pos e, decide_eq_true e]
      refine evT rfl ?_
      exact evT rfl (Ev.now _)
    · rw [if_neg e, decide_eq_false e]
      refine evT rfl ?_
      exact evF (by decide) (Ev.now _)
theorem SubframeVerbatim : serinettelaw16_SubframeVerbatim.Pure := by
  intro l0 a1 hm _ hw w1
  have ha := wf_u8 w1
  refine Ev.rounds ?_
  unfold serinettelaw16_SubframeVerbatim.f
  refine evC rfl ?_
  have ht : wrap64 (4 + wrap64 (Int.tmod a1 30)) = 4 + a1 % 30 := by
    rw [tmod_pos _ _ ha.1, wr (a1 % 30) (by omega), wr _ (by omega)]
  by_cases c0 : (l0.length : Int) = 0
  · refine evT c0 ?_
    refine Ev.step (fun k => serinettelaw16_SubframeVerbatim.j0.eq_2 ..) ?_
    exact evT rfl (Ev.now _)
  · refine evF c0 ?_
    refine Ev.step (fun k => serinettelaw16_SubframeVerbatim.j0.eq_2 ..) ?_
    by_cases c1 : (l0.length : Int) > 40
    · exact evT (decide_eq_true c1) (Ev.now _)
    · refine evF (by rw [decide_eq_false c1]; decide) ?_
      rw [ht]
      exact verb_loop l0 (4 + a1 % 30) (by omega) (by omega) l0.length 0 (by omega)
end Go.Proofs.Ytpeejdmbnlhjmaa.Pure
