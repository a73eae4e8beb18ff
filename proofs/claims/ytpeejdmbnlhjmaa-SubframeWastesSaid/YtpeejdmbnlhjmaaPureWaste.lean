/- What subframes with bits 0 behind are: the facts of the statement SubframeWastes that speak of no program. -/
import Derived.Test.YtpeejdmbnlhjmaaSjoin
import Derived.Test.YtpeejdmbnlhjmaaLEv
import Derived.Test.YtpeejdmbnlhjmaaLComp
import Derived.Test.YtpeejdmbnlhjmaaFWasteInts
import Derived.Test.YtpeejdmbnlhjmaaFWasteOdd
import Derived.Test.YtpeejdmbnlhjmaaFWasteBegin
namespace Go.Proofs.Ytpeejdmbnlhjmaa.Pure
open Go.RowKit Go.Proofs.YtpeejdmbnlhjmaaW.PrintWords Go.Proofs.YtpeejdmbnlhjmaaW.PrintLast Go.Proofs.Ytpeejdmbnlhjmaa.H Go.Proofs.Ytpeejdmbnlhjmaa.L Go.Proofs.Ytpeejdmbnlhjmaa.FWaste
set_option linter.unusedVariables false
set_option linter.unusedSimpArgs false
theorem shl_two : ∀ n : Fin 33, shl .i64 1 (n.val : Int) = 2 ^ n.val := by decide +kernel
theorem shl_pow (j : Int) (h : 0 ≤ j ∧ j ≤ 32) : shl .i64 1 j = 2 ^ j.toNat := by
  have := shl_two ⟨j.toNat, by omega⟩
  simp only at this
  rw [← this, Int.toNat_of_nonneg h.1]
theorem two_rng : ∀ n : Fin 33, (1 : Int) ≤ 2 ^ n.val ∧ (2 : Int) ^ n.val ≤ 4294967296 := by decide +kernel
theorem two_at (j : Int) (h : 0 ≤ j ∧ j ≤ 32) : (1 : Int) ≤ 2 ^ j.toNat ∧ (2 : Int) ^ j.toNat ≤ 4294967296 := two_rng ⟨j.toNat, by omega⟩
theorem tmod_in (x m : Int) (hm : 0 < m) : -m ≤ Int.tmod x m ∧ Int.tmod x m < m := by
  have h1 := Int.tmod_lt_of_pos x hm
  have h2 := Int.tmod_lt_of_pos (-x) hm
  rw [Int.neg_tmod] at h2
  exact ⟨by omega, h1⟩
def wastX (l : List Int) (d w : Int) : List Int := l.map fun x => wrap64 (Int.tmod x (shl .i64 1 (d - 1 - w)) * shl .i64 1 w)
def wastY (l : List Int) (d w : Int) : List Int := l.map fun x => Int.tmod x (shl .i64 1 (d - 1 - w))
/-- One number. -/
theorem wast_one (x d w : Int) (hd : 4 ≤ d ∧ d ≤ 33) (hw : 0 ≤ w ∧ w < d - 1) (t m : Int) (ht : t = Int.tmod x (shl .i64 1 (d - 1 - w))) (hm : m = 2 ^ w.toNat) :
    wrap64 (t * shl .i64 1 w) = t * m ∧ inD (t * m) d ∧ t * m / m = t ∧ shl .i64 t w = t * m ∧ (-(2 ^ ((d - w).toNat - 1) : Nat) ≤ t ∧ t < (2 ^ ((d - w).toNat - 1) : Nat)) := by
  rw [shl_pow _ (by omega)] at ht
  have hq := two_at (d - 1 - w) (by omega)
  obtain ⟨q, eq⟩ : ∃ q : Int, q = 2 ^ (d - 1 - w).toNat := ⟨_, rfl⟩
  rw [← eq] at ht hq
  have hr := tmod_in x q (by omega)
  rw [← ht] at hr
  have hwp := two_at w (by omega)
  rw [← hm] at hwp
  have hprod : q * m = 2 ^ (d - 1).toNat := by
    rw [eq, hm, ← Int.pow_add]
    congr 1
    omega
  have hp := two_at (d - 1) (by omega)
  rw [← hprod] at hp
  have a1 : -(q * m) ≤ t * m := by rw [← Int.neg_mul]; exact Int.mul_le_mul_of_nonneg_right hr.1 (by omega)
  have a2 : t * m < q * m := Int.mul_lt_mul_of_pos_right hr.2 (by omega)
  have e1 : shl .i64 1 w = m := by rw [shl_pow _ (by omega), hm]
  refine ⟨?_, ?_, ?_, ?_, ?_⟩
  · rw [e1]
    exact wr _ (by omega)
  · unfold inD
    rw [← hprod]
    exact ⟨a1, a2⟩
  · exact Int.mul_ediv_cancel _ (by omega)
  · show IntKind.i64.wrap (t * 2 ^ min w.toNat 64) = t * m
    rw [show min w.toNat 64 = w.toNat by omega, ← hm, IntKind.wrap_i64]
    omega
  · have e2 : ((2 ^ ((d - w).toNat - 1) : Nat) : Int) = q := by
      rw [Int.natCast_pow, eq]
      congr 1
      omega
    rw [e2]
    exact hr
theorem waste_all (l : List Int) (hl : 1 ≤ l.length ∧ l.length ≤ 40) (d w : Int) (hd : 4 ≤ d ∧ d ≤ 33) (hw : 0 ≤ w ∧ w < d - 1) :
    ∃ k, subframe_odd.f k (wastX l d w) 1 w 0 0 0 [] false 0 [] d = some 0 ∧ subframe_Bits.f k (wastX l d w) 1 w 0 0 0 [] false 0 [] d = some (8 + w + (d - w) * l.length, 0) ∧
      subframe_begin.f k (putPlain ([], 0) (wastX l d w) 1 w d).1 0 0 l.length d = some (1, w, 0, 0, 0, [], false, 0, [], 0, 0, 8 + w, 0) ∧
      subframe_numbers.f k (putPlain ([], 0) (wastX l d w) 1 w d).1 (8 + w) 0 l.length (d - w) = some (wastY l d w, 8 + w + (d - w) * l.length, 0) ∧
      (wastY l d w).map (fun x => shl .i64 x w) = wastX l d w ∧ serinetteref01_Ints.f k (wastX l d w) (wastX l d w) = some true ∧ (putPlain ([], 0) (wastX l d w) 1 w d).1.length ≤ 1000 := by
  have hone := fun x => wast_one x d w hd hw _ _ rfl rfl
  have hXl : (wastX l d w).length = l.length := List.length_map ..
  have hYl : (wastY l d w).length = l.length := List.length_map ..
  have hin : ∀ x ∈ wastX l d w, inD x d ∧ shl .i64 (shr .i64 x w) w = x := by
    intro x hx
    obtain ⟨y, _, rfl⟩ := List.mem_map.mp hx
    obtain ⟨h1, h2, h3, h4, h5⟩ := hone y
    rw [h1]
    refine ⟨h2, ?_⟩
    rw [shr_eq _ _ (by omega), h3, h4]
  have hdown : downP w (wastX l d w) = wastY l d w := by
    unfold downP wastX wastY
    rw [List.map_map]
    refine List.map_congr_left fun y _ => ?_
    obtain ⟨h1, h2, h3, h4, h5⟩ := hone y
    show wrap64 _ / 2 ^ downBy w = _
    rw [h1, show downBy w = w.toNat by unfold downBy; omega, h3]
  have hup : (wastY l d w).map (fun x => shl .i64 x w) = wastX l d w := by
    unfold wastX wastY
    rw [List.map_map]
    refine List.map_congr_left fun y _ => ?_
    obtain ⟨h1, h2, h3, h4, h5⟩ := hone y
    show shl .i64 _ w = wrap64 _
    rw [h1, h4]
  have hput : putPlain ([], 0) (wastX l d w) 1 w d = allP (wasteP (wput1 ([], 0) (IntKind.u64.wrap 1) 7) w) (wastY l d w) (d - w) := by
    unfold putPlain
    rw [if_neg (by decide), hdown]
  have hrng : ∀ x ∈ wastY l d w, -(2 ^ ((d - w).toNat - 1) : Nat) ≤ x ∧ x < (2 ^ ((d - w).toNat - 1) : Nat) := by
    intro x hx
    obtain ⟨y, _, rfl⟩ := List.mem_map.mp hx
    exact (hone y).2.2.2.2
  obtain ⟨K1, o1⟩ := odd_ev (wastX l d w) 1 w 0 0 0 [] false 0 [] d hd (by omega) (by omega) (by decide) hin
  obtain ⟨K2, o2⟩ := bits_verb_ev (wastX l d w) w d hd (by omega) (by omega) hin
  obtain ⟨K5, o5⟩ := ints_same (wastX l d w) (wastX l d w) (by omega) rfl
  rw [hput]
  rw [hXl] at o2
  generalize wastX l d w = X at *
  generalize wastY l d w = Y at *
  obtain ⟨wn, rfl⟩ : ∃ n : Nat, w = (n : Int) := ⟨w.toNat, by omega⟩
  obtain ⟨n, hn⟩ : ∃ n : Nat, d - (wn : Int) = (n : Int) := ⟨(d - (wn : Int)).toNat, by omega⟩
  rw [hn, Int.toNat_natCast] at hrng
  rw [hn]
  obtain ⟨s, hs⟩ : ∃ s, s = allP (wasteP (wput1 ([], 0) (IntKind.u64.wrap 1) 7) (wn : Int)) Y (n : Int) := ⟨_, rfl⟩
  rw [← hs]
  obtain ⟨b1, b2, b3, b4, b5, b6, b7⟩ := laid Y wn n (by omega) (by omega) s hs
  rw [hYl] at b2
  have hm : l.length * n ≤ 40 * 33 := Nat.mul_le_mul (by omega) (by omega)
  obtain ⟨K3, o3⟩ := begin_all s.1 b1 (by omega) (l.length : Int) d (by omega) wn 0 (by omega) hd.2 (by omega) b3 b4 b5 (fun j hj => by rw [Nat.zero_add]; exact b6 j hj)
  obtain ⟨K4, o4⟩ := numbers_all s.1 b1 (by omega) (8 + wn) n (by omega) (by omega) Y (by omega) hrng (by rw [hYl]; omega) b7
  have c1 : (((0 + 8 + wn : Nat)) : Int) = 8 + (wn : Int) := by omega
  have c2 : (((8 + wn : Nat)) : Int) = 8 + (wn : Int) := by omega
  have c3 : ((8 + wn + Y.length * n : Nat) : Int) = 8 + (wn : Int) + (n : Int) * (l.length : Int) := by rw [hYl, Nat.mul_comm]; simp
  rw [c1] at o3
  rw [c2, c3, hYl] at o4
  refine ⟨max K1 (max K2 (max K3 (max K4 K5))), o1 _ (by omega), ?_, o3 _ (by omega), o4 _ (by omega), hup, o5 _ (by omega), by omega⟩
  have := o2 (max K1 (max K2 (max K3 (max K4 K5)))) (by omega)
  rw [hn] at this
  exact this
end Go.Proofs.Ytpeejdmbnlhjmaa.Pure
