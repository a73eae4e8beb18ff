/- Facts on serinetteref17.Take as a plain function: what it answers, in plain lists of bytes. For any bytes (up to a million). -/
import Derived.Test.YtbohlcccdcilkaaHrtake
import Derived.Test.YtbohlcccdcilkaaPureTake
import Derived.Test.YtbohlcccdcilkaaLEv
import Derived.Test.YtbohlcccdcilkaaLNum
import Derived.Test.YtbohlcccdcilkaaLEnc
import Derived.Test.YtbohlcccdcilkaaLBits
import Derived.Test.YtbohlcccdcilkaaLDec2
import Derived.Test.YtbohlcccdcilkaaLHead
import Derived.Test.YtbohlcccdcilkaaLTake
import Derived.Test.YtbohlcccdcilkaaFRtakeAll
namespace Go.Proofs.Ytbohlcccdcilkaa.Pure
open Go.RowKit Go.Proofs.YtbohlcccdcilkaaW.PrintWords Go.Proofs.YtbohlcccdcilkaaW.PrintLast Go.Proofs.Ytbohlcccdcilkaa.H Go.Proofs.Ytbohlcccdcilkaa.L Go.Proofs.Ytbohlcccdcilkaa.FRtake
set_option linter.unusedVariables false
set_option linter.unusedSimpArgs false
theorem need_all : ∀ c : Fin 16, rd NEEDL (c.val : Int) = xC (c.val : Int) ∧ rd ALSOL (c.val : Int) = yC (c.val : Int) := by decide
theorem need_eq (c : Int) (h : 0 ≤ c ∧ c < 16) : rd NEEDL c = xC c ∧ rd ALSOL c = yC c := by
  have := need_all ⟨c.toNat, by omega⟩
  simp only [Int.toNat_of_nonneg h.1] at this
  exact this
theorem codes_all : ∀ x : Fin 256, wrap64 (Int.tdiv (wrap64 (x.val : Int)) 16) = (x.val : Int) / 16 ∧ Int.tmod (wrap64 (x.val : Int)) 16 = (x.val : Int) % 16 ∧ wrap64 (Int.tdiv (Int.tmod (wrap64 (x.val : Int)) 16) 2) = (x.val : Int) / 2 % 8 ∧ Int.tmod (x.val : Int) 2 = (x.val : Int) % 2 := by decide +kernel
theorem codes_at (x : Int) (h : 0 ≤ x ∧ x ≤ 255) : wrap64 (Int.tdiv (wrap64 x) 16) = x / 16 ∧ Int.tmod (wrap64 x) 16 = x % 16 ∧ wrap64 (Int.tdiv (Int.tmod (wrap64 x) 16) 2) = x / 2 % 8 ∧ Int.tmod x 2 = x % 2 := by
  have := codes_all ⟨x.toNat, by omega⟩
  simp only [Int.toNat_of_nonneg h.1] at this
  exact this
theorem drop_one (l : List Int) (a : Nat) (h : a < l.length) : (l.drop a).take 1 = [rd l (a : Int)] := by
  rw [rd_nat l a h, List.drop_eq_getElem_cons h, List.take_succ_cons, List.take_zero]
theorem drop_two (l : List Int) (a : Nat) (h : a + 1 < l.length) : (l.drop a).take 2 = [rd l (a : Int), rd l ((a + 1 : Nat) : Int)] := by
  rw [rd_nat l a (by omega), rd_nat l (a + 1) h, List.drop_eq_getElem_cons (by omega), List.take_succ_cons, List.drop_eq_getElem_cons h, List.take_succ_cons, List.take_zero]
theorem wrb (x : Int) (h : 0 ≤ x ∧ x ≤ 255) : wrap64 x = x := wr x (by omega)
theorem rblock_eq (l : List Int) (hr : ∀ x ∈ l, 0 ≤ x ∧ x ≤ 255) (a : Nat) (bc : Int) (hl : (a : Int) + xC bc < l.length) : rBlock l a (xC bc) bc = tBlock l bc (a : Int) := by
  unfold tBlock
  show rB2 l a (xC bc) bc = _
  rw [Int.toNat_natCast]
  have hx := xC_rng bc
  by_cases c2 : xC bc = 2
  · rw [rB2_pos c2, if_pos (by omega), c2, show (2 : Int).toNat = 2 from rfl, drop_two l a (by omega)]
    have h1 := rd_rng l hr a (by omega)
    have h2 := rd_rng l hr (a + 1) (by omega)
    show _ = 256 * rd l (a : Int) + rd l ((a + 1 : Nat) : Int) + 1
    generalize rd l (a : Int) = p at *
    generalize rd l ((a + 1 : Nat) : Int) = q at *
    rw [wrb p h1, wrb q h2, wr (256 * p) (by omega), wr (256 * p + q) (by omega), wr _ (by omega)]
  rw [rB2_neg c2]
  by_cases c1 : xC bc = 1
  · rw [rB1_pos c1, if_pos (by omega), c1, show (1 : Int).toNat = 1 from rfl, drop_one l a (by omega)]
    have h1 := rd_rng l hr a (by omega)
    show _ = rd l (a : Int) + 1
    generalize rd l (a : Int) = p at *
    rw [wrb p h1, wr _ (by omega)]
  · rw [rB1_neg c1, if_neg (by omega)]
    rfl
theorem rrate_eq (l : List Int) (hr : ∀ x ∈ l, 0 ≤ x ∧ x ≤ 255) (a E : Nat) (rc : Int) (hE : (E : Int) = a + yC rc) (hl : E < l.length) : rRate l E rc = tRate l rc (a : Int) := by
  unfold tRate
  show rR3 l E rc = _
  rw [Int.toNat_natCast]
  by_cases c14 : rc = 14
  · have ey : yC rc = 2 := by rw [c14]; rfl
    have es : sC rc = 10 := by rw [c14]; rfl
    rw [rR3_pos c14, if_pos (by omega), ey, es, show (2 : Int).toNat = 2 from rfl, drop_two l a (by omega), show E - 1 = a + 1 by omega, show E - 2 = a by omega]
    have h1 := rd_rng l hr a (by omega)
    have h2 := rd_rng l hr (a + 1) (by omega)
    show _ = (256 * rd l (a : Int) + rd l ((a + 1 : Nat) : Int)) * 10
    generalize rd l (a : Int) = p at *
    generalize rd l ((a + 1 : Nat) : Int) = q at *
    rw [wrb p h1, wrb q h2, wr (256 * p) (by omega), wr (256 * p + q) (by omega), wr _ (by omega), Int.mul_comm]
  rw [rR3_neg c14]
  by_cases c13 : rc = 13
  · have ey : yC rc = 2 := by rw [c13]; rfl
    have es : sC rc = 1 := by rw [c13]; rfl
    rw [rR2_pos c13, if_pos (by omega), ey, es, show (2 : Int).toNat = 2 from rfl, drop_two l a (by omega), show E - 1 = a + 1 by omega, show E - 2 = a by omega]
    have h1 := rd_rng l hr a (by omega)
    have h2 := rd_rng l hr (a + 1) (by omega)
    show _ = (256 * rd l (a : Int) + rd l ((a + 1 : Nat) : Int)) * 1
    generalize rd l (a : Int) = p at *
    generalize rd l ((a + 1 : Nat) : Int) = q at *
    rw [wrb p h1, wrb q h2, wr (256 * p) (by omega), wr (256 * p + q) (by omega), Int.mul_one]
  rw [rR2_neg c13]
  by_cases c12 : rc = 12
  · have ey : yC rc = 1 := by rw [c12]; rfl
    have es : sC rc = 1000 := by rw [c12]; rfl
    rw [rR1_pos c12, if_pos (by omega), ey, es, show (1 : Int).toNat = 1 from rfl, drop_one l a (by omega), show E - 1 = a by omega]
    have h1 := rd_rng l hr a (by omega)
    show _ = rd l (a : Int) * 1000
    generalize rd l (a : Int) = p at *
    rw [wrb p h1, wr _ (by omega), Int.mul_comm]
  · have ey : yC rc = 0 := by unfold yC; omega
    rw [rR1_neg c12, ey, if_neg (by omega)]
    rfl
theorem rtail_ev (l : List Int) (hr : ∀ x ∈ l, 0 ≤ x ∧ x ≤ 255) (hl : l.length ≤ 1000000) (n z bc rc m dc b1 : Int) (hb1 : b1 = 248 ∨ b1 = 249) (hz : 0 ≤ z ∧ z ≤ 1000000) (hbc : 0 ≤ bc ∧ bc < 16) (hrc : 0 ≤ rc ∧ rc < 16) :
    Ev (fun k => rTail k l n z bc rc m dc (b1 == 249)) (tEnd l b1 bc rc m dc n z) := by
  unfold rTail tEnd
  rw [(need_eq bc hbc).1, (need_eq rc hrc).2]
  have hv : (b1 == 249) = decide (b1 = 249) := by rcases hb1 with e | e <;> rw [e] <;> rfl
  have hx := xC_rng bc
  have hy := yC_rng rc
  rw [hv]
  by_cases c1 : 2147483648 ≤ n ∧ b1 = 248
  · rw [if_pos c1]
    refine evT ⟨by omega, by rw [c1.2]; rfl⟩ (Ev.now _)
  rw [if_neg c1]
  refine evF (fun h => c1 ⟨by omega, ?_⟩) ?_
  · have := of_decide_eq_false h.2
    omega
  refine evT ⟨hx, hy⟩ ?_
  by_cases c2 : (l.length : Int) ≤ 4 + z + xC bc + yC rc
  · rw [if_pos c2]
    exact evT (by omega) (Ev.now _)
  rw [if_neg c2]
  refine evF (by omega) ?_
  obtain ⟨a, ha⟩ := Int.eq_ofNat_of_zero_le (show 0 ≤ 4 + z by omega)
  obtain ⟨p, hp⟩ := Int.eq_ofNat_of_zero_le (show 0 ≤ 4 + z + xC bc by omega)
  obtain ⟨E, hE⟩ := Int.eq_ofNat_of_zero_le (show 0 ≤ 4 + z + xC bc + yC rc by omega)
  rw [hE, hp, ha, Int.toNat_natCast, Int.toNat_natCast, rblock_eq l hr a bc (by omega), rrate_eq l hr p E rc (by omega) (by omega)]
  by_cases c3 : tBlock l bc (a : Int) > 65535
  · exact evTT c3 (Ev.now _)
  refine evFF c3 ?_
  have hw : ∀ x ∈ l.take E, 0 ≤ x ∧ x ≤ 255 := fun x h => hr x (List.mem_of_mem_take h)
  refine evB (reight_ev (l.take E) (by rw [List.length_take]; omega) hw) ?_
  by_cases c4 : crc8 (l.take E) ≠ rd l (E : Int)
  · exact evTT c4 (Ev.now _)
  exact evFF c4 (Ev.now _)
theorem rtake_ev (l : List Int) (hr : ∀ x ∈ l, 0 ≤ x ∧ x ≤ 255) (hl : l.length ≤ 1000000) : Ev (fun k => serinetteref17_Take.f k l) (takeP l) := by
  unfold serinetteref17_Take.f takeP
  refine evT hl ?_
  by_cases c0 : l.length < 4
  · rw [if_pos c0]
    exact evT c0 (Ev.now _)
  rw [if_neg c0]
  refine evF c0 ?_
  have r01 : 0 ≤ rd l 1 ∧ rd l 1 ≤ 255 := rd_rng l hr 1 (by omega)
  have r2 : 0 ≤ rd l 2 ∧ rd l 2 ≤ 255 := rd_rng l hr 2 (by omega)
  have r3 : 0 ≤ rd l 3 ∧ rd l 3 ≤ 255 := rd_rng l hr 3 (by omega)
  have g1 : 0 ≤ rd l 2 / 16 ∧ rd l 2 / 16 < 16 := by omega
  have g2 : 0 ≤ rd l 2 % 16 ∧ rd l 2 % 16 < 16 := by omega
  have g3 : 0 ≤ rd l 3 / 2 % 8 ∧ rd l 3 / 2 % 8 < 8 := by omega
  have g6 : (rd l 3 / 16 > 10) = (rd l 3 / 16 ≥ 11) := by apply propext; omega
  have e2 := codes_at (rd l 2) r2
  have e3 := codes_at (rd l 3) r3
  have eb : XC l = rd l 2 / 16 := e2.1
  have er : YC l = rd l 2 % 16 := e2.2.1
  have em : MC l = rd l 3 / 16 := e3.1
  have ed : ZC l = rd l 3 / 2 % 8 := e3.2.2.1
  have ez : PC l = rd l 3 % 2 := e3.2.2.2
  by_cases c1 : rd l 0 = 255 ∧ (rd l 1 = 248 ∨ rd l 1 = 249)
  · rw [if_pos c1]
    refine evT c1 ?_
    unfold rMid
    rw [eb, er, em, ed, ez]
    clear eb er em ed ez e2 e3
    by_cases c2 : rd l 2 / 16 = 0 ∨ rd l 2 % 16 = 15 ∨ rd l 3 / 16 ≥ 11 ∨ rd l 3 / 2 % 8 = 3 ∨ rd l 3 % 2 = 1
    · rw [if_pos c2]
      exact evT (by rw [g6]; exact c2) (Ev.now _)
    rw [if_neg c2]
    refine evF (by rw [g6]; exact c2) ?_
    have hd4 : ∀ x ∈ l.drop 4, 0 ≤ x ∧ x ≤ 255 := fun x h => hr x (List.mem_of_mem_drop h)
    have hz : (dec (l.drop 4)).2.2 = 0 → 0 ≤ (dec (l.drop 4)).2.1 ∧ (dec (l.drop 4)).2.1 ≤ 1000000 := fun c =>
      have h := dec_rng (l.drop 4) hd4 c
      ⟨Int.le_trans (by decide) h.2.1, Int.le_trans h.2.2.1 (by decide)⟩
    refine evB (rdec_ev (l.drop 4) hd4 (by rw [List.length_drop]; omega)) ?_
    by_cases c3 : (dec (l.drop 4)).2.2 = 0
    · rw [if_pos c3]
      refine evT c3 ?_
      refine evT ⟨g1, g2, g3, hz c3⟩ ?_
      exact rtail_ev l hr hl _ _ _ _ _ _ _ c1.2 (hz c3) g1 g2
    · rw [if_neg c3]
      exact evF c3 (Ev.now _)
  · rw [if_neg c1]
    exact evF c1 (Ev.now _)
end Go.Proofs.Ytbohlcccdcilkaa.Pure
