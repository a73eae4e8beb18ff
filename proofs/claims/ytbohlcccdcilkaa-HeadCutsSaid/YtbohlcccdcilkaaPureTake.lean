/- Facts on head.Take as a plain function: what it answers, in plain lists of bytes. For any bytes (up to a million). -/
import Derived.Test.YtbohlcccdcilkaaHtake2
import Derived.Test.YtbohlcccdcilkaaPureHead
import Derived.Laws.BitsLemmas
import Derived.Test.YtbohlcccdcilkaaLEv
import Derived.Test.YtbohlcccdcilkaaLNum
import Derived.Test.YtbohlcccdcilkaaLEnc
import Derived.Test.YtbohlcccdcilkaaLBits
import Derived.Test.YtbohlcccdcilkaaLUtf
import Derived.Test.YtbohlcccdcilkaaLDec2
import Derived.Test.YtbohlcccdcilkaaLHead
import Derived.Test.YtbohlcccdcilkaaLTake
import Derived.Test.YtbohlcccdcilkaaFTakeAll
namespace Go.Proofs.Ytbohlcccdcilkaa.Pure
open Go.RowKit Go.Proofs.YtbohlcccdcilkaaW.PrintWords Go.Proofs.YtbohlcccdcilkaaW.PrintLast Go.Proofs.Ytbohlcccdcilkaa.H Go.Proofs.Ytbohlcccdcilkaa.L Go.Proofs.Ytbohlcccdcilkaa.FTake
set_option linter.unusedVariables false
set_option linter.unusedSimpArgs false
theorem behind_all : ∀ b r : Fin 16, head_behind.f 5 (b.val : Int) (r.val : Int) = some (xC (b.val : Int), yC (r.val : Int)) := by decide +kernel
theorem behind_ev (b r : Int) (hb : 0 ≤ b ∧ b ≤ 15) (hr : 0 ≤ r ∧ r ≤ 15) : Ev (fun k => head_behind.f k b r) (xC b, yC r) := by
  have := behind_all ⟨b.toNat, by omega⟩ ⟨r.toNat, by omega⟩
  simp only [Int.toNat_of_nonneg hb.1, Int.toNat_of_nonneg hr.1] at this
  exact Ev.of (fun k => head_behind.mono b r k) this
theorem scale_eq (r : Int) : head_scale.f r = some (sC r) := by
  unfold head_scale.f sC
  by_cases c : r = 12
  · rw [if_pos c, if_pos c]
  · rw [if_neg c, if_neg c]
    by_cases c1 : r = 14
    · rw [if_pos c1, if_pos c1]
    · rw [if_neg c1, if_neg c1]
theorem join256 (n y : Int) (hn : 0 ≤ n ∧ n ≤ 65535) (hy : 0 ≤ y ∧ y < 256) : Go.bits .or .i64 (wrap64 (n * 256)) (wrap64 y) = 256 * n + y := by
  rw [wr _ (by omega), wr _ (by omega), bits_join .i64 63 (by decide) wraps_i64 8 (n * 256) y (by omega) (by omega) (by omega) hy.1 (by omega) (by omega)]
  omega
theorem whole_ev (l : List Int) (hl : l.length ≤ 2) (hr : ∀ x ∈ l, 0 ≤ x ∧ x ≤ 255) : Ev (fun k => head_whole.f k l) (whole2 l) := by
  unfold head_whole.f
  match l, hl, hr with
  | [], _, _ =>
    refine Ev.step (fun k => head_whole.l0.eq_2 ..) ?_
    refine evF (by simp) ?_
    exact Ev.now _
  | [a], _, hr =>
    have ha := hr a (by simp)
    refine Ev.step (fun k => head_whole.l0.eq_2 ..) ?_
    refine evT (by simp) ?_
    refine evT (by decide) ?_
    refine evT (by simp) ?_
    rw [show rd [a] 0 = a from rfl, join256 0 a (by omega) (by omega), show wrap64 (0 + 1) = 1 by rw [wr _ (by omega)]; rfl]
    refine Ev.step (fun k => head_whole.l0.eq_2 ..) ?_
    refine evF (by simp) ?_
    refine evR (Ev.now _) ?_
    show 256 * 0 + a = a
    omega
  | [a, b], _, hr =>
    have ha := hr a (by simp)
    have hb := hr b (by simp)
    refine Ev.step (fun k => head_whole.l0.eq_2 ..) ?_
    refine evT (by simp) ?_
    refine evT (by decide) ?_
    refine evT (by simp) ?_
    rw [show rd [a, b] 0 = a from rfl, join256 0 a (by omega) (by omega), show wrap64 (0 + 1) = 1 by rw [wr _ (by omega)]; rfl]
    refine Ev.step (fun k => head_whole.l0.eq_2 ..) ?_
    refine evT (by simp) ?_
    refine evT (by decide) ?_
    refine evT (by simp) ?_
    rw [show rd [a, b] 1 = b from rfl, join256 (256 * 0 + a) b (by omega) (by omega), show wrap64 (1 + 1) = 2 by rw [wr _ (by omega)]; rfl]
    refine Ev.step (fun k => head_whole.l0.eq_2 ..) ?_
    refine evF (by simp) ?_
    refine evR (Ev.now _) ?_
    show 256 * (256 * 0 + a) + b = 256 * a + b
    omega
  | _ :: _ :: _ :: _, hl, _ => simp at hl
theorem b1_all : ∀ x : Fin 256, (Go.bits .andNot .u8 (x.val : Int) 1 = 248 ↔ (x.val : Int) = 248 ∨ (x.val : Int) = 249) ∧ (Go.bits .and .u8 (x.val : Int) 1 = (x.val : Int) % 2) ∧ (Go.bits .and .u8 (x.val : Int) 15 = (x.val : Int) % 16) ∧ (Go.bits .and .u8 ((x.val : Int) / 2) 7 = (x.val : Int) / 2 % 8) := by decide +kernel
theorem b1_at (x : Int) (h : 0 ≤ x ∧ x ≤ 255) : (Go.bits .andNot .u8 x 1 = 248 ↔ x = 248 ∨ x = 249) ∧ (Go.bits .and .u8 x 1 = x % 2) ∧ (Go.bits .and .u8 x 15 = x % 16) ∧ (Go.bits .and .u8 (x / 2) 7 = x / 2 % 8) := by
  have := b1_all ⟨x.toNat, by omega⟩
  simp only [Int.toNat_of_nonneg h.1] at this
  exact this
theorem takes_rng {l : List Int} (hr : ∀ x ∈ l, 0 ≤ x ∧ x ≤ 255) (a n : Nat) : ∀ x ∈ (l.drop a).take n, 0 ≤ x ∧ x ≤ 255 := fun x hx => hr x (List.mem_of_mem_drop (List.mem_of_mem_take hx))
theorem block_ev (l : List Int) (hr : ∀ x ∈ l, 0 ≤ x ∧ x ≤ 255) (bc p : Int) : Ev (fun k => blockOf k l p.toNat (xC bc) (rd BLOCKS bc)) (tBlock l bc p) := by
  unfold blockOf tBlock
  have hx := xC_rng bc
  by_cases c : 0 < xC bc
  · refine evTT c ?_
    have hw := takes_rng hr p.toNat (xC bc).toNat
    have hn : ((l.drop p.toNat).take (xC bc).toNat).length ≤ 2 := by rw [List.length_take]; omega
    refine evB (whole_ev _ hn hw) ?_
    have hv : 0 ≤ whole2 ((l.drop p.toNat).take (xC bc).toNat) ∧ whole2 ((l.drop p.toNat).take (xC bc).toNat) ≤ 65535 := by
      revert hn hw
      generalize (l.drop p.toNat).take (xC bc).toNat = q
      intro hw hn
      match q, hw, hn with
      | [], _, _ => exact ⟨by decide, by decide⟩
      | [a], hw, _ => have := hw a (by simp); show 0 ≤ a ∧ a ≤ 65535; omega
      | [a, b], hw, _ => have h1 := hw a (by simp); have h2 := hw b (by simp); show 0 ≤ 256 * a + b ∧ 256 * a + b ≤ 65535; omega
      | _ :: _ :: _ :: _, _, hn => simp at hn
    rw [wr _ (by omega)]
    exact Ev.now _
  · refine evFF c ?_
    exact Ev.now _
theorem rate_ev (l : List Int) (hr : ∀ x ∈ l, 0 ≤ x ∧ x ≤ 255) (rc p : Int) : Ev (fun k => rateOf k l p.toNat (yC rc) rc (rd RATES rc)) (tRate l rc p) := by
  unfold rateOf tRate
  have hx := yC_rng rc
  by_cases c : 0 < yC rc
  · refine evTT c ?_
    have hw := takes_rng hr p.toNat (yC rc).toNat
    have hn : ((l.drop p.toNat).take (yC rc).toNat).length ≤ 2 := by rw [List.length_take]; omega
    refine evB (whole_ev _ hn hw) ?_
    refine evC (scale_eq rc) ?_
    have hv : 0 ≤ whole2 ((l.drop p.toNat).take (yC rc).toNat) ∧ whole2 ((l.drop p.toNat).take (yC rc).toNat) ≤ 65535 := by
      revert hn hw
      generalize (l.drop p.toNat).take (yC rc).toNat = q
      intro hw hn
      match q, hw, hn with
      | [], _, _ => exact ⟨by decide, by decide⟩
      | [a], hw, _ => have := hw a (by simp); show 0 ≤ a ∧ a ≤ 65535; omega
      | [a, b], hw, _ => have h1 := hw a (by simp); have h2 := hw b (by simp); show 0 ≤ 256 * a + b ∧ 256 * a + b ≤ 65535; omega
      | _ :: _ :: _ :: _, _, hn => simp at hn
    generalize whole2 ((l.drop p.toNat).take (yC rc).toNat) = v at *
    have hs : sC rc = 1000 ∨ sC rc = 10 ∨ sC rc = 1 := by unfold sC; omega
    rw [wr _ (by rcases hs with e | e | e <;> rw [e] <;> omega)]
    exact Ev.now _
  · refine evFF c ?_
    exact Ev.now _
theorem htail_ev (l : List Int) (hr : ∀ x ∈ l, 0 ≤ x ∧ x ≤ 255) (hl : l.length ≤ 1000000) (n z bc rc m dc b1 : Int) (hb1 : b1 = 248 ∨ b1 = 249) (hz : 0 ≤ z ∧ z ≤ 1000000) (hbc : 0 ≤ bc ∧ bc ≤ 15) (hrc : 0 ≤ rc ∧ rc ≤ 15) :
    Ev (fun k => takeTail k l n z (rd BLOCKS bc) (rd RATES rc) m (rd DEPTHS dc) bc rc (b1 % 2 == 1)) (tEnd l b1 bc rc m dc n z) := by
  unfold takeTail tEnd
  have hv : (b1 % 2 == 1) = decide (b1 = 249) := by rcases hb1 with e | e <;> rw [e] <;> rfl
  have hx := xC_rng bc
  have hy := yC_rng rc
  rw [hv]
  by_cases c1 : 2147483648 ≤ n ∧ b1 = 248
  · rw [if_pos c1]
    refine evT ⟨c1.1, by rw [c1.2]; rfl⟩ (Ev.now _)
  rw [if_neg c1]
  refine evF (fun h => c1 ⟨h.1, ?_⟩) ?_
  · have := of_decide_eq_false h.2
    omega
  refine evB (behind_ev bc rc hbc hrc) ?_
  dsimp only
  refine evT ⟨hx.1, hx.2, hy.1, hy.2⟩ ?_
  by_cases c2 : (l.length : Int) ≤ 4 + z + xC bc + yC rc
  · rw [if_pos c2]
    exact evT c2 (Ev.now _)
  rw [if_neg c2]
  refine evF c2 ?_
  refine evB (block_ev l hr bc (4 + z)) ?_
  refine evB (rate_ev l hr rc (4 + z + xC bc)) ?_
  by_cases c3 : tBlock l bc (4 + z) > 65535
  · exact evTT c3 (Ev.now _)
  refine evFF c3 ?_
  have hw : ∀ x ∈ l.take (4 + z + xC bc + yC rc).toNat, 0 ≤ x ∧ x ≤ 255 := fun x h => hr x (List.mem_of_mem_take h)
  have h8 : checks_Eight.f (l.take (4 + z + xC bc + yC rc).toNat) = some (crc8 (l.take (4 + z + xC bc + yC rc).toNat)) := by
    unfold checks_Eight.f
    rw [if_pos ⟨by rw [List.length_take]; omega, List.all_eq_true.mpr fun x h => by simpa using hw x h⟩, reg_crc8 _ hw]
  refine evC h8 ?_
  by_cases c4 : crc8 (l.take (4 + z + xC bc + yC rc).toNat) ≠ rd l (4 + z + xC bc + yC rc)
  · exact evTT c4 (Ev.now _)
  exact evFF c4 (Ev.now _)
theorem htake_ev (l : List Int) (hr : ∀ x ∈ l, 0 ≤ x ∧ x ≤ 255) (hl : l.length ≤ 1000000) : Ev (fun k => head_Take.f k l) (takeP l) := by
  unfold head_Take.f takeP
  refine evT hl ?_
  by_cases c0 : l.length < 4
  · rw [if_pos c0]
    exact evT c0 (Ev.now _)
  rw [if_neg c0]
  refine evF c0 ?_
  have r01 : 0 ≤ rd l 1 ∧ rd l 1 ≤ 255 := rd_rng l hr 1 (by omega)
  have r1 := b1_at (rd l 1) r01
  have r2 : 0 ≤ rd l 2 ∧ rd l 2 ≤ 255 := rd_rng l hr 2 (by omega)
  have r3 : 0 ≤ rd l 3 ∧ rd l 3 ≤ 255 := rd_rng l hr 3 (by omega)
  have g1 : 0 ≤ rd l 2 / 16 ∧ rd l 2 / 16 < 16 := by omega
  have g2 : 0 ≤ rd l 2 % 16 ∧ rd l 2 % 16 < 16 := by omega
  have g3 : 0 ≤ rd l 3 / 2 % 8 ∧ rd l 3 / 2 % 8 < 8 := by omega
  have g4 : 0 ≤ rd l 2 / 16 ∧ rd l 2 / 16 ≤ 15 := by omega
  have g5 : 0 ≤ rd l 2 % 16 ∧ rd l 2 % 16 ≤ 15 := by omega
  have e2 := b1_at (rd l 2) r2
  have e3 := b1_at (rd l 3) r3
  have eb : bC l = rd l 2 / 16 := wr _ (by omega)
  have er : rC l = rd l 2 % 16 := by
    unfold rC
    rw [e2.2.2.1, wr _ (by omega)]
  have em : mC l = rd l 3 / 16 := wr _ (by omega)
  have ed : dC l = rd l 3 / 2 % 8 := by
    unfold dC
    rw [e3.2.2.2, wr _ (by omega)]
  have ez : zC l = rd l 3 % 2 := e3.2.1
  by_cases c1 : rd l 0 = 255 ∧ (rd l 1 = 248 ∨ rd l 1 = 249)
  · rw [if_pos c1]
    refine evT ⟨c1.1, r1.1.2 c1.2⟩ ?_
    rw [eb, er, em, ed, ez]
    clear eb er em ed ez
    by_cases c2 : rd l 2 / 16 = 0 ∨ rd l 2 % 16 = 15 ∨ rd l 3 / 16 ≥ 11 ∨ rd l 3 / 2 % 8 = 3 ∨ rd l 3 % 2 = 1
    · rw [if_pos c2]
      exact evT c2 (Ev.now _)
    rw [if_neg c2]
    refine evF c2 ?_
    have hd4 : ∀ x ∈ l.drop 4, 0 ≤ x ∧ x ≤ 255 := fun x h => hr x (List.mem_of_mem_drop h)
    have hz : (dec (l.drop 4)).2.2 = 0 → 0 ≤ (dec (l.drop 4)).2.1 ∧ (dec (l.drop 4)).2.1 ≤ 1000000 := fun c =>
      have h := dec_rng (l.drop 4) hd4 c
      ⟨Int.le_trans (by decide) h.2.1, Int.le_trans h.2.2.1 (by decide)⟩
    refine evB (dec_ev (l.drop 4) hd4 (by rw [List.length_drop]; omega)) ?_
    by_cases c3 : (dec (l.drop 4)).2.2 = 0
    · rw [if_pos c3]
      refine evT c3 ?_
      refine evT ⟨g1, g2, g3, hz c3⟩ ?_
      rw [r1.2.1]
      exact htail_ev l hr hl _ _ _ _ _ _ _ c1.2 (hz c3) g4 g5
    · rw [if_neg c3]
      exact evF c3 (Ev.now _)
  · rw [if_neg c1]
    refine evF (fun h => c1 ⟨h.1, r1.1.1 h.2⟩) (Ev.now _)
end Go.Proofs.Ytbohlcccdcilkaa.Pure
