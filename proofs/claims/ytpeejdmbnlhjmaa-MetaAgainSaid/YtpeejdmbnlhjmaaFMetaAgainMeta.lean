/- Facts on metadata as plain lists: what Pack makes, what Unpack reads. -/
import Derived.Test.YtpeejdmbnlhjmaaPMetaAgainx3
import Derived.Laws.BitsLemmas
import Derived.Test.YtpeejdmbnlhjmaaLEv
import Derived.Test.YtpeejdmbnlhjmaaLNum
import Derived.Test.YtpeejdmbnlhjmaaLBits
import Derived.Test.YtpeejdmbnlhjmaaFMetaAgainSame
namespace Go.Proofs.Ytpeejdmbnlhjmaa.FMetaAgain
open Go.RowKit Go.Proofs.YtpeejdmbnlhjmaaW.PrintWords Go.Proofs.YtpeejdmbnlhjmaaW.PrintLast Go.Proofs.Ytpeejdmbnlhjmaa.PMetaAgain Go.Proofs.Ytpeejdmbnlhjmaa.H Go.Proofs.Ytpeejdmbnlhjmaa.L
set_option linter.unusedVariables false
set_option linter.unusedSimpArgs false
theorem getT (l : List S24) (i : Nat) (h : i < l.length) : rd_T24 l (i : Int) = l[i] := by
  unfold rd_T24
  simp [List.getD_eq_getElem?_getD, h]
/-- Its code where it cannot be put. -/
def oddE (m : S24) : Int := if m.f0 < 0 ∨ m.f0 ≥ 127 then 8 else if (m.f1.length : Int) > 16777215 then 7 else 0
def oddL : List S24 → Int
  | [] => 0
  | m :: r => if oddE m = 0 then oddL r else oddE m
/-- The first of kind 0, and it alone. -/
def okK : Bool → List S24 → Bool
  | _, [] => true
  | first, m :: r => if ((m.f0 == 0) != first) = true then false else okK false r
def blk : List S24 → List Int
  | [] => []
  | m :: r => (m.f0 + (if r.length = 0 then 128 else 0)) :: ((m.f1.length : Int) / 65536) % 256 :: ((m.f1.length : Int) / 256) % 256 :: ((m.f1.length : Int)) % 256 :: (m.f1 ++ blk r)
def packL (l : List S24) : List Int × Int := if oddL l = 0 then (if okK true l = true then ([102, 76, 97, 67] ++ blk l, 0) else ([], 5)) else ([], oddL l)
def packP (l : List S24) : List Int × Int := if l.length = 0 then ([], 2) else packL l
theorem odd_ev (m : S24) : Ev (fun k => meta_odd.f k m.f0 m.f1) (oddE m) := by
  unfold meta_odd.f oddE
  by_cases h : m.f0 < 0
  · rw [if_pos (Or.inl h)]
    refine evT h ?_
    refine Ev.step (fun k => meta_odd.j0.eq_2 ..) ?_
    exact evT rfl (Ev.now _)
  · refine evF h ?_
    refine Ev.step (fun k => meta_odd.j0.eq_2 ..) ?_
    by_cases h2 : m.f0 ≥ 127
    · rw [decide_eq_true h2, if_pos (Or.inr h2)]
      exact evT rfl (Ev.now _)
    · rw [decide_eq_false h2, if_neg (show ¬ (m.f0 < 0 ∨ m.f0 ≥ 127) by omega)]
      refine evF (by decide) ?_
      exact evI (Ev.now _) (Ev.now _)
theorem oddE_zero {m : S24} (h : oddE m = 0) : 0 ≤ m.f0 ∧ m.f0 < 127 ∧ m.f1.length ≤ 16777215 := by
  unfold oddE at h
  split at h
  · cases h
  · split at h
    · cases h
    · omega
theorem oddL_zero : ∀ {l : List S24}, oddL l = 0 → ∀ m ∈ l, oddE m = 0
  | [], _ => by simp
  | m :: r, h => by
    unfold oddL at h
    split at h
    · intro x hx
      rcases List.mem_cons.1 hx with rfl | hx
      · assumption
      · exact oddL_zero h x hx
    · contradiction
theorem oddL_of : ∀ {l : List S24}, (∀ m ∈ l, oddE m = 0) → oddL l = 0
  | [], _ => rfl
  | m :: r, h => by
    unfold oddL
    rw [if_pos (h m (by simp))]
    exact oddL_of fun x hx => h x (by simp [hx])
theorem pack0 (l : List S24) (hl : l.length ≤ 1000000) (R : List Int × Int) (d : Nat) : ∀ i : Nat, i + d = l.length → (oddL (l.drop i) = 0 → Ev (fun k => meta_Pack.l1 k l [102, 76, 97, 67] l (l.length : Int) 0) R) →
    (oddL (l.drop i) ≠ 0 → R = ([], oddL (l.drop i))) → Ev (fun k => meta_Pack.l0 k l l (l.length : Int) (i : Int)) R := by
  induction d with
  | zero =>
    intro i hi h1 h2
    refine Ev.step (fun k => meta_Pack.l0.eq_2 ..) ?_
    refine evF (by omega) ?_
    exact h1 (by rw [List.drop_eq_nil_of_le (by omega)]; rfl)
  | succ d ih =>
    intro i hi h1 h2
    have hlt : i < l.length := by omega
    refine Ev.step (fun k => meta_Pack.l0.eq_2 ..) ?_
    refine evT (by omega) ?_
    refine evT (by omega) ?_
    refine evT (by omega) ?_
    rw [getT l i hlt]
    refine evB (odd_ev _) ?_
    rw [List.drop_eq_getElem_cons hlt, oddL] at h1 h2
    by_cases c : oddE l[i] = 0
    · rw [if_pos c] at h1 h2
      refine evT c ?_
      rw [wr _ (by omega)]
      exact ih (i + 1) (by omega) h1 h2
    · rw [if_neg c] at h1 h2
      rw [h2 c]
      exact evF c (Ev.now _)
theorem or128_all : ∀ b : Fin 128, Go.bits .or .u8 (b.val : Int) 128 = (b.val : Int) + 128 := by decide +kernel
theorem or128 (b : Int) (h : 0 ≤ b ∧ b < 128) : Go.bits .or .u8 b 128 = b + 128 := by
  have := or128_all ⟨b.toNat, by omega⟩
  simpa only [Int.toNat_of_nonneg h.1] using this
theorem blk_cons (m : S24) (r : List S24) : blk (m :: r) = [m.f0 + (if r.length = 0 then 128 else 0), ((m.f1.length : Int) / 65536) % 256, ((m.f1.length : Int) / 256) % 256, ((m.f1.length : Int)) % 256] ++ m.f1 ++ blk r := by
  rw [blk]
  simp
theorem z_dec (i : Nat) : ((i : Int) == 0) = decide (i = 0) := by
  by_cases h : i = 0
  · subst h; rfl
  · rw [decide_eq_false h]
    exact beq_false_of_ne (by omega)
theorem pack1 (l : List S24) (hl : l.length ≤ 1000000) (ho : ∀ m ∈ l, oddE m = 0) (d : Nat) : ∀ (i : Nat) (acc : List Int), i + d = l.length → acc.length + (blk (l.drop i)).length ≤ 1000000 →
    Ev (fun k => meta_Pack.l1 k l acc l (l.length : Int) (i : Int)) (if okK (decide (i = 0)) (l.drop i) = true then (acc ++ blk (l.drop i), 0) else ([], 5)) := by
  induction d with
  | zero =>
    intro i acc hi hb
    refine Ev.step (fun k => meta_Pack.l1.eq_2 ..) ?_
    refine evF (by omega) ?_
    rw [List.drop_eq_nil_of_le (by omega), okK, if_pos rfl, blk, List.append_nil]
    exact Ev.now _
  | succ d ih =>
    intro i acc hi hb
    have hlt : i < l.length := by omega
    have hz := oddE_zero (ho l[i] (List.getElem_mem _))
    rw [List.drop_eq_getElem_cons hlt] at hb ⊢
    have hrl : (l.drop (i + 1)).length = l.length - (i + 1) := List.length_drop
    generalize hm : l[i] = m at *
    generalize hr : l.drop (i + 1) = r at *
    rw [blk_cons] at hb ⊢
    refine Ev.step (fun k => meta_Pack.l1.eq_2 ..) ?_
    refine evT (by omega) ?_
    refine evT (by omega) ?_
    refine evT (by omega) ?_
    rw [getT l i hlt, hm, okK, z_dec]
    by_cases c : ((m.f0 == 0) != decide (i = 0)) = true
    · rw [if_pos c, if_neg (by decide)]
      exact evT c (Ev.now _)
    rw [if_neg c]
    refine evF c ?_
    rw [List.length_append, List.length_append] at hb
    simp only [List.length_cons, List.length_nil] at hb
    have key : ∀ (b : Int), b = m.f0 + (if r.length = 0 then 128 else 0) → Ev (fun k => (some ([b, ((m.f1.length : Int) / 65536) % 256, ((m.f1.length : Int) / 256) % 256, ((m.f1.length : Int)) % 256] : List Int)).bind fun y113 => (if acc.length + y113.length < 140737488355328 then ((some (acc ++ y113 : List Int)).bind fun y116 => (if y116.length + (m.f1).length < 140737488355328 then (meta_Pack.l1 k l (y116 ++ m.f1) l (l.length : Int) (wrap64 ((i : Int) + 1))) else (none))) else (none)))
        (if okK false r = true then (acc ++ ([m.f0 + (if r.length = 0 then 128 else 0), ((m.f1.length : Int) / 65536) % 256, ((m.f1.length : Int) / 256) % 256, ((m.f1.length : Int)) % 256] ++ m.f1 ++ blk r), 0) else ([], 5)) := by
      intro b e
      refine evC rfl ?_
      refine evT (by simp only [List.length_cons, List.length_nil]; omega) ?_
      refine evC rfl ?_
      refine evT (by simp only [List.length_append, List.length_cons, List.length_nil]; omega) ?_
      rw [wr _ (by omega)]
      have := ih (i + 1) ((acc ++ [b, ((m.f1.length : Int) / 65536) % 256, ((m.f1.length : Int) / 256) % 256, ((m.f1.length : Int)) % 256]) ++ m.f1) (by omega) (by rw [hr]; simp only [List.length_append, List.length_cons, List.length_nil]; omega)
      rw [hr, decide_eq_false (by omega), e] at this
      rw [e]
      refine evR this ?_
      simp only [List.append_assoc]
    rw [wr ((l.length : Int) - 1) (by omega)]
    by_cases c2 : (i : Int) = (l.length : Int) - 1
    · refine evT c2 ?_
      refine key _ ?_
      rw [if_pos (by omega), or128 _ (by omega)]
      omega
    · refine evF c2 ?_
      refine key _ ?_
      rw [if_neg (by omega)]
      omega
theorem pack_ev (l : List S24) (hl : l.length ≤ 1000000) (hb : 4 + (blk l).length ≤ 1000000) : Ev (fun k => meta_Pack.f k l) (packP l) := by
  unfold meta_Pack.f packP
  by_cases h : l.length = 0
  · rw [if_pos h]
    exact evT (by omega) (Ev.now _)
  rw [if_neg h]
  refine evF (by omega) ?_
  refine pack0 l hl _ l.length 0 (by omega) ?_ ?_
  · intro h0
    rw [List.drop_zero] at h0
    unfold packL
    rw [if_pos h0]
    have := pack1 l hl (oddL_zero h0) l.length 0 [102, 76, 97, 67] (by omega) (by rw [List.drop_zero]; simp only [List.length_cons, List.length_nil]; omega)
    rw [List.drop_zero, decide_eq_true rfl] at this
    exact this
  · intro h0
    rw [List.drop_zero] at h0 ⊢
    unfold packL
    rw [if_neg h0]
/-! Read. -/
def unp : Nat → List Int → List S24 → Int → List S24 × Int × Int
  | 0, _, _, _ => ([], 0, 2)
  | n + 1, b0 :: b1 :: b2 :: b3 :: t, acc, a =>
    if b0 % 128 = 127 then ([], 0, 8) else if ((b0 % 128 == 0) != ((acc.length : Int) == 0)) = true then ([], 0, 5) else
    if (t.length : Int) < b1 * 65536 + b2 * 256 + b3 then ([], 0, 2) else
    if b0 < 128 then unp n (t.drop (b1 * 65536 + b2 * 256 + b3).toNat) (acc ++ [⟨b0 % 128, t.take (b1 * 65536 + b2 * 256 + b3).toNat⟩]) (a + 4 + (b1 * 65536 + b2 * 256 + b3))
    else (acc ++ [⟨b0 % 128, t.take (b1 * 65536 + b2 * 256 + b3).toNat⟩], a + 4 + (b1 * 65536 + b2 * 256 + b3), 0)
  | _ + 1, _, _, _ => ([], 0, 2)
theorem unp_short (n : Nat) (s : List Int) (acc : List S24) (a : Int) (h : s.length < 4) : unp (n + 1) s acc a = ([], 0, 2) := by
  match s, h with
  | [], _ => rfl
  | [_], _ => rfl
  | [_, _], _ => rfl
  | [_, _, _], _ => rfl
  | _ :: _ :: _ :: _ :: t, h => simp only [List.length_cons] at h; omega
theorem rdc (l : List Int) (a : Nat) (h : a < l.length) : l.drop a = rd l (a : Int) :: l.drop (a + 1) := by
  rw [rd_nat l a h]
  exact drop_cons_rd l a h
theorem drop4 (l : List Int) (a : Nat) (h : a + 4 ≤ l.length) : l.drop a = rd l (a : Int) :: rd l ((a : Int) + 1) :: rd l ((a : Int) + 2) :: rd l ((a : Int) + 3) :: l.drop (a + 4) := by
  rw [rdc l a (by omega), rdc l (a + 1) (by omega), rdc l (a + 1 + 1) (by omega), rdc l (a + 1 + 1 + 1) (by omega)]
  rfl
theorem rd_in (l : List Int) (hb : ∀ x ∈ l, 0 ≤ x ∧ x ≤ 255) (a : Nat) (h : a < l.length) : 0 ≤ rd l (a : Int) ∧ rd l (a : Int) ≤ 255 := by
  rw [rd_nat l a h]
  exact hb _ (List.getElem_mem _)
theorem and128_all : ∀ b : Fin 256, Go.bits .andNot .u8 (b.val : Int) 128 = (b.val : Int) % 128 ∧ (Go.bits .and .u8 (b.val : Int) 128 == 0) = decide ((b.val : Int) < 128) := by decide +kernel
theorem and128 (b : Int) (h : 0 ≤ b ∧ b ≤ 255) : Go.bits .andNot .u8 b 128 = b % 128 ∧ (Go.bits .and .u8 b 128 == 0) = decide (b < 128) := by
  have := and128_all ⟨b.toNat, by omega⟩
  simpa only [Int.toNat_of_nonneg h.1] using this
theorem join3 (x y z : Int) (hx : 0 ≤ x ∧ x ≤ 255) (hy : 0 ≤ y ∧ y ≤ 255) (hz : 0 ≤ z ∧ z ≤ 255) : Go.bits .or .i64 (Go.bits .or .i64 (wrap64 (wrap64 x * 65536)) (wrap64 (wrap64 y * 256))) (wrap64 z) = x * 65536 + y * 256 + z := by
  rw [wr x (by omega), wr y (by omega), wr z (by omega), wr (x * 65536) (by omega), wr (y * 256) (by omega)]
  rw [bits_join .i64 63 (by decide) wraps_i64 16 (x * 65536) (y * 256) (by omega) (by omega) (by omega) (by omega) (by omega) (by omega)]
  rw [bits_join .i64 63 (by decide) wraps_i64 8 (x * 65536 + y * 256) z (by omega) (by omega) (by omega) (by omega) (by omega) (by omega)]
theorem clone_eq (l : List Int) (h : l.length ≤ 1000000) : bytes_Clone.f l = some l := if_pos (by omega)
theorem unpack1 (l : List Int) (hl : l.length ≤ 1000000) (hb : ∀ x ∈ l, 0 ≤ x ∧ x ≤ 255) : ∀ (n a : Nat) (acc : List S24), a ≤ l.length → l.length - a < n → acc.length ≤ a →
    Ev (fun k => meta_Unpack.l0 k l acc (a : Int) true) (unp n (l.drop a) acc (a : Int))
  | 0, _, _, _, h, _ => by omega
  | n + 1, a, acc, ha, hn, hacc => by
    refine Ev.step (fun k => meta_Unpack.l0.eq_2 ..) ?_
    refine evT rfl ?_
    rw [wr ((a : Int) + 4) (by omega), wr ((a : Int) + 1) (by omega), wr ((a : Int) + 2) (by omega), wr ((a : Int) + 3) (by omega)]
    by_cases h4 : (l.length : Int) < (a : Int) + 4
    · rw [unp_short _ _ _ _ (by rw [List.length_drop]; omega)]
      exact evT h4 (Ev.now _)
    refine evF h4 ?_
    refine evT (by omega) ?_
    refine evT (by omega) ?_
    refine evT (by omega) ?_
    refine evT (by omega) ?_
    refine evT (by omega) ?_
    refine evT (by omega) ?_
    refine evT (by omega) ?_
    refine evT (by omega) ?_
    rw [drop4 l a (by omega)]
    have g0 := rd_in l hb a (by omega)
    have g1 := rd_in l hb (a + 1) (by omega)
    have g2 := rd_in l hb (a + 2) (by omega)
    have g3 := rd_in l hb (a + 3) (by omega)
    rw [Int.natCast_add] at g1 g2 g3
    change 0 ≤ rd l ((a : Int) + 1) ∧ rd l ((a : Int) + 1) ≤ 255 at g1
    change 0 ≤ rd l ((a : Int) + 2) ∧ rd l ((a : Int) + 2) ≤ 255 at g2
    change 0 ≤ rd l ((a : Int) + 3) ∧ rd l ((a : Int) + 3) ≤ 255 at g3
    generalize rd l (a : Int) = b0 at *
    generalize rd l ((a : Int) + 1) = b1 at *
    generalize rd l ((a : Int) + 2) = b2 at *
    generalize rd l ((a : Int) + 3) = b3 at *
    rw [join3 b1 b2 b3 g1 g2 g3, (and128 b0 g0).1, (and128 b0 g0).2, wr (b0 % 128) (by omega), unp]
    have hs : 0 ≤ b1 * 65536 + b2 * 256 + b3 ∧ b1 * 65536 + b2 * 256 + b3 < 16777216 := by omega
    generalize b1 * 65536 + b2 * 256 + b3 = s at *
    by_cases c1 : b0 % 128 = 127
    · rw [if_pos c1]
      exact evT c1 (Ev.now _)
    rw [if_neg c1]
    refine evF c1 ?_
    by_cases c2 : ((b0 % 128 == 0) != ((acc.length : Int) == 0)) = true
    · rw [if_pos c2]
      exact evT c2 (Ev.now _)
    rw [if_neg c2]
    refine evF c2 ?_
    rw [wr (4 + s) (by omega), wr ((a : Int) + 4 + s) (by omega), wr ((a : Int) + (4 + s)) (by omega), wr ((a : Int) + (4 + s) - s) (by omega), List.length_drop]
    by_cases c3 : (l.length : Int) < (a : Int) + 4 + s
    · rw [if_pos (by omega)]
      exact evT c3 (Ev.now _)
    rw [if_neg (by omega)]
    refine evF c3 ?_
    refine evT (by omega) ?_
    refine evT (by omega) ?_
    refine evT (by omega) ?_
    have hcut : (l.take ((a : Int) + (4 + s)).toNat).drop ((a : Int) + (4 + s) - s).toNat = (l.drop (a + 4)).take s.toNat := by
      rw [List.drop_take, show ((a : Int) + (4 + s) - s).toNat = a + 4 by omega, show ((a : Int) + (4 + s)).toNat - (a + 4) = s.toNat by omega]
    rw [hcut]
    refine evC (clone_eq _ (by rw [List.length_take, List.length_drop]; omega)) ?_
    refine evT (by omega) ?_
    rw [show (a : Int) + (4 + s) = ((a + 4 + s.toNat : Nat) : Int) by omega, show (a : Int) + 4 + s = ((a + 4 + s.toNat : Nat) : Int) by omega]
    by_cases c4 : b0 < 128
    · rw [if_pos c4, decide_eq_true c4, List.drop_drop]
      exact unpack1 l hl hb n (a + 4 + s.toNat) _ (by omega) (by omega) (by rw [List.length_append, List.length_singleton]; omega)
    · rw [if_neg c4, decide_eq_false c4]
      refine Ev.step (fun k => meta_Unpack.l0.eq_2 ..) ?_
      exact evF (by decide) (Ev.now _)
theorem magic_iff (l : List Int) (hl : l.length = 4) (hb : ∀ x ∈ l, 0 ≤ x ∧ x ≤ 255) : (strOfNums l).toList = ([102, 76, 97, 67] : List UInt8) ↔ l = [102, 76, 97, 67] := by
  match l, hl with
  | [a, b, c, d], _ =>
    have ha := hb a (by simp)
    have hb' := hb b (by simp)
    have hc := hb c (by simp)
    have hd := hb d (by simp)
    rw [show (strOfNums [a, b, c, d]).toList = [UInt8.ofNat a.toNat, UInt8.ofNat b.toNat, UInt8.ofNat c.toNat, UInt8.ofNat d.toNat] by simp [strOfNums]]
    have e : ∀ x : Int, 0 ≤ x ∧ x ≤ 255 → ∀ n : Nat, n < 256 → (UInt8.ofNat x.toNat = UInt8.ofNat n ↔ x = n) := by
      intro x hx n hn
      rw [← UInt8.toNat_inj, UInt8.toNat_ofNat', UInt8.toNat_ofNat', Nat.mod_eq_of_lt (by omega), Nat.mod_eq_of_lt (by omega)]
      omega
    have e1 := e a ha 102 (by decide)
    have e2 := e b hb' 76 (by decide)
    have e3 := e c hc 97 (by decide)
    have e4 := e d hd 67 (by decide)
    simp only [List.cons.injEq, and_true]
    exact ⟨fun ⟨p, q, r, s⟩ => ⟨e1.1 p, e2.1 q, e3.1 r, e4.1 s⟩, fun ⟨p, q, r, s⟩ => ⟨e1.2 p, e2.2 q, e3.2 r, e4.2 s⟩⟩
def unpackP (l : List Int) : List S24 × Int × Int := if l.length < 4 then ([], 0, 2) else if l.take 4 = [102, 76, 97, 67] then unp (l.length + 1) (l.drop 4) [] 4 else ([], 0, 9)
theorem unpack_ev (l : List Int) (hl : l.length ≤ 1000000) (hb : ∀ x ∈ l, 0 ≤ x ∧ x ≤ 255) : Ev (fun k => meta_Unpack.f k l) (unpackP l) := by
  unfold meta_Unpack.f unpackP
  by_cases h : l.length < 4
  · rw [if_pos h]
    exact evT (by omega) (Ev.now _)
  rw [if_neg h]
  refine evF (by omega) ?_
  have hp : bytes_HasPrefix.f l [102, 76, 97, 67] = some (decide (l.take 4 = [102, 76, 97, 67])) := by
    unfold bytes_HasPrefix.f bytes_Equal.f
    simp only [List.length_cons, List.length_nil]
    rw [if_pos (by omega), if_pos (by decide), if_pos (by omega)]
    have e := magic_iff (l.take 4) (by rw [List.length_take]; omega) (fun x hx => hb x (List.mem_of_mem_take hx))
    have e2 : (strOfNums ([102, 76, 97, 67] : List Int)).toList = ([102, 76, 97, 67] : List UInt8) := (magic_iff [102, 76, 97, 67] rfl (by decide)).2 rfl
    show some ((strOfNums (l.take 4)).toList == (strOfNums ([102, 76, 97, 67] : List Int)).toList) = _
    rw [e2]
    by_cases c : l.take 4 = [102, 76, 97, 67]
    · rw [decide_eq_true c, e.2 c]
      rfl
    · rw [decide_eq_false c, beq_false_of_ne (fun x => c (e.1 x))]
  refine evC hp ?_
  by_cases c : l.take 4 = [102, 76, 97, 67]
  · rw [if_pos c, decide_eq_true c]
    refine evT rfl ?_
    exact unpack1 l hl hb (l.length + 1) 4 [] (by omega) (by omega) (by simp)
  · rw [if_neg c, decide_eq_false c]
    exact evF (by decide) (Ev.now _)
theorem metas1 (a b : List S24) (hl : a.length ≤ 1000000) (he : a = b) (hf : ∀ m ∈ a, m.f1.length ≤ 1000000) (d : Nat) : ∀ i : Nat, i + d = a.length → Ev (fun k => serinetteref18_Metas.l0 k a b (i : Int)) true := by
  subst he
  induction d with
  | zero =>
    intro i hi
    refine Ev.step (fun k => serinetteref18_Metas.l0.eq_2 ..) ?_
    exact evF (by omega) (Ev.now _)
  | succ d ih =>
    intro i hi
    refine Ev.step (fun k => serinetteref18_Metas.l0.eq_2 ..) ?_
    refine evT (by omega) ?_
    refine evT (by omega) ?_
    refine evT (by omega) ?_
    refine evT rfl ?_
    rw [getT a i (by omega)]
    refine evB (same_same _ _ (by have := hf a[i] (List.getElem_mem _); omega) rfl) ?_
    refine evT rfl ?_
    rw [wr _ (by omega)]
    exact ih (i + 1) (by omega)
theorem metas_ev (a b : List S24) (hl : a.length ≤ 1000000) (he : a = b) (hf : ∀ m ∈ a, m.f1.length ≤ 1000000) : Ev (fun k => serinetteref18_Metas.f k a b) true := by
  unfold serinetteref18_Metas.f
  refine evT (by rw [he]) ?_
  exact metas1 a b hl he hf a.length 0 (by omega)
theorem few1 (l : List S24) (hl : l.length ≤ maxLen) (d : Nat) : ∀ i : Nat, i + d = l.length → ∃ b, Ev (fun k => serinetteref18_Few.l0 k l (i : Int)) b ∧ (b = true → l.length ≤ 10 ∧ ∀ m ∈ l.drop i, m.f1.length ≤ 200) := by
  have hmx : maxLen = 9223372036854775807 := by decide
  induction d with
  | zero =>
    intro i hi
    refine ⟨_, Ev.step (fun k => serinetteref18_Few.l0.eq_2 ..) (evF (by omega) (Ev.now _)), ?_⟩
    intro h
    rw [List.drop_eq_nil_of_le (by omega)]
    have := of_decide_eq_true h
    exact ⟨by omega, by simp⟩
  | succ d ih =>
    intro i hi
    have hlt : i < l.length := by omega
    by_cases c : (l[i].f1.length : Int) > 200
    · refine ⟨false, Ev.step (fun k => serinetteref18_Few.l0.eq_2 ..) (evT (by omega) (evT (by omega) ?_)), by simp⟩
      rw [getT l i hlt]
      exact evT c (Ev.now _)
    · obtain ⟨b, h1, h2⟩ := ih (i + 1) (by omega)
      refine ⟨b, Ev.step (fun k => serinetteref18_Few.l0.eq_2 ..) (evT (by omega) (evT (by omega) ?_)), ?_⟩
      · rw [getT l i hlt]
        refine evF c ?_
        rw [wr _ (by omega)]
        exact h1
      · intro h
        obtain ⟨h3, h4⟩ := h2 h
        refine ⟨h3, ?_⟩
        rw [List.drop_eq_getElem_cons hlt]
        intro m hm
        rcases List.mem_cons.1 hm with rfl | hm
        · omega
        · exact h4 m hm
theorem few_ev (l : List S24) (hl : l.length ≤ maxLen) : ∃ b, Ev (fun k => serinetteref18_Few.f k l) b ∧ (b = true → l.length ≤ 10 ∧ ∀ m ∈ l, m.f1.length ≤ 200) := few1 l hl l.length 0 (by omega)
theorem blk_len : ∀ (l : List S24) (c : Nat), (∀ m ∈ l, m.f1.length ≤ c) → (blk l).length ≤ l.length * (4 + c)
  | [], _, _ => by simp [blk]
  | m :: r, c, h => by
    have h1 := blk_len r c fun x hx => h x (by simp [hx])
    have h2 := h m (by simp)
    rw [blk_cons, List.length_append, List.length_append]
    simp only [List.length_cons, List.length_nil]
    rw [Nat.add_mul]
    omega
end Go.Proofs.Ytpeejdmbnlhjmaa.FMetaAgain
