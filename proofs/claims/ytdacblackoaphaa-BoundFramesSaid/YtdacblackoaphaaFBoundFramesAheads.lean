import Derived.Test.YtdacblackoaphaaPBoundFramesx14
import Derived.Test.YtdacblackoaphaaLEv
import Derived.Test.YtdacblackoaphaaFBoundFramesFew
import Derived.Test.YtdacblackoaphaaFBoundFramesAhead
namespace Go.Proofs.Ytdacblackoaphaa.FBoundFrames
open Go.RowKit Go.Proofs.YtdacblackoaphaaW.PrintWords Go.Proofs.YtdacblackoaphaaW.PrintLast Go.Proofs.Ytdacblackoaphaa.PBoundFrames Go.Proofs.Ytdacblackoaphaa.L
set_option linter.unusedVariables false
set_option linter.unusedSimpArgs false
/-- How many bytes stand ahead of the frames. -/
def aheadN (m : ByteArray) (l : List ByteArray) (n e p : Int) : Int :=
  54 + m.size + csum l + (if e > 0 then 4 + 18 * places n e else 0) + (if p > 0 then 4 + p else 0)
theorem ahead_j1 (m : ByteArray) (l : List ByteArray) (x : List S57) (q : List ByteArray) (mm : ByteArray) (e p : Int) (hm : m.size ≤ 50) (hl : l.length ≤ 10) (h : ∀ x ∈ l, x.size ≤ 50) (hp : p ≤ 300)
    (hx : blocksOk x) (hx1 : 1 ≤ x.length ∧ x.length ≤ 2) (hs : psum x ≤ 100000) :
    EvX (fun r : Int => r = 4 + psum x + (4 + (8 + m.size + csum l)) + (if p > 0 then 4 + p else 0)) (fun k => serinetteref24_Ahead.j1 k x m l mm q e p) := by
  have hcs := csum_le l h
  refine xStep (fun k => serinetteref24_Ahead.j1.eq_2 ..) (xB (body_ev m l hm hl h) (fun t ht => xT (by omega) (xB (Q' := fun r => r = x ++ [(⟨4, t⟩ : S57)]) (xNow rfl) (fun y hy => ?_))))
  subst hy
  have hy := ok_snoc x 4 t hx hx1.1 (by omega) (by omega)
  have hps := psum_snoc x 4 t
  have hlx : (x ++ [(⟨4, t⟩ : S57)]).length = x.length + 1 := by simp
  refine xIte (fun c => xT (by omega) (xT (by omega) (xT (by rw [List.length_append, List.length_cons, List.length_nil]; omega) ?_))) (fun c => ?_)
  · have hlr : (List.replicate p.toNat (0 : Int)).length = p.toNat := List.length_replicate
    have hz := ok_snoc _ 1 (List.replicate p.toNat 0) hy (by omega) (by omega) (by omega)
    have hpz := psum_snoc (x ++ [(⟨4, t⟩ : S57)]) 1 (List.replicate p.toNat 0)
    refine xB (pack_ev _ hz (by simp only [List.length_append, List.length_cons, List.length_nil]; omega) (by simp only [List.length_append, List.length_cons, List.length_nil]; omega) (by omega)) (fun r hr => xNow ?_)
    rw [if_pos c]
    omega
  · refine xB (pack_ev _ hy (by simp only [List.length_append, List.length_cons, List.length_nil]; omega) (by simp only [List.length_append, List.length_cons, List.length_nil]; omega) (by omega)) (fun r hr => xNow ?_)
    rw [if_neg c]
    omega
theorem ahead_l0 (m : ByteArray) (l : List ByteArray) (q : List ByteArray) (mm : ByteArray) (n e p : Int) (hm : m.size ≤ 50) (hl : l.length ≤ 10) (h : ∀ x ∈ l, x.size ≤ 50) (hp : p ≤ 300) (he : 1 ≤ e) (hn : 0 ≤ n ∧ n ≤ 2000) (x : List S57) (hx : x = [⟨0, List.replicate 34 0⟩]) (d : Nat) : ∀ (i : Int), 0 ≤ i → i + d = n →
    EvX (fun r : Int => r = 54 + m.size + csum l + (4 + 18 * places n e) + (if p > 0 then 4 + p else 0)) (fun k => serinetteref24_Ahead.l0 k n x (places i e) i m l mm q e p) := by
  induction d with
  | zero =>
    intro i h0 hi
    obtain rfl : i = n := by omega
    have hr := places_rng i e h0 he
    refine xStep (fun k => serinetteref24_Ahead.l0.eq_2 ..) (xF (by omega) ?_)
    rw [wr (18 * places i e) (by omega)]
    refine xT (by omega) (xT (by omega) (xT (by rw [hx]; simp) ?_))
    have hlr : (List.replicate (18 * places i e).toNat (0 : Int)).length = (18 * places i e).toNat := List.length_replicate
    have hxo : blocksOk x := by rw [hx]; exact ok_one _ (by simp)
    have hxl : x.length = 1 := by rw [hx]; rfl
    have hxs : psum x = 38 := by rw [hx, psum_one]; simp
    have hb := ok_snoc x 3 (List.replicate (18 * places i e).toNat 0) hxo (by omega) (by omega) (by omega)
    have hps := psum_snoc x 3 (List.replicate (18 * places i e).toNat 0)
    refine xMono (ahead_j1 m l _ q mm e p hm hl h hp hb (by rw [List.length_append, List.length_cons, List.length_nil]; omega) (by omega)) (fun r hr => ?_)
    rw [hr, hps]
    omega
  | succ d ih =>
    intro i h0 hi
    have hr := places_rng i e h0 he
    have hs := places_succ i e h0 he
    refine xStep (fun k => serinetteref24_Ahead.l0.eq_2 ..) (xT (by omega) (xF (by omega) ?_))
    rw [tmod_pos _ _ h0, wr (i + 1) (by omega), wr (places i e + 1) (by omega)]
    have := ih (i + 1) (by omega) (by omega)
    rw [hs] at this
    refine xIte (fun c => ?_) (fun c => ?_)
    · rw [if_pos c] at this; exact this
    · rw [if_neg c, Int.add_zero] at this; exact this
theorem rahead_ev (m : ByteArray) (l : List ByteArray) (n e p : Int) (hm : m.size ≤ 50) (hl : l.length ≤ 10) (h : ∀ x ∈ l, x.size ≤ 50) (hp : p ≤ 300) (hn : 0 ≤ n ∧ n ≤ 2000) :
    EvX (fun r : Int => r = aheadN m l n e p) (fun k => serinetteref24_Ahead.f k m l n m l e p) := by
  unfold serinetteref24_Ahead.f aheadN
  refine xT (by decide) (xB (Q' := fun r => r = [(⟨0, List.replicate 34 0⟩ : S57)]) (xNow rfl) (fun x hx => xIte (fun c => ?_) (fun c => ?_)))
  · rw [if_pos c]
    have := ahead_l0 m l l m n e p hm hl h hp (by omega) hn x hx n.toNat 0 (by omega) (by omega)
    exact this
  · rw [if_neg c]
    have hb : blocksOk x := by rw [hx]; exact ok_one _ (by simp)
    have hps : psum x = 38 := by rw [hx, psum_one]; simp
    have hxl : x.length = 1 := by rw [hx]; rfl
    refine xMono (ahead_j1 m l _ l m e p hm hl h hp hb (by omega) (by omega)) (fun r hr => ?_)
    rw [hr, hps]
    omega
theorem bahead_l0 (m : ByteArray) (l : List ByteArray) (q : List ByteArray) (mm : ByteArray) (n e p : Int) (hm : m.size ≤ 50) (hl : l.length ≤ 10) (h : ∀ x ∈ l, x.size ≤ 50) (hp : p ≤ 300) (he : e ≤ 16777215) (hn : 0 ≤ n ∧ n ≤ 2000) (d : Nat) : ∀ (i : Nat) (z : Int), i + d = l.length → 0 ≤ z → z + csum (l.drop i) = 54 + m.size + csum l →
    Ev (fun k => bound_Ahead.l0 k n z l (l.length : Int) (i : Int) mm q e p) (aheadN m l n e p) := by
  have hcs := csum_le l h
  induction d with
  | zero =>
    intro i z hi h0 hz
    rw [csum_end l i (by omega)] at hz
    refine Ev.step (fun k => bound_Ahead.l0.eq_2 ..) (evF (by omega) ?_)
    unfold aheadN
    by_cases c : e > 0
    · refine evT c ?_
      rw [if_pos c]
      have hr := places_rng n e hn.1 (by omega)
      by_cases c1 : n > 0
      · refine evT c1 (evF (by omega) ?_)
        have hpl : places n e = (n - 1) / e + 1 := by unfold places; rw [if_pos c1]
        rw [wr (n - 1) (by omega), tdiv_pos _ _ (by omega), wr ((n - 1) / e) (by omega), wr ((n - 1) / e + 1) (by omega), ← hpl, wr (18 * places n e) (by omega), wr (z + 4) (by omega), wr (z + 4 + 18 * places n e) (by omega)]
        by_cases c2 : p > 0
        · rw [wr (4 + p) (by omega), wr _ (by omega)]
          refine evT c2 (evR (Ev.now _) (by rw [if_pos c2]; omega))
        · skip
          refine evF c2 (evR (Ev.now _) (by rw [if_neg c2]; omega))
      · have hpl : places n e = 0 := by unfold places; rw [if_neg c1]
        refine evF c1 ?_
        rw [wr (z + 4) (by omega), hpl]
        by_cases c2 : p > 0
        · rw [wr (4 + p) (by omega), wr _ (by omega)]
          refine evT c2 (evR (Ev.now _) (by rw [if_pos c2]; omega))
        · skip
          refine evF c2 (evR (Ev.now _) (by rw [if_neg c2]; omega))
    · refine evF c ?_
      rw [if_neg c]
      by_cases c2 : p > 0
      · rw [wr (4 + p) (by omega), wr _ (by omega)]
        refine evT c2 (evR (Ev.now _) (by rw [if_pos c2]; omega))
      · skip
        refine evF c2 (evR (Ev.now _) (by rw [if_neg c2]; omega))
  | succ d ih =>
    intro i z hi h0 hz
    have hc := csum_drop l i (by omega)
    have h50 := h _ (List.getElem_mem (show i < l.length by omega))
    refine Ev.step (fun k => bound_Ahead.l0.eq_2 ..) (evT (by omega) (evT (by omega) (evT (by omega) ?_)))
    rw [rdOf_nat _ _ _ (by omega : i < l.length), wr ((i : Int) + 1) (by omega), wr (4 + (l[i].size : Int)) (by omega), wr (z + _) (by omega)]
    exact ih (i + 1) _ (by omega) (by omega) (by omega)
theorem bahead_ev (m : ByteArray) (l : List ByteArray) (n e p : Int) (hm : m.size ≤ 50) (hl : l.length ≤ 10) (h : ∀ x ∈ l, x.size ≤ 50) (hp : p ≤ 300) (he : e ≤ 16777215) (hn : 0 ≤ n ∧ n ≤ 2000) :
    Ev (fun k => bound_Ahead.f k m l n m l e p) (aheadN m l n e p) := by
  unfold bound_Ahead.f
  rw [wr (54 + (m.size : Int)) (by omega)]
  exact bahead_l0 m l l m n e p hm hl h hp he hn _ 0 _ (Nat.zero_add _) (by omega) (by rw [List.drop_zero])
end Go.Proofs.Ytdacblackoaphaa.FBoundFrames
