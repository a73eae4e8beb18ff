/- The head of a subframe that is told as its numbers are (kind 1), from its bits. -/
import Derived.Test.YtpeejdmbnlhjmaaSjoin
import Derived.Test.YtpeejdmbnlhjmaaLEv
namespace Go.Proofs.Ytpeejdmbnlhjmaa.FWaste
open Go.RowKit Go.Proofs.YtpeejdmbnlhjmaaW.PrintWords Go.Proofs.YtpeejdmbnlhjmaaW.PrintLast Go.Proofs.Ytpeejdmbnlhjmaa.H Go.Proofs.Ytpeejdmbnlhjmaa.L
set_option linter.unusedVariables false
set_option linter.unusedSimpArgs false
theorem begin_end (l : List Int) (block depth : Int) (h1 : 1 ≤ block) (p : Nat) (w : Int) :
    Ev (fun k => subframe_begin.l0 k block depth 0 false l (p : Int) 0 1 w 0 0 0 false 0) (1, w, 0, 0, 0, [], false, 0, [], 0, 0, (p : Int), 0) := by
  refine Ev.step (fun k => subframe_begin.l0.eq_2 ..) ?_
  refine Ev.congr (f := fun k => subframe_begin.j2 k block depth 0 false l (p : Int) 0 1 w 0 0 0 false 0) (fun k => by rw [if_neg (by simp)]) ?_
  refine Ev.step (fun k => subframe_begin.j2.eq_2 ..) ?_
  refine Ev.congr (f := fun _ => some (1, w, 0, 0, 0, [], false, 0, [], 0, 0, (p : Int), 0)) (fun k => ?_) (Ev.now _)
  rw [if_neg (by simp)]
  simp only [bits_Reader_Fail.f, Option.bind_some]
  rw [if_pos trivial, if_neg (by omega)]
theorem begin_loop (l : List Int) (hb : ∀ x ∈ l, 0 ≤ x ∧ x ≤ 255) (hl : l.length ≤ 100000000) (block depth : Int) (h1 : 1 ≤ block) (wst p : Nat) (hw : (wst : Int) < depth) (hd : depth ≤ 33) (h : p + wst ≤ 8 * l.length)
    (hv : ∀ j, j < wst → bitsN l (p + j) 1 = if j + 1 = wst then 1 else 0) (d : Nat) : ∀ (w : Nat), w + d + 1 = wst →
    Ev (fun k => subframe_begin.l0 k block depth 0 true l ((p + w : Nat) : Int) 0 1 (w : Int) 0 0 0 false 0) (1, (wst : Int), 0, 0, 0, [], false, 0, [], 0, 0, ((p + wst : Nat) : Int), 0) := by
  induction d with
  | zero =>
    intro w hwd
    have hbit := hv w (by omega)
    rw [if_pos (by omega)] at hbit
    refine Ev.step (fun k => subframe_begin.l0.eq_2 ..) ?_
    refine Ev.congr (f := fun k => subframe_begin.j2 k block depth 0 true l ((p + w : Nat) : Int) 0 1 (w : Int) 0 0 0 false 0) (fun k => by rw [if_pos rfl]; rfl) ?_
    refine Ev.step (fun k => subframe_begin.j2.eq_2 ..) ?_
    have e2 : wrap64 ((w : Int) + 1) = ((w + 1 : Nat) : Int) := by unfold wrap64; omega
    refine Ev.congr (f := fun k => subframe_begin.l0 k block depth 0 false l ((p + wst : Nat) : Int) 0 1 (wst : Int) 0 0 0 false 0) (fun k => ?_) (begin_end l block depth h1 (p + wst) (wst : Int))
    rw [if_pos rfl, e2, if_neg (by omega)]
    have ht := take_some k l hb hl (p + w) 1 (by omega) (by omega)
    rw [show bigN l / 2 ^ (8 * l.length - (p + w) - 1) % 2 ^ 1 = 1 from hbit] at ht
    rw [show ((1 : Nat) : Int) = 1 from rfl] at ht
    rw [ht, Option.bind_some, show w + 1 = wst by omega, show p + w + 1 = p + wst by omega]
    rfl
  | succ d ih =>
    intro w hwd
    have hbit := hv w (by omega)
    rw [if_neg (by omega)] at hbit
    refine Ev.step (fun k => subframe_begin.l0.eq_2 ..) ?_
    refine Ev.congr (f := fun k => subframe_begin.j2 k block depth 0 true l ((p + w : Nat) : Int) 0 1 (w : Int) 0 0 0 false 0) (fun k => by rw [if_pos rfl]; rfl) ?_
    refine Ev.step (fun k => subframe_begin.j2.eq_2 ..) ?_
    have e2 : wrap64 ((w : Int) + 1) = ((w + 1 : Nat) : Int) := by unfold wrap64; omega
    refine Ev.congr (f := fun k => subframe_begin.l0 k block depth 0 true l ((p + (w + 1) : Nat) : Int) 0 1 ((w + 1 : Nat) : Int) 0 0 0 false 0) (fun k => ?_) (ih (w + 1) (by omega))
    rw [if_pos rfl, e2, if_neg (by omega)]
    have ht := take_some k l hb hl (p + w) 1 (by omega) (by omega)
    rw [show bigN l / 2 ^ (8 * l.length - (p + w) - 1) % 2 ^ 1 = 0 from hbit] at ht
    rw [show ((1 : Nat) : Int) = 1 from rfl] at ht
    rw [ht, Option.bind_some]
    rfl
theorem take_bits (k : Nat) (l : List Int) (hb : ∀ x ∈ l, 0 ≤ x ∧ x ≤ 255) (hl : l.length ≤ 100000000) (a n v : Nat) (ni : Int) (b : Nat) (h : a + n ≤ 8 * l.length) (hn : n ≤ 64) (hv : bitsN l a n = v) (hni : ni = (n : Int)) (hab : b = a + n) :
    bits_Reader_Take.f k l (a : Int) 0 ni = some ((v : Int), (b : Int), 0) := by
  subst hni hab hv
  exact take_some k l hb hl a n h hn
set_option maxRecDepth 100000 in
theorem begin_main (l : List Int) (hb : ∀ x ∈ l, 0 ≤ x ∧ x ≤ 255) (hl : l.length ≤ 100000000) (block depth : Int) (h1 : 1 ≤ block) (wst a : Nat) (hw : (wst : Int) < depth) (hd : depth ≤ 33) (h : a + 8 + wst ≤ 8 * l.length)
    (h0 : bitsN l a 1 = 0) (h6 : bitsN l (a + 1) 6 = 1) (hf : bitsN l (a + 7) 1 = if wst = 0 then 0 else 1) (hv : ∀ j, j < wst → bitsN l (a + 8 + j) 1 = if j + 1 = wst then 1 else 0) :
    Ev (fun k => subframe_begin.l0 k block depth 0 (((bitsN l (a + 7) 1 : Nat) : Int) == 1) l ((a + 8 : Nat) : Int) 0 1 0 0 0 0 false 0) (1, (wst : Int), 0, 0, 0, [], false, 0, [], 0, 0, ((a + 8 + wst : Nat) : Int), 0) := by
  by_cases z : wst = 0
  · subst z
    rw [hf, if_pos rfl]
    exact begin_end l block depth h1 (a + 8) 0
  · rw [hf, if_neg z]
    exact begin_loop l hb hl block depth h1 wst (a + 8) hw hd h hv (wst - 1) 0 (by omega)
theorem wrap_one : wrap64 ((1 : Nat) : Int) = 1 := by unfold wrap64; omega
theorem kind_one (k : Nat) : subframe_kind.f k (wrap64 ((1 : Nat) : Int)) = some (1, 0, 0) := by
  rw [wrap_one]
  unfold subframe_kind.f
  exact if_pos (by decide)
theorem begin_j0 (l : List Int) (hb : ∀ x ∈ l, 0 ≤ x ∧ x ≤ 255) (hl : l.length ≤ 100000000) (block depth : Int) (h1 : 1 ≤ block) (wst a : Nat) (hw : (wst : Int) < depth) (hd : depth ≤ 33) (h : a + 8 + wst ≤ 8 * l.length)
    (h0 : bitsN l a 1 = 0) (h6 : bitsN l (a + 1) 6 = 1) (hf : bitsN l (a + 7) 1 = if wst = 0 then 0 else 1) (hv : ∀ j, j < wst → bitsN l (a + 8 + j) 1 = if j + 1 = wst then 1 else 0) :
    Ev (fun k => subframe_begin.j0 k block depth false l ((a + 1 : Nat) : Int) 0 0 0 0 0 0 false 0) (1, (wst : Int), 0, 0, 0, [], false, 0, [], 0, 0, ((a + 8 + wst : Nat) : Int), 0) := by
  have hm := begin_main l hb hl block depth h1 wst a hw hd h h0 h6 hf hv
  refine Ev.step (fun k => subframe_begin.j0.eq_2 ..) ?_
  refine evF (by simp) ?_
  refine evB (g := fun k => bits_Reader_Take.f k l ((a + 1 : Nat) : Int) 0 6) ⟨0, fun k _ => take_bits k l hb hl (a + 1) 6 1 6 (a + 7) (by omega) (by omega) h6 rfl (by omega)⟩ ?_
  refine evC (a := (0, ((a + 7 : Nat) : Int), 0)) rfl ?_
  refine evT rfl ?_
  refine evB ⟨0, fun k _ => kind_one k⟩ ?_
  refine evT rfl ?_
  refine evB (g := fun k => bits_Reader_Take.f k l ((a + 7 : Nat) : Int) 0 1) ⟨0, fun k _ => take_bits k l hb hl (a + 7) 1 _ 1 (a + 8) (by omega) (by omega) rfl rfl (by omega)⟩ ?_
  exact hm
theorem begin_all (l : List Int) (hb : ∀ x ∈ l, 0 ≤ x ∧ x ≤ 255) (hl : l.length ≤ 100000000) (block depth : Int) (h1 : 1 ≤ block) (wst a : Nat) (hw : (wst : Int) < depth) (hd : depth ≤ 33) (h : a + 8 + wst ≤ 8 * l.length)
    (h0 : bitsN l a 1 = 0) (h6 : bitsN l (a + 1) 6 = 1) (hf : bitsN l (a + 7) 1 = if wst = 0 then 0 else 1) (hv : ∀ j, j < wst → bitsN l (a + 8 + j) 1 = if j + 1 = wst then 1 else 0) :
    Ev (fun k => subframe_begin.f k l (a : Int) 0 block depth) (1, (wst : Int), 0, 0, 0, [], false, 0, [], 0, 0, ((a + 8 + wst : Nat) : Int), 0) := by
  have hj := begin_j0 l hb hl block depth h1 wst a hw hd h h0 h6 hf hv
  unfold subframe_begin.f
  refine evB (g := fun k => bits_Reader_Take.f k l (a : Int) 0 1) ⟨0, fun k _ => take_bits k l hb hl a 1 0 1 (a + 1) (by omega) (by omega) h0 rfl (by omega)⟩ ?_
  refine evC (a := (0, ((a + 1 : Nat) : Int), 0)) rfl ?_
  refine evT rfl ?_
  exact hj
end Go.Proofs.Ytpeejdmbnlhjmaa.FWaste
