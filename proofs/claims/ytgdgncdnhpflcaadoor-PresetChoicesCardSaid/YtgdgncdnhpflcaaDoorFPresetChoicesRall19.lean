import Derived.Test.YtgdgncdnhpflcaaDoorPPresetChoicesx10
import Derived.Test.YtgdgncdnhpflcaaDoorLEv
import Derived.Test.YtgdgncdnhpflcaaDoorLPol
import Derived.Test.YtgdgncdnhpflcaaDoorLPolAll
import Derived.Test.YtgdgncdnhpflcaaDoorFPresetChoicesPall
namespace Go.Proofs.YtgdgncdnhpflcaaDoor.FPresetChoices
open Go.RowKit Go.Proofs.YtgdgncdnhpflcaaDoorW.PrintWords Go.Proofs.YtgdgncdnhpflcaaDoorW.PrintLast Go.Proofs.YtgdgncdnhpflcaaDoor.PPresetChoices Go.Proofs.YtgdgncdnhpflcaaDoor.L
set_option linter.unusedVariables false
set_option linter.unusedSimpArgs false
section
variable (B : Int) (St : Bool) (F L : Int) (P S : List Int) (C : Int) (W : Bool) (n : Int)
theorem rall_l3 (hP : P.length ≤ 4) (i : Nat) (hi : i < S.length) (o : Int) (R : List S35) (d : Nat) : ∀ (j : Nat) (acc : List S35), j + d = P.length → acc.length + d ≤ 100000 →
    Ev (fun k => serinetteref19_All.l2 k n (acc ++ (P.drop j).map (fun p => (⟨3, o, S[i], p⟩ : S35))) (i : Int) (wrap64 (o + 1)) B St F L P S C W) R →
    Ev (fun k => serinetteref19_All.l3 k n acc (i : Int) o (j : Int) B St F L P S C W) R := by
  induction d with
  | zero =>
    intro j acc hj ha h
    rw [List.drop_eq_nil_of_le (by omega), List.map_nil, List.append_nil] at h
    exact Ev.step (fun k => serinetteref19_All.l3.eq_2 ..) (evF (by omega) h)
  | succ d ih =>
    intro j acc hj ha h
    have hlt : j < P.length := by omega
    refine Ev.step (fun k => serinetteref19_All.l3.eq_2 ..) (evT (by omega) (evT (by omega) (evT (by omega) (evT (by omega) (evT (by omega) ?_)))))
    rw [rd_nat S i hi, rd_nat P j hlt, wr _ (by omega)]
    refine ih (j + 1) _ (by omega) (by simp; omega) ?_
    rw [drop_cons_rd P j hlt, List.map_cons] at h
    rw [List.append_assoc]
    exact h
theorem rall_l2 (hP : P.length ≤ 4) (hL : L ≤ 32) (i : Nat) (hi : i < S.length) (R : List S35) (d : Nat) : ∀ (o : Nat) (acc : List S35), o + d = (odn L n).toNat → acc.length + 4 * d ≤ 90000 →
    Ev (fun k => serinetteref19_All.l1 k n (acc ++ (List.range d).flatMap (fun x : Nat => P.map (fun p => (⟨3, 1 + ((o + x : Nat) : Int), S[i], p⟩ : S35)))) (wrap64 ((i : Int) + 1)) B St F L P S C W) R →
    Ev (fun k => serinetteref19_All.l2 k n acc (i : Int) (1 + (o : Int)) B St F L P S C W) R := by
  have hod : odn L n = max 0 (min L (n - 1)) := rfl
  induction d with
  | zero =>
    intro o acc ho ha h
    simp only [List.range_zero, List.flatMap_nil, List.append_nil] at h
    refine Ev.step (fun k => serinetteref19_All.l2.eq_2 ..) ?_
    have stop : Ev (fun k => serinetteref19_All.j4 k n acc (i : Int) (1 + (o : Int)) false B St F L P S C W) R := Ev.step (fun k => serinetteref19_All.j4.eq_2 ..) (evF (by simp) h)
    refine evIte (fun h1 => ?_) (fun h1 => stop)
    rw [decide_eq_false (by omega)]
    exact stop
  | succ d ih =>
    intro o acc ho ha h
    refine Ev.step (fun k => serinetteref19_All.l2.eq_2 ..) (evT (by omega) ?_)
    rw [decide_eq_true (by omega)]
    refine Ev.step (fun k => serinetteref19_All.j4.eq_2 ..) (evT rfl ?_)
    refine rall_l3 B St F L P S C W n hP i hi (1 + (o : Int)) R P.length 0 acc (by omega) (by omega) ?_
    rw [wr _ (by omega), show 1 + (o : Int) + 1 = 1 + ((o + 1 : Nat) : Int) by omega, List.drop_zero]
    refine ih (o + 1) _ (by omega) (by simp; omega) ?_
    rw [List.range_succ_eq_map, List.flatMap_cons, List.flatMap_map, ← List.append_assoc] at h
    simp only [Nat.add_zero] at h
    refine Ev.congr (fun k => ?_) h
    congr 2
    congr 1
    funext x
    rw [show o + 1 + x = o + x.succ by omega]
theorem rall_l1 (hP : P.length ≤ 4) (hL : L ≤ 32) (hS : S.length ≤ 3) (d : Nat) : ∀ (i : Nat) (acc : List S35), i + d = S.length → acc.length + 128 * d ≤ 80000 →
    Ev (fun k => serinetteref19_All.l1 k n acc (i : Int) B St F L P S C W) (acc ++ (S.drop i).flatMap (fun s => (List.range (odn L n).toNat).flatMap (fun x : Nat => P.map (fun p => (⟨3, 1 + (x : Int), s, p⟩ : S35))))) := by
  have hod : odn L n = max 0 (min L (n - 1)) := rfl
  have hlen : ∀ (s : Int) (m : Nat), ((List.range m).flatMap (fun x : Nat => P.map (fun p => (⟨3, 1 + (x : Int), s, p⟩ : S35)))).length ≤ 4 * m := by
    intro s m
    induction m with
    | zero => simp
    | succ m ih => rw [List.range_succ, List.flatMap_append, List.length_append, List.flatMap_singleton, List.length_map]; omega
  induction d with
  | zero =>
    intro i acc hi ha
    rw [List.drop_eq_nil_of_le (by omega), List.flatMap_nil, List.append_nil]
    exact Ev.step (fun k => serinetteref19_All.l1.eq_2 ..) (evF (by omega) (Ev.now _))
  | succ d ih =>
    intro i acc hi ha
    have hlt : i < S.length := by omega
    refine Ev.step (fun k => serinetteref19_All.l1.eq_2 ..) (evT (by omega) ?_)
    refine rall_l2 B St F L P S C W n hP hL i hlt _ (odn L n).toNat 0 acc (by omega) (by omega) ?_
    rw [wr _ (by omega)]
    simp only [Nat.zero_add]
    have := hlen S[i] (odn L n).toNat
    refine evR (ih (i + 1) _ (by omega) (by rw [List.length_append]; omega)) ?_
    rw [drop_cons_rd S i hlt, List.flatMap_cons, List.append_assoc]
theorem rall_l0 (hP : P.length ≤ 4) (hL : L ≤ 32) (hS : S.length ≤ 3) (hF : F ≤ 4) (d : Nat) : ∀ (i : Nat) (acc : List S35), i + d = (fxn F n).toNat → acc.length + d ≤ 1000 →
    Ev (fun k => serinetteref19_All.l0 k n acc (i : Int) B St F L P S C W) (acc ++ (List.range d).map (fun x : Nat => (⟨2, ((i + x : Nat) : Int), 0, 0⟩ : S35)) ++ S.flatMap (fun s => (List.range (odn L n).toNat).flatMap (fun x : Nat => P.map (fun p => (⟨3, 1 + (x : Int), s, p⟩ : S35))))) := by
  have hfx : fxn F n = max 0 (min (F + 1) n) := rfl
  induction d with
  | zero =>
    intro i acc hi ha
    simp only [List.range_zero, List.map_nil, List.append_nil]
    have stop : Ev (fun k => serinetteref19_All.j1 k n acc B St F L P S C W) (acc ++ S.flatMap (fun s => (List.range (odn L n).toNat).flatMap (fun x : Nat => P.map (fun p => (⟨3, 1 + (x : Int), s, p⟩ : S35))))) :=
      Ev.step (fun k => serinetteref19_All.j1.eq_2 ..) (rall_l1 B St F L P S C W n hP hL hS S.length 0 acc (by omega) (by omega))
    refine Ev.step (fun k => serinetteref19_All.l0.eq_2 ..) (evIte (fun h1 => evF (by omega) stop) (fun h1 => stop))
  | succ d ih =>
    intro i acc hi ha
    refine Ev.step (fun k => serinetteref19_All.l0.eq_2 ..) (evT (by omega) (evT (by omega) (evT (by omega) ?_)))
    rw [wr _ (by omega)]
    refine evR (ih (i + 1) _ (by omega) (by simp; omega)) ?_
    have e : (fun x : Nat => (⟨2, ((i + 1 + x : Nat) : Int), 0, 0⟩ : S35)) = ((fun x : Nat => (⟨2, ((i + x : Nat) : Int), 0, 0⟩ : S35)) ∘ Nat.succ) := funext (fun x => by
      simp only [Function.comp_apply]
      rw [show i + 1 + x = i + x.succ by omega])
    rw [List.range_succ_eq_map, List.map_cons, List.map_map, e]
    simp only [Nat.add_zero, List.append_assoc, List.singleton_append, List.cons_append, List.nil_append]
theorem rall_ev {C' : Int} (pol : Pol B F L P S C') : Ev (fun k => serinetteref19_All.f k B St F L P S C W n) ((allT F L P S n).map mk35) := by
  unfold serinetteref19_All.f allT
  refine evIte (fun h => ?_) (fun h => ?_)
  · rw [if_pos h]; exact Ev.now _
  · rw [if_neg h]
    have hf := pol.fix
    have hfx : fxn F n = max 0 (min (F + 1) n) := rfl
    refine evR (rall_l0 B St F L P S C W n pol.npre pol.lpc.2 pol.nsha pol.fix.2 (fxn F n).toNat 0 _ (by omega) (by simp; omega)) ?_
    unfold lins
    simp only [Nat.zero_add, List.map_append, List.map_map, List.map_flatMap, List.map_cons, List.map_nil]
    rfl
end
end Go.Proofs.YtgdgncdnhpflcaaDoor.FPresetChoices
