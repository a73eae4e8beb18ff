import Derived.Test.YtpeejdmbnlhjmaaWMore
import Derived.Test.YtpeejdmbnlhjmaaWLast
import Derived.ChangeArms
import Derived.WideShapes
import Derived.ChangeSlices
import Derived.SliceStrings
namespace Go.Proofs.Ytpeejdmbnlhjmaa.R
open Go.ChangeShapes Go.WideShapes Go.RowKit Go.Proofs.YtpeejdmbnlhjmaaW.PrintWords Go.Proofs.YtpeejdmbnlhjmaaW.PrintLast
section
variable {H : Type} {enc : TypeId × Value → H} {P : Program} {w : World} {base : Nat} {spare : Nat → Bool} {held : Bool}
theorem agg_cells {r : Reach} {b0 : Nat} {t : TypeId} {fs : Array Field} {v : Value} {n : Nat} (hs : P.underlying t = some (.struct fs)) (hC : P.cellsOf t = n) (hv : Value.okWide P w r b0 t v) : ∃ l : List Value, v = .agg ⟨l⟩ ∧ l.length = n := by
  obtain ⟨cs, rfl, hsz⟩ := okWide_struct hs hv
  exact ⟨cs.toList, rfl, by simpa using hsz.trans hC⟩
theorem trod_fields {t : TypeId} {fs : Array Field} {fuel : Nat} {cs : List Value} {x : DataW H × List MemPlace} (ht : P.underlying t = some (.struct fs)) (h : DataW.trod enc P w base spare held fuel t cs = some x) :
    ∃ n, ∀ (i : Nat) (f : Field), fs[i]? = some f → ∃ y, DataW.trod enc P w base spare held n f.type ((cs.drop f.offset).take (P.cellsOf f.type)) = some y := by
  obtain ⟨xs, n, _, _, _, hl, hf⟩ := DataW.trod_struct ht h
  refine ⟨n, fun i f hi => ?_⟩
  have hlt : i < fs.size := by
    rcases Nat.lt_or_ge i fs.size with h | h
    · exact h
    · rw [Array.getElem?_eq_none h] at hi; cases hi
  exact ⟨xs[i]'(by omega), by rw [hf i f hi, List.getElem?_eq_getElem (by omega)]⟩
theorem trod_field {fs : Array Field} {n : Nat} {cs : List Value} (hx : ∀ (i : Nat) (f : Field), fs[i]? = some f → ∃ y, DataW.trod enc P w base spare held n f.type ((cs.drop f.offset).take (P.cellsOf f.type)) = some y)
    (j o m : Nat) (ty : TypeId) {f : Field} (hj : fs[j]? = some f) (ho : f.offset = o) (hty : f.type = ty) (hm : P.cellsOf ty = m) (cs' : List Value) (hcs : (cs.drop o).take m = cs') : ∃ y, DataW.trod enc P w base spare held n ty cs' = some y := by
  subst ho hty hm hcs
  exact hx j f hj
theorem row_of_trod {t e : TypeId} {k : IntKind} {fuel : Nat} {cs : List Value} {y : DataW H × List MemPlace} (ht : P.underlying t = some (.slice e)) (he : P.underlying e = some (.int k)) (hc : P.cellsOf e = 1)
    (h : DataW.trod enc P w base (fun _ => true) held fuel t cs = some y) :
    ∃ (l : List Int) (A : Option Addr) (c : Nat), cs = [.slice A l.length c] ∧ Kd.C (Kd.int k) w A l.length l ∧ l.length ≤ c ∧ l.length ≤ maxLen ∧ ∀ x ∈ l, (Lit.int k x).wf = true := by
  rcases open_ints ht he hc h with ⟨hcs, _⟩ | ⟨x, l, c, zs, hcs, _, hl, hm, hz, _, hcell, hwz⟩
  · obtain ⟨l, h1, h2, h3, h4, h5⟩ := ReadsInt.ofRowC (w := w) (k := k) (a := none) (len := 0) (cap := 0) (zs := []) (.inl ⟨rfl, rfl, rfl, rfl⟩)
    exact ⟨l, none, 0, by rw [hcs, ← h1], Kd.C_of_reads (d := (0 : Int)) (h1 := fun _ => rfl) h2, h5, h3, h4⟩
  · obtain ⟨z, h1, h2, h3, h4, h5⟩ := ReadsInt.ofRowC (w := w) (k := k) (a := some x) (len := l) (cap := c) (zs := zs) (.inr ⟨_, rfl, hl, hm, by simpa using hz, hcell, hwz⟩)
    exact ⟨z, some x, c, by rw [hcs, ← h1], Kd.C_of_reads (d := (0 : Int)) (h1 := fun _ => rfl) h2, h5, h3, h4⟩
theorem rowstr_of_trod {t e : TypeId} {fuel : Nat} {cs : List Value} {y : DataW H × List MemPlace} (ht : P.underlying t = some (.slice e)) (he : P.underlying e = some .string) (hc : P.cellsOf e = 1)
    (h : DataW.trod enc P w base (fun _ => true) held fuel t cs = some y) :
    ∃ (l : List ByteArray) (A : Option Addr) (c : Nat), cs = [.slice A l.length c] ∧ Kd.C Kd.string w A l.length l ∧ l.length ≤ c ∧ l.length ≤ maxLen ∧ ∀ x ∈ l, x.size ≤ maxLen := by
  rcases Go.ChangeShapes.open_strings ht he hc h with ⟨hcs, _⟩ | ⟨a, len, cap, ss, hcs, _, hl, hm, hlen, _, hcell, hw⟩
  · exact ⟨[], none, 0, by rw [hcs]; rfl, Kd.C_of_reads (d := ByteArray.empty) (h1 := fun _ => rfl) ⟨rfl, by simp, by simp⟩, by simp, by simp, by simp⟩
  · have hls : ss.length = cap := by simpa using hlen
    have h2 : (ss.take len).length = len := by rw [List.length_take]; omega
    have hmx : maxLen = 9223372036854775807 := by decide
    refine ⟨ss.take len, some a, cap, by rw [hcs, h2], Kd.C_of_reads (d := ByteArray.empty) (h1 := fun _ => rfl) ⟨rfl, by omega, fun _ => ⟨a, rfl, fun j hj => ?_⟩⟩, by omega, by omega, fun x hx => hw x (List.mem_of_mem_take hx)⟩
    have hj' : j < len := by omega
    rw [hcell j (by omega)]
    simp [List.getD_eq_getElem?_getD, hj']
end

end Go.Proofs.Ytpeejdmbnlhjmaa.R
