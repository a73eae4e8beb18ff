import Derived.Test.YtpeejdmbnlhjmaaWMore
import Derived.Test.YtpeejdmbnlhjmaaWLast
import Derived.Deep.SlicePairs
import Derived.ChangeArms
import Derived.WideShapes
import Derived.ChangeSlices
import Derived.SliceStrings
namespace Go.Proofs.Ytpeejdmbnlhjmaa.R
open Go.ChangeShapes Go.WideShapes Go.RowKit Go.Proofs.YtpeejdmbnlhjmaaW.PrintWords Go.Proofs.YtpeejdmbnlhjmaaW.PrintLast
section
variable {H : Type} {enc : TypeId × Value → H} {P : Program} {w : World} {base : Nat} {spare : Nat → Bool} {held : Bool}
theorem agg_cells {r : Reach} {b0 : Nat} {t : TypeId} {fs : Array Field} {v : Value} {n : Nat} (hs : P.underlying t = some (.struct fs)) (hC : P.cellsOf t = n) (hv : Value.okWide P w r b0 t v) : ∃ l : List Value, v = .agg ⟨l⟩ ∧ l.length = n := by
  obtain ⟨cs, rfl, hsz⟩ := okWide_struct hs hv
  exact ⟨cs.toList, rfl, by simpa using hsz.trans hC⟩
theorem trod_fields {t : TypeId} {fs : Array Field} {fuel : Nat} {cs : List Value} {x : DataW H × List MemPlace} (ht : P.underlying t = some (.struct fs)) (h : DataW.trod enc P w base spare held fuel t cs = some x) :
    ∃ n, ∀ (i : Nat) (f : Field), fs[i]? = some f → ∃ y, DataW.trod enc P w base spare held n f.type ((cs.drop f.offset).take (P.cellsOf f.type)) = some y := by
  obtain ⟨xs, n, _, _, _, hl, hf⟩ := DataW.trod_struct ht h
  refine ⟨n, fun i f hi => ?_⟩
  have hlt : i < fs.size := by
    rcases Nat.lt_or_ge i fs.size with h | h
    · exact h
    · rw [Array.getElem?_eq_none h] at hi; cases hi
  exact ⟨xs[i]'(by omega), by rw [hf i f hi, List.getElem?_eq_getElem (by omega)]⟩
theorem trod_field {fs : Array Field} {n : Nat} {cs : List Value} (hx : ∀ (i : Nat) (f : Field), fs[i]? = some f → ∃ y, DataW.trod enc P w base spare held n f.type ((cs.drop f.offset).take (P.cellsOf f.type)) = some y)
    (j o m : Nat) (ty : TypeId) {f : Field} (hj : fs[j]? = some f) (ho : f.offset = o) (hty : f.type = ty) (hm : P.cellsOf ty = m) (cs' : List Value) (hcs : (cs.drop o).take m = cs') : ∃ y, DataW.trod enc P w base spare held n ty cs' = some y := by
  subst ho hty hm hcs
  exact hx j f hj
theorem row_of_trod {t e : TypeId} {k : IntKind} {fuel : Nat} {cs : List Value} {y : DataW H × List MemPlace} (ht : P.underlying t = some (.slice e)) (he : P.underlying e = some (.int k)) (hc : P.cellsOf e = 1)
    (h : DataW.trod enc P w base (fun _ => true) held fuel t cs = some y) :
    ∃ (l : List Int) (A : Option Addr) (c : Nat), cs = [.slice A l.length c] ∧ Kd.C (Kd.int k) w A l.length l ∧ l.length ≤ c ∧ l.length ≤ maxLen ∧ ∀ x ∈ l, (Lit.int k x).wf = true := by
  rcases open_ints ht he hc h with ⟨hcs, _⟩ | ⟨x, l, c, zs, hcs, _, hl, hm, hz, _, hcell, hwz⟩
  · obtain ⟨l, h1, h2, h3, h4, h5⟩ := ReadsInt.ofRowC (w := w) (k := k) (a := none) (len := 0) (cap := 0) (zs := []) (.inl ⟨rfl, rfl, rfl, rfl⟩)
    exact ⟨l, none, 0, by rw [hcs, ← h1], Kd.C_of_reads (d := (0 : Int)) (h1 := fun _ => rfl) h2, h5, h3, h4⟩
  · obtain ⟨z, h1, h2, h3, h4, h5⟩ := ReadsInt.ofRowC (w := w) (k := k) (a := some x) (len := l) (cap := c) (zs := zs) (.inr ⟨_, rfl, hl, hm, by simpa using hz, hcell, hwz⟩)
    exact ⟨z, some x, c, by rw [hcs, ← h1], Kd.C_of_reads (d := (0 : Int)) (h1 := fun _ => rfl) h2, h5, h3, h4⟩
theorem rowstr_of_trod {t e : TypeId} {fuel : Nat} {cs : List Value} {y : DataW H × List MemPlace} (ht : P.underlying t = some (.slice e)) (he : P.underlying e = some .string) (hc : P.cellsOf e = 1)
    (h : DataW.trod enc P w base (fun _ => true) held fuel t cs = some y) :
    ∃ (l : List ByteArray) (A : Option Addr) (c : Nat), cs = [.slice A l.length c] ∧ Kd.C Kd.string w A l.length l ∧ l.length ≤ c ∧ l.length ≤ maxLen ∧ ∀ x ∈ l, x.size ≤ maxLen := by
  rcases Go.ChangeShapes.open_strings ht he hc h with ⟨hcs, _⟩ | ⟨a, len, cap, ss, hcs, _, hl, hm, hlen, _, hcell, hw⟩
  · exact ⟨[], none, 0, by rw [hcs]; rfl, Kd.C_of_reads (d := ByteArray.empty) (h1 := fun _ => rfl) ⟨rfl, by simp, by simp⟩, by simp, by simp, by simp⟩
  · have hls : ss.length = cap := by simpa using hlen
    have h2 : (ss.take len).length = len := by rw [List.length_take]; omega
    have hmx : maxLen = 9223372036854775807 := by decide
    refine ⟨ss.take len, some a, cap, by rw [hcs, h2], Kd.C_of_reads (d := ByteArray.empty) (h1 := fun _ => rfl) ⟨rfl, by omega, fun _ => ⟨a, rfl, fun j hj => ?_⟩⟩, by omega, by omega, fun x hx => hw x (List.mem_of_mem_take hx)⟩
    have hj' : j < len := by omega
    rw [hcell j (by omega)]
    simp [List.getD_eq_getElem?_getD, hj']
end

section
variable {H : Type} {enc : TypeId × Value → H} {P : Program} {w : World} {base : Nat} {held : Bool}
/-- A row of structs of a whole number and a row of bytes. -/
theorem rowpair_of_trod {β : Type} (mk : Int × List Int → β) (f : β → Int × List Int) (hmk : ∀ p, f (mk p) = p) {t e eb : TypeId} {f0 f1 : Field} {k : IntKind} {fuel q : Nat} {cs : List Value} {x : DataW H × List MemPlace}
    (ht : P.underlying t = some (.slice e)) (he : P.underlying e = some (.struct #[f0, f1])) (ce : P.cellsOf e = 2) (o0 : f0.offset = 0) (o1 : f1.offset = 1) (c0 : P.cellsOf f0.type = 1) (c1 : P.cellsOf f1.type = 1)
    (h0 : P.underlying f0.type = some (.int k)) (h1 : P.underlying f1.type = some (.slice eb)) (hb : P.underlying eb = some (.int .u8)) (hcb : P.cellsOf eb = 1)
    (h : DataW.trod enc P w base (fun _ => true) held fuel t cs = some x) :
    ∃ (l : List β) (A : Option Addr) (c : Nat), cs = [.slice A l.length c] ∧ Kd.C (Kd.iso (Kd.pair (Kd.int k) (Kd.slice q (Kd.int .u8))) f) w A l.length l ∧ l.length ≤ c ∧ l.length ≤ maxLen ∧
      ∀ y ∈ l, (Lit.int k (f y).1).wf = true ∧ (f y).2.length ≤ maxLen ∧ ∀ z ∈ (f y).2, (Lit.int .u8 z).wf = true := by
  rcases Go.Deep.open_slice_pairs ht he ce o0 o1 c0 c1 h with ⟨hcs, _⟩ | ⟨a, len, cap, m, n, V0, V1, D0, D1, P0, P1, hcs, _, hl, hm, hmm, _, hx⟩
  · exact ⟨[], none, 0, hcs, Kd.C_nil _ _, by simp, by simp, by simp⟩
  · have hlm : len ≤ m := by rw [hmm]; split <;> omega
    have each : ∀ i : Fin len, ∃ p : Int × List Int, (Kd.pair (Kd.int k) (Kd.slice q (Kd.int .u8))).K w p [V0 i, V1 i] ∧ ((Lit.int k p.1).wf = true ∧ p.2.length ≤ maxLen ∧ ∀ z ∈ p.2, (Lit.int .u8 z).wf = true) := by
      intro i
      obtain ⟨_, _, e0, e1⟩ := hx i (by have := i.isLt; omega)
      obtain ⟨z, hz, _, hwz⟩ := DataW.trod_int h0 e0
      obtain ⟨l1, A1, c1', hq, hr, hc, hm1, hw1⟩ := row_of_trod h1 hb hcb e1
      have g0 := (List.cons.inj hz).1
      have g1 := (List.cons.inj hq).1
      exact ⟨(z, l1), ⟨[V0 i], [V1 i], rfl, by rw [g0]; rfl, A1, c1', by rw [g1], hc, hr⟩, hwz, hm1, hw1⟩
    obtain ⟨g, hg⟩ := Classical.axiomOfChoice each
    have hlen : (List.ofFn fun i => mk (g i)).length = len := List.length_ofFn
    have hmx : maxLen = 9223372036854775807 := by decide
    refine ⟨List.ofFn fun i => mk (g i), some a, cap, by rw [hcs, hlen], ⟨rfl, by rw [hlen]; omega, fun _ => ⟨a, rfl, fun j p hj => ?_⟩⟩, by rw [hlen]; exact hl, by rw [hlen]; omega, ?_⟩
    · obtain ⟨hj1, hj2⟩ := List.getElem?_eq_some_iff.1 hj
      rw [hlen] at hj1
      rw [List.getElem_ofFn] at hj2
      subst hj2
      obtain ⟨x0, x1, _, _⟩ := hx j (by omega)
      refine ⟨[V0 j, V1 j], rfl, ?_, ?_⟩
      · show (Kd.pair (Kd.int k) (Kd.slice q (Kd.int .u8))).K w (f (mk (g ⟨j, hj1⟩))) _
        rw [hmk]
        exact (hg ⟨j, hj1⟩).1
      · intro i u hu
        match i, hu with
        | 0, hu => cases hu; exact x0
        | 1, hu => cases hu; exact x1
    · intro y hy
      obtain ⟨i, rfl⟩ := List.mem_ofFn.1 hy
      rw [hmk]
      exact (hg i).2
/-- A row of structs of a whole number and a bool. -/
theorem rowib_of_trod {β : Type} (mk : Int × Bool → β) (f : β → Int × Bool) (hmk : ∀ p, f (mk p) = p) {t e : TypeId} {f0 f1 : Field} {k : IntKind} {fuel : Nat} {cs : List Value} {x : DataW H × List MemPlace}
    (ht : P.underlying t = some (.slice e)) (he : P.underlying e = some (.struct #[f0, f1])) (ce : P.cellsOf e = 2) (o0 : f0.offset = 0) (o1 : f1.offset = 1) (c0 : P.cellsOf f0.type = 1) (c1 : P.cellsOf f1.type = 1)
    (h0 : P.underlying f0.type = some (.int k)) (h1 : P.underlying f1.type = some .bool)
    (h : DataW.trod enc P w base (fun _ => true) held fuel t cs = some x) :
    ∃ (l : List β) (A : Option Addr) (c : Nat), cs = [.slice A l.length c] ∧ Kd.C (Kd.iso (Kd.pair (Kd.int k) Kd.bool) f) w A l.length l ∧ l.length ≤ c ∧ l.length ≤ maxLen ∧ ∀ y ∈ l, (Lit.int k (f y).1).wf = true := by
  rcases Go.Deep.open_slice_pairs ht he ce o0 o1 c0 c1 h with ⟨hcs, _⟩ | ⟨a, len, cap, m, n, V0, V1, D0, D1, P0, P1, hcs, _, hl, hm, hmm, _, hx⟩
  · exact ⟨[], none, 0, hcs, Kd.C_nil _ _, by simp, by simp, by simp⟩
  · have hlm : len ≤ m := by rw [hmm]; split <;> omega
    have each : ∀ i : Fin len, ∃ p : Int × Bool, (Kd.pair (Kd.int k) Kd.bool).K w p [V0 i, V1 i] ∧ (Lit.int k p.1).wf = true := by
      intro i
      obtain ⟨_, _, e0, e1⟩ := hx i (by have := i.isLt; omega)
      obtain ⟨z, hz, _, hwz⟩ := DataW.trod_int h0 e0
      obtain ⟨b, hq, _⟩ := DataW.trod_bool h1 e1
      have g0 := (List.cons.inj hz).1
      have g1 := (List.cons.inj hq).1
      exact ⟨(z, b), ⟨[V0 i], [V1 i], rfl, by rw [g0]; rfl, by rw [g1]; rfl⟩, hwz⟩
    obtain ⟨g, hg⟩ := Classical.axiomOfChoice each
    have hlen : (List.ofFn fun i => mk (g i)).length = len := List.length_ofFn
    have hmx : maxLen = 9223372036854775807 := by decide
    refine ⟨List.ofFn fun i => mk (g i), some a, cap, by rw [hcs, hlen], ⟨rfl, by rw [hlen]; omega, fun _ => ⟨a, rfl, fun j p hj => ?_⟩⟩, by rw [hlen]; exact hl, by rw [hlen]; omega, ?_⟩
    · obtain ⟨hj1, hj2⟩ := List.getElem?_eq_some_iff.1 hj
      rw [hlen] at hj1
      rw [List.getElem_ofFn] at hj2
      subst hj2
      obtain ⟨x0, x1, _, _⟩ := hx j (by omega)
      refine ⟨[V0 j, V1 j], rfl, ?_, ?_⟩
      · show (Kd.pair (Kd.int k) Kd.bool).K w (f (mk (g ⟨j, hj1⟩))) _
        rw [hmk]
        exact (hg ⟨j, hj1⟩).1
      · intro i u hu
        match i, hu with
        | 0, hu => cases hu; exact x0
        | 1, hu => cases hu; exact x1
    · intro y hy
      obtain ⟨i, rfl⟩ := List.mem_ofFn.1 hy
      rw [hmk]
      exact (hg i).2
end

section
variable {H : Type} {enc : TypeId × Value → H} {P : Program} {w : World} {base : Nat} {held : Bool}
/-- A row of structs of three whole numbers and a bool. -/
theorem rowpoint_of_trod {β : Type} (mk : Int × Int × Int × Bool → β) (f : β → Int × Int × Int × Bool) (hmk : ∀ p, f (mk p) = p) {t e : TypeId} {f0 f1 f2 f3 : Field} {k : IntKind} {fuel : Nat} {cs : List Value} {x : DataW H × List MemPlace}
    (ht : P.underlying t = some (.slice e)) (he : P.underlying e = some (.struct #[f0, f1, f2, f3])) (ce : P.cellsOf e = 4) (o0 : f0.offset = 0) (o1 : f1.offset = 1) (o2 : f2.offset = 2) (o3 : f3.offset = 3)
    (c0 : P.cellsOf f0.type = 1) (c1 : P.cellsOf f1.type = 1) (c2 : P.cellsOf f2.type = 1) (c3 : P.cellsOf f3.type = 1)
    (h0 : P.underlying f0.type = some (.int k)) (h1 : P.underlying f1.type = some (.int k)) (h2 : P.underlying f2.type = some (.int k)) (h3 : P.underlying f3.type = some .bool)
    (h : DataW.trod enc P w base (fun _ => true) held fuel t cs = some x) :
    ∃ (l : List β) (A : Option Addr) (c : Nat), cs = [.slice A l.length c] ∧ Kd.C (Kd.iso (Kd.pair (Kd.int k) (Kd.pair (Kd.int k) (Kd.pair (Kd.int k) Kd.bool))) f) w A l.length l ∧ l.length ≤ c ∧ l.length ≤ maxLen ∧
      ∀ y ∈ l, (Lit.int k (f y).1).wf = true ∧ (Lit.int k (f y).2.1).wf = true ∧ (Lit.int k (f y).2.2.1).wf = true := by
  rcases Go.Deep.open_slice ht h with ⟨hcs, _⟩ | ⟨a, len, cap, m, n, D, Pl, rfl, _, hl, hm, hmm, _, hx⟩
  · exact ⟨[], none, 0, hcs, Kd.C_nil _ _, by simp, by simp, by simp⟩
  · have hlm : len ≤ m := by rw [hmm]; split <;> omega
    have each : ∀ i : Fin len, ∃ p : Int × Int × Int × Bool, (w.cell? (a.add (i.val * 4)) = some (.int k p.1) ∧ w.cell? (a.add (i.val * 4 + 1)) = some (.int k p.2.1) ∧ w.cell? (a.add (i.val * 4 + 2)) = some (.int k p.2.2.1) ∧ w.cell? (a.add (i.val * 4 + 3)) = some (.bool p.2.2.2)) ∧
        (Lit.int k p.1).wf = true ∧ (Lit.int k p.2.1).wf = true ∧ (Lit.int k p.2.2.1).wf = true := by
      intro i
      obtain ⟨cs', g1, g2⟩ := hx i (by have := i.isLt; omega)
      rw [ce] at g1
      obtain ⟨_, hlen, hcell⟩ := World.cells?_some g1
      obtain ⟨xs, _, _, _, _, hxl, hf⟩ := DataW.trod_struct he g2
      match xs, hxl, cs', hlen with
      | [y0, y1, y2, y3], _, [v0, v1, v2, v3], _ =>
        have t0 := hf 0 f0 rfl
        have t1 := hf 1 f1 rfl
        have t2 := hf 2 f2 rfl
        have t3 := hf 3 f3 rfl
        simp [o0, o1, o2, o3, c0, c1, c2, c3] at t0 t1 t2 t3
        have e0 := hcell 0 (by omega)
        have e1 := hcell 1 (by omega)
        have e2 := hcell 2 (by omega)
        have e3 := hcell 3 (by omega)
        rw [Go.Deep.add_add] at e0 e1 e2 e3
        obtain ⟨z0, q0, _, w0⟩ := DataW.trod_int h0 t0
        obtain ⟨z1, q1, _, w1⟩ := DataW.trod_int h1 t1
        obtain ⟨z2, q2, _, w2⟩ := DataW.trod_int h2 t2
        obtain ⟨z3, q3, _⟩ := DataW.trod_bool h3 t3
        have r0 := (List.cons.inj q0).1
        have r1 := (List.cons.inj q1).1
        have r2 := (List.cons.inj q2).1
        have r3 := (List.cons.inj q3).1
        subst r0 r1 r2 r3
        exact ⟨(z0, z1, z2, z3), ⟨by simpa using e0, by simpa using e1, by simpa using e2, by simpa using e3⟩, w0, w1, w2⟩
    obtain ⟨g, hg⟩ := Classical.axiomOfChoice each
    have hlen : (List.ofFn fun i => mk (g i)).length = len := List.length_ofFn
    have hmx : maxLen = 9223372036854775807 := by decide
    refine ⟨List.ofFn fun i => mk (g i), some a, cap, by rw [hlen], ⟨rfl, by rw [hlen]; omega, fun _ => ⟨a, rfl, fun j p hj => ?_⟩⟩, by rw [hlen]; exact hl, by rw [hlen]; omega, ?_⟩
    · obtain ⟨hj1, hj2⟩ := List.getElem?_eq_some_iff.1 hj
      rw [hlen] at hj1
      rw [List.getElem_ofFn] at hj2
      subst hj2
      obtain ⟨⟨x0, x1, x2, x3⟩, _⟩ := hg ⟨j, hj1⟩
      refine ⟨[.int k (g ⟨j, hj1⟩).1, .int k (g ⟨j, hj1⟩).2.1, .int k (g ⟨j, hj1⟩).2.2.1, .bool (g ⟨j, hj1⟩).2.2.2], rfl, ?_, ?_⟩
      · show (Kd.pair (Kd.int k) (Kd.pair (Kd.int k) (Kd.pair (Kd.int k) Kd.bool))).K w (f (mk (g ⟨j, hj1⟩))) _
        rw [hmk]
        exact ⟨[_], [_, _, _], rfl, rfl, [_], [_, _], rfl, rfl, [_], [_], rfl, rfl, rfl⟩
      · intro i u hu
        match i, hu with
        | 0, hu => cases hu; exact x0
        | 1, hu => cases hu; exact x1
        | 2, hu => cases hu; exact x2
        | 3, hu => cases hu; exact x3
    · intro y hy
      obtain ⟨i, rfl⟩ := List.mem_ofFn.1 hy
      rw [hmk]
      exact (hg i).2
end

theorem list2 {α : Type} {l : List α} (h : l.length = 2) : ∃ c0 c1, l = [c0, c1] := by
  match l, h with
  | [c0, c1], _ => exact ⟨c0, c1, rfl⟩
theorem list24 {α : Type} {l : List α} (h : l.length = 24) : ∃ c0 c1 c2 c3 c4 c5 c6 c7 c8 c9 c10 c11 c12 c13 c14 c15 c16 c17 c18 c19 c20 c21 c22 c23, l = [c0, c1, c2, c3, c4, c5, c6, c7, c8, c9, c10, c11, c12, c13, c14, c15, c16, c17, c18, c19, c20, c21, c22, c23] := by
  match l, h with
  | [c0, c1, c2, c3, c4, c5, c6, c7, c8, c9, c10, c11, c12, c13, c14, c15, c16, c17, c18, c19, c20, c21, c22, c23], _ => exact ⟨c0, c1, c2, c3, c4, c5, c6, c7, c8, c9, c10, c11, c12, c13, c14, c15, c16, c17, c18, c19, c20, c21, c22, c23, rfl⟩
end Go.Proofs.Ytpeejdmbnlhjmaa.R
