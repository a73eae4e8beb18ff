/- How much a reading of a slice of structs of a whole number and bytes holds ('bulk'): no less than its bytes. -/
import Derived.Test.YtpeejdmbnlhjmaaHRow
import Derived.Test.YtpeejdmbnlhjmaaRows
namespace Go.Proofs.Ytpeejdmbnlhjmaa.R
open Go.ChangeShapes Go.WideShapes Go.RowKit Go.Proofs.YtpeejdmbnlhjmaaW.PrintWords Go.Proofs.YtpeejdmbnlhjmaaW.PrintLast Go.Proofs.Ytpeejdmbnlhjmaa.Rows
theorem bulk_lits {H : Type} (k : IntKind) : ∀ zs : List Int, uptoBulkAll (H := H) (lits k zs) = zs.length
  | [] => rfl
  | z :: r => by
    have := bulk_lits (H := H) k r
    unfold lits at this ⊢
    have e : uptoBulk (DataW.lit (H := H) (.int k z)) = 1 := by simp [uptoBulk]
    rw [List.map_cons, uptoBulkAll, this, e, List.length_cons]
    exact Nat.add_comm 1 _
theorem bulk_map {H : Type} {α : Type} (h : α → Nat) : ∀ (l : List α) (d : Nat → DataW H), (∀ i (hi : i < l.length), h l[i] ≤ uptoBulk (d i)) → (l.map h).sum ≤ uptoBulkAll ((List.range l.length).map d)
  | [], _, _ => Nat.zero_le _
  | x :: r, d, hd => by
    rw [List.length_cons, List.range_succ_eq_map, List.map_cons, List.map_cons, List.sum_cons, uptoBulkAll, List.map_map]
    have h0 := hd 0 (by simp)
    have h1 := bulk_map h r (fun i => d (i + 1)) (fun i hi => by have := hd (i + 1) (by simp only [List.length_cons]; omega); simpa using this)
    exact Nat.add_le_add h0 h1
section
variable {H : Type} {enc : TypeId × Value → H} {P : Program} {w : World} {base : Nat} {held : Bool}
theorem row_upto {t e : TypeId} {k : IntKind} {fuel : Nat} {cs : List Value} {y : DataW H × List MemPlace} (ht : P.underlying t = some (.slice e)) (he : P.underlying e = some (.int k)) (hc : P.cellsOf e = 1)
    (h : DataW.trod enc P w base (fun _ => true) held fuel t cs = some y) :
    ∃ (l : List Int) (A : Option Addr) (c : Nat), cs = [.slice A l.length c] ∧ Kd.C (Kd.int k) w A l.length l ∧ l.length ≤ c ∧ l.length ≤ maxLen ∧ (∀ x ∈ l, (Lit.int k x).wf = true) ∧ l.length + 1 ≤ uptoBulk y.1 := by
  rcases open_ints ht he hc h with ⟨hcs, hy⟩ | ⟨x, l, c, zs, hcs, _, hl, hm, hz, hy, hcell, hwz⟩
  · obtain ⟨l, h1, h2, h3, h4, h5⟩ := ReadsInt.ofRowC (w := w) (k := k) (a := none) (len := 0) (cap := 0) (zs := []) (.inl ⟨rfl, rfl, rfl, rfl⟩)
    exact ⟨l, none, 0, by rw [hcs, ← h1], Kd.C_of_reads (d := (0 : Int)) (h1 := fun _ => rfl) h2, h5, h3, h4, by rw [hy, ← h1, uptoBulk]; exact Nat.le_refl _⟩
  · obtain ⟨z, h1, h2, h3, h4, h5⟩ := ReadsInt.ofRowC (w := w) (k := k) (a := some x) (len := l) (cap := c) (zs := zs) (.inr ⟨_, rfl, hl, hm, by simpa using hz, hcell, hwz⟩)
    have hlz : l ≤ zs.length := by rw [hz]; split <;> omega
    exact ⟨z, some x, c, by rw [hcs, ← h1], Kd.C_of_reads (d := (0 : Int)) (h1 := fun _ => rfl) h2, h5, h3, h4, by rw [hy, uptoBulk, bulk_lits, List.length_take, h1]; omega⟩
theorem rowpair_upto {β : Type} (mk : Int × List Int → β) (f : β → Int × List Int) (hmk : ∀ p, f (mk p) = p) {t e eb : TypeId} {f0 f1 : Field} {k : IntKind} {fuel q : Nat} {cs : List Value} {x : DataW H × List MemPlace}
    (ht : P.underlying t = some (.slice e)) (he : P.underlying e = some (.struct #[f0, f1])) (ce : P.cellsOf e = 2) (o0 : f0.offset = 0) (o1 : f1.offset = 1) (c0 : P.cellsOf f0.type = 1) (c1 : P.cellsOf f1.type = 1)
    (h0 : P.underlying f0.type = some (.int k)) (h1 : P.underlying f1.type = some (.slice eb)) (hb : P.underlying eb = some (.int .u8)) (hcb : P.cellsOf eb = 1)
    (h : DataW.trod enc P w base (fun _ => true) held fuel t cs = some x) :
    ∃ (l : List β) (A : Option Addr) (c : Nat), cs = [.slice A l.length c] ∧ Kd.C (Kd.iso (Kd.pair (Kd.int k) (Kd.slice q (Kd.int .u8))) f) w A l.length l ∧ l.length ≤ c ∧ l.length ≤ maxLen ∧
      (∀ y ∈ l, (Lit.int k (f y).1).wf = true ∧ (f y).2.length ≤ maxLen ∧ ∀ z ∈ (f y).2, (Lit.int .u8 z).wf = true) ∧ (l.map fun y => (f y).2.length + 1).sum ≤ uptoBulk x.1 := by
  rcases Go.Deep.open_slice_pairs ht he ce o0 o1 c0 c1 h with ⟨hcs, _⟩ | ⟨a, len, cap, m, n, V0, V1, D0, D1, P0, P1, hcs, _, hl, hm, hmm, hxx, hx⟩
  · exact ⟨[], none, 0, hcs, Kd.C_nil _ _, by simp, by simp, by simp, by simp⟩
  · have hlm : len ≤ m := by rw [hmm]; split <;> omega
    have each : ∀ i : Fin len, ∃ p : Int × List Int, (Kd.pair (Kd.int k) (Kd.slice q (Kd.int .u8))).K w p [V0 i, V1 i] ∧ ((Lit.int k p.1).wf = true ∧ p.2.length ≤ maxLen ∧ ∀ z ∈ p.2, (Lit.int .u8 z).wf = true) ∧ p.2.length + 1 ≤ uptoBulk (D1 i) := by
      intro i
      obtain ⟨_, _, e0, e1⟩ := hx i (by have := i.isLt; omega)
      obtain ⟨z, hz, _, hwz⟩ := DataW.trod_int h0 e0
      obtain ⟨l1, A1, c1', hq, hr, hc, hm1, hw1, hu1⟩ := row_upto h1 hb hcb e1
      have g0 := (List.cons.inj hz).1
      have g1 := (List.cons.inj hq).1
      exact ⟨(z, l1), ⟨[V0 i], [V1 i], rfl, by rw [g0]; rfl, A1, c1', by rw [g1], hc, hr⟩, ⟨hwz, hm1, hw1⟩, hu1⟩
    obtain ⟨g, hg⟩ := Classical.axiomOfChoice each
    have hlen : (List.ofFn fun i => mk (g i)).length = len := List.length_ofFn
    have hmx : maxLen = 9223372036854775807 := by decide
    refine ⟨List.ofFn fun i => mk (g i), some a, cap, by rw [hcs, hlen], ⟨rfl, by rw [hlen]; omega, fun _ => ⟨a, rfl, fun j p hj => ?_⟩⟩, by rw [hlen]; exact hl, by rw [hlen]; omega, ?_, ?_⟩
    · obtain ⟨hj1, hj2⟩ := List.getElem?_eq_some_iff.1 hj
      rw [hlen] at hj1
      rw [List.getElem_ofFn] at hj2
      subst hj2
      obtain ⟨x0, x1, _, _⟩ := hx j (by omega)
      refine ⟨[V0 j, V1 j], rfl, ?_, ?_⟩
      · show (Kd.pair (Kd.int k) (Kd.slice q (Kd.int .u8))).K w (f (mk (g ⟨j, hj1⟩))) _
        rw [hmk]
        exact (hg ⟨j, hj1⟩).1
      · intro i u hu
        match i, hu with
        | 0, hu => cases hu; exact x0
        | 1, hu => cases hu; exact x1
    · intro y hy
      obtain ⟨i, rfl⟩ := List.mem_ofFn.1 hy
      rw [hmk]
      exact (hg i).2.1
    · rw [hxx, uptoBulk]
      refine Nat.le_trans (bulk_map (fun y => (f y).2.length + 1) _ (fun i => DataW.agg [D0 i, D1 i]) ?_) (by rw [hlen]; omega)
      intro i hi
      rw [hlen] at hi
      rw [List.getElem_ofFn]
      have : (g ⟨i, hi⟩).2.length + 1 ≤ uptoBulk (D1 i) := (hg ⟨i, hi⟩).2.2
      show (f (mk (g ⟨i, hi⟩))).2.length + 1 ≤ _
      rw [hmk]
      rw [uptoBulk, uptoBulkAll, uptoBulkAll, uptoBulkAll]
      omega
end
end Go.Proofs.Ytpeejdmbnlhjmaa.R
