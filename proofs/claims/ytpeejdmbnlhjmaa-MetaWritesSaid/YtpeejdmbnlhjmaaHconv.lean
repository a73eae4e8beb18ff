/- A string's bytes as a new slice: one step of a walk, as the printed words have it for what is made. For any string. -/
import Derived.Test.YtpeejdmbnlhjmaaWMore
import Derived.Test.YtpeejdmbnlhjmaaWLast
import Derived.Lib.ConvBytes
import Derived.Laws.Runes
import Derived.Laws.Rows
import Derived.Laws.AppendOwn
namespace Go.Proofs.Ytpeejdmbnlhjmaa.H
open Go.RowKit Go.Proofs.YtpeejdmbnlhjmaaW.PrintWords Go.Proofs.YtpeejdmbnlhjmaaW.PrintLast Go.Proofs.YtpeejdmbnlhjmaaW.PrintMore
set_option linter.unusedVariables false
theorem conv_reads (W W' : World) (e : TypeId) (s : ByteArray) (hs : s.size ≤ 9223372036854775807) (hW : W'.heap[W.heap.size]? = (Lib.bytesWorld W e s).heap[W.heap.size]?) :
    ReadsInt W' .u8 (some ⟨W.heap.size, 0, none⟩) s.size (bytesOf s) := by
  refine ⟨bytesOf_length s, hs, fun hn => ⟨_, rfl, fun j hj => ?_⟩⟩
  rw [add_plain]
  have h1 := Lib.bytesWorld_cell W e s j hj
  have h2 := Lib.bytesWorld_at_new W e s
  rw [cell_of_row _ _ _ _ _ _ h2] at h1
  rw [cell_of_row _ _ _ _ _ _ (hW.trans h2), h1]
  have hj' : j < s.data.toList.length := by rw [data_length]; exact hj
  simp [bytesOf, List.getD_eq_getElem?_getD, List.getElem?_map, List.getElem?_eq_getElem hj']
theorem V_conv {P : Program} {ops : Array Oper} {rest : List Oper} {o : Oper} {a : Act} {Q : Exit → Act → World → Prop} {w0 W : World} (base e : Nat) (hgd : o.guard = none) {N : Tmp} (_hd : o.dst = some N) (src dst : TypeId) (x : Operand) (ho : o.op = .convert src dst x) (s : ByteArray) (hx : a.eval x = .string s)
    (hs : P.underlying src = some .string) (hd : P.underlying dst = some (.slice e)) (he : P.underlying e = some (.int .u8)) (hsz : s.size ≤ 9223372036854775807) (HB : Below base w0 W) (hbase : base ≤ W.heap.size)
    (h : ∀ v1 w1, Kd.V (Kd.int .u8) e w1 base (fun k_ => W.heap.size ≤ k_) v1 (bytesOf s) → Below base w0 w1 → W.grownBy w1 none → (∃ b, v1.ownBlock = some b ∧ W.heap.size ≤ b) → wpList P ops Q rest (a.put o.dst v1) w1) : wpList P ops Q (o :: rest) a W := by
  have hrun : (execOp a.eval o).run P W = .ok (.value (.slice (some ⟨W.heap.size, 0, none⟩) s.size (grownCap W s.size 0 e))) (Lib.bytesWorld W e s) := by
    unfold execOp
    simp only [ho, hx, Sem.run_bind, Lib.run_convert_string_bytes W src dst e s hs hd he, Sem.run_pure, Result.andThen_ok]
  have hb : Below W.heap.size W (Lib.bytesWorld W e s) := by
    refine ⟨rfl, rfl, rfl, ?_, fun i hi => Lib.bytesWorld_at_old W e s i hi⟩
    rw [Lib.bytesWorld_size]; omega
  refine Kd.event_run hgd hrun (h _ _ ?_ (below_then HB hbase hb) (grown_of_below hb none) ⟨W.heap.size, rfl, Nat.le_refl _⟩)
  have hl := bytesOf_length s
  refine ⟨some ⟨W.heap.size, 0, none⟩, grownCap W s.size 0 e, by rw [hl], by rw [hl]; exact grownCap_ge W s.size 0 e, ?_⟩
  intro W' hW
  have hr := conv_reads W W' e s hsz (hW _ (Nat.le_refl _) (by rw [Lib.bytesWorld_size]; omega))
  rw [hl]
  exact Kd.C_of_reads (d := (0 : Int)) (h1 := fun _ => rfl) hr
/-- A string of a row that may be shared. -/
theorem V_string {P : Program} {w : World} {e' base : Nat} {ok : Nat → Prop} {src dst e : TypeId} {v : Value} {xs : List Int} (hs : P.underlying src = some (.slice e)) (he : P.underlying e = some (.int .u8)) (hd : P.underlying dst = some .string)
    (h : Kd.V (Kd.int .u8) e' w base ok v xs) : (convert src dst v).run P w = .ok (.string (strOfNums xs)) w := by
  obtain ⟨A, c, rfl, _, hf⟩ := h
  exact Kd.C_string hs he hd (Kd.F_now hf)
end Go.Proofs.Ytpeejdmbnlhjmaa.H
