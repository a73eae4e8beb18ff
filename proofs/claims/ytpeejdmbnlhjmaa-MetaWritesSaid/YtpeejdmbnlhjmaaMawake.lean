/- The chapter's example of metadata (serinettelaw18.awake): the proof that the program's call answers true. -/
import Derived.Test.YtpeejdmbnlhjmaaProg
import Derived.Below
import Derived.Deep.Draws
import Derived.Deep.AppendLies
import Derived.Maps.AppendAt
import Derived.OwnWalk
import Derived.Laws.BytesArg
import Derived.Laws.MakeOwn
import Derived.Laws.OwnMore
import Derived.Deep.OwnRows
import Derived.Tactics
import Derived.Lib.ConvBytes
import Derived.Laws.Slices
import Derived.WalkKit
import Derived.KernelRfl
import Derived.RowKit3
import Derived.Deep.LoopGhost
import Derived.Deep.QuietTactic
import Derived.BigQuiet
import Derived.WideLaws
import Derived.Deep.DeepCutAuto
import Derived.Deep.CutBlock
import Derived.Deep.RegionHeld3
import Derived.Laws.Rows
import Derived.Lib.AppendStr
import Derived.ArgAppend
import Derived.Laws.IdiomCopy
import Derived.OrdersHeld
import Derived.Laws.BitsLemmas
import Derived.RowKit
import Derived.Test.YtpeejdmbnlhjmaaWWords
import Derived.Test.YtpeejdmbnlhjmaaWLast
import Derived.Test.YtpeejdmbnlhjmaaWTab
import Derived.Test.YtpeejdmbnlhjmaaWFour
import Derived.Test.YtpeejdmbnlhjmaaWQPut
import Derived.Test.YtpeejdmbnlhjmaaWApart
import Derived.Test.YtpeejdmbnlhjmaaWArr
import Derived.Test.YtpeejdmbnlhjmaaWZeros
import Derived.Test.YtpeejdmbnlhjmaaWFoot
import Derived.Test.YtpeejdmbnlhjmaaWKept
import Derived.Test.YtpeejdmbnlhjmaaWShare
import Derived.Test.YtpeejdmbnlhjmaaWN
import Derived.Test.YtpeejdmbnlhjmaaWFootNe
import Derived.Test.YtpeejdmbnlhjmaaWAt
import Derived.Test.YtpeejdmbnlhjmaaWEqStruct
import Derived.Test.YtpeejdmbnlhjmaaWRepsOne
import Derived.Test.YtpeejdmbnlhjmaaWInv
import Derived.Test.YtpeejdmbnlhjmaaWInvWords
import Derived.Test.YtpeejdmbnlhjmaaWGuard
import Derived.Test.YtpeejdmbnlhjmaaWNEv
import Derived.Test.YtpeejdmbnlhjmaaWMore
import Derived.LoopN
import Derived.Outline
import Derived.Deep.WholeRow
import Derived.Maps.OwnOps
import Derived.Test.YtpeejdmbnlhjmaaMreadc
import Derived.Test.YtpeejdmbnlhjmaaSpre
namespace Go.Proofs.Ytpeejdmbnlhjmaa.H
open Go.RowKit Go.Proofs.YtpeejdmbnlhjmaaW.PrintWords Go.Proofs.YtpeejdmbnlhjmaaW.PrintLast Go.Proofs.YtpeejdmbnlhjmaaW.PrintMore
attribute [local go_sem] max2_int min2_int max_two min_two max_three min_three max_four min_four   -- for this text's walks alone
set_option linter.unusedVariables false
set_option linter.unusedSimpArgs false
def OddTo (w : World) (e : Ending) (w' : World) : Prop := e = .returned (.int .i64 0) ∧ Below w.heap.size w w'
set_option maxHeartbeats 8000000 in
theorem odd_ab (w : World) (A : Option Addr) (c : Nat) : Calls Try.prog 60 #[.agg #[.int .i64 4, .slice A 17 c]] w (OddTo w) := by
  have hb0 := blk_new w (.cells #[.int .i64 4, .slice A 17 c] 24)
  have x0 : (w.alloc (.cells #[.int .i64 4, .slice A 17 c] 24)).cell? ⟨w.heap.size, 0, none⟩ = some (.int .i64 4) := (blk_cell hb0 0).trans rfl
  have x1 : (w.alloc (.cells #[.int .i64 4, .slice A 17 c] 24)).cell? ⟨w.heap.size, 1, none⟩ = some (.slice A 17 c) := (blk_cell hb0 1).trans rfl
  go_enter Try.func60, Try.ntmps60
  go_wp2
  go_ret
  exact ⟨rfl, below_alloc (Below.refl _ _) _⟩
/-- An entry of a map's literal, at the operation. -/
theorem wpList_insert_fn {H : Type} {P : Program} (w : World) {ops : Array Oper} {rest : List Oper} {o : Oper} {a : Act} {Q : Exit → Act → World → Prop}
    (hg : o.guard = none) (m x v : Operand) (t : TypeId) (hop : o.op = Op.insert t m x v)
    (k e : TypeId) (K : Go.Maps.Keyed P k) (ht : P.underlying t = some (.map k e)) (R : Value → Option (DataW H × List MemPlace)) (b n : Nat) (D : DataW H)
    (hm : a.eval m = .map (some b)) (hown : w.ownsMap P k R b n D) (hn : n < maxLen) (key val : Value) (kl : Lit) (hx : a.eval x = key) (hv : a.eval v = val) (hkey : keyOf P k key = some kl)
    (d : DataW H) (ps : List MemPlace) (hval : R val = some (d, ps))
    (hK : ∀ w', w'.ownsMap P k R b (n + 1) (D.put kl d) → w.grownBy w' (some b) → wpList P ops Q rest (a.put o.dst undef) w') :
    wpList P ops Q (o :: rest) a w := by
  refine wpList_plain hg fun K' hK' => ?_
  obtain ⟨w', hrun, r1, r2⟩ := hown.update K ht hn hkey hval
  unfold Oper.wp
  simp [execOp, hop, hm, hx, hv, hrun, Result.andThen]
  exact hK' _ _ (hK w' r1 r2)
/-- A function value's number. -/
def fnElem : Value → Option (DataW Unit × List MemPlace)
  | .func (.func n) a b => if a = #[] ∧ b = #[] then some (.lit (.int .i64 n), []) else none
  | .nilFunc => some (.lit (.int .i64 (-1)), [])
  | _ => none
theorem fnElem_inv {v : Value} {n : Nat} {ps : List MemPlace} (h : fnElem v = some (.lit (.int .i64 n), ps)) : v = .func (.func n) #[] #[] := by
  unfold fnElem at h
  split at h
  · split at h
    · rename_i m a b hc
      obtain ⟨rfl, rfl⟩ := hc
      simp at h
      have e : m = n := Int.ofNat_inj.mp h.1
      rw [e]
    · cases h
  · simp at h
  · cases h
def RdTo (w : World) (e : Ending) (w' : World) : Prop := e = .returned (.func (.func 110) #[] #[]) ∧ Below w.heap.size w w'
def DF : DataW Unit := ((((DataW.map []).put (.int .i64 0) (.lit (.int .i64 107))).put (.int .i64 1) (.lit (.int .i64 108))).put (.int .i64 3) (.lit (.int .i64 109))).put (.int .i64 4) (.lit (.int .i64 110))
theorem DF_4 : DF.atKey (.int .i64 4) (.lit (.int .i64 (-1))) = .lit (.int .i64 110) := rfl
set_option maxHeartbeats 8000000 in
set_option maxRecDepth 100000 in
theorem reader_ab (w : World) : Calls Try.prog 61 #[.int .i64 4] w (RdTo w) := by
  have HM := Aside0.mk (World.ownsMap_made (H := Unit) w Try.prog 3 fnElem)
  have HB := Aside0.mk (below_alloc (Below.refl w.heap.size w) (.map #[] 0))
  go_enter Try.func61, Try.ntmps61
  go_wp2_with (first
    | ((with_reducible refine gate_dst (N := 3) rfl ?_); refine Kd.event_run (w1 := w.alloc (.map #[] 0)) (v := .map (some w.heap.size)) rfl rfl ?_)
    | (refine wpList_insert_fn (H := Unit) _ rfl _ _ _ 173 rfl 3 115 (Go.Maps.int_keyed Try.underlying3) Try.underlying173 fnElem w.heap.size _ _ rfl HM.out (by decide) _ _ _ rfl rfl (Go.Maps.keyOf_int_mk Try.underlying3 (by decide)) _ [] rfl ?_; intro wq hown hgr; have HB' := Aside0.mk (HB.out.grown hgr HB.out.size (fun k hk => by rw [← Option.some.inj hk]; exact Nat.le_refl _)); clear HM HB hgr; have HM := Aside0.mk hown; have HB := HB'; clear hown HB'))
  obtain ⟨v, ps, hrun, hv⟩ := HM.out.lookup (Go.Maps.int_keyed Try.underlying3) Try.underlying173 (Try.zeroValue115 _) (show fnElem .nilFunc = some (.lit (.int .i64 (-1)), []) from rfl) (Go.Maps.keyOf_int_mk Try.underlying3 (show (Lit.int .i64 4).wf = true by decide))
  have hv2 : fnElem v = some (.lit (.int .i64 ((110 : Nat) : Int)), ps) := hv
  have e := fnElem_inv hv2
  subst e
  rw [hrun]
  go_wp2_with fail
  go_ret
  exact ⟨rfl, HB.out⟩
set_option maxHeartbeats 8000000 in
set_option maxRecDepth 100000 in
theorem read_ab (w : World) (bk c : Nat) (hC : LCells w bk) (hc : 17 ≤ c) : Calls Try.prog 17 #[.agg #[.int .i64 4, .slice (some ⟨bk, 0, none⟩) 17 c]] w (ReadTo w) := by
  have qf : ∀ w, (binOp .eql 115 (.func (.func 110) #[] #[]) .nilFunc).run Try.prog w = .ok (.bool false) w := fun _ => by kernel_rfl
  have t33 : ∀ v w, _ := fun v w => assert_no (P := Try.prog) (w := w) 36 33 20 v _ _ Try.underlying33 rfl (Try.zeroValue33 w) (by decide)
  have B1 := Aside0.mk (below_alloc (Below.refl w.heap.size w) (.cells #[.int .i64 4, .slice (some ⟨bk, 0, none⟩) 17 c] 24))
  have L1 := Aside0.mk (lc_below hC (below_alloc (Below.refl _ _) (.cells #[.int .i64 4, .slice (some ⟨bk, 0, none⟩) 17 c] 24)))
  have K1 := Aside0.mk (blk_new w (.cells #[.int .i64 4, .slice (some ⟨bk, 0, none⟩) 17 c] 24))
  clear hC
  go_enter Try.func17, Try.ntmps17
  go_upto_region 1 with fail
  generalize w.alloc (.cells #[.int .i64 4, .slice (some ⟨bk, 0, none⟩) 17 c] 24) = w1 at *
  have x0 : w1.cell? ⟨w.heap.size, 0, none⟩ = some (.int .i64 4) := (blk_cell K1.out 0).trans rfl
  have x1 : w1.cell? ⟨w.heap.size, 1, none⟩ = some (.slice (some ⟨bk, 0, none⟩) 17 c) := (blk_cell K1.out 1).trans rfl
  go_upto_region 4 with (first | (go_at_call 60; (with_reducible refine (odd_ab _ _ _).mono ?_); rintro e w2 ⟨rfl, hb⟩; have B2 := Aside0.mk (below_step B1.out hb); have L2 := Aside0.mk (lc_below L1.out hb); have K2 := Aside0.mk (blk_below K1.out hb); clear hb x0 x1))
  have x0 : w2.cell? ⟨w.heap.size, 0, none⟩ = some (.int .i64 4) := (blk_cell K2.out 0).trans rfl
  go_upto_region 7 with (first | (go_at_call 61; (with_reducible refine (reader_ab _).mono ?_); rintro e w3 ⟨rfl, hb⟩; have B3 := Aside0.mk (below_step B2.out hb); have L3 := Aside0.mk (lc_below L2.out hb); have K3 := Aside0.mk (blk_below K2.out hb); clear hb x0))
  have x1 : w3.cell? ⟨w.heap.size, 1, none⟩ = some (.slice (some ⟨bk, 0, none⟩) 17 c) := (blk_cell K3.out 1).trans rfl
  go_wp2_with (first
    | (go_at_call 110; (with_reducible refine (readc_calls _ bk c L3.out hc).mono ?_); rintro e w4 ⟨g, cg, rfl, hf, hb⟩; have B4 := Aside0.mk (below_step B3.out hb); have F4 := Aside0.mk hf; clear hb hf x1)
    | (go_at_call 63; (with_reducible refine (written_ab _ g cg F4.out).mono ?_); rintro e w5 ⟨A5, c5, rfl, hr, hb⟩; have B5 := Aside0.mk (below_step B4.out hb); have F5 := Aside0.mk (fbl_below F4.out hb); clear hb hr))
  refine bodyPost_ret (results_tmp2 rfl _ _ _) rfl ?_
  exact ⟨g, cg, rfl, fbl_alloc F5.out _, below_alloc B5.out _⟩
theorem msame_n (k : Nat) (A0 : Option Addr) (n0 c0 : Nat) (l0 : List Int) (A1 : Option Addr) (n1 c1 : Nat) (l1 : List Int) (r : Bool) (w : World) (h0 : l0.length = n0) (h1 : l1.length = n1) (hr0 : Kd.C (Kd.int .u8) w A0 l0.length l0) (hc0 : l0.length ≤ c0) (hr1 : Kd.C (Kd.int .u8) w A1 l1.length l1) (hc1 : l1.length ≤ c1) (h : serinetteref01_Same.f k l0 l1 = some r) :
    Calls Try.prog 21 #[.slice A0 n0 c0, .slice A1 n1 c1] w (BoolTo w r) := by
  subst h0 h1
  refine (serinetteref01_Same.calls k A0 c0 l0 A1 c1 l1 r w hr0 hc0 hr1 hc1 h).mono ?_
  rintro e w' ⟨he, hd⟩
  exact ⟨he, by first | exact hd | exact hd.below | (obtain ⟨m, rfl⟩ := hd; exact pw_below_drewN (Below.refl _ _) _)⟩
theorem l17_len : l17.length = 17 := rfl
theorem same17 : serinetteref01_Same.f 30 l17 l17 = some true := by decide +kernel
set_option maxHeartbeats 8000000 in
set_option maxRecDepth 100000 in
theorem awake18_calls (w : World) : Calls Try.prog 16 #[] w (BoolTo w true) := by
  have t36 : ∀ v w, _ := fun v w => assert_yes (P := Try.prog) (w := w) 36 20 v _ Try.underlying36 rfl
  have F1 := Aside0.mk (show FBl _ w.heap.size from (blk_cell (blk_new w (.cells #[.string sAb] 9)) 0).trans rfl)
  have B1 := Aside0.mk (below_alloc (Below.refl w.heap.size w) (.cells #[.string sAb] 9))
  go_enter Try.func16, Try.ntmps16
  go_upto_region 2 with (first | (go_at_call 34; (with_reducible refine (comment_ab _ w.heap.size 1 F1.out).mono ?_); rintro e w2 ⟨A, c, rfl, hr, hb⟩; have B2 := Aside0.mk (below_step B1.out hb); have R2 := Aside0.mk hr; clear hb hr))
  obtain ⟨bk, cap, hv, hb1, hb2, _⟩ := Kd.R_form R2.out (by decide)
  obtain ⟨rfl, _, rfl⟩ := Value.slice.inj hv
  have hc := Aside0.mk (show 17 ≤ c from (Kd.R_reads' R2.out).2.1)
  have HCL := Aside0.mk (show l17.length ≤ c from hc.out)
  have C2 := Aside0.mk (show Kd.C (Kd.int .u8) w2 (some ⟨bk, 0, none⟩) l17.length l17 from (Kd.R_reads' R2.out).2.2)
  have M3 := Aside0.mk (blk_new w2 (.cells #[.int .i64 4, .slice (some ⟨bk, 0, none⟩) 17 c] 24))
  have C3 := Aside0.mk (Kd.C_alloc C2.out (.cells #[.int .i64 4, .slice (some ⟨bk, 0, none⟩) 17 c] 24))
  have B3 := Aside0.mk (below_alloc B2.out (.cells #[.int .i64 4, .slice (some ⟨bk, 0, none⟩) 17 c] 24))
  clear hv hb1 hb2 R2 B2 C2 F1 B1
  generalize w2.alloc (.cells #[.int .i64 4, .slice (some ⟨bk, 0, none⟩) 17 c] 24) = w3 at *
  generalize w2.heap.size = T at *
  have y0 : w3.cell? ⟨T, 0, none⟩ = some (.int .i64 4) := (blk_cell M3.out 0).trans rfl
  have y1 : w3.cell? ⟨T, 1, none⟩ = some (.slice (some ⟨bk, 0, none⟩) 17 c) := (blk_cell M3.out 1).trans rfl
  go_upto_region 3 with (first | (go_at_call 17; (with_reducible refine (read_ab _ bk c (lc_of_C C3.out) hc.out).mono ?_); rintro e w4 ⟨g, cg, rfl, hf, hb⟩; have B4 := Aside0.mk (below_step B3.out hb); have C4 := Aside0.mk (Kd.C_below C3.out hb); have M4 := Aside0.mk (blk_below M3.out hb); clear hb hf y0 y1))
  go_upto_region 4 with fail
  have B5 := Aside0.mk (below_alloc B4.out (.cells #[.string sMe, .slice (some ⟨g, 0, none⟩) 1 cg] 36))
  have C5 := Aside0.mk (Kd.C_alloc C4.out (.cells #[.string sMe, .slice (some ⟨g, 0, none⟩) 1 cg] 36))
  have M5 := Aside0.mk (blk_alloc M4.out (.cells #[.string sMe, .slice (some ⟨g, 0, none⟩) 1 cg] 36))
  have N5 := Aside0.mk (blk_new w4 (.cells #[.string sMe, .slice (some ⟨g, 0, none⟩) 1 cg] 36))
  generalize w4.alloc (.cells #[.string sMe, .slice (some ⟨g, 0, none⟩) 1 cg] 36) = w5 at *
  generalize w4.heap.size = V at *
  have x0 : w5.cell? ⟨V, 0, none⟩ = some (.string sMe) := (blk_cell N5.out 0).trans rfl
  have y0 : w5.cell? ⟨T, 0, none⟩ = some (.int .i64 4) := (blk_cell M5.out 0).trans rfl
  have y1 : w5.cell? ⟨T, 1, none⟩ = some (.slice (some ⟨bk, 0, none⟩) 17 c) := (blk_cell M5.out 1).trans rfl
  have C6 := Aside0.mk (Kd.C_alloc C5.out (.cells #[.int .u8 2, .int .u8 0, .int .u8 0, .int .u8 0, .int .u8 109, .int .u8 101, .int .u8 1, .int .u8 0, .int .u8 0, .int .u8 0, .int .u8 3, .int .u8 0, .int .u8 0, .int .u8 0, .int .u8 65, .int .u8 61, .int .u8 98] 5))
  have D6 := Aside0.mk (C_of_blk8 (xs := l17) (blk_new w5 (.cells #[.int .u8 2, .int .u8 0, .int .u8 0, .int .u8 0, .int .u8 109, .int .u8 101, .int .u8 1, .int .u8 0, .int .u8 0, .int .u8 0, .int .u8 3, .int .u8 0, .int .u8 0, .int .u8 0, .int .u8 65, .int .u8 61, .int .u8 98] 5)) (by decide))
  have HB6 := Aside0.mk (below_alloc B5.out (.cells #[.int .u8 2, .int .u8 0, .int .u8 0, .int .u8 0, .int .u8 109, .int .u8 101, .int .u8 1, .int .u8 0, .int .u8 0, .int .u8 0, .int .u8 3, .int .u8 0, .int .u8 0, .int .u8 0, .int .u8 65, .int .u8 61, .int .u8 98] 5))
  have M6 := Aside0.mk (blk_alloc M5.out (.cells #[.int .u8 2, .int .u8 0, .int .u8 0, .int .u8 0, .int .u8 109, .int .u8 101, .int .u8 1, .int .u8 0, .int .u8 0, .int .u8 0, .int .u8 3, .int .u8 0, .int .u8 0, .int .u8 0, .int .u8 65, .int .u8 61, .int .u8 98] 5))
  go_wp2_with (first | (go_at_call 21; (with_reducible refine (msame_n 30 (some ⟨bk, 0, none⟩) 17 c l17 _ 17 17 l17 true _ l17_len l17_len C6.out HCL.out D6.out (by decide) same17).mono ?_); rintro e w6 ⟨rfl, hb⟩; have B6 := Aside0.mk (below_step HB6.out hb); have z0 : w6.cell? ⟨T, 0, none⟩ = some (.int .i64 4) := (blk_cell (blk_below M6.out hb) 0).trans rfl; clear hb))
  go_ret
  exact ⟨rfl, B6.out⟩
end Go.Proofs.Ytpeejdmbnlhjmaa.H
