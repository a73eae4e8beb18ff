/- A reader is opened; a subframe that is told as its numbers are (Verbatim) is taken: as plain functions, with the proofs that the program's calls come to them. -/
import Derived.Test.YtpeejdmbnlhjmaaProg
import Derived.Below
import Derived.Deep.Draws
import Derived.Deep.AppendLies
import Derived.Maps.AppendAt
import Derived.OwnWalk
import Derived.Laws.BytesArg
import Derived.Laws.MakeOwn
import Derived.Laws.OwnMore
import Derived.Deep.OwnRows
import Derived.Tactics
import Derived.Lib.ConvBytes
import Derived.Laws.Slices
import Derived.WalkKit
import Derived.KernelRfl
import Derived.RowKit3
import Derived.Deep.LoopGhost
import Derived.Deep.QuietTactic
import Derived.BigQuiet
import Derived.WideLaws
import Derived.Deep.DeepCutAuto
import Derived.Deep.CutBlock
import Derived.Deep.RegionHeld3
import Derived.Laws.Rows
import Derived.Lib.AppendStr
import Derived.ArgAppend
import Derived.Laws.IdiomCopy
import Derived.OrdersHeld
import Derived.Laws.BitsLemmas
import Derived.RowKit
import Derived.Test.YtpeejdmbnlhjmaaWWords
import Derived.Test.YtpeejdmbnlhjmaaWLast
import Derived.Test.YtpeejdmbnlhjmaaWTab
import Derived.Test.YtpeejdmbnlhjmaaWFour
import Derived.Test.YtpeejdmbnlhjmaaWQPut
import Derived.Test.YtpeejdmbnlhjmaaWApart
import Derived.Test.YtpeejdmbnlhjmaaWArr
import Derived.Test.YtpeejdmbnlhjmaaWZeros
import Derived.Test.YtpeejdmbnlhjmaaWFoot
import Derived.Test.YtpeejdmbnlhjmaaWKept
import Derived.Test.YtpeejdmbnlhjmaaWShare
import Derived.Test.YtpeejdmbnlhjmaaWN
import Derived.Test.YtpeejdmbnlhjmaaWFootNe
import Derived.Test.YtpeejdmbnlhjmaaWAt
import Derived.Test.YtpeejdmbnlhjmaaWEqStruct
import Derived.Test.YtpeejdmbnlhjmaaWRepsOne
import Derived.Test.YtpeejdmbnlhjmaaWInv
import Derived.Test.YtpeejdmbnlhjmaaWInvWords
import Derived.Test.YtpeejdmbnlhjmaaWGuard
import Derived.Test.YtpeejdmbnlhjmaaWNEv
import Derived.Test.YtpeejdmbnlhjmaaWMore
import Derived.Maps.OwnOps
import Derived.Deep.WholeRow
import Derived.Test.YtpeejdmbnlhjmaaSrdval
import Derived.Test.YtpeejdmbnlhjmaaRpre2
import Derived.Test.YtpeejdmbnlhjmaaSclone
namespace Go.Proofs.Ytpeejdmbnlhjmaa.H
open Go.RowKit Go.Proofs.YtpeejdmbnlhjmaaW.PrintWords Go.Proofs.YtpeejdmbnlhjmaaW.PrintLast Go.Proofs.YtpeejdmbnlhjmaaW.PrintMore
attribute [local go_sem] max2_int min2_int max_two min_two max_three min_three max_four min_four   -- for this text's walks alone
set_option linter.unusedVariables false
set_option linter.unusedSimpArgs false
theorem open_calls (A : Option Addr) (c : Nat) (l : List Int) (w : World) (hr : Kd.C (Kd.int .u8) w A l.length l) (hc : l.length ≤ c) (hl : l.length ≤ 1000000000000) :
    Calls Try.prog 50 #[.slice A l.length c] w fun e w' => ∃ g w1, e = .returned (.pointer (some ⟨g, 0, none⟩)) ∧ IsS150 w1 w' g l 0 0 ∧ Below w.heap.size w w1 ∧ Below w1.heap.size w1 w' := by
  go_enter Try.func50, Try.ntmps50
  go_wp2_with (first | (go_at_call 62; (with_reducible refine (bytes_Clone.calls A c l l _ hr hc (by unfold bytes_Clone.f; exact if_pos hl)).mono ?_); rintro e w1 ⟨v, rfl, hv, hb⟩; obtain ⟨A1, c1, rfl⟩ := Kd.R_slice hv; have HV := Aside0.mk hv; have HB := Aside0.mk hb; clear hv hb))
  go_ret
  exact ⟨_, w1, rfl, IsS150.new w1 w1 A1 c1 l 0 0 (Below.refl _ _) (Kd.R_reads' HV.out).2.2, HB.out, below_alloc (Below.refl _ _) _⟩
/-- An entry of a map's literal, at the operation. -/
theorem wpList_insert_own {H : Type} {P : Program} (w : World) {ops : Array Oper} {rest : List Oper} {o : Oper} {a : Act} {Q : Exit → Act → World → Prop}
    (hg : o.guard = none) (m x v : Operand) (t : TypeId) (hop : o.op = Op.insert t m x v)
    (k e : TypeId) (K : Go.Maps.Keyed P k) (ht : P.underlying t = some (.map k e)) (R : Value → Option (DataW H × List MemPlace)) (b n : Nat) (D : DataW H)
    (hm : a.eval m = .map (some b)) (hown : w.ownsMap P k R b n D) (hn : n < maxLen) (key val : Value) (kl : Lit) (hx : a.eval x = key) (hv : a.eval v = val) (hkey : keyOf P k key = some kl)
    (d : DataW H) (ps : List MemPlace) (hval : R val = some (d, ps))
    (hK : ∀ w', w'.ownsMap P k R b (n + 1) (D.put kl d) → w.grownBy w' (some b) → wpList P ops Q rest (a.put o.dst undef) w') :
    wpList P ops Q (o :: rest) a w := by
  refine wpList_plain hg fun K' hK' => ?_
  obtain ⟨w', hrun, r1, r2⟩ := hown.update K ht hn hkey hval
  unfold Oper.wp
  simp [execOp, hop, hm, hx, hv, hrun, Result.andThen]
  exact hK' _ _ (hK w' r1 r2)
def D4 (b k : Int) : DataW Unit := ((((DataW.map []).put (.int .i64 0) (.lit (.int .i64 1))).put (.int .i64 1) (.lit (.int .i64 b))).put (.int .i64 2) (.lit (.int .i64 k))).put (.int .i64 3) (.lit (.int .i64 k))
theorem D4_one (b k : Int) : (D4 b k).atKey (.int .i64 1) (.lit (.int .i64 0)) = .lit (.int .i64 b) := rfl
theorem zero3 (w : World) : (zeroValue 3).run Try.prog w = .ok (.int .i64 0) w := by kernel_rfl
theorem store_ev {P : Program} {ops : Array Oper} {rest : List Oper} {o : Oper} {a : Act} {Q : Exit → Act → World → Prop} {W w1 : World} (hgd : o.guard = none) (t : TypeId) (p : Tmp) (x : Operand) (ho : o.op = .store t (.tmp p) x) (hN : o.dst = none) (u v : Value)
    (hp : a.eval (.tmp p) = u) (hx : a.eval x = v) (hs : (Instr.storeAt t u v).run P W = .ok () w1) (h : ∀ w', w' = w1 → wpList P ops Q rest a w') : wpList P ops Q (o :: rest) a W := by
  refine store_event (t := t) (p := p) (v := x) (w1 := w1) hgd ho hN ?_ h
  unfold execOp
  simp only [ho, hp, hx, Sem.run_bind, hs, Sem.run_pure, Result.andThen_ok]
def zero87 : Array Value := #[.int .i64 0, .int .i64 0, .int .i64 0, .int .i64 0, .int .i64 0, .slice none 0 0, .bool false, .int .i64 0, .slice none 0 0]
/-- What is known of memory in between. -/
def KQ (w0 : World) (g g7 g9 : Nat) (l : List Int) (a1 f1 : Int) (row : Array Value) (W : World) : Prop :=
  IsS150 w0 W g l a1 f1 ∧ Below w0.heap.size w0 W ∧ W.heap[g7]? = some (.cells zero87 87 (0, 0)) ∧ W.heap[g9]? = some (.cells row 87 (0, 0)) ∧ w0.heap.size ≤ g7 ∧ w0.heap.size ≤ g9
theorem KQ_set {w0 W : World} {g g7 g9 h : Nat} {l : List Int} {a1 f1 : Int} {row : Array Value} (hq : KQ w0 g g7 g9 l a1 f1 row W) (hg : g ≠ h) (h7 : g7 ≠ h) (h9 : g9 ≠ h) (hh : w0.heap.size ≤ h) (i : Nat) (u : Value) : KQ w0 g g7 g9 l a1 f1 row (W.setCell ⟨h, i, none⟩ u) := by
  obtain ⟨k1, k2, k3, k4, k5, k6⟩ := hq
  exact ⟨k1.far hg u, below_set k2 hh, (Below.heap_setCell W ⟨h, i, none⟩ u g7 h7).trans k3, (Below.heap_setCell W ⟨h, i, none⟩ u g9 h9).trans k4, k5, k6⟩
theorem KQ_drewN {w0 W : World} {g g7 g9 : Nat} {l : List Int} {a1 f1 : Int} {row : Array Value} (h : KQ w0 g g7 g9 l a1 f1 row W) (n : Nat) : KQ w0 g g7 g9 l a1 f1 row (W.drewN n) := by
  obtain ⟨k1, k2, k3, k4, k5, k6⟩ := h
  exact ⟨k1.drewN n, pw_below_drewN k2 n, k3, k4, k5, k6⟩
/-- After i rounds. -/
def shlN (wst : Int) (xs : List Int) (i : Nat) : List Int := (xs.take i).map (fun x => shl .i64 x wst) ++ xs.drop i
theorem shlN_len (wst : Int) (xs : List Int) (i : Nat) (h : i ≤ xs.length) : (shlN wst xs i).length = xs.length := by
  unfold shlN
  rw [List.length_append, List.length_map, List.length_take, List.length_drop]
  omega
theorem shlN_rd (wst : Int) (xs : List Int) (i : Nat) (h : i < xs.length) : rd (shlN wst xs i) (i : Int) = xs[i] := by
  unfold rd shlN
  rw [Int.toNat_natCast, List.getD_eq_getElem?_getD, List.getElem?_append_right (by rw [List.length_map, List.length_take]; omega)]
  rw [List.length_map, List.length_take, show i - min i xs.length = 0 by omega, List.getElem?_drop, Nat.add_zero, List.getElem?_eq_getElem h]
  rfl
theorem shlN_set (wst : Int) (xs : List Int) (i : Nat) (h : i < xs.length) : (shlN wst xs i).set i (shl .i64 xs[i] wst) = shlN wst xs (i + 1) := by
  unfold shlN
  rw [List.set_append_right _ _ (by rw [List.length_map, List.length_take]; omega)]
  rw [List.length_map, List.length_take, show i - min i xs.length = 0 by omega, List.drop_eq_getElem_cons h, List.set_cons_zero]
  rw [List.take_add_one, List.map_append, List.append_assoc, List.getElem?_eq_getElem h]
  rfl
theorem shlN_end (wst : Int) (xs : List Int) (i : Nat) (h : xs.length ≤ i) : shlN wst xs i = xs.map (fun x => shl .i64 x wst) := by
  unfold shlN
  rw [List.take_of_length_le h, List.drop_eq_nil_of_le h, List.append_nil]
theorem results_tct {P : Program} {fn : Func} {p u v : Tmp} {ty : TypeId} (h : fn.results = #[.tmp u, .cell p ty, .tmp v]) (tmps : Array Value) (w : World) (g : Nat) (t : TypeId) (cs : Array Value) (fr : Nat × Nat) (d : TypeDesc)
    (hp : tmps.getD p undef = .pointer (some ⟨g, 0, none⟩)) (hg : w.heap[g]? = some (.cells cs t fr))
    (hu : P.underlying ty = some d) (hd : (match d with | .struct _ | .array _ _ => true | _ => false) = true) (hi : (P.info? ty).map (·.size) = some cs.size) :
    (results fn tmps).run P w = .ok (.tuple #[tmps.getD u undef, .agg cs, tmps.getD v undef]) w := by
  have hp' : tmps[p]?.getD undef = .pointer (some ⟨g, 0, none⟩) := by simpa using hp
  simp [results, h, hp', asAddr, run_loadVar_row w g t ty cs fr d hg hu hd hi]
theorem KQ_is {w0 W : World} {g g7 g9 : Nat} {l : List Int} {a1 f1 : Int} {row : Array Value} (h : KQ w0 g g7 g9 l a1 f1 row W) : IsS150 w0 W g l a1 f1 := h.1
theorem KQ_bel {w0 W : World} {g g7 g9 : Nat} {l : List Int} {a1 f1 : Int} {row : Array Value} (h : KQ w0 g g7 g9 l a1 f1 row W) : Below w0.heap.size w0 W := h.2.1
theorem KQ_grown {H : Type} {P : Program} {k : TypeId} {Rd : Value → Option (DataW H × List MemPlace)} {n : Nat} {D : DataW H} {w0 W W1 : World} {g g7 g9 m : Nat} {l : List Int} {a1 f1 : Int} {row : Array Value} (h : KQ w0 g g7 g9 l a1 f1 row W) (hown : W.ownsMap P k Rd m n D) (hg : W.grownBy W1 (some m)) (hm : w0.heap.size ≤ m) : KQ w0 g g7 g9 l a1 f1 row W1 := by
  obtain ⟨k1, k2, k3, k4, k5, k6⟩ := h
  obtain ⟨es, clock, hb, _⟩ := hown
  have l7 := (Array.getElem?_eq_some_iff.1 k3).1
  have l9 := (Array.getElem?_eq_some_iff.1 k4).1
  refine ⟨k1.grown hg (fun e => ?_), k2.grown hg k2.size (fun k hk => by rw [← Option.some.inj hk]; exact hm), ?_, ?_, k5, k6⟩
  · obtain ⟨A0, c0, hbg, _⟩ := k1
    rw [Option.some.inj e, hb] at hbg
    cases hbg
  · rw [hg.block g7 l7 (fun e => by rw [Option.some.inj e, hb] at k3; cases k3)]; exact k3
  · rw [hg.block g9 l9 (fun e => by rw [Option.some.inj e, hb] at k4; cases k4)]; exact k4
theorem KQ_alloc {w0 W : World} {g g7 g9 : Nat} {l : List Int} {a1 f1 : Int} {row : Array Value} (h : KQ w0 g g7 g9 l a1 f1 row W) (o : Obj) : KQ w0 g g7 g9 l a1 f1 row (W.alloc o) := by
  obtain ⟨k1, k2, k3, k4, k5, k6⟩ := h
  exact ⟨k1.alloc o, below_alloc k2 o, blk_alloc k3 o, blk_alloc k4 o, k5, k6⟩
theorem KQ_keep {w0 W W1 : World} {g g7 g9 : Nat} {l : List Int} {a1 f1 a2 f2 : Int} {row : Array Value} (h : KQ w0 g g7 g9 l a1 f1 row W) (hi : IsS150 w0 W1 g l a2 f2) (hb : Below w0.heap.size w0 W1) (hk : KeepBut W W1 g none) : KQ w0 g g7 g9 l a2 f2 row W1 := by
  obtain ⟨k1, k2, k3, k4, k5, k6⟩ := h
  have l7 := (Array.getElem?_eq_some_iff.1 k3).1
  have l9 := (Array.getElem?_eq_some_iff.1 k4).1
  exact ⟨hi, hb, (hk.2 g7 l7 (k1.ne_blk k3 (by decide)).symm (by simp)).trans k3, (hk.2 g9 l9 (k1.ne_blk k4 (by decide)).symm (by simp)).trans k4, k5, k6⟩
set_option maxHeartbeats 8000000 in
set_option maxRecDepth 100000 in
theorem vtake_calls (k g : Nat) (l : List Int) (a0 f0 block depth : Int) (wst o3 o4 o5 o8 r10 a1 f1 a2 : Int) (o7 : Bool) (xs : List Int) (w0 w : World)
    (hI : IsS150 w0 w g l a0 f0) (hB : Below w0.heap.size w0 w) (hd : 4 ≤ depth ∧ depth ≤ 33) (hb : 1 ≤ block ∧ block ≤ 65535) (hw : 0 ≤ wst ∧ wst < depth)
    (hbeg : subframe_begin.f k l a0 f0 block depth = some (1, wst, o3, o4, o5, [], o7, o8, [], r10, 0, a1, f1)) (hwk : (Lit.int .i64 r10).wf = true)
    (hnum : subframe_numbers.f k l a1 f1 block (depth - wst) = some (xs, a2, 0)) (hxs : xs.length ≤ 65535) :
    Calls Try.prog 52 #[.pointer (some ⟨g, 0, none⟩), .int .i64 block, .int .i64 depth] w fun e w' => ∃ v A5 k5 A8 k8, e = .returned (.tuple #[v, .agg #[.int .i64 1, .int .i64 wst, .int .i64 o3, .int .i64 o4, .int .i64 o5, .slice A5 0 k5, .bool o7, .int .i64 o8, .slice A8 0 k8], .int .i64 0]) ∧ Kd.R (Kd.int .i64) 3 w' w0.heap.size (fun _ => True) v (xs.map (fun x => shl .i64 x wst)) ∧ Below w0.heap.size w0 w' := by
  have HI := Aside0.mk hI
  have HB := Aside0.mk hB
  have HBEG := Aside0.mk hbeg
  have HNUM := Aside0.mk hnum
  have hwb : (Lit.int .i64 block).wf = true := by
    have h1 : IntKind.i64.min = -9223372036854775808 := by decide
    have h2 : IntKind.i64.max = 9223372036854775807 := by decide
    simp only [Lit.wf, h1, h2, Bool.and_eq_true, decide_eq_true_eq]
    omega
  have c1 : decide (depth < 4) = false := decide_eq_false (by omega)
  have c2 : decide (33 < depth) = false := decide_eq_false (by omega)
  have c3 : decide (block < 1) = false := decide_eq_false (by omega)
  have c4 : decide (65535 < block) = false := decide_eq_false (by omega)
  have HLT := Aside0.mk hI.lt
  have hws : IntKind.i64.wrap (depth - wst) = depth - wst := by rw [IntKind.wrap_i64]; omega
  clear hI hB hbeg hnum
  go_enter Try.func52, Try.ntmps52
  go_upto_region 7 with (first
    | (go_at_call 88; (with_reducible refine (subframe_begin.calls k g l a0 f0 block depth _ _ _ _ _ _ _ _ _ _ _ _ _ w0 _ (HI.out.alloc _) (below_alloc HB.out _) HBEG.out).mono ?_); rintro e w1 ⟨v5, v8, rfl, hr5, hr8, hi, hb1, hk⟩; have HI1 := Aside0.mk hi; have HB1 := Aside0.mk hb1; have HK1 := Aside0.mk hk; obtain ⟨A5, k5, e5⟩ := Kd.R_slice hr5; obtain ⟨A8, k8, e8⟩ := Kd.R_slice hr8; subst e5 e8; clear hr5 hr8 hi hb1 hk)
    | ((with_reducible refine gate_store (t := 87) (p := 9) rfl ?_); refine store_ev rfl 87 9 (.tmp 39) rfl rfl _ (.agg #[.int .i64 1, .int .i64 wst, .int .i64 o3, .int .i64 o4, .int .i64 o5, .slice A5 0 k5, .bool o7, .int .i64 o8, .slice A8 0 k8]) rfl rfl (run_storeAt_new (P := Try.prog) w1 87 zero87 _ (by kernel_rfl) rfl (by simp [Value.oneCell'])) ?_; intro w2 hw2; have hb9 : w2.heap[w1.heap.size]? = some (.cells #[.int .i64 1, .int .i64 wst, .int .i64 o3, .int .i64 o4, .int .i64 o5, .slice A5 0 k5, .bool o7, .int .i64 o8, .slice A8 0 k8] 87 (0, 0)) := (by rw [hw2]; exact heap_alloc_last _ _); have HKQ : Aside0 (KQ w0 g w.heap.size w1.heap.size l a1 f1 #[.int .i64 1, .int .i64 wst, .int .i64 o3, .int .i64 o4, .int .i64 o5, .slice A5 0 k5, .bool o7, .int .i64 o8, .slice A8 0 k8] w2) := ⟨by rw [hw2]; exact ⟨HI1.out.alloc _, below_alloc HB1.out _, blk_alloc ((HK1.out.2 w.heap.size (by simp) (Nat.ne_of_gt HLT.out) (by simp)).trans (blk_new w _)) _, heap_alloc_last _ _, HB.out.size, HB1.out.size⟩⟩; have x0 := (blk_cell hb9 0).trans rfl; have x1 := (blk_cell hb9 1).trans rfl; clear hw2 hb9))
  have HM := Aside0.mk (World.ownsMap_made (H := Unit) w2 Try.prog 3 (plainElem Try.prog 3))
  have HQ := Aside0.mk (KQ_alloc HKQ.out (.map #[] 0))
  have HSZ := Aside0.mk HKQ.out.2.1.size
  clear HKQ
  go_upto_region 28 with (first
    | ((with_reducible refine gate_dst (N := 50) rfl ?_); refine Kd.event_run (w1 := w2.alloc (.map #[] 0)) (v := .map (some w2.heap.size)) rfl rfl ?_)
    | (refine wpList_insert_own (H := Unit) _ rfl _ _ _ 153 rfl 3 3 (Go.Maps.int_keyed Try.underlying3) Try.underlying153 (plainElem Try.prog 3) w2.heap.size _ _ rfl HM.out (by decide) _ _ _ rfl rfl (Go.Maps.keyOf_int_mk Try.underlying3 (by decide)) _ [] (plainElem_int Try.underlying3 (by first | decide | assumption)) ?_; intro wq hown hgr; have HQ' := Aside0.mk (KQ_grown HQ.out HM.out hgr HSZ.out); clear HM HQ hgr; have HM := Aside0.mk hown; have HQ := HQ'; clear hown HQ'; clear x0 x1; have x0 := (blk_cell HQ.out.2.2.2.1 0).trans rfl; have x1 := (blk_cell HQ.out.2.2.2.1 1).trans rfl)
    | (at_lookup; refine wpList_lookup_own_int (H := Unit) _ rfl _ _ 153 rfl 3 3 .i64 (Go.Maps.int_keyed Try.underlying3) Try.underlying153 Try.underlying3 (zero3 _) w2.heap.size _ _ rfl HM.out _ _ rfl (Go.Maps.keyOf_int_mk Try.underlying3 (by decide)) ?_; intro c hat hwc; obtain rfl : c = block := (by have hd4 := (D4_one block r10).symm.trans hat; injection hd4 with hd4; injection hd4 with _ hd4; exact hd4.symm); clear hat hwc HM)
    | (go_at_call 89; (with_reducible refine (subframe_numbers.calls k g l a1 f1 _ (depth - wst) _ _ _ w0 _ (KQ_is HQ.out) (KQ_bel HQ.out) HNUM.out).mono ?_); rintro e w5 ⟨v, rfl, hr, hi, hb5, hk⟩; have HQ5 := Aside0.mk (KQ_keep HQ.out hi hb5 hk); have HR5 := Aside0.mk (Kd.R_lower hr HQ.out.2.1.size); clear hr hi hb5 hk HQ; clear x0 x1; have x0 := (blk_cell HQ5.out.2.2.2.1 0).trans rfl; have x1 := (blk_cell HQ5.out.2.2.2.1 1).trans rfl)
    | (go_at_call 90; (with_reducible refine (bits_Reader_Fail.calls g l a2 0 _ _ _ w0 _ (KQ_is HQ5.out) (KQ_bel HQ5.out) rfl).mono ?_); rintro e w6 ⟨rfl, hi, hb6, hk⟩; have HQ6 := Aside0.mk (KQ_keep HQ5.out hi hb6 hk); have HR6 := Aside0.mk (Kd.R_keep (IsS150.apart HQ5.out.1 HR5.out (by decide)) hk (fun _ h_ => h_.2)); clear hi hb6 hk HQ5 HR5; clear x0 x1; have x0 := (blk_cell HQ6.out.2.2.2.1 0).trans rfl; have x1 := (blk_cell HQ6.out.2.2.2.1 1).trans rfl))
  obtain ⟨Ax, cx, ex⟩ := Kd.R_slice HR6.out
  subst ex
  have RR := Aside0.mk (show Kd.R (Kd.int .i64) 3 w6 w0.heap.size (fun k_ => k_ ≠ g) (.slice Ax xs.length cx) (shlN wst xs 0) from Kd.R_mono HR6.out (fun _ h_ => h_.2))
  clear HR6 x0 x1
  go_wp2_with fail
  go_loopg [18, 123] xs.length (fun kq v18 v123 w' => ∃ i : Nat, v123 = .int .i64 (i : Int) ∧ Aside0 (i + kq = xs.length) ∧ Aside0 (KQ w0 g w.heap.size w1.heap.size l a2 0 #[.int .i64 1, .int .i64 wst, .int .i64 o3, .int .i64 o4, .int .i64 o5, .slice A5 0 k5, .bool o7, .int .i64 o8, .slice A8 0 k8] w') ∧ Aside0 (Kd.R (Kd.int .i64) 3 w' w0.heap.size (fun k_ => k_ ≠ g) (.slice Ax xs.length cx) (shlN wst xs i)))
  case atStart => exact ⟨0, rfl, ⟨Nat.zero_add _⟩, HQ6, RR⟩
  case round =>
    clear RR HQ6
    obtain ⟨i, rfl, HI0, HQ, HR⟩ := hrel
    cases gk with
    | zero =>
      have hil : i = xs.length := by have := HI0.out; omega
      subst hil
      have d1 : decide ((xs.length : Int) < (xs.length : Int)) = false := decide_eq_false (by omega)
      have hz := shlN_end wst xs xs.length (Nat.le_refl _)
      have HZ := Aside0.mk hz
      clear hz
      go_upto_region 33 with fail
      have hb7 := HQ.out.2.2.1
      have hb9 := HQ.out.2.2.2.1
      have x0 := (blk_cell hb9 0).trans rfl
      have x1 := (blk_cell hb9 1).trans rfl
      have x2 := (blk_cell hb9 2).trans rfl
      have x3 := (blk_cell hb9 3).trans rfl
      have x4 := (blk_cell hb9 4).trans rfl
      have x5 := (blk_cell hb9 5).trans rfl
      have x6 := (blk_cell hb9 6).trans rfl
      have x7 := (blk_cell hb9 7).trans rfl
      have x8 := (blk_cell hb9 8).trans rfl
      have y0 : wr.cell? ⟨w.heap.size, 0, none⟩ = some (.int .i64 0) := (blk_cell hb7 0).trans rfl
      have y1 : wr.cell? ⟨w.heap.size, 1, none⟩ = some (.int .i64 0) := (blk_cell hb7 1).trans rfl
      have y2 : wr.cell? ⟨w.heap.size, 2, none⟩ = some (.int .i64 0) := (blk_cell hb7 2).trans rfl
      have y3 : wr.cell? ⟨w.heap.size, 3, none⟩ = some (.int .i64 0) := (blk_cell hb7 3).trans rfl
      have y4 : wr.cell? ⟨w.heap.size, 4, none⟩ = some (.int .i64 0) := (blk_cell hb7 4).trans rfl
      have y5 : wr.cell? ⟨w.heap.size, 5, none⟩ = some (.slice none 0 0) := (blk_cell hb7 5).trans rfl
      have y6 : wr.cell? ⟨w.heap.size, 6, none⟩ = some (.bool false) := (blk_cell hb7 6).trans rfl
      have y7 : wr.cell? ⟨w.heap.size, 7, none⟩ = some (.int .i64 0) := (blk_cell hb7 7).trans rfl
      have y8 : wr.cell? ⟨w.heap.size, 8, none⟩ = some (.slice none 0 0) := (blk_cell hb7 8).trans rfl
      have f0 := blk_frozen hb7 0
      have f1 := blk_frozen hb7 1
      have f2 := blk_frozen hb7 2
      have f3 := blk_frozen hb7 3
      have f4 := blk_frozen hb7 4
      have f5 := blk_frozen hb7 5
      have f6 := blk_frozen hb7 6
      have f7 := blk_frozen hb7 7
      have f8 := blk_frozen hb7 8
      have b0 := hb7
      have b1 := blk_set b0 0 (.int .i64 1)
      have b2 := blk_set b1 1 (.int .i64 wst)
      have b3 := blk_set b2 2 (.int .i64 o3)
      have b4 := blk_set b3 3 (.int .i64 o4)
      have b5 := blk_set b4 4 (.int .i64 o5)
      have b6 := blk_set b5 5 (.slice A5 0 k5)
      have b7 := blk_set b6 6 (.bool o7)
      have b8 := blk_set b7 7 (.int .i64 o8)
      have b9 := blk_set b8 8 (.slice A8 0 k8)
      have HB10 := Aside0.mk (blk_drew (b9.trans (by rfl : _ = some (Obj.cells #[.int .i64 1, .int .i64 wst, .int .i64 o3, .int .i64 o4, .int .i64 o5, .slice A5 0 k5, .bool o7, .int .i64 o8, .slice A8 0 k8] 87 (0, 0)))))
      clear b0 b1 b2 b3 b4 b5 b6 b7 b8 b9
      clear hb7 hb9
      have HRt := Aside0.mk (Kd.R_types HR.out HQ.out.2.2.1 (by decide))
      go_region
      go_wp2_with fail
      refine bodyPost_ret (results_tct rfl _ _ w.heap.size 87 #[.int .i64 1, .int .i64 wst, .int .i64 o3, .int .i64 o4, .int .i64 o5, .slice A5 0 k5, .bool o7, .int .i64 o8, .slice A8 0 k8] (0, 0) _ rfl HB10.out Try.underlying87 rfl (by kernel_rfl)) rfl ?_
      refine ⟨_, _, _, _, _, rfl, ?_, ?_⟩
      · rw [← HZ.out]
        refine Kd.R_mono (ok := fun k_ => k_ ≠ g ∧ k_ ≠ w.heap.size) ?_ (fun _ _ => trivial)
        refine Kd.R_drew ?_
        repeat (refine Kd.R_far ?_ (fun k_ hk_ => hk_.2) _)
        exact HRt.out
      · refine below_drew1 ?_
        repeat (refine below_set ?_ HB.out.size)
        exact HQ.out.2.1
    | succ k1 =>
      have hil : i < xs.length := by have := HI0.out; omega
      have d1 : decide ((i : Int) < (xs.length : Int)) = true := decide_eq_true (by omega)
      have d2 : (i : Int) < (xs.length : Int) := by omega
      have d3 : (0 : Int) ≤ (i : Int) := Int.natCast_nonneg _
      have hlen := shlN_len wst xs i (by omega)
      have HF := HR.out
      have hx := shlN_rd wst xs i hil
      have hst := shlN_set wst xs i hil
      have HST := Aside0.mk hst
      have HX := Aside0.mk hx
      obtain ⟨ys, hys⟩ : ∃ ys, ys = shlN wst xs i := ⟨_, rfl⟩
      rw [← hys] at HF hlen
      rw [← hlen] at HF
      obtain ⟨h, cap, hv, hbase, _⟩ := Kd.R_form HF (by omega)
      obtain ⟨rfl, _, rfl⟩ := Value.slice.inj hv
      have HRF := Aside0.mk HF
      have hc := Kd.R_cell (0 : Int) HF (i : Int) (by omega) (by omega)
      have x2 := hc.1
      have x3 := hc.2
      rw [Int.toNat_natCast] at x2 x3
      have hrd : rdOf (0 : Int) ys (i : Int) = xs[i] := by rw [hys]; exact hx
      rw [hrd] at x2
      have x1 := (blk_cell HQ.out.2.2.2.1 1).trans rfl
      clear hc HF hst hx hv
      have e1 : IntKind.i64.wrap (i : Int) = (i : Int) := by rw [IntKind.wrap_i64]; omega
      have hw0 := hw.1
      generalize hxi : xs[i] = xi at *
      go_upto_region 31 with fail
      go_region
      have hgh : g ≠ h := fun e => HRF.out.1 h (by simp [Value.ownBlock]) e.symm
      have h7h : w.heap.size ≠ h := fun e => Kd.R_ne HRF.out HQ.out.2.2.1 (by decide) (by rw [e]; rfl)
      have h9h : w1.heap.size ≠ h := fun e => Kd.R_ne HRF.out HQ.out.2.2.2.1 (by decide) (by rw [e]; rfl)
      have HQ2 := Aside0.mk (KQ_drewN (KQ_set HQ.out hgh h7h h9h hbase i (.int .i64 (wrap64 (xi * 2 ^ wst.toNat)))) 1)
      have HR2 := Aside0.mk (Kd.R_drewN (Kd.R_put HRF.out (i : Int) (wrap64 (xi * 2 ^ wst.toNat))).1 1)
      have hsh : wrap64 (xi * 2 ^ wst.toNat) = shl .i64 xi wst := by
        have hb64 : IntKind.i64.bits = 64 := rfl
        unfold shl
        rw [show min wst.toNat IntKind.i64.bits = wst.toNat by omega]
        first | rfl | (unfold wrap64; rw [IntKind.wrap_i64])
      have HR3 : Aside0 (Kd.R (Kd.int .i64) 3 ((wr.setCell ⟨h, i, none⟩ (.int .i64 (wrap64 (xi * 2 ^ wst.toNat)))).drewN 1) w0.heap.size (fun k_ => k_ ≠ g) (.slice (some ⟨h, 0, none⟩) xs.length cx) (shlN wst xs (i + 1))) := by
        have q := HR2.out
        have q2 := HST.out
        rw [Int.toNat_natCast, hys, shlN_len wst xs i (by omega)] at q
        rw [← hsh] at q2
        rw [q2] at q
        exact ⟨q⟩
      rw [hsh] at HQ2 HR3
      go_wp2_with fail
      go_roundg k1
      case measure => omega
      case rel => exact ⟨i + 1, by first | rfl | simp, ⟨by have := HI0.out; omega⟩, HQ2, HR3⟩
end Go.Proofs.Ytpeejdmbnlhjmaa.H
