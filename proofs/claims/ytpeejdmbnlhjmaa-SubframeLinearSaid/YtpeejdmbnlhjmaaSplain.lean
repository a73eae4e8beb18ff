/- A subframe of the kinds constant and verbatim laid into a writer (subframe.Put), with the proof that the program's call comes to a plain function. For any numbers that can be. -/
import Derived.Test.YtpeejdmbnlhjmaaProg
import Derived.Below
import Derived.Deep.Draws
import Derived.Deep.AppendLies
import Derived.Maps.AppendAt
import Derived.OwnWalk
import Derived.Laws.BytesArg
import Derived.Laws.MakeOwn
import Derived.Laws.OwnMore
import Derived.Deep.OwnRows
import Derived.Tactics
import Derived.Lib.ConvBytes
import Derived.Laws.Slices
import Derived.WalkKit
import Derived.KernelRfl
import Derived.RowKit3
import Derived.Deep.LoopGhost
import Derived.Deep.QuietTactic
import Derived.BigQuiet
import Derived.WideLaws
import Derived.Deep.DeepCutAuto
import Derived.Deep.CutBlock
import Derived.Deep.RegionHeld3
import Derived.Laws.Rows
import Derived.Lib.AppendStr
import Derived.ArgAppend
import Derived.Laws.IdiomCopy
import Derived.OrdersHeld
import Derived.Laws.BitsLemmas
import Derived.RowKit
import Derived.Test.YtpeejdmbnlhjmaaWWords
import Derived.Test.YtpeejdmbnlhjmaaWLast
import Derived.Test.YtpeejdmbnlhjmaaWTab
import Derived.Test.YtpeejdmbnlhjmaaWFour
import Derived.Test.YtpeejdmbnlhjmaaWQPut
import Derived.Test.YtpeejdmbnlhjmaaWApart
import Derived.Test.YtpeejdmbnlhjmaaWArr
import Derived.Test.YtpeejdmbnlhjmaaWZeros
import Derived.Test.YtpeejdmbnlhjmaaWFoot
import Derived.Test.YtpeejdmbnlhjmaaWKept
import Derived.Test.YtpeejdmbnlhjmaaWShare
import Derived.Test.YtpeejdmbnlhjmaaWN
import Derived.Test.YtpeejdmbnlhjmaaWFootNe
import Derived.Test.YtpeejdmbnlhjmaaWAt
import Derived.Test.YtpeejdmbnlhjmaaWEqStruct
import Derived.Test.YtpeejdmbnlhjmaaWRepsOne
import Derived.Test.YtpeejdmbnlhjmaaWInv
import Derived.Test.YtpeejdmbnlhjmaaWInvWords
import Derived.Test.YtpeejdmbnlhjmaaWGuard
import Derived.Test.YtpeejdmbnlhjmaaWNEv
import Derived.Test.YtpeejdmbnlhjmaaWMore
import Derived.Test.YtpeejdmbnlhjmaaSpre
import Derived.Test.YtpeejdmbnlhjmaaSclone
import Derived.Test.YtpeejdmbnlhjmaaSfunc
import Derived.Test.YtpeejdmbnlhjmaaSdown
import Derived.Test.YtpeejdmbnlhjmaaSrest
import Derived.Test.YtpeejdmbnlhjmaaSshelf
import Derived.Test.YtpeejdmbnlhjmaaSbits
import Derived.Test.YtpeejdmbnlhjmaaSw
import Derived.Test.YtpeejdmbnlhjmaaSwriter
import Derived.Test.YtpeejdmbnlhjmaaSput
namespace Go.Proofs.Ytpeejdmbnlhjmaa.H
open Go.RowKit Go.Proofs.YtpeejdmbnlhjmaaW.PrintWords Go.Proofs.YtpeejdmbnlhjmaaW.PrintLast Go.Proofs.YtpeejdmbnlhjmaaW.PrintMore
attribute [local go_sem] max2_int min2_int max_two min_two max_three min_three max_four min_four   -- for this text's walks alone
set_option linter.unusedVariables false
set_option linter.unusedSimpArgs false
theorem new_calls (w : World) : Calls Try.prog 48 #[] w fun e w' => e = .returned (.pointer (some ⟨w.heap.size, 0, none⟩)) ∧ w' = w.alloc (.cells #[.slice none 0 0, .int .i64 0] 143) := by
  go_enter Try.func48, Try.ntmps48
  go_wp2
  go_ret
  exact ⟨rfl, rfl⟩
theorem cell_keep {W W' : World} {a : Addr} {v : Value} (h : W.cell? a = some v) (hb : Below W.heap.size W W') : W'.cell? a = some v := (hb.cell (World.block_lt_of_cell? W _ h)).trans h
theorem cell_drew {W : World} {a : Addr} {v : Value} (h : W.cell? a = some v) : W.drew.cell? a = some v := h
theorem cell_alloc {W : World} {a : Addr} {v : Value} (h : W.cell? a = some v) (o : Obj) : (W.alloc o).cell? a = some v := cell_keep h (below_alloc (Below.refl _ _) o)
theorem order0 {K Wa O Sh Pr Po : Int} {F : List Int} {Wd : Bool} {P : List S172} (h : K = 0 ∨ K = 1) : subframe_order.f K Wa O Sh Pr F Wd Po P = some 0 := by
  unfold subframe_order.f
  rw [if_neg (by omega), if_neg (by omega)]
theorem typed0 {K Wa O Sh Pr Po : Int} {F : List Int} {Wd : Bool} {P : List S172} (h : K = 0 ∨ K = 1) : subframe_typed.f K Wa O Sh Pr F Wd Po P = some K := by
  unfold subframe_typed.f
  rw [if_neg (by omega), if_neg (by omega)]
theorem own_away {B g : Nat} {W w8 : World} {v : Value} {bs : List Int} {n : Int} {A : Option Addr} {c : Nat} {ys : List Int} (hR : Kd.R (Kd.int .i64) 3 w8 W.heap.size (fun _ => True) (.slice A ys.length c) ys) (hs : WSt B W g v bs n) : Kd.F (Kd.int .i64) w8 (fun k => k ≠ g ∧ some k ≠ v.ownBlock) A ys.length ys := by
  refine Kd.F_mono (Kd.R_F (Kd.R_bound hR)) (fun k hk => ?_)
  have hg := (Array.getElem?_eq_some_iff.1 hs.1).1
  refine ⟨by have := hk.2.1; omega, fun e => ?_⟩
  have := Kd.R_lt hs.2.2 k e.symm
  have := hk.2.1
  omega
theorem all_calls_n {B : Nat} {w0 w : World} {g : Nat} {v : Value} {s : List Int × Int} {N : Int} (h : WAt B w0 g v s N w) (A : Option Addr) (n c : Nat) (l : List Int) (width : Int) (hn : l.length = n) (hN : N ≤ 900000000000) (hl : n ≤ 1000000000) (hF : Kd.F (Kd.int .i64) w (fun k => k ≠ g ∧ some k ≠ v.ownBlock) A l.length l) :
    Calls Try.prog 87 #[.pointer (some ⟨g, 0, none⟩), .slice A n c, .int .i64 width] w (WTo B w0 g v w (allP s l width) (N + 64 * n)) := by
  subst hn
  exact all_calls h A c l width hN hl hF
def putPlain (s : List Int × Int) (l : List Int) (K Wa D : Int) : List Int × Int := allP (wasteP (wput1 s (IntKind.u64.wrap K) 7) Wa) (if K = 0 then (downP Wa l).take 1 else downP Wa l) (D - Wa)
def PutTo (B : Nat) (w0 : World) (g : Nat) (v : Value) (w : World) (s : List Int × Int) (N : Int) (e : Ending) (w' : World) : Prop := e = .returned (.int .i64 0) ∧ ∃ v', WAt B w0 g v' s N w' ∧ WStep g v w v' w'
theorem blk_wstep {g k : Nat} {v v' : Value} {W W' : World} {o : Obj} (h : W.heap[k]? = some o) (hs : WStep g v W v' W') (h1 : k ≠ g) (h2 : some k ≠ v.ownBlock) : W'.heap[k]? = some o := (hs.block k (Array.getElem?_eq_some_iff.1 h).1 h1 h2).trans h
set_option maxHeartbeats 8000000 in
set_option maxRecDepth 100000 in
theorem put_plain (k : Nat) {B : Nat} {w0 w : World} {g : Nat} {v : Value} {s : List Int × Int} {N : Int} (h : WAt B w0 g v s N w) (A : Option Addr) (c : Nat) (l : List Int) (K Wa O Sh Pr : Int) (A5 : Option Addr) (c5 : Nat) (F : List Int) (Wd : Bool) (Po : Int) (A8 : Option Addr) (c8 : Nat) (P : List S172) (D : Int)
    (hN : N ≤ 800000000000) (hF : Kd.F (Kd.int .i64) w (fun k => k ≠ g ∧ some k ≠ v.ownBlock) A l.length l) (hc : l.length ≤ c) (hr5 : Kd.C (Kd.int .i64) w A5 F.length F) (hc5 : F.length ≤ c5) (hr8 : Kd.C k172 w A8 P.length P) (hc8 : P.length ≤ c8) (ho : subframe_odd.f k l K Wa O Sh Pr F Wd Po P D = some 0)
    (h1 : 0 ≤ Wa) (h2 : Wa ≤ D) (h3 : D ≤ 33) (h4 : l.length ≤ 65535) (h5 : 1 ≤ l.length) (hK : K = 0 ∧ ¬ compN l > 1 ∨ K = 1) :
    Calls Try.prog 49 #[.pointer (some ⟨g, 0, none⟩), .slice A l.length c, .agg (scells K Wa O Sh Pr (.slice A5 F.length c5) Wd Po (.slice A8 P.length c8)), .int .i64 D] w (PutTo B w0 g v w (putPlain s l K Wa D) (N + 256 + 64 * l.length)) := by
  obtain ⟨a, hbits⟩ : ∃ a : Int, ∀ W : World, Kd.C (Kd.int .i64) W A l.length l → Kd.C (Kd.int .i64) W A5 F.length F → Kd.C k172 W A8 P.length P → Calls Try.prog 46 #[.slice A l.length c, .agg (scells K Wa O Sh Pr (.slice A5 F.length c5) Wd Po (.slice A8 P.length c8)), .int .i64 D] W (OneInt2 W a 0) := by
    rcases hK with ⟨h, h'⟩ | h
    · exact ⟨_, fun W x y z => bits_good k A c l K Wa O Sh Pr A5 c5 F Wd Po A8 c8 P D W _ 0 x hc y hc5 z hc8 ho h1 h2 h3 h4 (.inl ⟨h, .inr ⟨h', rfl, rfl⟩⟩)⟩
    · exact ⟨_, fun W x y z => bits_good k A c l K Wa O Sh Pr A5 c5 F Wd Po A8 c8 P D W _ 0 x hc y hc5 z hc8 ho h1 h2 h3 h4 (.inr ⟨h, rfl, rfl⟩)⟩
  have HBITS := Aside0.mk hbits
  have HK := Aside0.mk (show K = 0 ∨ K = 1 by omega)
  have H0 := Aside0.mk h
  have F0 := Aside0.mk hF
  have C5 := Aside0.mk hr5
  have C8 := Aside0.mk hr8
  have L0 := Aside0.mk hc
  have L5 := Aside0.mk hc5
  have L8 := Aside0.mk hc8
  have HL := Aside0.mk (show l.length ≤ 1000000000000 by omega)
  have hg : g < w.heap.size := (Array.getElem?_eq_some_iff.1 h.st.1).1
  have hv : ∀ b, v.ownBlock = some b → b < w.heap.size := fun b e => Kd.R_lt h.st.2.2 b e
  have HG := Aside0.mk hg
  have HV := Aside0.mk hv
  clear h hF hr5 hr8 hc hc5 hc8 ho hK hbits hg hv
  go_enter Try.func49, Try.ntmps49
  go_upto_region 5 with (first
    | (go_at_call 46; (with_reducible refine (HBITS.out _ (Kd.C_alloc (Kd.F_now F0.out) _) (Kd.C_alloc C5.out _) (Kd.C_alloc C8.out _)).mono ?_); rintro e' w1 ⟨rfl, hb⟩; have BK1 := Aside0.mk (blk_below (blk_new w _) hb); have HB1 := Aside0.mk (below_step (below_alloc (Below.refl _ _) _) hb); clear hb; obtain ⟨x0, x1, x2, x3, x4, x5, x6, x7, x8⟩ := scell BK1.out)
    | (go_at_call 77; (with_reducible refine (rest_plain A c l K Wa O Sh Pr _ Wd Po _ _ HL.out (Kd.C_below (Kd.F_now F0.out) HB1.out) L0.out HK.out rfl rfl).mono ?_); rintro e' w2 ⟨rfl, hb⟩; clear x0 x1 x2 x3 x4 x5 x6 x7 x8; have BK2 := Aside0.mk (blk_below BK1.out hb); have HB2 := Aside0.mk (below_step HB1.out hb); clear hb))
  obtain ⟨x0, x1, x2, x3, x4, x5, x6, x7, x8⟩ := scell BK2.out
  go_region_held3 (fun W => W.cell? ⟨w.heap.size, 0, none⟩ = some (.int .i64 K) ∧ W.cell? ⟨w.heap.size, 1, none⟩ = some (.int .i64 Wa) ∧ W.cell? ⟨w.heap.size, 2, none⟩ = some (.int .i64 O) ∧ W.cell? ⟨w.heap.size, 3, none⟩ = some (.int .i64 Sh) ∧ W.cell? ⟨w.heap.size, 4, none⟩ = some (.int .i64 Pr) ∧ W.cell? ⟨w.heap.size, 5, none⟩ = some (.slice A5 F.length c5) ∧ W.cell? ⟨w.heap.size, 6, none⟩ = some (.bool Wd) ∧ W.cell? ⟨w.heap.size, 7, none⟩ = some (.int .i64 Po) ∧ W.cell? ⟨w.heap.size, 8, none⟩ = some (.slice A8 P.length c8) ∧ Below w2.heap.size w2 W)
    (first | (go_keep; done) | (((try go_split_ands); (repeat' apply And.intro)) <;> first | assumption | exact cell_drew ‹_› | exact cell_alloc ‹_› _ | exact cell_keep ‹_› ‹_› | exact below_drew (Below.refl _ _) | exact below_drew ‹_› | exact below_alloc ‹_› _ | exact below_step ‹_› ‹_›))
    (first | (go_at_call 48; (with_reducible refine (new_calls _).mono ?_); rintro e' w3 ⟨rfl, rfl⟩) | (go_at_call 80; go_split_ands; (with_reducible refine (subframe_order.calls K Wa O Sh Pr A5 c5 F Wd Po A8 c8 P 0 _ (Kd.C_below C5.out (below_step HB2.out (by assumption))) L5.out (Kd.C_below C8.out (below_step HB2.out (by assumption))) L8.out (order0 HK.out)).mono ?_); rintro e' w4 ⟨rfl, hb⟩) | fail)
  have HB4 := Aside0.mk (below_step HB2.out (below_step (show Below w2.heap.size w2 _ by assumption) hb))
  have BK4 := Aside0.mk (blk_below BK2.out (below_step (show Below w2.heap.size w2 _ by assumption) hb))
  go_split_ands
  clear x0 x1 x2 x3 x4 x5 x6 x7 x8
  have ne1 : w.heap.size ≠ g := by have := HG.out; omega
  have ne2 : some w.heap.size ≠ v.ownBlock := fun e => by have := HV.out _ e.symm; omega
  have NE1 := Aside0.mk ne1
  have NE2 := Aside0.mk ne2
  have wd : IntKind.i64.wrap (D - Wa) = D - Wa := by rw [IntKind.wrap_i64]; omega
  clear ne1 ne2
  go_upto_region 11 with (first
    | (go_at_call 84; (with_reducible refine (subframe_typed.calls K Wa O Sh Pr A5 c5 F Wd Po A8 c8 P K _ (Kd.C_below C5.out HB4.out) L5.out (Kd.C_below C8.out HB4.out) L8.out (typed0 HK.out)).mono ?_); rintro e' w5 ⟨rfl, hb⟩; have HB5 := Aside0.mk (below_step HB4.out hb); have BK5 := Aside0.mk (blk_below BK4.out hb); clear hb; have WA5 := Aside0.mk (H0.out.other HB5.out).1; have T05 := Aside0.mk (H0.out.other HB5.out).2; have F5 := Aside0.mk (wF F0.out T05.out))
    | (go_at_call 83; (with_reducible refine (put1_calls WA5.out (by omega) _ _ (u64_rng _)).mono ?_); rintro e' w6 ⟨rfl, v6, hw, ht⟩; have WA6 := Aside0.mk hw; have T6 := Aside0.mk ht; have BK6 := Aside0.mk (blk_wstep BK5.out ht NE1.out NE2.out); clear hw ht; obtain ⟨y0, y1, _⟩ := scell BK6.out))
  go_upto_region 12 with (first | (go_at_call 85; (with_reducible refine (waste_calls WA6.out (by omega) Wa (by omega)).mono ?_); rintro e' w7 ⟨rfl, v7, hw, ht⟩; clear y0 y1; have WA7 := Aside0.mk hw; have T7 := Aside0.mk (T6.out.trans ht); clear hw ht; have BK7 := Aside0.mk (blk_wstep BK5.out T7.out NE1.out NE2.out); have F7 := Aside0.mk (wF F5.out T7.out)))
  obtain ⟨z0, z1, _⟩ := scell BK7.out
  go_region_held3 (fun W => W.cell? ⟨w.heap.size, 1, none⟩ = some (.int .i64 Wa) ∧ Below w7.heap.size w7 W)
    (first | (go_keep; done) | (((try go_split_ands); (repeat' apply And.intro)) <;> first | assumption | exact cell_drew ‹_› | exact cell_alloc ‹_› _ | exact cell_keep ‹_› ‹_› | exact below_drew (Below.refl _ _) | exact below_drew ‹_› | exact below_alloc ‹_› _ | exact below_step ‹_› ‹_›))
    (first | (go_at_call 86; go_split_ands; (with_reducible refine (down_calls _ _ l Wa _ HL.out (Kd.C_below (Kd.F_now F7.out) (by assumption)) L0.out).mono ?_); rintro e' w8 ⟨v8, rfl, hr8, hb8⟩; obtain ⟨AY, cY, ey⟩ := Kd.R_slice hr8; subst ey) | fail)
  have HB8 := Aside0.mk (below_step (show Below w7.heap.size w7 _ by assumption) hb8)
  have R8 := Aside0.mk (Kd.R_lower hr8 (below_size (show Below w7.heap.size w7 _ by assumption)))
  go_split_ands
  have WA8 := Aside0.mk (WA7.out.other HB8.out).1
  have T8 := Aside0.mk (T7.out.trans (WA7.out.other HB8.out).2)
  have BK8 := Aside0.mk (blk_below BK7.out HB8.out)
  have F8 : Aside0 (Kd.F (Kd.int .i64) _ (fun k => k ≠ g ∧ some k ≠ v7.ownBlock) AY (downP Wa l).length (downP Wa l)) := ⟨own_away R8.out WA7.out.st⟩
  have LY := Aside0.mk (Kd.R_reads' R8.out).2.1
  have TT := Aside0.mk (T05.out.trans T8.out)
  have hlen : (downP Wa l).length = l.length := by unfold downP; rw [List.length_map]
  have HLEN := Aside0.mk hlen
  have l1 : 1 ≤ cY := by have := LY.out; omega
  obtain ⟨z0, z1, _⟩ := scell BK8.out
  rw [hlen]
  clear hlen hr8 hb8
  generalize hys : downP Wa l = ys at *
  have HYS := Aside0.mk hys
  clear hys
  rcases HK.out with rfl | rfl
  · go_wp2_with (first | (go_at_call 87; (with_reducible refine (all_calls_n WA8.out AY 1 cY (ys.take 1) (D - Wa) (by rw [List.length_take]; have := HLEN.out; omega) (by omega) (by decide) (Kd.F_imp F8.out (fun W' hC => Kd.C_take hC (by have := HLEN.out; omega)))).mono ?_); rintro e' w9 ⟨rfl, v9, hw, ht⟩; have WA9 := Aside0.mk hw; have T9 := Aside0.mk (TT.out.trans ht); clear hw ht))
    go_ret
    refine ⟨rfl, v9, ?_, T9.out⟩
    have e0 : putPlain s l 0 Wa D = allP (wasteP (wput1 s (IntKind.u64.wrap 0) 7) Wa) (ys.take 1) (D - Wa) := by unfold putPlain; rw [if_pos rfl, HYS.out]
    rw [e0]
    exact ⟨WA9.out.st, WA9.out.ok.mono (by omega), WA9.out.bel, WA9.out.sz⟩
  · go_wp2_with (first | (go_at_call 87; (with_reducible refine (all_calls_n WA8.out AY l.length cY ys (D - Wa) HLEN.out (by omega) (by omega) F8.out).mono ?_); rintro e' w9 ⟨rfl, v9, hw, ht⟩; have WA9 := Aside0.mk hw; have T9 := Aside0.mk (TT.out.trans ht); clear hw ht))
    go_ret
    refine ⟨rfl, v9, ?_, T9.out⟩
    have e0 : putPlain s l 1 Wa D = allP (wasteP (wput1 s (IntKind.u64.wrap 1) 7) Wa) ys (D - Wa) := by unfold putPlain; rw [if_neg (by decide), HYS.out]
    rw [e0]
    exact ⟨WA9.out.st, WA9.out.ok.mono (by omega), WA9.out.bel, WA9.out.sz⟩
end Go.Proofs.Ytpeejdmbnlhjmaa.H
