/- The bytes of places (meta.seekBody), with the proof of the call. For up to a million places. -/
import Derived.Test.YtpeejdmbnlhjmaaProg
import Derived.Below
import Derived.Deep.Draws
import Derived.Deep.AppendLies
import Derived.Maps.AppendAt
import Derived.OwnWalk
import Derived.Laws.BytesArg
import Derived.Laws.MakeOwn
import Derived.Laws.OwnMore
import Derived.Deep.OwnRows
import Derived.Tactics
import Derived.Lib.ConvBytes
import Derived.Laws.Slices
import Derived.WalkKit
import Derived.KernelRfl
import Derived.RowKit3
import Derived.Deep.LoopGhost
import Derived.Deep.QuietTactic
import Derived.BigQuiet
import Derived.WideLaws
import Derived.Deep.DeepCutAuto
import Derived.Deep.CutBlock
import Derived.Deep.RegionHeld3
import Derived.Laws.Rows
import Derived.Lib.AppendStr
import Derived.ArgAppend
import Derived.Laws.IdiomCopy
import Derived.OrdersHeld
import Derived.Laws.BitsLemmas
import Derived.RowKit
import Derived.Test.YtpeejdmbnlhjmaaWWords
import Derived.Test.YtpeejdmbnlhjmaaWLast
import Derived.Test.YtpeejdmbnlhjmaaWTab
import Derived.Test.YtpeejdmbnlhjmaaWFour
import Derived.Test.YtpeejdmbnlhjmaaWQPut
import Derived.Test.YtpeejdmbnlhjmaaWApart
import Derived.Test.YtpeejdmbnlhjmaaWArr
import Derived.Test.YtpeejdmbnlhjmaaWZeros
import Derived.Test.YtpeejdmbnlhjmaaWFoot
import Derived.Test.YtpeejdmbnlhjmaaWKept
import Derived.Test.YtpeejdmbnlhjmaaWShare
import Derived.Test.YtpeejdmbnlhjmaaWN
import Derived.Test.YtpeejdmbnlhjmaaWFootNe
import Derived.Test.YtpeejdmbnlhjmaaWAt
import Derived.Test.YtpeejdmbnlhjmaaWEqStruct
import Derived.Test.YtpeejdmbnlhjmaaWRepsOne
import Derived.Test.YtpeejdmbnlhjmaaWInv
import Derived.Test.YtpeejdmbnlhjmaaWInvWords
import Derived.Test.YtpeejdmbnlhjmaaWGuard
import Derived.Test.YtpeejdmbnlhjmaaWNEv
import Derived.Test.YtpeejdmbnlhjmaaWMore
import Derived.LoopN
import Derived.Outline
import Derived.Deep.RegionLaw
import Derived.Test.YtpeejdmbnlhjmaaWbody
import Derived.Test.YtpeejdmbnlhjmaaMseek
namespace Go.Proofs.Ytpeejdmbnlhjmaa.H
open Go.RowKit Go.Proofs.YtpeejdmbnlhjmaaW.PrintWords Go.Proofs.YtpeejdmbnlhjmaaW.PrintLast Go.Proofs.YtpeejdmbnlhjmaaW.PrintMore
attribute [local go_sem] max2_int min2_int max_two min_two max_three min_three max_four min_four   -- for this text's walks alone
set_option linter.unusedVariables false
set_option linter.unusedSimpArgs false
def pointW (s : List Int × Int) (p : S122) : List Int × Int := wput8 (wput8 (wput1 s (if p.f3 = true then 18446744073709551615 else IntKind.u64.wrap p.f0) 64) p.f1 64) p.f2 16
def seekW (l : List S122) : List Int × Int := l.foldl pointW ([], 0)
theorem seekW_take (l : List S122) (k : Nat) (h : k < l.length) : seekW (l.take (k + 1)) = pointW (seekW (l.take k)) (rd_T122 l (k : Int)) := by
  unfold seekW
  rw [List.take_succ_eq_append_getElem h, List.foldl_append]
  have e : rd_T122 l (k : Int) = l[k] := by
    unfold rd_T122
    rw [Int.toNat_natCast, List.getD_eq_getElem?_getD, List.getElem?_eq_getElem h]
    rfl
  rw [e]
  rfl
abbrev pcells (a b c : Int) (d : Bool) : Array Value := #[.int .i64 a, .int .i64 b, .int .i64 c, .bool d]
/-- A block of one's own, fresh beside a writer, stands through what the writer does. -/
theorem fresh_keep {B g k : Nat} {w0 wr W W' : World} {v v0 v' : Value} {s : List Int × Int} {N : Int} {o : Obj} (h0 : WAt B w0 g v0 s N wr) (hk : k = wr.heap.size) (h : W.heap[k]? = some o) (hv : v.ownBlock = v0.ownBlock ∨ ∃ b, v.ownBlock = some b ∧ k < b) (hs : WStep g v W v' W') : W'.heap[k]? = some o := by
  have hg : g < wr.heap.size := (Array.getElem?_eq_some_iff.1 h0.st.1).1
  refine blk_wstep h hs (by omega) (fun e => ?_)
  rcases hv with h1 | ⟨b, h1, h2⟩
  · have := Kd.R_lt h0.st.2.2 k (by rw [← h1]; exact e.symm)
    omega
  · rw [h1] at e
    have := Option.some.inj e
    omega
theorem own_step {g k : Nat} {W W' : World} {v v0 v' : Value} (hv : v.ownBlock = v0.ownBlock ∨ ∃ b, v.ownBlock = some b ∧ k < b) (hs : WStep g v W v' W') (hk : k < W.heap.size) : v'.ownBlock = v0.ownBlock ∨ ∃ b, v'.ownBlock = some b ∧ k < b := by
  rcases hs.own with h | ⟨b, h1, h2⟩
  · rw [h]; exact hv
  · exact .inr ⟨b, h1, by omega⟩
set_option maxHeartbeats 8000000 in
set_option maxRecDepth 100000 in
theorem sbody_calls (w : World) (A : Option Addr) (l : List S122) (c : Nat) (hr : Kd.C k122 w A l.length l) (hl : l.length ≤ 1000000) : Calls Try.prog 115 #[.slice A l.length c] w (RowTo w (seekW l).1) := by
  have HR := Aside0.mk hr
  have N1 := Aside0.mk (wnew w)
  clear hr
  go_enter Try.func115, Try.ntmps115
  go_upto_region 2 with (first | (go_at_call 48; (with_reducible refine (new_calls _).mono ?_); rintro e w2 ⟨rfl, rfl⟩))
  generalize w.alloc (.cells #[.slice none 0 0, .int .i64 0] 143) = w2 at *
  go_upto_block 0 with fail
  go_wp2_with fail
  go_loopw [10] (fun i wr => ∃ (k : Nat) (v1 : Value), k ≤ l.length ∧ i = .int .i64 k ∧ Aside0 (WAt w.heap.size w w.heap.size v1 (seekW (l.take k)) (192 * k) wr)) (fun i _ => l.length - (intOf i).toNat)
  case atStart => exact ⟨0, .slice none 0 0, Nat.zero_le _, rfl, N1⟩
  case round =>
    clear N1
    obtain ⟨k, v1, hk, rfl, H⟩ := hrel
    by_cases hlt : k < l.length
    · have d1 : decide ((k : Int) < (l.length : Int)) = true := decide_eq_true (by omega)
      have d2 : decide (k < l.length) = true := decide_eq_true (by omega)
      obtain ⟨ad, e1, y0, y1, y2, y3⟩ := at_T122 (Kd.C_below HR.out H.out.bel) (k : Int) (by omega) (by omega)
      cases e1
      have HS := Aside0.mk (seekW_take l k hlt)
      generalize rd_T122 l (k : Int) = p at *
      obtain ⟨f0, f1, f2, f3⟩ := p
      dsimp only at y0 y1 y2 y3
      have k1 : (0 : Int) ≤ (k : Int) := Int.natCast_nonneg _
      have k2 : (k : Int) < (l.length : Int) := by omega
      rw [Int.toNat_natCast] at y0 y1 y2 y3
      go_upto_region 5 with fail
      have P3 := Aside0.mk (blk_new wr (.cells (pcells f0 f1 f2 f3) 122))
      have H3 := Aside0.mk (H.out.other (below_alloc (Below.refl _ _) (.cells (pcells f0 f1 f2 f3) 122))).1
      have S3 : Aside0 ((wr.alloc (.cells (pcells f0 f1 f2 f3) 122)).heap.size = wr.heap.size + 1) := ⟨Array.size_push ..⟩
      clear y0 y1 y2 y3
      generalize wr.alloc (.cells (pcells f0 f1 f2 f3) 122) = w3 at *
      have x0 : w3.cell? ⟨wr.heap.size, 0, none⟩ = some (.int .i64 f0) := (blk_cell P3.out 0).trans rfl
      have x1 : w3.cell? ⟨wr.heap.size, 1, none⟩ = some (.int .i64 f1) := (blk_cell P3.out 1).trans rfl
      have x2 : w3.cell? ⟨wr.heap.size, 2, none⟩ = some (.int .i64 f2) := (blk_cell P3.out 2).trans rfl
      have x3 : w3.cell? ⟨wr.heap.size, 3, none⟩ = some (.bool f3) := (blk_cell P3.out 3).trans rfl
      cases f3
      all_goals
        go_upto_region 9 with (first | go_loud (go_at_call 83; (with_reducible refine (put1_calls H3.out (by omega) _ _ (by first | exact u64_rng _ | decide)).mono ?_); rintro e w4 ⟨rfl, v2, hw, ht⟩; have H4 := Aside0.mk hw; have P4 := Aside0.mk (fresh_keep (v0 := v1) H.out rfl P3.out (.inl rfl) ht); have O4 := Aside0.mk (own_step (k := wr.heap.size) (v0 := v1) (.inl rfl) ht (by have := S3.out; omega)); have S4 := Aside0.mk (show wr.heap.size < w4.heap.size by have := S3.out; have := ht.size; omega); clear hw ht x0 x1 x2 x3))
        have x1 : w4.cell? ⟨wr.heap.size, 1, none⟩ = some (.int .i64 f1) := (blk_cell P4.out 1).trans rfl
        go_upto_region 10 with (first | (go_at_call 83; (with_reducible refine (put1_calls H4.out (by omega) _ _ (u64_rng _)).mono ?_); rintro e w5 ⟨rfl, v3, hw, ht⟩; have H5 := Aside0.mk hw; have P5 := Aside0.mk (fresh_keep H.out rfl P4.out O4.out ht); clear hw ht x1))
        have x2 : w5.cell? ⟨wr.heap.size, 2, none⟩ = some (.int .i64 f2) := (blk_cell P5.out 2).trans rfl
        go_wp2_with (first | (go_at_call 83; (with_reducible refine (put1_calls H5.out (by omega) _ _ (u64_rng _)).mono ?_); rintro e w6 ⟨rfl, v4, hw, ht⟩; have H6 := Aside0.mk hw; clear hw ht x2))
        refine ⟨⟨k + 1, v4, by omega, by go_num, ⟨?_⟩⟩, by simp [intOf]; omega⟩
        rw [HS.out]
        unfold pointW wput8
        simp only [if_true, if_false, Bool.false_eq_true, reduceIte]
        exact ⟨H6.out.st, H6.out.ok.mono (by omega), H6.out.bel, H6.out.sz⟩
    · obtain rfl : k = l.length := by omega
      have d1 : decide ((l.length : Int) < (l.length : Int)) = false := decide_eq_false (by omega)
      have d2 : decide (l.length < l.length) = false := decide_eq_false (by omega)
      have hH := H.out
      rw [List.take_length] at hH
      have HE := Aside0.mk hH
      have hlen : (seekW l).1.length ≤ 1000000000000 := by
        have h := hH.ok
        have h1 := h.1
        have h2 := h.2.1
        have h3 := h.2.2
        omega
      have HL := Aside0.mk hlen
      clear hH hlen
      go_wp2_with (first | (go_at_call 51; (with_reducible refine (bytes_calls HE.out.st HL.out).mono ?_); rintro e w7 ⟨v7, rfl, hr7, hb7⟩; have R7 := Aside0.mk hr7; have B7 := Aside0.mk (below_step HE.out.bel hb7); have Z7 := Aside0.mk HE.out.sz; clear hr7 hb7))
      go_ret
      exact ⟨_, rfl, Kd.R_lower R7.out Z7.out, B7.out⟩
end Go.Proofs.Ytpeejdmbnlhjmaa.H
