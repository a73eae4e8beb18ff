/- The chapter's example of subframes (serinettelaw16.awake): the proof that the program's call answers true. -/
import Derived.Test.YtpeejdmbnlhjmaaProg
import Derived.Below
import Derived.Deep.Draws
import Derived.Deep.AppendLies
import Derived.Maps.AppendAt
import Derived.OwnWalk
import Derived.Laws.BytesArg
import Derived.Laws.MakeOwn
import Derived.Laws.OwnMore
import Derived.Deep.OwnRows
import Derived.Tactics
import Derived.Lib.ConvBytes
import Derived.Laws.Slices
import Derived.WalkKit
import Derived.KernelRfl
import Derived.RowKit3
import Derived.Deep.LoopGhost
import Derived.Deep.QuietTactic
import Derived.BigQuiet
import Derived.WideLaws
import Derived.Deep.DeepCutAuto
import Derived.Deep.CutBlock
import Derived.Deep.RegionHeld3
import Derived.Laws.Rows
import Derived.Lib.AppendStr
import Derived.ArgAppend
import Derived.Laws.IdiomCopy
import Derived.OrdersHeld
import Derived.Laws.BitsLemmas
import Derived.RowKit
import Derived.Test.YtpeejdmbnlhjmaaWWords
import Derived.Test.YtpeejdmbnlhjmaaWLast
import Derived.Test.YtpeejdmbnlhjmaaWTab
import Derived.Test.YtpeejdmbnlhjmaaWFour
import Derived.Test.YtpeejdmbnlhjmaaWQPut
import Derived.Test.YtpeejdmbnlhjmaaWApart
import Derived.Test.YtpeejdmbnlhjmaaWArr
import Derived.Test.YtpeejdmbnlhjmaaWZeros
import Derived.Test.YtpeejdmbnlhjmaaWFoot
import Derived.Test.YtpeejdmbnlhjmaaWKept
import Derived.Test.YtpeejdmbnlhjmaaWShare
import Derived.Test.YtpeejdmbnlhjmaaWN
import Derived.Test.YtpeejdmbnlhjmaaWFootNe
import Derived.Test.YtpeejdmbnlhjmaaWAt
import Derived.Test.YtpeejdmbnlhjmaaWEqStruct
import Derived.Test.YtpeejdmbnlhjmaaWRepsOne
import Derived.Test.YtpeejdmbnlhjmaaWInv
import Derived.Test.YtpeejdmbnlhjmaaWInvWords
import Derived.Test.YtpeejdmbnlhjmaaWGuard
import Derived.Test.YtpeejdmbnlhjmaaWNEv
import Derived.Test.YtpeejdmbnlhjmaaWMore
import Derived.Test.YtpeejdmbnlhjmaaSpre
import Derived.Test.YtpeejdmbnlhjmaaSclone
import Derived.Test.YtpeejdmbnlhjmaaSplain
import Derived.Test.YtpeejdmbnlhjmaaSshelf
import Derived.Test.YtpeejdmbnlhjmaaSwriter
namespace Go.Proofs.Ytpeejdmbnlhjmaa.H
open Go.RowKit Go.Proofs.YtpeejdmbnlhjmaaW.PrintWords Go.Proofs.YtpeejdmbnlhjmaaW.PrintLast Go.Proofs.YtpeejdmbnlhjmaaW.PrintMore
attribute [local go_sem] max2_int min2_int max_two min_two max_three min_three max_four min_four   -- for this text's walks alone
set_option linter.unusedVariables false
set_option linter.unusedSimpArgs false
theorem reps_iints (w : World) (base : Nat) (ok : Nat → Prop) : ∀ xs : List Int, Reps ((Kd.int .i64).M w base ok) (Kd.int .i64).sz xs (xs.map (fun x => Value.int .i64 x))
  | [] => Reps.none _ _
  | x :: xs => Reps.one (show Kd.M (Kd.int .i64) _ _ _ x [.int .i64 x] from rfl) (reps_iints w base ok xs)
theorem R_of_iblk {w : World} {g base : Nat} {xs : List Int} (hg : w.heap[g]? = some (.cells (xs.map (fun x => Value.int .i64 x)).toArray 3 (0, 0))) (hb : base ≤ g) (hm : xs.length ≤ 1000000) :
    Kd.R (Kd.int .i64) 3 w base (fun _ => True) (.slice (some ⟨g, 0, none⟩) xs.length xs.length) xs :=
  ⟨fun _ _ => trivial, xs.map (fun x => Value.int .i64 x), ⟨by simp [Kd.int, Kd.scalar], .inr ⟨g, xs.length, _, rfl, hb, hg, Nat.le_refl _, by unfold maxLen; omega, by simp [Kd.int, Kd.scalar], by rw [show (Kd.int .i64).sz = 1 from rfl, Nat.mul_one]; exact List.take_of_length_le (by simp)⟩⟩, reps_iints _ _ _ _⟩
abbrev plainCells (K Wa : Int) : Array Value := #[.int .i64 K, .int .i64 Wa, .int .i64 0, .int .i64 0, .int .i64 0, .slice none 0 0, .bool false, .int .i64 0, .slice none 0 0]
/-- The subframes without factors or parts. -/
theorem put_plain0 (k : Nat) {B : Nat} {w0 w : World} {g : Nat} {v : Value} {s : List Int × Int} {N : Int} (h : WAt B w0 g v s N w) (A : Option Addr) (n c : Nat) (l : List Int) (K Wa D : Int) (hn : l.length = n)
    (hN : N ≤ 800000000000) (hF : Kd.F (Kd.int .i64) w (fun k => k ≠ g ∧ some k ≠ v.ownBlock) A l.length l) (hc : l.length ≤ c) (ho : subframe_odd.f k l K Wa 0 0 0 [] false 0 [] D = some 0)
    (h1 : 0 ≤ Wa) (h2 : Wa ≤ D) (h3 : D ≤ 33) (h4 : l.length ≤ 65535) (h5 : 1 ≤ l.length) (hK : K = 0 ∧ ¬ compN l > 1 ∨ K = 1) :
    Calls Try.prog 49 #[.pointer (some ⟨g, 0, none⟩), .slice A n c, .agg (plainCells K Wa), .int .i64 D] w (PutTo B w0 g v w (putPlain s l K Wa D) (N + 256 + 64 * n)) := by
  subst hn
  exact put_plain k h A c l K Wa 0 0 0 none 0 [] false 0 none 0 [] D hN hF hc (Kd.C_nil _ _) (Nat.le_refl _) (Kd.C_nil _ _) (Nat.le_refl _) ho h1 h2 h3 h4 h5 hK
def bits0 (k : Nat) (l : List Int) (K D : Int) : Option (Int × Int) := bits01 k l K 0 0 0 0 [] false 0 [] D
theorem bits0_calls (k : Nat) (A : Option Addr) (n c : Nat) (l : List Int) (K Wa D : Int) (w : World) (a b : Int) (hn : l.length = n) (hr : Kd.C (Kd.int .i64) w A l.length l) (hc : l.length ≤ c) (h : bits01 k l K Wa 0 0 0 [] false 0 [] D = some (a, b)) :
    Calls Try.prog 46 #[.slice A n c, .agg (plainCells K Wa), .int .i64 D] w (OneInt2 w a b) := by
  subst hn
  unfold bits01 at h
  obtain ⟨e, ho, h⟩ := Option.bind_eq_some_iff.mp h
  by_cases he : e = 0
  · subst he
    rw [if_pos rfl] at h
    split at h
    case isFalse => cases h
    rename_i hh
    refine bits_good k A c l K Wa 0 0 0 none 0 [] false 0 none 0 [] D w a b hr hc (Kd.C_nil _ _) (Nat.le_refl _) (Kd.C_nil _ _) (Nat.le_refl _) ho hh.1 hh.2.1 hh.2.2.1 hh.2.2.2 ?_
    by_cases h0 : K = 0
    · rw [if_pos h0] at h
      by_cases hc : compN l > 1
      · rw [if_pos hc] at h
        cases h
        exact .inl ⟨h0, .inl ⟨hc, rfl, rfl⟩⟩
      · rw [if_neg hc] at h
        cases h
        exact .inl ⟨h0, .inr ⟨hc, rfl, rfl⟩⟩
    · rw [if_neg h0] at h
      split at h
      · rename_i h1
        cases h
        exact .inr ⟨h1, rfl, rfl⟩
      · cases h
  · rw [if_neg he] at h
    cases h
    exact bits_bad k A c l K Wa 0 0 0 none 0 [] false 0 none 0 [] D w _ hr hc (Kd.C_nil _ _) (Nat.le_refl _) (Kd.C_nil _ _) (Nat.le_refl _) ho he
def BRowPost (w : World) (l : List Int) (e : Ending) (w' : World) : Prop := ∃ v, e = .returned v ∧ Kd.R (Kd.int .u8) 5 w' w.heap.size (fun _ => True) v l ∧ Below w.heap.size w w'
set_option maxHeartbeats 8000000 in
theorem bytes_calls {B : Nat} {w : World} {g : Nat} {v : Value} {bs : List Int} {n : Int} (h : WSt B w g v bs n) (hl : bs.length ≤ 1000000000000) : Calls Try.prog 51 #[.pointer (some ⟨g, 0, none⟩)] w (BRowPost w bs) := by
  obtain ⟨A, c, rfl⟩ := Kd.R_slice h.2.2
  have hR := Kd.R_reads' h.2.2
  have HC := Aside0.mk hR.2.2
  have HL := Aside0.mk hR.2.1
  obtain ⟨x0, x1⟩ := wcell h
  have HF := Aside0.mk (show bytes_Clone.f bs = some bs from if_pos hl)
  clear h hR
  go_enter Try.func51, Try.ntmps51
  go_wp2_with (first | (go_at_call 62; (with_reducible refine (bytes_Clone.calls A c bs bs _ HC.out HL.out HF.out).mono ?_); rintro e w1 ⟨v1, rfl, hr, hb⟩; have HR1 := Aside0.mk hr; have HB1 := Aside0.mk hb; clear hr hb))
  go_ret
  exact ⟨_, rfl, HR1.out, HB1.out⟩
theorem wnew (w : World) : WAt w.heap.size w w.heap.size (.slice none 0 0) ([], 0) 0 (w.alloc (.cells #[.slice none 0 0, .int .i64 0] 143)) :=
  ⟨⟨blk_new w _, Nat.le_refl _, Kd.R_nil _ _ _ _ _⟩, ⟨by decide, by decide, by decide⟩, below_alloc (Below.refl _ _) _, by have : (w.alloc (.cells #[.slice none 0 0, .int .i64 0] 143)).heap.size = w.heap.size + 1 := Array.size_push ..; omega⟩
theorem odd_wake : subframe_odd.f 40 [-1, -1] 0 0 0 0 0 [] false 0 [] 8 = some 0 := by decide +kernel
theorem comp_wake : compN [-1, -1] = 1 := by decide +kernel
theorem put_wake : putPlain ([], 0) [-1, -1] 0 0 8 = ([0, 255], 16) := by decide +kernel
theorem bits_wake : bits01 40 [-1, -1] 0 0 0 0 0 [] false 0 [] 8 = some (16, 0) := by decide +kernel
theorem same_wake : serinetteref01_Same.f 10 [0, 255] [0, 255] = some true := by decide +kernel
theorem nonempty1 {l : List Int} (h : l = [-1, -1]) : 1 ≤ l.length := by rw [h]; decide
theorem same_n (k : Nat) (A0 : Option Addr) (n0 c0 : Nat) (l0 : List Int) (A1 : Option Addr) (n1 c1 : Nat) (l1 : List Int) (r : Bool) (w : World) (h0 : l0.length = n0) (h1 : l1.length = n1) (hr0 : Kd.C (Kd.int .u8) w A0 l0.length l0) (hc0 : l0.length ≤ c0) (hr1 : Kd.C (Kd.int .u8) w A1 l1.length l1) (hc1 : l1.length ≤ c1) (h : serinetteref01_Same.f k l0 l1 = some r) :
    Calls Try.prog 21 #[.slice A0 n0 c0, .slice A1 n1 c1] w fun e w' => e = .returned (.bool r) ∧ Below w.heap.size w w' := by
  subst h0 h1
  refine (serinetteref01_Same.calls k A0 c0 l0 A1 c1 l1 r w hr0 hc0 hr1 hc1 h).mono ?_
  rintro e w' ⟨he, hd⟩
  exact ⟨he, by first | exact hd | exact hd.below | (obtain ⟨m, rfl⟩ := hd; exact pw_below_drewN (Below.refl _ _) _)⟩
theorem lit2i (w : World) (base : Nat) (hb : base ≤ w.heap.size) : Kd.R (Kd.int .i64) 3 (w.alloc (.cells #[.int .i64 (-1), .int .i64 (-1)] 3)) base (fun _ => True) (.slice (some ⟨w.heap.size, 0, none⟩) ([-1, -1] : List Int).length 2) [-1, -1] :=
  R_of_iblk (xs := [-1, -1]) (blk_new w _) hb (by decide)
theorem lit2b (w : World) (base : Nat) (hb : base ≤ w.heap.size) : Kd.R (Kd.int .u8) 5 (w.alloc (.cells #[.int .u8 0, .int .u8 255] 5)) base (fun _ => True) (.slice (some ⟨w.heap.size, 0, none⟩) ([0, 255] : List Int).length 2) [0, 255] :=
  R_of_blk (xs := [0, 255]) (blk_new w _) hb (by decide)
def WakePost (w : World) (e : Ending) (w' : World) : Prop := e = .returned (.bool true) ∧ Below w.heap.size w w'
set_option maxHeartbeats 8000000 in
set_option maxRecDepth 100000 in
theorem awake16_calls (w : World) : Calls Try.prog 45 #[] w (WakePost w) := by
  obtain ⟨xs, hxs⟩ : ∃ xs : List Int, xs = [-1, -1] := ⟨_, rfl⟩
  have HXS := Aside0.mk hxs
  have N0 := Aside0.mk (wnew w)
  have hg := Aside0.mk (show ∀ o, (w.alloc o).heap.size = w.heap.size + 1 from fun o => Array.size_push ..)
  clear hxs
  go_enter Try.func45, Try.ntmps45
  go_upto_region 4 with (first | (go_at_call 48; (with_reducible refine (new_calls _).mono ?_); rintro e w1 ⟨rfl, rfl⟩))
  generalize w.alloc (.cells #[.slice none 0 0, .int .i64 0] 143) = w1 at *
  have N1 := Aside0.mk (N0.out.other (below_alloc (Below.refl _ _) (.cells #[.int .i64 (-1), .int .i64 (-1)] 3)))
  have FX := Aside0.mk (own_away (lit2i w1 _ (Nat.le_refl _)) N0.out.st)
  go_upto_region 5 with (first | (go_at_call 49; (with_reducible refine (put_plain0 40 N1.out.1 _ 2 2 [-1, -1] 0 0 8 rfl (by decide) FX.out (by decide) odd_wake (by decide) (by decide) (by decide) (by decide) (by decide) (.inl ⟨rfl, by rw [comp_wake]; decide⟩)).mono ?_); rintro e w2 ⟨rfl, v2, hw, ht⟩; rw [put_wake] at hw; have WA2 := Aside0.mk hw; clear hw ht))
  have CX := Aside0.mk (Kd.R_reads' (lit2i w2 0 (Nat.zero_le _))).2.2
  go_upto_region 6 with (first | (go_at_call 46; (with_reducible refine (bits0_calls 40 _ 2 2 [-1, -1] 0 0 8 _ 16 0 rfl CX.out (by decide) bits_wake).mono ?_); rintro e w3 ⟨rfl, hb⟩; have WA3 := Aside0.mk (WA2.out.other (below_step (below_alloc (Below.refl _ _) _) hb)).1; clear hb))
  go_wp2_with (first
    | (go_at_call 51; (with_reducible refine (bytes_calls WA3.out.st (by decide)).mono ?_); rintro e w4 ⟨v4, rfl, hr, hb⟩; obtain ⟨A4, c4, rfl⟩ := Kd.R_slice hr; have R4 := Aside0.mk hr; have WA4 := Aside0.mk (WA3.out.other hb).1; clear hr hb)
    | (go_at_call 21; (with_reducible refine (same_n 10 A4 2 c4 [0, 255] _ 2 2 [0, 255] true _ rfl rfl (Kd.C_alloc (Kd.R_reads' R4.out).2.2 _) (Kd.R_reads' R4.out).2.1 (Kd.R_reads' (lit2b w4 0 (Nat.zero_le _))).2.2 (by decide) same_wake).mono ?_); rintro e w5 ⟨rfl, hb⟩; have WA5 := Aside0.mk ((WA4.out.other (below_alloc (Below.refl _ _) _)).1.other hb).1; clear hb))
  go_ret
  exact ⟨rfl, WA5.out.bel⟩
end Go.Proofs.Ytpeejdmbnlhjmaa.H
