/- Bits laid by a subframe's parts (subframe.waste, subframe.all), with the proofs that the program's calls come to plain functions. For any numbers. -/
import Derived.Test.YtpeejdmbnlhjmaaProg
import Derived.Below
import Derived.Deep.Draws
import Derived.Deep.AppendLies
import Derived.Maps.AppendAt
import Derived.OwnWalk
import Derived.Laws.BytesArg
import Derived.Laws.MakeOwn
import Derived.Laws.OwnMore
import Derived.Deep.OwnRows
import Derived.Tactics
import Derived.Lib.ConvBytes
import Derived.Laws.Slices
import Derived.WalkKit
import Derived.KernelRfl
import Derived.RowKit3
import Derived.Deep.LoopGhost
import Derived.Deep.QuietTactic
import Derived.BigQuiet
import Derived.WideLaws
import Derived.Deep.DeepCutAuto
import Derived.Deep.CutBlock
import Derived.Deep.RegionHeld3
import Derived.Laws.Rows
import Derived.Lib.AppendStr
import Derived.ArgAppend
import Derived.Laws.IdiomCopy
import Derived.OrdersHeld
import Derived.Laws.BitsLemmas
import Derived.RowKit
import Derived.Test.YtpeejdmbnlhjmaaWWords
import Derived.Test.YtpeejdmbnlhjmaaWLast
import Derived.Test.YtpeejdmbnlhjmaaWTab
import Derived.Test.YtpeejdmbnlhjmaaWFour
import Derived.Test.YtpeejdmbnlhjmaaWQPut
import Derived.Test.YtpeejdmbnlhjmaaWApart
import Derived.Test.YtpeejdmbnlhjmaaWArr
import Derived.Test.YtpeejdmbnlhjmaaWZeros
import Derived.Test.YtpeejdmbnlhjmaaWFoot
import Derived.Test.YtpeejdmbnlhjmaaWKept
import Derived.Test.YtpeejdmbnlhjmaaWShare
import Derived.Test.YtpeejdmbnlhjmaaWN
import Derived.Test.YtpeejdmbnlhjmaaWFootNe
import Derived.Test.YtpeejdmbnlhjmaaWAt
import Derived.Test.YtpeejdmbnlhjmaaWEqStruct
import Derived.Test.YtpeejdmbnlhjmaaWRepsOne
import Derived.Test.YtpeejdmbnlhjmaaWInv
import Derived.Test.YtpeejdmbnlhjmaaWInvWords
import Derived.Test.YtpeejdmbnlhjmaaWGuard
import Derived.Test.YtpeejdmbnlhjmaaWNEv
import Derived.Test.YtpeejdmbnlhjmaaWMore
import Derived.Test.YtpeejdmbnlhjmaaSpre
import Derived.Test.YtpeejdmbnlhjmaaSclone
import Derived.Test.YtpeejdmbnlhjmaaSfunc
import Derived.Test.YtpeejdmbnlhjmaaSdown
import Derived.Test.YtpeejdmbnlhjmaaSrest
import Derived.Test.YtpeejdmbnlhjmaaSw
import Derived.Test.YtpeejdmbnlhjmaaSwriter
namespace Go.Proofs.Ytpeejdmbnlhjmaa.H
open Go.RowKit Go.Proofs.YtpeejdmbnlhjmaaW.PrintWords Go.Proofs.YtpeejdmbnlhjmaaW.PrintLast Go.Proofs.YtpeejdmbnlhjmaaW.PrintMore
attribute [local go_sem] max2_int min2_int max_two min_two max_three min_three max_four min_four   -- for this text's walks alone
set_option linter.unusedVariables false
set_option linter.unusedSimpArgs false
def wput1 (s : List Int × Int) (u width : Int) : List Int × Int := wput 64 s.1 s.2 u (max 0 (min width 64))
def WOk (s : List Int × Int) (N : Int) : Prop := 0 ≤ s.2 ∧ s.2 ≤ N ∧ (s.1.length : Int) = (s.2 + 7) / 8
theorem wput_ok : ∀ (f : Nat) (bs : List Int) (n u left : Int), 0 ≤ n → (bs.length : Int) = (n + 7) / 8 → 0 ≤ left → 0 ≤ (wput f bs n u left).2 ∧ (wput f bs n u left).2 ≤ n + left ∧ ((wput f bs n u left).1.length : Int) = ((wput f bs n u left).2 + 7) / 8
  | 0, bs, n, u, left, h0, hl, h1 => ⟨h0, by show n ≤ n + left; omega, hl⟩
  | f + 1, bs, n, u, left, h0, hl, h1 => by
    unfold wput
    split
    · exact ⟨h0, by show n ≤ n + left; omega, hl⟩
    · have hm0 : 0 ≤ wMany n left := by unfold wMany; omega
      have hm1 : wMany n left ≤ left := by unfold wMany; omega
      have hm2 : wMany n left ≤ 8 - n % 8 := by unfold wMany; omega
      have hm3 : 1 ≤ wMany n left := by unfold wMany; omega
      have hr : ((wRow bs n).length : Int) = n / 8 + 1 := by
        unfold wRow
        split
        · rw [List.length_append]
          simp only [List.length_cons, List.length_nil]
          omega
        · omega
      have ih := wput_ok f ((wRow bs n).set ((wRow bs n).length - 1) (wByte bs n u left)) (n + wMany n left) u (left - wMany n left) (by omega) (by rw [List.length_set]; omega) (by omega)
      exact ⟨ih.1, by omega, ih.2.2⟩
theorem wput1_ok {s : List Int × Int} {N : Int} (h : WOk s N) (u width : Int) : WOk (wput1 s u width) (N + 64) := by
  obtain ⟨h0, h1, h2⟩ := h
  have := wput_ok 64 s.1 s.2 u (max 0 (min width 64)) h0 h2 (by omega)
  exact ⟨this.1, by have := this.2.1; unfold wput1; omega, this.2.2⟩
theorem WOk.mono {s : List Int × Int} {N M : Int} (h : WOk s N) (hm : N ≤ M) : WOk s M := ⟨h.1, Int.le_trans h.2.1 hm, h.2.2⟩
theorem wother {B : Nat} {W W' : World} {g : Nat} {v : Value} {bs : List Int} {n : Int} (hs : WSt B W g v bs n) (hb : Below W.heap.size W W') : WSt B W' g v bs n ∧ WStep g v W v W' :=
  ⟨⟨(hb.block g (Array.getElem?_eq_some_iff.1 hs.1).1).trans hs.1, hs.2.1, Kd.R_below hs.2.2 hb⟩, ⟨hb.os, hb.tape, hb.output, hb.size, .inl rfl, fun k hk _ _ => hb.block k hk⟩⟩
theorem wF {α : Type} {d : Kd α} {g : Nat} {v v' : Value} {W W' : World} {A : Option Addr} {n : Nat} {xs : List α} (h : Kd.F d W (fun k => k ≠ g ∧ some k ≠ v.ownBlock) A n xs) (hs : WStep g v W v' W') : Kd.F d W' (fun k => k ≠ g ∧ some k ≠ v'.ownBlock) A n xs := by
  refine Kd.F_mono (Kd.F_step (Kd.F_bound h) (fun k hk hlt => hs.block k hlt hk.1.1 hk.1.2)) (fun k hk => ⟨hk.1.1, ?_⟩)
  rcases hs.own with e | ⟨b, e, hb⟩
  · rw [e]; exact hk.1.2
  · rw [e]
    intro he
    injection he with he
    have := hk.2
    omega
/-- A writer beside what stands: its state, whole. -/
structure WAt (B : Nat) (w0 : World) (g : Nat) (v : Value) (s : List Int × Int) (N : Int) (w : World) : Prop where
  st : WSt B w g v s.1 s.2
  ok : WOk s N
  bel : Below B w0 w
  sz : B ≤ w.heap.size
theorem WAt.step {B : Nat} {w0 w w' : World} {g : Nat} {v v' : Value} {s s' : List Int × Int} {N N' : Int} (h : WAt B w0 g v s N w) (hs : WSt B w' g v' s'.1 s'.2) (ht : WStep g v w v' w') (ho : WOk s' N') : WAt B w0 g v' s' N' w' :=
  ⟨hs, ho, WStep.below h.bel h.sz h.st ht, Nat.le_trans h.sz ht.size⟩
theorem WAt.other {B : Nat} {w0 w w' : World} {g : Nat} {v : Value} {s : List Int × Int} {N : Int} (h : WAt B w0 g v s N w) (hb : Below w.heap.size w w') : WAt B w0 g v s N w' ∧ WStep g v w v w' :=
  ⟨h.step (wother h.st hb).1 (wother h.st hb).2 h.ok, (wother h.st hb).2⟩
def WTo (B : Nat) (w0 : World) (g : Nat) (v : Value) (w : World) (s : List Int × Int) (N : Int) (e : Ending) (w' : World) : Prop := e = .returned (.tuple #[]) ∧ ∃ v', WAt B w0 g v' s N w' ∧ WStep g v w v' w'
theorem put1_calls {B : Nat} {w0 w : World} {g : Nat} {v : Value} {s : List Int × Int} {N : Int} (h : WAt B w0 g v s N w) (hN : N ≤ 1000000000000) (u width : Int) (hu : 0 ≤ u ∧ u < 18446744073709551616) :
    Calls Try.prog 83 #[.pointer (some ⟨g, 0, none⟩), .int .u64 u, .int .i64 width] w (WTo B w0 g v w (wput1 s u width) (N + 64)) := by
  refine (put_calls B w0 w g v s.1 s.2 u width h.st h.bel h.sz hu ⟨h.ok.1, Int.le_trans h.ok.2.1 hN⟩ h.ok.2.2).mono ?_
  rintro e w' ⟨rfl, v', h1, h2⟩
  exact ⟨rfl, v', h.step h1 h2 (wput1_ok h.ok u width), h2⟩
/-- How many bits are wasted, laid. -/
def wasteP (s : List Int × Int) (many : Int) : List Int × Int := if many = 0 then wput1 s 0 1 else wput1 (wput1 (wput1 s 1 1) 0 (many - 1)) 1 1
set_option maxHeartbeats 8000000 in
set_option maxRecDepth 100000 in
theorem waste_calls {B : Nat} {w0 w : World} {g : Nat} {v : Value} {s : List Int × Int} {N : Int} (h : WAt B w0 g v s N w) (hN : N ≤ 999999999000) (many : Int) (hm : 0 ≤ many ∧ many ≤ 100) :
    Calls Try.prog 85 #[.pointer (some ⟨g, 0, none⟩), .int .i64 many] w (WTo B w0 g v w (wasteP s many) (N + 192)) := by
  obtain ⟨hm0, hm1⟩ := hm
  have H := Aside0.mk h
  clear h
  by_cases c : many = 0
  · subst c
    go_enter Try.func85, Try.ntmps85
    go_wp2_with (first | (go_at_call 83; (with_reducible refine (put1_calls H.out (by omega) _ _ (by omega)).mono ?_); rintro e w1 ⟨rfl, v1, hw, ht⟩; have H1 := Aside0.mk hw; have T1 := Aside0.mk ht; clear hw ht))
    exact bodyPost_ret (v := .tuple #[]) (by simp [results, go_sem]) rfl ⟨rfl, _, ⟨H1.out.st, H1.out.ok.mono (by omega), H1.out.bel, H1.out.sz⟩, T1.out⟩
  · have c1 : (many == 0) = false := beq_eq_false_iff_ne.mpr c
    have e : wasteP s many = wput1 (wput1 (wput1 s 1 1) 0 (many - 1)) 1 1 := if_neg c
    have E := Aside0.mk e
    clear c e
    go_enter Try.func85, Try.ntmps85
    go_upto_region 3 with (first | (go_at_call 83; (with_reducible refine (put1_calls H.out (by omega) _ _ (by omega)).mono ?_); rintro e w1 ⟨rfl, v1, hw, ht⟩; have H1 := Aside0.mk hw; have T1 := Aside0.mk ht; clear hw ht))
    go_upto_region 4 with (first | (go_at_call 83; (with_reducible refine (put1_calls H1.out (by omega) _ _ (by omega)).mono ?_); rintro e w2 ⟨rfl, v2, hw, ht⟩; have H2 := Aside0.mk hw; have T2 := Aside0.mk (T1.out.trans ht); clear hw ht))
    go_wp2_with (first | (go_at_call 83; (with_reducible refine (put1_calls H2.out (by omega) _ _ (by omega)).mono ?_); rintro e w3 ⟨rfl, v3, hw, ht⟩; have H3 := Aside0.mk hw; have T3 := Aside0.mk (T2.out.trans ht); clear hw ht))
    exact bodyPost_ret (v := .tuple #[]) (by simp [results, go_sem]) rfl ⟨rfl, _, by rw [E.out]; exact ⟨H3.out.st, H3.out.ok.mono (by omega), H3.out.bel, H3.out.sz⟩, T3.out⟩
theorem u64_rng (x : Int) : 0 ≤ IntKind.u64.wrap x ∧ IntKind.u64.wrap x < 18446744073709551616 := by
  simp [IntKind.wrap, IntKind.bits, IntKind.signed]
  omega
/-- Numbers laid one behind the other. -/
def allP (s : List Int × Int) (l : List Int) (width : Int) : List Int × Int := l.foldl (fun s x => wput1 s (IntKind.u64.wrap x) width) s
theorem allP_take (s : List Int × Int) (l : List Int) (width : Int) (k : Nat) (h : k < l.length) : allP s (l.take (k + 1)) width = wput1 (allP s (l.take k) width) (IntKind.u64.wrap l[k]) width := by
  unfold allP
  rw [List.take_succ_eq_append_getElem h, List.foldl_append]
  rfl
set_option maxHeartbeats 8000000 in
set_option maxRecDepth 100000 in
theorem all_calls {B : Nat} {w0 w : World} {g : Nat} {v : Value} {s : List Int × Int} {N : Int} (h : WAt B w0 g v s N w) (A : Option Addr) (c : Nat) (l : List Int) (width : Int) (hN : N ≤ 900000000000) (hl : l.length ≤ 1000000000) (hF : Kd.F (Kd.int .i64) w (fun k => k ≠ g ∧ some k ≠ v.ownBlock) A l.length l) :
    Calls Try.prog 87 #[.pointer (some ⟨g, 0, none⟩), .slice A l.length c, .int .i64 width] w (WTo B w0 g v w (allP s l width) (N + 64 * l.length)) := by
  have H := Aside0.mk h
  have HF := Aside0.mk hF
  have T0 := Aside0.mk (WStep.refl g v w)
  clear h hF
  go_enter Try.func87, Try.ntmps87
  go_wp2
  go_loopw [10] (fun i wr => ∃ (k : Nat) (v1 : Value), k ≤ l.length ∧ i = .int .i64 k ∧ Aside0 (WAt B w0 g v1 (allP s (l.take k) width) (N + 64 * k) wr) ∧ Aside0 (WStep g v w v1 wr) ∧ Aside0 (Kd.F (Kd.int .i64) wr (fun k => k ≠ g ∧ some k ≠ v1.ownBlock) A l.length l)) (fun i _ => l.length - (intOf i).toNat)
  case atStart => exact ⟨0, v, Nat.zero_le _, rfl, ⟨by simpa [allP] using H.out⟩, T0, HF⟩
  case round =>
    clear H HF T0
    obtain ⟨k, v1, hk, rfl, H, T, HF⟩ := hrel
    by_cases hlt : k < l.length
    · have d1 : decide ((k : Int) < (l.length : Int)) = true := decide_eq_true (by omega)
      have d2 : decide (k < l.length) = true := decide_eq_true (by omega)
      obtain ⟨ad, e1, hx⟩ := Kd.at_int (Kd.F_now HF.out) (k : Int) (by omega) (by omega)
      cases e1
      rw [rd_at l k hlt, Int.toNat_natCast] at hx
      have HS := Aside0.mk (allP_take s l width k hlt)
      generalize l[k] = x at hx HS
      have k1 : (0 : Int) ≤ (k : Int) := Int.natCast_nonneg _
      have k2 : (k : Int) < (l.length : Int) := by omega
      go_wp2_with (first | (go_at_call 83; (with_reducible refine (put1_calls H.out (by omega) _ _ (u64_rng _)).mono ?_); rintro e w1 ⟨rfl, v2, hw, ht⟩; have H1 := Aside0.mk hw; have T1 := Aside0.mk (T.out.trans ht); have F1 := Aside0.mk (wF HF.out ht); clear hw ht))
      refine ⟨⟨k + 1, v2, by omega, by go_num, ⟨?_⟩, T1, F1⟩, by simp [intOf]; omega⟩
      rw [HS.out]
      exact ⟨H1.out.st, H1.out.ok.mono (by omega), H1.out.bel, H1.out.sz⟩
    · obtain rfl : k = l.length := by omega
      have d1 : decide ((l.length : Int) < (l.length : Int)) = false := decide_eq_false (by omega)
      have d2 : decide (l.length < l.length) = false := decide_eq_false (by omega)
      have hH := H.out
      rw [List.take_length] at hH
      have HE := Aside0.mk hH
      clear hH
      go_wp2
      exact bodyPost_ret (v := .tuple #[]) (by simp [results, go_sem]) rfl ⟨rfl, _, HE.out, T.out⟩
end Go.Proofs.Ytpeejdmbnlhjmaa.H
