/- Is a text one (meta.Text): the proof that the program's call comes to a plain function. For any text. -/
import Derived.Test.YtpeejdmbnlhjmaaProg
import Derived.Below
import Derived.Deep.Draws
import Derived.Deep.AppendLies
import Derived.Maps.AppendAt
import Derived.OwnWalk
import Derived.Laws.BytesArg
import Derived.Laws.MakeOwn
import Derived.Laws.OwnMore
import Derived.Deep.OwnRows
import Derived.Tactics
import Derived.Lib.ConvBytes
import Derived.Laws.Slices
import Derived.WalkKit
import Derived.KernelRfl
import Derived.RowKit3
import Derived.Deep.LoopGhost
import Derived.Deep.QuietTactic
import Derived.BigQuiet
import Derived.WideLaws
import Derived.Deep.DeepCutAuto
import Derived.Deep.CutBlock
import Derived.Deep.RegionHeld3
import Derived.Laws.Rows
import Derived.Lib.AppendStr
import Derived.ArgAppend
import Derived.Laws.IdiomCopy
import Derived.OrdersHeld
import Derived.Laws.BitsLemmas
import Derived.RowKit
import Derived.Test.YtpeejdmbnlhjmaaWWords
import Derived.Test.YtpeejdmbnlhjmaaWLast
import Derived.Test.YtpeejdmbnlhjmaaWTab
import Derived.Test.YtpeejdmbnlhjmaaWFour
import Derived.Test.YtpeejdmbnlhjmaaWQPut
import Derived.Test.YtpeejdmbnlhjmaaWApart
import Derived.Test.YtpeejdmbnlhjmaaWArr
import Derived.Test.YtpeejdmbnlhjmaaWZeros
import Derived.Test.YtpeejdmbnlhjmaaWFoot
import Derived.Test.YtpeejdmbnlhjmaaWKept
import Derived.Test.YtpeejdmbnlhjmaaWShare
import Derived.Test.YtpeejdmbnlhjmaaWN
import Derived.Test.YtpeejdmbnlhjmaaWFootNe
import Derived.Test.YtpeejdmbnlhjmaaWAt
import Derived.Test.YtpeejdmbnlhjmaaWEqStruct
import Derived.Test.YtpeejdmbnlhjmaaWRepsOne
import Derived.Test.YtpeejdmbnlhjmaaWInv
import Derived.Test.YtpeejdmbnlhjmaaWInvWords
import Derived.Test.YtpeejdmbnlhjmaaWGuard
import Derived.Test.YtpeejdmbnlhjmaaWNEv
import Derived.Test.YtpeejdmbnlhjmaaWMore
import Derived.Laws.RangeAny
import Derived.Outline
import Derived.Test.YtpeejdmbnlhjmaaMshelf
namespace Go.Proofs.Ytpeejdmbnlhjmaa.H
open Go.RowKit Go.Proofs.YtpeejdmbnlhjmaaW.PrintWords Go.Proofs.YtpeejdmbnlhjmaaW.PrintLast Go.Proofs.YtpeejdmbnlhjmaaW.PrintMore
attribute [local go_sem] max2_int min2_int max_two min_two max_three min_three max_four min_four   -- for this text's walks alone
set_option linter.unusedVariables false
set_option linter.unusedSimpArgs false
/-- A world whose iterator at g stands elsewhere. -/
def iterPut (w : World) (g : Nat) (s : ByteArray) (p : Nat) : World := { w with heap := w.heap.setIfInBounds g (.stringIter s p) }
theorem iterPut_size (w : World) (g : Nat) (s : ByteArray) (p : Nat) : (iterPut w g s p).heap.size = w.heap.size := Array.size_setIfInBounds ..
theorem iterPut_at {w : World} {g : Nat} {s : ByteArray} {q p : Nat} (h : w.heap[g]? = some (.stringIter s q)) : (iterPut w g s p).heap[g]? = some (.stringIter s p) := by
  have hg : g < w.heap.size := (Array.getElem?_eq_some_iff.1 h).1
  show (w.heap.setIfInBounds g (.stringIter s p))[g]? = _
  simp [hg]
theorem iterPut_below {w0 w : World} {B g : Nat} {s : ByteArray} {p : Nat} (h : Below B w0 w) (hg : B ≤ g) : Below B w0 (iterPut w g s p) := by
  refine ⟨h.os, h.tape, h.output, by rw [iterPut_size]; exact h.size, fun i hi => ?_⟩
  refine Eq.trans ?_ (h.block i hi)
  show (w.heap.setIfInBounds g (.stringIter s p))[i]? = _
  rw [Array.getElem?_setIfInBounds_ne (by omega)]
theorem run_next_in {P : Program} (w : World) (g : Nat) (s : ByteArray) (pos : Nat) (ty : TypeId) (hg : w.heap[g]? = some (.stringIter s pos)) (h : pos < s.size) :
    (Instr.next (.pointer (some ⟨g, 0, none⟩)) true ty).run P w = .ok (.tuple #[.bool true, .int .i64 pos, .int .i32 (Utf8.decode s pos).1]) (iterPut w g s (pos + (Utf8.decode s pos).2)) := by
  simp only [Instr.next, getObj, setObj, Sem.run_bind, Sem.run, hg, Result.andThen, h, if_true]
  simp [goInt, iterPut, Sem.run, hg]
theorem run_next_out {P : Program} (w : World) (g : Nat) (s : ByteArray) (pos : Nat) (ty : TypeId) (hg : w.heap[g]? = some (.stringIter s pos)) (h : ¬ pos < s.size) :
    (Instr.next (.pointer (some ⟨g, 0, none⟩)) true ty).run P w = .ok (.tuple #[.bool false]) w := by
  simp [Instr.next, getObj, Sem.run, hg, h]
theorem decode_end (s : ByteArray) (p : Nat) (hp : p < s.size) : 1 ≤ (Utf8.decode s p).2 ∧ p + (Utf8.decode s p).2 ≤ s.size := by
  generalize hd : Utf8.decode s p = d
  unfold Utf8.decode at hd
  dsimp only at hd
  split at hd
  · subst hd; simp only; omega
  split at hd
  · split at hd
    · rename_i h1 h2 h3
      simp only [Bool.and_eq_true, decide_eq_true_eq] at h2
      subst hd; simp only; omega
    · subst hd; simp only; omega
  split at hd
  · split at hd
    · rename_i h1 h2 h3 h4
      simp only [Bool.and_eq_true, decide_eq_true_eq] at h3
      subst hd; simp only; omega
    · subst hd; simp only; omega
  split at hd
  · split at hd
    · rename_i h1 h2 h3 h4 h5
      simp only [Bool.and_eq_true, decide_eq_true_eq] at h4
      subst hd; simp only; omega
    · subst hd; simp only; omega
  subst hd; simp only; omega
/-- At a place stands a byte that begins no rune. -/
def badAt (t : ByteArray) (p : Nat) : Bool := decide ((Utf8.decode t p).1 = 65533) && !Lib.hasPrefix (t.extract p t.size).data.toList [239, 191, 189]
def textL (t : ByteArray) : Nat → Nat → Bool
  | 0, _ => true
  | n + 1, p => if p < t.size then (if badAt t p = true then false else textL t n (p + (Utf8.decode t p).2)) else true
def textP (t : ByteArray) : Bool := textL t (t.size + 1) 0
def BoolTo (w : World) (b : Bool) (e : Ending) (w' : World) : Prop := e = .returned (.bool b) ∧ Below w.heap.size w w'
set_option maxHeartbeats 8000000 in
set_option maxRecDepth 100000 in
theorem text_calls (t : ByteArray) (w : World) (ht : t.size ≤ 1000000000) : Calls Try.prog 22 #[.string t] w (BoolTo w (textP t)) := by
  go_enter Try.func22, Try.ntmps22
  go_upto_block 0 with fail
  have G0 := Aside0.mk (World.iter_heap w t 0)
  have HB2 : Aside0 (Below w.heap.size w (w.iter t 0)) := ⟨below_alloc (Below.refl _ _) (.stringIter t 0)⟩
  have hg := Aside0.mk (Nat.le_refl w.heap.size)
  generalize w.iter t 0 = w2 at *
  generalize hgg : w.heap.size = g at *
  have HGG := Aside0.mk hgg
  clear hgg
  go_wp2_with fail
  go_loopg [3] (t.size + 1) (fun kq v3 wr => ∃ p : Nat, Aside0 (t.size < p + kq ∧ p ≤ t.size) ∧ Aside0 (textL t kq p = textP t) ∧ Aside0 (wr.heap[g]? = some (.stringIter t p)) ∧ Aside0 (Below g w wr))
  case atStart => exact ⟨0, ⟨by omega, by omega⟩, ⟨rfl⟩, G0, HB2⟩
  case round =>
    clear G0 HB2
    obtain ⟨p, HP, HT, HG, HB⟩ := hrel
    cases gk with
    | zero => exact absurd HP.out (by omega)
    | succ n =>
      have h := HT.out
      unfold textL at h
      by_cases hp : p < t.size
      · rw [if_pos hp] at h
        have hnx : ∀ ty, (Instr.next (.pointer (some ⟨g, 0, none⟩)) true ty).run Try.prog wr = _ := fun ty => run_next_in wr g t p ty HG.out hp
        have hle := decode_le t p
        have HG' := Aside0.mk (iterPut_at (p := p + (Utf8.decode t p).2) HG.out)
        have HB' := Aside0.mk (iterPut_below (g := g) (s := t) (p := p + (Utf8.decode t p).2) HB.out hg.out)
        have hend := decode_end t p hp
        have hc0 : (0 : Int) ≤ (p : Int) := Int.natCast_nonneg _
        have hc1 : (p : Int) ≤ (t.size : Int) := by omega
        generalize iterPut wr g t (p + (Utf8.decode t p).2) = w3 at *
        have hp3 := Aside0.mk HP.out
        by_cases hr : (Utf8.decode t p).1 = 65533
        · have hbad : badAt t p = !Lib.hasPrefix (t.extract p t.size).data.toList [239, 191, 189] := by unfold badAt; rw [decide_eq_true hr, Bool.true_and]
          rw [hbad] at h
          rw [hr] at hnx
          by_cases hb : Lib.hasPrefix (t.extract p t.size).data.toList [239, 191, 189] = true
          · rw [hb, if_neg (by decide)] at h
            have H := Aside0.mk h
            have HBB := Aside0.mk hb
            clear h HT HG HB hr hbad hb
            generalize (Utf8.decode t p).2 = wd at *
            go_wp2_with (first | (go_at_call 66; (with_reducible refine (Try.strings_HasPrefix _ _ _).mono ?_); rintro e w4 ⟨rfl, rfl⟩; (rw [show Lib.hasPrefix (t.extract p t.size).data.toList (⟨#[239, 191, 189]⟩ : ByteArray).data.toList = true from HBB.out])))
            go_roundg n
            case measure => omega
            case rel => exact ⟨p + wd, ⟨by have := hp3.out; omega, by omega⟩, H, HG', HB'⟩
          · replace hb := Bool.eq_false_iff.mpr hb
            rw [hb, if_pos (by decide)] at h
            have H := Aside0.mk h
            have HBB := Aside0.mk hb
            clear h HT HG HB hr hbad hb
            generalize (Utf8.decode t p).2 = wd at *
            go_wp2_with (first | (go_at_call 66; (with_reducible refine (Try.strings_HasPrefix _ _ _).mono ?_); rintro e w4 ⟨rfl, rfl⟩; (rw [show Lib.hasPrefix (t.extract p t.size).data.toList (⟨#[239, 191, 189]⟩ : ByteArray).data.toList = false from HBB.out])))
            go_ret
            exact ⟨by rw [← H.out]; rfl, by rw [HGG.out]; exact HB'.out⟩
        · have hbad : badAt t p = false := by unfold badAt; rw [decide_eq_false hr, Bool.false_and]
          rw [hbad, if_neg (by decide)] at h
          have r1 : (((Utf8.decode t p).1 : Int) == 65533) = false := beq_eq_false_iff_ne.mpr (by omega)
          have H := Aside0.mk h
          clear h HT HG HB hr hbad
          generalize (Utf8.decode t p).2 = wd at *
          generalize (Utf8.decode t p).1 = c at *
          go_wp2_with fail
          go_roundg n
          case measure => omega
          case rel => exact ⟨p + wd, ⟨by have := hp3.out; omega, by omega⟩, H, HG', HB'⟩
      · have hnx : ∀ ty, (Instr.next (.pointer (some ⟨g, 0, none⟩)) true ty).run Try.prog wr = _ := fun ty => run_next_out wr g t p ty HG.out hp
        rw [if_neg hp] at h
        have H := Aside0.mk h
        clear h HT HG hp
        go_wp2_with fail
        go_ret
        exact ⟨by rw [← H.out]; rfl, by rw [HGG.out]; exact HB.out⟩
end Go.Proofs.Ytpeejdmbnlhjmaa.H
