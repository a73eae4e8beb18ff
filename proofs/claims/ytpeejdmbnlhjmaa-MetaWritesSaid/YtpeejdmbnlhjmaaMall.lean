/- Is a text one (meta.Text): the proof that the program's call comes to a plain function. For any text. -/
import Derived.Test.YtpeejdmbnlhjmaaProg
import Derived.Below
import Derived.Deep.Draws
import Derived.Deep.AppendLies
import Derived.Maps.AppendAt
import Derived.OwnWalk
import Derived.Laws.BytesArg
import Derived.Laws.MakeOwn
import Derived.Laws.OwnMore
import Derived.Deep.OwnRows
import Derived.Tactics
import Derived.Lib.ConvBytes
import Derived.Laws.Slices
import Derived.WalkKit
import Derived.KernelRfl
import Derived.RowKit3
import Derived.Deep.LoopGhost
import Derived.Deep.QuietTactic
import Derived.BigQuiet
import Derived.WideLaws
import Derived.Deep.DeepCutAuto
import Derived.Deep.CutBlock
import Derived.Deep.RegionHeld3
import Derived.Laws.Rows
import Derived.Lib.AppendStr
import Derived.ArgAppend
import Derived.Laws.IdiomCopy
import Derived.OrdersHeld
import Derived.Laws.BitsLemmas
import Derived.RowKit
import Derived.Test.YtpeejdmbnlhjmaaWWords
import Derived.Test.YtpeejdmbnlhjmaaWLast
import Derived.Test.YtpeejdmbnlhjmaaWTab
import Derived.Test.YtpeejdmbnlhjmaaWFour
import Derived.Test.YtpeejdmbnlhjmaaWQPut
import Derived.Test.YtpeejdmbnlhjmaaWApart
import Derived.Test.YtpeejdmbnlhjmaaWArr
import Derived.Test.YtpeejdmbnlhjmaaWZeros
import Derived.Test.YtpeejdmbnlhjmaaWFoot
import Derived.Test.YtpeejdmbnlhjmaaWKept
import Derived.Test.YtpeejdmbnlhjmaaWShare
import Derived.Test.YtpeejdmbnlhjmaaWN
import Derived.Test.YtpeejdmbnlhjmaaWFootNe
import Derived.Test.YtpeejdmbnlhjmaaWAt
import Derived.Test.YtpeejdmbnlhjmaaWEqStruct
import Derived.Test.YtpeejdmbnlhjmaaWRepsOne
import Derived.Test.YtpeejdmbnlhjmaaWInv
import Derived.Test.YtpeejdmbnlhjmaaWInvWords
import Derived.Test.YtpeejdmbnlhjmaaWGuard
import Derived.Test.YtpeejdmbnlhjmaaWNEv
import Derived.Test.YtpeejdmbnlhjmaaWMore
import Derived.Laws.RangeAny
import Derived.Outline
import Derived.Test.YtpeejdmbnlhjmaaMshelf
import Derived.Lib.IndexLaws
import Derived.LoopN
import Derived.Test.YtpeejdmbnlhjmaaSwriter
import Derived.Deep.RegionLaw
/- Is a text one (meta.Text): the proof that the program's call comes to a plain function. For any text. -/
namespace Go.Proofs.Ytpeejdmbnlhjmaa.H
open Go.RowKit Go.Proofs.YtpeejdmbnlhjmaaW.PrintWords Go.Proofs.YtpeejdmbnlhjmaaW.PrintLast Go.Proofs.YtpeejdmbnlhjmaaW.PrintMore
attribute [local go_sem] max2_int min2_int max_two min_two max_three min_three max_four min_four   -- for this text's walks alone
set_option linter.unusedVariables false
set_option linter.unusedSimpArgs false
/-- A world whose iterator at g stands elsewhere. -/
def iterPut (w : World) (g : Nat) (s : ByteArray) (p : Nat) : World := { w with heap := w.heap.setIfInBounds g (.stringIter s p) }
theorem iterPut_size (w : World) (g : Nat) (s : ByteArray) (p : Nat) : (iterPut w g s p).heap.size = w.heap.size := Array.size_setIfInBounds ..
theorem iterPut_at {w : World} {g : Nat} {s : ByteArray} {q p : Nat} (h : w.heap[g]? = some (.stringIter s q)) : (iterPut w g s p).heap[g]? = some (.stringIter s p) := by
  have hg : g < w.heap.size := (Array.getElem?_eq_some_iff.1 h).1
  show (w.heap.setIfInBounds g (.stringIter s p))[g]? = _
  simp [hg]
theorem iterPut_below {w0 w : World} {B g : Nat} {s : ByteArray} {p : Nat} (h : Below B w0 w) (hg : B ≤ g) : Below B w0 (iterPut w g s p) := by
  refine ⟨h.os, h.tape, h.output, by rw [iterPut_size]; exact h.size, fun i hi => ?_⟩
  refine Eq.trans ?_ (h.block i hi)
  show (w.heap.setIfInBounds g (.stringIter s p))[i]? = _
  rw [Array.getElem?_setIfInBounds_ne (by omega)]
theorem run_next_in {P : Program} (w : World) (g : Nat) (s : ByteArray) (pos : Nat) (ty : TypeId) (hg : w.heap[g]? = some (.stringIter s pos)) (h : pos < s.size) :
    (Instr.next (.pointer (some ⟨g, 0, none⟩)) true ty).run P w = .ok (.tuple #[.bool true, .int .i64 pos, .int .i32 (Utf8.decode s pos).1]) (iterPut w g s (pos + (Utf8.decode s pos).2)) := by
  simp only [Instr.next, getObj, setObj, Sem.run_bind, Sem.run, hg, Result.andThen, h, if_true]
  simp [goInt, iterPut, Sem.run, hg]
theorem run_next_out {P : Program} (w : World) (g : Nat) (s : ByteArray) (pos : Nat) (ty : TypeId) (hg : w.heap[g]? = some (.stringIter s pos)) (h : ¬ pos < s.size) :
    (Instr.next (.pointer (some ⟨g, 0, none⟩)) true ty).run P w = .ok (.tuple #[.bool false]) w := by
  simp [Instr.next, getObj, Sem.run, hg, h]
theorem decode_end (s : ByteArray) (p : Nat) (hp : p < s.size) : 1 ≤ (Utf8.decode s p).2 ∧ p + (Utf8.decode s p).2 ≤ s.size := by
  generalize hd : Utf8.decode s p = d
  unfold Utf8.decode at hd
  dsimp only at hd
  split at hd
  · subst hd; simp only; omega
  split at hd
  · split at hd
    · rename_i h1 h2 h3
      simp only [Bool.and_eq_true, decide_eq_true_eq] at h2
      subst hd; simp only; omega
    · subst hd; simp only; omega
  split at hd
  · split at hd
    · rename_i h1 h2 h3 h4
      simp only [Bool.and_eq_true, decide_eq_true_eq] at h3
      subst hd; simp only; omega
    · subst hd; simp only; omega
  split at hd
  · split at hd
    · rename_i h1 h2 h3 h4 h5
      simp only [Bool.and_eq_true, decide_eq_true_eq] at h4
      subst hd; simp only; omega
    · subst hd; simp only; omega
  subst hd; simp only; omega
/-- At a place stands a byte that begins no rune. -/
def badAt (t : ByteArray) (p : Nat) : Bool := decide ((Utf8.decode t p).1 = 65533) && !Lib.hasPrefix (t.extract p t.size).data.toList [239, 191, 189]
def textL (t : ByteArray) : Nat → Nat → Bool
  | 0, _ => true
  | n + 1, p => if p < t.size then (if badAt t p = true then false else textL t n (p + (Utf8.decode t p).2)) else true
def textP (t : ByteArray) : Bool := textL t (t.size + 1) 0
def BoolTo (w : World) (b : Bool) (e : Ending) (w' : World) : Prop := e = .returned (.bool b) ∧ Below w.heap.size w w'
set_option maxHeartbeats 8000000 in
set_option maxRecDepth 100000 in
theorem text_calls (t : ByteArray) (w : World) (ht : t.size ≤ 1000000000) : Calls Try.prog 22 #[.string t] w (BoolTo w (textP t)) := by
  go_enter Try.func22, Try.ntmps22
  go_upto_block 0 with fail
  have G0 := Aside0.mk (World.iter_heap w t 0)
  have HB2 : Aside0 (Below w.heap.size w (w.iter t 0)) := ⟨below_alloc (Below.refl _ _) (.stringIter t 0)⟩
  have hg := Aside0.mk (Nat.le_refl w.heap.size)
  generalize w.iter t 0 = w2 at *
  generalize hgg : w.heap.size = g at *
  have HGG := Aside0.mk hgg
  clear hgg
  go_wp2_with fail
  go_loopg [3] (t.size + 1) (fun kq v3 wr => ∃ p : Nat, Aside0 (t.size < p + kq ∧ p ≤ t.size) ∧ Aside0 (textL t kq p = textP t) ∧ Aside0 (wr.heap[g]? = some (.stringIter t p)) ∧ Aside0 (Below g w wr))
  case atStart => exact ⟨0, ⟨by omega, by omega⟩, ⟨rfl⟩, G0, HB2⟩
  case round =>
    clear G0 HB2
    obtain ⟨p, HP, HT, HG, HB⟩ := hrel
    cases gk with
    | zero => exact absurd HP.out (by omega)
    | succ n =>
      have h := HT.out
      unfold textL at h
      by_cases hp : p < t.size
      · rw [if_pos hp] at h
        have hnx : ∀ ty, (Instr.next (.pointer (some ⟨g, 0, none⟩)) true ty).run Try.prog wr = _ := fun ty => run_next_in wr g t p ty HG.out hp
        have hle := decode_le t p
        have HG' := Aside0.mk (iterPut_at (p := p + (Utf8.decode t p).2) HG.out)
        have HB' := Aside0.mk (iterPut_below (g := g) (s := t) (p := p + (Utf8.decode t p).2) HB.out hg.out)
        have hend := decode_end t p hp
        have hc0 : (0 : Int) ≤ (p : Int) := Int.natCast_nonneg _
        have hc1 : (p : Int) ≤ (t.size : Int) := by omega
        generalize iterPut wr g t (p + (Utf8.decode t p).2) = w3 at *
        have hp3 := Aside0.mk HP.out
        by_cases hr : (Utf8.decode t p).1 = 65533
        · have hbad : badAt t p = !Lib.hasPrefix (t.extract p t.size).data.toList [239, 191, 189] := by unfold badAt; rw [decide_eq_true hr, Bool.true_and]
          rw [hbad] at h
          rw [hr] at hnx
          by_cases hb : Lib.hasPrefix (t.extract p t.size).data.toList [239, 191, 189] = true
          · rw [hb, if_neg (by decide)] at h
            have H := Aside0.mk h
            have HBB := Aside0.mk hb
            clear h HT HG HB hr hbad hb
            generalize (Utf8.decode t p).2 = wd at *
            go_wp2_with (first | (go_at_call 66; (with_reducible refine (Try.strings_HasPrefix _ _ _).mono ?_); rintro e w4 ⟨rfl, rfl⟩; (rw [show Lib.hasPrefix (t.extract p t.size).data.toList (⟨#[239, 191, 189]⟩ : ByteArray).data.toList = true from HBB.out])))
            go_roundg n
            case measure => omega
            case rel => exact ⟨p + wd, ⟨by have := hp3.out; omega, by omega⟩, H, HG', HB'⟩
          · replace hb := Bool.eq_false_iff.mpr hb
            rw [hb, if_pos (by decide)] at h
            have H := Aside0.mk h
            have HBB := Aside0.mk hb
            clear h HT HG HB hr hbad hb
            generalize (Utf8.decode t p).2 = wd at *
            go_wp2_with (first | (go_at_call 66; (with_reducible refine (Try.strings_HasPrefix _ _ _).mono ?_); rintro e w4 ⟨rfl, rfl⟩; (rw [show Lib.hasPrefix (t.extract p t.size).data.toList (⟨#[239, 191, 189]⟩ : ByteArray).data.toList = false from HBB.out])))
            go_ret
            exact ⟨by rw [← H.out]; rfl, by rw [HGG.out]; exact HB'.out⟩
        · have hbad : badAt t p = false := by unfold badAt; rw [decide_eq_false hr, Bool.false_and]
          rw [hbad, if_neg (by decide)] at h
          have r1 : (((Utf8.decode t p).1 : Int) == 65533) = false := beq_eq_false_iff_ne.mpr (by omega)
          have H := Aside0.mk h
          clear h HT HG HB hr hbad
          generalize (Utf8.decode t p).2 = wd at *
          generalize (Utf8.decode t p).1 = c at *
          go_wp2_with fail
          go_roundg n
          case measure => omega
          case rel => exact ⟨p + wd, ⟨by have := hp3.out; omega, by omega⟩, H, HG', HB'⟩
      · have hnx : ∀ ty, (Instr.next (.pointer (some ⟨g, 0, none⟩)) true ty).run Try.prog wr = _ := fun ty => run_next_out wr g t p ty HG.out hp
        rw [if_neg hp] at h
        have H := Aside0.mk h
        clear h HT HG hp
        go_wp2_with fail
        go_ret
        exact ⟨by rw [← H.out]; rfl, by rw [HGG.out]; exact HB.out⟩
end Go.Proofs.Ytpeejdmbnlhjmaa.H
/- Is a text a field (meta.Field): the proof that the program's call comes to a plain function. For any text. -/
namespace Go.Proofs.Ytpeejdmbnlhjmaa.H
open Go.RowKit Go.Proofs.YtpeejdmbnlhjmaaW.PrintWords Go.Proofs.YtpeejdmbnlhjmaaW.PrintLast Go.Proofs.YtpeejdmbnlhjmaaW.PrintMore
attribute [local go_sem] max2_int min2_int max_two min_two max_three min_three max_four min_four   -- for this text's walks alone
set_option linter.unusedVariables false
set_option linter.unusedSimpArgs false
def eqAt (s : ByteArray) : Int := Lib.indexByte s.data.toList 61
def nameOf (s : ByteArray) : ByteArray := s.extract 0 (eqAt s).toNat
def oddR (c : Nat) : Bool := decide (c < 32) || decide (125 < c)
def fieldP (s : ByteArray) : Bool := decide (0 ≤ eqAt s) && decide (0 < eqAt s) && textP s && !decide (0 ≤ Lib.idxFunc oddR true (nameOf s))
theorem eqAt_lt (s : ByteArray) (h : 0 ≤ eqAt s) : (eqAt s).toNat < s.size := by
  have := Lib.indexByte_some (l := s.data.toList) (c := 61) (o := (eqAt s).toNat) (by show eqAt s = _; omega)
  have h2 := (List.getElem?_eq_some_iff.1 this.1).1
  simpa using h2
theorem oddR_calls (x : Nat) (W : World) : Calls Try.prog 69 #[.int .i32 x] W fun e w' => e = .returned (.bool (oddR x)) ∧ w' = W := by
  unfold oddR
  by_cases c1 : x < 32
  · have d1 : decide ((x : Int) < 32) = true := decide_eq_true (by omega)
    have d2 := decide_eq_true c1
    go_enter Try.func69, Try.ntmps69
    go_wp2
    go_ret
    exact ⟨by first | rfl | (rw [d2]; rfl), rfl⟩
  · have d1 : decide ((x : Int) < 32) = false := decide_eq_false (by omega)
    have d2 := decide_eq_false c1
    by_cases c3 : 125 < x
    · have d3 : decide ((125 : Int) < (x : Int)) = true := decide_eq_true (by omega)
      have d4 := decide_eq_true c3
      go_enter Try.func69, Try.ntmps69
      go_wp2
      go_ret
      exact ⟨by first | rfl | (rw [d2, d4]; rfl), rfl⟩
    · have d3 : decide ((125 : Int) < (x : Int)) = false := decide_eq_false (by omega)
      have d4 := decide_eq_false c3
      go_enter Try.func69, Try.ntmps69
      go_wp2
      go_ret
      exact ⟨by first | rfl | (rw [d2, d4]; rfl), rfl⟩
theorem oddR_pred (w : World) : PredAtRunes Try.prog 69 #[] oddR w := fun W x _ _ => (oddR_calls x W).mono fun e w' h => ⟨h.1, 0, by rw [h.2]; rfl⟩
theorem odd_enters : ∀ args w, (callFunc 69 args).run Try.prog w = .ok (.enter 69 args) w := fun args w => enters_of Try.func69 (by kernel_rfl) rfl args w
def CutIn (w : World) (s : ByteArray) (e : Ending) (w' : World) : Prop := ∃ v, e = .returned (.tuple #[.string (nameOf s), .string v, .bool true]) ∧ Below w.heap.size w w'
def CutOut (w : World) (e : Ending) (w' : World) : Prop := ∃ v, e = .returned (.tuple #[.string v, .string ⟨#[]⟩, .bool false]) ∧ Below w.heap.size w w'
set_option maxHeartbeats 8000000 in
theorem scut_in (s : ByteArray) (w : World) (hs : s.size ≤ 1000000000) (h : 0 ≤ eqAt s) : Calls Try.prog 121 #[.string s, .string ⟨#[61]⟩] w (CutIn w s) := by
  have hlt := eqAt_lt s h
  obtain ⟨i, hi⟩ : ∃ i : Nat, eqAt s = (i : Int) := ⟨(eqAt s).toNat, by omega⟩
  have HI := Aside0.mk (show Lib.indexByte s.data.toList 61 = (i : Int) from hi)
  rw [hi, Int.toNat_natCast] at hlt
  have HN := Aside0.mk (show nameOf s = s.extract 0 i by unfold nameOf; rw [hi, Int.toNat_natCast])
  have c0 : decide ((i : Int) ≥ 0) = true := decide_eq_true (by omega)
  have c1 : decide (0 ≤ (i : Int)) = true := decide_eq_true (by omega)
  have b0 : (0 : Int) ≤ (i : Int) := by omega
  have b1 : (i : Int) ≤ (s.size : Int) := by omega
  have b2 : (0 : Int) ≤ (i : Int) + 1 := by omega
  have b3 : (i : Int) + 1 ≤ (s.size : Int) := by omega
  have b4 : IntKind.i64.wrap ((i : Int) + 1) = (i : Int) + 1 := by rw [IntKind.wrap_i64]; omega
  clear h hi
  go_enter Try.func121, Try.ntmps121
  go_upto_region 3 with (first | (go_at_call 160; (with_reducible refine (Try.stringslite_Index_one s 61 _).mono ?_); rintro e w1 ⟨rfl, rfl⟩; rw [HI.out]))
  go_region
  go_wp2_with fail
  refine bodyPost_ret (results_tmp3 rfl _ _ _) rfl ?_
  exact ⟨_, by rw [HN.out]; rfl, by first | exact below_drew1 (Below.refl _ _) | exact below_drew (Below.refl _ _)⟩
set_option maxHeartbeats 8000000 in
theorem scut_out (s : ByteArray) (w : World) (hs : s.size ≤ 1000000000) (h : ¬ 0 ≤ eqAt s) : Calls Try.prog 121 #[.string s, .string ⟨#[61]⟩] w (CutOut w) := by
  have HI := Aside0.mk (show Lib.indexByte s.data.toList 61 = eqAt s from rfl)
  have c0 : decide (eqAt s ≥ 0) = false := decide_eq_false (by omega)
  have c1 : decide (0 ≤ eqAt s) = false := decide_eq_false (by omega)
  go_enter Try.func121, Try.ntmps121
  go_wp2_with (first | (go_at_call 160; (with_reducible refine (Try.stringslite_Index_one s 61 _).mono ?_); rintro e w1 ⟨rfl, rfl⟩; rw [HI.out]))
  refine bodyPost_ret (results_tmp3 rfl _ _ _) rfl ?_
  exact ⟨_, rfl, Below.refl _ _⟩
theorem cut_in (s : ByteArray) (w : World) (hs : s.size ≤ 1000000000) (h : 0 ≤ eqAt s) : Calls Try.prog 68 #[.string s, .string ⟨#[61]⟩] w (CutIn w s) := by
  go_enter Try.func68, Try.ntmps68
  go_wp2_with (first | (go_at_call 121; (with_reducible refine (scut_in s _ hs h).mono ?_); rintro e w1 ⟨v, rfl, hb⟩; have HB := Aside0.mk hb; clear hb))
  refine bodyPost_ret (results_tmp3 rfl _ _ _) rfl ?_
  exact ⟨_, rfl, HB.out⟩
theorem cut_out (s : ByteArray) (w : World) (hs : s.size ≤ 1000000000) (h : ¬ 0 ≤ eqAt s) : Calls Try.prog 68 #[.string s, .string ⟨#[61]⟩] w (CutOut w) := by
  go_enter Try.func68, Try.ntmps68
  go_wp2_with (first | (go_at_call 121; (with_reducible refine (scut_out s _ hs h).mono ?_); rintro e w1 ⟨v, rfl, hb⟩; have HB := Aside0.mk hb; clear hb))
  refine bodyPost_ret (results_tmp3 rfl _ _ _) rfl ?_
  exact ⟨_, rfl, HB.out⟩
set_option maxHeartbeats 8000000 in
theorem field_calls (s : ByteArray) (w : World) (hs : s.size ≤ 1000000000) : Calls Try.prog 24 #[.string s] w (BoolTo w (fieldP s)) := by
  by_cases h : 0 ≤ eqAt s
  · have hlt := eqAt_lt s h
    by_cases h0 : 0 < eqAt s
    · have hm : ¬ (nameOf s).toList = [] := by
        intro e
        rw [ByteArray.toList_eq] at e
        have e2 : (nameOf s).size = 0 := by
          have := congrArg List.length e
          simpa using this
        unfold nameOf at e2
        rw [ByteArray.size_extract] at e2
        omega
      have hn : (nameOf s).toList.isEmpty = false := by cases hl : (nameOf s).toList with
        | nil => exact absurd hl hm
        | cons => rfl
      have HF := Aside0.mk (show fieldP s = (textP s && !decide (0 ≤ Lib.idxFunc oddR true (nameOf s))) by unfold fieldP; rw [decide_eq_true h, decide_eq_true h0]; rfl)
      have H0 := Aside0.mk h
      generalize hq : decide (0 ≤ Lib.idxFunc oddR true (nameOf s)) = q at *
      have HQ := Aside0.mk hq
      generalize ht : textP s = tx at *
      have HT := Aside0.mk ht
      clear hq ht h h0 hlt
      cases tx
      · go_enter Try.func24, Try.ntmps24
        go_wp2_with (first
          | (go_at_call 68; (with_reducible refine (cut_in s _ hs H0.out).mono ?_); rintro e w1 ⟨v, rfl, hb⟩; have HB := Aside0.mk hb; clear hb)
          | (go_at_call 22; (with_reducible refine (text_calls s _ hs).mono ?_); rintro e w2 ⟨rfl, hb⟩; rw [HT.out]; have HB2 := Aside0.mk (below_step HB.out hb); clear hb))
        go_ret
        exact ⟨by rw [HF.out]; rfl, HB2.out⟩
      · have hx : Aside0 (∀ w, Calls Try.prog 70 #[.string (nameOf s), .func (.func 69) #[] #[]] w (BoolTo w q)) := ⟨fun w => by
          have := Try.strings_ContainsFunc_runes 69 #[] odd_enters oddR (nameOf s) w (oddR_pred w)
          rw [HQ.out] at this
          exact this⟩
        cases q
        all_goals
          go_enter Try.func24, Try.ntmps24
          go_wp2_with (first
            | (go_at_call 68; (with_reducible refine (cut_in s _ hs H0.out).mono ?_); rintro e w1 ⟨v, rfl, hb⟩; have HB := Aside0.mk hb; clear hb)
            | (go_at_call 22; (with_reducible refine (text_calls s _ hs).mono ?_); rintro e w2 ⟨rfl, hb⟩; rw [HT.out]; have HB2 := Aside0.mk (below_step HB.out hb); clear hb)
            | (go_at_call 70; (with_reducible refine (hx.out _).mono ?_); rintro e w3 ⟨rfl, hb⟩; have HB3 := Aside0.mk (below_step HB2.out hb); clear hb))
          go_ret
          exact ⟨by rw [HF.out]; rfl, HB3.out⟩
    · have e0 : eqAt s = 0 := by omega
      have hm : (nameOf s).toList = [] := by
        rw [ByteArray.toList_eq]
        unfold nameOf
        rw [e0]
        simp
      have hn : (nameOf s).toList.isEmpty = true := by rw [hm]; rfl
      have HF := Aside0.mk (show fieldP s = false by unfold fieldP; rw [decide_eq_true h, decide_eq_false h0]; rfl)
      have H0 := Aside0.mk h
      clear h h0 hlt e0
      go_enter Try.func24, Try.ntmps24
      go_wp2_with (first
        | (go_at_call 68; (with_reducible refine (cut_in s _ hs H0.out).mono ?_); rintro e w1 ⟨v, rfl, hb⟩; have HB := Aside0.mk hb; clear hb))
      go_ret
      exact ⟨by rw [HF.out]; rfl, HB.out⟩
  · have HF := Aside0.mk (show fieldP s = false by unfold fieldP; rw [decide_eq_false h]; rfl)
    have H0 := Aside0.mk h
    clear h
    go_enter Try.func24, Try.ntmps24
    go_wp2_with (first
      | (go_at_call 68; (with_reducible refine (cut_out s _ hs H0.out).mono ?_); rintro e w1 ⟨v, rfl, hb⟩; have HB := Aside0.mk hb; clear hb))
    go_ret
    exact ⟨by rw [HF.out]; rfl, HB.out⟩
end Go.Proofs.Ytpeejdmbnlhjmaa.H
/- The chapter's comment ("me", one field "A=b"): that it can be, and its bytes, with the proofs of the calls. -/
namespace Go.Proofs.Ytpeejdmbnlhjmaa.H
open Go.RowKit Go.Proofs.YtpeejdmbnlhjmaaW.PrintWords Go.Proofs.YtpeejdmbnlhjmaaW.PrintLast Go.Proofs.YtpeejdmbnlhjmaaW.PrintMore
attribute [local go_sem] max2_int min2_int max_two min_two max_three min_three max_four min_four   -- for this text's walks alone
set_option linter.unusedVariables false
set_option linter.unusedSimpArgs false
abbrev sMe : ByteArray := ⟨#[109, 101]⟩
abbrev sAb : ByteArray := ⟨#[65, 61, 98]⟩
theorem field_ab : fieldP sAb = true := by decide +kernel
theorem text_me : textP sMe = true := by decide +kernel
theorem closure_ab (w : World) : Calls Try.prog 158 #[.string sAb] w (BoolTo w false) := by
  go_enter Try.func158, Try.ntmps158
  go_wp2_with (first | (go_at_call 24; (with_reducible refine (field_calls sAb _ (by decide)).mono ?_); rintro e w1 ⟨rfl, hb⟩; rw [field_ab]; have HB := Aside0.mk hb; clear hb))
  go_ret
  exact ⟨rfl, HB.out⟩
/-- A row with one field. -/
def FBl (W : World) (g : Nat) : Prop := W.cell? ⟨g, 0, none⟩ = some (.string sAb)
theorem fbl_below {W W' : World} {g : Nat} (h : FBl W g) (hb : Below W.heap.size W W') : FBl W' g := (hb.cell (World.block_lt_of_cell? W _ h)).trans h
theorem fbl_alloc {W : World} {g : Nat} (h : FBl W g) (o : Obj) : FBl (W.alloc o) g := fbl_below h (below_alloc (Below.refl _ _) o)
def IntTo (w : World) (b : Int) (e : Ending) (w' : World) : Prop := e = .returned (.int .i64 b) ∧ Below w.heap.size w w'
set_option maxHeartbeats 8000000 in
theorem index_ab (w : World) (g c : Nat) (h : FBl w g) : Calls Try.prog 182 #[.slice (some ⟨g, 0, none⟩) 1 c, .func (.func 158) #[] #[]] w (IntTo w (-1)) := by
  have x0 : w.cell? ⟨g, 0, none⟩ = some (.string sAb) := h
  go_enter Try.func182, Try.ntmps182
  go_wp2
  refine wp_loop_rounds 2 ?_
  rw [rounds_succ]
  go_wp2_with (first | (go_at_call 158; (with_reducible refine (closure_ab _).mono ?_); rintro e w1 ⟨rfl, hb⟩; have HB := Aside0.mk hb; clear hb x0))
  rw [rounds_succ]
  go_wp2
  go_ret
  exact ⟨rfl, HB.out⟩
theorem contains_ab (w : World) (g c : Nat) (h : FBl w g) : Calls Try.prog 157 #[.slice (some ⟨g, 0, none⟩) 1 c, .func (.func 158) #[] #[]] w (BoolTo w false) := by
  have H := Aside0.mk h
  clear h
  go_enter Try.func157, Try.ntmps157
  go_wp2_with (first | (go_at_call 182; (with_reducible refine (index_ab _ g c H.out).mono ?_); rintro e w1 ⟨rfl, hb⟩; have HB := Aside0.mk hb; clear hb))
  go_ret
  exact ⟨rfl, HB.out⟩
set_option maxHeartbeats 8000000 in
theorem right_ab (w : World) (g c : Nat) (h : FBl w g) : Calls Try.prog 116 #[.agg #[.string sMe, .slice (some ⟨g, 0, none⟩) 1 c]] w (BoolTo w true) := by
  have H := Aside0.mk h
  have hb0 := blk_new w (.cells #[.string sMe, .slice (some ⟨g, 0, none⟩) 1 c] 36)
  have y0 : (w.alloc (.cells #[.string sMe, .slice (some ⟨g, 0, none⟩) 1 c] 36)).cell? ⟨g, 0, none⟩ = some (.string sAb) := fbl_alloc h _
  have x0 := (blk_cell hb0 0).trans rfl
  have x1 := (blk_cell hb0 1).trans rfl
  have HB0 := Aside0.mk hb0
  clear h hb0
  go_enter Try.func116, Try.ntmps116
  go_wp2
  refine wp_loop_rounds 2 ?_
  rw [rounds_succ]
  go_wp2
  rw [rounds_succ]
  go_wp2_with (first
    | (go_at_call 22; (with_reducible refine (text_calls sMe _ (by decide)).mono ?_); rintro e w1 ⟨rfl, hb⟩; rw [text_me]; have HB := Aside0.mk (below_step (below_alloc (Below.refl _ _) _) hb); have x0' := (blk_cell (blk_below HB0.out hb) 0).trans rfl; have x1' := (blk_cell (blk_below HB0.out hb) 1).trans rfl; have FB1 := Aside0.mk (show FBl w1 g from fbl_below (fbl_alloc H.out _) hb); clear hb)
    | (go_at_call 157; (with_reducible refine (contains_ab _ g c FB1.out).mono ?_); rintro e w2 ⟨rfl, hb⟩; have HB2 := Aside0.mk (below_step HB.out hb); clear hb))
  go_ret
  exact ⟨rfl, HB2.out⟩
def RowTo (w : World) (l : List Int) (e : Ending) (w' : World) : Prop := ∃ v, e = .returned v ∧ Kd.R (Kd.int .u8) 5 w' w.heap.size (fun _ => True) v l ∧ Below w.heap.size w w'
set_option maxHeartbeats 8000000 in
set_option maxRecDepth 100000 in
theorem little_calls (n : Int) (w : World) (hn : 0 ≤ n) : Calls Try.prog 159 #[.int .i64 n] w (RowTo w [n % 256, n / 256 % 256, n / 65536 % 256, n / 16777216 % 256]) := by
  have hmk : ∀ w, (Instr.makeSlice 22 (.int .i64 4) (.int .i64 4)).run Try.prog w = .ok (.slice (some ⟨w.heap.size, 0, none⟩) 4 4) (w.alloc (.cells #[.int .u8 0, .int .u8 0, .int .u8 0, .int .u8 0] 5)) := fun _ => by kernel_rfl
  go_enter Try.func159, Try.ntmps159
  go_wp2
  refine wp_loop_rounds 5 ?_
  rw [rounds_succ]
  go_wp2
  iterate 4 (rw [rounds_succ]; go_wp2)
  go_ret
  refine ⟨_, rfl, ?_, ?_⟩
  · exact R_of_blk (xs := [n % 256, n / 256 % 256, n / 65536 % 256, n / 16777216 % 256]) (blk_new w _) (Nat.le_refl _) (by simp)
  · exact below_alloc (Below.refl _ _) _
theorem strCells_bytes (s : ByteArray) : Lib.strCells s = (bytesOf s).map (fun x => Value.int .u8 x) := by
  simp [bytesOf, Lib.strCells]
theorem append_str_run {P : Program} {W : World} {e base : Nat} {v : Value} {xs : List Int} (t u ty : TypeId) (s : ByteArray) (ht : P.underlying t = some (.slice e)) (hu : P.underlying u = some .string) (hinfo : (P.info? e).map (fun i => (i.zero, i.size, i.bytes)) = some (some (.int .u8 0), 1, 1))
    (HO : Kd.R (Kd.int .u8) e W base (fun _ => True) v xs) (hbase : base ≤ W.heap.size) (hl : xs.length + s.size ≤ 140737488355328) :
    ∃ v1 w1, (Builtin.append_ #[t, u] ty #[v, .string s]).run P W = .ok v1 w1 ∧ Kd.R (Kd.int .u8) e w1 base (fun _ => True) v1 (xs ++ bytesOf s) ∧ W.grownBy w1 v.ownBlock := by
  obtain ⟨i0, hi, hzz⟩ := Option.map_eq_some_iff.1 hinfo
  simp only [Prod.mk.injEq] at hzz
  obtain ⟨hz0, hz1, hz2⟩ := hzz
  obtain ⟨h0, inner, hown, hr⟩ := HO
  obtain ⟨v1, w1, h1, h2, h3, _⟩ := Lib.run_append_own_string (P := P) W base t u ty e i0 ht hu hi hz0 hz1 hz2 v xs.length inner hown s (by simp only [maxLen]; omega) hl hbase
  refine ⟨v1, w1, h1, ⟨fun _ _ => trivial, inner ++ Lib.strCells s, ?_, ?_⟩, h3⟩
  · rw [List.length_append, bytesOf_length]
    exact h2
  · rw [strCells_bytes]
    exact Kd.reps_append hr (reps_ints _ _ _ _)
section
variable {P : Program} {ops : Array Oper} {o : Oper} {a : Act} {Q : Exit → Act → World → Prop} {Kc : Act → World → Prop} {rest : List Oper}
theorem R_append_str_step {w0 W : World} (base : Nat) (hw : Region.wanted o (yielded ops a.tmps) = true) (sl x : Operand) (t u e : TypeId)
    (ho : o.op = .call { callee := .builtin .append, args := #[sl, x], argTypes := #[t, u] })
    (ht : P.underlying t = some (.slice e)) (hu : P.underlying u = some .string) (hinfo : (P.info? e).map (fun i => (i.zero, i.size, i.bytes)) = some (some (.int .u8 0), 1, 1))
    (v : Value) (xs : List Int) (s : ByteArray) (hs : a.eval sl = v) (hx : a.eval x = .string s)
    (HO : Kd.R (Kd.int .u8) e W base (fun _ => True) v xs) (HB : Below base w0 W) (hbase : base ≤ W.heap.size) (hl : xs.length + s.size ≤ 140737488355328)
    (h : ∀ v1 w1, Kd.R (Kd.int .u8) e w1 base (fun _ => True) v1 (xs ++ bytesOf s) → Below base w0 w1 → W.grownBy w1 v.ownBlock → Kc (a.put o.dst v1) w1) :
    if Region.wanted o (yielded ops a.tmps) = true then Oper.wp P o a W Kc Q else Kc (a.put o.dst undef) W := by
  rw [if_pos hw]
  obtain ⟨v1, w1, h1, h2, h3⟩ := append_str_run t u o.type s ht hu hinfo HO hbase hl
  unfold Oper.wp execOp
  simp only [ho, resolve, invoke, builtin, Sem.run_bind, Sem.run_pure, Result.andThen_ok, List.map_toArray, List.map_cons, List.map_nil, hs, hx, h1]
  exact h v1 w1 h2 (HB.grown h3 hbase (fun k hk => by obtain ⟨_, inner, hown, _⟩ := HO; exact own_base hown k hk)) h3
theorem R_append_str {w0 W : World} (base : Nat) (hgd : o.guard = none) (sl x : Operand) (t u e : TypeId)
    (ho : o.op = .call { callee := .builtin .append, args := #[sl, x], argTypes := #[t, u] })
    (ht : P.underlying t = some (.slice e)) (hu : P.underlying u = some .string) (hinfo : (P.info? e).map (fun i => (i.zero, i.size, i.bytes)) = some (some (.int .u8 0), 1, 1))
    (v : Value) (xs : List Int) (s : ByteArray) (hs : a.eval sl = v) (hx : a.eval x = .string s)
    (HO : Kd.R (Kd.int .u8) e W base (fun _ => True) v xs) (HB : Below base w0 W) (hbase : base ≤ W.heap.size) (hl : xs.length + s.size ≤ 140737488355328)
    (h : ∀ v1 w1, Kd.R (Kd.int .u8) e w1 base (fun _ => True) v1 (xs ++ bytesOf s) → Below base w0 w1 → W.grownBy w1 v.ownBlock → wpList P ops Q rest (a.put o.dst v1) w1) :
    wpList P ops Q (o :: rest) a W := by
  refine wpList_plain hgd fun K hK => ?_
  obtain ⟨v1, w1, h1, h2, h3⟩ := append_str_run t u o.type s ht hu hinfo HO hbase hl
  unfold Oper.wp execOp
  simp only [ho, resolve, invoke, builtin, Sem.run_bind, Sem.run_pure, Result.andThen_ok, List.map_toArray, List.map_cons, List.map_nil, hs, hx, h1]
  exact hK _ _ (h v1 w1 h2 (HB.grown h3 hbase (fun k hk => by obtain ⟨_, inner, hown, _⟩ := HO; exact own_base hown k hk)) h3)
end
end Go.Proofs.Ytpeejdmbnlhjmaa.H
/- The bytes of the chapter's comment (meta.commentBody), with the proof of the call. -/
namespace Go.Proofs.Ytpeejdmbnlhjmaa.H
open Go.RowKit Go.Proofs.YtpeejdmbnlhjmaaW.PrintWords Go.Proofs.YtpeejdmbnlhjmaaW.PrintLast Go.Proofs.YtpeejdmbnlhjmaaW.PrintMore
attribute [local go_sem] max2_int min2_int max_two min_two max_three min_three max_four min_four   -- for this text's walks alone
set_option linter.unusedVariables false
set_option linter.unusedSimpArgs false
theorem cell_below {W W' : World} {a : Addr} {v : Value} (hb : Below W.heap.size W W') (h : W.cell? a = some v) : W'.cell? a = some v := (hb.cell (World.block_lt_of_cell? W _ h)).trans h
theorem below_join {w0 W W' : World} (hb : Below W.heap.size W W') (h : Below w0.heap.size w0 W) : Below w0.heap.size w0 W' := below_step h hb
theorem infoU : (Try.prog.info? 5).map (fun i => (i.zero, i.size, i.bytes)) = some (some (.int .u8 0), 1, 1) := by kernel_rfl
set_option maxHeartbeats 8000000 in
set_option maxRecDepth 100000 in
theorem body_ab (w : World) (g c : Nat) (h : FBl w g) : Calls Try.prog 117 #[.agg #[.string sMe, .slice (some ⟨g, 0, none⟩) 1 c]] w (RowTo w [2, 0, 0, 0, 109, 101, 1, 0, 0, 0, 3, 0, 0, 0, 65, 61, 98]) := by
  have H := Aside0.mk h
  have hb0 := blk_new w (.cells #[.string sMe, .slice (some ⟨g, 0, none⟩) 1 c] 36)
  have HB0 := Aside0.mk hb0
  have B0 := Aside0.mk (below_alloc (Below.refl w.heap.size w) (.cells #[.string sMe, .slice (some ⟨g, 0, none⟩) 1 c] 36))
  have FB0 := Aside0.mk (show FBl _ g from fbl_alloc h (.cells #[.string sMe, .slice (some ⟨g, 0, none⟩) 1 c] 36))
  clear h hb0
  go_enter Try.func117, Try.ntmps117
  go_upto_region 1 with fail
  generalize w.alloc (.cells #[.string sMe, .slice (some ⟨g, 0, none⟩) 1 c] 36) = w1 at *
  have S0 := B0.out.size
  have x0 : w1.cell? ⟨w.heap.size, 0, none⟩ = some (.string sMe) := (blk_cell HB0.out 0).trans rfl
  have x1 : w1.cell? ⟨w.heap.size, 1, none⟩ = some (.slice (some ⟨g, 0, none⟩) 1 c) := (blk_cell HB0.out 1).trans rfl
  go_region_held3 (fun W => W.cell? ⟨w.heap.size, 0, none⟩ = some (.string sMe) ∧ Below w1.heap.size w1 W)
    (first | (go_keep; done) | (((try go_split_ands); (repeat' apply And.intro)) <;> first | assumption | exact cell_below ‹_› ‹_› | exact below_drew (Below.refl _ _) | exact below_drew ‹_› | exact below_alloc ‹_› _ | exact below_join ‹_› ‹_›))
    (first
      | (go_at_call 159; go_split_ands; (with_reducible refine (little_calls 2 _ (by decide)).mono ?_); rintro e w2 ⟨v2, rfl, hr2, hb2⟩)
      | (refine R_append_str_step (w0 := w1) w1.heap.size (by rfl) (.tmp 9) (.tmp 11) 22 9 5 rfl Try.underlying22 Try.underlying9 infoU _ [2, 0, 0, 0] sMe rfl rfl (Kd.R_lower hr2 (Nat.le_refl _)) (below_join hb2 (below_drew1 (Below.refl _ _))) hb2.size (by decide) ?_; intro v3 w3 hr3 hb3 hg3; have hc3 := cell_below hb3 x0)
      | fail)
  have R3 := Aside0.mk (show Kd.R (Kd.int .u8) 5 w3 w1.heap.size (fun _ => True) v3 [2, 0, 0, 0, 109, 101] from hr3)
  have HB3 := Aside0.mk hb3
  have y1 : w3.cell? ⟨w.heap.size, 1, none⟩ = some (.slice (some ⟨g, 0, none⟩) 1 c) := cell_below hb3 x1
  have fb : w1.cell? ⟨g, 0, none⟩ = some (.string sAb) := FB0.out
  have FBB := Aside0.mk fb
  have X1 := Aside0.mk x1
  clear hr3 hb3 hg3 hc3 hr2 hb2 x0 x1 fb
  go_upto_block 0 with (first
    | (go_at_call 159; (with_reducible refine (little_calls 1 _ (by decide)).mono ?_); rintro e w4 ⟨v4, rfl, hr4, hb4⟩; obtain ⟨A4, c4, rfl⟩ := Kd.R_slice hr4; have C4 := Aside0.mk (show Kd.C (Kd.int .u8) w4 A4 4 [1, 0, 0, 0] from (Kd.R_reads' hr4).2.2); have HB4 := Aside0.mk (below_join hb4 HB3.out); have R4 := Aside0.mk (Kd.R_below R3.out hb4); have y1' := cell_below HB4.out X1.out; clear hr4 hb4 y1)
    | ((with_reducible refine gate_builtin (b := .append) (xs := #[.tmp 13, .tmp 17]) rfl ?_); at_builtin; refine Kd.R_append_rows (Kd.int .u8) (w0 := w1) w1.heap.size rfl (.tmp 13) (.tmp 17) 22 5 (.int .u8 0) 1 rfl Try.underlying22 infoU rfl (by decide) (by decide) _ [2, 0, 0, 0, 109, 101] [1, 0, 0, 0] _ _ _ (fun _ => True) (fun _ => False) rfl rfl R4.out C4.out (fun _ _ h => h) (fun _ h => h.elim) (fun _ _ => trivial) HB4.out HB4.out.size (by decide) ?_; intro v5 w5 hr5 hb5 hg hat; clear hg hat; have R5 := Aside0.mk hr5; have HB5 := Aside0.mk hb5; have y2 := cell_below hb5 X1.out; clear hr5 hb5 y1'))
  have R5' := Aside0.mk (show Kd.R (Kd.int .u8) 5 w5 w1.heap.size (fun _ => True) v5 [2, 0, 0, 0, 109, 101, 1, 0, 0, 0] from R5.out)
  clear R5 R4 R3 HB3 HB4
  go_wp2_with fail
  refine wp_loop_rounds 2 ?_
  rw [rounds_succ]
  have z0 := cell_below HB5.out FBB.out
  go_wp2_with (first
    | (go_at_call 159; (with_reducible refine (little_calls 3 _ (by decide)).mono ?_); rintro e w6 ⟨v6, rfl, hr6, hb6⟩; obtain ⟨A6, c6, rfl⟩ := Kd.R_slice hr6; have C6 := Aside0.mk (show Kd.C (Kd.int .u8) w6 A6 4 [3, 0, 0, 0] from (Kd.R_reads' hr6).2.2); have HB6 := Aside0.mk (below_join hb6 HB5.out); have R6 := Aside0.mk (Kd.R_below R5'.out hb6); clear hr6 hb6)
    | ((with_reducible refine gate_builtin (b := .append) (xs := #[.tmp 26, .tmp 29]) rfl ?_); at_builtin; refine Kd.R_append_rows (Kd.int .u8) (w0 := w1) w1.heap.size rfl (.tmp 26) (.tmp 29) 22 5 (.int .u8 0) 1 rfl Try.underlying22 infoU rfl (by decide) (by decide) _ [2, 0, 0, 0, 109, 101, 1, 0, 0, 0] [3, 0, 0, 0] _ _ _ (fun _ => True) (fun _ => False) rfl rfl R6.out C6.out (fun _ _ h => h) (fun _ h => h.elim) (fun _ _ => trivial) HB6.out HB6.out.size (by decide) ?_; intro v7 w7 hr7 hb7 hg hat; clear hg hat; have R7 := Aside0.mk hr7; have HB7 := Aside0.mk hb7; clear hr7 hb7)
    | ((with_reducible refine gate_builtin (b := .append) (xs := #[.tmp 31, .tmp 32]) rfl ?_); at_builtin; refine R_append_str (w0 := w1) w1.heap.size rfl (.tmp 31) (.tmp 32) 22 9 5 rfl Try.underlying22 Try.underlying9 infoU _ [2, 0, 0, 0, 109, 101, 1, 0, 0, 0, 3, 0, 0, 0] sAb rfl rfl R7.out HB7.out HB7.out.size (by decide) ?_; intro v8 w8 hr8 hb8 hg8; clear hg8; have R8 := Aside0.mk hr8; have HB8 := Aside0.mk hb8; clear hr8 hb8))
  rw [rounds_succ]
  go_wp2_with fail
  go_ret
  refine ⟨_, rfl, ?_, ?_⟩
  · exact Kd.R_lower R8.out S0
  · exact below_join HB8.out B0.out
end Go.Proofs.Ytpeejdmbnlhjmaa.H
