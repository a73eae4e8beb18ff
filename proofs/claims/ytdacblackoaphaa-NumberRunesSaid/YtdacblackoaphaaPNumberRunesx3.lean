/- The statement NumberRunes's own function as a plain one, with the proof that the program's call comes to it. For any arguments. -/
import Derived.Test.YtdacblackoaphaaPNumberRunesx2
import Derived.Laws.RangeAny
import Derived.Outline
namespace Go.Proofs.Ytdacblackoaphaa.PNumberRunes
open Go.RowKit Go.Proofs.YtdacblackoaphaaW.PrintWords Go.Proofs.YtdacblackoaphaaW.PrintLast Go.Proofs.YtdacblackoaphaaW.PrintMore Go.Proofs.Ytdacblackoaphaa.H
attribute [local go_sem] max2_int min2_int max_two min_two max_three min_three max_four min_four   -- for this text's walks alone
set_option linter.unusedVariables false
set_option linter.unusedSimpArgs false
/-! ### NumberRunes' own function, walked by hand -/
theorem leO_bind {α β : Type} {a a' : Option α} {f f' : α → Option β} (h : LeO a a') (k : ∀ x, LeO (f x) (f' x)) : LeO (a.bind f) (a'.bind f') := LeO.bind h k
/-- The runes of a text from a place on: each has its bytes there, or the law says no more. -/
def runesL (k : Nat) (t : ByteArray) : Nat → Nat → Option Bool
  | 0, _ => none
  | n + 1, p => if p < t.size then
      (number_Encode.f k ((Utf8.decode t p).1 : Int)).bind fun q => if q.2 = 0 ∧ 1 ≤ q.1.length ∧ q.1.length ≤ 8 then
        (if p + q.1.length ≤ t.size ∧ (t.extract p (p + q.1.length)).toList = (strOfNums q.1).toList then
          (number_Decode.f k (bytesOf (t.extract p t.size))).bind fun d =>
            if d = (((Utf8.decode t p).1 : Int), (q.1.length : Int), 0) ∧ (Utf8.encode ((Utf8.decode t p).1 : Int)).toList = (strOfNums q.1).toList ∧ q.1.length = (Utf8.decode t p).2 then runesL k t n (p + q.1.length) else none
        else some true) else none
    else if p = t.size then some true else none
theorem runesL.mono (k : Nat) (t : ByteArray) : ∀ n p, LeO (runesL k t n p) (runesL (k + 1) t n p)
  | 0, _ => LeO.refl _
  | n + 1, p => by
    unfold runesL
    refine LeO.ite ?_ (LeO.refl _)
    refine LeO.bind (number_Encode.mono _ _) fun q => ?_
    refine LeO.ite ?_ (LeO.refl _)
    refine LeO.ite ?_ (LeO.refl _)
    refine LeO.bind (number_Decode.mono _ _) fun d => ?_
    exact LeO.ite (runesL.mono k t n _) (LeO.refl _)
theorem runesL_true (k : Nat) (t : ByteArray) : ∀ n p r, runesL k t n p = some r → r = true
  | 0, _, _, h => by simp [runesL] at h
  | n + 1, p, r, h => by
    unfold runesL at h
    split at h
    · obtain ⟨q, _, h⟩ := Option.bind_eq_some_iff.mp h
      split at h
      · split at h
        · obtain ⟨d, _, h⟩ := Option.bind_eq_some_iff.mp h
          split at h
          · exact runesL_true k t n _ r h
          · cases h
        · exact (Option.some.inj h).symm
      · cases h
    · split at h
      · exact (Option.some.inj h).symm
      · cases h
def serinettelaw03_NumberRunes.f (k : Nat) (a0 : ByteArray) : Option Bool :=
  (serinettelaw03_awake.f k).bind fun b => if b = true then (if (a0.size : Int) > 50 then some true else runesL k a0 60 0) else none
theorem serinettelaw03_NumberRunes.mono : ∀ a0 k, LeO (serinettelaw03_NumberRunes.f k a0) (serinettelaw03_NumberRunes.f (k + 1) a0) := fun a0 k =>
  LeO.bind (serinettelaw03_awake.mono _) fun _ => LeO.ite (LeO.ite (LeO.refl _) (runesL.mono _ _ _ _)) (LeO.refl _)
/-- A world whose iterator at g stands elsewhere. -/
def iterPut (w : World) (g : Nat) (s : ByteArray) (p : Nat) : World := { w with heap := w.heap.setIfInBounds g (.stringIter s p) }
theorem iterPut_size (w : World) (g : Nat) (s : ByteArray) (p : Nat) : (iterPut w g s p).heap.size = w.heap.size := Array.size_setIfInBounds ..
theorem iterPut_at {w : World} {g : Nat} {s : ByteArray} {q p : Nat} (h : w.heap[g]? = some (.stringIter s q)) : (iterPut w g s p).heap[g]? = some (.stringIter s p) := by
  have hg : g < w.heap.size := (Array.getElem?_eq_some_iff.1 h).1
  show (w.heap.setIfInBounds g (.stringIter s p))[g]? = _
  simp [hg]
theorem iterPut_below {w0 w : World} {B g : Nat} {s : ByteArray} {p : Nat} (h : Below B w0 w) (hg : B ≤ g) : Below B w0 (iterPut w g s p) := by
  refine ⟨h.os, h.tape, h.output, by rw [iterPut_size]; exact h.size, fun i hi => ?_⟩
  refine Eq.trans ?_ (h.block i hi)
  show (w.heap.setIfInBounds g (.stringIter s p))[i]? = _
  rw [Array.getElem?_setIfInBounds_ne (by omega)]
theorem run_next_in {P : Program} (w : World) (g : Nat) (s : ByteArray) (pos : Nat) (ty : TypeId) (hg : w.heap[g]? = some (.stringIter s pos)) (h : pos < s.size) :
    (Instr.next (.pointer (some ⟨g, 0, none⟩)) true ty).run P w = .ok (.tuple #[.bool true, .int .i64 pos, .int .i32 (Utf8.decode s pos).1]) (iterPut w g s (pos + (Utf8.decode s pos).2)) := by
  simp only [Instr.next, getObj, setObj, Sem.run_bind, Sem.run, hg, Result.andThen, h, if_true]
  simp [goInt, iterPut, Sem.run, hg]
theorem run_next_out {P : Program} (w : World) (g : Nat) (s : ByteArray) (pos : Nat) (ty : TypeId) (hg : w.heap[g]? = some (.stringIter s pos)) (h : ¬ pos < s.size) :
    (Instr.next (.pointer (some ⟨g, 0, none⟩)) true ty).run P w = .ok (.tuple #[.bool false]) w := by
  simp [Instr.next, getObj, Sem.run, hg, h]
def RunesPost (w : World) (e : Ending) (w' : World) : Prop := e = .returned (.bool true) ∧ Below w.heap.size w w'
set_option maxHeartbeats 8000000 in
set_option maxRecDepth 100000 in
theorem runes_long (k : Nat) (t : ByteArray) (w : World) (ha : serinettelaw03_awake.f k = some true) (hl : (t.size : Int) > 50) :
    Calls Try.prog 3 #[.string t] w (RunesPost w) := by
  have HA := Aside0.mk ha
  have g1 : decide ((t.size : Int) > 50) = true := decide_eq_true hl
  have g2 : decide (t.size > 50) = true := decide_eq_true (by omega)
  have g3 : decide (50 < t.size) = true := decide_eq_true (by omega)
  clear ha hl
  go_enter Try.func3, Try.ntmps3
  go_wp2_with (first | (go_at_call 5; (with_reducible refine (serinettelaw03_awake.calls k true _ HA.out).mono ?_); rintro e' w1 ⟨rfl, hb⟩; have HB1 := Aside0.mk hb; clear hb))
  go_ret
  exact ⟨rfl, HB1.out⟩
set_option maxHeartbeats 8000000 in
set_option maxRecDepth 100000 in
theorem runes_short (k : Nat) (t : ByteArray) (w : World) (ha : serinettelaw03_awake.f k = some true) (hl : ¬ (t.size : Int) > 50) (hr : runesL k t 60 0 = some true) :
    Calls Try.prog 3 #[.string t] w (RunesPost w) := by
  have HA := Aside0.mk ha
  have HR := Aside0.mk hr
  have g1 : decide ((t.size : Int) > 50) = false := decide_eq_false hl
  have g2 : decide (t.size > 50) = false := decide_eq_false (by omega)
  have g3 : decide (50 < t.size) = false := decide_eq_false (by omega)
  have hts : t.size ≤ 50 := by omega
  clear ha hl hr
  go_enter Try.func3, Try.ntmps3
  go_upto_block 0 with (first | (go_at_call 5; (with_reducible refine (serinettelaw03_awake.calls k true _ HA.out).mono ?_); rintro e' w1 ⟨rfl, hb⟩; have HB1 := Aside0.mk hb; clear hb))
  have G0 := Aside0.mk (World.iter_heap w1 t 0)
  have HB2 : Aside0 (Below w.heap.size w (w1.iter t 0)) := ⟨below_alloc HB1.out (.stringIter t 0)⟩
  have hg := Aside0.mk HB1.out.size
  generalize w1.iter t 0 = w2 at *
  generalize w1.heap.size = g at *
  clear HB1
  go_wp2_with fail
  go_loopw [4] (fun at_ wr => ∃ (p n : Nat), at_ = .int .i64 p ∧ Aside0 (runesL k t n p = some true) ∧ Aside0 (wr.heap[g]? = some (.stringIter t p)) ∧ Aside0 (Below w.heap.size w wr)) (fun at_ _ => t.size - (intOf at_).toNat)
  case atStart => exact ⟨0, 60, rfl, HR, G0, HB2⟩
  case round =>
    clear HR G0 HB2
    obtain ⟨p, n, rfl, HR, HG, HB⟩ := hrel
    by_cases hp : p < t.size
    · cases n with
      | zero => exact absurd HR.out (by simp [runesL])
      | succ n =>
        have h := HR.out
        unfold runesL at h
        rw [if_pos hp] at h
        obtain ⟨⟨q, e⟩, hq, h⟩ := Option.bind_eq_some_iff.mp h
        simp only at h
        split at h
        case isFalse => cases h
        rename_i hc
        obtain ⟨rfl, hq1, hq8⟩ := hc
        have hnx : ∀ ty, (Instr.next (.pointer (some ⟨g, 0, none⟩)) true ty).run Try.prog wr = _ := fun ty => run_next_in wr g t p ty HG.out hp
        have hle := decode_le t p
        have HG' := Aside0.mk (iterPut_at (p := p + (Utf8.decode t p).2) HG.out)
        have HB' := Aside0.mk (iterPut_below (g := g) (s := t) (p := p + (Utf8.decode t p).2) HB.out hg.out)
        generalize iterPut wr g t (p + (Utf8.decode t p).2) = w3 at *
        generalize (Utf8.decode t p).2 = wd at *
        generalize (Utf8.decode t p).1 = c at *
        have HQ := Aside0.mk hq
        have H := Aside0.mk h
        have z1 : ((q.length : Int) == 0) = false := beq_eq_false_iff_ne.mpr (by omega)
        have z2 : (q.length == 0) = false := beq_eq_false_iff_ne.mpr (by omega)
        have hc0 : (0 : Int) ≤ (c : Int) := Int.natCast_nonneg _
        have hc1 : (c : Int) ≤ 2147483647 := by omega
        clear hq h HR HG HB
        go_upto_region 13 with (first | (go_at_call 6; (with_reducible refine (number_Encode.calls k _ q 0 _ HQ.out).mono ?_); rintro e' w4 ⟨v4, rfl, hv, hb⟩; have HG4 := Aside0.mk ((hb.block g (Array.getElem?_eq_some_iff.1 HG'.out).1).trans HG'.out); have HB4 := Aside0.mk (below_step HB'.out hb); have V4 := Aside0.mk hv; obtain ⟨A4, c4, rfl, hc4, hf4⟩ := hv; have C4 := Aside0.mk (Kd.F_now hf4); clear hb hf4 hnx))
        have e0 : (p : Int) + (q.length : Int) = ((p + q.length : Nat) : Int) := by omega
        have e1 : IntKind.i64.wrap ((p + q.length : Nat) : Int) = ((p + q.length : Nat) : Int) := by rw [IntKind.wrap_i64]; omega
        have hcv : ∀ m, (convert 23 9 (.slice A4 q.length c4)).run Try.prog (w4.drewN m) = .ok (.string (strOfNums q)) (w4.drewN m) := fun m => V_string Try.underlying23 Try.underlying5 Try.underlying9 (Kd.V_drewN V4.out m)
        have hcv0 : (convert 23 9 (.slice A4 q.length c4)).run Try.prog w4 = .ok (.string (strOfNums q)) w4 := V_string Try.underlying23 Try.underlying5 Try.underlying9 V4.out
        have er0 : p ≤ p + q.length := by omega
        generalize er : p + q.length = r at *
        have ER := Aside0.mk er
        clear er
        by_cases hin : r ≤ t.size
        · have i1 : decide ((r : Int) > (t.size : Int)) = false := decide_eq_false (by omega)
          have i2 : decide (t.size < r) = false := decide_eq_false (by omega)
          have i3 : decide (r > t.size) = false := decide_eq_false (by omega)
          have b1 : (0 : Int) ≤ (p : Int) := Int.natCast_nonneg _
          have b2 : (p : Int) ≤ (r : Int) := by omega
          have b3 : (r : Int) ≤ (t.size : Int) := by omega
          by_cases hs : (t.extract p r).toList = (strOfNums q).toList
          · have s1 : ((t.extract p r).toList == (strOfNums q).toList) = true := beq_iff_eq.mpr hs
            have h := H.out
            rw [if_pos ⟨hin, hs⟩] at h
            obtain ⟨d, hd, h⟩ := Option.bind_eq_some_iff.mp h
            split at h
            case isFalse => cases h
            rename_i hdd
            obtain ⟨rfl, henc, hwd⟩ := hdd
            have s3 : ((Utf8.encode (c : Int)).toList == (strOfNums q).toList) = true := beq_iff_eq.mpr henc
            have HD := Aside0.mk hd
            have HN := Aside0.mk h
            have HWD := Aside0.mk hwd
            have hsz : (t.extract p t.size).size ≤ 9223372036854775807 := by rw [ByteArray.size_extract]; omega
            have HSZ := Aside0.mk hsz
            clear hs h hd henc hwd H hsz
            go_quiet (fail)
            go_wp2_with (first
              | ((with_reducible refine gate_dst (N := 63) rfl ?_); refine V_conv _ 5 rfl (N := 63) rfl 9 23 _ rfl (t.extract p t.size) (by first | rfl | (simp; done)) Try.underlying9 Try.underlying23 Try.underlying5 HSZ.out (Below.refl _ _) (Nat.le_refl _) ?_; intro v63 w5 hv5 hb5 hg5 hn5; have HB5 := Aside0.mk (below_step (pw_below_drewN HB4.out _) hb5); have HG5 := Aside0.mk ((hb5.block g (Array.getElem?_eq_some_iff.1 HG4.out).1).trans HG4.out); have V5 := Aside0.mk (Kd.V_below (Kd.V_drewN V4.out _) hb5); obtain ⟨A5, c5, rfl, hc5, hf5⟩ := hv5; have C5 := Aside0.mk (Kd.F_now hf5); have HC5 := Aside0.mk hc5; clear hb5 hg5 hn5 hf5 hc5 hcv hcv0)
              | (go_at_call 7; (with_reducible refine (number_Decode.calls k A5 c5 _ _ _ _ _ C5.out HC5.out HD.out).mono ?_); rintro e' w6 ⟨rfl, hdr⟩; have HB6 := Aside0.mk (below_step HB5.out hdr.below); have HG6 := Aside0.mk ((hdr.below.block g (Array.getElem?_eq_some_iff.1 HG5.out).1).trans HG5.out); have hcv6 := V_string (P := Try.prog) (src := 23) (dst := 9) Try.underlying23 Try.underlying5 Try.underlying9 (Kd.V_below V5.out hdr.below); clear hdr))
            refine ⟨⟨r, n, rfl, HN, ⟨?_⟩, HB6⟩, ?_⟩
            · rw [← ER.out, HWD.out]
              exact HG6.out
            · have := ER.out
              simp [intOf]
              omega
          · have s1 : ((t.extract p r).toList == (strOfNums q).toList) = false := beq_eq_false_iff_ne.mpr hs
            clear hs H
            go_quiet (fail)
            go_wp2_with fail
            go_ret
            exact ⟨rfl, pw_below_drewN HB4.out _⟩
        · have i1 : decide ((r : Int) > (t.size : Int)) = true := decide_eq_true (by omega)
          have i2 : decide (t.size < r) = true := decide_eq_true (by omega)
          have i3 : decide (r > t.size) = true := decide_eq_true (by omega)
          clear H
          go_quiet (fail)
          go_wp2_with fail
          go_ret
          exact ⟨rfl, pw_below_drewN HB4.out _⟩
    · have hnx : ∀ ty, (Instr.next (.pointer (some ⟨g, 0, none⟩)) true ty).run Try.prog wr = _ := fun ty => run_next_out wr g t p ty HG.out hp
      cases n with
      | zero => exact absurd HR.out (by simp [runesL])
      | succ n =>
        have h := HR.out
        unfold runesL at h
        rw [if_neg hp] at h
        split at h
        case isFalse => cases h
        rename_i hpe
        subst hpe
        clear h hp HR
        go_wp2_with fail
        go_ret
        exact ⟨rfl, HB.out⟩
theorem serinettelaw03_NumberRunes.calls (k : Nat) (a0 : ByteArray) (r : Bool) (w : World) (h : serinettelaw03_NumberRunes.f k a0 = some r) :
    Calls Try.prog 3 #[.string a0] w fun e w' => e = .returned (.bool r) ∧ Below w.heap.size w w' := by
  unfold serinettelaw03_NumberRunes.f at h
  obtain ⟨t, ha, h⟩ := Option.bind_eq_some_iff.mp h
  split at h
  case isFalse => cases h
  rename_i ht
  subst ht
  split at h
  case isTrue =>
    rename_i hl
    cases h
    exact runes_long k a0 w ha hl
  rename_i hl
  have hr : r = true := runesL_true _ _ _ _ _ h
  subst hr
  exact runes_short k a0 w ha hl h

/-- The one pure statement (lawrow.py). -/
def serinettelaw03_NumberRunes.Pure : Prop := ∀ (a0 : ByteArray), a0.size ≤ maxLen → ∃ k, serinettelaw03_NumberRunes.f k a0 = some true
theorem serinettelaw03_NumberRunes.walk (P : serinettelaw03_NumberRunes.Pure) (a0 : ByteArray) (w : World) (wa0 : a0.size ≤ maxLen) :
    Calls Try.prog 3 #[.string a0] w fun e w' => e = .returned (.bool true) ∧ Below w.heap.size w w' := by
  obtain ⟨k, h⟩ := P a0 wa0
  refine (serinettelaw03_NumberRunes.calls k a0 true w h).mono ?_
  rintro e w' ⟨rfl, hd⟩
  exact ⟨rfl, hd⟩

end Go.Proofs.Ytdacblackoaphaa.PNumberRunes
