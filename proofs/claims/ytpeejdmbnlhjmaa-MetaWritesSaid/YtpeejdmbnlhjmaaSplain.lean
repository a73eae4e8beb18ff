/- What is left of a subframe of the kinds constant and verbatim (subframe.Rest): nothing, with the proof that the program's call comes to it. For any row of up to 2^40 numbers. -/
import Derived.Test.YtpeejdmbnlhjmaaProg
import Derived.Below
import Derived.Deep.Draws
import Derived.Deep.AppendLies
import Derived.Maps.AppendAt
import Derived.OwnWalk
import Derived.Laws.BytesArg
import Derived.Laws.MakeOwn
import Derived.Laws.OwnMore
import Derived.Deep.OwnRows
import Derived.Tactics
import Derived.Lib.ConvBytes
import Derived.Laws.Slices
import Derived.WalkKit
import Derived.KernelRfl
import Derived.RowKit3
import Derived.Deep.LoopGhost
import Derived.Deep.QuietTactic
import Derived.BigQuiet
import Derived.WideLaws
import Derived.Deep.DeepCutAuto
import Derived.Deep.CutBlock
import Derived.Deep.RegionHeld3
import Derived.Laws.Rows
import Derived.Lib.AppendStr
import Derived.ArgAppend
import Derived.Laws.IdiomCopy
import Derived.OrdersHeld
import Derived.Laws.BitsLemmas
import Derived.RowKit
import Derived.Test.YtpeejdmbnlhjmaaWWords
import Derived.Test.YtpeejdmbnlhjmaaWLast
import Derived.Test.YtpeejdmbnlhjmaaWTab
import Derived.Test.YtpeejdmbnlhjmaaWFour
import Derived.Test.YtpeejdmbnlhjmaaWQPut
import Derived.Test.YtpeejdmbnlhjmaaWApart
import Derived.Test.YtpeejdmbnlhjmaaWArr
import Derived.Test.YtpeejdmbnlhjmaaWZeros
import Derived.Test.YtpeejdmbnlhjmaaWFoot
import Derived.Test.YtpeejdmbnlhjmaaWKept
import Derived.Test.YtpeejdmbnlhjmaaWShare
import Derived.Test.YtpeejdmbnlhjmaaWN
import Derived.Test.YtpeejdmbnlhjmaaWFootNe
import Derived.Test.YtpeejdmbnlhjmaaWAt
import Derived.Test.YtpeejdmbnlhjmaaWEqStruct
import Derived.Test.YtpeejdmbnlhjmaaWRepsOne
import Derived.Test.YtpeejdmbnlhjmaaWInv
import Derived.Test.YtpeejdmbnlhjmaaWInvWords
import Derived.Test.YtpeejdmbnlhjmaaWGuard
import Derived.Test.YtpeejdmbnlhjmaaWNEv
import Derived.Test.YtpeejdmbnlhjmaaWMore
import Derived.Test.YtpeejdmbnlhjmaaSclone
import Derived.Test.YtpeejdmbnlhjmaaSpre
import Derived.Test.YtpeejdmbnlhjmaaSshelf
import Derived.Test.YtpeejdmbnlhjmaaSwriter
/- What is left of a subframe of the kinds constant and verbatim (subframe.Rest): nothing, with the proof that the program's call comes to it. For any row of up to 2^40 numbers. -/
namespace Go.Proofs.Ytpeejdmbnlhjmaa.H
open Go.RowKit Go.Proofs.YtpeejdmbnlhjmaaW.PrintWords Go.Proofs.YtpeejdmbnlhjmaaW.PrintLast Go.Proofs.YtpeejdmbnlhjmaaW.PrintMore
attribute [local go_sem] max2_int min2_int max_two min_two max_three min_three max_four min_four   -- for this text's walks alone
set_option linter.unusedVariables false
set_option linter.unusedSimpArgs false
abbrev scells (K Wa O Sh Pr : Int) (Fa : Value) (Wd : Bool) (Po : Int) (Pa : Value) : Array Value := #[.int .i64 K, .int .i64 Wa, .int .i64 O, .int .i64 Sh, .int .i64 Pr, Fa, .bool Wd, .int .i64 Po, Pa]
theorem scell {w : World} {g : Nat} {K Wa O Sh Pr : Int} {Fa : Value} {Wd : Bool} {Po : Int} {Pa : Value} (h : w.heap[g]? = some (.cells (scells K Wa O Sh Pr Fa Wd Po Pa) 87 (0, 0))) :
    w.cell? ⟨g, 0, none⟩ = some (.int .i64 K) ∧ w.cell? ⟨g, 1, none⟩ = some (.int .i64 Wa) ∧ w.cell? ⟨g, 2, none⟩ = some (.int .i64 O) ∧ w.cell? ⟨g, 3, none⟩ = some (.int .i64 Sh) ∧ w.cell? ⟨g, 4, none⟩ = some (.int .i64 Pr) ∧ w.cell? ⟨g, 5, none⟩ = some Fa ∧ w.cell? ⟨g, 6, none⟩ = some (.bool Wd) ∧ w.cell? ⟨g, 7, none⟩ = some (.int .i64 Po) ∧ w.cell? ⟨g, 8, none⟩ = some Pa :=
  ⟨blk_cell h 0, blk_cell h 1, blk_cell h 2, blk_cell h 3, blk_cell h 4, blk_cell h 5, blk_cell h 6, blk_cell h 7, blk_cell h 8⟩
theorem contains_nil (w : World) : Calls Try.prog 127 #[.slice none 0 0, .func (.func 128) #[] #[]] w fun e w' => e = .returned (.bool false) ∧ w' = w := contains_wide w none [] 0 (Kd.C_nil _ _) (by simp)
def Rest0 (w : World) (e : Ending) (w' : World) : Prop := e = .returned (.tuple #[.slice none 0 0, .int .i64 0]) ∧ Below w.heap.size w w'
set_option maxHeartbeats 8000000 in
set_option maxRecDepth 100000 in
theorem rest_plain (A : Option Addr) (c : Nat) (l : List Int) (K Wa O Sh Pr : Int) (Fa : Value) (Wd : Bool) (Po : Int) (Pa : Value) (w : World) (hl : l.length ≤ 1000000000000) (hr : Kd.C (Kd.int .i64) w A l.length l) (hc : l.length ≤ c) (hK : K = 0 ∨ K = 1) (h1 : Fa.oneCell' = true) (h2 : Pa.oneCell' = true) :
    Calls Try.prog 77 #[.slice A l.length c, .agg (scells K Wa O Sh Pr Fa Wd Po Pa)] w (Rest0 w) := by
  have HR := Aside0.mk hr
  have HC := Aside0.mk hc
  clear hr hc
  rcases hK with rfl | rfl
  all_goals
    go_enter Try.func77, Try.ntmps77
    go_wp2_with (first
      | (go_at_call 86; (with_reducible refine (down_calls _ _ l Wa _ hl (Kd.C_alloc HR.out _) HC.out).mono ?_); rintro e w1 ⟨v1, rfl, hr1, hb⟩; have BK := Aside0.mk (blk_below (blk_new w _) hb); have HB := Aside0.mk (below_step (below_alloc (Below.refl _ _) _) hb); clear hb hr1; obtain ⟨x0, _⟩ := scell BK.out)
      | (go_at_call 127; (with_reducible refine (contains_nil _).mono ?_); rintro e w2 ⟨rfl, rfl⟩))
    go_ret2
    exact ⟨rfl, HB.out⟩
end Go.Proofs.Ytpeejdmbnlhjmaa.H
/- How many bits a subframe of the kinds constant and verbatim has (subframe.Bits), as a plain function, with the proof that the program's call comes to it. For any numbers. -/
namespace Go.Proofs.Ytpeejdmbnlhjmaa.H
open Go.RowKit Go.Proofs.YtpeejdmbnlhjmaaW.PrintWords Go.Proofs.YtpeejdmbnlhjmaaW.PrintLast Go.Proofs.YtpeejdmbnlhjmaaW.PrintMore
attribute [local go_sem] max2_int min2_int max_two min_two max_three min_three max_four min_four   -- for this text's walks alone
set_option linter.unusedVariables false
set_option linter.unusedSimpArgs false
def compN (l : List Int) : Nat := (Lib.compact l).length
def OneInt2 (w : World) (a b : Int) (e : Ending) (w' : World) : Prop := e = .returned (.tuple #[.int .i64 a, .int .i64 b]) ∧ Below w.heap.size w w'
theorem below_setCells {w0 : World} {B g : Nat} (hg : B ≤ g) : ∀ (vs : List Value) (o : Nat) (W : World), Below B w0 W → Below B w0 (W.setCells g o vs)
  | [], _, _, h => h
  | v :: vs, o, W, h => below_setCells hg vs (o + 1) _ (h.setCell hg v)
/-- Compact at a row of one's own: how many numbers are kept. -/
theorem compact_calls {w0 w : World} {A : Option Addr} {c : Nat} {l : List Int} (hB : Below w0.heap.size w0 w) (hR : Kd.R (Kd.int .i64) 3 w w0.heap.size (fun _ => True) (.slice A l.length c) l) (hl : l.length ≤ 1000000000000) :
    Calls Try.prog 78 #[.slice A l.length c] w fun e w' => (∃ A' c', e = .returned (.slice A' (compN l) c')) ∧ Below w0.heap.size w0 w' := by
  by_cases h0 : l = []
  · subst h0
    refine (Try.slices_Compact_int_empty A c w).mono ?_
    rintro e w' ⟨rfl, rfl⟩
    exact ⟨⟨A, c, rfl⟩, hB⟩
  · have hpos := List.length_pos_iff.mpr h0
    obtain ⟨g, cap, hv, hge, _, _⟩ := Kd.R_form hR hpos
    obtain ⟨rfl, _, rfl⟩ := Value.slice.inj hv
    have hat := fun j (hj : j < l.length) => irow_at hR j hj
    refine (Try.slices_Compact_int_cells g 0 l.length c l w (Nat.le_refl _) (by omega) (Kd.R_reads' hR).2.1 (fun j hj => ?_) (fun j hj => ?_)).mono ?_
    · rw [Nat.zero_add, (hat j hj).1]
      unfold rd
      rw [Int.toNat_natCast]
    · rw [Nat.zero_add, (hat j hj).2]
    · rintro e w' ⟨rfl, q, rfl⟩
      rw [List.take_length]
      exact ⟨⟨_, _, rfl⟩, below_setCells hge _ _ _ (pw_below_drewN hB q)⟩
def bits01 (k : Nat) (l : List Int) (K Wa O Sh Pr : Int) (F : List Int) (Wd : Bool) (Po : Int) (P : List S172) (D : Int) : Option (Int × Int) :=
  (subframe_odd.f k l K Wa O Sh Pr F Wd Po P D).bind fun e => if e = 0 then
    (if (0 ≤ Wa ∧ Wa ≤ D ∧ D ≤ 33 ∧ l.length ≤ 65535) then (if K = 0 then (if compN l > 1 then some (0, 5) else some (8 + Wa + (D - Wa), 0)) else if K = 1 then some (8 + Wa + (D - Wa) * l.length, 0) else none) else none)
    else some (0, e)
theorem blk9_load {w : World} {g : Nat} {K Wa O Sh Pr : Int} {Fa : Value} {Wd : Bool} {Po : Int} {Pa : Value} (h : w.heap[g]? = some (.cells (scells K Wa O Sh Pr Fa Wd Po Pa) 87 (0, 0))) : True := trivial
set_option maxHeartbeats 8000000 in
set_option maxRecDepth 100000 in
theorem bits_bad (k : Nat) (A : Option Addr) (c : Nat) (l : List Int) (K Wa O Sh Pr : Int) (A5 : Option Addr) (c5 : Nat) (F : List Int) (Wd : Bool) (Po : Int) (A8 : Option Addr) (c8 : Nat) (P : List S172) (D : Int) (w : World) (e : Int)
    (hr : Kd.C (Kd.int .i64) w A l.length l) (hc : l.length ≤ c) (hr5 : Kd.C (Kd.int .i64) w A5 F.length F) (hc5 : F.length ≤ c5) (hr8 : Kd.C k172 w A8 P.length P) (hc8 : P.length ≤ c8) (ho : subframe_odd.f k l K Wa O Sh Pr F Wd Po P D = some e) (he : e ≠ 0) :
    Calls Try.prog 46 #[.slice A l.length c, .agg (scells K Wa O Sh Pr (.slice A5 F.length c5) Wd Po (.slice A8 P.length c8)), .int .i64 D] w (OneInt2 w 0 e) := by
  have HO := Aside0.mk ho
  have H0 := Aside0.mk hr
  have H5 := Aside0.mk hr5
  have H8 := Aside0.mk hr8
  have C0 := Aside0.mk hc
  have C5 := Aside0.mk hc5
  have C8 := Aside0.mk hc8
  have ge : (e != 0) = true := bne_iff_ne.mpr he
  clear ho hr hr5 hr8 hc hc5 hc8 he
  go_enter Try.func46, Try.ntmps46
  go_wp2_with (first | (go_at_call 76; (with_reducible refine (subframe_odd.calls k A c l K Wa O Sh Pr A5 c5 F Wd Po A8 c8 P D e _ (Kd.C_alloc H0.out _) C0.out (Kd.C_alloc H5.out _) C5.out (Kd.C_alloc H8.out _) C8.out HO.out).mono ?_); rintro e' w1 ⟨rfl, hb⟩; have HB := Aside0.mk (below_step (below_alloc (Below.refl _ _) _) hb); clear hb))
  go_ret2
  exact ⟨rfl, HB.out⟩
set_option maxHeartbeats 8000000 in
set_option maxRecDepth 100000 in
theorem bits_good (k : Nat) (A : Option Addr) (c : Nat) (l : List Int) (K Wa O Sh Pr : Int) (A5 : Option Addr) (c5 : Nat) (F : List Int) (Wd : Bool) (Po : Int) (A8 : Option Addr) (c8 : Nat) (P : List S172) (D : Int) (w : World) (a b : Int)
    (hr : Kd.C (Kd.int .i64) w A l.length l) (hc : l.length ≤ c) (hr5 : Kd.C (Kd.int .i64) w A5 F.length F) (hc5 : F.length ≤ c5) (hr8 : Kd.C k172 w A8 P.length P) (hc8 : P.length ≤ c8) (ho : subframe_odd.f k l K Wa O Sh Pr F Wd Po P D = some 0)
    (h1 : 0 ≤ Wa) (h2 : Wa ≤ D) (h3 : D ≤ 33) (h4 : l.length ≤ 65535) (hK : K = 0 ∧ (compN l > 1 ∧ a = 0 ∧ b = 5 ∨ ¬ compN l > 1 ∧ a = 8 + Wa + (D - Wa) ∧ b = 0) ∨ K = 1 ∧ a = 8 + Wa + (D - Wa) * l.length ∧ b = 0) :
    Calls Try.prog 46 #[.slice A l.length c, .agg (scells K Wa O Sh Pr (.slice A5 F.length c5) Wd Po (.slice A8 P.length c8)), .int .i64 D] w (OneInt2 w a b) := by
  have HK := Aside0.mk (show K = 0 ∨ K = 1 by omega)
  have HO := Aside0.mk ho
  have H0 := Aside0.mk hr
  have H5 := Aside0.mk hr5
  have H8 := Aside0.mk hr8
  have C0 := Aside0.mk hc
  have C5 := Aside0.mk hc5
  have C8 := Aside0.mk hc8
  have HL := Aside0.mk (show l.length ≤ 1000000000000 by omega)
  have HKK := Aside0.mk hK
  clear ho hr hr5 hr8 hc hc5 hc8 hK
  go_enter Try.func46, Try.ntmps46
  go_upto_region 5 with (first
    | (go_at_call 76; (with_reducible refine (subframe_odd.calls k A c l K Wa O Sh Pr A5 c5 F Wd Po A8 c8 P D 0 _ (Kd.C_alloc H0.out _) C0.out (Kd.C_alloc H5.out _) C5.out (Kd.C_alloc H8.out _) C8.out HO.out).mono ?_); rintro e' w1 ⟨rfl, hb⟩; have BK1 := Aside0.mk (blk_below (blk_new w _) hb); have HB1 := Aside0.mk (below_step (below_alloc (Below.refl _ _) _) hb); clear hb; obtain ⟨x0, x1, x2, x3, x4, x5, x6, x7, x8⟩ := scell BK1.out)
    | (go_at_call 77; (with_reducible refine (rest_plain A c l K Wa O Sh Pr _ Wd Po _ _ HL.out (Kd.C_below H0.out HB1.out) C0.out HK.out rfl rfl).mono ?_); rintro e' w2 ⟨rfl, hb⟩; clear x0 x1 x2 x3 x4 x5 x6 x7 x8; have BK2 := Aside0.mk (blk_below BK1.out hb); have HB2 := Aside0.mk (below_step HB1.out hb); clear hb; obtain ⟨x0, x1, _⟩ := scell BK2.out))
  have w1_ : IntKind.i64.wrap (8 + Wa) = 8 + Wa := by rw [IntKind.wrap_i64]; omega
  have w2_ : IntKind.i64.wrap (D - Wa) = D - Wa := by rw [IntKind.wrap_i64]; omega
  go_quiet (fail)
  clear w1_ w2_ x0 x1
  have y0 := (scell (w := w2) BK2.out).1
  have hD0 : 0 ≤ D - Wa := by omega
  have hD1 : D - Wa ≤ 33 := by omega
  generalize hd : D - Wa = d at *
  have HD := Aside0.mk hd
  clear hd
  rcases HKK.out with ⟨rfl, hk⟩ | ⟨rfl, rfl, rfl⟩
  · rcases hk with ⟨hn, rfl, rfl⟩ | ⟨hn, rfl, rfl⟩
    · have d1 : decide ((compN l : Int) > 1) = true := decide_eq_true (by omega)
      have d2 : decide (compN l > 1) = true := decide_eq_true hn
      have d3 : decide (1 < compN l) = true := decide_eq_true hn
      clear hn
      go_wp2_with (first
        | (go_at_call 79; (with_reducible refine (clone_calls A c l _ HL.out (Kd.C_below H0.out (pw_below_drewN HB2.out _)) C0.out).mono ?_); rintro e' w3 ⟨v3, rfl, hr3, hb3⟩; obtain ⟨A3, c3, rfl⟩ := Kd.R_slice hr3; have R3 := Aside0.mk hr3; have HB3 := Aside0.mk hb3; clear hr3 hb3)
        | (go_at_call 78; (with_reducible refine (compact_calls HB3.out R3.out HL.out).mono ?_); rintro e' w4 ⟨⟨A4, c4, rfl⟩, hb4⟩; have HB4 := Aside0.mk (below_step (pw_below_drewN HB2.out _) hb4); clear hb4))
      go_ret2
      exact ⟨rfl, HB4.out⟩
    · have d1 : decide ((compN l : Int) > 1) = false := decide_eq_false (by omega)
      have d2 : decide (compN l > 1) = false := decide_eq_false hn
      have d3 : decide (1 < compN l) = false := decide_eq_false hn
      clear hn
      go_wp2_with (first
        | (go_at_call 79; (with_reducible refine (clone_calls A c l _ HL.out (Kd.C_below H0.out (pw_below_drewN HB2.out _)) C0.out).mono ?_); rintro e' w3 ⟨v3, rfl, hr3, hb3⟩; obtain ⟨A3, c3, rfl⟩ := Kd.R_slice hr3; have R3 := Aside0.mk hr3; have HB3 := Aside0.mk hb3; clear hr3 hb3)
        | (go_at_call 78; (with_reducible refine (compact_calls HB3.out R3.out HL.out).mono ?_); rintro e' w4 ⟨⟨A4, c4, rfl⟩, hb4⟩; have HB4 := Aside0.mk (below_step (pw_below_drewN HB2.out _) hb4); clear hb4))
      go_ret2
      exact ⟨by first | rfl | (rw [HD.out]; rfl), HB4.out⟩
  · have hm : 0 ≤ d * (l.length : Int) ∧ d * (l.length : Int) ≤ 33 * 65535 := ⟨Int.mul_nonneg hD0 (Int.natCast_nonneg _), Int.mul_le_mul hD1 (by omega) (Int.natCast_nonneg _) (by decide)⟩
    have hm0 := hm.1
    have hm1 := hm.2
    clear hm
    go_wp2_with fail
    go_ret2
    exact ⟨by first | rfl | (rw [HD.out]; rfl), pw_below_drewN HB2.out _⟩
end Go.Proofs.Ytpeejdmbnlhjmaa.H
/- Bits laid by a subframe's parts (subframe.waste, subframe.all), with the proofs that the program's calls come to plain functions. For any numbers. -/
namespace Go.Proofs.Ytpeejdmbnlhjmaa.H
open Go.RowKit Go.Proofs.YtpeejdmbnlhjmaaW.PrintWords Go.Proofs.YtpeejdmbnlhjmaaW.PrintLast Go.Proofs.YtpeejdmbnlhjmaaW.PrintMore
attribute [local go_sem] max2_int min2_int max_two min_two max_three min_three max_four min_four   -- for this text's walks alone
set_option linter.unusedVariables false
set_option linter.unusedSimpArgs false
def wput1 (s : List Int × Int) (u width : Int) : List Int × Int := wput 64 s.1 s.2 u (max 0 (min width 64))
def WOk (s : List Int × Int) (N : Int) : Prop := 0 ≤ s.2 ∧ s.2 ≤ N ∧ (s.1.length : Int) = (s.2 + 7) / 8
theorem wput_ok : ∀ (f : Nat) (bs : List Int) (n u left : Int), 0 ≤ n → (bs.length : Int) = (n + 7) / 8 → 0 ≤ left → 0 ≤ (wput f bs n u left).2 ∧ (wput f bs n u left).2 ≤ n + left ∧ ((wput f bs n u left).1.length : Int) = ((wput f bs n u left).2 + 7) / 8
  | 0, bs, n, u, left, h0, hl, h1 => ⟨h0, by show n ≤ n + left; omega, hl⟩
  | f + 1, bs, n, u, left, h0, hl, h1 => by
    unfold wput
    split
    · exact ⟨h0, by show n ≤ n + left; omega, hl⟩
    · have hm0 : 0 ≤ wMany n left := by unfold wMany; omega
      have hm1 : wMany n left ≤ left := by unfold wMany; omega
      have hm2 : wMany n left ≤ 8 - n % 8 := by unfold wMany; omega
      have hm3 : 1 ≤ wMany n left := by unfold wMany; omega
      have hr : ((wRow bs n).length : Int) = n / 8 + 1 := by
        unfold wRow
        split
        · rw [List.length_append]
          simp only [List.length_cons, List.length_nil]
          omega
        · omega
      have ih := wput_ok f ((wRow bs n).set ((wRow bs n).length - 1) (wByte bs n u left)) (n + wMany n left) u (left - wMany n left) (by omega) (by rw [List.length_set]; omega) (by omega)
      exact ⟨ih.1, by omega, ih.2.2⟩
theorem wput1_ok {s : List Int × Int} {N : Int} (h : WOk s N) (u width : Int) : WOk (wput1 s u width) (N + 64) := by
  obtain ⟨h0, h1, h2⟩ := h
  have := wput_ok 64 s.1 s.2 u (max 0 (min width 64)) h0 h2 (by omega)
  exact ⟨this.1, by have := this.2.1; unfold wput1; omega, this.2.2⟩
theorem WOk.mono {s : List Int × Int} {N M : Int} (h : WOk s N) (hm : N ≤ M) : WOk s M := ⟨h.1, Int.le_trans h.2.1 hm, h.2.2⟩
theorem wother {B : Nat} {W W' : World} {g : Nat} {v : Value} {bs : List Int} {n : Int} (hs : WSt B W g v bs n) (hb : Below W.heap.size W W') : WSt B W' g v bs n ∧ WStep g v W v W' :=
  ⟨⟨(hb.block g (Array.getElem?_eq_some_iff.1 hs.1).1).trans hs.1, hs.2.1, Kd.R_below hs.2.2 hb⟩, ⟨hb.os, hb.tape, hb.output, hb.size, .inl rfl, fun k hk _ _ => hb.block k hk⟩⟩
theorem wF {α : Type} {d : Kd α} {g : Nat} {v v' : Value} {W W' : World} {A : Option Addr} {n : Nat} {xs : List α} (h : Kd.F d W (fun k => k ≠ g ∧ some k ≠ v.ownBlock) A n xs) (hs : WStep g v W v' W') : Kd.F d W' (fun k => k ≠ g ∧ some k ≠ v'.ownBlock) A n xs := by
  refine Kd.F_mono (Kd.F_step (Kd.F_bound h) (fun k hk hlt => hs.block k hlt hk.1.1 hk.1.2)) (fun k hk => ⟨hk.1.1, ?_⟩)
  rcases hs.own with e | ⟨b, e, hb⟩
  · rw [e]; exact hk.1.2
  · rw [e]
    intro he
    injection he with he
    have := hk.2
    omega
/-- A writer beside what stands: its state, whole. -/
structure WAt (B : Nat) (w0 : World) (g : Nat) (v : Value) (s : List Int × Int) (N : Int) (w : World) : Prop where
  st : WSt B w g v s.1 s.2
  ok : WOk s N
  bel : Below B w0 w
  sz : B ≤ w.heap.size
theorem WAt.step {B : Nat} {w0 w w' : World} {g : Nat} {v v' : Value} {s s' : List Int × Int} {N N' : Int} (h : WAt B w0 g v s N w) (hs : WSt B w' g v' s'.1 s'.2) (ht : WStep g v w v' w') (ho : WOk s' N') : WAt B w0 g v' s' N' w' :=
  ⟨hs, ho, WStep.below h.bel h.sz h.st ht, Nat.le_trans h.sz ht.size⟩
theorem WAt.other {B : Nat} {w0 w w' : World} {g : Nat} {v : Value} {s : List Int × Int} {N : Int} (h : WAt B w0 g v s N w) (hb : Below w.heap.size w w') : WAt B w0 g v s N w' ∧ WStep g v w v w' :=
  ⟨h.step (wother h.st hb).1 (wother h.st hb).2 h.ok, (wother h.st hb).2⟩
def WTo (B : Nat) (w0 : World) (g : Nat) (v : Value) (w : World) (s : List Int × Int) (N : Int) (e : Ending) (w' : World) : Prop := e = .returned (.tuple #[]) ∧ ∃ v', WAt B w0 g v' s N w' ∧ WStep g v w v' w'
theorem put1_calls {B : Nat} {w0 w : World} {g : Nat} {v : Value} {s : List Int × Int} {N : Int} (h : WAt B w0 g v s N w) (hN : N ≤ 1000000000000) (u width : Int) (hu : 0 ≤ u ∧ u < 18446744073709551616) :
    Calls Try.prog 83 #[.pointer (some ⟨g, 0, none⟩), .int .u64 u, .int .i64 width] w (WTo B w0 g v w (wput1 s u width) (N + 64)) := by
  refine (put_calls B w0 w g v s.1 s.2 u width h.st h.bel h.sz hu ⟨h.ok.1, Int.le_trans h.ok.2.1 hN⟩ h.ok.2.2).mono ?_
  rintro e w' ⟨rfl, v', h1, h2⟩
  exact ⟨rfl, v', h.step h1 h2 (wput1_ok h.ok u width), h2⟩
/-- How many bits are wasted, laid. -/
def wasteP (s : List Int × Int) (many : Int) : List Int × Int := if many = 0 then wput1 s 0 1 else wput1 (wput1 (wput1 s 1 1) 0 (many - 1)) 1 1
set_option maxHeartbeats 8000000 in
set_option maxRecDepth 100000 in
theorem waste_calls {B : Nat} {w0 w : World} {g : Nat} {v : Value} {s : List Int × Int} {N : Int} (h : WAt B w0 g v s N w) (hN : N ≤ 999999999000) (many : Int) (hm : 0 ≤ many ∧ many ≤ 100) :
    Calls Try.prog 85 #[.pointer (some ⟨g, 0, none⟩), .int .i64 many] w (WTo B w0 g v w (wasteP s many) (N + 192)) := by
  obtain ⟨hm0, hm1⟩ := hm
  have H := Aside0.mk h
  clear h
  by_cases c : many = 0
  · subst c
    go_enter Try.func85, Try.ntmps85
    go_wp2_with (first | (go_at_call 83; (with_reducible refine (put1_calls H.out (by omega) _ _ (by omega)).mono ?_); rintro e w1 ⟨rfl, v1, hw, ht⟩; have H1 := Aside0.mk hw; have T1 := Aside0.mk ht; clear hw ht))
    exact bodyPost_ret (v := .tuple #[]) (by simp [results, go_sem]) rfl ⟨rfl, _, ⟨H1.out.st, H1.out.ok.mono (by omega), H1.out.bel, H1.out.sz⟩, T1.out⟩
  · have c1 : (many == 0) = false := beq_eq_false_iff_ne.mpr c
    have e : wasteP s many = wput1 (wput1 (wput1 s 1 1) 0 (many - 1)) 1 1 := if_neg c
    have E := Aside0.mk e
    clear c e
    go_enter Try.func85, Try.ntmps85
    go_upto_region 3 with (first | (go_at_call 83; (with_reducible refine (put1_calls H.out (by omega) _ _ (by omega)).mono ?_); rintro e w1 ⟨rfl, v1, hw, ht⟩; have H1 := Aside0.mk hw; have T1 := Aside0.mk ht; clear hw ht))
    go_upto_region 4 with (first | (go_at_call 83; (with_reducible refine (put1_calls H1.out (by omega) _ _ (by omega)).mono ?_); rintro e w2 ⟨rfl, v2, hw, ht⟩; have H2 := Aside0.mk hw; have T2 := Aside0.mk (T1.out.trans ht); clear hw ht))
    go_wp2_with (first | (go_at_call 83; (with_reducible refine (put1_calls H2.out (by omega) _ _ (by omega)).mono ?_); rintro e w3 ⟨rfl, v3, hw, ht⟩; have H3 := Aside0.mk hw; have T3 := Aside0.mk (T2.out.trans ht); clear hw ht))
    exact bodyPost_ret (v := .tuple #[]) (by simp [results, go_sem]) rfl ⟨rfl, _, by rw [E.out]; exact ⟨H3.out.st, H3.out.ok.mono (by omega), H3.out.bel, H3.out.sz⟩, T3.out⟩
theorem u64_rng (x : Int) : 0 ≤ IntKind.u64.wrap x ∧ IntKind.u64.wrap x < 18446744073709551616 := by
  simp [IntKind.wrap, IntKind.bits, IntKind.signed]
  omega
/-- Numbers laid one behind the other. -/
def allP (s : List Int × Int) (l : List Int) (width : Int) : List Int × Int := l.foldl (fun s x => wput1 s (IntKind.u64.wrap x) width) s
theorem allP_take (s : List Int × Int) (l : List Int) (width : Int) (k : Nat) (h : k < l.length) : allP s (l.take (k + 1)) width = wput1 (allP s (l.take k) width) (IntKind.u64.wrap l[k]) width := by
  unfold allP
  rw [List.take_succ_eq_append_getElem h, List.foldl_append]
  rfl
set_option maxHeartbeats 8000000 in
set_option maxRecDepth 100000 in
theorem all_calls {B : Nat} {w0 w : World} {g : Nat} {v : Value} {s : List Int × Int} {N : Int} (h : WAt B w0 g v s N w) (A : Option Addr) (c : Nat) (l : List Int) (width : Int) (hN : N ≤ 900000000000) (hl : l.length ≤ 1000000000) (hF : Kd.F (Kd.int .i64) w (fun k => k ≠ g ∧ some k ≠ v.ownBlock) A l.length l) :
    Calls Try.prog 87 #[.pointer (some ⟨g, 0, none⟩), .slice A l.length c, .int .i64 width] w (WTo B w0 g v w (allP s l width) (N + 64 * l.length)) := by
  have H := Aside0.mk h
  have HF := Aside0.mk hF
  have T0 := Aside0.mk (WStep.refl g v w)
  clear h hF
  go_enter Try.func87, Try.ntmps87
  go_wp2
  go_loopw [10] (fun i wr => ∃ (k : Nat) (v1 : Value), k ≤ l.length ∧ i = .int .i64 k ∧ Aside0 (WAt B w0 g v1 (allP s (l.take k) width) (N + 64 * k) wr) ∧ Aside0 (WStep g v w v1 wr) ∧ Aside0 (Kd.F (Kd.int .i64) wr (fun k => k ≠ g ∧ some k ≠ v1.ownBlock) A l.length l)) (fun i _ => l.length - (intOf i).toNat)
  case atStart => exact ⟨0, v, Nat.zero_le _, rfl, ⟨by simpa [allP] using H.out⟩, T0, HF⟩
  case round =>
    clear H HF T0
    obtain ⟨k, v1, hk, rfl, H, T, HF⟩ := hrel
    by_cases hlt : k < l.length
    · have d1 : decide ((k : Int) < (l.length : Int)) = true := decide_eq_true (by omega)
      have d2 : decide (k < l.length) = true := decide_eq_true (by omega)
      obtain ⟨ad, e1, hx⟩ := Kd.at_int (Kd.F_now HF.out) (k : Int) (by omega) (by omega)
      cases e1
      rw [rd_at l k hlt, Int.toNat_natCast] at hx
      have HS := Aside0.mk (allP_take s l width k hlt)
      generalize l[k] = x at hx HS
      have k1 : (0 : Int) ≤ (k : Int) := Int.natCast_nonneg _
      have k2 : (k : Int) < (l.length : Int) := by omega
      go_wp2_with (first | (go_at_call 83; (with_reducible refine (put1_calls H.out (by omega) _ _ (u64_rng _)).mono ?_); rintro e w1 ⟨rfl, v2, hw, ht⟩; have H1 := Aside0.mk hw; have T1 := Aside0.mk (T.out.trans ht); have F1 := Aside0.mk (wF HF.out ht); clear hw ht))
      refine ⟨⟨k + 1, v2, by omega, by go_num, ⟨?_⟩, T1, F1⟩, by simp [intOf]; omega⟩
      rw [HS.out]
      exact ⟨H1.out.st, H1.out.ok.mono (by omega), H1.out.bel, H1.out.sz⟩
    · obtain rfl : k = l.length := by omega
      have d1 : decide ((l.length : Int) < (l.length : Int)) = false := decide_eq_false (by omega)
      have d2 : decide (l.length < l.length) = false := decide_eq_false (by omega)
      have hH := H.out
      rw [List.take_length] at hH
      have HE := Aside0.mk hH
      clear hH
      go_wp2
      exact bodyPost_ret (v := .tuple #[]) (by simp [results, go_sem]) rfl ⟨rfl, _, HE.out, T.out⟩
end Go.Proofs.Ytpeejdmbnlhjmaa.H
/- A subframe of the kinds constant and verbatim laid into a writer (subframe.Put), with the proof that the program's call comes to a plain function. For any numbers that can be. -/
namespace Go.Proofs.Ytpeejdmbnlhjmaa.H
open Go.RowKit Go.Proofs.YtpeejdmbnlhjmaaW.PrintWords Go.Proofs.YtpeejdmbnlhjmaaW.PrintLast Go.Proofs.YtpeejdmbnlhjmaaW.PrintMore
attribute [local go_sem] max2_int min2_int max_two min_two max_three min_three max_four min_four   -- for this text's walks alone
set_option linter.unusedVariables false
set_option linter.unusedSimpArgs false
theorem new_calls (w : World) : Calls Try.prog 48 #[] w fun e w' => e = .returned (.pointer (some ⟨w.heap.size, 0, none⟩)) ∧ w' = w.alloc (.cells #[.slice none 0 0, .int .i64 0] 143) := by
  go_enter Try.func48, Try.ntmps48
  go_wp2
  go_ret
  exact ⟨rfl, rfl⟩
theorem cell_keep {W W' : World} {a : Addr} {v : Value} (h : W.cell? a = some v) (hb : Below W.heap.size W W') : W'.cell? a = some v := (hb.cell (World.block_lt_of_cell? W _ h)).trans h
theorem cell_drew {W : World} {a : Addr} {v : Value} (h : W.cell? a = some v) : W.drew.cell? a = some v := h
theorem cell_alloc {W : World} {a : Addr} {v : Value} (h : W.cell? a = some v) (o : Obj) : (W.alloc o).cell? a = some v := cell_keep h (below_alloc (Below.refl _ _) o)
theorem order0 {K Wa O Sh Pr Po : Int} {F : List Int} {Wd : Bool} {P : List S172} (h : K = 0 ∨ K = 1) : subframe_order.f K Wa O Sh Pr F Wd Po P = some 0 := by
  unfold subframe_order.f
  rw [if_neg (by omega), if_neg (by omega)]
theorem typed0 {K Wa O Sh Pr Po : Int} {F : List Int} {Wd : Bool} {P : List S172} (h : K = 0 ∨ K = 1) : subframe_typed.f K Wa O Sh Pr F Wd Po P = some K := by
  unfold subframe_typed.f
  rw [if_neg (by omega), if_neg (by omega)]
theorem own_away {B g : Nat} {W w8 : World} {v : Value} {bs : List Int} {n : Int} {A : Option Addr} {c : Nat} {ys : List Int} (hR : Kd.R (Kd.int .i64) 3 w8 W.heap.size (fun _ => True) (.slice A ys.length c) ys) (hs : WSt B W g v bs n) : Kd.F (Kd.int .i64) w8 (fun k => k ≠ g ∧ some k ≠ v.ownBlock) A ys.length ys := by
  refine Kd.F_mono (Kd.R_F (Kd.R_bound hR)) (fun k hk => ?_)
  have hg := (Array.getElem?_eq_some_iff.1 hs.1).1
  refine ⟨by have := hk.2.1; omega, fun e => ?_⟩
  have := Kd.R_lt hs.2.2 k e.symm
  have := hk.2.1
  omega
theorem all_calls_n {B : Nat} {w0 w : World} {g : Nat} {v : Value} {s : List Int × Int} {N : Int} (h : WAt B w0 g v s N w) (A : Option Addr) (n c : Nat) (l : List Int) (width : Int) (hn : l.length = n) (hN : N ≤ 900000000000) (hl : n ≤ 1000000000) (hF : Kd.F (Kd.int .i64) w (fun k => k ≠ g ∧ some k ≠ v.ownBlock) A l.length l) :
    Calls Try.prog 87 #[.pointer (some ⟨g, 0, none⟩), .slice A n c, .int .i64 width] w (WTo B w0 g v w (allP s l width) (N + 64 * n)) := by
  subst hn
  exact all_calls h A c l width hN hl hF
def putPlain (s : List Int × Int) (l : List Int) (K Wa D : Int) : List Int × Int := allP (wasteP (wput1 s (IntKind.u64.wrap K) 7) Wa) (if K = 0 then (downP Wa l).take 1 else downP Wa l) (D - Wa)
def PutTo (B : Nat) (w0 : World) (g : Nat) (v : Value) (w : World) (s : List Int × Int) (N : Int) (e : Ending) (w' : World) : Prop := e = .returned (.int .i64 0) ∧ ∃ v', WAt B w0 g v' s N w' ∧ WStep g v w v' w'
theorem blk_wstep {g k : Nat} {v v' : Value} {W W' : World} {o : Obj} (h : W.heap[k]? = some o) (hs : WStep g v W v' W') (h1 : k ≠ g) (h2 : some k ≠ v.ownBlock) : W'.heap[k]? = some o := (hs.block k (Array.getElem?_eq_some_iff.1 h).1 h1 h2).trans h
set_option maxHeartbeats 8000000 in
set_option maxRecDepth 100000 in
theorem put_plain (k : Nat) {B : Nat} {w0 w : World} {g : Nat} {v : Value} {s : List Int × Int} {N : Int} (h : WAt B w0 g v s N w) (A : Option Addr) (c : Nat) (l : List Int) (K Wa O Sh Pr : Int) (A5 : Option Addr) (c5 : Nat) (F : List Int) (Wd : Bool) (Po : Int) (A8 : Option Addr) (c8 : Nat) (P : List S172) (D : Int)
    (hN : N ≤ 800000000000) (hF : Kd.F (Kd.int .i64) w (fun k => k ≠ g ∧ some k ≠ v.ownBlock) A l.length l) (hc : l.length ≤ c) (hr5 : Kd.C (Kd.int .i64) w A5 F.length F) (hc5 : F.length ≤ c5) (hr8 : Kd.C k172 w A8 P.length P) (hc8 : P.length ≤ c8) (ho : subframe_odd.f k l K Wa O Sh Pr F Wd Po P D = some 0)
    (h1 : 0 ≤ Wa) (h2 : Wa ≤ D) (h3 : D ≤ 33) (h4 : l.length ≤ 65535) (h5 : 1 ≤ l.length) (hK : K = 0 ∧ ¬ compN l > 1 ∨ K = 1) :
    Calls Try.prog 49 #[.pointer (some ⟨g, 0, none⟩), .slice A l.length c, .agg (scells K Wa O Sh Pr (.slice A5 F.length c5) Wd Po (.slice A8 P.length c8)), .int .i64 D] w (PutTo B w0 g v w (putPlain s l K Wa D) (N + 256 + 64 * l.length)) := by
  obtain ⟨a, hbits⟩ : ∃ a : Int, ∀ W : World, Kd.C (Kd.int .i64) W A l.length l → Kd.C (Kd.int .i64) W A5 F.length F → Kd.C k172 W A8 P.length P → Calls Try.prog 46 #[.slice A l.length c, .agg (scells K Wa O Sh Pr (.slice A5 F.length c5) Wd Po (.slice A8 P.length c8)), .int .i64 D] W (OneInt2 W a 0) := by
    rcases hK with ⟨h, h'⟩ | h
    · exact ⟨_, fun W x y z => bits_good k A c l K Wa O Sh Pr A5 c5 F Wd Po A8 c8 P D W _ 0 x hc y hc5 z hc8 ho h1 h2 h3 h4 (.inl ⟨h, .inr ⟨h', rfl, rfl⟩⟩)⟩
    · exact ⟨_, fun W x y z => bits_good k A c l K Wa O Sh Pr A5 c5 F Wd Po A8 c8 P D W _ 0 x hc y hc5 z hc8 ho h1 h2 h3 h4 (.inr ⟨h, rfl, rfl⟩)⟩
  have HBITS := Aside0.mk hbits
  have HK := Aside0.mk (show K = 0 ∨ K = 1 by omega)
  have H0 := Aside0.mk h
  have F0 := Aside0.mk hF
  have C5 := Aside0.mk hr5
  have C8 := Aside0.mk hr8
  have L0 := Aside0.mk hc
  have L5 := Aside0.mk hc5
  have L8 := Aside0.mk hc8
  have HL := Aside0.mk (show l.length ≤ 1000000000000 by omega)
  have hg : g < w.heap.size := (Array.getElem?_eq_some_iff.1 h.st.1).1
  have hv : ∀ b, v.ownBlock = some b → b < w.heap.size := fun b e => Kd.R_lt h.st.2.2 b e
  have HG := Aside0.mk hg
  have HV := Aside0.mk hv
  clear h hF hr5 hr8 hc hc5 hc8 ho hK hbits hg hv
  go_enter Try.func49, Try.ntmps49
  go_upto_region 5 with (first
    | (go_at_call 46; (with_reducible refine (HBITS.out _ (Kd.C_alloc (Kd.F_now F0.out) _) (Kd.C_alloc C5.out _) (Kd.C_alloc C8.out _)).mono ?_); rintro e' w1 ⟨rfl, hb⟩; have BK1 := Aside0.mk (blk_below (blk_new w _) hb); have HB1 := Aside0.mk (below_step (below_alloc (Below.refl _ _) _) hb); clear hb; obtain ⟨x0, x1, x2, x3, x4, x5, x6, x7, x8⟩ := scell BK1.out)
    | (go_at_call 77; (with_reducible refine (rest_plain A c l K Wa O Sh Pr _ Wd Po _ _ HL.out (Kd.C_below (Kd.F_now F0.out) HB1.out) L0.out HK.out rfl rfl).mono ?_); rintro e' w2 ⟨rfl, hb⟩; clear x0 x1 x2 x3 x4 x5 x6 x7 x8; have BK2 := Aside0.mk (blk_below BK1.out hb); have HB2 := Aside0.mk (below_step HB1.out hb); clear hb))
  obtain ⟨x0, x1, x2, x3, x4, x5, x6, x7, x8⟩ := scell BK2.out
  go_region_held3 (fun W => W.cell? ⟨w.heap.size, 0, none⟩ = some (.int .i64 K) ∧ W.cell? ⟨w.heap.size, 1, none⟩ = some (.int .i64 Wa) ∧ W.cell? ⟨w.heap.size, 2, none⟩ = some (.int .i64 O) ∧ W.cell? ⟨w.heap.size, 3, none⟩ = some (.int .i64 Sh) ∧ W.cell? ⟨w.heap.size, 4, none⟩ = some (.int .i64 Pr) ∧ W.cell? ⟨w.heap.size, 5, none⟩ = some (.slice A5 F.length c5) ∧ W.cell? ⟨w.heap.size, 6, none⟩ = some (.bool Wd) ∧ W.cell? ⟨w.heap.size, 7, none⟩ = some (.int .i64 Po) ∧ W.cell? ⟨w.heap.size, 8, none⟩ = some (.slice A8 P.length c8) ∧ Below w2.heap.size w2 W)
    (first | (go_keep; done) | (((try go_split_ands); (repeat' apply And.intro)) <;> first | assumption | exact cell_drew ‹_› | exact cell_alloc ‹_› _ | exact cell_keep ‹_› ‹_› | exact below_drew (Below.refl _ _) | exact below_drew ‹_› | exact below_alloc ‹_› _ | exact below_step ‹_› ‹_›))
    (first | (go_at_call 48; (with_reducible refine (new_calls _).mono ?_); rintro e' w3 ⟨rfl, rfl⟩) | (go_at_call 80; go_split_ands; (with_reducible refine (subframe_order.calls K Wa O Sh Pr A5 c5 F Wd Po A8 c8 P 0 _ (Kd.C_below C5.out (below_step HB2.out (by assumption))) L5.out (Kd.C_below C8.out (below_step HB2.out (by assumption))) L8.out (order0 HK.out)).mono ?_); rintro e' w4 ⟨rfl, hb⟩) | fail)
  have HB4 := Aside0.mk (below_step HB2.out (below_step (show Below w2.heap.size w2 _ by assumption) hb))
  have BK4 := Aside0.mk (blk_below BK2.out (below_step (show Below w2.heap.size w2 _ by assumption) hb))
  go_split_ands
  clear x0 x1 x2 x3 x4 x5 x6 x7 x8
  have ne1 : w.heap.size ≠ g := by have := HG.out; omega
  have ne2 : some w.heap.size ≠ v.ownBlock := fun e => by have := HV.out _ e.symm; omega
  have NE1 := Aside0.mk ne1
  have NE2 := Aside0.mk ne2
  have wd : IntKind.i64.wrap (D - Wa) = D - Wa := by rw [IntKind.wrap_i64]; omega
  clear ne1 ne2
  go_upto_region 11 with (first
    | (go_at_call 84; (with_reducible refine (subframe_typed.calls K Wa O Sh Pr A5 c5 F Wd Po A8 c8 P K _ (Kd.C_below C5.out HB4.out) L5.out (Kd.C_below C8.out HB4.out) L8.out (typed0 HK.out)).mono ?_); rintro e' w5 ⟨rfl, hb⟩; have HB5 := Aside0.mk (below_step HB4.out hb); have BK5 := Aside0.mk (blk_below BK4.out hb); clear hb; have WA5 := Aside0.mk (H0.out.other HB5.out).1; have T05 := Aside0.mk (H0.out.other HB5.out).2; have F5 := Aside0.mk (wF F0.out T05.out))
    | (go_at_call 83; (with_reducible refine (put1_calls WA5.out (by omega) _ _ (u64_rng _)).mono ?_); rintro e' w6 ⟨rfl, v6, hw, ht⟩; have WA6 := Aside0.mk hw; have T6 := Aside0.mk ht; have BK6 := Aside0.mk (blk_wstep BK5.out ht NE1.out NE2.out); clear hw ht; obtain ⟨y0, y1, _⟩ := scell BK6.out))
  go_upto_region 12 with (first | (go_at_call 85; (with_reducible refine (waste_calls WA6.out (by omega) Wa (by omega)).mono ?_); rintro e' w7 ⟨rfl, v7, hw, ht⟩; clear y0 y1; have WA7 := Aside0.mk hw; have T7 := Aside0.mk (T6.out.trans ht); clear hw ht; have BK7 := Aside0.mk (blk_wstep BK5.out T7.out NE1.out NE2.out); have F7 := Aside0.mk (wF F5.out T7.out)))
  obtain ⟨z0, z1, _⟩ := scell BK7.out
  go_region_held3 (fun W => W.cell? ⟨w.heap.size, 1, none⟩ = some (.int .i64 Wa) ∧ Below w7.heap.size w7 W)
    (first | (go_keep; done) | (((try go_split_ands); (repeat' apply And.intro)) <;> first | assumption | exact cell_drew ‹_› | exact cell_alloc ‹_› _ | exact cell_keep ‹_› ‹_› | exact below_drew (Below.refl _ _) | exact below_drew ‹_› | exact below_alloc ‹_› _ | exact below_step ‹_› ‹_›))
    (first | (go_at_call 86; go_split_ands; (with_reducible refine (down_calls _ _ l Wa _ HL.out (Kd.C_below (Kd.F_now F7.out) (by assumption)) L0.out).mono ?_); rintro e' w8 ⟨v8, rfl, hr8, hb8⟩; obtain ⟨AY, cY, ey⟩ := Kd.R_slice hr8; subst ey) | fail)
  have HB8 := Aside0.mk (below_step (show Below w7.heap.size w7 _ by assumption) hb8)
  have R8 := Aside0.mk (Kd.R_lower hr8 (below_size (show Below w7.heap.size w7 _ by assumption)))
  go_split_ands
  have WA8 := Aside0.mk (WA7.out.other HB8.out).1
  have T8 := Aside0.mk (T7.out.trans (WA7.out.other HB8.out).2)
  have BK8 := Aside0.mk (blk_below BK7.out HB8.out)
  have F8 : Aside0 (Kd.F (Kd.int .i64) _ (fun k => k ≠ g ∧ some k ≠ v7.ownBlock) AY (downP Wa l).length (downP Wa l)) := ⟨own_away R8.out WA7.out.st⟩
  have LY := Aside0.mk (Kd.R_reads' R8.out).2.1
  have TT := Aside0.mk (T05.out.trans T8.out)
  have hlen : (downP Wa l).length = l.length := by unfold downP; rw [List.length_map]
  have HLEN := Aside0.mk hlen
  have l1 : 1 ≤ cY := by have := LY.out; omega
  obtain ⟨z0, z1, _⟩ := scell BK8.out
  rw [hlen]
  clear hlen hr8 hb8
  generalize hys : downP Wa l = ys at *
  have HYS := Aside0.mk hys
  clear hys
  rcases HK.out with rfl | rfl
  · go_wp2_with (first | (go_at_call 87; (with_reducible refine (all_calls_n WA8.out AY 1 cY (ys.take 1) (D - Wa) (by rw [List.length_take]; have := HLEN.out; omega) (by omega) (by decide) (Kd.F_imp F8.out (fun W' hC => Kd.C_take hC (by have := HLEN.out; omega)))).mono ?_); rintro e' w9 ⟨rfl, v9, hw, ht⟩; have WA9 := Aside0.mk hw; have T9 := Aside0.mk (TT.out.trans ht); clear hw ht))
    go_ret
    refine ⟨rfl, v9, ?_, T9.out⟩
    have e0 : putPlain s l 0 Wa D = allP (wasteP (wput1 s (IntKind.u64.wrap 0) 7) Wa) (ys.take 1) (D - Wa) := by unfold putPlain; rw [if_pos rfl, HYS.out]
    rw [e0]
    exact ⟨WA9.out.st, WA9.out.ok.mono (by omega), WA9.out.bel, WA9.out.sz⟩
  · go_wp2_with (first | (go_at_call 87; (with_reducible refine (all_calls_n WA8.out AY l.length cY ys (D - Wa) HLEN.out (by omega) (by omega) F8.out).mono ?_); rintro e' w9 ⟨rfl, v9, hw, ht⟩; have WA9 := Aside0.mk hw; have T9 := Aside0.mk (TT.out.trans ht); clear hw ht))
    go_ret
    refine ⟨rfl, v9, ?_, T9.out⟩
    have e0 : putPlain s l 1 Wa D = allP (wasteP (wput1 s (IntKind.u64.wrap 1) 7) Wa) ys (D - Wa) := by unfold putPlain; rw [if_neg (by decide), HYS.out]
    rw [e0]
    exact ⟨WA9.out.st, WA9.out.ok.mono (by omega), WA9.out.bel, WA9.out.sz⟩
end Go.Proofs.Ytpeejdmbnlhjmaa.H
