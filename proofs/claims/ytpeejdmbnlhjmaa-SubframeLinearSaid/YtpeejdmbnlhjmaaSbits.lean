/- How many bits a subframe of the kinds constant and verbatim has (subframe.Bits), as a plain function, with the proof that the program's call comes to it. For any numbers. -/
import Derived.Test.YtpeejdmbnlhjmaaProg
import Derived.Below
import Derived.Deep.Draws
import Derived.Deep.AppendLies
import Derived.Maps.AppendAt
import Derived.OwnWalk
import Derived.Laws.BytesArg
import Derived.Laws.MakeOwn
import Derived.Laws.OwnMore
import Derived.Deep.OwnRows
import Derived.Tactics
import Derived.Lib.ConvBytes
import Derived.Laws.Slices
import Derived.WalkKit
import Derived.KernelRfl
import Derived.RowKit3
import Derived.Deep.LoopGhost
import Derived.Deep.QuietTactic
import Derived.BigQuiet
import Derived.WideLaws
import Derived.Deep.DeepCutAuto
import Derived.Deep.CutBlock
import Derived.Deep.RegionHeld3
import Derived.Laws.Rows
import Derived.Lib.AppendStr
import Derived.ArgAppend
import Derived.Laws.IdiomCopy
import Derived.OrdersHeld
import Derived.Laws.BitsLemmas
import Derived.RowKit
import Derived.Test.YtpeejdmbnlhjmaaWWords
import Derived.Test.YtpeejdmbnlhjmaaWLast
import Derived.Test.YtpeejdmbnlhjmaaWTab
import Derived.Test.YtpeejdmbnlhjmaaWFour
import Derived.Test.YtpeejdmbnlhjmaaWQPut
import Derived.Test.YtpeejdmbnlhjmaaWApart
import Derived.Test.YtpeejdmbnlhjmaaWArr
import Derived.Test.YtpeejdmbnlhjmaaWZeros
import Derived.Test.YtpeejdmbnlhjmaaWFoot
import Derived.Test.YtpeejdmbnlhjmaaWKept
import Derived.Test.YtpeejdmbnlhjmaaWShare
import Derived.Test.YtpeejdmbnlhjmaaWN
import Derived.Test.YtpeejdmbnlhjmaaWFootNe
import Derived.Test.YtpeejdmbnlhjmaaWAt
import Derived.Test.YtpeejdmbnlhjmaaWEqStruct
import Derived.Test.YtpeejdmbnlhjmaaWRepsOne
import Derived.Test.YtpeejdmbnlhjmaaWInv
import Derived.Test.YtpeejdmbnlhjmaaWInvWords
import Derived.Test.YtpeejdmbnlhjmaaWGuard
import Derived.Test.YtpeejdmbnlhjmaaWNEv
import Derived.Test.YtpeejdmbnlhjmaaWMore
import Derived.Test.YtpeejdmbnlhjmaaSpre
import Derived.Test.YtpeejdmbnlhjmaaSclone
import Derived.Test.YtpeejdmbnlhjmaaSfunc
import Derived.Test.YtpeejdmbnlhjmaaSdown
import Derived.Test.YtpeejdmbnlhjmaaSrest
import Derived.Test.YtpeejdmbnlhjmaaSshelf
namespace Go.Proofs.Ytpeejdmbnlhjmaa.H
open Go.RowKit Go.Proofs.YtpeejdmbnlhjmaaW.PrintWords Go.Proofs.YtpeejdmbnlhjmaaW.PrintLast Go.Proofs.YtpeejdmbnlhjmaaW.PrintMore
attribute [local go_sem] max2_int min2_int max_two min_two max_three min_three max_four min_four   -- for this text's walks alone
set_option linter.unusedVariables false
set_option linter.unusedSimpArgs false
def compN (l : List Int) : Nat := (Lib.compact l).length
def OneInt2 (w : World) (a b : Int) (e : Ending) (w' : World) : Prop := e = .returned (.tuple #[.int .i64 a, .int .i64 b]) ∧ Below w.heap.size w w'
theorem below_setCells {w0 : World} {B g : Nat} (hg : B ≤ g) : ∀ (vs : List Value) (o : Nat) (W : World), Below B w0 W → Below B w0 (W.setCells g o vs)
  | [], _, _, h => h
  | v :: vs, o, W, h => below_setCells hg vs (o + 1) _ (h.setCell hg v)
/-- Compact at a row of one's own: how many numbers are kept. -/
theorem compact_calls {w0 w : World} {A : Option Addr} {c : Nat} {l : List Int} (hB : Below w0.heap.size w0 w) (hR : Kd.R (Kd.int .i64) 3 w w0.heap.size (fun _ => True) (.slice A l.length c) l) (hl : l.length ≤ 1000000000000) :
    Calls Try.prog 78 #[.slice A l.length c] w fun e w' => (∃ A' c', e = .returned (.slice A' (compN l) c')) ∧ Below w0.heap.size w0 w' := by
  by_cases h0 : l = []
  · subst h0
    refine (Try.slices_Compact_int_empty A c w).mono ?_
    rintro e w' ⟨rfl, rfl⟩
    exact ⟨⟨A, c, rfl⟩, hB⟩
  · have hpos := List.length_pos_iff.mpr h0
    obtain ⟨g, cap, hv, hge, _, _⟩ := Kd.R_form hR hpos
    obtain ⟨rfl, _, rfl⟩ := Value.slice.inj hv
    have hat := fun j (hj : j < l.length) => irow_at hR j hj
    refine (Try.slices_Compact_int_cells g 0 l.length c l w (Nat.le_refl _) (by omega) (Kd.R_reads' hR).2.1 (fun j hj => ?_) (fun j hj => ?_)).mono ?_
    · rw [Nat.zero_add, (hat j hj).1]
      unfold rd
      rw [Int.toNat_natCast]
    · rw [Nat.zero_add, (hat j hj).2]
    · rintro e w' ⟨rfl, q, rfl⟩
      rw [List.take_length]
      exact ⟨⟨_, _, rfl⟩, below_setCells hge _ _ _ (pw_below_drewN hB q)⟩
def bits01 (k : Nat) (l : List Int) (K Wa O Sh Pr : Int) (F : List Int) (Wd : Bool) (Po : Int) (P : List S172) (D : Int) : Option (Int × Int) :=
  (subframe_odd.f k l K Wa O Sh Pr F Wd Po P D).bind fun e => if e = 0 then
    (if (0 ≤ Wa ∧ Wa ≤ D ∧ D ≤ 33 ∧ l.length ≤ 65535) then (if K = 0 then (if compN l > 1 then some (0, 5) else some (8 + Wa + (D - Wa), 0)) else if K = 1 then some (8 + Wa + (D - Wa) * l.length, 0) else none) else none)
    else some (0, e)
theorem blk9_load {w : World} {g : Nat} {K Wa O Sh Pr : Int} {Fa : Value} {Wd : Bool} {Po : Int} {Pa : Value} (h : w.heap[g]? = some (.cells (scells K Wa O Sh Pr Fa Wd Po Pa) 87 (0, 0))) : True := trivial
set_option maxHeartbeats 8000000 in
set_option maxRecDepth 100000 in
theorem bits_bad (k : Nat) (A : Option Addr) (c : Nat) (l : List Int) (K Wa O Sh Pr : Int) (A5 : Option Addr) (c5 : Nat) (F : List Int) (Wd : Bool) (Po : Int) (A8 : Option Addr) (c8 : Nat) (P : List S172) (D : Int) (w : World) (e : Int)
    (hr : Kd.C (Kd.int .i64) w A l.length l) (hc : l.length ≤ c) (hr5 : Kd.C (Kd.int .i64) w A5 F.length F) (hc5 : F.length ≤ c5) (hr8 : Kd.C k172 w A8 P.length P) (hc8 : P.length ≤ c8) (ho : subframe_odd.f k l K Wa O Sh Pr F Wd Po P D = some e) (he : e ≠ 0) :
    Calls Try.prog 46 #[.slice A l.length c, .agg (scells K Wa O Sh Pr (.slice A5 F.length c5) Wd Po (.slice A8 P.length c8)), .int .i64 D] w (OneInt2 w 0 e) := by
  have HO := Aside0.mk ho
  have H0 := Aside0.mk hr
  have H5 := Aside0.mk hr5
  have H8 := Aside0.mk hr8
  have C0 := Aside0.mk hc
  have C5 := Aside0.mk hc5
  have C8 := Aside0.mk hc8
  have ge : (e != 0) = true := bne_iff_ne.mpr he
  clear ho hr hr5 hr8 hc hc5 hc8 he
  go_enter Try.func46, Try.ntmps46
  go_wp2_with (first | (go_at_call 76; (with_reducible refine (subframe_odd.calls k A c l K Wa O Sh Pr A5 c5 F Wd Po A8 c8 P D e _ (Kd.C_alloc H0.out _) C0.out (Kd.C_alloc H5.out _) C5.out (Kd.C_alloc H8.out _) C8.out HO.out).mono ?_); rintro e' w1 ⟨rfl, hb⟩; have HB := Aside0.mk (below_step (below_alloc (Below.refl _ _) _) hb); clear hb))
  go_ret2
  exact ⟨rfl, HB.out⟩
set_option maxHeartbeats 8000000 in
set_option maxRecDepth 100000 in
theorem bits_good (k : Nat) (A : Option Addr) (c : Nat) (l : List Int) (K Wa O Sh Pr : Int) (A5 : Option Addr) (c5 : Nat) (F : List Int) (Wd : Bool) (Po : Int) (A8 : Option Addr) (c8 : Nat) (P : List S172) (D : Int) (w : World) (a b : Int)
    (hr : Kd.C (Kd.int .i64) w A l.length l) (hc : l.length ≤ c) (hr5 : Kd.C (Kd.int .i64) w A5 F.length F) (hc5 : F.length ≤ c5) (hr8 : Kd.C k172 w A8 P.length P) (hc8 : P.length ≤ c8) (ho : subframe_odd.f k l K Wa O Sh Pr F Wd Po P D = some 0)
    (h1 : 0 ≤ Wa) (h2 : Wa ≤ D) (h3 : D ≤ 33) (h4 : l.length ≤ 65535) (hK : K = 0 ∧ (compN l > 1 ∧ a = 0 ∧ b = 5 ∨ ¬ compN l > 1 ∧ a = 8 + Wa + (D - Wa) ∧ b = 0) ∨ K = 1 ∧ a = 8 + Wa + (D - Wa) * l.length ∧ b = 0) :
    Calls Try.prog 46 #[.slice A l.length c, .agg (scells K Wa O Sh Pr (.slice A5 F.length c5) Wd Po (.slice A8 P.length c8)), .int .i64 D] w (OneInt2 w a b) := by
  have HK := Aside0.mk (show K = 0 ∨ K = 1 by omega)
  have HO := Aside0.mk ho
  have H0 := Aside0.mk hr
  have H5 := Aside0.mk hr5
  have H8 := Aside0.mk hr8
  have C0 := Aside0.mk hc
  have C5 := Aside0.mk hc5
  have C8 := Aside0.mk hc8
  have HL := Aside0.mk (show l.length ≤ 1000000000000 by omega)
  have HKK := Aside0.mk hK
  clear ho hr hr5 hr8 hc hc5 hc8 hK
  go_enter Try.func46, Try.ntmps46
  go_upto_region 5 with (first
    | (go_at_call 76; (with_reducible refine (subframe_odd.calls k A c l K Wa O Sh Pr A5 c5 F Wd Po A8 c8 P D 0 _ (Kd.C_alloc H0.out _) C0.out (Kd.C_alloc H5.out _) C5.out (Kd.C_alloc H8.out _) C8.out HO.out).mono ?_); rintro e' w1 ⟨rfl, hb⟩; have BK1 := Aside0.mk (blk_below (blk_new w _) hb); have HB1 := Aside0.mk (below_step (below_alloc (Below.refl _ _) _) hb); clear hb; obtain ⟨x0, x1, x2, x3, x4, x5, x6, x7, x8⟩ := scell BK1.out)
    | (go_at_call 77; (with_reducible refine (rest_plain A c l K Wa O Sh Pr _ Wd Po _ _ HL.out (Kd.C_below H0.out HB1.out) C0.out HK.out rfl rfl).mono ?_); rintro e' w2 ⟨rfl, hb⟩; clear x0 x1 x2 x3 x4 x5 x6 x7 x8; have BK2 := Aside0.mk (blk_below BK1.out hb); have HB2 := Aside0.mk (below_step HB1.out hb); clear hb; obtain ⟨x0, x1, _⟩ := scell BK2.out))
  have w1_ : IntKind.i64.wrap (8 + Wa) = 8 + Wa := by rw [IntKind.wrap_i64]; omega
  have w2_ : IntKind.i64.wrap (D - Wa) = D - Wa := by rw [IntKind.wrap_i64]; omega
  go_quiet (fail)
  clear w1_ w2_ x0 x1
  have y0 := (scell (w := w2) BK2.out).1
  have hD0 : 0 ≤ D - Wa := by omega
  have hD1 : D - Wa ≤ 33 := by omega
  generalize hd : D - Wa = d at *
  have HD := Aside0.mk hd
  clear hd
  rcases HKK.out with ⟨rfl, hk⟩ | ⟨rfl, rfl, rfl⟩
  · rcases hk with ⟨hn, rfl, rfl⟩ | ⟨hn, rfl, rfl⟩
    · have d1 : decide ((compN l : Int) > 1) = true := decide_eq_true (by omega)
      have d2 : decide (compN l > 1) = true := decide_eq_true hn
      have d3 : decide (1 < compN l) = true := decide_eq_true hn
      clear hn
      go_wp2_with (first
        | (go_at_call 79; (with_reducible refine (clone_calls A c l _ HL.out (Kd.C_below H0.out (pw_below_drewN HB2.out _)) C0.out).mono ?_); rintro e' w3 ⟨v3, rfl, hr3, hb3⟩; obtain ⟨A3, c3, rfl⟩ := Kd.R_slice hr3; have R3 := Aside0.mk hr3; have HB3 := Aside0.mk hb3; clear hr3 hb3)
        | (go_at_call 78; (with_reducible refine (compact_calls HB3.out R3.out HL.out).mono ?_); rintro e' w4 ⟨⟨A4, c4, rfl⟩, hb4⟩; have HB4 := Aside0.mk (below_step (pw_below_drewN HB2.out _) hb4); clear hb4))
      go_ret2
      exact ⟨rfl, HB4.out⟩
    · have d1 : decide ((compN l : Int) > 1) = false := decide_eq_false (by omega)
      have d2 : decide (compN l > 1) = false := decide_eq_false hn
      have d3 : decide (1 < compN l) = false := decide_eq_false hn
      clear hn
      go_wp2_with (first
        | (go_at_call 79; (with_reducible refine (clone_calls A c l _ HL.out (Kd.C_below H0.out (pw_below_drewN HB2.out _)) C0.out).mono ?_); rintro e' w3 ⟨v3, rfl, hr3, hb3⟩; obtain ⟨A3, c3, rfl⟩ := Kd.R_slice hr3; have R3 := Aside0.mk hr3; have HB3 := Aside0.mk hb3; clear hr3 hb3)
        | (go_at_call 78; (with_reducible refine (compact_calls HB3.out R3.out HL.out).mono ?_); rintro e' w4 ⟨⟨A4, c4, rfl⟩, hb4⟩; have HB4 := Aside0.mk (below_step (pw_below_drewN HB2.out _) hb4); clear hb4))
      go_ret2
      exact ⟨by first | rfl | (rw [HD.out]; rfl), HB4.out⟩
  · have hm : 0 ≤ d * (l.length : Int) ∧ d * (l.length : Int) ≤ 33 * 65535 := ⟨Int.mul_nonneg hD0 (Int.natCast_nonneg _), Int.mul_le_mul hD1 (by omega) (Int.natCast_nonneg _) (by decide)⟩
    have hm0 := hm.1
    have hm1 := hm.2
    clear hm
    go_wp2_with fail
    go_ret2
    exact ⟨by first | rfl | (rw [HD.out]; rfl), pw_below_drewN HB2.out _⟩
end Go.Proofs.Ytpeejdmbnlhjmaa.H
