/- Bits that are taken off bytes ((*bits.Reader).Take) as a plain function, with the proof that the program's call comes to it. -/
import Derived.Test.YtpeejdmbnlhjmaaProg
import Derived.Below
import Derived.Deep.Draws
import Derived.Deep.AppendLies
import Derived.Maps.AppendAt
import Derived.OwnWalk
import Derived.Laws.BytesArg
import Derived.Laws.MakeOwn
import Derived.Laws.OwnMore
import Derived.Deep.OwnRows
import Derived.Tactics
import Derived.Lib.ConvBytes
import Derived.Laws.Slices
import Derived.WalkKit
import Derived.KernelRfl
import Derived.RowKit3
import Derived.Deep.LoopGhost
import Derived.Deep.QuietTactic
import Derived.BigQuiet
import Derived.WideLaws
import Derived.Deep.DeepCutAuto
import Derived.Deep.CutBlock
import Derived.Deep.RegionHeld3
import Derived.Laws.Rows
import Derived.Lib.AppendStr
import Derived.ArgAppend
import Derived.Laws.IdiomCopy
import Derived.OrdersHeld
import Derived.Laws.BitsLemmas
import Derived.RowKit
import Derived.Test.YtpeejdmbnlhjmaaWWords
import Derived.Test.YtpeejdmbnlhjmaaWLast
import Derived.Test.YtpeejdmbnlhjmaaWTab
import Derived.Test.YtpeejdmbnlhjmaaWFour
import Derived.Test.YtpeejdmbnlhjmaaWQPut
import Derived.Test.YtpeejdmbnlhjmaaWApart
import Derived.Test.YtpeejdmbnlhjmaaWArr
import Derived.Test.YtpeejdmbnlhjmaaWZeros
import Derived.Test.YtpeejdmbnlhjmaaWFoot
import Derived.Test.YtpeejdmbnlhjmaaWKept
import Derived.Test.YtpeejdmbnlhjmaaWShare
import Derived.Test.YtpeejdmbnlhjmaaWN
import Derived.Test.YtpeejdmbnlhjmaaWFootNe
import Derived.Test.YtpeejdmbnlhjmaaWAt
import Derived.Test.YtpeejdmbnlhjmaaWEqStruct
import Derived.Test.YtpeejdmbnlhjmaaWRepsOne
import Derived.Test.YtpeejdmbnlhjmaaWInv
import Derived.Test.YtpeejdmbnlhjmaaWInvWords
import Derived.Test.YtpeejdmbnlhjmaaWGuard
import Derived.Test.YtpeejdmbnlhjmaaWNEv
import Derived.Test.YtpeejdmbnlhjmaaWMore
import Derived.ScopeJumps
import Derived.WalkMore
import Derived.Test.YtpeejdmbnlhjmaaSpre
import Derived.Test.YtpeejdmbnlhjmaaSclone
import Derived.Test.YtpeejdmbnlhjmaaSfunc
import Derived.Test.YtpeejdmbnlhjmaaSdown
import Derived.Test.YtpeejdmbnlhjmaaSw
import Derived.Test.YtpeejdmbnlhjmaaRpre
namespace Go.Proofs.Ytpeejdmbnlhjmaa.H
open Go.RowKit Go.Proofs.YtpeejdmbnlhjmaaW.PrintWords Go.Proofs.YtpeejdmbnlhjmaaW.PrintLast Go.Proofs.YtpeejdmbnlhjmaaW.PrintMore
attribute [local go_sem] max2_int min2_int max_two min_two max_three min_three max_four min_four   -- for this text's walks alone
set_option linter.unusedVariables false
set_option linter.unusedSimpArgs false
theorem ofFn79 (U : Nat → Value) : Array.ofFn (n := 79) (fun i => U i.val) = #[U 0, U 1, U 2, U 3, U 4, U 5, U 6, U 7, U 8, U 9, U 10, U 11, U 12, U 13, U 14, U 15, U 16, U 17, U 18, U 19, U 20, U 21, U 22, U 23, U 24, U 25, U 26, U 27, U 28, U 29, U 30, U 31, U 32, U 33, U 34, U 35, U 36, U 37, U 38, U 39, U 40, U 41, U 42, U 43, U 44, U 45, U 46, U 47, U 48, U 49, U 50, U 51, U 52, U 53, U 54, U 55, U 56, U 57, U 58, U 59, U 60, U 61, U 62, U 63, U 64, U 65, U 66, U 67, U 68, U 69, U 70, U 71, U 72, U 73, U 74, U 75, U 76, U 77, U 78] := by kernel_rfl
theorem frame79 (t : Array Value) (hs : t.size = 79) : ∃ U : Nat → Value, (∀ i, U i = t.getD i undef) ∧ t = #[U 0, U 1, U 2, U 3, U 4, U 5, U 6, U 7, U 8, U 9, U 10, U 11, U 12, U 13, U 14, U 15, U 16, U 17, U 18, U 19, U 20, U 21, U 22, U 23, U 24, U 25, U 26, U 27, U 28, U 29, U 30, U 31, U 32, U 33, U 34, U 35, U 36, U 37, U 38, U 39, U 40, U 41, U 42, U 43, U 44, U 45, U 46, U 47, U 48, U 49, U 50, U 51, U 52, U 53, U 54, U 55, U 56, U 57, U 58, U 59, U 60, U 61, U 62, U 63, U 64, U 65, U 66, U 67, U 68, U 69, U 70, U 71, U 72, U 73, U 74, U 75, U 76, U 77, U 78] := by
  obtain ⟨U, hU⟩ : ∃ U : Nat → Value, ∀ i, U i = t.getD i undef := ⟨fun i => t.getD i undef, fun _ => rfl⟩
  refine ⟨U, hU, ?_⟩
  rw [← ofFn79 U]
  exact Array.ext (by simp [hs]) (fun i h1 h2 => by simp [hU, Array.getD, h1])
/-- How many bits a round takes, and which. -/
def rMany (at_ left : Int) : Int := min (8 - at_ % 8) left
def rPart (l : List Int) (at_ left : Int) : Int := Go.bits .and .u8 (rd l (at_ / 8) / 2 ^ (8 - at_ % 8 - rMany at_ left).toNat) ((2 ^ (rMany at_ left).toNat - 1) % 256)
/-- Bits taken behind bits: the number, and how many bits are behind the reader. -/
def rtake : Nat → List Int → Int → Int → Int → Int × Int
  | 0, _, at_, n, _ => (n, at_)
  | f + 1, l, at_, n, left => if left ≤ 0 then (n, at_) else rtake f l (at_ + rMany at_ left) (Go.bits .or .u64 (IntKind.u64.wrap (n * 2 ^ (rMany at_ left).toNat)) (IntKind.u64.wrap (rPart l at_ left))) (left - rMany at_ left)
def bits_Reader_Take.f (_k : Nat) (l : List Int) (at_ fail width : Int) : Option (Int × Int × Int) :=
  if 0 ≤ at_ ∧ at_ ≤ 1000000000000 ∧ l.length ≤ 100000000000 then
    (if fail = 0 then (if max 0 (min width 64) > 8 * (l.length : Int) - at_ then some (0, at_, 2) else some ((rtake 64 l at_ 0 (max 0 (min width 64))).1, (rtake 64 l at_ 0 (max 0 (min width 64))).2, 0)) else some (0, at_, fail))
  else none
theorem bits_Reader_Take.mono : ∀ l a f n k, LeO (bits_Reader_Take.f k l a f n) (bits_Reader_Take.f (k + 1) l a f n) := fun _ _ _ _ _ _ h => h
def RZ (x : Int) : Prop := x = 0
/-- At the label: what is still to be taken comes to the same. -/
def RJ (g : Nat) (w0 w : World) (l : List Int) (Q : Int × Int) (left n : Int) (W : World) : Prop :=
  ∃ (at_ : Int) (f : Nat), IsS150 w0 W g l at_ 0 ∧ Below w0.heap.size w0 W ∧ KeepBut w W g none ∧ rtake f l at_ n left = Q ∧ left ≤ f ∧ 0 ≤ at_ ∧ at_ + left ≤ 8 * (l.length : Int)
theorem rtake_zero (f : Nat) (l : List Int) (a n : Int) : rtake f l a n 0 = (n, a) := by cases f <;> rfl
set_option maxHeartbeats 8000000 in
set_option maxRecDepth 100000 in
theorem rtake_calls (g : Nat) (l : List Int) (at0 fail width : Int) (w0 w : World) (hI : IsS150 w0 w g l at0 fail) (hB : Below w0.heap.size w0 w) (ha : 0 ≤ at0 ∧ at0 ≤ 1000000000000) (hl : l.length ≤ 100000000000) :
    Calls Try.prog 137 #[.pointer (some ⟨g, 0, none⟩), .int .i64 width] w fun e w' => ∃ r1 r2 r3, (if fail = 0 then (if max 0 (min width 64) > 8 * (l.length : Int) - at0 then (0, at0, 2) else ((rtake 64 l at0 0 (max 0 (min width 64))).1, (rtake 64 l at0 0 (max 0 (min width 64))).2, 0)) else (0, at0, fail)) = (r1, r2, r3) ∧ e = .returned (.int .u64 r1) ∧ IsS150 w0 w' g l r2 r3 ∧ Below w0.heap.size w0 w' ∧ KeepBut w w' g none := by
  have HI := Aside0.mk hI
  have HB := Aside0.mk hB
  have HA := Aside0.mk ha
  have HL := Aside0.mk hl
  obtain ⟨A0, c0, hblk, hge, hrow⟩ := hI
  have HROW := Aside0.mk hrow
  have x0 := cellS150_0 hblk
  have x1 := cellS150_1 hblk
  have x2 := cellS150_2 hblk
  have y2 := blk_frozen hblk 2
  clear hB hblk hge hrow
  go_enter Try.func137, Try.ntmps137
  obtain ⟨H, hH⟩ : ∃ H : Int, H = max 0 (min width 64) := ⟨_, rfl⟩
  have HH := Aside0.mk hH
  have hH0 : 0 ≤ H ∧ H ≤ 64 := by omega
  clear hH
  go_wp2_with fail
  refine wp_scope_loop 0 (fun a W => ∃ left n : Int, (a.tmps.size = 79 ∧ a.defers = [] ∧ a.tmps.getD 0 undef = .pointer (some ⟨g, 0, none⟩) ∧ a.tmps.getD 1 undef = .int .i64 width ∧ a.tmps.getD 5 undef = .int .i64 left ∧ a.tmps.getD 6 undef = .int .u64 n) ∧ 0 ≤ left ∧ left ≤ 64 ∧ RZ fail ∧ Aside0 (H ≤ 8 * (l.length : Int) - at0) ∧ Aside0 (RJ g w0 w l (rtake 64 l at0 0 H) left n W)) (fun a _ => (intOf (a.tmps.getD 5 undef)).toNat) rfl ?_ ?_
  · intro enter
    have ENTER := Aside0.mk enter
    clear enter
    obtain ⟨L, hL⟩ : ∃ L : Int, L = 8 * (l.length : Int) - at0 := ⟨_, rfl⟩
    have HW := Aside0.mk (show wrap64 (wrap64 (8 * (l.length : Int)) - at0) = L by unfold wrap64; have := HA.out; have := HL.out; omega)
    by_cases hf : fail = 0
    · subst hf
      by_cases hs : H > 8 * (l.length : Int) - at0
      · have k1 : decide (L < H) = true := decide_eq_true (by omega)
        clear y2
        go_wp2_with (first
          | (go_at_call 136; (with_reducible refine (held_calls _ _).mono ?_); rintro e w1 ⟨rfl, rfl⟩; rw [← HH.out])
          | (go_at_call 172; (with_reducible refine (bits_Reader_Left.calls g l at0 0 _ _ _ w0 _ HI.out HB.out rfl).mono ?_); rintro e w2 ⟨rfl, hi, hb, hk⟩; rw [HW.out]; have HI2 := Aside0.mk hi; have HB2 := Aside0.mk hb; have HK2 := Aside0.mk hk; obtain ⟨A1, c1, hblk, hge, _⟩ := hi; clear x0 x1 x2; have x2 := cellS150_2 hblk; have y2 := blk_frozen hblk 2; clear hb hk hblk hge))
        simp only [Exit.jump]
        exact bodyPost_ret (v := .int .u64 0) (by simp [results, go_sem]) rfl ⟨0, at0, 2, by rw [if_pos rfl, if_pos (by rw [← HH.out]; exact hs)], rfl, HI2.out.set_2 2, below_set HB2.out HI2.out.ge, HK2.out.set_ 2 _⟩
      · have k1 : decide (L < H) = false := decide_eq_false (by omega)
        have HS2 := Aside0.mk (show H ≤ 8 * (l.length : Int) - at0 by omega)
        clear hs
        have HLL := Aside0.mk hL
        clear hL
        clear y2
        go_wp2_with (first
          | (go_at_call 136; (with_reducible refine (held_calls _ _).mono ?_); rintro e w1 ⟨rfl, rfl⟩; rw [← HH.out])
          | (go_at_call 172; (with_reducible refine (bits_Reader_Left.calls g l at0 0 _ _ _ w0 _ HI.out HB.out rfl).mono ?_); rintro e w2 ⟨rfl, hi, hb, hk⟩; rw [HW.out]; have HI2 := Aside0.mk hi; have HB2 := Aside0.mk hb; have HK2 := Aside0.mk hk; obtain ⟨A1, c1, hblk, hge, _⟩ := hi; clear x0 x1 x2; have x2 := cellS150_2 hblk; have y2 := blk_frozen hblk 2; clear hb hk hblk hge))
        go_step3
        rename_i hK
        refine hK _ _ (ENTER.out _ _ ⟨H, 0, ⟨rfl, rfl, rfl, rfl, rfl, rfl⟩, by omega, by omega, rfl, HS2, ⟨at0, 64, HI2.out, HB2.out, HK2.out, rfl, by omega, HA.out.1, by have := HLL.out; have := HS2.out; omega⟩⟩)
    · have z1 : (fail == 0) = false := beq_eq_false_iff_ne.mpr hf
      have z2 : (fail != 0) = true := bne_iff_ne.mpr hf
      go_wp2_with (first
        | (go_at_call 136; (with_reducible refine (held_calls _ _).mono ?_); rintro e w1 ⟨rfl, rfl⟩; rw [← HH.out]))
      simp only [Exit.jump]
      exact bodyPost_ret (v := .int .u64 0) (by simp [results, go_sem]) rfl ⟨0, at0, fail, by rw [if_neg hf], rfl, HI.out, HB.out, KeepBut.refl _ _ _⟩
  · rintro a W ⟨left, n, ⟨hf1, hf2, hf3, hf4, hf5, hf6⟩, hl0, hl1, hfail, hH2, hJ⟩
    obtain ⟨ts, ds⟩ := a
    simp only at hf1 hf2 hf3 hf4 hf5 hf6
    subst hf2
    obtain rfl : fail = 0 := hfail
    obtain ⟨U, hU, ha2⟩ := frame79 ts hf1
    have q0 := (hU 0).trans hf3
    have q1 := (hU 1).trans hf4
    have q5 := (hU 5).trans hf5
    have q6 := (hU 6).trans hf6
    rw [q0, q1, q5, q6] at ha2
    clear hU q0 q1 q5 q6 hf1 hf3 hf4 hf5 hf6
    subst ha2
    clear x0 x1 x2 y2
    by_cases hz : left = 0
    · subst hz
      obtain ⟨a1, f, h1, h2, h3, h4, _⟩ := hJ.out
      rw [rtake_zero] at h4
      have HE : Aside0 ((rtake 64 l at0 0 H).1 = n ∧ IsS150 w0 W g l (rtake 64 l at0 0 H).2 0 ∧ Below w0.heap.size w0 W ∧ KeepBut w W g none) := by
        rw [← h4]
        exact ⟨rfl, h1, h2, h3⟩
      clear h1 h2 h3 h4 hJ hl0 hl1
      go_wp2_with fail
      simp only [Exit.jump]
      exact bodyPost_ret (v := .int .u64 n) (by simp [results, go_sem]) rfl ⟨_, _, _, by rw [if_pos rfl, if_neg (by rw [← HH.out]; have := hH2.out; omega)], by rw [← HH.out, HE.out.1], by rw [← HH.out]; exact HE.out.2.1, HE.out.2.2.1, HE.out.2.2.2⟩
    · have z1 : (left == 0) = false := beq_eq_false_iff_ne.mpr hz
      obtain ⟨a1, f, h1, h2, h3, h4, h5, h6, h7⟩ := hJ.out
      cases f with
      | zero => omega
      | succ f =>
        unfold rtake at h4
        rw [if_neg (by omega)] at h4
        have H1 := Aside0.mk h1
        have H2 := Aside0.mk h2
        have H3 := Aside0.mk h3
        have H4 := Aside0.mk h4
        obtain ⟨A1, c1, hblk, hge, hrow⟩ := h1
        have x0 := cellS150_0 hblk
        have x1 := cellS150_1 hblk
        have y1 := blk_frozen hblk 1
        have hq0 := Int.emod_nonneg a1 (show (8 : Int) ≠ 0 by decide)
        have hq1 := Int.emod_lt_of_pos a1 (show (0 : Int) < 8 by decide)
        have hq2 := Int.tmod_eq_emod_of_nonneg (b := 8) h6
        have hq3 := Int.tdiv_eq_ediv_of_nonneg (b := 8) h6
        have hi0 : 0 ≤ a1 / 8 := by omega
        have hi1 : a1 / 8 < (l.length : Int) := by omega
        have hL2 := HL.out
        obtain ⟨ad, e1, hx⟩ := Kd.at_int hrow (a1 / 8) hi0 hi1
        subst e1
        replace hx := (h2.cell (World.block_lt_of_cell? w0 _ hx)).trans hx
        have H7 := Aside0.mk h7
        have hw1 : IntKind.i64.wrap (a1 / 8) = a1 / 8 := by rw [IntKind.wrap_i64]; omega
        clear hJ h2 h3 h4 hblk hge hrow
        by_cases hml : left < 8 - a1 % 8
        · have k1 : decide (left < 8 - a1 % 8) = true := decide_eq_true hml
          have HM := Aside0.mk (show rMany a1 left = left by unfold rMany; omega)
          have k4 : 0 ≤ 8 - a1 % 8 - left := by omega
          have k5 : 8 - a1 % 8 - left < 8 := by omega
          have k6 : left < 8 := by omega
          go_upto_region 11 with fail
          go_quiet (fail)
          generalize hp : bits BinOp.and IntKind.u8 (rd l (a1 / 8) / 2 ^ (8 - a1 % 8 - left).toNat) ((2 ^ left.toNat - 1) % 256) = part
          have HP := Aside0.mk hp
          clear hp
          have I2 := Aside0.mk (H1.out.drewN nq)
          have B2 := Aside0.mk (pw_below_drewN H2.out nq)
          have K2 := Aside0.mk (keep_drewN H3.out nq)
          clear x0 x1 y1 hx
          generalize W.drewN nq = W2 at *
          obtain ⟨A2, c2, hblk, hge, hrow⟩ := I2.out
          have x0 := cellS150_0 hblk
          have x1 := cellS150_1 hblk
          have y1 := blk_frozen hblk 1
          clear hblk hge hrow
          go_wp2_with fail
          go_step3
          have E : rPart l a1 left = part := by unfold rPart; rw [HM.out]; exact HP.out
          have H4' := H4.out
          rw [HM.out, E] at H4'
          refine ⟨rfl, ⟨0, _, ⟨rfl, rfl, rfl, rfl, rfl, rfl⟩, by omega, by omega, rfl, hH2, ⟨a1 + left, f, I2.out.set_1 _, below_set B2.out I2.out.ge, K2.out.set_ 1 _, by rw [Int.sub_self] at H4'; exact H4', by omega, by omega, by have := H7.out; omega⟩⟩, by simp [intOf]; omega⟩
        · have k1 : decide (left < 8 - a1 % 8) = false := decide_eq_false hml
          have HM := Aside0.mk (show rMany a1 left = 8 - a1 % 8 by unfold rMany; omega)
          have k6 : 0 ≤ left - (8 - a1 % 8) := by omega
          have k7 : 8 - a1 % 8 ≤ 8 := by omega
          have k9 : IntKind.i64.wrap (left - (8 - a1 % 8)) = left - (8 - a1 % 8) := by rw [IntKind.wrap_i64]; omega
          go_upto_region 11 with fail
          go_quiet (fail)
          generalize hp : bits BinOp.and IntKind.u8 (rd l (a1 / 8)) ((2 ^ (8 - a1 % 8).toNat - 1) % 256) = part
          have HP := Aside0.mk hp
          clear hp
          have I2 := Aside0.mk (H1.out.drewN nq)
          have B2 := Aside0.mk (pw_below_drewN H2.out nq)
          have K2 := Aside0.mk (keep_drewN H3.out nq)
          clear x0 x1 y1 hx
          generalize W.drewN nq = W2 at *
          obtain ⟨A2, c2, hblk, hge, hrow⟩ := I2.out
          have x0 := cellS150_0 hblk
          have x1 := cellS150_1 hblk
          have y1 := blk_frozen hblk 1
          clear hblk hge hrow
          go_wp2_with fail
          go_step3
          have E : rPart l a1 left = part := by
            unfold rPart
            rw [HM.out, Int.sub_self, Int.toNat_zero, Int.pow_zero, Int.ediv_one]
            exact HP.out
          have H4' := H4.out
          rw [HM.out, E] at H4'
          refine ⟨rfl, ⟨left - (8 - a1 % 8), _, ⟨rfl, rfl, rfl, rfl, rfl, rfl⟩, by omega, by omega, rfl, hH2, ⟨a1 + (8 - a1 % 8), f, I2.out.set_1 _, below_set B2.out I2.out.ge, K2.out.set_ 1 _, H4', by omega, by omega, by have := H7.out; omega⟩⟩, by simp [intOf]; omega⟩
theorem bits_Reader_Take.calls (k : Nat) (g : Nat) (s0_0 : List Int) (s0_1 : Int) (s0_2 : Int) (a1 : Int) (r1 : Int) (r2 : Int) (r3 : Int) (w0 w : World) (hI : IsS150 w0 w g s0_0 s0_1 s0_2) (hB : Below w0.heap.size w0 w) (h : bits_Reader_Take.f k s0_0 s0_1 s0_2 a1 = some (r1, r2, r3)) :
    Calls Try.prog 137 #[.pointer (some ⟨g, 0, none⟩), .int .i64 a1] w fun e w' => e = .returned (.int .u64 r1) ∧ IsS150 w0 w' g s0_0 r2 r3 ∧ Below w0.heap.size w0 w' ∧ KeepBut w w' g none := by
  unfold bits_Reader_Take.f at h
  split at h
  · rename_i hc
    refine (rtake_calls g s0_0 s0_1 s0_2 a1 w0 w hI hB ⟨hc.1, hc.2.1⟩ hc.2.2).mono ?_
    rintro e w' ⟨q1, q2, q3, hq, he, h1, h2, h3⟩
    have e2 : (r1, r2, r3) = (q1, q2, q3) := by
      rw [← hq]
      split at h
      · rename_i hf
        rw [if_pos hf]
        split at h
        · rename_i hs
          rw [if_pos hs]
          exact (Option.some.inj h).symm
        · rename_i hs
          rw [if_neg hs]
          exact (Option.some.inj h).symm
      · rename_i hf
        rw [if_neg hf]
        exact (Option.some.inj h).symm
    simp only [Prod.mk.injEq] at e2
    obtain ⟨rfl, rfl, rfl⟩ := e2
    exact ⟨he, h1, h2, h3⟩
  · cases h
end Go.Proofs.Ytpeejdmbnlhjmaa.H
