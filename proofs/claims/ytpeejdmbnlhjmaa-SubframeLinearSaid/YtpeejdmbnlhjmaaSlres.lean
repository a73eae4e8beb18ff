/- What is left of numbers behind a linear predictor (lpc.Residual), as a plain function, with the proof that the program's call comes to it. For any row of up to 2^40 numbers, any predictor. -/
import Derived.Test.YtpeejdmbnlhjmaaProg
import Derived.Below
import Derived.Deep.Draws
import Derived.Deep.AppendLies
import Derived.Maps.AppendAt
import Derived.OwnWalk
import Derived.Laws.BytesArg
import Derived.Laws.MakeOwn
import Derived.Laws.OwnMore
import Derived.Deep.OwnRows
import Derived.Tactics
import Derived.Lib.ConvBytes
import Derived.Laws.Slices
import Derived.WalkKit
import Derived.KernelRfl
import Derived.RowKit3
import Derived.Deep.LoopGhost
import Derived.Deep.QuietTactic
import Derived.BigQuiet
import Derived.WideLaws
import Derived.Deep.DeepCutAuto
import Derived.Deep.CutBlock
import Derived.Deep.RegionHeld3
import Derived.Laws.Rows
import Derived.Lib.AppendStr
import Derived.ArgAppend
import Derived.Laws.IdiomCopy
import Derived.OrdersHeld
import Derived.Laws.BitsLemmas
import Derived.RowKit
import Derived.Test.YtpeejdmbnlhjmaaWWords
import Derived.Test.YtpeejdmbnlhjmaaWLast
import Derived.Test.YtpeejdmbnlhjmaaWTab
import Derived.Test.YtpeejdmbnlhjmaaWFour
import Derived.Test.YtpeejdmbnlhjmaaWQPut
import Derived.Test.YtpeejdmbnlhjmaaWApart
import Derived.Test.YtpeejdmbnlhjmaaWArr
import Derived.Test.YtpeejdmbnlhjmaaWZeros
import Derived.Test.YtpeejdmbnlhjmaaWFoot
import Derived.Test.YtpeejdmbnlhjmaaWKept
import Derived.Test.YtpeejdmbnlhjmaaWShare
import Derived.Test.YtpeejdmbnlhjmaaWN
import Derived.Test.YtpeejdmbnlhjmaaWFootNe
import Derived.Test.YtpeejdmbnlhjmaaWAt
import Derived.Test.YtpeejdmbnlhjmaaWEqStruct
import Derived.Test.YtpeejdmbnlhjmaaWRepsOne
import Derived.Test.YtpeejdmbnlhjmaaWInv
import Derived.Test.YtpeejdmbnlhjmaaWInvWords
import Derived.Test.YtpeejdmbnlhjmaaWGuard
import Derived.Test.YtpeejdmbnlhjmaaWNEv
import Derived.Test.YtpeejdmbnlhjmaaWMore
import Derived.LoopN
import Derived.Outline
import Derived.Deep.RegionLaw
import Derived.Test.YtpeejdmbnlhjmaaSlpc
namespace Go.Proofs.Ytpeejdmbnlhjmaa.H
open Go.RowKit Go.Proofs.YtpeejdmbnlhjmaaW.PrintWords Go.Proofs.YtpeejdmbnlhjmaaW.PrintLast Go.Proofs.YtpeejdmbnlhjmaaW.PrintMore
attribute [local go_sem] max2_int min2_int max_two min_two max_three min_three max_four min_four   -- for this text's walks alone
set_option linter.unusedVariables false
set_option linter.unusedSimpArgs false
def linN (fs xs : List Int) (sh : Int) (i : Nat) : Int := wrap64 (rd xs (i : Int) - tellP fs (xs.take i) sh)
def linL (fs xs : List Int) (sh : Int) : Nat → Nat → List Int → List Int × Int
  | _, 0, acc => (acc, 0)
  | i, d + 1, acc => if linN fs xs sh i ≤ -2147483648 ∨ 2147483648 ≤ linN fs xs sh i then ([], 14) else linL fs xs sh (i + 1) d (acc ++ [linN fs xs sh i])
def lpc_Residual.f (l0 : List Int) (sh p : Int) (fs : List Int) : Option (List Int × Int) :=
  if l0.length ≤ 1000000000000 ∧ fs.length ≤ 1000000000000 then (if checkP sh p fs ≠ 0 then some ([], checkP sh p fs) else if l0.length < fs.length then some ([], 2) else some (linL fs l0 sh fs.length (l0.length - fs.length) [])) else none
theorem tell_cut (w : World) (sh p : Int) (A : Option Addr) (fs : List Int) (c : Nat) (Ax : Option Addr) (xs : List Int) (i cx : Nat) (hr : Kd.C (Kd.int .i64) w A fs.length fs) (hx : Kd.C (Kd.int .i64) w Ax xs.length xs) (hs : 0 ≤ sh ∧ sh ≤ 15) (hl : fs.length ≤ i) (hi : i ≤ xs.length) (hm : xs.length ≤ 1000000000000) :
    Calls Try.prog 163 #[lpcV sh p A fs.length c, .slice Ax (i : Nat) cx] w (IntTo w (tellP fs (xs.take i) sh)) := by
  have e : (xs.take i).length = i := by rw [List.length_take]; omega
  have := tell_calls w sh p A fs c Ax (xs.take i) cx hr (Kd.C_take hx hi) hs (by omega) (by omega)
  rwa [e] at this
theorem cellB {W W' : World} {a : Addr} {v : Value} (hb : Below W.heap.size W W') (h : W.cell? a = some v) : W'.cell? a = some v := (hb.cell (World.block_lt_of_cell? W _ h)).trans h
theorem belowJ {w0 W W' : World} (hb : Below W.heap.size W W') (h : Below w0.heap.size w0 W) : Below w0.heap.size w0 W' := below_step h hb
theorem check_range {sh p : Int} {fs : List Int} (h : checkP sh p fs = 0) : 0 ≤ sh ∧ sh ≤ 15 := by
  unfold checkP at h
  split at h
  · cases h
  · omega
set_option maxHeartbeats 8000000 in
set_option maxRecDepth 100000 in
theorem lpc_main (w : World) (A : Option Addr) (fs : List Int) (c : Nat) (sh p : Int) (Ax : Option Addr) (xs : List Int) (cx : Nat) (hr : Kd.C (Kd.int .i64) w A fs.length fs) (hx : Kd.C (Kd.int .i64) w Ax xs.length xs) (hcx : xs.length ≤ cx)
    (hc : checkP sh p fs = 0) (hl : fs.length ≤ xs.length) (hm : xs.length ≤ 1000000000000) :
    Calls Try.prog 126 #[.slice Ax xs.length cx, lpcV sh p A fs.length c] w (FEnd w (linL fs xs sh fs.length (xs.length - fs.length) []).1 (linL fs xs sh fs.length (xs.length - fs.length) []).2) := by
  have hmf : ∀ (fn : Fn) (first cap : Array Value) (w : World), (Instr.makeFunc fn first cap).run Try.prog w = .ok (.func fn first cap) w := fun _ _ _ _ => rfl
  have HB := Aside0.mk (below_alloc (Below.refl w.heap.size w) (.cells #[.int .i64 sh, .int .i64 p, .slice A fs.length c] 82))
  have HR := Aside0.mk (Kd.C_alloc hr (.cells #[.int .i64 sh, .int .i64 p, .slice A fs.length c] 82))
  have HX := Aside0.mk (Kd.C_alloc hx (.cells #[.int .i64 sh, .int .i64 p, .slice A fs.length c] 82))
  obtain ⟨x0, x1, x2⟩ := lpc_cells w sh p (.slice A fs.length c) 82
  have HSH := Aside0.mk (check_range hc)
  have HC := Aside0.mk hc
  have c1 : decide ((xs.length : Int) < (fs.length : Int)) = false := decide_eq_false (by omega)
  have c2 : decide (xs.length < fs.length) = false := decide_eq_false (by omega)
  have HRo := Aside0.mk hr
  have HXo := Aside0.mk hx
  clear hr hx hc
  go_enter Try.func126, Try.ntmps126
  go_upto_region 1 with fail
  generalize w.alloc (.cells #[.int .i64 sh, .int .i64 p, .slice A fs.length c] 82) = W at *
  go_upto_region 4 with (first | (go_at_call 162; (with_reducible refine (check_calls _ sh p A fs _ HR.out (by omega)).mono ?_); rintro e w1 ⟨rfl, hb⟩; rw [HC.out]; have HB1 := Aside0.mk (below_step HB.out hb); have HR1 := Aside0.mk (Kd.C_below HR.out hb); have HX1 := Aside0.mk (Kd.C_below HX.out hb); have y0 := cellB hb x0; have y1 := cellB hb x1; have y2 := cellB hb x2; clear hb x0 x1 x2 HB HR HX))
  go_region
  have HB2 := Aside0.mk (below_drew HB1.out)
  have HR2 := Aside0.mk (Kd.C_drew HR1.out)
  have HX2 := Aside0.mk (Kd.C_drew HX1.out)
  clear y0 y1 y2 HB1 HR1 HX1 c1 c2 HC
  generalize w1.drew = w2 at *
  go_upto_block 0 with fail
  go_wp2_with fail
  go_loopw [9, 10] (fun v i wr => ∃ (k : Nat) (acc : List Int), k ≤ xs.length ∧ fs.length ≤ k ∧ i = .int .i64 k ∧ acc.length ≤ k ∧ Aside0 (linL fs xs sh k (xs.length - k) acc = linL fs xs sh fs.length (xs.length - fs.length) []) ∧ Aside0 (Kd.R (Kd.int .i64) 3 wr w.heap.size (fun _ => True) v acc) ∧ Aside0 (Below w.heap.size w wr)) (fun v i _ => xs.length - (intOf i).toNat)
  case atStart => exact ⟨fs.length, [], hl, Nat.le_refl _, rfl, Nat.zero_le _, ⟨rfl⟩, ⟨Kd.R_nil _ _ _ _ _⟩, HB2⟩
  case round =>
    clear HB2 HR2 HX2
    obtain ⟨k, acc, hk, hk2, rfl, ha, HQ, HRr, HBr⟩ := hrel
    have HF := Aside0.mk (Kd.C_below HRo.out HBr.out)
    have HXr := Aside0.mk (Kd.C_below HXo.out HBr.out)
    by_cases hlt : k < xs.length
    · have d1 : decide ((k : Int) < (xs.length : Int)) = true := decide_eq_true (by omega)
      have d2 : decide (k < xs.length) = true := decide_eq_true (by omega)
      obtain ⟨ax, e4, hy⟩ := Kd.at_int HXr.out (k : Int) (by omega) (by omega)
      cases e4
      rw [Int.toNat_natCast] at hy
      obtain ⟨d, hd⟩ : ∃ d, xs.length - k = d + 1 := ⟨xs.length - k - 1, by omega⟩
      have hq := HQ.out
      rw [hd, linL] at hq
      have HN := Aside0.mk (show linN fs xs sh k = wrap64 (rd xs (k : Int) - tellP fs (xs.take k) sh) from rfl)
      have HQ2 := Aside0.mk hq
      clear hq HQ
      generalize linN fs xs sh k = n at HQ2 HN
      generalize rd xs (k : Int) = x at hy HN
      have HY := Aside0.mk hy
      have k1 : (0 : Int) ≤ (k : Int) := Int.natCast_nonneg _
      have k2 : (k : Int) ≤ (cx : Int) := by omega
      have k3 : (k : Int) ≤ (xs.length : Int) := by omega
      have k4 : (k : Int) < (xs.length : Int) := by omega
      go_upto_region 11 with fail
      go_region_held3 (fun W => W.cell? (ax.add k) = some (.int .i64 x) ∧ Below wr.heap.size wr W)
        (first | (go_keep; done) | (((try go_split_ands); (repeat' apply And.intro)) <;> first | assumption | exact cellB ‹_› ‹_› | exact below_drew (Below.refl _ _) | exact below_drew ‹_› | exact below_alloc ‹_› _ | exact belowJ ‹_› ‹_›))
        (first
          | (go_at_call 163; go_split_ands; (with_reducible refine (tell_cut _ sh p A fs _ _ xs k _ (Kd.C_below HF.out (by first | assumption | exact below_drew1 (Below.refl _ _) | exact Below.refl _ _)) (Kd.C_below HXr.out (by first | assumption | exact below_drew1 (Below.refl _ _) | exact Below.refl _ _)) HSH.out hk2 hk hm).mono ?_); rintro e w3 ⟨rfl, hb3⟩)
          | fail)
      have HB3 := Aside0.mk (below_step (below_drew1 HBr.out) hb3)
      have HR3 := Aside0.mk (Kd.R_below (Kd.R_drew HRr.out) hb3)
      have e5 : IntKind.i64.wrap (x - tellP fs (xs.take k) sh) = n := by rw [i64_w]; exact HN.out.symm
      rw [e5]
      clear HRr HBr HXr HF hb3 e5 hy HN HY
      by_cases n1 : n ≤ -2147483648
      · have f1 := decide_eq_true n1
        have hz := HQ2.out
        rw [if_pos (Or.inl n1)] at hz
        have HZ := Aside0.mk hz
        clear hz HQ2
        go_wp2_with fail
        refine bodyPost_ret (results_tmp2 rfl _ _ _) rfl ?_
        rw [← HZ.out]
        exact f_nil _ _ HB3.out _
      have f1 := decide_eq_false n1
      by_cases n2 : n ≥ 2147483648
      · have f2 := decide_eq_true n2
        have f3 : decide (2147483648 ≤ n) = true := f2
        have hz := HQ2.out
        rw [if_pos (Or.inr n2)] at hz
        have HZ := Aside0.mk hz
        clear hz HQ2
        go_wp2_with fail
        refine bodyPost_ret (results_tmp2 rfl _ _ _) rfl ?_
        rw [← HZ.out]
        exact f_nil _ _ HB3.out _
      have f2 := decide_eq_false n2
      have f3 : decide (2147483648 ≤ n) = false := f2
      have hz := HQ2.out
      rw [if_neg (by omega)] at hz
      have HZ := Aside0.mk hz
      clear hz HQ2
      go_wp2_with (first
        | ((with_reducible refine gate_builtin (b := .append) (xs := #[.tmp 49, .tmp 51]) rfl ?_); at_builtin; refine Kd.R_append (Kd.int .i64) (w0 := w) w.heap.size rfl (.tmp 49) (.tmp 51) 78 3 (.int .i64 0) 8 rfl Try.underlying78 infoI rfl (by decide) (by omega) u9 acc n [.int .i64 n] (fun _ => True) (fun _ => False) rfl rfl rfl (fun _ hk => hk.elim) (fun _ _ => trivial) HR3.out HB3.out HB3.out.size (by omega) ?_; intro v4 w4 ho hb hg hat; have HR4 := Aside0.mk ho; have HB4 := Aside0.mk hb; clear ho hb hg hat HR3 HB3))
      refine ⟨⟨_, _, _, _, ⟨k + 1, by omega, by omega, by go_num, acc ++ [n], by rw [List.length_append, List.length_singleton]; omega, ⟨by rw [show xs.length - (k + 1) = d by omega]; exact HZ.out⟩, HR4⟩, rfl, rfl, rfl, rfl⟩, by simp [intOf]; omega⟩
    · obtain rfl : k = xs.length := by omega
      have d1 : decide ((xs.length : Int) < (xs.length : Int)) = false := decide_eq_false (by omega)
      have d2 : decide (xs.length < xs.length) = false := decide_eq_false (by omega)
      have hz := HQ.out
      rw [Nat.sub_self, linL] at hz
      have HZ := Aside0.mk hz
      clear hz HQ
      go_wp2_with fail
      refine bodyPost_ret (results_tmp2 rfl _ _ _) rfl ?_
      rw [← HZ.out]
      exact ⟨_, rfl, HRr.out, HBr.out⟩
set_option maxHeartbeats 8000000 in
set_option maxRecDepth 100000 in
theorem lpc_bad (w : World) (A : Option Addr) (fs : List Int) (c : Nat) (sh p : Int) (Ax : Option Addr) (xs : List Int) (cx : Nat) (hr : Kd.C (Kd.int .i64) w A fs.length fs) (hc : checkP sh p fs ≠ 0) (hm : fs.length ≤ 1000000000000) :
    Calls Try.prog 126 #[.slice Ax xs.length cx, lpcV sh p A fs.length c] w (FEnd w [] (checkP sh p fs)) := by
  have HB := Aside0.mk (below_alloc (Below.refl w.heap.size w) (.cells #[.int .i64 sh, .int .i64 p, .slice A fs.length c] 82))
  have HR := Aside0.mk (Kd.C_alloc hr (.cells #[.int .i64 sh, .int .i64 p, .slice A fs.length c] 82))
  obtain ⟨x0, x1, x2⟩ := lpc_cells w sh p (.slice A fs.length c) 82
  have c1 : (checkP sh p fs == 0) = false := beq_eq_false_iff_ne.mpr hc
  have c2 : (checkP sh p fs != 0) = true := bne_iff_ne.mpr hc
  clear hr hc
  generalize hq : checkP sh p fs = q at *
  have HQ := Aside0.mk hq
  clear hq
  go_enter Try.func126, Try.ntmps126
  go_upto_region 1 with fail
  generalize w.alloc (.cells #[.int .i64 sh, .int .i64 p, .slice A fs.length c] 82) = W at *
  go_wp2_with (first | (go_at_call 162; (with_reducible refine (check_calls _ sh p A fs _ HR.out hm).mono ?_); rintro e w1 ⟨rfl, hb⟩; rw [HQ.out]; have HB1 := Aside0.mk (below_step HB.out hb); clear hb x0 x1 x2 HB HR))
  refine bodyPost_ret (results_tmp2 rfl _ _ _) rfl ?_
  exact f_nil _ _ HB1.out _
set_option maxHeartbeats 8000000 in
set_option maxRecDepth 100000 in
theorem lpc_few (w : World) (A : Option Addr) (fs : List Int) (c : Nat) (sh p : Int) (Ax : Option Addr) (xs : List Int) (cx : Nat) (hr : Kd.C (Kd.int .i64) w A fs.length fs) (hc : checkP sh p fs = 0) (hl : xs.length < fs.length) (hm : fs.length ≤ 1000000000000) :
    Calls Try.prog 126 #[.slice Ax xs.length cx, lpcV sh p A fs.length c] w (FEnd w [] 2) := by
  have hmf : ∀ (fn : Fn) (first cap : Array Value) (w : World), (Instr.makeFunc fn first cap).run Try.prog w = .ok (.func fn first cap) w := fun _ _ _ _ => rfl
  have HB := Aside0.mk (below_alloc (Below.refl w.heap.size w) (.cells #[.int .i64 sh, .int .i64 p, .slice A fs.length c] 82))
  have HR := Aside0.mk (Kd.C_alloc hr (.cells #[.int .i64 sh, .int .i64 p, .slice A fs.length c] 82))
  obtain ⟨x0, x1, x2⟩ := lpc_cells w sh p (.slice A fs.length c) 82
  have HC := Aside0.mk hc
  have c1 : decide ((xs.length : Int) < (fs.length : Int)) = true := decide_eq_true (by omega)
  have c2 : decide (xs.length < fs.length) = true := decide_eq_true hl
  clear hr hc
  go_enter Try.func126, Try.ntmps126
  go_upto_region 1 with fail
  generalize w.alloc (.cells #[.int .i64 sh, .int .i64 p, .slice A fs.length c] 82) = W at *
  go_upto_region 4 with (first | (go_at_call 162; (with_reducible refine (check_calls _ sh p A fs _ HR.out hm).mono ?_); rintro e w1 ⟨rfl, hb⟩; rw [HC.out]; have HB1 := Aside0.mk (below_step HB.out hb); have y0 := cellB hb x0; have y1 := cellB hb x1; have y2 := cellB hb x2; clear hb x0 x1 x2 HB HR))
  go_region
  have HB2 := Aside0.mk (below_drew HB1.out)
  go_wp2_with fail
  refine bodyPost_ret (results_tmp2 rfl _ _ _) rfl ?_
  exact f_nil _ _ HB2.out _
theorem lpc_Residual.mono : ∀ y0 y1 y2 y3, LeO (lpc_Residual.f y0 y1 y2 y3) (lpc_Residual.f y0 y1 y2 y3) := fun _ _ _ _ => LeO.refl _
theorem lpc_Residual.calls (A0 : Option Addr) (c0 : Nat) (l0 : List Int) (a1_0 : Int) (a1_1 : Int) (A1_2 : Option Addr) (c1_2 : Nat) (l1_2 : List Int) (r1 : List Int) (r2 : Int) (w : World) (hr0 : Kd.C (Kd.int .i64) w A0 l0.length l0) (hc0 : l0.length ≤ c0) (hr1_2 : Kd.C (Kd.int .i64) w A1_2 l1_2.length l1_2) (hc1_2 : l1_2.length ≤ c1_2) (h : lpc_Residual.f l0 a1_0 a1_1 l1_2 = some (r1, r2)) :
    Calls Try.prog 126 #[.slice A0 l0.length c0, .agg #[.int .i64 a1_0, .int .i64 a1_1, .slice A1_2 l1_2.length c1_2]] w fun e w' => ∃ v0_ : Value, e = .returned (.tuple #[v0_, .int .i64 r2]) ∧ Kd.R (Kd.int .i64) 3 w' w.heap.size (fun _ => True) v0_ r1 ∧ Below w.heap.size w w' := by
  unfold lpc_Residual.f at h
  split at h
  · rename_i h0
    by_cases h1 : checkP a1_0 a1_1 l1_2 ≠ 0
    · rw [if_pos h1] at h
      obtain ⟨rfl, rfl⟩ := Prod.mk.inj (Option.some.inj h)
      exact lpc_bad w A1_2 l1_2 c1_2 a1_0 a1_1 A0 l0 c0 hr1_2 h1 h0.2
    rw [if_neg h1] at h
    by_cases h2 : l0.length < l1_2.length
    · rw [if_pos h2] at h
      obtain ⟨rfl, rfl⟩ := Prod.mk.inj (Option.some.inj h)
      exact lpc_few w A1_2 l1_2 c1_2 a1_0 a1_1 A0 l0 c0 hr1_2 (by omega) h2 h0.2
    rw [if_neg h2] at h
    have e := Option.some.inj h
    have := lpc_main w A1_2 l1_2 c1_2 a1_0 a1_1 A0 l0 c0 hr1_2 hr0 hc0 (by omega) (by omega) h0.1
    rw [e] at this
    exact this
  · cases h
end Go.Proofs.Ytpeejdmbnlhjmaa.H
