/- Bits that are laid into a writer ((*bits.Writer).Put) as a plain function, with the proof that the program's call comes to it. For any number, width and writer of up to 2^40 bits. -/
import Derived.Test.YtpeejdmbnlhjmaaProg
import Derived.Below
import Derived.Deep.Draws
import Derived.Deep.AppendLies
import Derived.Maps.AppendAt
import Derived.OwnWalk
import Derived.Laws.BytesArg
import Derived.Laws.MakeOwn
import Derived.Laws.OwnMore
import Derived.Deep.OwnRows
import Derived.Tactics
import Derived.Lib.ConvBytes
import Derived.Laws.Slices
import Derived.WalkKit
import Derived.KernelRfl
import Derived.RowKit3
import Derived.Deep.LoopGhost
import Derived.Deep.QuietTactic
import Derived.BigQuiet
import Derived.WideLaws
import Derived.Deep.DeepCutAuto
import Derived.Deep.CutBlock
import Derived.Deep.RegionHeld3
import Derived.Laws.Rows
import Derived.Lib.AppendStr
import Derived.ArgAppend
import Derived.Laws.IdiomCopy
import Derived.OrdersHeld
import Derived.Laws.BitsLemmas
import Derived.RowKit
import Derived.Test.YtpeejdmbnlhjmaaWWords
import Derived.Test.YtpeejdmbnlhjmaaWLast
import Derived.Test.YtpeejdmbnlhjmaaWTab
import Derived.Test.YtpeejdmbnlhjmaaWFour
import Derived.Test.YtpeejdmbnlhjmaaWQPut
import Derived.Test.YtpeejdmbnlhjmaaWApart
import Derived.Test.YtpeejdmbnlhjmaaWArr
import Derived.Test.YtpeejdmbnlhjmaaWZeros
import Derived.Test.YtpeejdmbnlhjmaaWFoot
import Derived.Test.YtpeejdmbnlhjmaaWKept
import Derived.Test.YtpeejdmbnlhjmaaWShare
import Derived.Test.YtpeejdmbnlhjmaaWN
import Derived.Test.YtpeejdmbnlhjmaaWFootNe
import Derived.Test.YtpeejdmbnlhjmaaWAt
import Derived.Test.YtpeejdmbnlhjmaaWEqStruct
import Derived.Test.YtpeejdmbnlhjmaaWRepsOne
import Derived.Test.YtpeejdmbnlhjmaaWInv
import Derived.Test.YtpeejdmbnlhjmaaWInvWords
import Derived.Test.YtpeejdmbnlhjmaaWGuard
import Derived.Test.YtpeejdmbnlhjmaaWNEv
import Derived.Test.YtpeejdmbnlhjmaaWMore
import Derived.ScopeJumps
import Derived.WalkMore
import Derived.Test.YtpeejdmbnlhjmaaSpre
import Derived.Test.YtpeejdmbnlhjmaaSclone
/- Bits that are laid into a writer ((*bits.Writer).Put) as a plain function, with the proof that the program's call comes to it. For any number, width and writer of up to 2^40 bits. -/
namespace Go.Proofs.Ytpeejdmbnlhjmaa.H
open Go.RowKit Go.Proofs.YtpeejdmbnlhjmaaW.PrintWords Go.Proofs.YtpeejdmbnlhjmaaW.PrintLast Go.Proofs.YtpeejdmbnlhjmaaW.PrintMore
attribute [local go_sem] max2_int min2_int max_two min_two max_three min_three max_four min_four   -- for this text's walks alone
set_option linter.unusedVariables false
set_option linter.unusedSimpArgs false
theorem wp_scope_loop {P : Program} {a : Act} {w : World} {Q : Exit → Act → World → Prop} {c C : Code} (l : Nat) (J : Act → World → Prop) (μ : Act → World → Nat) (hf : findLabel c l = some (Code.skip.seq C))
    (first : (∀ a w, J a w → C.wp P (Exit.jump l J Q) a w) → c.wp P (Exit.jump l J Q) a w)
    (pass : ∀ a w, J a w → C.wp P (Exit.jump l (fun a' w' => J a' w' ∧ μ a' w' < μ a w) Q) a w) : (Code.scope c).wp P Q a w :=
  wp_scope_jumps l J μ hf (first fun a w h => wp_mono (pass a w h) (fun e a' w' hq => by
    cases e with
    | goto l' => exact ⟨hq.1, hq.2.1⟩
    | _ => exact hq)) (fun a w h => wp_seq (wp_skip (pass a w h)))
theorem size_set (W : World) (a : Addr) (v : Value) : (W.setCell a v).heap.size = W.heap.size := by simp [World.setCell]
/-- One round: the byte that is filled, and how many bits of it. -/
def wRow (bs : List Int) (n : Int) : List Int := if n % 8 = 0 then bs ++ [0] else bs
def wMany (n left : Int) : Int := min (8 - n % 8) left
def wPart (n u left : Int) : Int := Go.bits .and .u8 (u / 2 ^ (left - wMany n left).toNat % 256) ((2 ^ (wMany n left).toNat - 1) % 256)
def wByte (bs : List Int) (n u left : Int) : Int := Go.bits .or .u8 (rd (wRow bs n) ((wRow bs n).length - 1)) (wPart n u left * 2 ^ (8 - n % 8 - wMany n left).toNat % 256)
theorem wByte_eq {bs rs : List Int} {n u left q m l' x : Int} {j sN : Nat} (hrs : wRow bs n = rs) (hq : n % 8 = q) (hm : wMany n left = m) (hj : (rs.length : Int) - 1 = (j : Int)) (hx : rd rs (j : Int) = x) (hs : 8 - q - m = (sN : Int)) (hl : left - m = l') :
    wByte bs n u left = Go.bits .or .u8 x (Go.bits .and .u8 (u / 2 ^ l'.toNat % 256) ((2 ^ m.toNat - 1) % 256) * 2 ^ sN % 256) := by
  unfold wByte wPart
  rw [hrs, hq, hm, hj, hx, hs, hl, Int.toNat_natCast]
/-- Bits laid behind bits: the bytes, and how many bits there are. -/
def wput : Nat → List Int → Int → Int → Int → List Int × Int
  | 0, bs, n, _, _ => (bs, n)
  | f + 1, bs, n, u, left => if left ≤ 0 then (bs, n) else wput f ((wRow bs n).set ((wRow bs n).length - 1) (wByte bs n u left)) (n + wMany n left) u (left - wMany n left)
/-- A writer in memory: the row lies in a block of its own. -/
def WSt (B : Nat) (W : World) (g : Nat) (v : Value) (bs : List Int) (n : Int) : Prop :=
  W.heap[g]? = some (.cells #[v, .int .i64 n] 143 (0, 0)) ∧ B ≤ g ∧ Kd.R (Kd.int .u8) 5 W B (fun k => k ≠ g) v bs
/-- What a call that lays bits does to memory. -/
structure WStep (g : Nat) (v : Value) (W : World) (v' : Value) (W' : World) : Prop where
  os : W'.os = W.os
  tape : W'.tape = W.tape
  output : W'.output = W.output
  size : W.heap.size ≤ W'.heap.size
  own : v'.ownBlock = v.ownBlock ∨ ∃ b, v'.ownBlock = some b ∧ W.heap.size ≤ b
  block : ∀ k, k < W.heap.size → k ≠ g → some k ≠ v.ownBlock → W'.heap[k]? = W.heap[k]?
theorem WStep.refl (g : Nat) (v : Value) (W : World) : WStep g v W v W := ⟨rfl, rfl, rfl, Nat.le_refl _, .inl rfl, fun _ _ _ _ => rfl⟩
theorem WStep.trans {g : Nat} {v v1 v2 : Value} {W W1 W2 : World} (h : WStep g v W v1 W1) (k : WStep g v1 W1 v2 W2) : WStep g v W v2 W2 := by
  refine ⟨k.os.trans h.os, k.tape.trans h.tape, k.output.trans h.output, Nat.le_trans h.size k.size, ?_, fun i hi hg hv => ?_⟩
  · rcases k.own with e | ⟨b, e, hb⟩
    · rcases h.own with e' | ⟨b, e', hb⟩
      · exact .inl (e.trans e')
      · exact .inr ⟨b, e.trans e', hb⟩
    · exact .inr ⟨b, e, Nat.le_trans h.size hb⟩
  · refine (k.block i (Nat.lt_of_lt_of_le hi h.size) hg ?_).trans (h.block i hi hg hv)
    rcases h.own with e | ⟨b, e, hb⟩
    · rw [e]; exact hv
    · rw [e]
      intro e2
      have := Option.some.inj e2
      omega
theorem WStep.below {B g : Nat} {w0 W W' : World} {v v' : Value} {bs : List Int} {n : Int} (hB : Below B w0 W) (hb : B ≤ W.heap.size) (hs : WSt B W g v bs n) (h : WStep g v W v' W') : Below B w0 W' := by
  refine ⟨h.os.trans hB.os, h.tape.trans hB.tape, h.output.trans hB.output, Nat.le_trans hB.size h.size, fun i hi => (h.block i (by omega) (by have := hs.2.1; omega) ?_).trans (hB.block i hi)⟩
  intro e
  have := Kd.R_base hs.2.2 i e.symm
  omega
theorem wcell {B : Nat} {W : World} {g : Nat} {v : Value} {bs : List Int} {n : Int} (h : WSt B W g v bs n) : W.cell? ⟨g, 0, none⟩ = some v ∧ W.cell? ⟨g, 1, none⟩ = some (.int .i64 n) := ⟨blk_cell h.1 0, blk_cell h.1 1⟩
theorem wfree {B : Nat} {W : World} {g : Nat} {v : Value} {bs : List Int} {n : Int} (h : WSt B W g v bs n) (i : Nat) : W.frozen? ⟨g, i, none⟩ = false := blk_frozen h.1 i
/-- The row has grown, its slice is stored anew. -/
theorem wgrow {B : Nat} {w0 W W1 : World} {g : Nat} {v v1 : Value} {bs bs1 : List Int} {n : Int} (h : WSt B W g v bs n) (hr : Kd.R (Kd.int .u8) 5 W1 B (fun k => k ≠ g) v1 bs1) (hg : W.grownBy W1 v.ownBlock) (hat : v1.ownBlock = v.ownBlock ∨ ∃ b, v1.ownBlock = some b ∧ W.heap.size ≤ b) :
    WSt B (W1.setCell ⟨g, 0, none⟩ v1) g v1 bs1 n ∧ WStep g v W v1 (W1.setCell ⟨g, 0, none⟩ v1) := by
  have hlt := (Array.getElem?_eq_some_iff.1 h.1).1
  have hne : some g ≠ v.ownBlock := fun e => h.2.2.1 g e.symm rfl
  have hb1 : W1.heap[g]? = some (.cells #[v, .int .i64 n] 143 (0, 0)) := (hg.block g hlt hne).trans h.1
  refine ⟨⟨blk_set hb1 0 v1, h.2.1, Kd.R_far hr (fun k hk => hk) _⟩, ⟨hg.os, hg.tape, hg.output, by rw [size_set]; exact hg.size, hat, fun k hk h1 h2 => ?_⟩⟩
  rw [Below.heap_setCell W1 ⟨g, 0, none⟩ v1 k h1]
  exact hg.block k hk h2
theorem wrow_at {B : Nat} {W : World} {g h c : Nat} {bs : List Int} {n : Int} (hs : WSt B W g (.slice (some ⟨h, 0, none⟩) bs.length c) bs n) (i : Nat) (hi : i < bs.length) : W.cell? ⟨h, i, none⟩ = some (.int .u8 (rd bs (i : Int))) ∧ W.frozen? ⟨h, i, none⟩ = false := by
  have hc := Kd.R_cell (0 : Int) hs.2.2 (i : Int) (Int.natCast_nonneg _) (by omega)
  rw [Int.toNat_natCast] at hc
  exact hc
theorem wfresh {B : Nat} {W : World} {g : Nat} {v : Value} {bs : List Int} {n : Int} {o : Obj} (h : WSt B W g v bs n) : ∀ k, (W.alloc o).heap.size ≤ k → k ≠ g := by
  intro k hk e
  have hlt := (Array.getElem?_eq_some_iff.1 h.1).1
  have : (W.alloc o).heap.size = W.heap.size + 1 := Array.size_push ..
  omega
theorem wbelow {B g : Nat} {w0 w W : World} {v0 v : Value} {bs : List Int} {n : Int} {o : Obj} (hB : Below B w0 w) (hb : B ≤ w.heap.size) (hs : WSt B w g v0 bs n) (h : WStep g v0 w v W) : Below B w0 (W.alloc o) := (WStep.below hB hb hs h).alloc (Nat.le_trans hb h.size) o
theorem wbase {B g : Nat} {w W : World} {v0 v : Value} {o : Obj} (hb : B ≤ w.heap.size) (h : WStep g v0 w v W) : B ≤ (W.alloc o).heap.size := by
  have : (W.alloc o).heap.size = W.heap.size + 1 := Array.size_push ..
  have := h.size
  omega
theorem wbound {bs : List Int} {n left : Int} (h : (bs.length : Int) = (n + 7) / 8) (hn : n ≤ 1099511627776 - left) (hl : 0 ≤ left := by omega) : (bs.length + 1) * 1 ≤ 140737488355328 := by omega
theorem wown {W : World} {v v1 : Value} (o : Obj) (h : v1.ownBlock = v.ownBlock ∨ ∃ b, v1.ownBlock = some b ∧ (W.alloc o).heap.size ≤ b) : v1.ownBlock = v.ownBlock ∨ ∃ b, v1.ownBlock = some b ∧ W.heap.size ≤ b := by
  rcases h with h | ⟨b, h, hb⟩
  · exact .inl h
  · exact .inr ⟨b, h, by have : (W.alloc o).heap.size = W.heap.size + 1 := Array.size_push ..; omega⟩
theorem wkeep {B : Nat} {W W1 : World} {g : Nat} {v : Value} {bs : List Int} {n : Int} (h : WSt B W g v bs n) (hg : W.grownBy W1 v.ownBlock) : W1.heap[g]? = some (.cells #[v, .int .i64 n] 143 (0, 0)) :=
  (hg.block g (Array.getElem?_eq_some_iff.1 h.1).1 (fun e => h.2.2.1 g e.symm rfl)).trans h.1
theorem reps_ints (w : World) (base : Nat) (ok : Nat → Prop) : ∀ xs : List Int, Reps ((Kd.int .u8).M w base ok) (Kd.int .u8).sz xs (xs.map (fun x => Value.int .u8 x))
  | [] => Reps.none _ _
  | x :: xs => Reps.one (show Kd.M (Kd.int .u8) _ _ _ x [.int .u8 x] from rfl) (reps_ints w base ok xs)
theorem R_of_blk {w : World} {g base : Nat} {xs : List Int} (hg : w.heap[g]? = some (.cells (xs.map (fun x => Value.int .u8 x)).toArray 5 (0, 0))) (hb : base ≤ g) (hm : xs.length ≤ 1000000) :
    Kd.R (Kd.int .u8) 5 w base (fun _ => True) (.slice (some ⟨g, 0, none⟩) xs.length xs.length) xs :=
  ⟨fun _ _ => trivial, xs.map (fun x => Value.int .u8 x), ⟨by simp [Kd.int, Kd.scalar], .inr ⟨g, xs.length, _, rfl, hb, hg, Nat.le_refl _, by unfold maxLen; omega, by simp [Kd.int, Kd.scalar], by rw [show (Kd.int .u8).sz = 1 from rfl, Nat.mul_one]; exact List.take_of_length_le (by simp)⟩⟩, reps_ints _ _ _ _⟩
theorem C_of_blk8 {w : World} {g : Nat} {xs : List Int} (hg : w.heap[g]? = some (.cells (xs.map (fun x => Value.int .u8 x)).toArray 5 (0, 0))) (hm : xs.length ≤ 1000000) : Kd.C (Kd.int .u8) w (some ⟨g, 0, none⟩) xs.length xs :=
  (Kd.R_reads' (R_of_blk (base := 0) hg (Nat.zero_le _) hm)).2.2
/-- A byte of the row is stored. -/
theorem wstore {B : Nat} {W : World} {g h : Nat} {bs : List Int} {n : Int} {c : Nat} (hs : WSt B W g (.slice (some ⟨h, 0, none⟩) bs.length c) bs n) (i : Nat) (x : Int) :
    WSt B (W.setCell ⟨h, i, none⟩ (.int .u8 x)) g (.slice (some ⟨h, 0, none⟩) bs.length c) (bs.set i x) n ∧ WStep g (.slice (some ⟨h, 0, none⟩) bs.length c) W (.slice (some ⟨h, 0, none⟩) bs.length c) (W.setCell ⟨h, i, none⟩ (.int .u8 x)) := by
  have hp := (Kd.R_put hs.2.2 (i : Int) x).1
  rw [Int.toNat_natCast] at hp
  have hne : g ≠ h := fun e => hs.2.2.1 h (by simp [Value.ownBlock]) e.symm
  refine ⟨⟨?_, hs.2.1, hp⟩, ⟨rfl, rfl, rfl, by rw [size_set]; exact Nat.le_refl _, .inl rfl, fun k _ _ h2 => ?_⟩⟩
  · rw [Below.heap_setCell W ⟨h, i, none⟩ _ g hne]
    exact hs.1
  · refine Below.heap_setCell W ⟨h, i, none⟩ _ k ?_
    intro e
    exact h2 (by rw [e]; simp [Value.ownBlock])
/-- The count is stored. -/
theorem wcount {B : Nat} {W : World} {g : Nat} {v : Value} {bs : List Int} {n : Int} (hs : WSt B W g v bs n) (m : Int) :
    WSt B (W.setCell ⟨g, 1, none⟩ (.int .i64 m)) g v bs m ∧ WStep g v W v (W.setCell ⟨g, 1, none⟩ (.int .i64 m)) :=
  ⟨⟨blk_set hs.1 1 _, hs.2.1, Kd.R_far hs.2.2 (fun k hk => hk) _⟩, ⟨rfl, rfl, rfl, by rw [size_set]; exact Nat.le_refl _, .inl rfl, fun k _ h1 _ => Below.heap_setCell W ⟨g, 1, none⟩ _ k h1⟩⟩
theorem wdrew {B : Nat} {W : World} {g : Nat} {v : Value} {bs : List Int} {n : Int} (hs : WSt B W g v bs n) (m : Nat) : WSt B (W.drewN m) g v bs n ∧ WStep g v W v (W.drewN m) :=
  ⟨⟨hs.1, hs.2.1, Kd.R_drewN hs.2.2 m⟩, ⟨rfl, rfl, rfl, Nat.le_refl _, .inl rfl, fun _ _ _ _ => rfl⟩⟩
/-- At the label: what is still to be laid comes to the same. -/
def WJ (B g : Nat) (v0 : Value) (W0 : World) (u : Int) (Q : List Int × Int) (left : Int) (W : World) : Prop :=
  ∃ (v : Value) (bs : List Int) (n : Int) (f : Nat), WSt B W g v bs n ∧ WStep g v0 W0 v W ∧ wput f bs n u left = Q ∧ left ≤ f ∧ 0 ≤ n ∧ n ≤ 1099511627776 - left ∧ (bs.length : Int) = (n + 7) / 8
def WEnd (B g : Nat) (v0 : Value) (W0 : World) (Q : List Int × Int) (e : Ending) (W : World) : Prop := e = .returned (.tuple #[]) ∧ ∃ v, WSt B W g v Q.1 Q.2 ∧ WStep g v0 W0 v W
theorem WJ_next {B g : Nat} {v0 v2 : Value} {W0 W : World} {u left n m l' : Int} {Q : List Int × Int} {bs rs : List Int} {f j : Nat} {y : Int} (hs : WSt B W g v2 (rs.set j y) (n + m)) (ht : WStep g v0 W0 v2 W)
    (h3 : wput f (rs.set (rs.length - 1) (wByte bs n u left)) (n + wMany n left) u (left - wMany n left) = Q) (hm : wMany n left = m) (hl : left - m = l') (hj : (rs.length : Int) - 1 = (j : Int)) (hy : wByte bs n u left = y)
    (h4 : left ≤ (f + 1 : Nat)) (h5 : 0 ≤ n) (h6 : n ≤ 1099511627776 - left) (hL : (rs.length : Int) = n / 8 + 1) (h1 : 1 ≤ m) (h8 : m ≤ 8 - n % 8) (h9 : m ≤ left) : WJ B g v0 W0 u Q l' W := by
  have ej : rs.length - 1 = j := by omega
  rw [hm, hl, hy, ej] at h3
  exact ⟨v2, _, _, f, hs, ht, h3, by omega, by omega, by omega, by rw [List.length_set]; omega⟩
theorem held_calls (n : Int) (w : World) : Calls Try.prog 136 #[.int .i64 n] w fun e w' => e = .returned (.int .i64 (max 0 (min n 64))) ∧ w' = w := by
  by_cases c1 : n < 64
  · by_cases c2 : 0 < n
    · have e : max 0 (min n 64) = n := by omega
      rw [e]
      go_enter Try.func136, Try.ntmps136
      go_wp2
      go_ret
      exact ⟨rfl, rfl⟩
    · have e : max 0 (min n 64) = 0 := by omega
      rw [e]
      go_enter Try.func136, Try.ntmps136
      go_wp2
      go_ret
      exact ⟨rfl, rfl⟩
  · have e : max 0 (min n 64) = 64 := by omega
    rw [e]
    have c3 : 64 ≤ n := by omega
    by_cases c4 : n = 64
    · subst c4
      go_enter Try.func136, Try.ntmps136
      go_wp2
      go_ret
      exact ⟨rfl, rfl⟩
    have c5 : 64 < n := by omega
    have c6 : ¬ n ≤ 64 := by omega
    go_enter Try.func136, Try.ntmps136
    go_wp2
    go_ret
    exact ⟨rfl, rfl⟩
end Go.Proofs.Ytpeejdmbnlhjmaa.H
/- Bits that are laid into a writer ((*bits.Writer).Put): the proof that the program's call comes to the plain function. For any number, width and writer of up to 2^40 bits. -/
namespace Go.Proofs.Ytpeejdmbnlhjmaa.H
open Go.RowKit Go.Proofs.YtpeejdmbnlhjmaaW.PrintWords Go.Proofs.YtpeejdmbnlhjmaaW.PrintLast Go.Proofs.YtpeejdmbnlhjmaaW.PrintMore
attribute [local go_sem] max2_int min2_int max_two min_two max_three min_three max_four min_four   -- for this text's walks alone
set_option linter.unusedVariables false
set_option linter.unusedSimpArgs false
theorem ofFn76 (U : Nat → Value) : Array.ofFn (n := 76) (fun i => U i.val) = #[U 0, U 1, U 2, U 3, U 4, U 5, U 6, U 7, U 8, U 9, U 10, U 11, U 12, U 13, U 14, U 15, U 16, U 17, U 18, U 19, U 20, U 21, U 22, U 23, U 24, U 25, U 26, U 27, U 28, U 29, U 30, U 31, U 32, U 33, U 34, U 35, U 36, U 37, U 38, U 39, U 40, U 41, U 42, U 43, U 44, U 45, U 46, U 47, U 48, U 49, U 50, U 51, U 52, U 53, U 54, U 55, U 56, U 57, U 58, U 59, U 60, U 61, U 62, U 63, U 64, U 65, U 66, U 67, U 68, U 69, U 70, U 71, U 72, U 73, U 74, U 75] := by kernel_rfl
theorem frame76 (t : Array Value) (hs : t.size = 76) : ∃ U : Nat → Value, (∀ i, U i = t.getD i undef) ∧ t = #[U 0, U 1, U 2, U 3, U 4, U 5, U 6, U 7, U 8, U 9, U 10, U 11, U 12, U 13, U 14, U 15, U 16, U 17, U 18, U 19, U 20, U 21, U 22, U 23, U 24, U 25, U 26, U 27, U 28, U 29, U 30, U 31, U 32, U 33, U 34, U 35, U 36, U 37, U 38, U 39, U 40, U 41, U 42, U 43, U 44, U 45, U 46, U 47, U 48, U 49, U 50, U 51, U 52, U 53, U 54, U 55, U 56, U 57, U 58, U 59, U 60, U 61, U 62, U 63, U 64, U 65, U 66, U 67, U 68, U 69, U 70, U 71, U 72, U 73, U 74, U 75] := by
  obtain ⟨U, hU⟩ : ∃ U : Nat → Value, ∀ i, U i = t.getD i undef := ⟨fun i => t.getD i undef, fun _ => rfl⟩
  refine ⟨U, hU, ?_⟩
  rw [← ofFn76 U]
  exact Array.ext (by simp [hs]) (fun i h1 h2 => by simp [hU, Array.getD, h1])
set_option maxHeartbeats 8000000 in
set_option maxRecDepth 100000 in
theorem put_calls (B : Nat) (w0 w : World) (g : Nat) (v0 : Value) (bs0 : List Int) (n0 u width : Int) (hs : WSt B w g v0 bs0 n0) (hB : Below B w0 w) (hbz : B ≤ w.heap.size) (hu : 0 ≤ u ∧ u < 18446744073709551616) (hn : 0 ≤ n0 ∧ n0 ≤ 1000000000000) (hl : (bs0.length : Int) = (n0 + 7) / 8) :
    Calls Try.prog 83 #[.pointer (some ⟨g, 0, none⟩), .int .u64 u, .int .i64 width] w (WEnd B g v0 w (wput 64 bs0 n0 u (max 0 (min width 64)))) := by
  have HS := Aside0.mk hs
  obtain ⟨hu0, hu1⟩ := hu
  have HN := Aside0.mk hn
  have HLEN := Aside0.mk hl
  have HB := Aside0.mk hB
  have HBZ := Aside0.mk hbz
  clear hs hn hl hB hbz
  go_enter Try.func83, Try.ntmps83
  refine wp_scope_loop 0 (fun a W => ∃ left : Int, (a.tmps.size = 76 ∧ a.defers = [] ∧ a.tmps.getD 0 undef = .pointer (some ⟨g, 0, none⟩) ∧ a.tmps.getD 1 undef = .int .u64 u ∧ a.tmps.getD 2 undef = .int .i64 width ∧ a.tmps.getD 6 undef = .int .i64 left) ∧ 0 ≤ left ∧ left ≤ 64 ∧ Aside0 (WJ B g v0 w u (wput 64 bs0 n0 u (max 0 (min width 64))) left W)) (fun a _ => (intOf (a.tmps.getD 6 undef)).toNat) rfl ?_ ?_
  · intro enter
    have ENTER := Aside0.mk enter
    clear enter
    go_wp2_with (first | (go_at_call 136; (with_reducible refine (held_calls _ _).mono ?_); rintro e w1 ⟨rfl, rfl⟩))
    go_step3
    rename_i hK
    refine hK _ _ (ENTER.out _ _ ⟨max 0 (min width 64), ⟨rfl, rfl, rfl, rfl, rfl, rfl⟩, by omega, by omega, ⟨v0, bs0, n0, 64, HS.out, WStep.refl _ _ _, rfl, by omega, HN.out.1, by have := HN.out.2; omega, HLEN.out⟩⟩)
  · rintro a W ⟨left, ⟨hf1, hf2, hf3, hf4, hf5, hf6⟩, hl0, hl1, hJ⟩
    obtain ⟨ts, ds⟩ := a
    simp only at hf1 hf2 hf3 hf4 hf5 hf6
    subst hf2
    obtain ⟨U, hU, ha⟩ := frame76 ts hf1
    have q0 := (hU 0).trans hf3
    have q1 := (hU 1).trans hf4
    have q2 := (hU 2).trans hf5
    have q6 := (hU 6).trans hf6
    rw [q0, q1, q2, q6] at ha
    clear hU q0 q1 q2 q6 hf1 hf3 hf4 hf5 hf6
    subst ha
    by_cases hz : left = 0
    · subst hz
      obtain ⟨v, bs, n, f, h1, h2, h3, _⟩ := hJ.out
      have HE : Aside0 (WSt B W g v (wput 64 bs0 n0 u (max 0 (min width 64))).1 (wput 64 bs0 n0 u (max 0 (min width 64))).2 ∧ WStep g v0 w v W) := by
        refine ⟨?_, h2⟩
        have e : wput f bs n u 0 = (bs, n) := by cases f <;> rfl
        rw [← h3, e]
        exact h1
      clear h1 h2 h3 hJ hl0 hl1
      go_wp2_with fail
      simp only [Exit.jump]
      exact bodyPost_ret (v := .tuple #[]) (by simp [results, go_sem]) rfl ⟨rfl, _, HE.out.1, HE.out.2⟩
    · have z1 : (left == 0) = false := beq_eq_false_iff_ne.mpr hz
      obtain ⟨v, bs, n, f, h1, h2, h3, h4, h5, h6, h7⟩ := hJ.out
      cases f with
      | zero => omega
      | succ f =>
        unfold wput at h3
        rw [if_neg (by omega)] at h3
        obtain ⟨A, c, rfl⟩ := Kd.R_slice h1.2.2
        have H1 := Aside0.mk h1
        have H2 := Aside0.mk h2
        have H3 := Aside0.mk h3
        have H4 := Aside0.mk h4
        have H7 := Aside0.mk h7
        obtain ⟨x0, x1⟩ := wcell h1
        have y0 := wfree h1 0
        have y1 := wfree h1 1
        clear hJ h1 h2 h3 h4 h7
        go_upto_if 19 with fail
        go_cut [] (fun W1 => ∃ A1 c1, Aside0 (WSt B W1 g (.slice A1 (wRow bs n).length c1) (wRow bs n) n) ∧ Aside0 (WStep g (.slice A bs.length c) W (.slice A1 (wRow bs n).length c1) W1))
        case first =>
          by_cases hm : n % 8 = 0
          · have m1 : (n % 8 == 0) = true := beq_iff_eq.mpr hm
            have m2 : (Int.tmod n 8 == 0) = true := by rw [Int.tmod_eq_emod_of_nonneg h5]; exact m1
            have er : wRow bs n = bs ++ [0] := if_pos hm
            have ER := Aside0.mk er
            clear hm er
            go_wp2_with (first
              | ((with_reducible refine gate_builtin (b := .append) (xs := #[.tmp 24, .tmp 25]) rfl ?_); at_builtin; refine Kd.R_append_rows (Kd.int .u8) (w0 := w0) B rfl (.tmp 24) (.tmp 25) 22 5 (.int .u8 0) 1 rfl Try.underlying22 infoB rfl (by decide) (by omega) _ bs [0] _ _ _ (fun k => k ≠ g) (fun _ => False) rfl rfl (Kd.R_below H1.out.2.2 (below_alloc (Below.refl _ _) _)) (C_of_blk8 (xs := [0]) (heap_alloc_new _ _) (by simp)) (fun _ _ h => h) (fun _ h => h.elim) (wfresh H1.out) (wbelow HB.out HBZ.out HS.out H2.out) (wbase HBZ.out H2.out) (wbound H7.out h6) ?_; intro v1 w1 hr hb hg hat; obtain ⟨A1, c1, rfl⟩ := Kd.R_slice hr; have hg' := World.grownBy.trans (World.grownBy_alloc W (.cells #[.int .u8 0] 5) (Value.slice A bs.length c).ownBlock) hg; have hat' := wown (.cells #[.int .u8 0] 5) hat; have hk := wkeep H1.out hg'; have G1 := Aside0.mk (wgrow (w0 := w0) H1.out hr hg' hat'); have s0 := blk_cell hk 0; have s1 := blk_frozen hk 0; clear hr hb hg hat hg' hat' hk))
            go_meet
            rw [ER.out]
            exact ⟨A1, c1, ⟨by have G := G1.out.1; simpa using G⟩, ⟨by have G := G1.out.2; simpa using G⟩⟩
          · have m1 : (n % 8 == 0) = false := beq_eq_false_iff_ne.mpr hm
            have m2 : (Int.tmod n 8 == 0) = false := by rw [Int.tmod_eq_emod_of_nonneg h5]; exact m1
            have er : wRow bs n = bs := if_neg hm
            have ER := Aside0.mk er
            clear hm er
            go_wp2_with fail
            go_meet
            rw [ER.out]
            exact ⟨A, c, H1, ⟨WStep.refl _ _ _⟩⟩
        case rest =>
        obtain ⟨A1, c1, S1, T1⟩ := hcut
        clear x0 x1 y0 y1
        have hq0 := Int.emod_nonneg n (show (8 : Int) ≠ 0 by decide)
        have hq1 := Int.emod_lt_of_pos n (show (0 : Int) < 8 by decide)
        have hq2 := Int.tmod_eq_emod_of_nonneg (b := 8) h5
        have hL : ((wRow bs n).length : Int) = n / 8 + 1 := by
          have := H7.out
          unfold wRow
          split
          · rw [List.length_append]
            simp only [List.length_cons, List.length_nil]
            omega
          · omega
        have HL := Aside0.mk hL
        have hL0 : 1 ≤ (wRow bs n).length := by omega
        have hL1 : (wRow bs n).length ≤ 1099511627776 := by omega
        have HN8 := Aside0.mk (show n % 8 = n % 8 from rfl)
        have H5 := Aside0.mk h5
        have H6 := Aside0.mk h6
        clear hL
        generalize hrs : wRow bs n = rs at *
        generalize hnq : n % 8 = q at *
        have HRS := Aside0.mk hrs
        have HNQ := Aside0.mk hnq
        clear hrs hnq
        obtain ⟨h, cap, hv, hge, _, _⟩ := Kd.R_form S1.out.2.2 (by omega)
        obtain ⟨rfl, _, rfl⟩ := Value.slice.inj hv
        clear hv
        obtain ⟨x0, x1⟩ := wcell S1.out
        obtain ⟨j, hj⟩ : ∃ j : Nat, (rs.length : Int) - 1 = (j : Int) := ⟨rs.length - 1, by omega⟩
        have hjl : j < rs.length := by omega
        obtain ⟨x2, x3⟩ := wrow_at S1.out j hjl
        generalize hx : rd rs (j : Int) = x at x2
        have HX := Aside0.mk hx
        have e1 : IntKind.i64.wrap (j : Int) = (j : Int) := by rw [IntKind.wrap_i64]; omega
        have k2 : (0 : Int) ≤ (j : Int) := Int.natCast_nonneg _
        have k3 : (j : Int) < (rs.length : Int) := by omega
        clear hx
        by_cases hml : left < 8 - q
        · have k1 : decide (left < 8 - q) = true := decide_eq_true hml
          go_upto_region 7 with fail
          go_quiet (fail)
          obtain ⟨sN, hsN⟩ : ∃ sN : Nat, 8 - q - left = (sN : Int) := ⟨(8 - q - left).toNat, by omega⟩
          have e2 : IntKind.i64.wrap (sN : Int) = (sN : Int) := by rw [IntKind.wrap_i64]; omega
          have k4 : (0 : Int) ≤ (sN : Int) := Int.natCast_nonneg _
          have k5 : (sN : Int) < 8 := by omega
          have HM := Aside0.mk (show wMany n left = left by unfold wMany; have := HNQ.out; omega)
          have HY := Aside0.mk (wByte_eq (u := u) (l' := 0) HRS.out HNQ.out HM.out hj HX.out hsN (by omega))
          have hP : 0 ≤ left ∧ left ≤ 8 := by omega
          generalize hp : bits BinOp.and IntKind.u8 (u % 256) ((2 ^ left.toNat - 1) % 256) = part
          have HP := Aside0.mk hp
          clear hp
          go_upto_region 8 with fail
          go_region
          have S2 := Aside0.mk (wstore (wdrew S1.out (nq + 1)).1 j (bits BinOp.or IntKind.u8 x (part * 2 ^ sN % 256)))
          have T2 := Aside0.mk (((H2.out.trans T1.out).trans (wdrew S1.out (nq + 1)).2).trans S2.out.2)
          generalize (wc.drewN (nq + 1)).setCell ⟨h, j, none⟩ (.int .u8 (bits BinOp.or IntKind.u8 x (part * 2 ^ sN % 256))) = W2 at *
          clear x0 x1 x2 x3
          obtain ⟨x0, x1⟩ := wcell S2.out.1
          have y1 := wfree S2.out.1 1
          have b1 := H5.out
          have b2 := H6.out
          go_wp2_with fail
          go_step3
          have HF := wcount S2.out.1 (n + left)
          refine ⟨rfl, ⟨0, ⟨rfl, rfl, rfl, rfl, rfl, rfl⟩, by omega, by omega, ⟨WJ_next (f := f) HF.1 (T2.out.trans HF.2) H3.out HM.out (by omega) hj (HY.out.trans ?_) H4.out H5.out H6.out HL.out (by omega) (by have := HNQ.out; omega) (by omega)⟩⟩, by simp [intOf]; omega⟩
          rw [← HP.out]
          simp
        · have k1 : decide (left < 8 - q) = false := decide_eq_false hml
          have k6 : 0 ≤ left - (8 - q) := by omega
          obtain ⟨l', hl'⟩ : ∃ l' : Int, left - (8 - q) = l' := ⟨_, rfl⟩
          have k7 : 0 ≤ l' := by omega
          have k8 : l' < 64 := by omega
          have k9 : IntKind.i64.wrap l' = l' := by rw [IntKind.wrap_i64]; omega
          go_upto_region 7 with fail
          go_quiet (fail)
          have HM := Aside0.mk (show wMany n left = 8 - q by unfold wMany; have := HNQ.out; omega)
          have HY := Aside0.mk (wByte_eq (u := u) (sN := 0) (l' := l') HRS.out HNQ.out HM.out hj HX.out (by simp) hl')
          have hP : 0 ≤ 8 - q ∧ 8 - q ≤ 8 := by omega
          generalize hp : bits BinOp.and IntKind.u8 (u / 2 ^ l'.toNat % 256) ((2 ^ (8 - q).toNat - 1) % 256) = part
          have HP := Aside0.mk hp
          clear hp
          go_upto_region 8 with fail
          go_region
          have S2 := Aside0.mk (wstore (wdrew S1.out (nq + 1)).1 j (bits BinOp.or IntKind.u8 x (part % 256)))
          have T2 := Aside0.mk (((H2.out.trans T1.out).trans (wdrew S1.out (nq + 1)).2).trans S2.out.2)
          generalize (wc.drewN (nq + 1)).setCell ⟨h, j, none⟩ (.int .u8 (bits BinOp.or IntKind.u8 x (part % 256))) = W2 at *
          clear x0 x1 x2 x3
          obtain ⟨x0, x1⟩ := wcell S2.out.1
          have y1 := wfree S2.out.1 1
          have b1 := H5.out
          have b2 := H6.out
          go_wp2_with fail
          go_step3
          have HF := wcount S2.out.1 (n + (8 - q))
          refine ⟨rfl, ⟨l', ⟨rfl, rfl, rfl, rfl, rfl, rfl⟩, by omega, by omega, ⟨WJ_next (f := f) HF.1 (T2.out.trans HF.2) H3.out HM.out (by omega) hj (HY.out.trans ?_) H4.out H5.out H6.out HL.out (by omega) (by have := HNQ.out; omega) (by omega)⟩⟩, by simp [intOf]; omega⟩
          rw [← HP.out]
          simp
end Go.Proofs.Ytpeejdmbnlhjmaa.H
