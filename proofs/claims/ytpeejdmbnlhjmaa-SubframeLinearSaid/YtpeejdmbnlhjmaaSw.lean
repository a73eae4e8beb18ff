/- Bits that are laid into a writer ((*bits.Writer).Put) as a plain function, with the proof that the program's call comes to it. For any number, width and writer of up to 2^40 bits. -/
import Derived.Test.YtpeejdmbnlhjmaaProg
import Derived.Below
import Derived.Deep.Draws
import Derived.Deep.AppendLies
import Derived.Maps.AppendAt
import Derived.OwnWalk
import Derived.Laws.BytesArg
import Derived.Laws.MakeOwn
import Derived.Laws.OwnMore
import Derived.Deep.OwnRows
import Derived.Tactics
import Derived.Lib.ConvBytes
import Derived.Laws.Slices
import Derived.WalkKit
import Derived.KernelRfl
import Derived.RowKit3
import Derived.Deep.LoopGhost
import Derived.Deep.QuietTactic
import Derived.BigQuiet
import Derived.WideLaws
import Derived.Deep.DeepCutAuto
import Derived.Deep.CutBlock
import Derived.Deep.RegionHeld3
import Derived.Laws.Rows
import Derived.Lib.AppendStr
import Derived.ArgAppend
import Derived.Laws.IdiomCopy
import Derived.OrdersHeld
import Derived.Laws.BitsLemmas
import Derived.RowKit
import Derived.Test.YtpeejdmbnlhjmaaWWords
import Derived.Test.YtpeejdmbnlhjmaaWLast
import Derived.Test.YtpeejdmbnlhjmaaWTab
import Derived.Test.YtpeejdmbnlhjmaaWFour
import Derived.Test.YtpeejdmbnlhjmaaWQPut
import Derived.Test.YtpeejdmbnlhjmaaWApart
import Derived.Test.YtpeejdmbnlhjmaaWArr
import Derived.Test.YtpeejdmbnlhjmaaWZeros
import Derived.Test.YtpeejdmbnlhjmaaWFoot
import Derived.Test.YtpeejdmbnlhjmaaWKept
import Derived.Test.YtpeejdmbnlhjmaaWShare
import Derived.Test.YtpeejdmbnlhjmaaWN
import Derived.Test.YtpeejdmbnlhjmaaWFootNe
import Derived.Test.YtpeejdmbnlhjmaaWAt
import Derived.Test.YtpeejdmbnlhjmaaWEqStruct
import Derived.Test.YtpeejdmbnlhjmaaWRepsOne
import Derived.Test.YtpeejdmbnlhjmaaWInv
import Derived.Test.YtpeejdmbnlhjmaaWInvWords
import Derived.Test.YtpeejdmbnlhjmaaWGuard
import Derived.Test.YtpeejdmbnlhjmaaWNEv
import Derived.Test.YtpeejdmbnlhjmaaWMore
import Derived.ScopeJumps
import Derived.WalkMore
import Derived.Test.YtpeejdmbnlhjmaaSpre
import Derived.Test.YtpeejdmbnlhjmaaSclone
import Derived.Test.YtpeejdmbnlhjmaaSfunc
import Derived.Test.YtpeejdmbnlhjmaaSdown
namespace Go.Proofs.Ytpeejdmbnlhjmaa.H
open Go.RowKit Go.Proofs.YtpeejdmbnlhjmaaW.PrintWords Go.Proofs.YtpeejdmbnlhjmaaW.PrintLast Go.Proofs.YtpeejdmbnlhjmaaW.PrintMore
attribute [local go_sem] max2_int min2_int max_two min_two max_three min_three max_four min_four   -- for this text's walks alone
set_option linter.unusedVariables false
set_option linter.unusedSimpArgs false
theorem wp_scope_loop {P : Program} {a : Act} {w : World} {Q : Exit → Act → World → Prop} {c C : Code} (l : Nat) (J : Act → World → Prop) (μ : Act → World → Nat) (hf : findLabel c l = some (Code.skip.seq C))
    (first : (∀ a w, J a w → C.wp P (Exit.jump l J Q) a w) → c.wp P (Exit.jump l J Q) a w)
    (pass : ∀ a w, J a w → C.wp P (Exit.jump l (fun a' w' => J a' w' ∧ μ a' w' < μ a w) Q) a w) : (Code.scope c).wp P Q a w :=
  wp_scope_jumps l J μ hf (first fun a w h => wp_mono (pass a w h) (fun e a' w' hq => by
    cases e with
    | goto l' => exact ⟨hq.1, hq.2.1⟩
    | _ => exact hq)) (fun a w h => wp_seq (wp_skip (pass a w h)))
theorem size_set (W : World) (a : Addr) (v : Value) : (W.setCell a v).heap.size = W.heap.size := by simp [World.setCell]
/-- One round: the byte that is filled, and how many bits of it. -/
def wRow (bs : List Int) (n : Int) : List Int := if n % 8 = 0 then bs ++ [0] else bs
def wMany (n left : Int) : Int := min (8 - n % 8) left
def wPart (n u left : Int) : Int := Go.bits .and .u8 (u / 2 ^ (left - wMany n left).toNat % 256) ((2 ^ (wMany n left).toNat - 1) % 256)
def wByte (bs : List Int) (n u left : Int) : Int := Go.bits .or .u8 (rd (wRow bs n) ((wRow bs n).length - 1)) (wPart n u left * 2 ^ (8 - n % 8 - wMany n left).toNat % 256)
theorem wByte_eq {bs rs : List Int} {n u left q m l' x : Int} {j sN : Nat} (hrs : wRow bs n = rs) (hq : n % 8 = q) (hm : wMany n left = m) (hj : (rs.length : Int) - 1 = (j : Int)) (hx : rd rs (j : Int) = x) (hs : 8 - q - m = (sN : Int)) (hl : left - m = l') :
    wByte bs n u left = Go.bits .or .u8 x (Go.bits .and .u8 (u / 2 ^ l'.toNat % 256) ((2 ^ m.toNat - 1) % 256) * 2 ^ sN % 256) := by
  unfold wByte wPart
  rw [hrs, hq, hm, hj, hx, hs, hl, Int.toNat_natCast]
/-- Bits laid behind bits: the bytes, and how many bits there are. -/
def wput : Nat → List Int → Int → Int → Int → List Int × Int
  | 0, bs, n, _, _ => (bs, n)
  | f + 1, bs, n, u, left => if left ≤ 0 then (bs, n) else wput f ((wRow bs n).set ((wRow bs n).length - 1) (wByte bs n u left)) (n + wMany n left) u (left - wMany n left)
/-- A writer in memory: the row lies in a block of its own. -/
def WSt (B : Nat) (W : World) (g : Nat) (v : Value) (bs : List Int) (n : Int) : Prop :=
  W.heap[g]? = some (.cells #[v, .int .i64 n] 143 (0, 0)) ∧ B ≤ g ∧ Kd.R (Kd.int .u8) 5 W B (fun k => k ≠ g) v bs
/-- What a call that lays bits does to memory. -/
structure WStep (g : Nat) (v : Value) (W : World) (v' : Value) (W' : World) : Prop where
  os : W'.os = W.os
  tape : W'.tape = W.tape
  output : W'.output = W.output
  size : W.heap.size ≤ W'.heap.size
  own : v'.ownBlock = v.ownBlock ∨ ∃ b, v'.ownBlock = some b ∧ W.heap.size ≤ b
  block : ∀ k, k < W.heap.size → k ≠ g → some k ≠ v.ownBlock → W'.heap[k]? = W.heap[k]?
theorem WStep.refl (g : Nat) (v : Value) (W : World) : WStep g v W v W := ⟨rfl, rfl, rfl, Nat.le_refl _, .inl rfl, fun _ _ _ _ => rfl⟩
theorem WStep.trans {g : Nat} {v v1 v2 : Value} {W W1 W2 : World} (h : WStep g v W v1 W1) (k : WStep g v1 W1 v2 W2) : WStep g v W v2 W2 := by
  refine ⟨k.os.trans h.os, k.tape.trans h.tape, k.output.trans h.output, Nat.le_trans h.size k.size, ?_, fun i hi hg hv => ?_⟩
  · rcases k.own with e | ⟨b, e, hb⟩
    · rcases h.own with e' | ⟨b, e', hb⟩
      · exact .inl (e.trans e')
      · exact .inr ⟨b, e.trans e', hb⟩
    · exact .inr ⟨b, e, Nat.le_trans h.size hb⟩
  · refine (k.block i (Nat.lt_of_lt_of_le hi h.size) hg ?_).trans (h.block i hi hg hv)
    rcases h.own with e | ⟨b, e, hb⟩
    · rw [e]; exact hv
    · rw [e]
      intro e2
      have := Option.some.inj e2
      omega
theorem WStep.below {B g : Nat} {w0 W W' : World} {v v' : Value} {bs : List Int} {n : Int} (hB : Below B w0 W) (hb : B ≤ W.heap.size) (hs : WSt B W g v bs n) (h : WStep g v W v' W') : Below B w0 W' := by
  refine ⟨h.os.trans hB.os, h.tape.trans hB.tape, h.output.trans hB.output, Nat.le_trans hB.size h.size, fun i hi => (h.block i (by omega) (by have := hs.2.1; omega) ?_).trans (hB.block i hi)⟩
  intro e
  have := Kd.R_base hs.2.2 i e.symm
  omega
theorem wcell {B : Nat} {W : World} {g : Nat} {v : Value} {bs : List Int} {n : Int} (h : WSt B W g v bs n) : W.cell? ⟨g, 0, none⟩ = some v ∧ W.cell? ⟨g, 1, none⟩ = some (.int .i64 n) := ⟨blk_cell h.1 0, blk_cell h.1 1⟩
theorem wfree {B : Nat} {W : World} {g : Nat} {v : Value} {bs : List Int} {n : Int} (h : WSt B W g v bs n) (i : Nat) : W.frozen? ⟨g, i, none⟩ = false := blk_frozen h.1 i
/-- The row has grown, its slice is stored anew. -/
theorem wgrow {B : Nat} {w0 W W1 : World} {g : Nat} {v v1 : Value} {bs bs1 : List Int} {n : Int} (h : WSt B W g v bs n) (hr : Kd.R (Kd.int .u8) 5 W1 B (fun k => k ≠ g) v1 bs1) (hg : W.grownBy W1 v.ownBlock) (hat : v1.ownBlock = v.ownBlock ∨ ∃ b, v1.ownBlock = some b ∧ W.heap.size ≤ b) :
    WSt B (W1.setCell ⟨g, 0, none⟩ v1) g v1 bs1 n ∧ WStep g v W v1 (W1.setCell ⟨g, 0, none⟩ v1) := by
  have hlt := (Array.getElem?_eq_some_iff.1 h.1).1
  have hne : some g ≠ v.ownBlock := fun e => h.2.2.1 g e.symm rfl
  have hb1 : W1.heap[g]? = some (.cells #[v, .int .i64 n] 143 (0, 0)) := (hg.block g hlt hne).trans h.1
  refine ⟨⟨blk_set hb1 0 v1, h.2.1, Kd.R_far hr (fun k hk => hk) _⟩, ⟨hg.os, hg.tape, hg.output, by rw [size_set]; exact hg.size, hat, fun k hk h1 h2 => ?_⟩⟩
  rw [Below.heap_setCell W1 ⟨g, 0, none⟩ v1 k h1]
  exact hg.block k hk h2
theorem wrow_at {B : Nat} {W : World} {g h c : Nat} {bs : List Int} {n : Int} (hs : WSt B W g (.slice (some ⟨h, 0, none⟩) bs.length c) bs n) (i : Nat) (hi : i < bs.length) : W.cell? ⟨h, i, none⟩ = some (.int .u8 (rd bs (i : Int))) ∧ W.frozen? ⟨h, i, none⟩ = false := by
  have hc := Kd.R_cell (0 : Int) hs.2.2 (i : Int) (Int.natCast_nonneg _) (by omega)
  rw [Int.toNat_natCast] at hc
  exact hc
theorem wfresh {B : Nat} {W : World} {g : Nat} {v : Value} {bs : List Int} {n : Int} {o : Obj} (h : WSt B W g v bs n) : ∀ k, (W.alloc o).heap.size ≤ k → k ≠ g := by
  intro k hk e
  have hlt := (Array.getElem?_eq_some_iff.1 h.1).1
  have : (W.alloc o).heap.size = W.heap.size + 1 := Array.size_push ..
  omega
theorem wbelow {B g : Nat} {w0 w W : World} {v0 v : Value} {bs : List Int} {n : Int} {o : Obj} (hB : Below B w0 w) (hb : B ≤ w.heap.size) (hs : WSt B w g v0 bs n) (h : WStep g v0 w v W) : Below B w0 (W.alloc o) := (WStep.below hB hb hs h).alloc (Nat.le_trans hb h.size) o
theorem wbase {B g : Nat} {w W : World} {v0 v : Value} {o : Obj} (hb : B ≤ w.heap.size) (h : WStep g v0 w v W) : B ≤ (W.alloc o).heap.size := by
  have : (W.alloc o).heap.size = W.heap.size + 1 := Array.size_push ..
  have := h.size
  omega
theorem wbound {bs : List Int} {n left : Int} (h : (bs.length : Int) = (n + 7) / 8) (hn : n ≤ 1099511627776 - left) (hl : 0 ≤ left := by omega) : (bs.length + 1) * 1 ≤ 140737488355328 := by omega
theorem wown {W : World} {v v1 : Value} (o : Obj) (h : v1.ownBlock = v.ownBlock ∨ ∃ b, v1.ownBlock = some b ∧ (W.alloc o).heap.size ≤ b) : v1.ownBlock = v.ownBlock ∨ ∃ b, v1.ownBlock = some b ∧ W.heap.size ≤ b := by
  rcases h with h | ⟨b, h, hb⟩
  · exact .inl h
  · exact .inr ⟨b, h, by have : (W.alloc o).heap.size = W.heap.size + 1 := Array.size_push ..; omega⟩
theorem wkeep {B : Nat} {W W1 : World} {g : Nat} {v : Value} {bs : List Int} {n : Int} (h : WSt B W g v bs n) (hg : W.grownBy W1 v.ownBlock) : W1.heap[g]? = some (.cells #[v, .int .i64 n] 143 (0, 0)) :=
  (hg.block g (Array.getElem?_eq_some_iff.1 h.1).1 (fun e => h.2.2.1 g e.symm rfl)).trans h.1
theorem reps_ints (w : World) (base : Nat) (ok : Nat → Prop) : ∀ xs : List Int, Reps ((Kd.int .u8).M w base ok) (Kd.int .u8).sz xs (xs.map (fun x => Value.int .u8 x))
  | [] => Reps.none _ _
  | x :: xs => Reps.one (show Kd.M (Kd.int .u8) _ _ _ x [.int .u8 x] from rfl) (reps_ints w base ok xs)
theorem R_of_blk {w : World} {g base : Nat} {xs : List Int} (hg : w.heap[g]? = some (.cells (xs.map (fun x => Value.int .u8 x)).toArray 5 (0, 0))) (hb : base ≤ g) (hm : xs.length ≤ 1000000) :
    Kd.R (Kd.int .u8) 5 w base (fun _ => True) (.slice (some ⟨g, 0, none⟩) xs.length xs.length) xs :=
  ⟨fun _ _ => trivial, xs.map (fun x => Value.int .u8 x), ⟨by simp [Kd.int, Kd.scalar], .inr ⟨g, xs.length, _, rfl, hb, hg, Nat.le_refl _, by unfold maxLen; omega, by simp [Kd.int, Kd.scalar], by rw [show (Kd.int .u8).sz = 1 from rfl, Nat.mul_one]; exact List.take_of_length_le (by simp)⟩⟩, reps_ints _ _ _ _⟩
theorem C_of_blk8 {w : World} {g : Nat} {xs : List Int} (hg : w.heap[g]? = some (.cells (xs.map (fun x => Value.int .u8 x)).toArray 5 (0, 0))) (hm : xs.length ≤ 1000000) : Kd.C (Kd.int .u8) w (some ⟨g, 0, none⟩) xs.length xs :=
  (Kd.R_reads' (R_of_blk (base := 0) hg (Nat.zero_le _) hm)).2.2
/-- A byte of the row is stored. -/
theorem wstore {B : Nat} {W : World} {g h : Nat} {bs : List Int} {n : Int} {c : Nat} (hs : WSt B W g (.slice (some ⟨h, 0, none⟩) bs.length c) bs n) (i : Nat) (x : Int) :
    WSt B (W.setCell ⟨h, i, none⟩ (.int .u8 x)) g (.slice (some ⟨h, 0, none⟩) bs.length c) (bs.set i x) n ∧ WStep g (.slice (some ⟨h, 0, none⟩) bs.length c) W (.slice (some ⟨h, 0, none⟩) bs.length c) (W.setCell ⟨h, i, none⟩ (.int .u8 x)) := by
  have hp := (Kd.R_put hs.2.2 (i : Int) x).1
  rw [Int.toNat_natCast] at hp
  have hne : g ≠ h := fun e => hs.2.2.1 h (by simp [Value.ownBlock]) e.symm
  refine ⟨⟨?_, hs.2.1, hp⟩, ⟨rfl, rfl, rfl, by rw [size_set]; exact Nat.le_refl _, .inl rfl, fun k _ _ h2 => ?_⟩⟩
  · rw [Below.heap_setCell W ⟨h, i, none⟩ _ g hne]
    exact hs.1
  · refine Below.heap_setCell W ⟨h, i, none⟩ _ k ?_
    intro e
    exact h2 (by rw [e]; simp [Value.ownBlock])
/-- The count is stored. -/
theorem wcount {B : Nat} {W : World} {g : Nat} {v : Value} {bs : List Int} {n : Int} (hs : WSt B W g v bs n) (m : Int) :
    WSt B (W.setCell ⟨g, 1, none⟩ (.int .i64 m)) g v bs m ∧ WStep g v W v (W.setCell ⟨g, 1, none⟩ (.int .i64 m)) :=
  ⟨⟨blk_set hs.1 1 _, hs.2.1, Kd.R_far hs.2.2 (fun k hk => hk) _⟩, ⟨rfl, rfl, rfl, by rw [size_set]; exact Nat.le_refl _, .inl rfl, fun k _ h1 _ => Below.heap_setCell W ⟨g, 1, none⟩ _ k h1⟩⟩
theorem wdrew {B : Nat} {W : World} {g : Nat} {v : Value} {bs : List Int} {n : Int} (hs : WSt B W g v bs n) (m : Nat) : WSt B (W.drewN m) g v bs n ∧ WStep g v W v (W.drewN m) :=
  ⟨⟨hs.1, hs.2.1, Kd.R_drewN hs.2.2 m⟩, ⟨rfl, rfl, rfl, Nat.le_refl _, .inl rfl, fun _ _ _ _ => rfl⟩⟩
/-- At the label: what is still to be laid comes to the same. -/
def WJ (B g : Nat) (v0 : Value) (W0 : World) (u : Int) (Q : List Int × Int) (left : Int) (W : World) : Prop :=
  ∃ (v : Value) (bs : List Int) (n : Int) (f : Nat), WSt B W g v bs n ∧ WStep g v0 W0 v W ∧ wput f bs n u left = Q ∧ left ≤ f ∧ 0 ≤ n ∧ n ≤ 1099511627776 - left ∧ (bs.length : Int) = (n + 7) / 8
def WEnd (B g : Nat) (v0 : Value) (W0 : World) (Q : List Int × Int) (e : Ending) (W : World) : Prop := e = .returned (.tuple #[]) ∧ ∃ v, WSt B W g v Q.1 Q.2 ∧ WStep g v0 W0 v W
theorem WJ_next {B g : Nat} {v0 v2 : Value} {W0 W : World} {u left n m l' : Int} {Q : List Int × Int} {bs rs : List Int} {f j : Nat} {y : Int} (hs : WSt B W g v2 (rs.set j y) (n + m)) (ht : WStep g v0 W0 v2 W)
    (h3 : wput f (rs.set (rs.length - 1) (wByte bs n u left)) (n + wMany n left) u (left - wMany n left) = Q) (hm : wMany n left = m) (hl : left - m = l') (hj : (rs.length : Int) - 1 = (j : Int)) (hy : wByte bs n u left = y)
    (h4 : left ≤ (f + 1 : Nat)) (h5 : 0 ≤ n) (h6 : n ≤ 1099511627776 - left) (hL : (rs.length : Int) = n / 8 + 1) (h1 : 1 ≤ m) (h8 : m ≤ 8 - n % 8) (h9 : m ≤ left) : WJ B g v0 W0 u Q l' W := by
  have ej : rs.length - 1 = j := by omega
  rw [hm, hl, hy, ej] at h3
  exact ⟨v2, _, _, f, hs, ht, h3, by omega, by omega, by omega, by rw [List.length_set]; omega⟩
theorem held_calls (n : Int) (w : World) : Calls Try.prog 136 #[.int .i64 n] w fun e w' => e = .returned (.int .i64 (max 0 (min n 64))) ∧ w' = w := by
  by_cases c1 : n < 64
  · by_cases c2 : 0 < n
    · have e : max 0 (min n 64) = n := by omega
      rw [e]
      go_enter Try.func136, Try.ntmps136
      go_wp2
      go_ret
      exact ⟨rfl, rfl⟩
    · have e : max 0 (min n 64) = 0 := by omega
      rw [e]
      go_enter Try.func136, Try.ntmps136
      go_wp2
      go_ret
      exact ⟨rfl, rfl⟩
  · have e : max 0 (min n 64) = 64 := by omega
    rw [e]
    have c3 : 64 ≤ n := by omega
    by_cases c4 : n = 64
    · subst c4
      go_enter Try.func136, Try.ntmps136
      go_wp2
      go_ret
      exact ⟨rfl, rfl⟩
    have c5 : 64 < n := by omega
    have c6 : ¬ n ≤ 64 := by omega
    go_enter Try.func136, Try.ntmps136
    go_wp2
    go_ret
    exact ⟨rfl, rfl⟩
end Go.Proofs.Ytpeejdmbnlhjmaa.H
