/- The header that bytes begin with (head.Take): the walk behind the number. For any bytes. -/
import Derived.Test.YtbohlcccdcilkaaProg
import Derived.Below
import Derived.Deep.Draws
import Derived.Deep.AppendLies
import Derived.Maps.AppendAt
import Derived.OwnWalk
import Derived.Laws.BytesArg
import Derived.Laws.MakeOwn
import Derived.Laws.OwnMore
import Derived.Deep.OwnRows
import Derived.Tactics
import Derived.Lib.ConvBytes
import Derived.Laws.Slices
import Derived.WalkKit
import Derived.KernelRfl
import Derived.RowKit3
import Derived.Deep.LoopGhost
import Derived.Deep.QuietTactic
import Derived.BigQuiet
import Derived.WideLaws
import Derived.Deep.DeepCutAuto
import Derived.Deep.CutBlock
import Derived.Deep.RegionHeld3
import Derived.Laws.Rows
import Derived.Lib.AppendStr
import Derived.ArgAppend
import Derived.Laws.IdiomCopy
import Derived.OrdersHeld
import Derived.Laws.BitsLemmas
import Derived.RowKit
import Derived.Test.YtbohlcccdcilkaaWWords
import Derived.Test.YtbohlcccdcilkaaWLast
import Derived.Test.YtbohlcccdcilkaaWTab
import Derived.Test.YtbohlcccdcilkaaWFour
import Derived.Test.YtbohlcccdcilkaaWQPut
import Derived.Test.YtbohlcccdcilkaaWApart
import Derived.Test.YtbohlcccdcilkaaWArr
import Derived.Test.YtbohlcccdcilkaaWZeros
import Derived.Test.YtbohlcccdcilkaaWFoot
import Derived.Test.YtbohlcccdcilkaaWKept
import Derived.Test.YtbohlcccdcilkaaWShare
import Derived.Test.YtbohlcccdcilkaaWN
import Derived.Test.YtbohlcccdcilkaaWFootNe
import Derived.Test.YtbohlcccdcilkaaWAt
import Derived.Test.YtbohlcccdcilkaaWEqStruct
import Derived.Test.YtbohlcccdcilkaaWRepsOne
import Derived.Test.YtbohlcccdcilkaaWInv
import Derived.Test.YtbohlcccdcilkaaWInvWords
import Derived.Test.YtbohlcccdcilkaaWGuard
import Derived.Test.YtbohlcccdcilkaaWNEv
import Derived.Test.YtbohlcccdcilkaaWMore
import Derived.Test.YtbohlcccdcilkaaHtake
namespace Go.Proofs.Ytbohlcccdcilkaa.H
open Go.RowKit Go.Proofs.YtbohlcccdcilkaaW.PrintWords Go.Proofs.YtbohlcccdcilkaaW.PrintLast Go.Proofs.YtbohlcccdcilkaaW.PrintMore
attribute [local go_sem] max2_int min2_int max_two min_two max_three min_three max_four min_four   -- for this text's walks alone
set_option linter.unusedVariables false
set_option linter.unusedSimpArgs false
def Fresh (w W : World) (g : Nat) : Prop := w.heap.size < g ∧ W.heap[g]? = some (.cells hzero 23 (0, 0))
theorem fresh_new {w X w1 : World} (h : w.heap.size < X.heap.size) (hb : Below (X.alloc (Obj.cells hzero 23 (0, 0))).heap.size (X.alloc (Obj.cells hzero 23 (0, 0))) w1) : Fresh w w1 X.heap.size := ⟨h, blk_below (heap_alloc_last X _) hb⟩
theorem fresh_below {w X w1 : World} {g : Nat} (h : Fresh w X g) (hb : Below X.heap.size X w1) : Fresh w w1 g := ⟨h.1, blk_below h.2 hb⟩
def TW (w : World) (g : Nat) (cs : Array Value) (W : World) : Prop := w.heap.size < g ∧ W.heap[g]? = some (.cells cs 23 (0, 0)) ∧ W.heap[w.heap.size]? = some (.cells hzero 23 (0, 0)) ∧ Below w.heap.size w W
theorem fresh_alloc {w W : World} (h : W.heap[w.heap.size]? = some (.cells hzero 23 (0, 0))) : Fresh w (W.alloc (Obj.cells hzero 23 (0, 0))) W.heap.size := ⟨blk_lt h, heap_alloc_last W _⟩
theorem fresh_first (w : World) (m : Nat) : Fresh w ((((w.alloc (Obj.cells hzero 23 (0, 0))).drewN m).drew).alloc (Obj.cells hzero 23 (0, 0))) (w.heap.size + 1) := ⟨Nat.lt_succ_self _, by
  have h := heap_alloc_last (((w.alloc (Obj.cells hzero 23 (0, 0))).drewN m).drew) (Obj.cells hzero 23 (0, 0))
  rwa [show (((w.alloc (Obj.cells hzero 23 (0, 0))).drewN m).drew).heap.size = w.heap.size + 1 from Array.size_push ..] at h⟩
def S11 (w : World) (ad : Addr) (b1 : Int) (W : World) : Prop := W.cell? ⟨ad.block, ad.off + 1, none⟩ = some (.int .u8 b1) ∧ W.heap[w.heap.size]? = some (.cells hzero 23 (0, 0)) ∧ Below w.heap.size w W
theorem S11.alloc {w W : World} {ad : Addr} {b1 : Int} (h : S11 w ad b1 W) (o : Obj) : S11 w ad b1 (W.alloc o) := ⟨cell_alloc h.1 o, blk_alloc h.2.1 o, below_alloc h.2.2 o⟩
theorem S11.below {w W W' : World} {ad : Addr} {b1 : Int} (h : S11 w ad b1 W) (hb : Below W.heap.size W W') : S11 w ad b1 W' := ⟨cell_keep h.1 hb, blk_below h.2.1 hb, below_step h.2.2 hb⟩
theorem far6 {W : World} {g b t : Nat} {cs : Array Value} (h : W.heap[b]? = some (.cells cs t (0, 0))) (hg : b < g) (v0 v1 v2 v3 v4 v5 : Value) :
    ((((((W.setCell ⟨g, 0, none⟩ v0).setCell ⟨g, 1, none⟩ v1).setCell ⟨g, 2, none⟩ v2).setCell ⟨g, 3, none⟩ v3).setCell ⟨g, 4, none⟩ v4).setCell ⟨g, 5, none⟩ v5).heap[b]? = some (.cells cs t (0, 0)) :=
  blk_far (blk_far (blk_far (blk_far (blk_far (blk_far h (Nat.ne_of_lt hg) _) (Nat.ne_of_lt hg) _) (Nat.ne_of_lt hg) _) (Nat.ne_of_lt hg) _) (Nat.ne_of_lt hg) _) (Nat.ne_of_lt hg) _
theorem S11.store {w W : World} {ad : Addr} {b1 : Int} {g : Nat} (h : S11 w ad b1 W) (hx : w.cell? ⟨ad.block, ad.off + 1, none⟩ = some (.int .u8 b1)) (hg : w.heap.size < g) (v0 v1 v2 v3 v4 v5 : Value) : S11 w ad b1 ((((((W.setCell ⟨g, 0, none⟩ v0).setCell ⟨g, 1, none⟩ v1).setCell ⟨g, 2, none⟩ v2).setCell ⟨g, 3, none⟩ v3).setCell ⟨g, 4, none⟩ v4).setCell ⟨g, 5, none⟩ v5) :=
  have hb := below6 h.2.2 (Nat.le_of_lt hg) v0 v1 v2 v3 v4 v5
  ⟨cell_keep hx hb, far6 h.2.1 hg _ _ _ _ _ _, hb⟩
theorem idx_blocks (c : Int) (h : 0 ≤ c ∧ c < 16) (W : World) : (Instr.index 54 (.agg #[.int .i64 0, .int .i64 192, .int .i64 576, .int .i64 1152, .int .i64 2304, .int .i64 4608, .int .i64 0, .int .i64 0, .int .i64 256, .int .i64 512, .int .i64 1024, .int .i64 2048, .int .i64 4096, .int .i64 8192, .int .i64 16384, .int .i64 32768]) (.int .i64 c)).run Try.prog W = .ok (.int .i64 (rd BLOCKS c)) W := by
  have : c = 0 ∨ c = 1 ∨ c = 2 ∨ c = 3 ∨ c = 4 ∨ c = 5 ∨ c = 6 ∨ c = 7 ∨ c = 8 ∨ c = 9 ∨ c = 10 ∨ c = 11 ∨ c = 12 ∨ c = 13 ∨ c = 14 ∨ c = 15 := by omega
  rcases this with rfl | rfl | rfl | rfl | rfl | rfl | rfl | rfl | rfl | rfl | rfl | rfl | rfl | rfl | rfl | rfl <;> exact rfl
theorem idx_rates (c : Int) (h : 0 ≤ c ∧ c < 16) (W : World) : (Instr.index 54 (.agg #[.int .i64 0, .int .i64 88200, .int .i64 176400, .int .i64 192000, .int .i64 8000, .int .i64 16000, .int .i64 22050, .int .i64 24000, .int .i64 32000, .int .i64 44100, .int .i64 48000, .int .i64 96000, .int .i64 0, .int .i64 0, .int .i64 0, .int .i64 0]) (.int .i64 c)).run Try.prog W = .ok (.int .i64 (rd RATES c)) W := by
  have : c = 0 ∨ c = 1 ∨ c = 2 ∨ c = 3 ∨ c = 4 ∨ c = 5 ∨ c = 6 ∨ c = 7 ∨ c = 8 ∨ c = 9 ∨ c = 10 ∨ c = 11 ∨ c = 12 ∨ c = 13 ∨ c = 14 ∨ c = 15 := by omega
  rcases this with rfl | rfl | rfl | rfl | rfl | rfl | rfl | rfl | rfl | rfl | rfl | rfl | rfl | rfl | rfl | rfl <;> exact rfl
theorem idx_depths (c : Int) (h : 0 ≤ c ∧ c < 8) (W : World) : (Instr.index 41 (.agg #[.int .i64 0, .int .i64 8, .int .i64 12, .int .i64 0, .int .i64 16, .int .i64 20, .int .i64 24, .int .i64 32]) (.int .i64 c)).run Try.prog W = .ok (.int .i64 (rd DEPTHS c)) W := by
  have : c = 0 ∨ c = 1 ∨ c = 2 ∨ c = 3 ∨ c = 4 ∨ c = 5 ∨ c = 6 ∨ c = 7 := by omega
  rcases this with rfl | rfl | rfl | rfl | rfl | rfl | rfl | rfl <;> exact rfl
abbrev THd := Int × Int × Int × Int × Int × Bool × Int × Int
def tHd (r : THd) : Array Value × Int × Int := (hcells r.1 r.2.1 r.2.2.1 r.2.2.2.1 r.2.2.2.2.1 r.2.2.2.2.2.1, r.2.2.2.2.2.2.1, r.2.2.2.2.2.2.2)
def blockOf (k : Nat) (l : List Int) (a : Nat) (x Bv : Int) : Option Int := if 0 < x then (head_whole.f k ((l.drop a).take x.toNat)).bind fun v => some (wrap64 (v + 1)) else some Bv
def rateOf (k : Nat) (l : List Int) (b : Nat) (y cr Rv : Int) : Option Int := if 0 < y then (head_whole.f k ((l.drop b).take y.toNat)).bind fun v => (head_scale.f cr).bind fun s => some (wrap64 (v * s)) else some Rv
def takeTail (k : Nat) (l : List Int) (n z Bv Rv cm Dv cb cr : Int) (V : Bool) : Option THd :=
  if 2147483648 ≤ n ∧ V = false then some (0, 0, 0, 0, 0, false, 0, 5) else (head_behind.f k cb cr).bind fun p =>
    if 0 ≤ p.1 ∧ p.1 ≤ 2 ∧ 0 ≤ p.2 ∧ p.2 ≤ 2 then
      if (l.length : Int) ≤ 4 + z + p.1 + p.2 then some (0, 0, 0, 0, 0, false, 0, 2) else (blockOf k l (4 + z).toNat p.1 Bv).bind fun B => (rateOf k l (4 + z + p.1).toNat p.2 cr Rv).bind fun R =>
        if B > 65535 then some (0, 0, 0, 0, 0, false, 0, 5) else (checks_Eight.f (l.take (4 + z + p.1 + p.2).toNat)).bind fun c =>
          if c ≠ rd l (4 + z + p.1 + p.2) then some (0, 0, 0, 0, 0, false, 0, 4) else some (B, R, cm, Dv, n, V, 4 + z + p.1 + p.2 + 1, 0)
    else none
theorem midC {w W : World} {ad : Addr} {l : List Int} (h : Kd.C (Kd.int .u8) w (some ad) l.length l) (hb : Below w.heap.size w W) (n m : Nat) (hn : n + m ≤ l.length) (hm : l.length ≤ 1000000) : Kd.C (Kd.int .u8) W (some (ad.add n)) ((l.drop n).take m).length ((l.drop n).take m) := C_mid (Kd.C_below h hb) n m hn hm
theorem mid_run {l : List Int} {ad : Addr} {cap : Nat} (hc : l.length ≤ cap) (a b : Nat) (h1 : a ≤ b) (h2 : b < l.length) (W : World) :
    (Instr.slice 25 (.slice (some ad) l.length cap) (some (.int .i64 (a : Int))) (some (.int .i64 (b : Int))) none).run Try.prog W = .ok (.slice (some (ad.add a)) ((l.drop a).take (b - a)).length (cap - a)) W := by
  obtain ⟨i, hi, hs⟩ := info5'
  have h := cut_mid (P := Try.prog) 25 5 .i64 .i64 Try.underlying25 hi 1 hs (some ad) l.length cap a b (by omega) (by omega) (by omega) hc W
  rw [h, List.length_take, List.length_drop, Nat.min_eq_left (by omega), if_neg (by omega)]
  simp
theorem to_run {l : List Int} {ad : Addr} {cap : Nat} (hc : l.length ≤ cap) (b : Nat) (h2 : b < l.length) (W : World) :
    (Instr.slice 25 (.slice (some ad) l.length cap) none (some (.int .i64 (b : Int))) none).run Try.prog W = .ok (.slice (some ad) (l.take b).length cap) W := by
  obtain ⟨i, hi, hs⟩ := info5'
  have h := cut_to (P := Try.prog) 25 5 .i64 Try.underlying25 hi (some ad) l.length cap b (by omega) (by omega) hc W
  rw [h, List.length_take, Nat.min_eq_left (by omega)]
  simp
theorem toC {w W : World} {ad : Addr} {l : List Int} (h : Kd.C (Kd.int .u8) w (some ad) l.length l) (hb : Below w.heap.size w W) (m : Nat) (hn : m ≤ l.length) (hm : l.length ≤ 1000000) : Kd.C (Kd.int .u8) W (some ad) (l.take m).length (l.take m) := by
  have h0 := midC h hb 0 m (by omega) hm
  rw [List.drop_zero, Addr.add_zero'] at h0
  exact h0
theorem atC {w W : World} {ad : Addr} {l : List Int} (h : Kd.C (Kd.int .u8) w (some ad) l.length l) (hb : Below w.heap.size w W) (i : Nat) (h0 : 0 < i) (hi : i < l.length) : W.cell? (ad.add i) = some (.int .u8 (rd l (i : Int))) := by
  obtain ⟨a1, e1, x1⟩ := Kd.at_int (Kd.C_below h hb) (i : Int) (by omega) (by omega)
  cases e1
  rw [Int.toNat_natCast] at x1
  exact x1
theorem w64 (n : Int) (h : -9223372036854775808 ≤ n ∧ n ≤ 9223372036854775807) : wrap64 n = n := by unfold wrap64; omega
theorem mid_ex {w : World} {ad : Addr} {l : List Int} {cap : Nat} (h : Kd.C (Kd.int .u8) w (some ad) l.length l) (hc : l.length ≤ cap) (hm : l.length ≤ 1000000) (a b : Nat) (x : Int) (h1 : a ≤ b) (h2 : b < l.length) (e : b - a = x.toNat) :
    ∃ (A : Option Addr) (lx : List Int) (cx : Nat), (l.drop a).take x.toNat = lx ∧ (∀ W : World, (Instr.slice 25 (.slice (some ad) l.length cap) (some (.int .i64 (a : Int))) (some (.int .i64 (b : Int))) none).run Try.prog W = .ok (.slice A lx.length cx) W) ∧
      (∀ W : World, Below w.heap.size w W → Kd.C (Kd.int .u8) W A lx.length lx) ∧ lx.length ≤ cx := by
  refine ⟨some (ad.add a), (l.drop a).take (b - a), cap - a, by rw [e], fun W => mid_run hc a b h1 h2 W, fun W hb => midC h hb a (b - a) (by omega) hm, ?_⟩
  rw [List.length_take, List.length_drop]
  omega
theorem to_ex {w : World} {ad : Addr} {l : List Int} {cap : Nat} (h : Kd.C (Kd.int .u8) w (some ad) l.length l) (hc : l.length ≤ cap) (hm : l.length ≤ 1000000) (b : Nat) (h2 : b < l.length) :
    ∃ (lx : List Int), l.take b = lx ∧ (∀ W : World, (Instr.slice 25 (.slice (some ad) l.length cap) none (some (.int .i64 (b : Int))) none).run Try.prog W = .ok (.slice (some ad) lx.length cap) W) ∧
      (∀ W : World, Below w.heap.size w W → Kd.C (Kd.int .u8) W (some ad) lx.length lx) ∧ lx.length ≤ cap := by
  refine ⟨l.take b, rfl, fun W => to_run hc b h2 W, fun W hb => toC h hb b (by omega) hm, ?_⟩
  rw [List.length_take]
  omega
theorem set0 {W : World} {g : Nat} {B R M D N : Int} {V : Bool} (h : W.heap[g]? = some (.cells (hcells B R M D N V) 23 (0, 0))) (x : Int) : (W.setCell ⟨g, 0, none⟩ (.int .i64 x)).heap[g]? = some (.cells (hcells x R M D N V) 23 (0, 0)) := blk_set h 0 _
theorem set1 {W : World} {g : Nat} {B R M D N : Int} {V : Bool} (h : W.heap[g]? = some (.cells (hcells B R M D N V) 23 (0, 0))) (x : Int) : (W.setCell ⟨g, 1, none⟩ (.int .i64 x)).heap[g]? = some (.cells (hcells B x M D N V) 23 (0, 0)) := blk_set h 1 _
theorem TW.set0 {w W : World} {g : Nat} {B R M D N : Int} {V : Bool} (h : TW w g (hcells B R M D N V) W) (x : Int) : TW w g (hcells x R M D N V) (W.setCell ⟨g, 0, none⟩ (.int .i64 x)) :=
  ⟨h.1, blk_set h.2.1 0 _, blk_far h.2.2.1 (Nat.ne_of_lt h.1) _, below_set h.2.2.2 (Nat.le_of_lt h.1)⟩
theorem TW.set1 {w W : World} {g : Nat} {B R M D N : Int} {V : Bool} (h : TW w g (hcells B R M D N V) W) (x : Int) : TW w g (hcells B x M D N V) (W.setCell ⟨g, 1, none⟩ (.int .i64 x)) :=
  ⟨h.1, blk_set h.2.1 1 _, blk_far h.2.2.1 (Nat.ne_of_lt h.1) _, below_set h.2.2.2 (Nat.le_of_lt h.1)⟩
theorem TW.drewN {w W : World} {g : Nat} {cs : Array Value} (h : TW w g cs W) (n : Nat) : TW w g cs (W.drewN n) := ⟨h.1, blk_drewN h.2.1 n, blk_drewN h.2.2.1 n, pw_below_drewN h.2.2.2 n⟩
theorem TW.drew {w W : World} {g : Nat} {cs : Array Value} (h : TW w g cs W) : TW w g cs W.drew := ⟨h.1, blk_drew h.2.1, blk_drew h.2.2.1, below_drew h.2.2.2⟩
theorem TW.below {w W W' : World} {g : Nat} {cs : Array Value} (h : TW w g cs W) (hb : Below W.heap.size W W') : TW w g cs W' := ⟨h.1, blk_below h.2.1 hb, blk_below h.2.2.1 hb, below_step h.2.2.2 hb⟩
theorem TW.b {w W : World} {g : Nat} {cs : Array Value} (h : TW w g cs W) : Below w.heap.size w W := h.2.2.2
set_option maxHeartbeats 8000000 in
set_option maxRecDepth 100000 in
theorem take_tail (k : Nat) (A : Option Addr) (l : List Int) (cap : Nat) (w : World) (n z : Int) (r : THd) (hr : Kd.C (Kd.int .u8) w A l.length l) (hc : l.length ≤ cap) (hm : l.length ≤ 1000000) (h4 : 4 ≤ l.length) (h0 : rd l 0 = 255) (h1 : Go.bits .andNot .u8 (rd l 1) 1 = 248) (q0 : ¬ bC l = 0) (q1 : ¬ rC l = 15) (q2 : ¬ mC l ≥ 11) (q3 : ¬ dC l = 3) (q4 : ¬ zC l = 1)
    (hbc : 0 ≤ bC l ∧ bC l < 16) (hrc : 0 ≤ rC l ∧ rC l < 16) (hdc : 0 ≤ dC l ∧ dC l < 8) (hz : 0 ≤ z ∧ z ≤ 1000000) (hd : number_Decode.f k (l.drop 4) = some (n, z, 0)) (ht : takeTail k l n z (rd BLOCKS (bC l)) (rd RATES (rC l)) (mC l) (rd DEPTHS (dC l)) (bC l) (rC l) (Go.bits .and .u8 (rd l 1) 1 == 1) = some r) : Calls Try.prog 18 #[.slice A l.length cap] w (TakePost w (tHd r)) := by
  obtain ⟨ad, rfl, x0, x1, x2, x3⟩ := at4 hr h4
  obtain ⟨A4, hcut, HC4⟩ := cut4 hr h4 hc hm
  have HD := Aside0.mk hd
  have HT := Aside0.mk ht
  have HZ := Aside0.mk hz
  clear ht hz
  have HC := Aside0.mk HC4
  have HL := Aside0.mk (show (l.drop 4).length ≤ cap - 4 by rw [List.length_drop]; omega)
  clear hd HC4
  generalize l.drop 4 = l4 at *
  have ix1 := idx_blocks (bC l) hbc
  have ix2 := idx_rates (rC l) hrc
  have ix3 := idx_depths (dC l) hdc
  generalize rd BLOCKS (bC l) = Bv at *
  generalize rd RATES (rC l) = Rv at *
  generalize rd DEPTHS (dC l) = Dv at *
  clear hbc hrc hdc
  have c1 : decide ((l.length : Int) < 4) = false := decide_eq_false (by omega)
  have c2 : decide (l.length < 4) = false := decide_eq_false (by omega)
  have i0 : (0 < l.length) = True := eq_true (by omega)
  have i1 : (1 < l.length) = True := eq_true (by omega)
  have i2 : (2 < l.length) = True := eq_true (by omega)
  have i3 : (3 < l.length) = True := eq_true (by omega)
  have j1 : ((1 : Int) < (l.length : Int)) = True := eq_true (by omega)
  have j2 : ((2 : Int) < (l.length : Int)) = True := eq_true (by omega)
  have j3 : ((3 : Int) < (l.length : Int)) = True := eq_true (by omega)
  have y0 := fun o => cell_alloc x0 o
  have y1 := fun o => cell_alloc x1 o
  have y3 := fun o => cell_drew (cell_alloc x3 o)
  rw [h0] at x0 y0
  have e1 : wrap64 (rd l 2 / 16) = bC l := rfl
  have e2 : wrap64 (Go.bits .and .u8 (rd l 2) 15) = rC l := rfl
  have e3 : wrap64 (rd l 3 / 16) = mC l := rfl
  have e4 : wrap64 (Go.bits .and .u8 (rd l 3 / 2) 7) = dC l := rfl
  have e5 : Go.bits .and .u8 (rd l 3) 1 = zC l := rfl
  generalize rd l 1 = b1 at *
  generalize rd l 2 = b2 at *
  generalize rd l 3 = b3 at *
  have f0 : (bC l == 0) = false := beq_eq_false_iff_ne.mpr q0
  have f1 : (rC l == 15) = false := beq_eq_false_iff_ne.mpr q1
  have f2 : decide (mC l ≥ 11) = false := decide_eq_false q2
  have f3 : (dC l == 3) = false := beq_eq_false_iff_ne.mpr q3
  have f4 : (zC l == 1) = false := beq_eq_false_iff_ne.mpr q4
  generalize bC l = cb at *
  generalize rC l = cr at *
  generalize mC l = cm at *
  generalize dC l = cd at *
  generalize zC l = cz at *
  clear q0 q1 q2 q3 q4
  have HR := Aside0.mk hr
  clear hr
  go_enter Try.func18, Try.ntmps18
  go_wp2
  have S2 := cell_drew (cell_alloc x2 (Obj.cells hzero 23 (0, 0)))
  have S3 := cell_drew (cell_alloc x3 (Obj.cells hzero 23 (0, 0)))
  go_region_held3 (fun W => W.cell? ⟨ad.block, ad.off + 2, none⟩ = some (.int .u8 b2) ∧ W.cell? ⟨ad.block, ad.off + 3, none⟩ = some (.int .u8 b3))
    (first | (go_keep; done) | (((try go_split_ands); (repeat' apply And.intro)) <;> first | assumption | exact cell_drew ‹_›))
    (fail)
  go_upto_region 11 with (first | (go_at_call 34; (with_reducible refine (number_Decode.calls k A4 (cap - 4) l4 n z 0 _ (Kd.C_drew (Kd.C_alloc HC.out _)) HL.out HD.out).mono ?_); rintro e' w' ⟨rfl, ⟨nd, rfl⟩⟩))
  have hW : ∀ m, ((w.alloc (Obj.cells hzero 23 (0, 0))).drewN m).cell? ⟨ad.block, ad.off + 1, none⟩ = some (.int .u8 b1) := fun m => y1 _
  have hB : ∀ m, ((w.alloc (Obj.cells hzero 23 (0, 0))).drewN m).heap[w.heap.size]? = some (.cells hzero 23 (0, 0)) := fun m => blk_drewN (heap_alloc_last w _) m
  go_cut [12] (fun s W => ∃ g, s = .pointer (some ⟨g, 0, none⟩) ∧ TW w g (hcells Bv Rv cm Dv n (Go.bits .and .u8 b1 1 == 1)) W)
  case first =>
    refine wp_region_noPanic ?_
    refine start_ (n := 19) (S := S11 w ad b1) (ds := []) #[false, false, false, false, false, false, false, false, false, false, false, false, false, false, false, false, false, false, false] (by kernel_rfl) rfl rfl ⟨cell_drew (hW _), blk_drew (hB _), below_drew (pw_below_drewN (below_alloc (Below.refl _ _) _) _)⟩ (fun hHeld => ?_)
    refine pure_ (i := 1) (N := some 88) (v := ?_) (a' := ?_) #[false, true, false, false, false, false, false, false, false, false, false, false, false, false, false, false, false, false, false] rfl rfl (by kernel_rfl) (fun _ _ _ h => h) (Or.inl ⟨by rfl, ?_⟩) ?_ ?_
    rotate_left
    · intro w'
      go_simp
      all_goals (with_reducible rfl)
    rotate_left
    · simp only [Act.put, List.setIfInBounds_toArray, List.set_cons_zero, List.set_cons_succ]
      rfl
    refine pure_ (i := 4) (N := some 91) (v := ?_) (a' := ?_) #[false, true, false, false, true, false, false, false, false, false, false, false, false, false, false, false, false, false, false] rfl rfl (by kernel_rfl) (fun _ _ _ h => h) (Or.inl ⟨by rfl, ?_⟩) ?_ ?_
    rotate_left
    · intro w'
      go_simp
      all_goals (with_reducible rfl)
    rotate_left
    · simp only [Act.put, List.setIfInBounds_toArray, List.set_cons_zero, List.set_cons_succ]
      rfl
    refine pure_ (i := 6) (N := some 93) (v := ?_) (a' := ?_) #[false, true, false, false, true, false, true, false, false, false, false, false, false, false, false, false, false, false, false] rfl rfl (by kernel_rfl) (fun _ _ _ h => h) (Or.inl ⟨by rfl, ?_⟩) ?_ ?_
    rotate_left
    · intro w'
      go_simp
      all_goals (with_reducible rfl)
    rotate_left
    · simp only [Act.put, List.setIfInBounds_toArray, List.set_cons_zero, List.set_cons_succ]
      rfl
    refine pure_ (i := 8) (N := some 95) (v := ?_) (a' := ?_) #[false, true, false, false, true, false, true, false, true, false, false, false, false, false, false, false, false, false, false] rfl rfl (by kernel_rfl) (fun _ _ _ h => h) (Or.inl ⟨by rfl, ?_⟩) ?_ ?_
    rotate_left
    · intro w'
      go_simp
      all_goals (with_reducible rfl)
    rotate_left
    · simp only [Act.put, List.setIfInBounds_toArray, List.set_cons_zero, List.set_cons_succ]
      rfl
    refine pure_ (i := 10) (N := some 97) (v := ?_) (a' := ?_) #[false, true, false, false, true, false, true, false, true, false, true, false, false, false, false, false, false, false, false] rfl rfl (by kernel_rfl) (fun _ _ _ h => h) (Or.inl ⟨by rfl, ?_⟩) ?_ ?_
    rotate_left
    · intro w'
      go_simp
      all_goals (with_reducible rfl)
    rotate_left
    · simp only [Act.put, List.setIfInBounds_toArray, List.set_cons_zero, List.set_cons_succ]
      rfl
    refine pure_ (i := 11) (N := some 98) (v := ?_) (a' := ?_) #[false, true, false, false, true, false, true, false, true, false, true, true, false, false, false, false, false, false, false] rfl rfl (by kernel_rfl) (fun _ _ _ h => h) (Or.inl ⟨by rfl, ?_⟩) ?_ ?_
    rotate_left
    · intro w'
      go_simp
      all_goals (with_reducible rfl)
    rotate_left
    · simp only [Act.put, List.setIfInBounds_toArray, List.set_cons_zero, List.set_cons_succ]
      rfl
    refine pure_ (i := 12) (N := some 99) (v := ?_) (a' := ?_) #[false, true, false, false, true, false, true, false, true, false, true, true, true, false, false, false, false, false, false] rfl rfl (by kernel_rfl) (fun _ _ _ h => h) (Or.inl ⟨by rfl, ?_⟩) ?_ ?_
    rotate_left
    · intro w'
      go_simp
      all_goals (with_reducible rfl)
    rotate_left
    · simp only [Act.put, List.setIfInBounds_toArray, List.set_cons_zero, List.set_cons_succ]
      rfl
    refine take_ (i := 13) (N := some 100) (v := ?_) (a' := ?_) #[false, true, false, false, true, false, true, false, true, false, true, true, true, true, false, false, false, false, false] rfl rfl (by kernel_rfl) (fun _ _ _ h => h) (Or.inl ⟨by rfl, ?_⟩) hHeld ?_ ?_
    rotate_left
    · intro w' s0
      have s1 := s0.1
      go_simp
      all_goals (with_reducible rfl)
    rotate_left
    · simp only [Act.put, List.setIfInBounds_toArray, List.set_cons_zero, List.set_cons_succ]
      rfl
    refine pure_ (i := 14) (N := some 101) (v := ?_) (a' := ?_) #[false, true, false, false, true, false, true, false, true, false, true, true, true, true, true, false, false, false, false] rfl rfl (by kernel_rfl) (fun _ _ _ h => h) (Or.inl ⟨by rfl, ?_⟩) ?_ ?_
    rotate_left
    · intro w'
      go_simp
      all_goals (with_reducible rfl)
    rotate_left
    · simp only [Act.put, List.setIfInBounds_toArray, List.set_cons_zero, List.set_cons_succ]
      rfl
    refine pure_ (i := 15) (N := some 102) (v := ?_) (a' := ?_) #[false, true, false, false, true, false, true, false, true, false, true, true, true, true, true, true, false, false, false] rfl rfl (by kernel_rfl) (fun _ _ _ h => h) (Or.inl ⟨by rfl, ?_⟩) ?_ ?_
    rotate_left
    · intro w'
      go_simp
      all_goals (with_reducible rfl)
    rotate_left
    · simp only [Act.put, List.setIfInBounds_toArray, List.set_cons_zero, List.set_cons_succ]
      rfl
    refine two_ (i := 0) (j := 17) (Ni := some 87) (Nj := some 12) #[true, true, false, false, true, false, true, false, true, false, true, true, true, true, true, true, false, false, false] #[false, true, false, false, true, false, true, false, true, false, true, true, true, true, true, true, false, true, false] rfl rfl rfl rfl (by kernel_rfl) (by decide) (by decide) (fun K hK => ?_) (fun K hK => ?_)
    · refine goes_ Try.func35 (by kernel_rfl) rfl #[] (by rfl) rfl rfl (by (try simp only [List.map_toArray, List.map_cons, List.map_nil]); first | done | rfl) ?_
      with_reducible refine (blocks_lit _).mono ?_
      rintro e w35 ⟨rfl, hb⟩
      refine ⟨_, rfl, ?_⟩
      have hH := S11.below hHeld hb
      clear hHeld hb
      refine hK.out _ _ hH (fun hHeld => ?_)
      clear hH
      clear hK K
      refine norm_ (a' := ?_) ?_ ?_
      rotate_left
      · show Act.put _ (some 87) _ = _
        simp only [Act.put, List.setIfInBounds_toArray, List.set_cons_zero, List.set_cons_succ]
        rfl
      refine pure_ (i := 2) (N := some 89) (v := ?_) (a' := ?_) #[true, true, true, false, true, false, true, false, true, false, true, true, true, true, true, true, false, false, false] rfl rfl (by kernel_rfl) (fun _ _ _ h => h) (Or.inl ⟨by rfl, ?_⟩) ?_ ?_
      rotate_left
      · intro w'
        go_simp
        all_goals (with_reducible rfl)
      rotate_left
      · simp only [Act.put, List.setIfInBounds_toArray, List.set_cons_zero, List.set_cons_succ]
        rfl
      refine two_ (i := 3) (j := 17) (Ni := some 90) (Nj := some 12) #[true, true, true, true, true, false, true, false, true, false, true, true, true, true, true, true, false, false, false] #[true, true, true, false, true, false, true, false, true, false, true, true, true, true, true, true, false, true, false] rfl rfl rfl rfl (by kernel_rfl) (by decide) (by decide) (fun K hK => ?_) (fun K hK => ?_)
      · refine goes_ Try.func36 (by kernel_rfl) rfl #[] (by rfl) rfl rfl (by (try simp only [List.map_toArray, List.map_cons, List.map_nil]); first | done | rfl) ?_
        with_reducible refine (rates_lit _).mono ?_
        rintro e w36 ⟨rfl, hb⟩
        refine ⟨_, rfl, ?_⟩
        have hH := S11.below hHeld hb
        clear hHeld hb
        refine hK.out _ _ hH (fun hHeld => ?_)
        clear hH
        clear hK K
        refine norm_ (a' := ?_) ?_ ?_
        rotate_left
        · show Act.put _ (some 90) _ = _
          simp only [Act.put, List.setIfInBounds_toArray, List.set_cons_zero, List.set_cons_succ]
          rfl
        refine pure_ (i := 5) (N := some 92) (v := ?_) (a' := ?_) #[true, true, true, true, true, true, true, false, true, false, true, true, true, true, true, true, false, false, false] rfl rfl (by kernel_rfl) (fun _ _ _ h => h) (Or.inl ⟨by rfl, ?_⟩) ?_ ?_
        rotate_left
        · intro w'
          go_simp
          all_goals (with_reducible rfl)
        rotate_left
        · simp only [Act.put, List.setIfInBounds_toArray, List.set_cons_zero, List.set_cons_succ]
          rfl
        refine two_ (i := 7) (j := 17) (Ni := some 94) (Nj := some 12) #[true, true, true, true, true, true, true, true, true, false, true, true, true, true, true, true, false, false, false] #[true, true, true, true, true, true, true, false, true, false, true, true, true, true, true, true, false, true, false] rfl rfl rfl rfl (by kernel_rfl) (by decide) (by decide) (fun K hK => ?_) (fun K hK => ?_)
        · refine goes_ Try.func22 (by kernel_rfl) rfl #[] (by rfl) rfl rfl (by (try simp only [List.map_toArray, List.map_cons, List.map_nil]); first | done | rfl) ?_
          with_reducible refine (depths_lit _).mono ?_
          rintro e w22 ⟨rfl, hb⟩
          refine ⟨_, rfl, ?_⟩
          have hH := S11.below hHeld hb
          clear hHeld hb
          refine hK.out _ _ hH (fun hHeld => ?_)
          clear hH
          clear hK K
          refine norm_ (a' := ?_) ?_ ?_
          rotate_left
          · show Act.put _ (some 94) _ = _
            simp only [Act.put, List.setIfInBounds_toArray, List.set_cons_zero, List.set_cons_succ]
            rfl
          refine pure_ (i := 9) (N := some 96) (v := ?_) (a' := ?_) #[true, true, true, true, true, true, true, true, true, true, true, true, true, true, true, true, false, false, false] rfl rfl (by kernel_rfl) (fun _ _ _ h => h) (Or.inl ⟨by rfl, ?_⟩) ?_ ?_
          rotate_left
          · intro w'
            go_simp
            all_goals (with_reducible rfl)
          rotate_left
          · simp only [Act.put, List.setIfInBounds_toArray, List.set_cons_zero, List.set_cons_succ]
            rfl
          refine pure_ (i := 16) (N := some 103) (v := ?_) (a' := ?_) #[true, true, true, true, true, true, true, true, true, true, true, true, true, true, true, true, true, false, false] rfl rfl (by kernel_rfl) (fun _ _ _ h => h) (Or.inl ⟨by rfl, ?_⟩) ?_ ?_
          rotate_left
          · intro w'
            go_simp
            all_goals (with_reducible rfl)
          rotate_left
          · simp only [Act.put, List.setIfInBounds_toArray, List.set_cons_zero, List.set_cons_succ]
            rfl
          refine one_ (i := 17) (N := some 12) #[true, true, true, true, true, true, true, true, true, true, true, true, true, true, true, true, true, true, false] rfl rfl (by kernel_rfl) (by decide) (fun K hK => ?_)
          go_simp
          have hH := S11.alloc hHeld (Obj.cells hzero 23 (0, 0))
          have hF := fresh_alloc hHeld.2.1
          have hP := hHeld
          clear hHeld
          refine hK.out _ _ hH (fun hHeld => ?_)
          clear hH
          clear hK K
          refine one_ (i := 18) (N := none) #[true, true, true, true, true, true, true, true, true, true, true, true, true, true, true, true, true, true, true] rfl rfl (by kernel_rfl) (by decide) (fun K hK => ?_)
          go_simp
          refine hK.out _ _ (S11.alloc hP _) (fun hHeld' => ?_)
          clear hK K
          refine done_ (by kernel_rfl) ?_
          refine NoPanic.normal ?_
          go_wp2_with fail
          go_meet
          exact ⟨_, rfl, hF.1, heap_alloc_last _ _, hHeld'.2.1, hHeld'.2.2⟩
        · go_simp
          have hH := S11.alloc hHeld (Obj.cells hzero 23 (0, 0))
          have hF := fresh_alloc hHeld.2.1
          have hP := hHeld
          clear hHeld
          refine hK.out _ _ hH (fun hHeld => ?_)
          clear hH
          clear hK K
          refine one_ (i := 7) (N := some 94) #[true, true, true, true, true, true, true, true, true, false, true, true, true, true, true, true, false, true, false] rfl rfl (by kernel_rfl) (by decide) (fun K hK => ?_)
          refine goes_ Try.func22 (by kernel_rfl) rfl #[] (by rfl) rfl rfl (by (try simp only [List.map_toArray, List.map_cons, List.map_nil]); first | done | rfl) ?_
          with_reducible refine (depths_lit _).mono ?_
          rintro e w22 ⟨rfl, hb⟩
          refine ⟨_, rfl, ?_⟩
          have hH := S11.below hHeld hb
          have hF7 := fresh_below hF hb
          clear hHeld hb
          refine hK.out _ _ hH (fun hHeld => ?_)
          clear hH
          clear hK K
          refine norm_ (a' := ?_) ?_ ?_
          rotate_left
          · show Act.put _ (some 94) _ = _
            simp only [Act.put, List.setIfInBounds_toArray, List.set_cons_zero, List.set_cons_succ]
            rfl
          refine pure_ (i := 9) (N := some 96) (v := ?_) (a' := ?_) #[true, true, true, true, true, true, true, true, true, true, true, true, true, true, true, true, false, true, false] rfl rfl (by kernel_rfl) (fun _ _ _ h => h) (Or.inl ⟨by rfl, ?_⟩) ?_ ?_
          rotate_left
          · intro w'
            go_simp
            all_goals (with_reducible rfl)
          rotate_left
          · simp only [Act.put, List.setIfInBounds_toArray, List.set_cons_zero, List.set_cons_succ]
            rfl
          refine pure_ (i := 16) (N := some 103) (v := ?_) (a' := ?_) #[true, true, true, true, true, true, true, true, true, true, true, true, true, true, true, true, true, true, false] rfl rfl (by kernel_rfl) (fun _ _ _ h => h) (Or.inl ⟨by rfl, ?_⟩) ?_ ?_
          rotate_left
          · intro w'
            go_simp
            all_goals (with_reducible rfl)
          rotate_left
          · simp only [Act.put, List.setIfInBounds_toArray, List.set_cons_zero, List.set_cons_succ]
            rfl
          refine one_ (i := 18) (N := none) #[true, true, true, true, true, true, true, true, true, true, true, true, true, true, true, true, true, true, true] rfl rfl (by kernel_rfl) (by decide) (fun K hK => ?_)
          have v0_ := blk_frozen hF7.2 0
          have v1_ := blk_frozen hF7.2 1
          have v2_ := blk_frozen hF7.2 2
          have v3_ := blk_frozen hF7.2 3
          have v4_ := blk_frozen hF7.2 4
          have v5_ := blk_frozen hF7.2 5
          obtain ⟨u0_, u1_, u2_, u3_, u4_, u5_⟩ := hcell hF7.2
          go_simp
          refine hK.out _ _ (S11.store hHeld x1 hF7.1 _ _ _ _ _ _) (fun hHeld' => ?_)
          clear hK K
          refine done_ (by kernel_rfl) ?_
          refine NoPanic.normal ?_
          go_wp2_with fail
          go_meet
          exact ⟨_, rfl, hF7.1, blk6 hF7.2 _ _ _ _ _ _, hHeld'.2.1, hHeld'.2.2⟩
      · go_simp
        have hH := S11.alloc hHeld (Obj.cells hzero 23 (0, 0))
        have hF := fresh_alloc hHeld.2.1
        have hP := hHeld
        clear hHeld
        refine hK.out _ _ hH (fun hHeld => ?_)
        clear hH
        clear hK K
        refine one_ (i := 3) (N := some 90) #[true, true, true, true, true, false, true, false, true, false, true, true, true, true, true, true, false, true, false] rfl rfl (by kernel_rfl) (by decide) (fun K hK => ?_)
        refine goes_ Try.func36 (by kernel_rfl) rfl #[] (by rfl) rfl rfl (by (try simp only [List.map_toArray, List.map_cons, List.map_nil]); first | done | rfl) ?_
        with_reducible refine (rates_lit _).mono ?_
        rintro e w36 ⟨rfl, hb⟩
        refine ⟨_, rfl, ?_⟩
        have hH := S11.below hHeld hb
        have hF3 := fresh_below hF hb
        clear hHeld hb
        refine hK.out _ _ hH (fun hHeld => ?_)
        clear hH
        clear hK K
        refine norm_ (a' := ?_) ?_ ?_
        rotate_left
        · show Act.put _ (some 90) _ = _
          simp only [Act.put, List.setIfInBounds_toArray, List.set_cons_zero, List.set_cons_succ]
          rfl
        refine pure_ (i := 5) (N := some 92) (v := ?_) (a' := ?_) #[true, true, true, true, true, true, true, false, true, false, true, true, true, true, true, true, false, true, false] rfl rfl (by kernel_rfl) (fun _ _ _ h => h) (Or.inl ⟨by rfl, ?_⟩) ?_ ?_
        rotate_left
        · intro w'
          go_simp
          all_goals (with_reducible rfl)
        rotate_left
        · simp only [Act.put, List.setIfInBounds_toArray, List.set_cons_zero, List.set_cons_succ]
          rfl
        refine one_ (i := 7) (N := some 94) #[true, true, true, true, true, true, true, true, true, false, true, true, true, true, true, true, false, true, false] rfl rfl (by kernel_rfl) (by decide) (fun K hK => ?_)
        refine goes_ Try.func22 (by kernel_rfl) rfl #[] (by rfl) rfl rfl (by (try simp only [List.map_toArray, List.map_cons, List.map_nil]); first | done | rfl) ?_
        with_reducible refine (depths_lit _).mono ?_
        rintro e w22 ⟨rfl, hb⟩
        refine ⟨_, rfl, ?_⟩
        have hH := S11.below hHeld hb
        have hF7 := fresh_below hF3 hb
        clear hHeld hb
        refine hK.out _ _ hH (fun hHeld => ?_)
        clear hH
        clear hK K
        refine norm_ (a' := ?_) ?_ ?_
        rotate_left
        · show Act.put _ (some 94) _ = _
          simp only [Act.put, List.setIfInBounds_toArray, List.set_cons_zero, List.set_cons_succ]
          rfl
        refine pure_ (i := 9) (N := some 96) (v := ?_) (a' := ?_) #[true, true, true, true, true, true, true, true, true, true, true, true, true, true, true, true, false, true, false] rfl rfl (by kernel_rfl) (fun _ _ _ h => h) (Or.inl ⟨by rfl, ?_⟩) ?_ ?_
        rotate_left
        · intro w'
          go_simp
          all_goals (with_reducible rfl)
        rotate_left
        · simp only [Act.put, List.setIfInBounds_toArray, List.set_cons_zero, List.set_cons_succ]
          rfl
        refine pure_ (i := 16) (N := some 103) (v := ?_) (a' := ?_) #[true, true, true, true, true, true, true, true, true, true, true, true, true, true, true, true, true, true, false] rfl rfl (by kernel_rfl) (fun _ _ _ h => h) (Or.inl ⟨by rfl, ?_⟩) ?_ ?_
        rotate_left
        · intro w'
          go_simp
          all_goals (with_reducible rfl)
        rotate_left
        · simp only [Act.put, List.setIfInBounds_toArray, List.set_cons_zero, List.set_cons_succ]
          rfl
        refine one_ (i := 18) (N := none) #[true, true, true, true, true, true, true, true, true, true, true, true, true, true, true, true, true, true, true] rfl rfl (by kernel_rfl) (by decide) (fun K hK => ?_)
        have v0_ := blk_frozen hF7.2 0
        have v1_ := blk_frozen hF7.2 1
        have v2_ := blk_frozen hF7.2 2
        have v3_ := blk_frozen hF7.2 3
        have v4_ := blk_frozen hF7.2 4
        have v5_ := blk_frozen hF7.2 5
        obtain ⟨u0_, u1_, u2_, u3_, u4_, u5_⟩ := hcell hF7.2
        go_simp
        refine hK.out _ _ (S11.store hHeld x1 hF7.1 _ _ _ _ _ _) (fun hHeld' => ?_)
        clear hK K
        refine done_ (by kernel_rfl) ?_
        refine NoPanic.normal ?_
        go_wp2_with fail
        go_meet
        exact ⟨_, rfl, hF7.1, blk6 hF7.2 _ _ _ _ _ _, hHeld'.2.1, hHeld'.2.2⟩
    · go_simp
      have hH := S11.alloc hHeld (Obj.cells hzero 23 (0, 0))
      have hF := fresh_first w (1 + nd)
      have hP := hHeld
      clear hHeld
      refine hK.out _ _ hH (fun hHeld => ?_)
      clear hH
      clear hK K
      refine one_ (i := 0) (N := some 87) #[true, true, false, false, true, false, true, false, true, false, true, true, true, true, true, true, false, true, false] rfl rfl (by kernel_rfl) (by decide) (fun K hK => ?_)
      refine goes_ Try.func35 (by kernel_rfl) rfl #[] (by rfl) rfl rfl (by (try simp only [List.map_toArray, List.map_cons, List.map_nil]); first | done | rfl) ?_
      with_reducible refine (blocks_lit _).mono ?_
      rintro e w35 ⟨rfl, hb⟩
      refine ⟨_, rfl, ?_⟩
      have hH := S11.below hHeld hb
      have hF0 := fresh_below hF hb
      clear hHeld hb
      refine hK.out _ _ hH (fun hHeld => ?_)
      clear hH
      clear hK K
      refine norm_ (a' := ?_) ?_ ?_
      rotate_left
      · show Act.put _ (some 87) _ = _
        simp only [Act.put, List.setIfInBounds_toArray, List.set_cons_zero, List.set_cons_succ]
        rfl
      refine pure_ (i := 2) (N := some 89) (v := ?_) (a' := ?_) #[true, true, true, false, true, false, true, false, true, false, true, true, true, true, true, true, false, true, false] rfl rfl (by kernel_rfl) (fun _ _ _ h => h) (Or.inl ⟨by rfl, ?_⟩) ?_ ?_
      rotate_left
      · intro w'
        go_simp
        all_goals (with_reducible rfl)
      rotate_left
      · simp only [Act.put, List.setIfInBounds_toArray, List.set_cons_zero, List.set_cons_succ]
        rfl
      refine one_ (i := 3) (N := some 90) #[true, true, true, true, true, false, true, false, true, false, true, true, true, true, true, true, false, true, false] rfl rfl (by kernel_rfl) (by decide) (fun K hK => ?_)
      refine goes_ Try.func36 (by kernel_rfl) rfl #[] (by rfl) rfl rfl (by (try simp only [List.map_toArray, List.map_cons, List.map_nil]); first | done | rfl) ?_
      with_reducible refine (rates_lit _).mono ?_
      rintro e w36 ⟨rfl, hb⟩
      refine ⟨_, rfl, ?_⟩
      have hH := S11.below hHeld hb
      have hF3 := fresh_below hF0 hb
      clear hHeld hb
      refine hK.out _ _ hH (fun hHeld => ?_)
      clear hH
      clear hK K
      refine norm_ (a' := ?_) ?_ ?_
      rotate_left
      · show Act.put _ (some 90) _ = _
        simp only [Act.put, List.setIfInBounds_toArray, List.set_cons_zero, List.set_cons_succ]
        rfl
      refine pure_ (i := 5) (N := some 92) (v := ?_) (a' := ?_) #[true, true, true, true, true, true, true, false, true, false, true, true, true, true, true, true, false, true, false] rfl rfl (by kernel_rfl) (fun _ _ _ h => h) (Or.inl ⟨by rfl, ?_⟩) ?_ ?_
      rotate_left
      · intro w'
        go_simp
        all_goals (with_reducible rfl)
      rotate_left
      · simp only [Act.put, List.setIfInBounds_toArray, List.set_cons_zero, List.set_cons_succ]
        rfl
      refine one_ (i := 7) (N := some 94) #[true, true, true, true, true, true, true, true, true, false, true, true, true, true, true, true, false, true, false] rfl rfl (by kernel_rfl) (by decide) (fun K hK => ?_)
      refine goes_ Try.func22 (by kernel_rfl) rfl #[] (by rfl) rfl rfl (by (try simp only [List.map_toArray, List.map_cons, List.map_nil]); first | done | rfl) ?_
      with_reducible refine (depths_lit _).mono ?_
      rintro e w22 ⟨rfl, hb⟩
      refine ⟨_, rfl, ?_⟩
      have hH := S11.below hHeld hb
      have hF7 := fresh_below hF3 hb
      clear hHeld hb
      refine hK.out _ _ hH (fun hHeld => ?_)
      clear hH
      clear hK K
      refine norm_ (a' := ?_) ?_ ?_
      rotate_left
      · show Act.put _ (some 94) _ = _
        simp only [Act.put, List.setIfInBounds_toArray, List.set_cons_zero, List.set_cons_succ]
        rfl
      refine pure_ (i := 9) (N := some 96) (v := ?_) (a' := ?_) #[true, true, true, true, true, true, true, true, true, true, true, true, true, true, true, true, false, true, false] rfl rfl (by kernel_rfl) (fun _ _ _ h => h) (Or.inl ⟨by rfl, ?_⟩) ?_ ?_
      rotate_left
      · intro w'
        go_simp
        all_goals (with_reducible rfl)
      rotate_left
      · simp only [Act.put, List.setIfInBounds_toArray, List.set_cons_zero, List.set_cons_succ]
        rfl
      refine pure_ (i := 16) (N := some 103) (v := ?_) (a' := ?_) #[true, true, true, true, true, true, true, true, true, true, true, true, true, true, true, true, true, true, false] rfl rfl (by kernel_rfl) (fun _ _ _ h => h) (Or.inl ⟨by rfl, ?_⟩) ?_ ?_
      rotate_left
      · intro w'
        go_simp
        all_goals (with_reducible rfl)
      rotate_left
      · simp only [Act.put, List.setIfInBounds_toArray, List.set_cons_zero, List.set_cons_succ]
        rfl
      refine one_ (i := 18) (N := none) #[true, true, true, true, true, true, true, true, true, true, true, true, true, true, true, true, true, true, true] rfl rfl (by kernel_rfl) (by decide) (fun K hK => ?_)
      have v0_ := blk_frozen hF7.2 0
      have v1_ := blk_frozen hF7.2 1
      have v2_ := blk_frozen hF7.2 2
      have v3_ := blk_frozen hF7.2 3
      have v4_ := blk_frozen hF7.2 4
      have v5_ := blk_frozen hF7.2 5
      obtain ⟨u0_, u1_, u2_, u3_, u4_, u5_⟩ := hcell hF7.2
      go_simp
      refine hK.out _ _ (S11.store hHeld x1 hF7.1 _ _ _ _ _ _) (fun hHeld' => ?_)
      clear hK K
      refine done_ (by kernel_rfl) ?_
      refine NoPanic.normal ?_
      go_wp2_with fail
      go_meet
      exact ⟨_, rfl, hF7.1, blk6 hF7.2 _ _ _ _ _ _, hHeld'.2.1, hHeld'.2.2⟩
  case rest =>
    obtain ⟨g, rfl, hg, hB12, hB2, hbl⟩ := hcut
    have HB12 := Aside0.mk hB12
    have HB2 := Aside0.mk hB2
    have HBL := Aside0.mk hbl
    have ht := HT.out
    have hz := HZ.out
    unfold takeTail at ht
    by_cases hw : 2147483648 ≤ n ∧ (Go.bits .and .u8 b1 1 == 1) = false
    · rw [if_pos hw] at ht
      cases ht
      clear hz hB12 hB2 hbl
      have g1 : decide (n ≥ 2147483648) = true := decide_eq_true hw.1
      have g2 := hw.2
      obtain ⟨u0_, u1_, u2_, u3_, u4_, u5_⟩ := hcell HB12.out
      obtain ⟨o0_, o1_, o2_, o3_, o4_, o5_⟩ := hcell HB2.out
      have v0_ := blk_frozen HB2.out 0
      have v1_ := blk_frozen HB2.out 1
      have v2_ := blk_frozen HB2.out 2
      have v3_ := blk_frozen HB2.out 3
      have v4_ := blk_frozen HB2.out 4
      have v5_ := blk_frozen HB2.out 5
      clear hw
      go_wp2
      exact take_ret rfl rfl rfl rfl (blk6 HB2.out _ _ _ _ _ _) rfl (below6 HBL.out (Nat.le_refl _) _ _ _ _ _ _)
    rw [if_neg hw] at ht
    obtain ⟨⟨x, y⟩, hbh, ht⟩ := Option.bind_eq_some_iff.mp ht
    have HBH := Aside0.mk hbh
    simp only at ht
    split at ht
    case isFalse => cases ht
    rename_i hxy
    obtain ⟨a, ha⟩ := Int.eq_ofNat_of_zero_le (show 0 ≤ 4 + z by omega)
    obtain ⟨b, hb⟩ := Int.eq_ofNat_of_zero_le (show 0 ≤ 4 + z + x by omega)
    obtain ⟨E, hE⟩ := Int.eq_ofNat_of_zero_le (show 0 ≤ 4 + z + x + y by omega)
    rw [hE, hb, ha] at ht
    simp only [Int.toNat_natCast] at ht
    have az : wrap64 (4 + z) = (a : Int) := by rw [ha]; exact w64 _ (by omega)
    have ax : wrap64 ((a : Int) + x) = (b : Int) := by rw [show (a : Int) + x = b by omega]; exact w64 _ (by omega)
    have ay : wrap64 ((b : Int) + y) = (E : Int) := by rw [show (b : Int) + y = E by omega]; exact w64 _ (by omega)
    have hab : a ≤ b ∧ b ≤ E ∧ 4 ≤ a ∧ (b : Int) = a + x ∧ (E : Int) = b + y := by omega
    clear hB12 hB2 hbl hbh
    go_upto_region 12 with fail
    go_cut [110] (fun s W => s = .bool false ∧ W = wc)
    case first =>
      obtain ⟨u0_, u1_, u2_, u3_, u4_, u5_⟩ := hcell HB12.out
      by_cases hn : 2147483648 ≤ n
      · have g1 : decide (n ≥ 2147483648) = true := decide_eq_true hn
        have g2 : (Go.bits .and .u8 b1 1 == 1) = true := by
          cases h : (Go.bits .and .u8 b1 1 == 1)
          · exact (hw ⟨hn, h⟩).elim
          · rfl
        clear hw hn ht hz hxy ha hb hE hab
        go_wp2_with fail
        go_meet
        exact ⟨rfl, rfl⟩
      · have g1 : decide (n ≥ 2147483648) = false := decide_eq_false hn
        clear hw hn ht hz hxy ha hb hE hab
        go_wp2_with fail
        go_meet
        exact ⟨rfl, rfl⟩
    case rest =>
    obtain ⟨rfl, rfl⟩ := hcut
    split at ht
    case isTrue =>
      rename_i hle
      cases ht
      have g3 : decide ((l.length : Int) ≤ (E : Int)) = true := decide_eq_true hle
      have g4 : decide (l.length ≤ E) = true := decide_eq_true (by omega)
      clear hw hz hxy ha hb hE hab hle
      obtain ⟨o0_, o1_, o2_, o3_, o4_, o5_⟩ := hcell HB2.out
      have v0_ := blk_frozen HB2.out 0
      have v1_ := blk_frozen HB2.out 1
      have v2_ := blk_frozen HB2.out 2
      have v3_ := blk_frozen HB2.out 3
      have v4_ := blk_frozen HB2.out 4
      have v5_ := blk_frozen HB2.out 5
      go_wp2_with (first | (go_at_call 37; (with_reducible refine (head_behind.calls k cb cr x y _ HBH.out).mono ?_); rintro e' w' ⟨rfl, ⟨nd', rfl⟩⟩))
      exact take_ret rfl rfl rfl rfl (blk6 (blk_drewN HB2.out _) _ _ _ _ _ _) rfl (below6 (pw_below_drewN HBL.out _) (Nat.le_refl _) _ _ _ _ _ _)
    rename_i hle
    obtain ⟨B, hB, ht⟩ := Option.bind_eq_some_iff.mp ht
    obtain ⟨R, hR, ht⟩ := Option.bind_eq_some_iff.mp ht
    have hlt : E < l.length := by omega
    have g3 : decide ((l.length : Int) ≤ (E : Int)) = false := decide_eq_false hle
    have g4 : decide (l.length ≤ E) = false := decide_eq_false (by omega)
    have HBk := Aside0.mk hB
    have HRt := Aside0.mk hR
    have HT2 := Aside0.mk ht
    have HAB := Aside0.mk hab
    have HXY := Aside0.mk hxy
    have HLT := Aside0.mk hlt
    have HTW : Aside0 (TW w g (hcells Bv Rv cm Dv n (Go.bits .and .u8 b1 1 == 1)) wc) := ⟨hg, HB12.out, HB2.out, HBL.out⟩
    clear ht hB hR hw hz ha hb hE hab hle hxy hlt HT HB12 HB2 HBL
    go_upto_if 131 with (first | (go_at_call 37; (with_reducible refine (head_behind.calls k cb cr x y _ HBH.out).mono ?_); rintro e' w' ⟨rfl, ⟨nd', rfl⟩⟩))
    have HTW2 := Aside0.mk (HTW.out.drewN nd')
    generalize wc.drewN nd' = W2 at *
    simp only [az, ax, ay]
    clear HTW
    go_cut [] (fun W => TW w g (hcells B Rv cm Dv n (Go.bits .and .u8 b1 1 == 1)) W)
    case first =>
      by_cases hx : 0 < x
      · have gx : decide (x > 0) = true := decide_eq_true hx
        have gx2 : decide (0 < x) = true := decide_eq_true hx
        have hB := HBk.out
        unfold blockOf at hB
        rw [if_pos hx] at hB
        obtain ⟨v, hv, hB⟩ := Option.bind_eq_some_iff.mp hB
        cases hB
        obtain ⟨Ax, lx, cx, hlx, hrun, hC, hcx⟩ := mid_ex HR.out hc hm a b x HAB.out.1 (by have := HAB.out; have := HLT.out; omega) (by have := HAB.out; omega)
        rw [hlx] at hv
        have HV := Aside0.mk hv
        have HC1 := Aside0.mk hC
        have HC2 := Aside0.mk hcx
        clear hv hC hcx hlx
        obtain ⟨u0_, u1_, u2_, u3_, u4_, u5_⟩ := hcell HTW2.out.2.1
        have v0_ := blk_frozen HTW2.out.2.1 0
        have HC3 := Aside0.mk (HC1.out _ HTW2.out.2.2.2)
        go_wp2_with (first | (go_at_call 38; (with_reducible refine (head_whole.calls k Ax cx lx v _ HC3.out HC2.out HV.out).mono ?_); rintro e' w' ⟨rfl, ⟨nd2, rfl⟩⟩))
        go_meet
        exact (HTW2.out.drewN nd2).set0 _
      · have gx : decide (x > 0) = false := decide_eq_false hx
        have gx2 : decide (0 < x) = false := decide_eq_false hx
        have hB := HBk.out
        unfold blockOf at hB
        rw [if_neg hx] at hB
        cases hB
        go_wp2_with fail
        go_meet
        exact HTW2.out
    case rest =>
    have HTW3 := Aside0.mk hcut
    clear hcut HTW2
    go_upto_if 142 with fail
    go_cut [] (fun W => TW w g (hcells B R cm Dv n (Go.bits .and .u8 b1 1 == 1)) W)
    case first =>
      by_cases hy : 0 < y
      · have gy : decide (y > 0) = true := decide_eq_true hy
        have gy2 : decide (0 < y) = true := decide_eq_true hy
        have hR := HRt.out
        unfold rateOf at hR
        rw [if_pos hy] at hR
        obtain ⟨v, hv, hR⟩ := Option.bind_eq_some_iff.mp hR
        obtain ⟨s, hs, hR⟩ := Option.bind_eq_some_iff.mp hR
        cases hR
        obtain ⟨Ax, lx, cx, hlx, hrun, hC, hcx⟩ := mid_ex HR.out hc hm b E y HAB.out.2.1 HLT.out (by have := HAB.out; omega)
        rw [hlx] at hv
        have HV := Aside0.mk hv
        have HS := Aside0.mk hs
        have HC1 := Aside0.mk hC
        have HC2 := Aside0.mk hcx
        clear hv hC hcx hlx hs
        obtain ⟨u0_, u1_, u2_, u3_, u4_, u5_⟩ := hcell HTW3.out.2.1
        have v1_ := blk_frozen HTW3.out.2.1 1
        have HC3 := Aside0.mk (HC1.out _ HTW3.out.2.2.2)
        go_wp2_with (first | (go_at_call 38; (with_reducible refine (head_whole.calls k Ax cx lx v _ HC3.out HC2.out HV.out).mono ?_); rintro e' w' ⟨rfl, ⟨nd2, rfl⟩⟩) | (go_at_call 39; (with_reducible refine (head_scale.calls cr s _ HS.out).mono ?_); rintro e' w' ⟨rfl, ⟨nd3, rfl⟩⟩))
        go_meet
        exact (HTW3.out.drewN _).set1 _
      · have gy : decide (y > 0) = false := decide_eq_false hy
        have gy2 : decide (0 < y) = false := decide_eq_false hy
        have hR := HRt.out
        unfold rateOf at hR
        rw [if_neg hy] at hR
        cases hR
        go_wp2_with fail
        go_meet
        exact HTW3.out
    case rest =>
    have HTW4 := Aside0.mk hcut
    clear hcut HTW3
    have ht := HT2.out
    split at ht
    · rename_i hbig
      cases ht
      have gb : decide (B > 65535) = true := decide_eq_true hbig
      obtain ⟨u0_, u1_, u2_, u3_, u4_, u5_⟩ := hcell HTW4.out.2.1
      obtain ⟨o0_, o1_, o2_, o3_, o4_, o5_⟩ := hcell HTW4.out.2.2.1
      have v0_ := blk_frozen HTW4.out.2.2.1 0
      have v1_ := blk_frozen HTW4.out.2.2.1 1
      have v2_ := blk_frozen HTW4.out.2.2.1 2
      have v3_ := blk_frozen HTW4.out.2.2.1 3
      have v4_ := blk_frozen HTW4.out.2.2.1 4
      have v5_ := blk_frozen HTW4.out.2.2.1 5
      clear hbig
      go_wp2
      exact take_ret rfl rfl rfl rfl (blk6 HTW4.out.2.2.1 _ _ _ _ _ _) rfl (below6 HTW4.out.2.2.2 (Nat.le_refl _) _ _ _ _ _ _)
    rename_i hbig
    have gb : decide (B > 65535) = false := decide_eq_false hbig
    clear hbig
    obtain ⟨c, hc8, ht⟩ := Option.bind_eq_some_iff.mp ht
    obtain ⟨lx, hlx, hrun, hC, hcx⟩ := to_ex HR.out hc hm E HLT.out
    rw [hlx] at hc8
    have H8 := Aside0.mk hc8
    have HC1 := Aside0.mk hC
    have HC2 := Aside0.mk hcx
    have HT3 := Aside0.mk ht
    clear hc8 hC hcx hlx ht
    have p0 : (E = 0) = False := eq_false (by have := HAB.out; omega)
    have p1 : (E < l.length) = True := eq_true HLT.out
    have p2 : ((E : Int) < (l.length : Int)) = True := eq_true (by have := HLT.out; omega)
    have xE := atC HR.out HTW4.out.2.2.2 E (by have := HAB.out; omega) HLT.out
    generalize rd l (E : Int) = q at *
    obtain ⟨u0_, u1_, u2_, u3_, u4_, u5_⟩ := hcell HTW4.out.2.1
    go_upto_region 25 with fail
    go_cut [159] (fun s W => s = .bool (c != q) ∧ TW w g (hcells B R cm Dv n (Go.bits .and .u8 b1 1 == 1)) W)
    case first =>
      go_region_held3 (fun W => W.cell? (ad.add E) = some (.int .u8 q) ∧ TW w g (hcells B R cm Dv n (Go.bits .and .u8 b1 1 == 1)) W)
        (((try go_split_ands); first | exact ⟨cell_drew xE, TW.drew HTW4.out⟩ | exact ⟨cell_keep ‹_› ‹_›, TW.below ‹_› ‹_›⟩ | exact ⟨‹_›, ‹_›⟩))
        (first | (go_at_call 20; go_split_ands; (have HC3 := Aside0.mk (HC1.out _ (TW.b ‹_›))); (with_reducible refine (checks_Eight.calls (some ad) cap lx c _ HC3.out HC2.out H8.out).mono ?_); rintro e' w8 ⟨rfl, hb⟩) | fail)
      all_goals go_wp2_with fail
      all_goals go_meet
      all_goals exact ⟨rfl, by go_split_ands; assumption⟩
    case rest =>
    obtain ⟨rfl, htw⟩ := hcut
    have HTW5 := Aside0.mk htw
    clear htw
    have ht := HT3.out
    obtain ⟨o0_, o1_, o2_, o3_, o4_, o5_⟩ := hcell HTW5.out.2.2.1
    have v0_ := blk_frozen HTW5.out.2.2.1 0
    have v1_ := blk_frozen HTW5.out.2.2.1 1
    have v2_ := blk_frozen HTW5.out.2.2.1 2
    have v3_ := blk_frozen HTW5.out.2.2.1 3
    have v4_ := blk_frozen HTW5.out.2.2.1 4
    have v5_ := blk_frozen HTW5.out.2.2.1 5
    clear u0_ u1_ u2_ u3_ u4_ u5_ xE
    split at ht
    · rename_i hcq
      cases ht
      have gq : (c != q) = true := bne_iff_ne.mpr hcq
      clear hcq
      go_wp2
      exact take_ret rfl rfl rfl rfl (blk6 HTW5.out.2.2.1 _ _ _ _ _ _) rfl (below6 HTW5.out.2.2.2 (Nat.le_refl _) _ _ _ _ _ _)
    · rename_i hcq
      cases ht
      have gq : (c != q) = false := by
        rw [show c = q from Classical.byContradiction hcq]
        exact bne_self_eq_false q
      clear hcq
      have aE : wrap64 ((E : Int) + 1) = (E : Int) + 1 := w64 _ (by have := HLT.out; omega)
      obtain ⟨u0_, u1_, u2_, u3_, u4_, u5_⟩ := hcell HTW5.out.2.1
      go_wp2
      exact take_ret rfl rfl (congrArg (Value.int .i64) aE) rfl (blk6 HTW5.out.2.2.1 _ _ _ _ _ _) rfl (below6 HTW5.out.2.2.2 (Nat.le_refl _) _ _ _ _ _ _)
def takeZ (e : Int) : THd := (0, 0, 0, 0, 0, false, 0, e)
def head_Take.f (k : Nat) (l : List Int) : Option THd :=
  if l.length ≤ 1000000 then
    if l.length < 4 then some (takeZ 2)
    else if rd l 0 = 255 ∧ Go.bits .andNot .u8 (rd l 1) 1 = 248 then
      if bC l = 0 ∨ rC l = 15 ∨ mC l ≥ 11 ∨ dC l = 3 ∨ zC l = 1 then some (takeZ 5)
      else (number_Decode.f k (l.drop 4)).bind fun p =>
        if p.2.2 = 0 then
          if (0 ≤ bC l ∧ bC l < 16) ∧ (0 ≤ rC l ∧ rC l < 16) ∧ (0 ≤ dC l ∧ dC l < 8) ∧ 0 ≤ p.2.1 ∧ p.2.1 ≤ 1000000 then
            takeTail k l p.1 p.2.1 (rd BLOCKS (bC l)) (rd RATES (rC l)) (mC l) (rd DEPTHS (dC l)) (bC l) (rC l) (Go.bits .and .u8 (rd l 1) 1 == 1)
          else none
        else some (takeZ p.2.2)
    else some (takeZ 9)
  else none
theorem leO_bind {α β : Type} {x y : Option α} {f g : α → Option β} (h : LeO x y) (hf : ∀ a, LeO (f a) (g a)) : LeO (x.bind f) (y.bind g) := by
  intro r hr
  obtain ⟨a, h1, h2⟩ := Option.bind_eq_some_iff.mp hr
  rw [h a h1, Option.bind_some]
  exact hf a r h2
theorem leO_self {α : Type} {x : Option α} : LeO x x := fun _ h => h
theorem leO_if {α : Type} {c : Prop} [Decidable c] {x y x' y' : Option α} (h1 : LeO x x') (h2 : LeO y y') : LeO (if c then x else y) (if c then x' else y') := by
  split
  · exact h1
  · exact h2
theorem blockOf_mono (k : Nat) (l : List Int) (a : Nat) (x Bv : Int) : LeO (blockOf k l a x Bv) (blockOf (k + 1) l a x Bv) := leO_if (leO_bind (head_whole.mono _ _) fun _ => leO_self) leO_self
theorem rateOf_mono (k : Nat) (l : List Int) (b : Nat) (y cr Rv : Int) : LeO (rateOf k l b y cr Rv) (rateOf (k + 1) l b y cr Rv) := leO_if (leO_bind (head_whole.mono _ _) fun _ => leO_self) leO_self
theorem takeTail_mono (k : Nat) (l : List Int) (n z Bv Rv cm Dv cb cr : Int) (V : Bool) : LeO (takeTail k l n z Bv Rv cm Dv cb cr V) (takeTail (k + 1) l n z Bv Rv cm Dv cb cr V) :=
  leO_if leO_self (leO_bind (head_behind.mono _ _ _) fun _ => leO_if (leO_if leO_self (leO_bind (blockOf_mono _ _ _ _ _) fun _ => leO_bind (rateOf_mono _ _ _ _ _ _) fun _ => leO_self)) leO_self)
theorem head_Take.mono : ∀ a0 k, LeO (head_Take.f k a0) (head_Take.f (k + 1) a0) := fun _ _ =>
  leO_if (leO_if leO_self (leO_if (leO_if leO_self (leO_bind (number_Decode.mono _ _) fun _ => leO_if (leO_if (takeTail_mono _ _ _ _ _ _ _ _ _ _ _) leO_self) leO_self)) leO_self)) leO_self
theorem head_Take.post (k : Nat) (A0 : Option Addr) (c0 : Nat) (l : List Int) (r : THd) (w : World) (hr0 : Kd.C (Kd.int .u8) w A0 l.length l) (hc0 : l.length ≤ c0) (h : head_Take.f k l = some r) :
    Calls Try.prog 18 #[.slice A0 l.length c0] w (TakePost w (tHd r)) := by
  unfold head_Take.f at h
  split at h
  case isFalse => cases h
  rename_i hm
  split at h
  case isTrue =>
    rename_i h1
    cases h
    exact take_short A0 l c0 w h1
  rename_i h4
  have h4 : 4 ≤ l.length := by omega
  split at h
  case isFalse =>
    rename_i h1
    cases h
    by_cases h0 : rd l 0 = 255
    · exact take_magic2 A0 l c0 w hr0 h4 h0 (fun e => h1 ⟨h0, e⟩)
    · exact take_magic1 A0 l c0 w hr0 h4 h0
  rename_i h1
  split at h
  case isTrue =>
    rename_i hq
    cases h
    by_cases q0 : bC l = 0
    · exact take_code0 A0 l c0 w hr0 h4 h1.1 h1.2 q0
    by_cases q1 : rC l = 15
    · exact take_code1 A0 l c0 w hr0 h4 h1.1 h1.2 q0 q1
    by_cases q2 : mC l ≥ 11
    · exact take_code2 A0 l c0 w hr0 h4 h1.1 h1.2 q0 q1 q2
    by_cases q3 : dC l = 3
    · exact take_code3 A0 l c0 w hr0 h4 h1.1 h1.2 q0 q1 q2 q3
    exact take_code4 A0 l c0 w hr0 h4 h1.1 h1.2 q0 q1 q2 q3 (by rcases hq with h | h | h | h | h <;> first | exact h | (exact absurd h ‹_›))
  rename_i hq
  have q0 : ¬ bC l = 0 := fun e => hq (.inl e)
  have q1 : ¬ rC l = 15 := fun e => hq (.inr (.inl e))
  have q2 : ¬ mC l ≥ 11 := fun e => hq (.inr (.inr (.inl e)))
  have q3 : ¬ dC l = 3 := fun e => hq (.inr (.inr (.inr (.inl e))))
  have q4 : ¬ zC l = 1 := fun e => hq (.inr (.inr (.inr (.inr e))))
  obtain ⟨⟨n, z, e⟩, hd, h⟩ := Option.bind_eq_some_iff.mp h
  simp only at h
  split at h
  case isFalse =>
    rename_i he
    cases h
    exact take_dec k A0 l c0 w n z e hr0 hc0 hm h4 h1.1 h1.2 q0 q1 q2 q3 q4 hd he
  rename_i he
  subst he
  split at h
  case isFalse => cases h
  rename_i hg
  exact take_tail k A0 l c0 w n z r hr0 hc0 hm h4 h1.1 h1.2 q0 q1 q2 q3 q4 hg.1 hg.2.1 hg.2.2.1 hg.2.2.2 hd h
theorem head_Take.calls (k : Nat) (A0 : Option Addr) (c0 : Nat) (l0 : List Int) (r1 r2 r3 r4 r5 : Int) (r6 : Bool) (r7 r8 : Int) (w : World) (hr0 : Kd.C (Kd.int .u8) w A0 l0.length l0) (hc0 : l0.length ≤ c0) (h : head_Take.f k l0 = some (r1, r2, r3, r4, r5, r6, r7, r8)) :
    Calls Try.prog 18 #[.slice A0 l0.length c0] w fun e w' => e = .returned (.tuple #[.agg #[.int .i64 r1, .int .i64 r2, .int .i64 r3, .int .i64 r4, .int .i64 r5, .bool r6], .int .i64 r7, .int .i64 r8]) ∧ Below w.heap.size w w' :=
  (head_Take.post k A0 c0 l0 _ w hr0 hc0 h).mono fun _ _ h => h
end Go.Proofs.Ytbohlcccdcilkaa.H
