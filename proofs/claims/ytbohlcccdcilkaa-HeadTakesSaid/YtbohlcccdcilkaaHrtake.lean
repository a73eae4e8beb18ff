/- The document's header that bytes begin with (serinetteref17.Take), as a plain function, with the proofs that the program's calls come to it. For any bytes. -/
import Derived.Test.YtbohlcccdcilkaaProg
import Derived.Below
import Derived.Deep.Draws
import Derived.Deep.AppendLies
import Derived.Maps.AppendAt
import Derived.OwnWalk
import Derived.Laws.BytesArg
import Derived.Laws.MakeOwn
import Derived.Laws.OwnMore
import Derived.Deep.OwnRows
import Derived.Tactics
import Derived.Lib.ConvBytes
import Derived.Laws.Slices
import Derived.WalkKit
import Derived.KernelRfl
import Derived.RowKit3
import Derived.Deep.LoopGhost
import Derived.Deep.QuietTactic
import Derived.BigQuiet
import Derived.WideLaws
import Derived.Deep.DeepCutAuto
import Derived.Deep.CutBlock
import Derived.Deep.RegionHeld3
import Derived.Laws.Rows
import Derived.Lib.AppendStr
import Derived.ArgAppend
import Derived.Laws.IdiomCopy
import Derived.OrdersHeld
import Derived.Laws.BitsLemmas
import Derived.RowKit
import Derived.Test.YtbohlcccdcilkaaWWords
import Derived.Test.YtbohlcccdcilkaaWLast
import Derived.Test.YtbohlcccdcilkaaWTab
import Derived.Test.YtbohlcccdcilkaaWFour
import Derived.Test.YtbohlcccdcilkaaWQPut
import Derived.Test.YtbohlcccdcilkaaWApart
import Derived.Test.YtbohlcccdcilkaaWArr
import Derived.Test.YtbohlcccdcilkaaWZeros
import Derived.Test.YtbohlcccdcilkaaWFoot
import Derived.Test.YtbohlcccdcilkaaWKept
import Derived.Test.YtbohlcccdcilkaaWShare
import Derived.Test.YtbohlcccdcilkaaWN
import Derived.Test.YtbohlcccdcilkaaWFootNe
import Derived.Test.YtbohlcccdcilkaaWAt
import Derived.Test.YtbohlcccdcilkaaWEqStruct
import Derived.Test.YtbohlcccdcilkaaWRepsOne
import Derived.Test.YtbohlcccdcilkaaWInv
import Derived.Test.YtbohlcccdcilkaaWInvWords
import Derived.Test.YtbohlcccdcilkaaWGuard
import Derived.Test.YtbohlcccdcilkaaWNEv
import Derived.Test.YtbohlcccdcilkaaWMore
import Derived.Test.YtbohlcccdcilkaaHpre3
namespace Go.Proofs.Ytbohlcccdcilkaa.H
open Go.RowKit Go.Proofs.YtbohlcccdcilkaaW.PrintWords Go.Proofs.YtbohlcccdcilkaaW.PrintLast Go.Proofs.YtbohlcccdcilkaaW.PrintMore
attribute [local go_sem] max2_int min2_int max_two min_two max_three min_three max_four min_four   -- for this text's walks alone
set_option linter.unusedVariables false
set_option linter.unusedSimpArgs false
theorem rtake_ret {w W : World} {r : Array Value × Int × Int} {a : Act} {t : TypeId} {fr : Nat × Nat} (hd : a.defers = []) (hp : a.tmps.getD 2 undef = .pointer (some ⟨w.heap.size, 0, none⟩)) (h3 : a.tmps.getD 3 undef = .int .i64 r.2.1) (h4 : a.tmps.getD 4 undef = .int .i64 r.2.2)
    (hg : W.heap[w.heap.size]? = some (.cells r.1 t fr)) (hs : r.1.size = 6) (hb : Below w.heap.size w W) : bodyPost Try.prog Try.f19 (TakePost w r) .ret a W :=
  bodyPost_ret (results_c1t2 rfl _ _ w.heap.size t r.1 fr _ _ _ hp h3 h4 hg Try.underlying23 rfl (by rw [hs]; exact size23)) hd ⟨rfl, hb⟩
abbrev Zb : Obj := .cells hzero 23 (0, 0)
theorem zz_blk (w : World) : ((w.alloc Zb).alloc Zb).heap[w.heap.size]? = some Zb := blk_alloc (heap_alloc_last w _) _
theorem zz_below (w : World) : Below w.heap.size w ((w.alloc Zb).alloc Zb) := below_alloc (below_alloc (Below.refl _ _) _) _
set_option maxHeartbeats 8000000 in
set_option maxRecDepth 100000 in
theorem rtake_short (A : Option Addr) (l : List Int) (cap : Nat) (w : World) (h1 : l.length < 4) : Calls Try.prog 19 #[.slice A l.length cap] w (TakePost w (hzero, 0, 2)) := by
  have c1 : decide ((l.length : Int) < 4) = true := decide_eq_true (by omega)
  have c2 : decide (l.length < 4) = true := decide_eq_true h1
  go_enter Try.func19, Try.ntmps19
  go_wp2
  exact rtake_ret rfl rfl rfl rfl (zz_blk w) rfl (zz_below w)
set_option maxHeartbeats 8000000 in
set_option maxRecDepth 100000 in
theorem rtake_magic1 (A : Option Addr) (l : List Int) (cap : Nat) (w : World) (hr : Kd.C (Kd.int .u8) w A l.length l) (h4 : 4 ≤ l.length) (h1 : rd l 0 ≠ 255) : Calls Try.prog 19 #[.slice A l.length cap] w (TakePost w (hzero, 0, 9)) := by
  obtain ⟨ad, rfl, x0, x1, x2, x3⟩ := at4 hr h4
  have c1 : decide ((l.length : Int) < 4) = false := decide_eq_false (by omega)
  have c2 : decide (l.length < 4) = false := decide_eq_false (by omega)
  have i0 : (0 < l.length) = True := eq_true (by omega)
  have i1 : (1 < l.length) = True := eq_true (by omega)
  have c3 : (rd l 0 != 255) = true := bne_iff_ne.mpr h1
  have y0 := fun o o' => cell_alloc (cell_alloc x0 o) o'
  have y1 := fun o o' => cell_alloc (cell_alloc x1 o) o'
  generalize rd l 0 = b0 at *
  clear hr h1
  go_enter Try.func19, Try.ntmps19
  go_wp2
  exact rtake_ret rfl rfl rfl rfl (zz_blk w) rfl (zz_below w)
set_option maxHeartbeats 8000000 in
set_option maxRecDepth 100000 in
theorem rtake_magic2 (A : Option Addr) (l : List Int) (cap : Nat) (w : World) (hr : Kd.C (Kd.int .u8) w A l.length l) (h4 : 4 ≤ l.length) (h0 : rd l 0 = 255) (h1 : ¬ (rd l 1 = 248 ∨ rd l 1 = 249)) : Calls Try.prog 19 #[.slice A l.length cap] w (TakePost w (hzero, 0, 9)) := by
  obtain ⟨ad, rfl, x0, x1, x2, x3⟩ := at4 hr h4
  have c1 : decide ((l.length : Int) < 4) = false := decide_eq_false (by omega)
  have c2 : decide (l.length < 4) = false := decide_eq_false (by omega)
  have i0 : (0 < l.length) = True := eq_true (by omega)
  have i1 : (1 < l.length) = True := eq_true (by omega)
  have c3 : (rd l 1 != 248) = true := bne_iff_ne.mpr fun e => h1 (.inl e)
  have c4 : (rd l 1 != 249) = true := bne_iff_ne.mpr fun e => h1 (.inr e)
  have y0 := fun o o' => cell_alloc (cell_alloc x0 o) o'
  have y1 := fun o o' => cell_alloc (cell_alloc x1 o) o'
  rw [h0] at x0 y0
  generalize rd l 1 = b1 at *
  clear hr h1
  go_enter Try.func19, Try.ntmps19
  go_wp2
  exact rtake_ret rfl rfl rfl rfl (zz_blk w) rfl (zz_below w)
/-! The kit's laws on a region that draws, under a condition on the world that may grow on the way. -/
section
variable {P : Program} {ops : Array Oper} {Q : Exit → Act → World → Prop} {md : Region.Mode} {S : World → Prop}
theorem mono_H {S2 : World → Prop} (hs : ∀ w, S2 w → S w) : ∀ (fuel : Nat) (l : Array Bool) (a : Act) (w : World), wpAnyH P md ops Q S2 fuel l a w → wpAnyH P md ops Q S fuel l a w
  | 0, _, _, _, h => h
  | fuel + 1, _, _, _, h => ⟨h.1, fun i hi => wpOp_mono (fun a' w' h' => ⟨hs _ h'.1, mono_H hs fuel _ a' w' h'.2⟩) (h.2 i hi)⟩
theorem strH {S2 : World → Prop} {fuel : Nat} {l : Array Bool} {a : Act} {w : World} (hs : ∀ w, S2 w → S w) (h : wpAnyH P md ops Q S2 fuel l a w) : wpAnyH P md ops Q S fuel l a w := mono_H hs _ _ _ _ h
theorem startH {id n : Nat} {a : Act} {w : World} (l : Array Bool) (hm : P.follows .mixedOrders = true) (hn : ops.size = n) (hl : Array.replicate n false = l) (hS : S w.drew)
    (h : S w.drew → wpAnyH P .any ops Q S n l a w.drew) : (Code.region id ops true).wp P Q a w := by
  subst hn
  subst hl
  exact wp_region_held_drew hm hS h
theorem takeH {i : Nat} {N : Option Tmp} {oi : Oper} {v : Value} {fuel : Nat} {l : Array Bool} {a : Act} {w : World} (l' : Array Bool) (hi : ops[i]? = some oi) (hN : oi.dst = N)
    (hc : (Region.noSelect ops && Region.free md ops l i && (Region.ready md ops l).contains i && (l.setIfInBounds i true == l')) = true)
    (hQ : ∀ c a w, Q (.panic c) (a.put oi.dst v) w → Q (.panic c) a w) (hy : YieldsIf P ops S oi v a) (hS : S w) {a' : Act} (ha : a.put N v = a')
    (h : wpAnyH P md ops Q S fuel l' a' w) : wpAnyH P md ops Q S (fuel + 1) l a w := by
  subst ha
  subst hN
  simp only [Bool.and_eq_true, beq_iff_eq] at hc
  obtain ⟨⟨⟨h1, h2⟩, h3⟩, h4⟩ := hc
  subst h4
  exact wpAnyH_take hi h1 h2 h3 hQ hy hS h
theorem oneH {i : Nat} {N : Option Tmp} {oi : Oper} {fuel : Nat} {l : Array Bool} {a : Act} {w : World} (l' : Array Bool) (hi : ops[i]? = some oi) (hN : oi.dst = N) (hc : ((Region.ready md ops l == [i]) && (l.setIfInBounds i true == l')) = true)
    (h : ∀ K : Act → World → Prop, Shut (∀ a' w', S w' → (S w' → wpAnyH P md ops Q S fuel l' a' w') → K a' w') → if Region.wanted oi (yielded ops a.tmps) = true then Oper.wp P oi a w K Q else K (a.put N undef) w) :
    wpAnyH P md ops Q S (fuel + 1) l a w := by
  subst hN
  simp only [Bool.and_eq_true, beq_iff_eq] at hc
  obtain ⟨h1, h2⟩ := hc
  subst h2
  exact wpAnyH_ready h1 (by simp) (AllReadyH.cons hi (fun K hK => h K hK) AllReadyH.nil)
theorem twoH {i j : Nat} {Ni Nj : Option Tmp} {oi oj : Oper} {fuel : Nat} {l : Array Bool} {a : Act} {w : World} (li lj : Array Bool) (hi : ops[i]? = some oi) (hj : ops[j]? = some oj) (hNi : oi.dst = Ni) (hNj : oj.dst = Nj)
    (hc : (Region.ready md ops l == [i, j] && l.setIfInBounds i true == li && l.setIfInBounds j true == lj) = true)
    (h1 : ∀ K : Act → World → Prop, Shut (∀ a' w', S w' → (S w' → wpAnyH P md ops Q S fuel li a' w') → K a' w') → if Region.wanted oi (yielded ops a.tmps) = true then Oper.wp P oi a w K Q else K (a.put Ni undef) w)
    (h2 : ∀ K : Act → World → Prop, Shut (∀ a' w', S w' → (S w' → wpAnyH P md ops Q S fuel lj a' w') → K a' w') → if Region.wanted oj (yielded ops a.tmps) = true then Oper.wp P oj a w K Q else K (a.put Nj undef) w) :
    wpAnyH P md ops Q S (fuel + 1) l a w := by
  subst hNi
  subst hNj
  simp only [Bool.and_eq_true, beq_iff_eq] at hc
  obtain ⟨⟨h3, h4⟩, h5⟩ := hc
  subst h4
  subst h5
  exact wpAnyH_ready h3 (by simp) (AllReadyH.cons hi (fun K hK => h1 K hK) (AllReadyH.cons hj (fun K hK => h2 K hK) AllReadyH.nil))
theorem doneH {l : Array Bool} {a : Act} {w : World} {n : Nat} (hr : (Region.ready md ops l == []) = true) (h : Q .normal a w) : wpAnyH P md ops Q S n l a w := wpAnyH_done (by simpa using hr) h n
theorem normH {fuel : Nat} {l : Array Bool} {a a' : Act} {w : World} (ha : a = a') (h : wpAnyH P md ops Q S fuel l a' w) : wpAnyH P md ops Q S fuel l a w := by
  subst ha
  exact h
end
/-- The two blocks of zeros, and what is new. -/
def RT (w : World) (g5 : Nat) (W : World) : Prop := W.heap[w.heap.size]? = some (.cells hzero 23 (0, 0)) ∧ W.heap[g5]? = some (.cells hzero 23 (0, 0)) ∧ w.heap.size < g5 ∧ Below w.heap.size w W
theorem RT.alloc {w W : World} {g5 : Nat} (h : RT w g5 W) (o : Obj) : RT w g5 (W.alloc o) := ⟨blk_alloc h.1 o, blk_alloc h.2.1 o, h.2.2.1, below_alloc h.2.2.2 o⟩
theorem RT.drew {w W : World} {g5 : Nat} (h : RT w g5 W) : RT w g5 W.drew := ⟨blk_drew h.1, blk_drew h.2.1, h.2.2.1, below_drew h.2.2.2⟩
theorem RT.below {w W W' : World} {g5 : Nat} (h : RT w g5 W) (hb : Below W.heap.size W W') : RT w g5 W' := ⟨blk_below h.1 hb, blk_below h.2.1 hb, h.2.2.1, below_step h.2.2.2 hb⟩
theorem RT.make (w : World) : RT w (w.heap.size + 1) ((w.alloc Zb).alloc Zb) := ⟨zz_blk w, blk_second w _ _, Nat.lt_succ_self _, zz_below w⟩
def Fr (g5 : Nat) (W : World) (g : Nat) : Prop := g5 < g ∧ W.heap[g]? = some (.cells hzero 23 (0, 0))
theorem fr_new {w W : World} {g5 : Nat} (h : RT w g5 W) : Fr g5 (W.alloc (Obj.cells hzero 23 (0, 0))) W.heap.size := ⟨blk_lt h.2.1, heap_alloc_last W _⟩
theorem fr_below {g5 : Nat} {X w1 : World} {g : Nat} (h : Fr g5 X g) (hb : Below X.heap.size X w1) : Fr g5 w1 g := ⟨h.1, blk_below h.2 hb⟩
def S15 (w : World) (g5 : Nat) (cs : List (Addr × Value)) (W : World) : Prop := RT w g5 W ∧ ∀ p ∈ cs, W.cell? p.1 = some p.2
theorem S15.hd {w W : World} {g5 : Nat} {cs : List (Addr × Value)} {a : Addr} {v : Value} (h : S15 w g5 ((a, v) :: cs) W) : W.cell? a = some v := h.2 (a, v) (List.mem_cons_self ..)
theorem S15.tl {w W : World} {g5 : Nat} {cs : List (Addr × Value)} {p : Addr × Value} (h : S15 w g5 (p :: cs) W) : S15 w g5 cs W := ⟨h.1, fun q hq => h.2 q (List.mem_cons_of_mem _ hq)⟩
theorem S15.add {w W : World} {g5 : Nat} {cs : List (Addr × Value)} {a : Addr} {v : Value} (h : S15 w g5 cs W) (x : W.cell? a = some v) : S15 w g5 ((a, v) :: cs) W := ⟨h.1, fun q hq => by
  rcases List.mem_cons.mp hq with rfl | hq
  · exact x
  · exact h.2 q hq⟩
theorem S15.alloc {w W : World} {g5 : Nat} {cs : List (Addr × Value)} (h : S15 w g5 cs W) (o : Obj) : S15 w g5 cs (W.alloc o) := ⟨h.1.alloc o, fun q hq => cell_alloc (h.2 q hq) o⟩
theorem S15.below {w W W' : World} {g5 : Nat} {cs : List (Addr × Value)} (h : S15 w g5 cs W) (hb : Below W.heap.size W W') : S15 w g5 cs W' := ⟨h.1.below hb, fun q hq => cell_keep (h.2 q hq) hb⟩
theorem RT.far6 {w W : World} {g5 g : Nat} (h : RT w g5 W) (hg : g5 < g) (v0 v1 v2 v3 v4 v5 : Value) : RT w g5 ((((((W.setCell ⟨g, 0, none⟩ v0).setCell ⟨g, 1, none⟩ v1).setCell ⟨g, 2, none⟩ v2).setCell ⟨g, 3, none⟩ v3).setCell ⟨g, 4, none⟩ v4).setCell ⟨g, 5, none⟩ v5) :=
  ⟨Go.Proofs.Ytbohlcccdcilkaa.H.far6 h.1 (Nat.lt_trans h.2.2.1 hg) _ _ _ _ _ _, Go.Proofs.Ytbohlcccdcilkaa.H.far6 h.2.1 hg _ _ _ _ _ _, h.2.2.1, below6 h.2.2.2 (Nat.le_of_lt (Nat.lt_trans h.2.2.1 hg)) _ _ _ _ _ _⟩
/-- What the other calls' words bear: a row's bytes, whatever the world is elsewhere. -/
theorem F_of_C {W : World} {A : Option Addr} {l : List Int} (h : Kd.C (Kd.int .u8) W A l.length l) (hm : l.length ≤ 1000000) : Kd.F (Kd.int .u8) W (fun _ => True) A l.length l := by
  intro W' hw
  refine Kd.C_of_reads (d := (0 : Int)) (h1 := fun _ => rfl) ⟨rfl, by omega, fun hn' => ?_⟩
  obtain ⟨ad, rfl, x0⟩ := Kd.at_int h (0 : Int) (by omega) (by omega)
  refine ⟨ad, rfl, fun j hj => ?_⟩
  obtain ⟨ad', e1, hx⟩ := Kd.at_int h (j : Int) (by omega) (by omega)
  cases e1
  rw [Int.toNat_natCast] at hx
  have hb := World.block_lt_of_cell? W _ hx
  have e : W'.cell? (ad.add j) = W.cell? (ad.add j) := by
    unfold World.cell?
    rw [hw _ trivial hb]
  rw [e, hx]
  simp [rd]
theorem V_of_C {W : World} {A : Option Addr} {l : List Int} {c : Nat} (h : Kd.C (Kd.int .u8) W A l.length l) (hc : l.length ≤ c) (hm : l.length ≤ 1000000) : Kd.V (Kd.int .u8) 5 W W.heap.size (fun _ => True) (.slice A l.length c) l := Kd.V_mk hc (F_of_C h hm)
def NEEDL : List Int := [0, 0, 0, 0, 0, 0, 1, 2, 0, 0, 0, 0, 0, 0, 0, 0]
def ALSOL : List Int := [0, 0, 0, 0, 0, 0, 0, 0, 0, 0, 0, 0, 1, 2, 2, 0]
theorem S15.ne_new {w W : World} {g5 : Nat} {cs : List (Addr × Value)} (h : S15 w g5 cs W) : ∀ p ∈ cs, p.1.block ≠ W.heap.size := fun p hp => Nat.ne_of_lt (World.block_lt_of_cell? W _ (h.2 p hp))
theorem add_block (ad : Addr) (n : Nat) : (ad.add n).block = ad.block := by
  unfold Addr.add
  split <;> rfl
theorem ne_cons {g : Nat} {cs : List (Addr × Value)} {ad : Addr} {n : Nat} {v : Value} (h : ∀ p ∈ cs, p.1.block ≠ g) (ha : ad.block ≠ g) : ∀ p ∈ ((ad.add n, v) :: cs), p.1.block ≠ g := by
  intro p hp
  rcases List.mem_cons.mp hp with rfl | hp
  · rw [add_block]; exact ha
  · exact h p hp
theorem S15.store {w W : World} {g5 g : Nat} {cs : List (Addr × Value)} (h : S15 w g5 cs W) (hg : g5 < g) (hcs : ∀ p ∈ cs, p.1.block ≠ g) (v0 v1 v2 v3 v4 v5 : Value) : S15 w g5 cs ((((((W.setCell ⟨g, 0, none⟩ v0).setCell ⟨g, 1, none⟩ v1).setCell ⟨g, 2, none⟩ v2).setCell ⟨g, 3, none⟩ v3).setCell ⟨g, 4, none⟩ v4).setCell ⟨g, 5, none⟩ v5) := by
  refine ⟨h.1.far6 hg _ _ _ _ _ _, fun p hp => ?_⟩
  have hne := Ne.symm (hcs p hp)
  rw [World.cell?_setCell_far _ _ _ _ hne, World.cell?_setCell_far _ _ _ _ hne, World.cell?_setCell_far _ _ _ _ hne, World.cell?_setCell_far _ _ _ _ hne, World.cell?_setCell_far _ _ _ _ hne, World.cell?_setCell_far _ _ _ _ hne]
  exact h.2 p hp
def UW (w : World) (g5 g : Nat) (cs : Array Value) (W : World) : Prop := g5 < g ∧ W.heap[g]? = some (.cells cs 23 (0, 0)) ∧ RT w g5 W
theorem UW.set0 {w W : World} {g5 g : Nat} {B R M D N : Int} {V : Bool} (h : UW w g5 g (hcells B R M D N V) W) (x : Int) : UW w g5 g (hcells x R M D N V) (W.setCell ⟨g, 0, none⟩ (.int .i64 x)) :=
  ⟨h.1, blk_set h.2.1 0 _, blk_far h.2.2.1 (Nat.ne_of_lt (Nat.lt_trans h.2.2.2.2.1 h.1)) _, blk_far h.2.2.2.1 (Nat.ne_of_lt h.1) _, h.2.2.2.2.1, below_set h.2.2.2.2.2 (Nat.le_of_lt (Nat.lt_trans h.2.2.2.2.1 h.1))⟩
theorem UW.set1 {w W : World} {g5 g : Nat} {B R M D N : Int} {V : Bool} (h : UW w g5 g (hcells B R M D N V) W) (x : Int) : UW w g5 g (hcells B x M D N V) (W.setCell ⟨g, 1, none⟩ (.int .i64 x)) :=
  ⟨h.1, blk_set h.2.1 1 _, blk_far h.2.2.1 (Nat.ne_of_lt (Nat.lt_trans h.2.2.2.2.1 h.1)) _, blk_far h.2.2.2.1 (Nat.ne_of_lt h.1) _, h.2.2.2.2.1, below_set h.2.2.2.2.2 (Nat.le_of_lt (Nat.lt_trans h.2.2.2.2.1 h.1))⟩
theorem UW.drew {w W : World} {g5 g : Nat} {cs : Array Value} (h : UW w g5 g cs W) : UW w g5 g cs W.drew := ⟨h.1, blk_drew h.2.1, h.2.2.drew⟩
theorem UW.below {w W W' : World} {g5 g : Nat} {cs : Array Value} (h : UW w g5 g cs W) (hb : Below W.heap.size W W') : UW w g5 g cs W' := ⟨h.1, blk_below h.2.1 hb, h.2.2.below hb⟩
theorem cell_far6 {w W : World} {ad : Addr} {l : List Int} {g5 g j i : Nat} {cs : Array Value} {u v : Value} (hr : Kd.C (Kd.int .u8) w (some ad) l.length l) (hn : 0 < l.length) (h : UW w g5 g cs W) (x : W.cell? (ad.add i) = some u) : (W.drew.setCell ⟨g, j, none⟩ v).cell? (ad.add i) = some u := by
  obtain ⟨a', e1, hx⟩ := Kd.at_int hr (0 : Int) (by omega) (by omega)
  cases e1
  have hb := World.block_lt_of_cell? w _ hx
  rw [add_block] at hb
  exact (World.cell?_setCell_far _ _ _ _ (by rw [add_block]; exact Nat.ne_of_gt (Nat.lt_trans hb (Nat.lt_trans h.2.2.2.2.1 h.1)))).trans x
def rB1 (l : List Int) (a : Nat) (nx cb : Int) : Int := if nx = 1 then wrap64 (wrap64 (rd l (a : Int)) + 1) else rd BLOCKS cb
def rB2 (l : List Int) (a : Nat) (nx cb : Int) : Int := if nx = 2 then wrap64 (wrap64 (wrap64 (256 * wrap64 (rd l (a : Int))) + wrap64 (rd l ((a + 1 : Nat) : Int))) + 1) else rB1 l a nx cb
def rR1 (l : List Int) (E : Nat) (cr : Int) : Int := if cr = 12 then wrap64 (1000 * wrap64 (rd l ((E - 1 : Nat) : Int))) else rd RATES cr
def rR2 (l : List Int) (E : Nat) (cr : Int) : Int := if cr = 13 then wrap64 (wrap64 (256 * wrap64 (rd l ((E - 2 : Nat) : Int))) + wrap64 (rd l ((E - 1 : Nat) : Int))) else rR1 l E cr
def rR3 (l : List Int) (E : Nat) (cr : Int) : Int := if cr = 14 then wrap64 (10 * wrap64 (wrap64 (256 * wrap64 (rd l ((E - 2 : Nat) : Int))) + wrap64 (rd l ((E - 1 : Nat) : Int)))) else rR2 l E cr
theorem UW.b {w W : World} {g5 g : Nat} {cs : Array Value} (h : UW w g5 g cs W) : Below w.heap.size w W := h.2.2.2.2.2
theorem rR1_pos {l : List Int} {E : Nat} {cr : Int} (h : cr = 12) : rR1 l E cr = wrap64 (1000 * wrap64 (rd l ((E - 1 : Nat) : Int))) := by unfold rR1; rw [if_pos h]
theorem rR1_neg {l : List Int} {E : Nat} {cr : Int} (h : ¬ cr = 12) : rR1 l E cr = rd RATES cr := by unfold rR1; rw [if_neg h]
theorem rR2_pos {l : List Int} {E : Nat} {cr : Int} (h : cr = 13) : rR2 l E cr = wrap64 (wrap64 (256 * wrap64 (rd l ((E - 2 : Nat) : Int))) + wrap64 (rd l ((E - 1 : Nat) : Int))) := by unfold rR2; rw [if_pos h]
theorem rR2_neg {l : List Int} {E : Nat} {cr : Int} (h : ¬ cr = 13) : rR2 l E cr = rR1 l E cr := by unfold rR2; rw [if_neg h]
theorem rR3_pos {l : List Int} {E : Nat} {cr : Int} (h : cr = 14) : rR3 l E cr = wrap64 (10 * wrap64 (wrap64 (256 * wrap64 (rd l ((E - 2 : Nat) : Int))) + wrap64 (rd l ((E - 1 : Nat) : Int)))) := by unfold rR3; rw [if_pos h]
theorem rR3_neg {l : List Int} {E : Nat} {cr : Int} (h : ¬ cr = 14) : rR3 l E cr = rR2 l E cr := by unfold rR3; rw [if_neg h]
theorem UW.eqB {w W : World} {g5 g : Nat} {B B' R M D N : Int} {V : Bool} (h : UW w g5 g (hcells B R M D N V) W) (e : B' = B) : UW w g5 g (hcells B' R M D N V) W := e ▸ h
theorem UW.eqR {w W : World} {g5 g : Nat} {B R R' M D N : Int} {V : Bool} (h : UW w g5 g (hcells B R M D N V) W) (e : R' = R) : UW w g5 g (hcells B R' M D N V) W := e ▸ h
abbrev NEEDB : Obj := .cells #[.int .i64 0, .int .i64 0, .int .i64 0, .int .i64 0, .int .i64 0, .int .i64 0, .int .i64 1, .int .i64 2, .int .i64 0, .int .i64 0, .int .i64 0, .int .i64 0, .int .i64 0, .int .i64 0, .int .i64 0, .int .i64 0] 3 (0, 0)
abbrev ALSOB : Obj := .cells #[.int .i64 0, .int .i64 0, .int .i64 0, .int .i64 0, .int .i64 0, .int .i64 0, .int .i64 0, .int .i64 0, .int .i64 0, .int .i64 0, .int .i64 0, .int .i64 0, .int .i64 1, .int .i64 2, .int .i64 2, .int .i64 0] 3 (0, 0)
theorem rB1_pos {l : List Int} {a : Nat} {nx cb : Int} (h : nx = 1) : rB1 l a nx cb = wrap64 (wrap64 (rd l (a : Int)) + 1) := by unfold rB1; rw [if_pos h]
theorem rB1_neg {l : List Int} {a : Nat} {nx cb : Int} (h : ¬ nx = 1) : rB1 l a nx cb = rd BLOCKS cb := by unfold rB1; rw [if_neg h]
theorem rB2_pos {l : List Int} {a : Nat} {nx cb : Int} (h : nx = 2) : rB2 l a nx cb = wrap64 (wrap64 (wrap64 (256 * wrap64 (rd l (a : Int))) + wrap64 (rd l ((a + 1 : Nat) : Int))) + 1) := by unfold rB2; rw [if_pos h]
theorem rB2_neg {l : List Int} {a : Nat} {nx cb : Int} (h : ¬ nx = 2) : rB2 l a nx cb = rB1 l a nx cb := by unfold rB2; rw [if_neg h]
theorem need_at (c : Nat) (h : c < 16) : (#[.int .i64 0, .int .i64 0, .int .i64 0, .int .i64 0, .int .i64 0, .int .i64 0, .int .i64 1, .int .i64 2, .int .i64 0, .int .i64 0, .int .i64 0, .int .i64 0, .int .i64 0, .int .i64 0, .int .i64 0, .int .i64 0] : Array Value)[c]? = some (.int .i64 (rd NEEDL (c : Int))) := by
  have : c = 0 ∨ c = 1 ∨ c = 2 ∨ c = 3 ∨ c = 4 ∨ c = 5 ∨ c = 6 ∨ c = 7 ∨ c = 8 ∨ c = 9 ∨ c = 10 ∨ c = 11 ∨ c = 12 ∨ c = 13 ∨ c = 14 ∨ c = 15 := by omega
  rcases this with rfl | rfl | rfl | rfl | rfl | rfl | rfl | rfl | rfl | rfl | rfl | rfl | rfl | rfl | rfl | rfl <;> rfl
theorem also_at (c : Nat) (h : c < 16) : (#[.int .i64 0, .int .i64 0, .int .i64 0, .int .i64 0, .int .i64 0, .int .i64 0, .int .i64 0, .int .i64 0, .int .i64 0, .int .i64 0, .int .i64 0, .int .i64 0, .int .i64 1, .int .i64 2, .int .i64 2, .int .i64 0] : Array Value)[c]? = some (.int .i64 (rd ALSOL (c : Int))) := by
  have : c = 0 ∨ c = 1 ∨ c = 2 ∨ c = 3 ∨ c = 4 ∨ c = 5 ∨ c = 6 ∨ c = 7 ∨ c = 8 ∨ c = 9 ∨ c = 10 ∨ c = 11 ∨ c = 12 ∨ c = 13 ∨ c = 14 ∨ c = 15 := by omega
  rcases this with rfl | rfl | rfl | rfl | rfl | rfl | rfl | rfl | rfl | rfl | rfl | rfl | rfl | rfl | rfl | rfl <;> rfl
def XC (l : List Int) : Int := wrap64 (Int.tdiv (wrap64 (rd l 2)) 16)
def YC (l : List Int) : Int := Int.tmod (wrap64 (rd l 2)) 16
def MC (l : List Int) : Int := wrap64 (Int.tdiv (wrap64 (rd l 3)) 16)
def ZC (l : List Int) : Int := wrap64 (Int.tdiv (Int.tmod (wrap64 (rd l 3)) 16) 2)
def PC (l : List Int) : Int := Int.tmod (rd l 3) 2
abbrev rBlock := rB2
abbrev rRate := rR3
theorem rB2_eq : rB2 = rBlock := rfl
theorem rR3_eq : rR3 = rRate := rfl
def rTail (k : Nat) (l : List Int) (n z cb cr cm cd : Int) (V : Bool) : Option THd :=
  if n > 2147483647 ∧ V = false then some (takeZ 5) else
    if (0 ≤ rd NEEDL cb ∧ rd NEEDL cb ≤ 2) ∧ (0 ≤ rd ALSOL cr ∧ rd ALSOL cr ≤ 2) then
      if (l.length : Int) < 4 + z + rd NEEDL cb + rd ALSOL cr + 1 then some (takeZ 2) else
        if rBlock l (4 + z).toNat (rd NEEDL cb) cb > 65535 then some (takeZ 5) else (serinetteref04_Eight.f k 0 (l.take (4 + z + rd NEEDL cb + rd ALSOL cr).toNat)).bind fun c =>
          if c ≠ rd l (4 + z + rd NEEDL cb + rd ALSOL cr) then some (takeZ 4)
          else some (rBlock l (4 + z).toNat (rd NEEDL cb) cb, rRate l (4 + z + rd NEEDL cb + rd ALSOL cr).toNat cr, cm, rd DEPTHS cd, n, V, 4 + z + rd NEEDL cb + rd ALSOL cr + 1, 0)
    else none
def rMid (k : Nat) (l : List Int) : Option THd :=
  if XC l = 0 ∨ YC l = 15 ∨ MC l > 10 ∨ ZC l = 3 ∨ PC l = 1 then some (takeZ 5) else (serinetteref03_Decode.f k (l.drop 4)).bind fun p =>
    if p.2.2 = 0 then
      if (0 ≤ XC l ∧ XC l < 16) ∧ (0 ≤ YC l ∧ YC l < 16) ∧ (0 ≤ ZC l ∧ ZC l < 8) ∧ 0 ≤ p.2.1 ∧ p.2.1 ≤ 1000000 then rTail k l p.1 p.2.1 (XC l) (YC l) (MC l) (ZC l) (rd l 1 == 249) else none
    else some (takeZ p.2.2)
set_option maxHeartbeats 16000000 in
set_option maxRecDepth 100000 in
theorem rtake_main (k : Nat) (A : Option Addr) (l : List Int) (cap : Nat) (w : World) (r : THd) (hr : Kd.C (Kd.int .u8) w A l.length l) (hc : l.length ≤ cap) (hm : l.length ≤ 1000000) (h4 : 4 ≤ l.length) (h0 : rd l 0 = 255) (h1 : rd l 1 = 248 ∨ rd l 1 = 249) (h : rMid k l = some r) :
    Calls Try.prog 19 #[.slice A l.length cap] w (TakePost w (tHd r)) := by
  obtain ⟨ad, rfl, x0, x1, x2, x3⟩ := at4 hr h4
  obtain ⟨A4, hrun4, HC4⟩ := cut4 hr h4 hc hm
  have hl4 : (l.drop 4).length ≤ cap - 4 := by rw [List.length_drop]; omega
  have hm4 : (l.drop 4).length ≤ 1000000 := by rw [List.length_drop]; omega
  have HR := Aside0.mk hr
  have HC := Aside0.mk HC4
  have HL4 := Aside0.mk hl4
  have HM4 := Aside0.mk hm4
  unfold rMid at h
  clear hr HC4 hl4 hm4
  generalize l.drop 4 = l4 at *
  have c1 : decide ((l.length : Int) < 4) = false := decide_eq_false (by omega)
  have c2 : decide (l.length < 4) = false := decide_eq_false (by omega)
  have i0 : (0 < l.length) = True := eq_true (by omega)
  have i1 : (1 < l.length) = True := eq_true (by omega)
  have i2 : (2 < l.length) = True := eq_true (by omega)
  have i3 : (3 < l.length) = True := eq_true (by omega)
  have j1 : ((1 : Int) < (l.length : Int)) = True := eq_true (by omega)
  have j2 : ((2 : Int) < (l.length : Int)) = True := eq_true (by omega)
  have j3 : ((3 : Int) < (l.length : Int)) = True := eq_true (by omega)
  rw [h0] at x0
  have e1 : wrap64 (Int.tdiv (wrap64 (rd l 2)) 16) = XC l := rfl
  have e2 : Int.tmod (wrap64 (rd l 2)) 16 = YC l := rfl
  have e3 : wrap64 (Int.tdiv (wrap64 (rd l 3)) 16) = MC l := rfl
  have e4 : wrap64 (Int.tdiv (Int.tmod (wrap64 (rd l 3)) 16) 2) = ZC l := rfl
  have e5 : Int.tmod (rd l 3) 2 = PC l := rfl
  generalize XC l = cb at *
  generalize YC l = cr at *
  generalize MC l = cm at *
  generalize ZC l = cd at *
  generalize PC l = cz at *
  generalize rd l 1 = b1 at *
  generalize rd l 2 = b2 at *
  generalize rd l 3 = b3 at *
  have HH := Aside0.mk h
  have HM := Aside0.mk hm
  clear h h0 hm
  go_enter Try.func19, Try.ntmps19
  go_upto_region 4 with fail
  have HZ := Aside0.mk (RT.make w)
  generalize ((w.alloc (Obj.cells hzero 23 (0, 0))).alloc (Obj.cells hzero 23 (0, 0))) = W2 at *
  generalize w.heap.size + 1 = g5 at *
  have z0 := cell_keep x0 HZ.out.2.2.2
  have z1 := cell_keep x1 HZ.out.2.2.2
  have z2 := cell_keep x2 HZ.out.2.2.2
  have z3 := cell_keep x3 HZ.out.2.2.2
  clear x0 x2 x3
  go_cut [38] from 229 to 229 (fun s W => s = .bool false ∧ W = W2)
  case first =>
    clear e1 e2 e3 e4 e5
    rcases h1 with e | e
    · have d1 : (b1 != 248) = false := by rw [e]; rfl
      go_wp2_with fail
      go_meet
      exact ⟨rfl, rfl⟩
    · have d1 : (b1 != 248) = true := by rw [e]; rfl
      have d2 : (b1 != 249) = false := by rw [e]; rfl
      go_wp2_with fail
      go_meet
      exact ⟨rfl, rfl⟩
  case rest =>
  obtain ⟨rfl, rfl⟩ := hcut
  go_upto_region 10 with fail
  simp only [e1, e2, e3, e4]
  clear e1 e2 e3 e4
  obtain ⟨qb, hqb⟩ : ∃ qb, decide (cb = 0 ∨ cr = 15 ∨ cm > 10 ∨ cd = 3 ∨ cz = 1) = qb := ⟨_, rfl⟩
  have HQ := Aside0.mk hqb
  clear hqb
  go_cut [81] from 229 to 229 (fun s W => s = .bool qb ∧ W = wc)
  case first =>
    by_cases q0 : cb = 0
    · have d0 : (cb == 0) = true := beq_iff_eq.mpr q0
      have Q0 := Aside0.mk q0
      clear q0
      go_wp2_with fail
      go_meet
      exact ⟨congrArg Value.bool ((decide_eq_true (.inl Q0.out)).symm.trans HQ.out), rfl⟩
    have d0 : (cb == 0) = false := beq_eq_false_iff_ne.mpr q0
    have Q0 := Aside0.mk q0
    clear q0
    by_cases q1 : cr = 15
    · have d1 : (cr == 15) = true := beq_iff_eq.mpr q1
      have Q1 := Aside0.mk q1
      clear q1
      go_wp2_with fail
      go_meet
      exact ⟨congrArg Value.bool ((decide_eq_true (.inr (.inl Q1.out))).symm.trans HQ.out), rfl⟩
    have d1 : (cr == 15) = false := beq_eq_false_iff_ne.mpr q1
    have Q1 := Aside0.mk q1
    clear q1
    by_cases q2 : cm > 10
    · have d2 : decide (cm > 10) = true := decide_eq_true q2
      have Q2 := Aside0.mk q2
      clear q2
      go_wp2_with fail
      go_meet
      exact ⟨congrArg Value.bool ((decide_eq_true (.inr (.inr (.inl Q2.out)))).symm.trans HQ.out), rfl⟩
    have d2 : decide (cm > 10) = false := decide_eq_false q2
    have Q2 := Aside0.mk q2
    clear q2
    by_cases q3 : cd = 3
    · have d3 : (cd == 3) = true := beq_iff_eq.mpr q3
      have Q3 := Aside0.mk q3
      clear q3
      go_wp2_with fail
      go_meet
      exact ⟨congrArg Value.bool ((decide_eq_true (.inr (.inr (.inr (.inl Q3.out))))).symm.trans HQ.out), rfl⟩
    have d3 : (cd == 3) = false := beq_eq_false_iff_ne.mpr q3
    have Q3 := Aside0.mk q3
    clear q3
    by_cases q4 : cz = 1
    · have d4 : (cz == 1) = true := beq_iff_eq.mpr q4
      have Q4 := Aside0.mk q4
      clear q4
      go_wp2_with fail
      go_meet
      exact ⟨congrArg Value.bool ((decide_eq_true (.inr (.inr (.inr (.inr Q4.out))))).symm.trans HQ.out), rfl⟩
    have d4 : (cz == 1) = false := beq_eq_false_iff_ne.mpr q4
    have Q4 := Aside0.mk q4
    clear q4
    go_wp2_with fail
    go_meet
    exact ⟨congrArg Value.bool ((decide_eq_false (by rintro (h | h | h | h | h) <;> first | exact Q0.out h | exact Q1.out h | exact Q3.out h | exact Q4.out h | (have := Q2.out; omega))).symm.trans HQ.out), rfl⟩
  case rest =>
  obtain ⟨rfl, rfl⟩ := hcut
  clear e5 z0 z2 z3
  have h := HH.out
  clear HH
  by_cases hq : cb = 0 ∨ cr = 15 ∨ cm > 10 ∨ cd = 3 ∨ cz = 1
  · have d : qb = true := HQ.out.symm.trans (decide_eq_true hq)
    subst d
    rw [if_pos hq] at h
    cases h
    obtain ⟨o0_, o1_, o2_, o3_, o4_, o5_⟩ := hcell HZ.out.1
    obtain ⟨t0_, t1_, t2_, t3_, t4_, t5_⟩ := hcell HZ.out.2.1
    have v0_ := blk_frozen HZ.out.1 0
    have v1_ := blk_frozen HZ.out.1 1
    have v2_ := blk_frozen HZ.out.1 2
    have v3_ := blk_frozen HZ.out.1 3
    have v4_ := blk_frozen HZ.out.1 4
    have v5_ := blk_frozen HZ.out.1 5
    clear hq
    go_wp2
    exact rtake_ret rfl rfl rfl rfl (blk6 HZ.out.1 _ _ _ _ _ _) rfl (below6 HZ.out.2.2.2 (Nat.le_refl _) _ _ _ _ _ _)
  have d : qb = false := HQ.out.symm.trans (decide_eq_false hq)
  subst d
  rw [if_neg hq] at h
  obtain ⟨⟨n, z, e⟩, hd, h⟩ := Option.bind_eq_some_iff.mp h
  simp only at h
  have HD := Aside0.mk hd
  have HV := Aside0.mk (V_of_C (Kd.C_below HC.out HZ.out.2.2.2) HL4.out HM4.out)
  clear hd HC
  by_cases he : e = 0
  case neg =>
    rw [if_neg he] at h
    cases h
    have de : (e != 0) = true := bne_iff_ne.mpr he
    clear hq he
    go_wp2_with (first | (go_at_call 40; (with_reducible refine (serinetteref03_Decode.calls k (fun _ => True) A4 (cap - 4) l4 n z e _ HV.out HD.out).mono ?_); rintro e' w40 ⟨rfl, hb⟩; have HZ2 := Aside0.mk (HZ.out.below hb); clear hb; obtain ⟨o0_, o1_, o2_, o3_, o4_, o5_⟩ := hcell HZ2.out.1; obtain ⟨t0_, t1_, t2_, t3_, t4_, t5_⟩ := hcell HZ2.out.2.1; have v0_ := blk_frozen HZ2.out.1 0; have v1_ := blk_frozen HZ2.out.1 1; have v2_ := blk_frozen HZ2.out.1 2; have v3_ := blk_frozen HZ2.out.1 3; have v4_ := blk_frozen HZ2.out.1 4; have v5_ := blk_frozen HZ2.out.1 5))
    exact rtake_ret rfl rfl rfl rfl (blk6 HZ2.out.1 _ _ _ _ _ _) rfl (below6 HZ2.out.2.2.2 (Nat.le_refl _) _ _ _ _ _ _)
  subst he
  rw [if_pos rfl] at h
  by_cases hg : (0 ≤ cb ∧ cb < 16) ∧ (0 ≤ cr ∧ cr < 16) ∧ (0 ≤ cd ∧ cd < 8) ∧ 0 ≤ z ∧ z ≤ 1000000
  case neg => rw [if_neg hg] at h; cases h
  rw [if_pos hg] at h
  obtain ⟨cn, rfl⟩ := Int.eq_ofNat_of_zero_le hg.1.1
  obtain ⟨rn, rfl⟩ := Int.eq_ofNat_of_zero_le hg.2.1.1
  obtain ⟨dn, rfl⟩ := Int.eq_ofNat_of_zero_le hg.2.2.1.1
  have HT := Aside0.mk h
  have HG := Aside0.mk (show cn < 16 ∧ rn < 16 ∧ dn < 8 ∧ 0 ≤ z ∧ z ≤ 1000000 by omega)
  clear h hg hq
  go_upto_region 15 with (first | (go_at_call 40; (with_reducible refine (serinetteref03_Decode.calls k (fun _ => True) A4 (cap - 4) l4 n z 0 _ HV.out HD.out).mono ?_); rintro e' w40 ⟨rfl, hb⟩; have HZ3 := Aside0.mk (HZ.out.below hb); clear hb))
  clear z1
  have z1 := cell_keep x1 HZ3.out.2.2.2
  have kcn : (cn : Int) < (BLOCKS.length : Int) := by have := HG.out; show (cn : Int) < 16; omega
  have krn : (rn : Int) < (RATES.length : Int) := by have := HG.out; show (rn : Int) < 16; omega
  have kdn : (dn : Int) < (DEPTHS.length : Int) := by have := HG.out; show (dn : Int) < 8; omega
  have n1 : ((cn : Int) < (BLOCKS.length : Int)) = True := eq_true kcn
  have n2 : ((rn : Int) < (RATES.length : Int)) = True := eq_true krn
  have n3 : ((dn : Int) < (DEPTHS.length : Int)) = True := eq_true kdn
  have m1 : (cn < BLOCKS.length) = True := eq_true (by omega)
  have m2 : (rn < RATES.length) = True := eq_true (by omega)
  have m3 : (dn < DEPTHS.length) = True := eq_true (by omega)
  have n1' : ((cn : Int) < 16) = True := eq_true kcn
  have n2' : ((rn : Int) < 16) = True := eq_true krn
  have n3' : ((dn : Int) < 8) = True := eq_true kdn
  have m1' : (cn < 16) = True := eq_true (by have := HG.out; omega)
  have m2' : (rn < 16) = True := eq_true (by have := HG.out; omega)
  have m3' : (dn < 8) = True := eq_true (by have := HG.out; omega)
  go_cut [13] from 229 to 229 (fun s W => ∃ g, s = .pointer (some ⟨g, 0, none⟩) ∧ g5 < g ∧ W.heap[g]? = some (.cells (hcells (rd BLOCKS (cn : Int)) (rd RATES (rn : Int)) cm (rd DEPTHS (dn : Int)) n (b1 == 249)) 23 (0, 0)) ∧ RT w g5 W)
  case first =>
    refine wp_region_noPanic ?_
    refine startH (n := 21) (S := S15 w g5 [(⟨ad.block, ad.off + 1, none⟩, .int .u8 b1)]) #[false, false, false, false, false, false, false, false, false, false, false, false, false, false, false, false, false, false, false, false, false] (by kernel_rfl) rfl rfl ⟨RT.drew HZ3.out, fun p hp => by (cases List.mem_singleton.mp hp); exact cell_drew z1⟩ (fun hHeld => ?_)
    refine takeH (i := 1) (N := some 95) (v := ?_) (a' := ?_) #[false, true, false, false, false, false, false, false, false, false, false, false, false, false, false, false, false, false, false, false, false] rfl rfl (by kernel_rfl) (fun _ _ _ h => h) (Or.inl ⟨by rfl, ?_⟩) hHeld ?_ ?_
    rotate_left
    · intro w' s0
      go_simp
      all_goals (with_reducible rfl)
    rotate_left
    · simp only [Act.put, List.setIfInBounds_toArray, List.set_cons_zero, List.set_cons_succ]
      rfl
    refine takeH (i := 5) (N := some 99) (v := ?_) (a' := ?_) #[false, true, false, false, false, true, false, false, false, false, false, false, false, false, false, false, false, false, false, false, false] rfl rfl (by kernel_rfl) (fun _ _ _ h => h) (Or.inl ⟨by rfl, ?_⟩) hHeld ?_ ?_
    rotate_left
    · intro w' s0
      go_simp
      all_goals (with_reducible rfl)
    rotate_left
    · simp only [Act.put, List.setIfInBounds_toArray, List.set_cons_zero, List.set_cons_succ]
      rfl
    refine takeH (i := 8) (N := some 102) (v := ?_) (a' := ?_) #[false, true, false, false, false, true, false, false, true, false, false, false, false, false, false, false, false, false, false, false, false] rfl rfl (by kernel_rfl) (fun _ _ _ h => h) (Or.inl ⟨by rfl, ?_⟩) hHeld ?_ ?_
    rotate_left
    · intro w' s0
      go_simp
      all_goals (with_reducible rfl)
    rotate_left
    · simp only [Act.put, List.setIfInBounds_toArray, List.set_cons_zero, List.set_cons_succ]
      rfl
    refine takeH (i := 10) (N := some 104) (v := ?_) (a' := ?_) #[false, true, false, false, false, true, false, false, true, false, true, false, false, false, false, false, false, false, false, false, false] rfl rfl (by kernel_rfl) (fun _ _ _ h => h) (Or.inl ⟨by rfl, ?_⟩) hHeld ?_ ?_
    rotate_left
    · intro w' s0
      go_simp
      all_goals (with_reducible rfl)
    rotate_left
    · simp only [Act.put, List.setIfInBounds_toArray, List.set_cons_zero, List.set_cons_succ]
      rfl
    refine takeH (i := 13) (N := some 107) (v := ?_) (a' := ?_) #[false, true, false, false, false, true, false, false, true, false, true, false, false, true, false, false, false, false, false, false, false] rfl rfl (by kernel_rfl) (fun _ _ _ h => h) (Or.inl ⟨by rfl, ?_⟩) hHeld ?_ ?_
    rotate_left
    · intro w' s0
      go_simp
      all_goals (with_reducible rfl)
    rotate_left
    · simp only [Act.put, List.setIfInBounds_toArray, List.set_cons_zero, List.set_cons_succ]
      rfl
    refine takeH (i := 14) (N := some 108) (v := ?_) (a' := ?_) #[false, true, false, false, false, true, false, false, true, false, true, false, false, true, true, false, false, false, false, false, false] rfl rfl (by kernel_rfl) (fun _ _ _ h => h) (Or.inl ⟨by rfl, ?_⟩) hHeld ?_ ?_
    rotate_left
    · intro w' s0
      go_simp
      all_goals (with_reducible rfl)
    rotate_left
    · simp only [Act.put, List.setIfInBounds_toArray, List.set_cons_zero, List.set_cons_succ]
      rfl
    refine takeH (i := 15) (N := some 109) (v := ?_) (a' := ?_) #[false, true, false, false, false, true, false, false, true, false, true, false, false, true, true, true, false, false, false, false, false] rfl rfl (by kernel_rfl) (fun _ _ _ h => h) (Or.inl ⟨by rfl, ?_⟩) hHeld ?_ ?_
    rotate_left
    · intro w' s0
      go_simp
      all_goals (with_reducible rfl)
    rotate_left
    · simp only [Act.put, List.setIfInBounds_toArray, List.set_cons_zero, List.set_cons_succ]
      rfl
    refine takeH (i := 16) (N := some 110) (v := ?_) (a' := ?_) #[false, true, false, false, false, true, false, false, true, false, true, false, false, true, true, true, true, false, false, false, false] rfl rfl (by kernel_rfl) (fun _ _ _ h => h) (Or.inl ⟨by rfl, ?_⟩) hHeld ?_ ?_
    rotate_left
    · intro w' s0
      have s1 := S15.hd s0
      go_simp
      all_goals (with_reducible rfl)
    rotate_left
    · simp only [Act.put, List.setIfInBounds_toArray, List.set_cons_zero, List.set_cons_succ]
      rfl
    refine takeH (i := 17) (N := some 111) (v := ?_) (a' := ?_) #[false, true, false, false, false, true, false, false, true, false, true, false, false, true, true, true, true, true, false, false, false] rfl rfl (by kernel_rfl) (fun _ _ _ h => h) (Or.inl ⟨by rfl, ?_⟩) hHeld ?_ ?_
    rotate_left
    · intro w' s0
      go_simp
      all_goals (with_reducible rfl)
    rotate_left
    · simp only [Act.put, List.setIfInBounds_toArray, List.set_cons_zero, List.set_cons_succ]
      rfl
    refine twoH (i := 0) (j := 19) (Ni := some 94) (Nj := some 13) #[true, true, false, false, false, true, false, false, true, false, true, false, false, true, true, true, true, true, false, false, false] #[false, true, false, false, false, true, false, false, true, false, true, false, false, true, true, true, true, true, false, true, false] rfl rfl rfl rfl (by kernel_rfl) (fun K hK => ?_) (fun K hK => ?_)
    · refine goes_ Try.func29 (by kernel_rfl) rfl #[] (by rfl) rfl rfl (by (try simp only [List.map_toArray, List.map_cons, List.map_nil]); first | done | rfl) ?_
      with_reducible refine (serinetteref17_Blocks.calls BLOCKS _ ?hf).mono ?_
      (case hf => rfl)
      rintro e w29 ⟨v29, rfl, hr, hb⟩
      obtain ⟨A29, c29_, rfl⟩ := Kd.R_slice hr
      obtain ⟨ad29, rfl, xb29⟩ := Kd.at_int (Kd.R_reads' hr).2.2 (cn : Int) (by omega) (kcn)
      rw [Int.toNat_natCast] at xb29
      refine ⟨_, rfl, ?_⟩
      have hH := S15.below hHeld hb
      clear hHeld hb hr
      refine hK.out _ _ hH (fun hHeld' => ?_)
      clear hK K
      refine normH (a' := ?_) ?_ ?_
      rotate_left
      · show Act.put _ (some 94) _ = _
        simp only [Act.put, List.setIfInBounds_toArray, List.set_cons_zero, List.set_cons_succ]
        rfl
      refine strH (S2 := S15 w g5 ((ad29.add cn, .int .i64 (rd BLOCKS (cn : Int))) :: [(⟨ad.block, ad.off + 1, none⟩, .int .u8 b1)])) (fun _ h => S15.tl h) ?_
      have hHeld := S15.add hHeld' xb29
      clear hHeld' xb29 hH
      refine takeH (i := 2) (N := some 96) (v := ?_) (a' := ?_) #[true, true, true, false, false, true, false, false, true, false, true, false, false, true, true, true, true, true, false, false, false] rfl rfl (by kernel_rfl) (fun _ _ _ h => h) (Or.inl ⟨by rfl, ?_⟩) hHeld ?_ ?_
      rotate_left
      · intro w' s0
        go_simp
        all_goals (with_reducible rfl)
      rotate_left
      · simp only [Act.put, List.setIfInBounds_toArray, List.set_cons_zero, List.set_cons_succ]
        rfl
      refine takeH (i := 3) (N := some 97) (v := ?_) (a' := ?_) #[true, true, true, true, false, true, false, false, true, false, true, false, false, true, true, true, true, true, false, false, false] rfl rfl (by kernel_rfl) (fun _ _ _ h => h) (Or.inl ⟨by rfl, ?_⟩) hHeld ?_ ?_
      rotate_left
      · intro w' s0
        have s1 := S15.hd s0
        go_simp
        all_goals (with_reducible rfl)
      rotate_left
      · simp only [Act.put, List.setIfInBounds_toArray, List.set_cons_zero, List.set_cons_succ]
        rfl
      refine twoH (i := 4) (j := 19) (Ni := some 98) (Nj := some 13) #[true, true, true, true, true, true, false, false, true, false, true, false, false, true, true, true, true, true, false, false, false] #[true, true, true, true, false, true, false, false, true, false, true, false, false, true, true, true, true, true, false, true, false] rfl rfl rfl rfl (by kernel_rfl) (fun K hK => ?_) (fun K hK => ?_)
      · refine goes_ Try.func30 (by kernel_rfl) rfl #[] (by rfl) rfl rfl (by (try simp only [List.map_toArray, List.map_cons, List.map_nil]); first | done | rfl) ?_
        with_reducible refine (serinetteref17_Rates.calls RATES _ ?hf).mono ?_
        (case hf => rfl)
        rintro e w30 ⟨v30, rfl, hr, hb⟩
        obtain ⟨A30, c30_, rfl⟩ := Kd.R_slice hr
        obtain ⟨ad30, rfl, xb30⟩ := Kd.at_int (Kd.R_reads' hr).2.2 (rn : Int) (by omega) (krn)
        rw [Int.toNat_natCast] at xb30
        refine ⟨_, rfl, ?_⟩
        have hH := S15.below hHeld hb
        clear hHeld hb hr
        refine hK.out _ _ hH (fun hHeld' => ?_)
        clear hK K
        refine normH (a' := ?_) ?_ ?_
        rotate_left
        · show Act.put _ (some 98) _ = _
          simp only [Act.put, List.setIfInBounds_toArray, List.set_cons_zero, List.set_cons_succ]
          rfl
        refine strH (S2 := S15 w g5 ((ad30.add rn, .int .i64 (rd RATES (rn : Int))) :: ((ad29.add cn, .int .i64 (rd BLOCKS (cn : Int))) :: [(⟨ad.block, ad.off + 1, none⟩, .int .u8 b1)]))) (fun _ h => S15.tl h) ?_
        have hHeld := S15.add hHeld' xb30
        clear hHeld' xb30 hH
        refine takeH (i := 6) (N := some 100) (v := ?_) (a' := ?_) #[true, true, true, true, true, true, true, false, true, false, true, false, false, true, true, true, true, true, false, false, false] rfl rfl (by kernel_rfl) (fun _ _ _ h => h) (Or.inl ⟨by rfl, ?_⟩) hHeld ?_ ?_
        rotate_left
        · intro w' s0
          go_simp
          all_goals (with_reducible rfl)
        rotate_left
        · simp only [Act.put, List.setIfInBounds_toArray, List.set_cons_zero, List.set_cons_succ]
          rfl
        refine takeH (i := 7) (N := some 101) (v := ?_) (a' := ?_) #[true, true, true, true, true, true, true, true, true, false, true, false, false, true, true, true, true, true, false, false, false] rfl rfl (by kernel_rfl) (fun _ _ _ h => h) (Or.inl ⟨by rfl, ?_⟩) hHeld ?_ ?_
        rotate_left
        · intro w' s0
          have s1 := S15.hd s0
          go_simp
          all_goals (with_reducible rfl)
        rotate_left
        · simp only [Act.put, List.setIfInBounds_toArray, List.set_cons_zero, List.set_cons_succ]
          rfl
        refine twoH (i := 9) (j := 19) (Ni := some 103) (Nj := some 13) #[true, true, true, true, true, true, true, true, true, true, true, false, false, true, true, true, true, true, false, false, false] #[true, true, true, true, true, true, true, true, true, false, true, false, false, true, true, true, true, true, false, true, false] rfl rfl rfl rfl (by kernel_rfl) (fun K hK => ?_) (fun K hK => ?_)
        · refine goes_ Try.func31 (by kernel_rfl) rfl #[] (by rfl) rfl rfl (by (try simp only [List.map_toArray, List.map_cons, List.map_nil]); first | done | rfl) ?_
          with_reducible refine (serinetteref17_Depths.calls DEPTHS _ ?hf).mono ?_
          (case hf => rfl)
          rintro e w31 ⟨v31, rfl, hr, hb⟩
          obtain ⟨A31, c31_, rfl⟩ := Kd.R_slice hr
          obtain ⟨ad31, rfl, xb31⟩ := Kd.at_int (Kd.R_reads' hr).2.2 (dn : Int) (by omega) (kdn)
          rw [Int.toNat_natCast] at xb31
          refine ⟨_, rfl, ?_⟩
          have hH := S15.below hHeld hb
          clear hHeld hb hr
          refine hK.out _ _ hH (fun hHeld' => ?_)
          clear hK K
          refine normH (a' := ?_) ?_ ?_
          rotate_left
          · show Act.put _ (some 103) _ = _
            simp only [Act.put, List.setIfInBounds_toArray, List.set_cons_zero, List.set_cons_succ]
            rfl
          refine strH (S2 := S15 w g5 ((ad31.add dn, .int .i64 (rd DEPTHS (dn : Int))) :: ((ad30.add rn, .int .i64 (rd RATES (rn : Int))) :: ((ad29.add cn, .int .i64 (rd BLOCKS (cn : Int))) :: [(⟨ad.block, ad.off + 1, none⟩, .int .u8 b1)])))) (fun _ h => S15.tl h) ?_
          have hHeld := S15.add hHeld' xb31
          clear hHeld' xb31 hH
          refine takeH (i := 11) (N := some 105) (v := ?_) (a' := ?_) #[true, true, true, true, true, true, true, true, true, true, true, true, false, true, true, true, true, true, false, false, false] rfl rfl (by kernel_rfl) (fun _ _ _ h => h) (Or.inl ⟨by rfl, ?_⟩) hHeld ?_ ?_
          rotate_left
          · intro w' s0
            go_simp
            all_goals (with_reducible rfl)
          rotate_left
          · simp only [Act.put, List.setIfInBounds_toArray, List.set_cons_zero, List.set_cons_succ]
            rfl
          refine takeH (i := 12) (N := some 106) (v := ?_) (a' := ?_) #[true, true, true, true, true, true, true, true, true, true, true, true, true, true, true, true, true, true, false, false, false] rfl rfl (by kernel_rfl) (fun _ _ _ h => h) (Or.inl ⟨by rfl, ?_⟩) hHeld ?_ ?_
          rotate_left
          · intro w' s0
            have s1 := S15.hd s0
            go_simp
            all_goals (with_reducible rfl)
          rotate_left
          · simp only [Act.put, List.setIfInBounds_toArray, List.set_cons_zero, List.set_cons_succ]
            rfl
          refine takeH (i := 18) (N := some 112) (v := ?_) (a' := ?_) #[true, true, true, true, true, true, true, true, true, true, true, true, true, true, true, true, true, true, true, false, false] rfl rfl (by kernel_rfl) (fun _ _ _ h => h) (Or.inl ⟨by rfl, ?_⟩) hHeld ?_ ?_
          rotate_left
          · intro w' s0
            go_simp
            all_goals (with_reducible rfl)
          rotate_left
          · simp only [Act.put, List.setIfInBounds_toArray, List.set_cons_zero, List.set_cons_succ]
            rfl
          refine oneH (i := 19) (N := some 13) #[true, true, true, true, true, true, true, true, true, true, true, true, true, true, true, true, true, true, true, true, false] rfl rfl (by kernel_rfl) (fun K hK => ?_)
          go_simp
          have hH := S15.alloc hHeld (Obj.cells hzero 23 (0, 0))
          have hF : Fr g5 _ _ := fr_new hHeld.1
          have hN : ∀ p ∈ (((ad31.add dn, .int .i64 (rd DEPTHS (dn : Int))) :: ((ad30.add rn, .int .i64 (rd RATES (rn : Int))) :: ((ad29.add cn, .int .i64 (rd BLOCKS (cn : Int))) :: [(⟨ad.block, ad.off + 1, none⟩, .int .u8 b1)]))) : List (Addr × Value)), p.1.block ≠ _ := S15.ne_new hHeld
          have hP := hHeld
          clear hHeld
          refine hK.out _ _ hH (fun hHeld => ?_)
          clear hH
          clear hK K
          refine oneH (i := 20) (N := none) #[true, true, true, true, true, true, true, true, true, true, true, true, true, true, true, true, true, true, true, true, true] rfl rfl (by kernel_rfl) (fun K hK => ?_)
          go_simp
          refine hK.out _ _ (S15.alloc hP _) (fun hHeld' => ?_)
          clear hK K
          refine doneH (by kernel_rfl) ?_
          refine NoPanic.normal ?_
          go_wp2_with fail
          go_meet
          exact ⟨_, rfl, hF.1, heap_alloc_last _ _, hHeld'.1⟩
        · go_simp
          have hH := S15.alloc hHeld (Obj.cells hzero 23 (0, 0))
          have hF : Fr g5 _ _ := fr_new hHeld.1
          have hN : ∀ p ∈ (((ad30.add rn, .int .i64 (rd RATES (rn : Int))) :: ((ad29.add cn, .int .i64 (rd BLOCKS (cn : Int))) :: [(⟨ad.block, ad.off + 1, none⟩, .int .u8 b1)])) : List (Addr × Value)), p.1.block ≠ _ := S15.ne_new hHeld
          have hP := hHeld
          clear hHeld
          refine hK.out _ _ hH (fun hHeld => ?_)
          clear hH
          clear hK K
          refine oneH (i := 9) (N := some 103) #[true, true, true, true, true, true, true, true, true, true, true, false, false, true, true, true, true, true, false, true, false] rfl rfl (by kernel_rfl) (fun K hK => ?_)
          refine goes_ Try.func31 (by kernel_rfl) rfl #[] (by rfl) rfl rfl (by (try simp only [List.map_toArray, List.map_cons, List.map_nil]); first | done | rfl) ?_
          with_reducible refine (serinetteref17_Depths.calls DEPTHS _ ?hf).mono ?_
          (case hf => rfl)
          rintro e w31 ⟨v31, rfl, hr, hb⟩
          obtain ⟨A31, c31_, rfl⟩ := Kd.R_slice hr
          obtain ⟨ad31, rfl, xb31⟩ := Kd.at_int (Kd.R_reads' hr).2.2 (dn : Int) (by omega) (kdn)
          rw [Int.toNat_natCast] at xb31
          refine ⟨_, rfl, ?_⟩
          have hH := S15.below hHeld hb
          have hN9 := ne_cons hN (n := dn) (v := .int .i64 (rd DEPTHS (dn : Int))) (Nat.ne_of_gt (Nat.lt_of_lt_of_le (blk_lt hF.2) (Kd.R_base hr _ rfl)))
          have hF9 := fr_below hF hb
          clear hHeld hb hr
          refine hK.out _ _ hH (fun hHeld' => ?_)
          clear hK K
          refine normH (a' := ?_) ?_ ?_
          rotate_left
          · show Act.put _ (some 103) _ = _
            simp only [Act.put, List.setIfInBounds_toArray, List.set_cons_zero, List.set_cons_succ]
            rfl
          refine strH (S2 := S15 w g5 ((ad31.add dn, .int .i64 (rd DEPTHS (dn : Int))) :: ((ad30.add rn, .int .i64 (rd RATES (rn : Int))) :: ((ad29.add cn, .int .i64 (rd BLOCKS (cn : Int))) :: [(⟨ad.block, ad.off + 1, none⟩, .int .u8 b1)])))) (fun _ h => S15.tl h) ?_
          have hHeld := S15.add hHeld' xb31
          clear hHeld' xb31 hH
          refine takeH (i := 11) (N := some 105) (v := ?_) (a' := ?_) #[true, true, true, true, true, true, true, true, true, true, true, true, false, true, true, true, true, true, false, true, false] rfl rfl (by kernel_rfl) (fun _ _ _ h => h) (Or.inl ⟨by rfl, ?_⟩) hHeld ?_ ?_
          rotate_left
          · intro w' s0
            go_simp
            all_goals (with_reducible rfl)
          rotate_left
          · simp only [Act.put, List.setIfInBounds_toArray, List.set_cons_zero, List.set_cons_succ]
            rfl
          refine takeH (i := 12) (N := some 106) (v := ?_) (a' := ?_) #[true, true, true, true, true, true, true, true, true, true, true, true, true, true, true, true, true, true, false, true, false] rfl rfl (by kernel_rfl) (fun _ _ _ h => h) (Or.inl ⟨by rfl, ?_⟩) hHeld ?_ ?_
          rotate_left
          · intro w' s0
            have s1 := S15.hd s0
            go_simp
            all_goals (with_reducible rfl)
          rotate_left
          · simp only [Act.put, List.setIfInBounds_toArray, List.set_cons_zero, List.set_cons_succ]
            rfl
          refine takeH (i := 18) (N := some 112) (v := ?_) (a' := ?_) #[true, true, true, true, true, true, true, true, true, true, true, true, true, true, true, true, true, true, true, true, false] rfl rfl (by kernel_rfl) (fun _ _ _ h => h) (Or.inl ⟨by rfl, ?_⟩) hHeld ?_ ?_
          rotate_left
          · intro w' s0
            go_simp
            all_goals (with_reducible rfl)
          rotate_left
          · simp only [Act.put, List.setIfInBounds_toArray, List.set_cons_zero, List.set_cons_succ]
            rfl
          refine oneH (i := 20) (N := none) #[true, true, true, true, true, true, true, true, true, true, true, true, true, true, true, true, true, true, true, true, true] rfl rfl (by kernel_rfl) (fun K hK => ?_)
          have v0_ := blk_frozen hF9.2 0
          have v1_ := blk_frozen hF9.2 1
          have v2_ := blk_frozen hF9.2 2
          have v3_ := blk_frozen hF9.2 3
          have v4_ := blk_frozen hF9.2 4
          have v5_ := blk_frozen hF9.2 5
          obtain ⟨u0_, u1_, u2_, u3_, u4_, u5_⟩ := hcell hF9.2
          go_simp
          refine hK.out _ _ (S15.store hHeld hF9.1 hN9 _ _ _ _ _ _) (fun hHeld' => ?_)
          clear hK K
          refine doneH (by kernel_rfl) ?_
          refine NoPanic.normal ?_
          go_wp2_with fail
          go_meet
          exact ⟨_, rfl, hF9.1, blk6 hF9.2 _ _ _ _ _ _, hHeld'.1⟩
      · go_simp
        have hH := S15.alloc hHeld (Obj.cells hzero 23 (0, 0))
        have hF : Fr g5 _ _ := fr_new hHeld.1
        have hN : ∀ p ∈ (((ad29.add cn, .int .i64 (rd BLOCKS (cn : Int))) :: [(⟨ad.block, ad.off + 1, none⟩, .int .u8 b1)]) : List (Addr × Value)), p.1.block ≠ _ := S15.ne_new hHeld
        have hP := hHeld
        clear hHeld
        refine hK.out _ _ hH (fun hHeld => ?_)
        clear hH
        clear hK K
        refine oneH (i := 4) (N := some 98) #[true, true, true, true, true, true, false, false, true, false, true, false, false, true, true, true, true, true, false, true, false] rfl rfl (by kernel_rfl) (fun K hK => ?_)
        refine goes_ Try.func30 (by kernel_rfl) rfl #[] (by rfl) rfl rfl (by (try simp only [List.map_toArray, List.map_cons, List.map_nil]); first | done | rfl) ?_
        with_reducible refine (serinetteref17_Rates.calls RATES _ ?hf).mono ?_
        (case hf => rfl)
        rintro e w30 ⟨v30, rfl, hr, hb⟩
        obtain ⟨A30, c30_, rfl⟩ := Kd.R_slice hr
        obtain ⟨ad30, rfl, xb30⟩ := Kd.at_int (Kd.R_reads' hr).2.2 (rn : Int) (by omega) (krn)
        rw [Int.toNat_natCast] at xb30
        refine ⟨_, rfl, ?_⟩
        have hH := S15.below hHeld hb
        have hN4 := ne_cons hN (n := rn) (v := .int .i64 (rd RATES (rn : Int))) (Nat.ne_of_gt (Nat.lt_of_lt_of_le (blk_lt hF.2) (Kd.R_base hr _ rfl)))
        have hF4 := fr_below hF hb
        clear hHeld hb hr
        refine hK.out _ _ hH (fun hHeld' => ?_)
        clear hK K
        refine normH (a' := ?_) ?_ ?_
        rotate_left
        · show Act.put _ (some 98) _ = _
          simp only [Act.put, List.setIfInBounds_toArray, List.set_cons_zero, List.set_cons_succ]
          rfl
        refine strH (S2 := S15 w g5 ((ad30.add rn, .int .i64 (rd RATES (rn : Int))) :: ((ad29.add cn, .int .i64 (rd BLOCKS (cn : Int))) :: [(⟨ad.block, ad.off + 1, none⟩, .int .u8 b1)]))) (fun _ h => S15.tl h) ?_
        have hHeld := S15.add hHeld' xb30
        clear hHeld' xb30 hH
        refine takeH (i := 6) (N := some 100) (v := ?_) (a' := ?_) #[true, true, true, true, true, true, true, false, true, false, true, false, false, true, true, true, true, true, false, true, false] rfl rfl (by kernel_rfl) (fun _ _ _ h => h) (Or.inl ⟨by rfl, ?_⟩) hHeld ?_ ?_
        rotate_left
        · intro w' s0
          go_simp
          all_goals (with_reducible rfl)
        rotate_left
        · simp only [Act.put, List.setIfInBounds_toArray, List.set_cons_zero, List.set_cons_succ]
          rfl
        refine takeH (i := 7) (N := some 101) (v := ?_) (a' := ?_) #[true, true, true, true, true, true, true, true, true, false, true, false, false, true, true, true, true, true, false, true, false] rfl rfl (by kernel_rfl) (fun _ _ _ h => h) (Or.inl ⟨by rfl, ?_⟩) hHeld ?_ ?_
        rotate_left
        · intro w' s0
          have s1 := S15.hd s0
          go_simp
          all_goals (with_reducible rfl)
        rotate_left
        · simp only [Act.put, List.setIfInBounds_toArray, List.set_cons_zero, List.set_cons_succ]
          rfl
        refine oneH (i := 9) (N := some 103) #[true, true, true, true, true, true, true, true, true, true, true, false, false, true, true, true, true, true, false, true, false] rfl rfl (by kernel_rfl) (fun K hK => ?_)
        refine goes_ Try.func31 (by kernel_rfl) rfl #[] (by rfl) rfl rfl (by (try simp only [List.map_toArray, List.map_cons, List.map_nil]); first | done | rfl) ?_
        with_reducible refine (serinetteref17_Depths.calls DEPTHS _ ?hf).mono ?_
        (case hf => rfl)
        rintro e w31 ⟨v31, rfl, hr, hb⟩
        obtain ⟨A31, c31_, rfl⟩ := Kd.R_slice hr
        obtain ⟨ad31, rfl, xb31⟩ := Kd.at_int (Kd.R_reads' hr).2.2 (dn : Int) (by omega) (kdn)
        rw [Int.toNat_natCast] at xb31
        refine ⟨_, rfl, ?_⟩
        have hH := S15.below hHeld hb
        have hN9 := ne_cons hN4 (n := dn) (v := .int .i64 (rd DEPTHS (dn : Int))) (Nat.ne_of_gt (Nat.lt_of_lt_of_le (blk_lt hF4.2) (Kd.R_base hr _ rfl)))
        have hF9 := fr_below hF4 hb
        clear hHeld hb hr
        refine hK.out _ _ hH (fun hHeld' => ?_)
        clear hK K
        refine normH (a' := ?_) ?_ ?_
        rotate_left
        · show Act.put _ (some 103) _ = _
          simp only [Act.put, List.setIfInBounds_toArray, List.set_cons_zero, List.set_cons_succ]
          rfl
        refine strH (S2 := S15 w g5 ((ad31.add dn, .int .i64 (rd DEPTHS (dn : Int))) :: ((ad30.add rn, .int .i64 (rd RATES (rn : Int))) :: ((ad29.add cn, .int .i64 (rd BLOCKS (cn : Int))) :: [(⟨ad.block, ad.off + 1, none⟩, .int .u8 b1)])))) (fun _ h => S15.tl h) ?_
        have hHeld := S15.add hHeld' xb31
        clear hHeld' xb31 hH
        refine takeH (i := 11) (N := some 105) (v := ?_) (a' := ?_) #[true, true, true, true, true, true, true, true, true, true, true, true, false, true, true, true, true, true, false, true, false] rfl rfl (by kernel_rfl) (fun _ _ _ h => h) (Or.inl ⟨by rfl, ?_⟩) hHeld ?_ ?_
        rotate_left
        · intro w' s0
          go_simp
          all_goals (with_reducible rfl)
        rotate_left
        · simp only [Act.put, List.setIfInBounds_toArray, List.set_cons_zero, List.set_cons_succ]
          rfl
        refine takeH (i := 12) (N := some 106) (v := ?_) (a' := ?_) #[true, true, true, true, true, true, true, true, true, true, true, true, true, true, true, true, true, true, false, true, false] rfl rfl (by kernel_rfl) (fun _ _ _ h => h) (Or.inl ⟨by rfl, ?_⟩) hHeld ?_ ?_
        rotate_left
        · intro w' s0
          have s1 := S15.hd s0
          go_simp
          all_goals (with_reducible rfl)
        rotate_left
        · simp only [Act.put, List.setIfInBounds_toArray, List.set_cons_zero, List.set_cons_succ]
          rfl
        refine takeH (i := 18) (N := some 112) (v := ?_) (a' := ?_) #[true, true, true, true, true, true, true, true, true, true, true, true, true, true, true, true, true, true, true, true, false] rfl rfl (by kernel_rfl) (fun _ _ _ h => h) (Or.inl ⟨by rfl, ?_⟩) hHeld ?_ ?_
        rotate_left
        · intro w' s0
          go_simp
          all_goals (with_reducible rfl)
        rotate_left
        · simp only [Act.put, List.setIfInBounds_toArray, List.set_cons_zero, List.set_cons_succ]
          rfl
        refine oneH (i := 20) (N := none) #[true, true, true, true, true, true, true, true, true, true, true, true, true, true, true, true, true, true, true, true, true] rfl rfl (by kernel_rfl) (fun K hK => ?_)
        have v0_ := blk_frozen hF9.2 0
        have v1_ := blk_frozen hF9.2 1
        have v2_ := blk_frozen hF9.2 2
        have v3_ := blk_frozen hF9.2 3
        have v4_ := blk_frozen hF9.2 4
        have v5_ := blk_frozen hF9.2 5
        obtain ⟨u0_, u1_, u2_, u3_, u4_, u5_⟩ := hcell hF9.2
        go_simp
        refine hK.out _ _ (S15.store hHeld hF9.1 hN9 _ _ _ _ _ _) (fun hHeld' => ?_)
        clear hK K
        refine doneH (by kernel_rfl) ?_
        refine NoPanic.normal ?_
        go_wp2_with fail
        go_meet
        exact ⟨_, rfl, hF9.1, blk6 hF9.2 _ _ _ _ _ _, hHeld'.1⟩
    · go_simp
      have hH := S15.alloc hHeld (Obj.cells hzero 23 (0, 0))
      have hF : Fr g5 _ w40.heap.size := fr_new (W := w40.drew) hHeld.1
      have hN : ∀ p ∈ ([(⟨ad.block, ad.off + 1, none⟩, .int .u8 b1)] : List (Addr × Value)), p.1.block ≠ w40.heap.size := S15.ne_new (W := w40.drew) hHeld
      have hP := hHeld
      clear hHeld
      refine hK.out _ _ hH (fun hHeld => ?_)
      clear hH
      clear hK K
      refine oneH (i := 0) (N := some 94) #[true, true, false, false, false, true, false, false, true, false, true, false, false, true, true, true, true, true, false, true, false] rfl rfl (by kernel_rfl) (fun K hK => ?_)
      refine goes_ Try.func29 (by kernel_rfl) rfl #[] (by rfl) rfl rfl (by (try simp only [List.map_toArray, List.map_cons, List.map_nil]); first | done | rfl) ?_
      with_reducible refine (serinetteref17_Blocks.calls BLOCKS _ ?hf).mono ?_
      (case hf => rfl)
      rintro e w29 ⟨v29, rfl, hr, hb⟩
      obtain ⟨A29, c29_, rfl⟩ := Kd.R_slice hr
      obtain ⟨ad29, rfl, xb29⟩ := Kd.at_int (Kd.R_reads' hr).2.2 (cn : Int) (by omega) (kcn)
      rw [Int.toNat_natCast] at xb29
      refine ⟨_, rfl, ?_⟩
      have hH := S15.below hHeld hb
      have hN0 := ne_cons hN (n := cn) (v := .int .i64 (rd BLOCKS (cn : Int))) (Nat.ne_of_gt (Nat.lt_of_lt_of_le (blk_lt hF.2) (Kd.R_base hr _ rfl)))
      have hF0 := fr_below hF hb
      clear hHeld hb hr
      refine hK.out _ _ hH (fun hHeld' => ?_)
      clear hK K
      refine normH (a' := ?_) ?_ ?_
      rotate_left
      · show Act.put _ (some 94) _ = _
        simp only [Act.put, List.setIfInBounds_toArray, List.set_cons_zero, List.set_cons_succ]
        rfl
      refine strH (S2 := S15 w g5 ((ad29.add cn, .int .i64 (rd BLOCKS (cn : Int))) :: [(⟨ad.block, ad.off + 1, none⟩, .int .u8 b1)])) (fun _ h => S15.tl h) ?_
      have hHeld := S15.add hHeld' xb29
      clear hHeld' xb29 hH
      refine takeH (i := 2) (N := some 96) (v := ?_) (a' := ?_) #[true, true, true, false, false, true, false, false, true, false, true, false, false, true, true, true, true, true, false, true, false] rfl rfl (by kernel_rfl) (fun _ _ _ h => h) (Or.inl ⟨by rfl, ?_⟩) hHeld ?_ ?_
      rotate_left
      · intro w' s0
        go_simp
        all_goals (with_reducible rfl)
      rotate_left
      · simp only [Act.put, List.setIfInBounds_toArray, List.set_cons_zero, List.set_cons_succ]
        rfl
      refine takeH (i := 3) (N := some 97) (v := ?_) (a' := ?_) #[true, true, true, true, false, true, false, false, true, false, true, false, false, true, true, true, true, true, false, true, false] rfl rfl (by kernel_rfl) (fun _ _ _ h => h) (Or.inl ⟨by rfl, ?_⟩) hHeld ?_ ?_
      rotate_left
      · intro w' s0
        have s1 := S15.hd s0
        go_simp
        all_goals (with_reducible rfl)
      rotate_left
      · simp only [Act.put, List.setIfInBounds_toArray, List.set_cons_zero, List.set_cons_succ]
        rfl
      refine oneH (i := 4) (N := some 98) #[true, true, true, true, true, true, false, false, true, false, true, false, false, true, true, true, true, true, false, true, false] rfl rfl (by kernel_rfl) (fun K hK => ?_)
      refine goes_ Try.func30 (by kernel_rfl) rfl #[] (by rfl) rfl rfl (by (try simp only [List.map_toArray, List.map_cons, List.map_nil]); first | done | rfl) ?_
      with_reducible refine (serinetteref17_Rates.calls RATES _ ?hf).mono ?_
      (case hf => rfl)
      rintro e w30 ⟨v30, rfl, hr, hb⟩
      obtain ⟨A30, c30_, rfl⟩ := Kd.R_slice hr
      obtain ⟨ad30, rfl, xb30⟩ := Kd.at_int (Kd.R_reads' hr).2.2 (rn : Int) (by omega) (krn)
      rw [Int.toNat_natCast] at xb30
      refine ⟨_, rfl, ?_⟩
      have hH := S15.below hHeld hb
      have hN4 := ne_cons hN0 (n := rn) (v := .int .i64 (rd RATES (rn : Int))) (Nat.ne_of_gt (Nat.lt_of_lt_of_le (blk_lt hF0.2) (Kd.R_base hr _ rfl)))
      have hF4 := fr_below hF0 hb
      clear hHeld hb hr
      refine hK.out _ _ hH (fun hHeld' => ?_)
      clear hK K
      refine normH (a' := ?_) ?_ ?_
      rotate_left
      · show Act.put _ (some 98) _ = _
        simp only [Act.put, List.setIfInBounds_toArray, List.set_cons_zero, List.set_cons_succ]
        rfl
      refine strH (S2 := S15 w g5 ((ad30.add rn, .int .i64 (rd RATES (rn : Int))) :: ((ad29.add cn, .int .i64 (rd BLOCKS (cn : Int))) :: [(⟨ad.block, ad.off + 1, none⟩, .int .u8 b1)]))) (fun _ h => S15.tl h) ?_
      have hHeld := S15.add hHeld' xb30
      clear hHeld' xb30 hH
      refine takeH (i := 6) (N := some 100) (v := ?_) (a' := ?_) #[true, true, true, true, true, true, true, false, true, false, true, false, false, true, true, true, true, true, false, true, false] rfl rfl (by kernel_rfl) (fun _ _ _ h => h) (Or.inl ⟨by rfl, ?_⟩) hHeld ?_ ?_
      rotate_left
      · intro w' s0
        go_simp
        all_goals (with_reducible rfl)
      rotate_left
      · simp only [Act.put, List.setIfInBounds_toArray, List.set_cons_zero, List.set_cons_succ]
        rfl
      refine takeH (i := 7) (N := some 101) (v := ?_) (a' := ?_) #[true, true, true, true, true, true, true, true, true, false, true, false, false, true, true, true, true, true, false, true, false] rfl rfl (by kernel_rfl) (fun _ _ _ h => h) (Or.inl ⟨by rfl, ?_⟩) hHeld ?_ ?_
      rotate_left
      · intro w' s0
        have s1 := S15.hd s0
        go_simp
        all_goals (with_reducible rfl)
      rotate_left
      · simp only [Act.put, List.setIfInBounds_toArray, List.set_cons_zero, List.set_cons_succ]
        rfl
      refine oneH (i := 9) (N := some 103) #[true, true, true, true, true, true, true, true, true, true, true, false, false, true, true, true, true, true, false, true, false] rfl rfl (by kernel_rfl) (fun K hK => ?_)
      refine goes_ Try.func31 (by kernel_rfl) rfl #[] (by rfl) rfl rfl (by (try simp only [List.map_toArray, List.map_cons, List.map_nil]); first | done | rfl) ?_
      with_reducible refine (serinetteref17_Depths.calls DEPTHS _ ?hf).mono ?_
      (case hf => rfl)
      rintro e w31 ⟨v31, rfl, hr, hb⟩
      obtain ⟨A31, c31_, rfl⟩ := Kd.R_slice hr
      obtain ⟨ad31, rfl, xb31⟩ := Kd.at_int (Kd.R_reads' hr).2.2 (dn : Int) (by omega) (kdn)
      rw [Int.toNat_natCast] at xb31
      refine ⟨_, rfl, ?_⟩
      have hH := S15.below hHeld hb
      have hN9 := ne_cons hN4 (n := dn) (v := .int .i64 (rd DEPTHS (dn : Int))) (Nat.ne_of_gt (Nat.lt_of_lt_of_le (blk_lt hF4.2) (Kd.R_base hr _ rfl)))
      have hF9 := fr_below hF4 hb
      clear hHeld hb hr
      refine hK.out _ _ hH (fun hHeld' => ?_)
      clear hK K
      refine normH (a' := ?_) ?_ ?_
      rotate_left
      · show Act.put _ (some 103) _ = _
        simp only [Act.put, List.setIfInBounds_toArray, List.set_cons_zero, List.set_cons_succ]
        rfl
      refine strH (S2 := S15 w g5 ((ad31.add dn, .int .i64 (rd DEPTHS (dn : Int))) :: ((ad30.add rn, .int .i64 (rd RATES (rn : Int))) :: ((ad29.add cn, .int .i64 (rd BLOCKS (cn : Int))) :: [(⟨ad.block, ad.off + 1, none⟩, .int .u8 b1)])))) (fun _ h => S15.tl h) ?_
      have hHeld := S15.add hHeld' xb31
      clear hHeld' xb31 hH
      refine takeH (i := 11) (N := some 105) (v := ?_) (a' := ?_) #[true, true, true, true, true, true, true, true, true, true, true, true, false, true, true, true, true, true, false, true, false] rfl rfl (by kernel_rfl) (fun _ _ _ h => h) (Or.inl ⟨by rfl, ?_⟩) hHeld ?_ ?_
      rotate_left
      · intro w' s0
        go_simp
        all_goals (with_reducible rfl)
      rotate_left
      · simp only [Act.put, List.setIfInBounds_toArray, List.set_cons_zero, List.set_cons_succ]
        rfl
      refine takeH (i := 12) (N := some 106) (v := ?_) (a' := ?_) #[true, true, true, true, true, true, true, true, true, true, true, true, true, true, true, true, true, true, false, true, false] rfl rfl (by kernel_rfl) (fun _ _ _ h => h) (Or.inl ⟨by rfl, ?_⟩) hHeld ?_ ?_
      rotate_left
      · intro w' s0
        have s1 := S15.hd s0
        go_simp
        all_goals (with_reducible rfl)
      rotate_left
      · simp only [Act.put, List.setIfInBounds_toArray, List.set_cons_zero, List.set_cons_succ]
        rfl
      refine takeH (i := 18) (N := some 112) (v := ?_) (a' := ?_) #[true, true, true, true, true, true, true, true, true, true, true, true, true, true, true, true, true, true, true, true, false] rfl rfl (by kernel_rfl) (fun _ _ _ h => h) (Or.inl ⟨by rfl, ?_⟩) hHeld ?_ ?_
      rotate_left
      · intro w' s0
        go_simp
        all_goals (with_reducible rfl)
      rotate_left
      · simp only [Act.put, List.setIfInBounds_toArray, List.set_cons_zero, List.set_cons_succ]
        rfl
      refine oneH (i := 20) (N := none) #[true, true, true, true, true, true, true, true, true, true, true, true, true, true, true, true, true, true, true, true, true] rfl rfl (by kernel_rfl) (fun K hK => ?_)
      have v0_ := blk_frozen hF9.2 0
      have v1_ := blk_frozen hF9.2 1
      have v2_ := blk_frozen hF9.2 2
      have v3_ := blk_frozen hF9.2 3
      have v4_ := blk_frozen hF9.2 4
      have v5_ := blk_frozen hF9.2 5
      obtain ⟨u0_, u1_, u2_, u3_, u4_, u5_⟩ := hcell hF9.2
      go_simp
      refine hK.out _ _ (S15.store hHeld hF9.1 hN9 _ _ _ _ _ _) (fun hHeld' => ?_)
      clear hK K
      refine doneH (by kernel_rfl) ?_
      refine NoPanic.normal ?_
      go_wp2_with fail
      go_meet
      exact ⟨_, rfl, hF9.1, blk6 hF9.2 _ _ _ _ _ _, hHeld'.1⟩
  case rest =>
    obtain ⟨g, rfl, hg, hB13, hrt⟩ := hcut
    have HB13 := Aside0.mk hB13
    have HZ4 := Aside0.mk hrt
    have ht := HT.out
    have hG := HG.out
    unfold rTail at ht
    clear hB13 hrt n1 n2 n3 m1 m2 m3 n1' n2' n3' m1' m2' m3'
    by_cases hw : n > 2147483647 ∧ (b1 == 249) = false
    · rw [if_pos hw] at ht
      cases ht
      have g1 : decide (n > 2147483647) = true := decide_eq_true hw.1
      have g2 := hw.2
      obtain ⟨u0_, u1_, u2_, u3_, u4_, u5_⟩ := hcell HB13.out
      obtain ⟨o0_, o1_, o2_, o3_, o4_, o5_⟩ := hcell HZ4.out.1
      obtain ⟨t0_, t1_, t2_, t3_, t4_, t5_⟩ := hcell HZ4.out.2.1
      have v0_ := blk_frozen HZ4.out.1 0
      have v1_ := blk_frozen HZ4.out.1 1
      have v2_ := blk_frozen HZ4.out.1 2
      have v3_ := blk_frozen HZ4.out.1 3
      have v4_ := blk_frozen HZ4.out.1 4
      have v5_ := blk_frozen HZ4.out.1 5
      clear hw hG
      go_wp2
      exact rtake_ret rfl rfl rfl rfl (blk6 HZ4.out.1 _ _ _ _ _ _) rfl (below6 HZ4.out.2.2.2 (Nat.le_refl _) _ _ _ _ _ _)
    rw [if_neg hw] at ht
    split at ht
    case isFalse => cases ht
    rename_i hxy
    obtain ⟨nx, hnx⟩ : ∃ nx, rd NEEDL (cn : Int) = nx := ⟨_, rfl⟩
    obtain ⟨ny, hny⟩ : ∃ ny, rd ALSOL (rn : Int) = ny := ⟨_, rfl⟩
    rw [hnx, hny] at ht hxy
    obtain ⟨a, ha⟩ := Int.eq_ofNat_of_zero_le (show 0 ≤ 4 + z by omega)
    obtain ⟨E, hE⟩ := Int.eq_ofNat_of_zero_le (show 0 ≤ 4 + z + nx + ny by omega)
    rw [hE, ha] at ht
    simp only [Int.toNat_natCast] at ht
    have HAB := Aside0.mk (show 4 ≤ a ∧ a ≤ E ∧ (E : Int) = a + nx + ny ∧ 0 ≤ nx ∧ nx ≤ 2 ∧ 0 ≤ ny ∧ ny ≤ 2 by omega)
    have wa : -9223372036854775808 ≤ 4 + z ∧ 4 + z ≤ 9223372036854775807 := by omega
    have wb : -9223372036854775808 ≤ (a : Int) + nx ∧ (a : Int) + nx ≤ 9223372036854775807 := by omega
    have wc_ : -9223372036854775808 ≤ (a : Int) + nx + ny ∧ (a : Int) + nx + ny ≤ 9223372036854775807 := by omega
    have wd : -9223372036854775808 ≤ (E : Int) + 1 ∧ (E : Int) + 1 ≤ 9223372036854775807 := by omega
    have we : (a : Int) + nx + ny = E := by omega
    have az : wrap64 (4 + z) = (a : Int) := (w64 _ wa).trans ha
    have ax : wrap64 ((a : Int) + nx) = (a : Int) + nx := w64 _ wb
    have ay : wrap64 ((a : Int) + nx + ny) = (E : Int) := (w64 _ wc_).trans we
    have aE : wrap64 ((E : Int) + 1) = (E : Int) + 1 := w64 _ wd
    have HAR := Aside0.mk (And.intro az (And.intro ax (And.intro ay aE)))
    clear wa wb wc_ wd we az ax ay aE
    go_upto_region 16 with fail
    go_cut [119] from 229 to 229 (fun s W => s = .bool false ∧ W = wc)
    case first =>
      obtain ⟨u0_, u1_, u2_, u3_, u4_, u5_⟩ := hcell HB13.out
      by_cases hn : n > 2147483647
      · have g1 : decide (n > 2147483647) = true := decide_eq_true hn
        have g2 : (b1 == 249) = true := by
          cases h : (b1 == 249)
          · exact (hw ⟨hn, h⟩).elim
          · rfl
        clear hw hn ht hG hxy ha hE
        go_wp2_with fail
        go_meet
        exact ⟨rfl, rfl⟩
      · have g1 : decide (n > 2147483647) = false := decide_eq_false hn
        clear hw hn ht hG hxy ha hE
        go_wp2_with fail
        go_meet
        exact ⟨rfl, rfl⟩
    case rest =>
    obtain ⟨rfl, rfl⟩ := hcut
    have HT2 := Aside0.mk ht
    have HNX := Aside0.mk hnx
    have HNY := Aside0.mk hny
    clear hw ht hG hxy ha hE hnx hny
    have need := need_at cn HG.out.1
    have also := also_at rn HG.out.2.1
    rw [HNX.out] at need
    rw [HNY.out] at also
    obtain ⟨az, ax, ay, aE⟩ := HAR.out
    go_upto_region 22 with fail
    simp only [ax, ay]
    have HB5 := Aside0.mk (blk_alloc (blk_alloc HB13.out NEEDB) ALSOB)
    have HZ5 := Aside0.mk ((HZ4.out.alloc NEEDB).alloc ALSOB)
    generalize ((wc.alloc NEEDB).alloc ALSOB) = W5 at *
    clear HB13 HZ4 need also az ax ay
    have ht := HT2.out
    by_cases hl : (l.length : Int) < (E : Int) + 1
    · rw [if_pos hl] at ht
      cases ht
      have g3 : decide ((l.length : Int) < (E : Int) + 1) = true := decide_eq_true hl
      clear hl
      obtain ⟨o0_, o1_, o2_, o3_, o4_, o5_⟩ := hcell HZ5.out.1
      obtain ⟨t0_, t1_, t2_, t3_, t4_, t5_⟩ := hcell HZ5.out.2.1
      have v0_ := blk_frozen HZ5.out.1 0
      have v1_ := blk_frozen HZ5.out.1 1
      have v2_ := blk_frozen HZ5.out.1 2
      have v3_ := blk_frozen HZ5.out.1 3
      have v4_ := blk_frozen HZ5.out.1 4
      have v5_ := blk_frozen HZ5.out.1 5
      go_wp2
      exact rtake_ret rfl rfl rfl rfl (blk6 HZ5.out.1 _ _ _ _ _ _) rfl (below6 HZ5.out.2.2.2 (Nat.le_refl _) _ _ _ _ _ _)
    rw [if_neg hl] at ht
    clear aE
    have g3 : decide ((l.length : Int) < (E : Int) + 1) = false := decide_eq_false hl
    have HLT := Aside0.mk (show E < l.length by omega)
    have HT3 := Aside0.mk ht
    clear ht hl
    have HU : Aside0 (UW w g5 g (hcells (rd BLOCKS (cn : Int)) (rd RATES (rn : Int)) cm (rd DEPTHS (dn : Int)) n (b1 == 249)) W5) := ⟨hg, HB5.out, HZ5.out⟩
    clear HB5 HZ5
    have aE := HAR.out.2.2.2
    go_upto_if 143 with fail
    clear aE
    go_cut [] from 142 to 143 (fun W => UW w g5 g (hcells (rB1 l a nx (cn : Int)) (rd RATES (rn : Int)) cm (rd DEPTHS (dn : Int)) n (b1 == 249)) W)
    case first =>
      obtain ⟨u0_, u1_, u2_, u3_, u4_, u5_⟩ := hcell HU.out.2.1
      have v0_ := blk_frozen HU.out.2.1 0
      by_cases hx : nx = 1
      · have gx : (nx == 1) = true := beq_iff_eq.mpr hx
        have p1 : (a < l.length) = True := eq_true (by have := HAB.out; have := HLT.out; omega)
        have p2 : ((a : Int) < (l.length : Int)) = True := eq_true (by have := HAB.out; have := HLT.out; omega)
        have xa := atC HR.out HU.out.2.2.2.2.2 a (by have := HAB.out; omega) (by have := HAB.out; have := HLT.out; omega)
        have e : rB1 l a nx (cn : Int) = wrap64 (wrap64 (rd l (a : Int)) + 1) := rB1_pos hx
        have HE := Aside0.mk e
        clear e hx
        go_wp2_with fail
        go_meet
        exact UW.eqB (HU.out.set0 _) HE.out
      · have gx : (nx == 1) = false := beq_eq_false_iff_ne.mpr hx
        have e : rB1 l a nx (cn : Int) = rd BLOCKS (cn : Int) := rB1_neg hx
        have HE := Aside0.mk e
        clear e hx
        go_wp2_with fail
        go_meet
        exact UW.eqB (HU.out) HE.out
    case rest =>
    have HU1 := Aside0.mk hcut
    clear hcut HU
    go_upto_if 152 with fail
    go_cut [] from 151 to 152 (fun W => UW w g5 g (hcells (rB2 l a nx (cn : Int)) (rd RATES (rn : Int)) cm (rd DEPTHS (dn : Int)) n (b1 == 249)) W)
    case first =>
      obtain ⟨u0_, u1_, u2_, u3_, u4_, u5_⟩ := hcell HU1.out.2.1
      have v0_ := blk_frozen HU1.out.2.1 0
      by_cases hx : nx = 2
      · have gx : (nx == 2) = true := beq_iff_eq.mpr hx
        have p1 : (a < l.length) = True := eq_true (by have := HAB.out; have := HLT.out; omega)
        have p2 : ((a : Int) < (l.length : Int)) = True := eq_true (by have := HAB.out; have := HLT.out; omega)
        have hlt1 : a + 1 < l.length := by have := HAB.out; have := HLT.out; omega
        have p3 : (a + 1 < l.length) = True := eq_true hlt1
        have p4 : (((a + 1 : Nat) : Int) < (l.length : Int)) = True := eq_true (by omega)
        have wf : -9223372036854775808 ≤ (a : Int) + 1 ∧ (a : Int) + 1 ≤ 9223372036854775807 := by have := HM.out; omega
        have xa := atC HR.out HU1.out.2.2.2.2.2 a (by have := HAB.out; omega) (by omega)
        have xb := atC HR.out HU1.out.2.2.2.2.2 (a + 1) (by omega) hlt1
        have e : rB2 l a nx (cn : Int) = wrap64 (wrap64 (wrap64 (256 * wrap64 (rd l (a : Int))) + wrap64 (rd l ((a + 1 : Nat) : Int))) + 1) := rB2_pos hx
        have HE := Aside0.mk e
        have HXA := Aside0.mk hlt1
        have hs : (a : Int) + 1 = ((a + 1 : Nat) : Int) := by omega
        have a1 : wrap64 ((a : Int) + 1) = ((a + 1 : Nat) : Int) := (w64 _ wf).trans hs
        have a1w : IntKind.i64.wrap ((a : Int) + 1) = ((a + 1 : Nat) : Int) := (i64_w _).trans a1
        clear e hx wf hlt1 hs
        generalize a + 1 = a1_ at *
        go_upto_region 27 with fail
        go_region_held3 (fun W => W.cell? (ad.add a) = some (.int .u8 (rd l (a : Int))) ∧ W.cell? (ad.add a1_) = some (.int .u8 (rd l (a1_ : Int))))
          ((first | exact ⟨cell_drew xa, cell_drew xb⟩ | exact ⟨cell_far6 HR.out (Nat.lt_of_le_of_lt (Nat.zero_le _) HLT.out) HU1.out xa, cell_far6 HR.out (Nat.lt_of_le_of_lt (Nat.zero_le _) HLT.out) HU1.out xb⟩))
          (fail)
        all_goals go_wp2_with fail
        all_goals go_meet
        all_goals (try simp only [i64_w])
        all_goals exact UW.eqB (HU1.out.drew.set0 _) HE.out
      · have gx : (nx == 2) = false := beq_eq_false_iff_ne.mpr hx
        have e : rB2 l a nx (cn : Int) = rB1 l a nx (cn : Int) := rB2_neg hx
        have HE := Aside0.mk e
        clear e hx
        go_wp2_with fail
        go_meet
        exact UW.eqB (HU1.out) HE.out
    case rest =>
    have HU2 := Aside0.mk hcut
    clear hcut HU1
    go_upto_if 169 with fail
    go_cut [] from 168 to 169 (fun W => UW w g5 g (hcells (rB2 l a nx (cn : Int)) (rR1 l E (rn : Int)) cm (rd DEPTHS (dn : Int)) n (b1 == 249)) W)
    case first =>
      obtain ⟨u0_, u1_, u2_, u3_, u4_, u5_⟩ := hcell HU2.out.2.1
      have v1_ := blk_frozen HU2.out.2.1 1
      by_cases hx : (rn : Int) = 12
      · have hx' : rn = 12 := by omega
        have gx : ((rn : Int) == 12) = true := beq_iff_eq.mpr hx
        have gx2 : (rn == 12) = true := beq_iff_eq.mpr hx'
        have hE1 : E - 1 < l.length := by have := HLT.out; omega
        have hE2 : E - 2 < l.length := by have := HLT.out; omega
        have hb1 : 0 < E - 1 := by have := HAB.out; omega
        have hb2 : 0 < E - 2 := by have := HAB.out; omega
        have k1 : (E : Int) - 1 = ((E - 1 : Nat) : Int) := by omega
        have k2 : (E : Int) - 2 = ((E - 2 : Nat) : Int) := by omega
        have w1 : -9223372036854775808 ≤ (E : Int) - 1 ∧ (E : Int) - 1 ≤ 9223372036854775807 := by have := HM.out; have := HLT.out; omega
        have w2 : -9223372036854775808 ≤ (E : Int) - 2 ∧ (E : Int) - 2 ≤ 9223372036854775807 := by have := HM.out; have := HLT.out; omega
        have p1 : (E - 1 < l.length) = True := eq_true hE1
        have p2 : (((E - 1 : Nat) : Int) < (l.length : Int)) = True := eq_true (by omega)
        have p3 : (E - 2 < l.length) = True := eq_true hE2
        have p4 : (((E - 2 : Nat) : Int) < (l.length : Int)) = True := eq_true (by omega)
        have xa := atC HR.out HU2.out.2.2.2.2.2 (E - 1) hb1 hE1
        have xb := atC HR.out HU2.out.2.2.2.2.2 (E - 2) hb2 hE2
        have e : rR1 l E (rn : Int) = wrap64 (1000 * wrap64 (rd l ((E - 1 : Nat) : Int))) := rR1_pos hx
        have HE := Aside0.mk e
        have HX := Aside0.mk hx'
        have d1 : wrap64 ((E : Int) - 1) = ((E - 1 : Nat) : Int) := (w64 _ w1).trans k1
        have d2 : wrap64 ((E : Int) - 2) = ((E - 2 : Nat) : Int) := (w64 _ w2).trans k2
        have d1w : IntKind.i64.wrap ((E : Int) - 1) = ((E - 1 : Nat) : Int) := (i64_w _).trans d1
        have d2w : IntKind.i64.wrap ((E : Int) - 2) = ((E - 2 : Nat) : Int) := (i64_w _).trans d2
        clear e hx hx' w1 w2 k1 k2 hE1 hE2 hb1 hb2
        generalize E - 1 = E1_ at *
        generalize E - 2 = E2_ at *
        go_wp2_with fail
        go_meet
        exact UW.eqR (HU2.out.set1 _) HE.out
      · have hx' : ¬ rn = 12 := by omega
        have gx : ((rn : Int) == 12) = false := beq_eq_false_iff_ne.mpr hx
        have gx2 : (rn == 12) = false := beq_eq_false_iff_ne.mpr hx'
        have e : rR1 l E (rn : Int) = rd RATES (rn : Int) := rR1_neg hx
        have HE := Aside0.mk e
        clear e hx hx'
        go_wp2_with fail
        go_meet
        exact UW.eqR (HU2.out) HE.out
    case rest =>
    have HU3 := Aside0.mk hcut
    clear hcut HU2
    go_upto_if 179 with fail
    go_cut [] from 178 to 179 (fun W => UW w g5 g (hcells (rB2 l a nx (cn : Int)) (rR2 l E (rn : Int)) cm (rd DEPTHS (dn : Int)) n (b1 == 249)) W)
    case first =>
      obtain ⟨u0_, u1_, u2_, u3_, u4_, u5_⟩ := hcell HU3.out.2.1
      have v1_ := blk_frozen HU3.out.2.1 1
      by_cases hx : (rn : Int) = 13
      · have hx' : rn = 13 := by omega
        have gx : ((rn : Int) == 13) = true := beq_iff_eq.mpr hx
        have gx2 : (rn == 13) = true := beq_iff_eq.mpr hx'
        have hE1 : E - 1 < l.length := by have := HLT.out; omega
        have hE2 : E - 2 < l.length := by have := HLT.out; omega
        have hb1 : 0 < E - 1 := by have := HAB.out; omega
        have hb2 : 0 < E - 2 := by have := HAB.out; omega
        have k1 : (E : Int) - 1 = ((E - 1 : Nat) : Int) := by omega
        have k2 : (E : Int) - 2 = ((E - 2 : Nat) : Int) := by omega
        have w1 : -9223372036854775808 ≤ (E : Int) - 1 ∧ (E : Int) - 1 ≤ 9223372036854775807 := by have := HM.out; have := HLT.out; omega
        have w2 : -9223372036854775808 ≤ (E : Int) - 2 ∧ (E : Int) - 2 ≤ 9223372036854775807 := by have := HM.out; have := HLT.out; omega
        have p1 : (E - 1 < l.length) = True := eq_true hE1
        have p2 : (((E - 1 : Nat) : Int) < (l.length : Int)) = True := eq_true (by omega)
        have p3 : (E - 2 < l.length) = True := eq_true hE2
        have p4 : (((E - 2 : Nat) : Int) < (l.length : Int)) = True := eq_true (by omega)
        have xa := atC HR.out HU3.out.2.2.2.2.2 (E - 1) hb1 hE1
        have xb := atC HR.out HU3.out.2.2.2.2.2 (E - 2) hb2 hE2
        have e : rR2 l E (rn : Int) = wrap64 (wrap64 (256 * wrap64 (rd l ((E - 2 : Nat) : Int))) + wrap64 (rd l ((E - 1 : Nat) : Int))) := rR2_pos hx
        have HE := Aside0.mk e
        have HX := Aside0.mk hx'
        have d1 : wrap64 ((E : Int) - 1) = ((E - 1 : Nat) : Int) := (w64 _ w1).trans k1
        have d2 : wrap64 ((E : Int) - 2) = ((E - 2 : Nat) : Int) := (w64 _ w2).trans k2
        have d1w : IntKind.i64.wrap ((E : Int) - 1) = ((E - 1 : Nat) : Int) := (i64_w _).trans d1
        have d2w : IntKind.i64.wrap ((E : Int) - 2) = ((E - 2 : Nat) : Int) := (i64_w _).trans d2
        clear e hx hx' w1 w2 k1 k2 hE1 hE2 hb1 hb2
        generalize E - 1 = E1_ at *
        generalize E - 2 = E2_ at *
        go_upto_region 31 with fail
        go_region_held3 (fun W => W.cell? (ad.add E1_) = some (.int .u8 (rd l (E1_ : Int))) ∧ W.cell? (ad.add E2_) = some (.int .u8 (rd l (E2_ : Int))))
          ((first | exact ⟨cell_drew xa, cell_drew xb⟩ | exact ⟨cell_far6 HR.out (Nat.lt_of_le_of_lt (Nat.zero_le _) HLT.out) HU3.out xa, cell_far6 HR.out (Nat.lt_of_le_of_lt (Nat.zero_le _) HLT.out) HU3.out xb⟩))
          (fail)
        all_goals go_wp2_with fail
        all_goals go_meet
        all_goals (try simp only [i64_w])
        all_goals exact UW.eqR (HU3.out.drew.set1 _) HE.out
      · have hx' : ¬ rn = 13 := by omega
        have gx : ((rn : Int) == 13) = false := beq_eq_false_iff_ne.mpr hx
        have gx2 : (rn == 13) = false := beq_eq_false_iff_ne.mpr hx'
        have e : rR2 l E (rn : Int) = rR1 l E (rn : Int) := rR2_neg hx
        have HE := Aside0.mk e
        clear e hx hx'
        go_wp2_with fail
        go_meet
        exact UW.eqR (HU3.out) HE.out
    case rest =>
    have HU4 := Aside0.mk hcut
    clear hcut HU3
    go_upto_if 196 with fail
    go_cut [] from 195 to 196 (fun W => UW w g5 g (hcells (rB2 l a nx (cn : Int)) (rR3 l E (rn : Int)) cm (rd DEPTHS (dn : Int)) n (b1 == 249)) W)
    case first =>
      obtain ⟨u0_, u1_, u2_, u3_, u4_, u5_⟩ := hcell HU4.out.2.1
      have v1_ := blk_frozen HU4.out.2.1 1
      by_cases hx : (rn : Int) = 14
      · have hx' : rn = 14 := by omega
        have gx : ((rn : Int) == 14) = true := beq_iff_eq.mpr hx
        have gx2 : (rn == 14) = true := beq_iff_eq.mpr hx'
        have hE1 : E - 1 < l.length := by have := HLT.out; omega
        have hE2 : E - 2 < l.length := by have := HLT.out; omega
        have hb1 : 0 < E - 1 := by have := HAB.out; omega
        have hb2 : 0 < E - 2 := by have := HAB.out; omega
        have k1 : (E : Int) - 1 = ((E - 1 : Nat) : Int) := by omega
        have k2 : (E : Int) - 2 = ((E - 2 : Nat) : Int) := by omega
        have w1 : -9223372036854775808 ≤ (E : Int) - 1 ∧ (E : Int) - 1 ≤ 9223372036854775807 := by have := HM.out; have := HLT.out; omega
        have w2 : -9223372036854775808 ≤ (E : Int) - 2 ∧ (E : Int) - 2 ≤ 9223372036854775807 := by have := HM.out; have := HLT.out; omega
        have p1 : (E - 1 < l.length) = True := eq_true hE1
        have p2 : (((E - 1 : Nat) : Int) < (l.length : Int)) = True := eq_true (by omega)
        have p3 : (E - 2 < l.length) = True := eq_true hE2
        have p4 : (((E - 2 : Nat) : Int) < (l.length : Int)) = True := eq_true (by omega)
        have xa := atC HR.out HU4.out.2.2.2.2.2 (E - 1) hb1 hE1
        have xb := atC HR.out HU4.out.2.2.2.2.2 (E - 2) hb2 hE2
        have e : rR3 l E (rn : Int) = wrap64 (10 * wrap64 (wrap64 (256 * wrap64 (rd l ((E - 2 : Nat) : Int))) + wrap64 (rd l ((E - 1 : Nat) : Int)))) := rR3_pos hx
        have HE := Aside0.mk e
        have HX := Aside0.mk hx'
        have d1 : wrap64 ((E : Int) - 1) = ((E - 1 : Nat) : Int) := (w64 _ w1).trans k1
        have d2 : wrap64 ((E : Int) - 2) = ((E - 2 : Nat) : Int) := (w64 _ w2).trans k2
        have d1w : IntKind.i64.wrap ((E : Int) - 1) = ((E - 1 : Nat) : Int) := (i64_w _).trans d1
        have d2w : IntKind.i64.wrap ((E : Int) - 2) = ((E - 2 : Nat) : Int) := (i64_w _).trans d2
        clear e hx hx' w1 w2 k1 k2 hE1 hE2 hb1 hb2
        generalize E - 1 = E1_ at *
        generalize E - 2 = E2_ at *
        go_upto_region 33 with fail
        go_region_held3 (fun W => W.cell? (ad.add E1_) = some (.int .u8 (rd l (E1_ : Int))) ∧ W.cell? (ad.add E2_) = some (.int .u8 (rd l (E2_ : Int))))
          ((first | exact ⟨cell_drew xa, cell_drew xb⟩ | exact ⟨cell_far6 HR.out (Nat.lt_of_le_of_lt (Nat.zero_le _) HLT.out) HU4.out xa, cell_far6 HR.out (Nat.lt_of_le_of_lt (Nat.zero_le _) HLT.out) HU4.out xb⟩))
          (fail)
        all_goals go_wp2_with fail
        all_goals go_meet
        all_goals (try simp only [i64_w])
        all_goals exact UW.eqR (HU4.out.drew.set1 _) HE.out
      · have hx' : ¬ rn = 14 := by omega
        have gx : ((rn : Int) == 14) = false := beq_eq_false_iff_ne.mpr hx
        have gx2 : (rn == 14) = false := beq_eq_false_iff_ne.mpr hx'
        have e : rR3 l E (rn : Int) = rR2 l E (rn : Int) := rR3_neg hx
        have HE := Aside0.mk e
        clear e hx hx'
        go_wp2_with fail
        go_meet
        exact UW.eqR (HU4.out) HE.out
    case rest =>
    have HU5 := Aside0.mk hcut
    clear hcut HU4
    have ht := HT3.out

    split at ht
    · rename_i hbig
      cases ht
      have gb : decide (rBlock l a nx (cn : Int) > 65535) = true := decide_eq_true hbig
      have HZ6 := Aside0.mk HU5.out.2.2
      obtain ⟨w0_, w1_, w2_, w3_, w4_, w5_⟩ := hcell HU5.out.2.1
      obtain ⟨o0_, o1_, o2_, o3_, o4_, o5_⟩ := hcell HZ6.out.1
      obtain ⟨t0_, t1_, t2_, t3_, t4_, t5_⟩ := hcell HZ6.out.2.1
      have v0_ := blk_frozen HZ6.out.1 0
      have v1_ := blk_frozen HZ6.out.1 1
      have v2_ := blk_frozen HZ6.out.1 2
      have v3_ := blk_frozen HZ6.out.1 3
      have v4_ := blk_frozen HZ6.out.1 4
      have v5_ := blk_frozen HZ6.out.1 5
      clear hbig
      go_wp2
      exact rtake_ret rfl rfl rfl rfl (blk6 HZ6.out.1 _ _ _ _ _ _) rfl (below6 HZ6.out.2.2.2 (Nat.le_refl _) _ _ _ _ _ _)
    rename_i hbig
    have gb : decide (rBlock l a nx (cn : Int) > 65535) = false := decide_eq_false hbig
    clear hbig
    obtain ⟨c, hc8, ht⟩ := Option.bind_eq_some_iff.mp ht
    obtain ⟨lx, hlx, hrun, hC, hcx⟩ := to_ex HR.out hc HM.out E HLT.out
    rw [hlx] at hc8
    have H8 := Aside0.mk hc8
    have HC1 := Aside0.mk hC
    have HC2 := Aside0.mk hcx
    have HT4 := Aside0.mk ht
    clear hc8 hC hcx hlx ht
    have p0 : (E = 0) = False := eq_false (by have := HAB.out; omega)
    have p1 : (E < l.length) = True := eq_true HLT.out
    have p2 : ((E : Int) < (l.length : Int)) = True := eq_true (by have := HLT.out; omega)
    have xE := atC HR.out HU5.out.2.2.2.2.2 E (by have := HAB.out; omega) HLT.out
    generalize rd l (E : Int) = q at *
    obtain ⟨w0_, w1_, w2_, w3_, w4_, w5_⟩ := hcell HU5.out.2.1
    go_upto_region 36 with fail
    go_cut [225] from 229 to 229 (fun s W => s = .bool (c != q) ∧ UW w g5 g (hcells (rBlock l a nx (cn : Int)) (rRate l E (rn : Int)) cm (rd DEPTHS (dn : Int)) n (b1 == 249)) W)
    case first =>
      go_region_held3 (fun W => W.cell? (ad.add E) = some (.int .u8 q) ∧ UW w g5 g (hcells (rBlock l a nx (cn : Int)) (rRate l E (rn : Int)) cm (rd DEPTHS (dn : Int)) n (b1 == 249)) W)
        (((try go_split_ands); first | exact ⟨cell_drew xE, UW.drew HU5.out⟩ | exact ⟨cell_keep ‹_› ‹_›, UW.below ‹_› ‹_›⟩ | exact ⟨‹_›, ‹_›⟩))
        (first | (go_at_call 33; go_split_ands; (have HC3 := Aside0.mk (HC1.out _ (UW.b ‹_›))); (with_reducible refine (serinetteref04_Eight.calls k 0 (some ad) cap lx c _ HC3.out HC2.out H8.out).mono ?_); rintro e' w8 ⟨rfl, hb⟩) | fail)
      all_goals go_wp2_with fail
      all_goals go_meet
      all_goals exact ⟨rfl, by go_split_ands; assumption⟩
    case rest =>
    obtain ⟨rfl, htw⟩ := hcut
    have HU6 := Aside0.mk htw
    have HZ7 := Aside0.mk htw.2.2
    clear htw HU5 w0_ w1_ w2_ w3_ w4_ w5_ xE
    have ht := HT4.out
    obtain ⟨o0_, o1_, o2_, o3_, o4_, o5_⟩ := hcell HZ7.out.1
    have v0_ := blk_frozen HZ7.out.1 0
    have v1_ := blk_frozen HZ7.out.1 1
    have v2_ := blk_frozen HZ7.out.1 2
    have v3_ := blk_frozen HZ7.out.1 3
    have v4_ := blk_frozen HZ7.out.1 4
    have v5_ := blk_frozen HZ7.out.1 5
    split at ht
    · rename_i hcq
      cases ht
      have gq : (c != q) = true := bne_iff_ne.mpr hcq
      clear hcq
      obtain ⟨t0_, t1_, t2_, t3_, t4_, t5_⟩ := hcell HZ7.out.2.1
      go_wp2
      exact rtake_ret rfl rfl rfl rfl (blk6 HZ7.out.1 _ _ _ _ _ _) rfl (below6 HZ7.out.2.2.2 (Nat.le_refl _) _ _ _ _ _ _)
    · rename_i hcq
      cases ht
      have gq : (c != q) = false := by
        rw [show c = q from Classical.byContradiction hcq]
        exact bne_self_eq_false q
      clear hcq
      have aE := HAR.out.2.2.2
      obtain ⟨u0_, u1_, u2_, u3_, u4_, u5_⟩ := hcell HU6.out.2.1
      go_wp2
      exact rtake_ret rfl rfl (congrArg (Value.int .i64) aE) rfl (blk6 HZ7.out.1 _ _ _ _ _ _) rfl (below6 HZ7.out.2.2.2 (Nat.le_refl _) _ _ _ _ _ _)
def serinetteref17_Take.f (k : Nat) (l : List Int) : Option THd :=
  if l.length ≤ 1000000 then
    if l.length < 4 then some (takeZ 2) else if rd l 0 = 255 ∧ (rd l 1 = 248 ∨ rd l 1 = 249) then rMid k l else some (takeZ 9)
  else none
theorem rMid_mono (k : Nat) (l : List Int) : LeO (rMid k l) (rMid (k + 1) l) :=
  leO_if leO_self (leO_bind (serinetteref03_Decode.mono _ _) fun _ => leO_if (leO_if (leO_if leO_self (leO_if (leO_if leO_self (leO_if leO_self (leO_bind (serinetteref04_Eight.mono _ _ _) fun _ => leO_self))) leO_self)) leO_self) leO_self)
theorem serinetteref17_Take.mono : ∀ a0 k, LeO (serinetteref17_Take.f k a0) (serinetteref17_Take.f (k + 1) a0) := fun _ _ => leO_if (leO_if leO_self (leO_if (rMid_mono _ _) leO_self)) leO_self
theorem serinetteref17_Take.post (k : Nat) (A0 : Option Addr) (c0 : Nat) (l : List Int) (r : THd) (w : World) (hr0 : Kd.C (Kd.int .u8) w A0 l.length l) (hc0 : l.length ≤ c0) (h : serinetteref17_Take.f k l = some r) :
    Calls Try.prog 19 #[.slice A0 l.length c0] w (TakePost w (tHd r)) := by
  unfold serinetteref17_Take.f at h
  split at h
  case isFalse => cases h
  rename_i hm
  split at h
  case isTrue =>
    rename_i h1
    cases h
    exact rtake_short A0 l c0 w h1
  rename_i h4
  have h4 : 4 ≤ l.length := by omega
  split at h
  case isFalse =>
    rename_i h1
    cases h
    by_cases h0 : rd l 0 = 255
    · exact rtake_magic2 A0 l c0 w hr0 h4 h0 (fun e => h1 ⟨h0, e⟩)
    · exact rtake_magic1 A0 l c0 w hr0 h4 h0
  rename_i h1
  exact rtake_main k A0 l c0 w r hr0 hc0 hm h4 h1.1 h1.2 h
theorem serinetteref17_Take.calls (k : Nat) (A0 : Option Addr) (c0 : Nat) (l0 : List Int) (r1 r2 r3 r4 r5 : Int) (r6 : Bool) (r7 r8 : Int) (w : World) (hr0 : Kd.C (Kd.int .u8) w A0 l0.length l0) (hc0 : l0.length ≤ c0) (h : serinetteref17_Take.f k l0 = some (r1, r2, r3, r4, r5, r6, r7, r8)) :
    Calls Try.prog 19 #[.slice A0 l0.length c0] w fun e w' => e = .returned (.tuple #[.agg #[.int .i64 r1, .int .i64 r2, .int .i64 r3, .int .i64 r4, .int .i64 r5, .bool r6], .int .i64 r7, .int .i64 r8]) ∧ Below w.heap.size w w' :=
  (serinetteref17_Take.post k A0 c0 l0 _ w hr0 hc0 h).mono fun _ _ h => h
end Go.Proofs.Ytbohlcccdcilkaa.H
