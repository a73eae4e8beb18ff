/- A header's bytes (head.Put), as a plain function, with the proofs that the program's calls come to it. For any header. -/
import Derived.Test.YtbohlcccdcilkaaProg
import Derived.Below
import Derived.Deep.Draws
import Derived.Deep.AppendLies
import Derived.Maps.AppendAt
import Derived.OwnWalk
import Derived.Laws.BytesArg
import Derived.Laws.MakeOwn
import Derived.Laws.OwnMore
import Derived.Deep.OwnRows
import Derived.Tactics
import Derived.Lib.ConvBytes
import Derived.Laws.Slices
import Derived.WalkKit
import Derived.KernelRfl
import Derived.RowKit3
import Derived.Deep.LoopGhost
import Derived.Deep.QuietTactic
import Derived.BigQuiet
import Derived.WideLaws
import Derived.Deep.DeepCutAuto
import Derived.Deep.CutBlock
import Derived.Deep.RegionHeld3
import Derived.Laws.Rows
import Derived.Lib.AppendStr
import Derived.ArgAppend
import Derived.Laws.IdiomCopy
import Derived.OrdersHeld
import Derived.Laws.BitsLemmas
import Derived.RowKit
import Derived.Test.YtbohlcccdcilkaaWWords
import Derived.Test.YtbohlcccdcilkaaWLast
import Derived.Test.YtbohlcccdcilkaaWTab
import Derived.Test.YtbohlcccdcilkaaWFour
import Derived.Test.YtbohlcccdcilkaaWQPut
import Derived.Test.YtbohlcccdcilkaaWApart
import Derived.Test.YtbohlcccdcilkaaWArr
import Derived.Test.YtbohlcccdcilkaaWZeros
import Derived.Test.YtbohlcccdcilkaaWFoot
import Derived.Test.YtbohlcccdcilkaaWKept
import Derived.Test.YtbohlcccdcilkaaWShare
import Derived.Test.YtbohlcccdcilkaaWN
import Derived.Test.YtbohlcccdcilkaaWFootNe
import Derived.Test.YtbohlcccdcilkaaWAt
import Derived.Test.YtbohlcccdcilkaaWEqStruct
import Derived.Test.YtbohlcccdcilkaaWRepsOne
import Derived.Test.YtbohlcccdcilkaaWInv
import Derived.Test.YtbohlcccdcilkaaWInvWords
import Derived.Test.YtbohlcccdcilkaaWGuard
import Derived.Test.YtbohlcccdcilkaaWNEv
import Derived.Test.YtbohlcccdcilkaaWMore
import Derived.Outline
import Derived.Test.YtbohlcccdcilkaaHcode
import Derived.Test.YtbohlcccdcilkaaHpre
namespace Go.Proofs.Ytbohlcccdcilkaa.H
open Go.RowKit Go.Proofs.YtbohlcccdcilkaaW.PrintWords Go.Proofs.YtbohlcccdcilkaaW.PrintLast Go.Proofs.YtbohlcccdcilkaaW.PrintMore
attribute [local go_sem] max2_int min2_int max_two min_two max_three min_three max_four min_four   -- for this text's walks alone
set_option linter.unusedVariables false
set_option linter.unusedSimpArgs false
abbrev hcells (B R M D N : Int) (V : Bool) : Array Value := #[.int .i64 B, .int .i64 R, .int .i64 M, .int .i64 D, .int .i64 N, .bool V]
theorem hcell {w : World} {g : Nat} {B R M D N : Int} {V : Bool} (h : w.heap[g]? = some (.cells (hcells B R M D N V) 23 (0, 0))) :
    w.cell? ⟨g, 0, none⟩ = some (.int .i64 B) ∧ w.cell? ⟨g, 1, none⟩ = some (.int .i64 R) ∧ w.cell? ⟨g, 2, none⟩ = some (.int .i64 M) ∧ w.cell? ⟨g, 3, none⟩ = some (.int .i64 D) ∧ w.cell? ⟨g, 4, none⟩ = some (.int .i64 N) ∧ w.cell? ⟨g, 5, none⟩ = some (.bool V) :=
  ⟨blk_cell h 0, blk_cell h 1, blk_cell h 2, blk_cell h 3, blk_cell h 4, blk_cell h 5⟩
def PutPost (w : World) (r : List Int × Int) (e : Ending) (w' : World) : Prop := ∃ v, e = .returned (.tuple #[v, .int .i64 r.2]) ∧ Kd.R (Kd.int .u8) 5 w' w.heap.size (fun _ => True) v r.1 ∧ Below w.heap.size w w'
set_option maxHeartbeats 8000000 in
set_option maxRecDepth 100000 in
theorem put_bad (k : Nat) (B R M D N : Int) (V : Bool) (e : Int) (w : World) (hk : head_Check.f k B R M D N V = some e) (he : e ≠ 0) :
    Calls Try.prog 11 #[.agg (hcells B R M D N V)] w (PutPost w ([], e)) := by
  have c1 : (e != 0) = true := bne_iff_ne.mpr he
  have HK := Aside0.mk hk
  clear hk
  go_enter Try.func11, Try.ntmps11
  go_wp2_with (first | (go_at_call 14; (with_reducible refine (head_Check.calls k B R M D N V e _ HK.out).mono ?_); rintro e' w1 ⟨rfl, hb⟩; have HB := Aside0.mk (below_step (below_alloc (Below.refl _ _) _) hb); clear hb))
  go_ret2
  exact ⟨_, rfl, R_nil _ _, HB.out⟩
def PS (gd : Nat) (w5 W : World) : Prop := W.heap[gd]? = some (.cells #[.int .i64 0, .int .i64 8, .int .i64 12, .int .i64 0, .int .i64 16, .int .i64 20, .int .i64 24, .int .i64 32] 41 (0, 0)) ∧ Below w5.heap.size w5 W
theorem PS_h1 {gd : Nat} {w5 W : World} (h : PS gd w5 W) : W.heap[gd]? = some (.cells #[.int .i64 0, .int .i64 8, .int .i64 12, .int .i64 0, .int .i64 16, .int .i64 20, .int .i64 24, .int .i64 32] 41 (0, 0)) := h.1
theorem PS_start {gd : Nat} {w5 : World} (h : w5.heap[gd]? = some (.cells #[.int .i64 0, .int .i64 8, .int .i64 12, .int .i64 0, .int .i64 16, .int .i64 20, .int .i64 24, .int .i64 32] 41 (0, 0))) : PS gd w5 w5 := ⟨h, Below.refl _ _⟩
theorem PS_drew {gd : Nat} {w5 W : World} (h : PS gd w5 W) : PS gd w5 W.drew := ⟨blk_drew h.1, below_drew h.2⟩
theorem PS_alloc {gd : Nat} {w5 W : World} (h : PS gd w5 W) (o : Obj) : PS gd w5 (W.alloc o) := ⟨blk_alloc h.1 o, below_alloc h.2 o⟩
theorem PS_below {gd : Nat} {w5 W W' : World} (h : PS gd w5 W) (hb : Below W.heap.size W W') : PS gd w5 W' := ⟨blk_below h.1 hb, below_step h.2 hb⟩
theorem cell_keep {W W' : World} {a : Addr} {v : Value} (h : W.cell? a = some v) (hb : Below W.heap.size W W') : W'.cell? a = some v := (hb.cell (World.block_lt_of_cell? W _ h)).trans h
theorem cell_drew {W : World} {a : Addr} {v : Value} (h : W.cell? a = some v) : W.drew.cell? a = some v := h
theorem cell_alloc {W : World} {a : Addr} {v : Value} (h : W.cell? a = some v) (o : Obj) : (W.alloc o).cell? a = some v := cell_keep h (below_alloc (Below.refl _ _) o)
theorem blk_second (w : World) (o p : Obj) : ((w.alloc o).alloc p).heap[w.heap.size + 1]? = some p := by
  have h := heap_alloc_last (w.alloc o) p
  rwa [show (w.alloc o).heap.size = w.heap.size + 1 from Array.size_push ..] at h
abbrev sl (x : Rw) : Value := .slice x.1 x.2.1.length x.2.2
theorem rows4 {w : World} {g t : Nat} {x0 x1 x2 x3 : Rw} (h : w.heap[g]? = some (.cells #[sl x0, sl x1, sl x2, sl x3] t (0, 0))) (h0 : Kd.C (Kd.int .u8) w x0.1 x0.2.1.length x0.2.1) (h1 : Kd.C (Kd.int .u8) w x1.1 x1.2.1.length x1.2.1)
    (h2 : Kd.C (Kd.int .u8) w x2.1 x2.2.1.length x2.2.1) (h3 : Kd.C (Kd.int .u8) w x3.1 x3.2.1.length x3.2.1) : RowsIn w ⟨g, 0, none⟩ [x0, x1, x2, x3] := by
  intro i hi
  match i, hi with
  | 0, _ => exact ⟨blk_cell h 0, h0⟩
  | 1, _ => exact ⟨blk_cell h 1, h1⟩
  | 2, _ => exact ⟨blk_cell h 2, h2⟩
  | 3, _ => exact ⟨blk_cell h 3, h3⟩
  | n + 4, hi => exact absurd hi (by simp)
theorem C_of_blk8 {w : World} {g : Nat} {xs : List Int} (hg : w.heap[g]? = some (.cells (xs.map (fun x => Value.int .u8 x)).toArray 5 (0, 0))) (hm : xs.length ≤ 1000000) : Kd.C (Kd.int .u8) w (some ⟨g, 0, none⟩) xs.length xs :=
  (Kd.R_reads' (R_of_blk (base := 0) hg (Nat.zero_le _) hm)).2.2
theorem flat4 (x0 x1 x2 x3 : Rw) : flat [x0, x1, x2, x3] = x0.2.1 ++ (x1.2.1 ++ (x2.2.1 ++ x3.2.1)) := by simp [flat]
set_option maxHeartbeats 8000000 in
set_option maxRecDepth 100000 in
theorem put_good_true (k : Nat) (B R M D N : Int) (en : List Int) (r2 d c : Int) (bp rp : Int × List Int) (body : List Int) (w : World) (hk : head_Check.f k B R M D N true = some 0) (h1 : 1 ≤ B) (h2 : B ≤ 65535) (h3 : 0 ≤ R) (h4 : R ≤ 1048575)
    (he : number_Encode.f k N = some (en, r2)) (hd : head_own.f D DEPTHS = some d) (hbp : blockP B = bp) (hrp : rateP R = rp)
    (hbody : body = ([255, 249, Go.bits .or .i64 (wrap64 (bp.1 * 16)) rp.1 % 256, Go.bits .or .i64 (wrap64 (M * 16)) (wrap64 (d * 2)) % 256] ++ (en ++ (bp.2 ++ rp.2))))
    (hl : (en ++ (bp.2 ++ rp.2)).length ≤ 1000) (h8 : checks_Eight.f body = some c) :
    Calls Try.prog 11 #[.agg (hcells B R M D N true)] w (PutPost w (body ++ [c], 0)) := by
  have HK := Aside0.mk hk
  have HE := Aside0.mk he
  have HD := Aside0.mk hd
  have HBP := Aside0.mk hbp
  have HRP := Aside0.mk hrp
  have HL := Aside0.mk hl
  have HBODY := Aside0.mk hbody
  have HBL : Aside0 (body.length ≤ 1004) := ⟨by rw [hbody, List.length_append]; simp only [List.length_cons, List.length_nil]; omega⟩
  have H8 := Aside0.mk h8
  clear hk he hd hbp hrp hl h8 hbody
  go_enter Try.func11, Try.ntmps11
  go_wp2_with (first
    | (go_at_call 14; (with_reducible refine (head_Check.calls k B R M D N true 0 _ HK.out).mono ?_); rintro e' w1 ⟨rfl, hb⟩; have BK1 := Aside0.mk (blk_below (blk_new w _) hb); have HB1 := Aside0.mk (below_step (below_alloc (Below.refl _ _) _) hb); obtain ⟨x0, x1, x2, x3, x4, x5⟩ := hcell BK1.out; clear hb)
    | (go_at_call 22; (with_reducible refine (depths_lit _).mono ?_); rintro e' w2 ⟨rfl, hb⟩; clear x0 x1 x2 x3 x4 x5; have BK2 := Aside0.mk (blk_below BK1.out hb); have HB2 := Aside0.mk (below_step HB1.out hb); clear hb BK1 HB1; have y0 := fun o => (hcell (blk_alloc BK2.out o)).1)
    | (go_at_call 23; (with_reducible refine (block_calls _ B h1 h2).mono ?_); rintro e' w3 ⟨v1, rfl, hr1, hb⟩; clear y0; rw [HBP.out] at hr1 ⊢; obtain ⟨A1, c1_, e1⟩ := Kd.R_slice hr1; subst e1; have C1 := Aside0.mk (Kd.R_reads' hr1).2.2; have BK3 := Aside0.mk (blk_below (blk_alloc BK2.out _) hb); have DK3 := Aside0.mk (blk_below (blk_new w2 _) hb); have HB3 := Aside0.mk (below_step (below_alloc HB2.out _) hb); clear hb hr1 BK2 HB2; obtain ⟨x0, x1, x2, x3, x4, x5⟩ := hcell BK3.out)
    | (go_at_call 24; (with_reducible refine (rate_calls _ R h3 h4).mono ?_); rintro e' w4 ⟨v2, rfl, hr2, hb⟩; clear x0 x1 x2 x3 x4 x5; rw [HRP.out] at hr2 ⊢; obtain ⟨A2, c2_, e2⟩ := Kd.R_slice hr2; subst e2; have C2 := Aside0.mk (Kd.R_reads' hr2).2.2; have C1' := Aside0.mk (Kd.C_below C1.out hb); have BK4 := Aside0.mk (blk_below BK3.out hb); have DK4 := Aside0.mk (blk_below DK3.out hb); have HB4 := Aside0.mk (below_step HB3.out hb); clear hb hr2 BK3 DK3 HB3 C1; obtain ⟨x0, x1, x2, x3, x4, x5⟩ := hcell BK4.out)
    | (go_at_call 25; (with_reducible refine (number_Encode.calls k N en r2 _ HE.out).mono ?_); rintro e' w5 ⟨v3, rfl, hr3, hb⟩; clear x0 x1 x2 x3 x4 x5; obtain ⟨A3, c3_, rfl, _, hf⟩ := hr3; have C3 := Aside0.mk (Kd.F_now hf); have C1'' := Aside0.mk (Kd.C_below C1'.out hb); have C2' := Aside0.mk (Kd.C_below C2.out hb); have BK5 := Aside0.mk (blk_below BK4.out hb); have DK5 := Aside0.mk (blk_below DK4.out hb); have HB5 := Aside0.mk (below_step HB4.out hb); clear hb hf BK4 DK4 HB4 C1' C2; obtain ⟨x0, x1, x2, x3, x4, x5⟩ := hcell BK5.out))
  have PS5 := PS_start DK5.out
  go_region_held3 (fun W => W.cell? ⟨w.heap.size, 2, none⟩ = some (.int .i64 M) ∧ W.cell? ⟨w.heap.size, 3, none⟩ = some (.int .i64 D) ∧ W.heap[w2.heap.size]? = some (.cells #[.int .i64 0, .int .i64 8, .int .i64 12, .int .i64 0, .int .i64 16, .int .i64 20, .int .i64 24, .int .i64 32] 41 (0, 0)) ∧ Below w5.heap.size w5 W)
    (first | (go_keep; done) | (((try go_split_ands); (repeat' apply And.intro)) <;> first | assumption | exact cell_drew ‹_› | exact cell_alloc ‹_› _ | exact cell_keep ‹_› ‹_› | exact blk_drew (PS_h1 PS5) | exact blk_drew ‹_› | exact blk_alloc ‹_› _ | exact blk_below ‹_› ‹_› | exact below_drew (Below.refl _ _) | exact below_drew ‹_› | exact below_alloc ‹_› _ | exact below_step ‹_› ‹_›))
    (first | (go_at_call 26; go_split_ands; (with_reducible refine (own_depths _ w2.heap.size 41 D d (by first | assumption | exact blk_drew (by assumption)) HD.out).mono ?_); rintro e' w6 ⟨rfl, hb⟩) | fail)
  have hbK := Aside0.mk (below_step (below_drew (Below.refl w5.heap.size w5)) hb)
  clear x0 x1 x2 x3 x4 x5
  go_split_ands
  go_wp2_with (first
    | (go_at_call 27; (refine (concat_calls _ ⟨w6.heap.size + 1, 0, none⟩ [(some ⟨w6.heap.size, 0, none⟩, [255, 249, Go.bits .or .i64 (wrap64 (bp.1 * 16)) rp.1 % 256, Go.bits .or .i64 (wrap64 (M * 16)) (wrap64 (d * 2)) % 256], 4), (A3, en, c3_), (A1, bp.2, c1_), (A2, rp.2, c2_)] 4 (rows4 (blk_second _ _ _) (C_of_blk8 (blk_alloc (heap_alloc_last _ _) _) (by simp)) (Kd.C_below C3.out (below_alloc (below_alloc hbK.out _) _)) (Kd.C_below C1''.out (below_alloc (below_alloc hbK.out _) _)) (Kd.C_below C2'.out (below_alloc (below_alloc hbK.out _) _))) (by simp) (by rw [flat4]; have hq := HL.out; simp only [List.length_append, List.length_cons, List.length_nil] at hq ⊢; omega)).mono ?_); rintro e' w8 ⟨v8, rfl, hr8, hb8⟩; rw [flat4] at hr8; have HB8 := Aside0.mk (below_step (below_alloc (below_alloc (below_step HB5.out hbK.out) _) _) hb8); have HR8 := Aside0.mk (Kd.R_lower hr8 (below_size (below_alloc (below_alloc (below_step HB5.out hbK.out) _) _))); clear hr8 hb8 C3 C1'' C2'; dsimp only at HR8; rw [← HBODY.out] at HR8; obtain ⟨A8, c8_, e8⟩ := Kd.R_slice HR8.out; subst e8)
    | (go_at_call 20; (with_reducible refine (checks_Eight.calls A8 c8_ body c _ (Kd.R_reads' HR8.out).2.2 (Kd.R_reads' HR8.out).2.1 H8.out).mono ?_); rintro e' w9 ⟨rfl, hb9⟩; have HR9 := Aside0.mk (Kd.R_below HR8.out hb9); have HB9 := Aside0.mk (below_step HB8.out hb9); clear hb9 HR8 HB8)
    | ((with_reducible refine gate_builtin (b := .append) (xs := #[.tmp 65, .tmp 68]) rfl ?_); at_builtin; refine Kd.R_append_rows (Kd.int .u8) (w0 := w) w.heap.size rfl (.tmp 65) (.tmp 68) 25 5 (.int .u8 0) 1 rfl Try.underlying25 info5 rfl (by decide) (by omega) _ body [c] _ _ _ (fun _ => True) (fun _ => False) rfl rfl (Kd.R_below HR9.out (below_alloc (Below.refl _ _) _)) (C_of_blk8 (xs := [c]) (heap_alloc_last _ _) (by simp)) (fun _ _ h => h) (fun _ h => h.elim) (fun _ _ => trivial) (below_alloc HB9.out _) (below_size (below_alloc HB9.out _)) (by have := HBL.out; omega) ?_; intro v1 w1 hr hb hg hat; clear hg hat; have HRx := Aside0.mk hr; have HBx := Aside0.mk hb; clear hr hb HR9 HB9))
  all_goals go_ret2
  all_goals exact ⟨_, rfl, HRx.out, HBx.out⟩
set_option maxHeartbeats 8000000 in
set_option maxRecDepth 100000 in
theorem put_good_false (k : Nat) (B R M D N : Int) (en : List Int) (r2 d c : Int) (bp rp : Int × List Int) (body : List Int) (w : World) (hk : head_Check.f k B R M D N false = some 0) (h1 : 1 ≤ B) (h2 : B ≤ 65535) (h3 : 0 ≤ R) (h4 : R ≤ 1048575)
    (he : number_Encode.f k N = some (en, r2)) (hd : head_own.f D DEPTHS = some d) (hbp : blockP B = bp) (hrp : rateP R = rp)
    (hbody : body = ([255, 248, Go.bits .or .i64 (wrap64 (bp.1 * 16)) rp.1 % 256, Go.bits .or .i64 (wrap64 (M * 16)) (wrap64 (d * 2)) % 256] ++ (en ++ (bp.2 ++ rp.2))))
    (hl : (en ++ (bp.2 ++ rp.2)).length ≤ 1000) (h8 : checks_Eight.f body = some c) :
    Calls Try.prog 11 #[.agg (hcells B R M D N false)] w (PutPost w (body ++ [c], 0)) := by
  have HK := Aside0.mk hk
  have HE := Aside0.mk he
  have HD := Aside0.mk hd
  have HBP := Aside0.mk hbp
  have HRP := Aside0.mk hrp
  have HL := Aside0.mk hl
  have HBODY := Aside0.mk hbody
  have HBL : Aside0 (body.length ≤ 1004) := ⟨by rw [hbody, List.length_append]; simp only [List.length_cons, List.length_nil]; omega⟩
  have H8 := Aside0.mk h8
  clear hk he hd hbp hrp hl h8 hbody
  go_enter Try.func11, Try.ntmps11
  go_wp2_with (first
    | (go_at_call 14; (with_reducible refine (head_Check.calls k B R M D N false 0 _ HK.out).mono ?_); rintro e' w1 ⟨rfl, hb⟩; have BK1 := Aside0.mk (blk_below (blk_new w _) hb); have HB1 := Aside0.mk (below_step (below_alloc (Below.refl _ _) _) hb); obtain ⟨x0, x1, x2, x3, x4, x5⟩ := hcell BK1.out; clear hb)
    | (go_at_call 22; (with_reducible refine (depths_lit _).mono ?_); rintro e' w2 ⟨rfl, hb⟩; clear x0 x1 x2 x3 x4 x5; have BK2 := Aside0.mk (blk_below BK1.out hb); have HB2 := Aside0.mk (below_step HB1.out hb); clear hb BK1 HB1; have y0 := fun o => (hcell (blk_alloc BK2.out o)).1)
    | (go_at_call 23; (with_reducible refine (block_calls _ B h1 h2).mono ?_); rintro e' w3 ⟨v1, rfl, hr1, hb⟩; clear y0; rw [HBP.out] at hr1 ⊢; obtain ⟨A1, c1_, e1⟩ := Kd.R_slice hr1; subst e1; have C1 := Aside0.mk (Kd.R_reads' hr1).2.2; have BK3 := Aside0.mk (blk_below (blk_alloc BK2.out _) hb); have DK3 := Aside0.mk (blk_below (blk_new w2 _) hb); have HB3 := Aside0.mk (below_step (below_alloc HB2.out _) hb); clear hb hr1 BK2 HB2; obtain ⟨x0, x1, x2, x3, x4, x5⟩ := hcell BK3.out)
    | (go_at_call 24; (with_reducible refine (rate_calls _ R h3 h4).mono ?_); rintro e' w4 ⟨v2, rfl, hr2, hb⟩; clear x0 x1 x2 x3 x4 x5; rw [HRP.out] at hr2 ⊢; obtain ⟨A2, c2_, e2⟩ := Kd.R_slice hr2; subst e2; have C2 := Aside0.mk (Kd.R_reads' hr2).2.2; have C1' := Aside0.mk (Kd.C_below C1.out hb); have BK4 := Aside0.mk (blk_below BK3.out hb); have DK4 := Aside0.mk (blk_below DK3.out hb); have HB4 := Aside0.mk (below_step HB3.out hb); clear hb hr2 BK3 DK3 HB3 C1; obtain ⟨x0, x1, x2, x3, x4, x5⟩ := hcell BK4.out)
    | (go_at_call 25; (with_reducible refine (number_Encode.calls k N en r2 _ HE.out).mono ?_); rintro e' w5 ⟨v3, rfl, hr3, hb⟩; clear x0 x1 x2 x3 x4 x5; obtain ⟨A3, c3_, rfl, _, hf⟩ := hr3; have C3 := Aside0.mk (Kd.F_now hf); have C1'' := Aside0.mk (Kd.C_below C1'.out hb); have C2' := Aside0.mk (Kd.C_below C2.out hb); have BK5 := Aside0.mk (blk_below BK4.out hb); have DK5 := Aside0.mk (blk_below DK4.out hb); have HB5 := Aside0.mk (below_step HB4.out hb); clear hb hf BK4 DK4 HB4 C1' C2; obtain ⟨x0, x1, x2, x3, x4, x5⟩ := hcell BK5.out))
  have PS5 := PS_start DK5.out
  go_region_held3 (fun W => W.cell? ⟨w.heap.size, 2, none⟩ = some (.int .i64 M) ∧ W.cell? ⟨w.heap.size, 3, none⟩ = some (.int .i64 D) ∧ W.heap[w2.heap.size]? = some (.cells #[.int .i64 0, .int .i64 8, .int .i64 12, .int .i64 0, .int .i64 16, .int .i64 20, .int .i64 24, .int .i64 32] 41 (0, 0)) ∧ Below w5.heap.size w5 W)
    (first | (go_keep; done) | (((try go_split_ands); (repeat' apply And.intro)) <;> first | assumption | exact cell_drew ‹_› | exact cell_alloc ‹_› _ | exact cell_keep ‹_› ‹_› | exact blk_drew (PS_h1 PS5) | exact blk_drew ‹_› | exact blk_alloc ‹_› _ | exact blk_below ‹_› ‹_› | exact below_drew (Below.refl _ _) | exact below_drew ‹_› | exact below_alloc ‹_› _ | exact below_step ‹_› ‹_›))
    (first | (go_at_call 26; go_split_ands; (with_reducible refine (own_depths _ w2.heap.size 41 D d (by first | assumption | exact blk_drew (by assumption)) HD.out).mono ?_); rintro e' w6 ⟨rfl, hb⟩) | fail)
  have hbK := Aside0.mk (below_step (below_drew (Below.refl w5.heap.size w5)) hb)
  clear x0 x1 x2 x3 x4 x5
  go_split_ands
  go_wp2_with (first
    | (go_at_call 27; (refine (concat_calls _ ⟨w6.heap.size + 1, 0, none⟩ [(some ⟨w6.heap.size, 0, none⟩, [255, 248, Go.bits .or .i64 (wrap64 (bp.1 * 16)) rp.1 % 256, Go.bits .or .i64 (wrap64 (M * 16)) (wrap64 (d * 2)) % 256], 4), (A3, en, c3_), (A1, bp.2, c1_), (A2, rp.2, c2_)] 4 (rows4 (blk_second _ _ _) (C_of_blk8 (blk_alloc (heap_alloc_last _ _) _) (by simp)) (Kd.C_below C3.out (below_alloc (below_alloc hbK.out _) _)) (Kd.C_below C1''.out (below_alloc (below_alloc hbK.out _) _)) (Kd.C_below C2'.out (below_alloc (below_alloc hbK.out _) _))) (by simp) (by rw [flat4]; have hq := HL.out; simp only [List.length_append, List.length_cons, List.length_nil] at hq ⊢; omega)).mono ?_); rintro e' w8 ⟨v8, rfl, hr8, hb8⟩; rw [flat4] at hr8; have HB8 := Aside0.mk (below_step (below_alloc (below_alloc (below_step HB5.out hbK.out) _) _) hb8); have HR8 := Aside0.mk (Kd.R_lower hr8 (below_size (below_alloc (below_alloc (below_step HB5.out hbK.out) _) _))); clear hr8 hb8 C3 C1'' C2'; dsimp only at HR8; rw [← HBODY.out] at HR8; obtain ⟨A8, c8_, e8⟩ := Kd.R_slice HR8.out; subst e8)
    | (go_at_call 20; (with_reducible refine (checks_Eight.calls A8 c8_ body c _ (Kd.R_reads' HR8.out).2.2 (Kd.R_reads' HR8.out).2.1 H8.out).mono ?_); rintro e' w9 ⟨rfl, hb9⟩; have HR9 := Aside0.mk (Kd.R_below HR8.out hb9); have HB9 := Aside0.mk (below_step HB8.out hb9); clear hb9 HR8 HB8)
    | ((with_reducible refine gate_builtin (b := .append) (xs := #[.tmp 65, .tmp 68]) rfl ?_); at_builtin; refine Kd.R_append_rows (Kd.int .u8) (w0 := w) w.heap.size rfl (.tmp 65) (.tmp 68) 25 5 (.int .u8 0) 1 rfl Try.underlying25 info5 rfl (by decide) (by omega) _ body [c] _ _ _ (fun _ => True) (fun _ => False) rfl rfl (Kd.R_below HR9.out (below_alloc (Below.refl _ _) _)) (C_of_blk8 (xs := [c]) (heap_alloc_last _ _) (by simp)) (fun _ _ h => h) (fun _ h => h.elim) (fun _ _ => trivial) (below_alloc HB9.out _) (below_size (below_alloc HB9.out _)) (by have := HBL.out; omega) ?_; intro v1 w1 hr hb hg hat; clear hg hat; have HRx := Aside0.mk hr; have HBx := Aside0.mk hb; clear hr hb HR9 HB9))
  all_goals go_ret2
  all_goals exact ⟨_, rfl, HRx.out, HBx.out⟩
def putB (B R M d : Int) (V : Bool) (en : List Int) : List Int :=
  [255, if V = true then 249 else 248, Go.bits .or .i64 (wrap64 ((blockP B).1 * 16)) (rateP R).1 % 256, Go.bits .or .i64 (wrap64 (M * 16)) (wrap64 (d * 2)) % 256] ++ (en ++ ((blockP B).2 ++ (rateP R).2))
def head_Put.f (k : Nat) (a0_0 a0_1 a0_2 a0_3 a0_4 : Int) (a0_5 : Bool) : Option (List Int × Int) :=
  (head_Check.f k a0_0 a0_1 a0_2 a0_3 a0_4 a0_5).bind fun e => if e = 0 then (if 1 ≤ a0_0 ∧ a0_0 ≤ 65535 ∧ 0 ≤ a0_1 ∧ a0_1 ≤ 1048575 then (number_Encode.f k a0_4).bind fun p => (head_own.f a0_3 DEPTHS).bind fun d =>
    if (p.1 ++ ((blockP a0_0).2 ++ (rateP a0_1).2)).length ≤ 1000 then (checks_Eight.f (putB a0_0 a0_1 a0_2 d a0_5 p.1)).bind fun c => some (putB a0_0 a0_1 a0_2 d a0_5 p.1 ++ [c], 0) else none else none) else some ([], e)
theorem head_Put.mono : ∀ a0_0 a0_1 a0_2 a0_3 a0_4 a0_5 k, LeO (head_Put.f k a0_0 a0_1 a0_2 a0_3 a0_4 a0_5) (head_Put.f (k + 1) a0_0 a0_1 a0_2 a0_3 a0_4 a0_5) := by
  intro a0_0 a0_1 a0_2 a0_3 a0_4 a0_5 k r h
  unfold head_Put.f at h ⊢
  obtain ⟨e, h1, h2⟩ := Option.bind_eq_some_iff.mp h
  rw [head_Check.mono _ _ _ _ _ _ _ _ h1, Option.bind_some]
  split at h2
  · rename_i he
    rw [if_pos he]
    split at h2
    · rename_i hc
      rw [if_pos hc]
      obtain ⟨p, h3, h4⟩ := Option.bind_eq_some_iff.mp h2
      rw [number_Encode.mono _ _ _ h3, Option.bind_some]
      exact h4
    · cases h2
  · rename_i he
    rw [if_neg he]
    exact h2
theorem head_Put.calls (k : Nat) (a0_0 a0_1 a0_2 a0_3 a0_4 : Int) (a0_5 : Bool) (r1 : List Int) (r2 : Int) (w : World) (h : head_Put.f k a0_0 a0_1 a0_2 a0_3 a0_4 a0_5 = some (r1, r2)) :
    Calls Try.prog 11 #[.agg #[.int .i64 a0_0, .int .i64 a0_1, .int .i64 a0_2, .int .i64 a0_3, .int .i64 a0_4, .bool a0_5]] w fun e w' => ∃ v0_ : Value, e = .returned (.tuple #[v0_, .int .i64 r2]) ∧ Kd.R (Kd.int .u8) 5 w' w.heap.size (fun _ => True) v0_ r1 ∧ Below w.heap.size w w' := by
  unfold head_Put.f at h
  obtain ⟨e, h1, h2⟩ := Option.bind_eq_some_iff.mp h
  split at h2
  · rename_i he
    subst he
    split at h2
    · rename_i hc
      obtain ⟨p, h3, h4⟩ := Option.bind_eq_some_iff.mp h2
      obtain ⟨d, h5, h6⟩ := Option.bind_eq_some_iff.mp h4
      split at h6
      · rename_i hl
        obtain ⟨c, h7, h8⟩ := Option.bind_eq_some_iff.mp h6
        cases h8
        cases a0_5
        · exact put_good_false k a0_0 a0_1 a0_2 a0_3 a0_4 p.1 p.2 d c _ _ _ w h1 hc.1 hc.2.1 hc.2.2.1 hc.2.2.2 h3 h5 rfl rfl rfl hl h7
        · exact put_good_true k a0_0 a0_1 a0_2 a0_3 a0_4 p.1 p.2 d c _ _ _ w h1 hc.1 hc.2.1 hc.2.2.1 hc.2.2.2 h3 h5 rfl rfl rfl hl h7
      · cases h6
    · cases h2
  · rename_i he
    cases h2
    exact put_bad k a0_0 a0_1 a0_2 a0_3 a0_4 a0_5 _ w h1 he
end Go.Proofs.Ytbohlcccdcilkaa.H
