/- The codes of a block and of a rate, and what they have behind them (head.block, head.rate), as plain functions, with the proofs that the program's calls come to them. For any block and rate that can be. -/
import Derived.Test.YtbohlcccdcilkaaProg
import Derived.Below
import Derived.Deep.Draws
import Derived.Deep.AppendLies
import Derived.Maps.AppendAt
import Derived.OwnWalk
import Derived.Laws.BytesArg
import Derived.Laws.MakeOwn
import Derived.Laws.OwnMore
import Derived.Deep.OwnRows
import Derived.Tactics
import Derived.Lib.ConvBytes
import Derived.Laws.Slices
import Derived.WalkKit
import Derived.KernelRfl
import Derived.RowKit3
import Derived.Deep.LoopGhost
import Derived.Deep.QuietTactic
import Derived.BigQuiet
import Derived.WideLaws
import Derived.Deep.DeepCutAuto
import Derived.Deep.CutBlock
import Derived.Deep.RegionHeld3
import Derived.Laws.Rows
import Derived.Lib.AppendStr
import Derived.ArgAppend
import Derived.Laws.IdiomCopy
import Derived.OrdersHeld
import Derived.Laws.BitsLemmas
import Derived.RowKit
import Derived.Test.YtbohlcccdcilkaaWWords
import Derived.Test.YtbohlcccdcilkaaWLast
import Derived.Test.YtbohlcccdcilkaaWTab
import Derived.Test.YtbohlcccdcilkaaWFour
import Derived.Test.YtbohlcccdcilkaaWQPut
import Derived.Test.YtbohlcccdcilkaaWApart
import Derived.Test.YtbohlcccdcilkaaWArr
import Derived.Test.YtbohlcccdcilkaaWZeros
import Derived.Test.YtbohlcccdcilkaaWFoot
import Derived.Test.YtbohlcccdcilkaaWKept
import Derived.Test.YtbohlcccdcilkaaWShare
import Derived.Test.YtbohlcccdcilkaaWN
import Derived.Test.YtbohlcccdcilkaaWFootNe
import Derived.Test.YtbohlcccdcilkaaWAt
import Derived.Test.YtbohlcccdcilkaaWEqStruct
import Derived.Test.YtbohlcccdcilkaaWRepsOne
import Derived.Test.YtbohlcccdcilkaaWInv
import Derived.Test.YtbohlcccdcilkaaWInvWords
import Derived.Test.YtbohlcccdcilkaaWGuard
import Derived.Test.YtbohlcccdcilkaaWNEv
import Derived.Test.YtbohlcccdcilkaaWMore
import Derived.Test.YtbohlcccdcilkaaHmore
namespace Go.Proofs.Ytbohlcccdcilkaa.H
open Go.RowKit Go.Proofs.YtbohlcccdcilkaaW.PrintWords Go.Proofs.YtbohlcccdcilkaaW.PrintLast Go.Proofs.YtbohlcccdcilkaaW.PrintMore
attribute [local go_sem] max2_int min2_int max_two min_two max_three min_three max_four min_four   -- for this text's walks alone
set_option linter.unusedVariables false
set_option linter.unusedSimpArgs false
theorem C_of_blk {w : World} {g t : Nat} {xs : List Int} (hg : w.heap[g]? = some (.cells (ints xs) t (0, 0))) (hm : xs.length ≤ 1000000) : Kd.C (Kd.int .i64) w (some ⟨g, 0, none⟩) xs.length xs := by
  refine Kd.C_of_reads (d := (0 : Int)) (h1 := fun _ => rfl) ⟨rfl, by omega, fun hn => ⟨_, rfl, fun j hj => ?_⟩⟩
  rw [add_plain, cell_of_row _ _ _ _ _ _ hg]
  simp [ints, List.getD_eq_getElem?_getD, List.getElem?_eq_getElem hj]
theorem blocks_lit (w : World) : Calls Try.prog 35 #[] w fun e w' => e = .returned (.agg #[.int .i64 0, .int .i64 192, .int .i64 576, .int .i64 1152, .int .i64 2304, .int .i64 4608, .int .i64 0, .int .i64 0, .int .i64 256, .int .i64 512, .int .i64 1024, .int .i64 2048, .int .i64 4096, .int .i64 8192, .int .i64 16384, .int .i64 32768]) ∧ Below w.heap.size w w' := (blocks_calls w).mono fun e w' h => ⟨h.1, h.2⟩
theorem rates_lit (w : World) : Calls Try.prog 36 #[] w fun e w' => e = .returned (.agg #[.int .i64 0, .int .i64 88200, .int .i64 176400, .int .i64 192000, .int .i64 8000, .int .i64 16000, .int .i64 22050, .int .i64 24000, .int .i64 32000, .int .i64 44100, .int .i64 48000, .int .i64 96000, .int .i64 0, .int .i64 0, .int .i64 0, .int .i64 0]) ∧ Below w.heap.size w w' := (rates_calls w).mono fun e w' h => ⟨h.1, h.2⟩
theorem depths_lit (w : World) : Calls Try.prog 22 #[] w fun e w' => e = .returned (.agg #[.int .i64 0, .int .i64 8, .int .i64 12, .int .i64 0, .int .i64 16, .int .i64 20, .int .i64 24, .int .i64 32]) ∧ Below w.heap.size w w' := (depths_calls w).mono fun e w' h => ⟨h.1, h.2⟩
def CodePost (w : World) (r : Int × List Int) (e : Ending) (w' : World) : Prop := ∃ v, e = .returned (.tuple #[.int .i64 r.1, v]) ∧ Kd.R (Kd.int .u8) 5 w' w.heap.size (fun _ => True) v r.2 ∧ Below w.heap.size w w'
theorem row_back {w w1 w2 : World} {l : List Int} {e : Ending} (hb : Below w.heap.size w w1) (h : RowPost w1 l e w2) : RowPost w l e w2 := by
  obtain ⟨v, h1, h2, h3⟩ := h
  exact ⟨v, h1, Kd.R_lower h2 (below_size hb), below_step hb h3⟩
theorem own_blocks (w : World) (g t : Nat) (n c : Int) (hb : w.heap[g]? = some (.cells #[.int .i64 0, .int .i64 192, .int .i64 576, .int .i64 1152, .int .i64 2304, .int .i64 4608, .int .i64 0, .int .i64 0, .int .i64 256, .int .i64 512, .int .i64 1024, .int .i64 2048, .int .i64 4096, .int .i64 8192, .int .i64 16384, .int .i64 32768] t (0, 0))) (h : head_own.f n BLOCKS = some c) :
    Calls Try.prog 26 #[.int .i64 n, .slice (some ⟨g, 0, none⟩) 16 16] w fun e w' => e = .returned (.int .i64 c) ∧ Below w.heap.size w w' := head_own.calls n (some ⟨g, 0, none⟩) 16 BLOCKS c w (C_of_blk (xs := BLOCKS) hb (by decide)) (by decide) h
theorem own_rates (w : World) (g t : Nat) (n c : Int) (hb : w.heap[g]? = some (.cells #[.int .i64 0, .int .i64 88200, .int .i64 176400, .int .i64 192000, .int .i64 8000, .int .i64 16000, .int .i64 22050, .int .i64 24000, .int .i64 32000, .int .i64 44100, .int .i64 48000, .int .i64 96000, .int .i64 0, .int .i64 0, .int .i64 0, .int .i64 0] t (0, 0))) (h : head_own.f n RATES = some c) :
    Calls Try.prog 26 #[.int .i64 n, .slice (some ⟨g, 0, none⟩) 16 16] w fun e w' => e = .returned (.int .i64 c) ∧ Below w.heap.size w w' := head_own.calls n (some ⟨g, 0, none⟩) 16 RATES c w (C_of_blk (xs := RATES) hb (by decide)) (by decide) h
theorem own_depths (w : World) (g t : Nat) (n c : Int) (hb : w.heap[g]? = some (.cells #[.int .i64 0, .int .i64 8, .int .i64 12, .int .i64 0, .int .i64 16, .int .i64 20, .int .i64 24, .int .i64 32] t (0, 0))) (h : head_own.f n DEPTHS = some c) :
    Calls Try.prog 26 #[.int .i64 n, .slice (some ⟨g, 0, none⟩) 8 8] w fun e w' => e = .returned (.int .i64 c) ∧ Below w.heap.size w w' := head_own.calls n (some ⟨g, 0, none⟩) 8 DEPTHS c w (C_of_blk (xs := DEPTHS) hb (by decide)) (by decide) h
def blockP (n : Int) : Int × List Int := if 0 < mx 0 (ownAt n BLOCKS 0) then (mx 0 (ownAt n BLOCKS 0), []) else if n ≤ 256 then (6, [(n - 1) % 256]) else (7, [(n - 1) / 256 % 256, (n - 1) % 256])
set_option maxHeartbeats 8000000 in
set_option maxRecDepth 100000 in
theorem block_calls (w : World) (n : Int) (h1 : 1 ≤ n) (h2 : n ≤ 65535) : Calls Try.prog 23 #[.int .i64 n] w (CodePost w (blockP n)) := by
  unfold blockP
  have ho : head_own.f n BLOCKS = some (mx 0 (ownAt n BLOCKS 0)) := by unfold head_own.f; rw [if_pos (by decide)]
  have HO := Aside0.mk ho
  clear ho
  generalize mx 0 (ownAt n BLOCKS 0) = c at HO
  by_cases hc : 0 < c
  · rw [if_pos hc]
    have c1 : decide (0 < c) = true := decide_eq_true hc
    clear hc
    as_aux_lemma =>
      go_enter Try.func23, Try.ntmps23
      go_wp2_with (first | (go_at_call 35; (with_reducible refine (blocks_lit _).mono ?_); rintro e w1 ⟨rfl, hb⟩; have HB := Aside0.mk hb; clear hb) | (go_at_call 26; (with_reducible refine (own_blocks _ _ 54 n c (heap_alloc_last _ _) HO.out).mono ?_); rintro e w2 ⟨rfl, hb⟩; have HB2 := Aside0.mk (below_step (below_alloc HB.out _) hb); clear hb HB))
      go_ret2
      exact ⟨_, rfl, R_nil _ _, HB2.out⟩
  · rw [if_neg hc]
    have c1 : decide (0 < c) = false := decide_eq_false hc
    clear hc
    by_cases h3 : n ≤ 256
    · rw [if_pos h3]
      have c2 : decide (n ≤ 256) = true := decide_eq_true h3
      as_aux_lemma =>
        go_enter Try.func23, Try.ntmps23
        go_wp2_with (first | (go_at_call 35; (with_reducible refine (blocks_lit _).mono ?_); rintro e w1 ⟨rfl, hb⟩; have HB := Aside0.mk hb; clear hb) | (go_at_call 26; (with_reducible refine (own_blocks _ _ 54 n c (heap_alloc_last _ _) HO.out).mono ?_); rintro e w2 ⟨rfl, hb⟩; have HB2 := Aside0.mk (below_step (below_alloc HB.out _) hb); clear hb HB) | (go_at_call 43; (with_reducible refine (more1_calls _ _).mono ?_); rintro e w3 ⟨v, rfl, hr, hb⟩; have HR := Aside0.mk (Kd.R_lower hr (below_size HB2.out)); have HB3 := Aside0.mk (below_step HB2.out hb); clear hr hb HB2))
        go_ret2
        exact ⟨_, rfl, HR.out, HB3.out⟩
    · rw [if_neg h3]
      have c2 : decide (n ≤ 256) = false := decide_eq_false h3
      as_aux_lemma =>
        go_enter Try.func23, Try.ntmps23
        go_wp2_with (first | (go_at_call 35; (with_reducible refine (blocks_lit _).mono ?_); rintro e w1 ⟨rfl, hb⟩; have HB := Aside0.mk hb; clear hb) | (go_at_call 26; (with_reducible refine (own_blocks _ _ 54 n c (heap_alloc_last _ _) HO.out).mono ?_); rintro e w2 ⟨rfl, hb⟩; have HB2 := Aside0.mk (below_step (below_alloc HB.out _) hb); clear hb HB) | (go_at_call 43; (with_reducible refine (more2_calls _ _).mono ?_); rintro e w3 ⟨v, rfl, hr, hb⟩; have HR := Aside0.mk (Kd.R_lower hr (below_size HB2.out)); have HB3 := Aside0.mk (below_step HB2.out hb); clear hr hb HB2))
        go_ret2
        exact ⟨_, rfl, HR.out, HB3.out⟩
def rateP (n : Int) : Int × List Int :=
  if 0 < mx 0 (ownAt n RATES 0) ∨ n = 0 then (mx 0 (ownAt n RATES 0), []) else if n % 1000 = 0 ∧ n ≤ 255000 then (12, [n / 1000 % 256]) else if n ≤ 65535 then (13, [n / 256 % 256, n % 256])
  else if n % 10 = 0 ∧ n ≤ 655350 then (14, [n / 10 / 256 % 256, n / 10 % 256]) else (0, [])
set_option maxHeartbeats 8000000 in
set_option maxRecDepth 100000 in
theorem rate_calls (w : World) (n : Int) (h1 : 0 ≤ n) (h2 : n ≤ 1048575) : Calls Try.prog 24 #[.int .i64 n] w (CodePost w (rateP n)) := by
  unfold rateP
  have ho : head_own.f n RATES = some (mx 0 (ownAt n RATES 0)) := by unfold head_own.f; rw [if_pos (by decide)]
  have HO := Aside0.mk ho
  clear ho
  generalize mx 0 (ownAt n RATES 0) = c at HO
  by_cases hc : 0 < c
  · rw [if_pos (.inl hc)]
    have c1 : decide (0 < c) = true := decide_eq_true hc
    clear hc
    as_aux_lemma =>
      go_enter Try.func24, Try.ntmps24
      go_wp2_with (first | (go_at_call 36; (with_reducible refine (rates_lit _).mono ?_); rintro e w1 ⟨rfl, hb⟩; have HB := Aside0.mk hb; clear hb) | (go_at_call 26; (with_reducible refine (own_rates _ _ 54 n c (heap_alloc_last _ _) HO.out).mono ?_); rintro e w2 ⟨rfl, hb⟩; have HB2 := Aside0.mk (below_step (below_alloc HB.out _) hb); clear hb HB))
      go_ret2
      exact ⟨_, rfl, R_nil _ _, HB2.out⟩
  · have c1 : decide (0 < c) = false := decide_eq_false hc
    by_cases hz : n = 0
    · rw [if_pos (.inr hz)]
      have c2 : (n == 0) = true := beq_iff_eq.mpr hz
      clear hc hz
      as_aux_lemma =>
        go_enter Try.func24, Try.ntmps24
        go_wp2_with (first | (go_at_call 36; (with_reducible refine (rates_lit _).mono ?_); rintro e w1 ⟨rfl, hb⟩; have HB := Aside0.mk hb; clear hb) | (go_at_call 26; (with_reducible refine (own_rates _ _ 54 n c (heap_alloc_last _ _) HO.out).mono ?_); rintro e w2 ⟨rfl, hb⟩; have HB2 := Aside0.mk (below_step (below_alloc HB.out _) hb); clear hb HB))
        go_ret2
        exact ⟨_, rfl, R_nil _ _, HB2.out⟩
    · rw [if_neg (by omega)]
      have c2 : (n == 0) = false := beq_eq_false_iff_ne.mpr hz
      clear hc hz
      by_cases k1 : n % 1000 = 0
      · have d1 : (n % 1000 == 0) = true := beq_iff_eq.mpr k1
        by_cases k2 : n ≤ 255000
        · rw [if_pos ⟨k1, k2⟩]
          have d2 : decide (n ≤ 255000) = true := decide_eq_true k2
          clear k1
          as_aux_lemma =>
            go_enter Try.func24, Try.ntmps24
            go_wp2_with (first | (go_at_call 36; (with_reducible refine (rates_lit _).mono ?_); rintro e w1 ⟨rfl, hb⟩; have HB := Aside0.mk hb; clear hb) | (go_at_call 26; (with_reducible refine (own_rates _ _ 54 n c (heap_alloc_last _ _) HO.out).mono ?_); rintro e w2 ⟨rfl, hb⟩; have HB2 := Aside0.mk (below_step (below_alloc HB.out _) hb); clear hb HB) | (go_at_call 43; (with_reducible refine (more1_calls _ _).mono ?_); rintro e w3 ⟨v, rfl, hr, hb⟩; have HR := Aside0.mk (Kd.R_lower hr (below_size HB2.out)); have HB3 := Aside0.mk (below_step HB2.out hb); clear hr hb HB2))
            go_ret2
            exact ⟨_, rfl, HR.out, HB3.out⟩
        · rw [if_neg (fun x => k2 x.2), if_neg (by omega)]
          have d2 : decide (n ≤ 255000) = false := decide_eq_false k2
          have d3 : decide (n ≤ 65535) = false := decide_eq_false (by omega)
          clear k1
          by_cases k3 : n % 10 = 0
          · have d4 : (n % 10 == 0) = true := beq_iff_eq.mpr k3
            by_cases k4 : n ≤ 655350
            · rw [if_pos ⟨k3, k4⟩]
              have d5 : decide (n ≤ 655350) = true := decide_eq_true k4
              clear k3
              as_aux_lemma =>
                go_enter Try.func24, Try.ntmps24
                go_wp2_with (first | (go_at_call 36; (with_reducible refine (rates_lit _).mono ?_); rintro e w1 ⟨rfl, hb⟩; have HB := Aside0.mk hb; clear hb) | (go_at_call 26; (with_reducible refine (own_rates _ _ 54 n c (heap_alloc_last _ _) HO.out).mono ?_); rintro e w2 ⟨rfl, hb⟩; have HB2 := Aside0.mk (below_step (below_alloc HB.out _) hb); clear hb HB) | (go_at_call 43; (with_reducible refine (more2_calls _ _).mono ?_); rintro e w3 ⟨v, rfl, hr, hb⟩; have HR := Aside0.mk (Kd.R_lower hr (below_size HB2.out)); have HB3 := Aside0.mk (below_step HB2.out hb); clear hr hb HB2))
                go_ret2
                exact ⟨_, rfl, HR.out, HB3.out⟩
            · rw [if_neg (fun x => k4 x.2)]
              have d5 : decide (n ≤ 655350) = false := decide_eq_false k4
              clear k3
              as_aux_lemma =>
                go_enter Try.func24, Try.ntmps24
                go_wp2_with (first | (go_at_call 36; (with_reducible refine (rates_lit _).mono ?_); rintro e w1 ⟨rfl, hb⟩; have HB := Aside0.mk hb; clear hb) | (go_at_call 26; (with_reducible refine (own_rates _ _ 54 n c (heap_alloc_last _ _) HO.out).mono ?_); rintro e w2 ⟨rfl, hb⟩; have HB2 := Aside0.mk (below_step (below_alloc HB.out _) hb); clear hb HB))
                go_ret2
                exact ⟨_, rfl, R_nil _ _, HB2.out⟩
          · rw [if_neg (fun x => k3 x.1)]
            have d4 : (n % 10 == 0) = false := beq_eq_false_iff_ne.mpr k3
            clear k3
            as_aux_lemma =>
              go_enter Try.func24, Try.ntmps24
              go_wp2_with (first | (go_at_call 36; (with_reducible refine (rates_lit _).mono ?_); rintro e w1 ⟨rfl, hb⟩; have HB := Aside0.mk hb; clear hb) | (go_at_call 26; (with_reducible refine (own_rates _ _ 54 n c (heap_alloc_last _ _) HO.out).mono ?_); rintro e w2 ⟨rfl, hb⟩; have HB2 := Aside0.mk (below_step (below_alloc HB.out _) hb); clear hb HB))
              go_ret2
              exact ⟨_, rfl, R_nil _ _, HB2.out⟩
      · rw [if_neg (fun x => k1 x.1)]
        have d1 : (n % 1000 == 0) = false := beq_eq_false_iff_ne.mpr k1
        clear k1
        by_cases k2 : n ≤ 65535
        · rw [if_pos k2]
          have d3 : decide (n ≤ 65535) = true := decide_eq_true k2
          as_aux_lemma =>
            go_enter Try.func24, Try.ntmps24
            go_wp2_with (first | (go_at_call 36; (with_reducible refine (rates_lit _).mono ?_); rintro e w1 ⟨rfl, hb⟩; have HB := Aside0.mk hb; clear hb) | (go_at_call 26; (with_reducible refine (own_rates _ _ 54 n c (heap_alloc_last _ _) HO.out).mono ?_); rintro e w2 ⟨rfl, hb⟩; have HB2 := Aside0.mk (below_step (below_alloc HB.out _) hb); clear hb HB) | (go_at_call 43; (with_reducible refine (more2_calls _ _).mono ?_); rintro e w3 ⟨v, rfl, hr, hb⟩; have HR := Aside0.mk (Kd.R_lower hr (below_size HB2.out)); have HB3 := Aside0.mk (below_step HB2.out hb); clear hr hb HB2))
            go_ret2
            exact ⟨_, rfl, HR.out, HB3.out⟩
        · rw [if_neg k2]
          have d3 : decide (n ≤ 65535) = false := decide_eq_false k2
          by_cases k3 : n % 10 = 0
          · have d4 : (n % 10 == 0) = true := beq_iff_eq.mpr k3
            by_cases k4 : n ≤ 655350
            · rw [if_pos ⟨k3, k4⟩]
              have d5 : decide (n ≤ 655350) = true := decide_eq_true k4
              clear k3
              as_aux_lemma =>
                go_enter Try.func24, Try.ntmps24
                go_wp2_with (first | (go_at_call 36; (with_reducible refine (rates_lit _).mono ?_); rintro e w1 ⟨rfl, hb⟩; have HB := Aside0.mk hb; clear hb) | (go_at_call 26; (with_reducible refine (own_rates _ _ 54 n c (heap_alloc_last _ _) HO.out).mono ?_); rintro e w2 ⟨rfl, hb⟩; have HB2 := Aside0.mk (below_step (below_alloc HB.out _) hb); clear hb HB) | (go_at_call 43; (with_reducible refine (more2_calls _ _).mono ?_); rintro e w3 ⟨v, rfl, hr, hb⟩; have HR := Aside0.mk (Kd.R_lower hr (below_size HB2.out)); have HB3 := Aside0.mk (below_step HB2.out hb); clear hr hb HB2))
                go_ret2
                exact ⟨_, rfl, HR.out, HB3.out⟩
            · rw [if_neg (fun x => k4 x.2)]
              have d5 : decide (n ≤ 655350) = false := decide_eq_false k4
              clear k3
              as_aux_lemma =>
                go_enter Try.func24, Try.ntmps24
                go_wp2_with (first | (go_at_call 36; (with_reducible refine (rates_lit _).mono ?_); rintro e w1 ⟨rfl, hb⟩; have HB := Aside0.mk hb; clear hb) | (go_at_call 26; (with_reducible refine (own_rates _ _ 54 n c (heap_alloc_last _ _) HO.out).mono ?_); rintro e w2 ⟨rfl, hb⟩; have HB2 := Aside0.mk (below_step (below_alloc HB.out _) hb); clear hb HB))
                go_ret2
                exact ⟨_, rfl, R_nil _ _, HB2.out⟩
          · rw [if_neg (fun x => k3 x.1)]
            have d4 : (n % 10 == 0) = false := beq_eq_false_iff_ne.mpr k3
            clear k3
            as_aux_lemma =>
              go_enter Try.func24, Try.ntmps24
              go_wp2_with (first | (go_at_call 36; (with_reducible refine (rates_lit _).mono ?_); rintro e w1 ⟨rfl, hb⟩; have HB := Aside0.mk hb; clear hb) | (go_at_call 26; (with_reducible refine (own_rates _ _ 54 n c (heap_alloc_last _ _) HO.out).mono ?_); rintro e w2 ⟨rfl, hb⟩; have HB2 := Aside0.mk (below_step (below_alloc HB.out _) hb); clear hb HB))
              go_ret2
              exact ⟨_, rfl, R_nil _ _, HB2.out⟩
end Go.Proofs.Ytbohlcccdcilkaa.H
