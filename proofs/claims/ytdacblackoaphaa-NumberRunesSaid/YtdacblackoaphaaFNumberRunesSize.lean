import Derived.Test.YtdacblackoaphaaPNumberRunesx3
import Derived.Test.YtdacblackoaphaaLEv
import Derived.Test.YtdacblackoaphaaLNum
namespace Go.Proofs.Ytdacblackoaphaa.FNumberRunes
open Go.RowKit Go.Proofs.YtdacblackoaphaaW.PrintWords Go.Proofs.YtdacblackoaphaaW.PrintLast Go.Proofs.Ytdacblackoaphaa.PNumberRunes Go.Proofs.Ytdacblackoaphaa.L
set_option linter.unusedVariables false
set_option linter.unusedSimpArgs false
theorem room_one : number_room.f 1 = some 7 := rfl
theorem room_more (s : Int) (h : 2 ≤ s) (h' : s ≤ 7) : number_room.f s = some (5 * s + 1) := by
  unfold number_room.f
  rw [if_neg (by omega), wr (5 * s) (by omega), wr _ (by omega)]
theorem shr_nat (n : Int) (t : Int) (p : Int) (h : p = 2 ^ (min t.toNat 64)) : shr .i64 n t = n / p := by rw [h]; rfl
theorem size_loop (n : Int) (s t p r : Int) (ht : number_room.f s = some t) (h0 : 0 ≤ t) (hp : p = 2 ^ (min t.toNat 64)) (hs : 1 ≤ s ∧ s ≤ 7)
    (h : 0 < n / p → Ev (fun k => number_Size.l0 k n (s + 1)) r) (h' : ¬ 0 < n / p → r = s) : Ev (fun k => number_Size.l0 k n s) r := by
  refine Ev.step (fun k => number_Size.l0.eq_2 ..) ?_
  refine evC ht ?_
  refine evT h0 ?_
  rw [shr_nat n t p hp]
  by_cases e : 0 < n / p
  · refine evT e ?_
    rw [wr _ (by omega)]
    exact h e
  · rw [h' e]
    exact evF e (Ev.now _)
theorem size_in (n : Int) (h0 : 0 ≤ n) (h1 : n ≤ 68719476735) : Ev (fun k => number_Size.f k n) (nsize n) := by
  unfold number_Size.f
  refine evF (by omega) ?_
  refine Ev.step (fun k => number_Size.j0.eq_2 ..) ?_
  refine evF (by simp; omega) ?_
  refine size_loop n 1 7 128 _ (by decide +kernel) (by omega) rfl (by omega) (fun c1 => ?_) (fun c => by unfold nsize; rw [if_pos (by omega)])
  refine size_loop n 2 11 2048 _ (by decide +kernel) (by omega) rfl (by omega) (fun c2 => ?_) (fun c => by unfold nsize; rw [if_neg (by omega), if_pos (by omega)])
  refine size_loop n 3 16 65536 _ (by decide +kernel) (by omega) rfl (by omega) (fun c3 => ?_) (fun c => by unfold nsize; rw [if_neg (by omega), if_neg (by omega), if_pos (by omega)])
  refine size_loop n 4 21 2097152 _ (by decide +kernel) (by omega) rfl (by omega) (fun c4 => ?_) (fun c => by unfold nsize; rw [if_neg (by omega), if_neg (by omega), if_neg (by omega), if_pos (by omega)])
  refine size_loop n 5 26 67108864 _ (by decide +kernel) (by omega) rfl (by omega) (fun c5 => ?_) (fun c => by unfold nsize; rw [if_neg (by omega), if_neg (by omega), if_neg (by omega), if_neg (by omega), if_pos (by omega)])
  refine size_loop n 6 31 2147483648 _ (by decide +kernel) (by omega) rfl (by omega) (fun c6 => ?_) (fun c => by unfold nsize; rw [if_neg (by omega), if_neg (by omega), if_neg (by omega), if_neg (by omega), if_neg (by omega), if_pos (by omega)])
  refine size_loop n 7 36 68719476736 _ (by decide +kernel) (by omega) rfl (by omega) (fun c7 => ?_) (fun c => by unfold nsize; rw [if_neg (by omega), if_neg (by omega), if_neg (by omega), if_neg (by omega), if_neg (by omega), if_neg (by omega)])
  omega
end Go.Proofs.Ytdacblackoaphaa.FNumberRunes
