-- written by this session's program wip/reprint.sh (a turned copy of the kit's print): the session's own text
import Derived.Test.YtdacblackoaphaaPBoundFramesx0
import Derived.Test.YtdacblackoaphaaPBoundFramesx2
import Derived.Test.YtdacblackoaphaaPBoundFramesx4
import Derived.Test.YtdacblackoaphaaPBoundFramesx5
import Derived.Test.YtdacblackoaphaaPBoundFramesx8
import Derived.Test.YtdacblackoaphaaPBoundFramesx13
namespace Go.Proofs.Ytdacblackoaphaa.PBoundFrames
open Go.RowKit Go.Proofs.YtdacblackoaphaaW.PrintWords Go.Proofs.YtdacblackoaphaaW.PrintLast Go.Proofs.YtdacblackoaphaaW.PrintMore Go.Proofs.Ytdacblackoaphaa.H
attribute [local go_sem] max2_int min2_int max_two min_two max_three min_three max_four min_four   -- for this text's walks alone
set_option linter.unusedVariables false
set_option linter.unusedSimpArgs false

/-! ### serinettelaw24_BoundFrames: function 4 -/
mutual
def serinettelaw24_BoundFrames.j0 : Nat → Bool → Int → Int → Int → Int → Int → Bool → ByteArray → List ByteArray → Int → Int → Option (Bool)
  | 0, _, _, _, _, _, _, _, _, _, _, _ => none
  | k + 1, x13, x14, x15, x16, x17, x18, x77, x410000, x410001, x410002, x410003 => if x77 = true then (some x13) else (serinettelaw24_BoundFrames.l0 k x13 x14 x15 x16 x17 x18 0 0 x410000 x410001 x410002 x410003)
def serinettelaw24_BoundFrames.l0 : Nat → Bool → Int → Int → Int → Int → Int → Int → Int → ByteArray → List ByteArray → Int → Int → Option (Bool)
  | 0, _, _, _, _, _, _, _, _, _, _, _, _ => none
  | k + 1, x13, x14, x15, x16, x17, x18, x21, x22, x410000, x410001, x410002, x410003 => if x22 < x14 then (serinettelaw24_BoundFrames.l0 k x13 x14 x15 x16 x17 x18 (wrap64 (x21 + 1)) (wrap64 (x22 + x15)) x410000 x410001 x410002 x410003) else ((serinetteref24_Ahead.f k x410000 x410001 x21 x410000 x410001 x410002 x410003).bind fun t413 => ((serinetteref24_Frames.f k x14 x15 x16 x17 x18).bind fun t414 => (if x13 = true then ((bound_Ahead.f k x410000 x410001 x21 x410000 x410001 x410002 x410003).bind fun t415 => (if t415 = t413 then ((bound_Frames.f k x14 x15 x16 x17 x18).bind fun t416 => (if t416 = t414 then ((bound_Stream.f k x14 x15 x16 x17 x18 x410000 x410001 x410002 x410003).bind fun t417 => (some (t417 == (wrap64 (t413 + t414))))) else (some false))) else (some false))) else (some false))))
end
def serinettelaw24_BoundFrames.f (k : Nat) (a0 : Int) (a1 : Int) (a2 : Int) (a3 : Int) (a4 : Int) (a5_0 : ByteArray) (l5_1 : List ByteArray) (a5_2 : Int) (a5_3 : Int) : Option (Bool) := (serinettelaw24_awake.f k).bind fun t410 => ((serinetteref18_CommentRight.f k a5_0 l5_1).bind fun t411 => ((serinetteref23_Few.f k 0 0 ([] : List (List Int)) 0 false 0 0 ([] : List Int) ([] : List Int) 0 false a5_0 l5_1 a5_2 a5_3).bind fun t412 => (if t411 = true then (if t412 = true then (if a5_2 < 0 then (serinettelaw24_BoundFrames.j0 k t410 (Int.tmod (wrap64 (a0)) 2001) (wrap64 (1 + (wrap64 (Int.tmod a1 100)))) (wrap64 (1 + (wrap64 (Int.tmod a2 8)))) (wrap64 (1 + (wrap64 (Int.tmod a3 1048575)))) (wrap64 (4 + (wrap64 (Int.tmod a4 29)))) true a5_0 l5_1 a5_2 a5_3) else (if a5_2 > 16777215 then (serinettelaw24_BoundFrames.j0 k t410 (Int.tmod (wrap64 (a0)) 2001) (wrap64 (1 + (wrap64 (Int.tmod a1 100)))) (wrap64 (1 + (wrap64 (Int.tmod a2 8)))) (wrap64 (1 + (wrap64 (Int.tmod a3 1048575)))) (wrap64 (4 + (wrap64 (Int.tmod a4 29)))) true a5_0 l5_1 a5_2 a5_3) else (if a5_3 < 0 then (serinettelaw24_BoundFrames.j0 k t410 (Int.tmod (wrap64 (a0)) 2001) (wrap64 (1 + (wrap64 (Int.tmod a1 100)))) (wrap64 (1 + (wrap64 (Int.tmod a2 8)))) (wrap64 (1 + (wrap64 (Int.tmod a3 1048575)))) (wrap64 (4 + (wrap64 (Int.tmod a4 29)))) true a5_0 l5_1 a5_2 a5_3) else (serinettelaw24_BoundFrames.j0 k t410 (Int.tmod (wrap64 (a0)) 2001) (wrap64 (1 + (wrap64 (Int.tmod a1 100)))) (wrap64 (1 + (wrap64 (Int.tmod a2 8)))) (wrap64 (1 + (wrap64 (Int.tmod a3 1048575)))) (wrap64 (4 + (wrap64 (Int.tmod a4 29)))) (decide (a5_3 > 300)) a5_0 l5_1 a5_2 a5_3)))) else (serinettelaw24_BoundFrames.j0 k t410 (Int.tmod (wrap64 (a0)) 2001) (wrap64 (1 + (wrap64 (Int.tmod a1 100)))) (wrap64 (1 + (wrap64 (Int.tmod a2 8)))) (wrap64 (1 + (wrap64 (Int.tmod a3 1048575)))) (wrap64 (4 + (wrap64 (Int.tmod a4 29)))) true a5_0 l5_1 a5_2 a5_3)) else (serinettelaw24_BoundFrames.j0 k t410 (Int.tmod (wrap64 (a0)) 2001) (wrap64 (1 + (wrap64 (Int.tmod a1 100)))) (wrap64 (1 + (wrap64 (Int.tmod a2 8)))) (wrap64 (1 + (wrap64 (Int.tmod a3 1048575)))) (wrap64 (4 + (wrap64 (Int.tmod a4 29)))) true a5_0 l5_1 a5_2 a5_3))))
theorem serinettelaw24_BoundFrames.mono_l : ∀ k, (∀ y0 y1 y2 y3 y4 y5 y6 y7 y8 y9 y10, LeO (serinettelaw24_BoundFrames.j0 k y0 y1 y2 y3 y4 y5 y6 y7 y8 y9 y10) (serinettelaw24_BoundFrames.j0 (k + 1) y0 y1 y2 y3 y4 y5 y6 y7 y8 y9 y10)) ∧ (∀ y0 y1 y2 y3 y4 y5 y6 y7 y8 y9 y10 y11, LeO (serinettelaw24_BoundFrames.l0 k y0 y1 y2 y3 y4 y5 y6 y7 y8 y9 y10 y11) (serinettelaw24_BoundFrames.l0 (k + 1) y0 y1 y2 y3 y4 y5 y6 y7 y8 y9 y10 y11))
  | 0 => ⟨fun _ _ _ _ _ _ _ _ _ _ _ r h => by simp [serinettelaw24_BoundFrames.j0] at h, fun _ _ _ _ _ _ _ _ _ _ _ _ r h => by simp [serinettelaw24_BoundFrames.l0] at h⟩
  | k + 1 => by
    obtain ⟨ih0, ih1⟩ := serinettelaw24_BoundFrames.mono_l k
    refine ⟨?_, ?_⟩
    · intro y0 y1 y2 y3 y4 y5 y6 y7 y8 y9 y10
      unfold serinettelaw24_BoundFrames.j0
      repeat' first
      | (with_reducible exact ih0 _ _ _ _ _ _ _ _ _ _ _)
      | (with_reducible exact ih1 _ _ _ _ _ _ _ _ _ _ _ _)
      | (with_reducible exact bound_Ahead.mono _ _ _ _ _ _ _ _)
      | (with_reducible exact bound_Frames.mono _ _ _ _ _ _)
      | (with_reducible exact bound_Stream.mono _ _ _ _ _ _ _ _ _ _)
      | (with_reducible exact serinettelaw24_awake.mono _)
      | (with_reducible exact serinetteref18_CommentRight.mono _ _ _)
      | (with_reducible exact serinetteref23_Few.mono _ _ _ _ _ _ _ _ _ _ _ _ _ _ _ _)
      | (with_reducible exact serinetteref24_Ahead.mono _ _ _ _ _ _ _ _)
      | (with_reducible exact serinetteref24_Frames.mono _ _ _ _ _ _)
      | (with_reducible exact LeO.refl _)
      | (with_reducible exact LeO.none _)
      | (with_reducible refine LeO.ite ?_ ?_)
      | (with_reducible refine LeO.bind ?_ (fun _ => ?_))
      | exact ih0 _ _ _ _ _ _ _ _ _ _ _
      | exact ih1 _ _ _ _ _ _ _ _ _ _ _ _
      | exact bound_Ahead.mono _ _ _ _ _ _ _ _
      | exact bound_Frames.mono _ _ _ _ _ _
      | exact bound_Stream.mono _ _ _ _ _ _ _ _ _ _
      | exact serinettelaw24_awake.mono _
      | exact serinetteref18_CommentRight.mono _ _ _
      | exact serinetteref23_Few.mono _ _ _ _ _ _ _ _ _ _ _ _ _ _ _ _
      | exact serinetteref24_Ahead.mono _ _ _ _ _ _ _ _
      | exact serinetteref24_Frames.mono _ _ _ _ _ _
      | exact LeO.none _
      | refine LeO.ite ?_ ?_
      | refine LeO.bind ?_ (fun _ => ?_)
    · intro y0 y1 y2 y3 y4 y5 y6 y7 y8 y9 y10 y11
      unfold serinettelaw24_BoundFrames.l0
      repeat' first
      | (with_reducible exact ih0 _ _ _ _ _ _ _ _ _ _ _)
      | (with_reducible exact ih1 _ _ _ _ _ _ _ _ _ _ _ _)
      | (with_reducible exact bound_Ahead.mono _ _ _ _ _ _ _ _)
      | (with_reducible exact bound_Frames.mono _ _ _ _ _ _)
      | (with_reducible exact bound_Stream.mono _ _ _ _ _ _ _ _ _ _)
      | (with_reducible exact serinettelaw24_awake.mono _)
      | (with_reducible exact serinetteref18_CommentRight.mono _ _ _)
      | (with_reducible exact serinetteref23_Few.mono _ _ _ _ _ _ _ _ _ _ _ _ _ _ _ _)
      | (with_reducible exact serinetteref24_Ahead.mono _ _ _ _ _ _ _ _)
      | (with_reducible exact serinetteref24_Frames.mono _ _ _ _ _ _)
      | (with_reducible exact LeO.refl _)
      | (with_reducible exact LeO.none _)
      | (with_reducible refine LeO.ite ?_ ?_)
      | (with_reducible refine LeO.bind ?_ (fun _ => ?_))
      | exact ih0 _ _ _ _ _ _ _ _ _ _ _
      | exact ih1 _ _ _ _ _ _ _ _ _ _ _ _
      | exact bound_Ahead.mono _ _ _ _ _ _ _ _
      | exact bound_Frames.mono _ _ _ _ _ _
      | exact bound_Stream.mono _ _ _ _ _ _ _ _ _ _
      | exact serinettelaw24_awake.mono _
      | exact serinetteref18_CommentRight.mono _ _ _
      | exact serinetteref23_Few.mono _ _ _ _ _ _ _ _ _ _ _ _ _ _ _ _
      | exact serinetteref24_Ahead.mono _ _ _ _ _ _ _ _
      | exact serinetteref24_Frames.mono _ _ _ _ _ _
      | exact LeO.none _
      | refine LeO.ite ?_ ?_
      | refine LeO.bind ?_ (fun _ => ?_)
theorem serinettelaw24_BoundFrames.mono : ∀ a0 a1 a2 a3 a4 a5 a6 a7 a8 k, LeO (serinettelaw24_BoundFrames.f k a0 a1 a2 a3 a4 a5 a6 a7 a8) (serinettelaw24_BoundFrames.f (k + 1) a0 a1 a2 a3 a4 a5 a6 a7 a8) := by
  intro a0 a1 a2 a3 a4 a5 a6 a7 a8 k
  obtain ⟨ih0, ih1⟩ := serinettelaw24_BoundFrames.mono_l k
  unfold serinettelaw24_BoundFrames.f
  repeat' first
      | (with_reducible exact ih0 _ _ _ _ _ _ _ _ _ _ _)
      | (with_reducible exact ih1 _ _ _ _ _ _ _ _ _ _ _ _)
      | (with_reducible exact bound_Ahead.mono _ _ _ _ _ _ _ _)
      | (with_reducible exact bound_Frames.mono _ _ _ _ _ _)
      | (with_reducible exact bound_Stream.mono _ _ _ _ _ _ _ _ _ _)
      | (with_reducible exact serinettelaw24_awake.mono _)
      | (with_reducible exact serinetteref18_CommentRight.mono _ _ _)
      | (with_reducible exact serinetteref23_Few.mono _ _ _ _ _ _ _ _ _ _ _ _ _ _ _ _)
      | (with_reducible exact serinetteref24_Ahead.mono _ _ _ _ _ _ _ _)
      | (with_reducible exact serinetteref24_Frames.mono _ _ _ _ _ _)
      | (with_reducible exact LeO.refl _)
      | (with_reducible exact LeO.none _)
      | (with_reducible refine LeO.ite ?_ ?_)
      | (with_reducible refine LeO.bind ?_ (fun _ => ?_))
      | exact ih0 _ _ _ _ _ _ _ _ _ _ _
      | exact ih1 _ _ _ _ _ _ _ _ _ _ _ _
      | exact bound_Ahead.mono _ _ _ _ _ _ _ _
      | exact bound_Frames.mono _ _ _ _ _ _
      | exact bound_Stream.mono _ _ _ _ _ _ _ _ _ _
      | exact serinettelaw24_awake.mono _
      | exact serinetteref18_CommentRight.mono _ _ _
      | exact serinetteref23_Few.mono _ _ _ _ _ _ _ _ _ _ _ _ _ _ _ _
      | exact serinetteref24_Ahead.mono _ _ _ _ _ _ _ _
      | exact serinetteref24_Frames.mono _ _ _ _ _ _
      | exact LeO.none _
      | refine LeO.ite ?_ ?_
      | refine LeO.bind ?_ (fun _ => ?_)
set_option maxHeartbeats 8000000 in
set_option maxRecDepth 100000 in
theorem serinettelaw24_BoundFrames.calls (k : Nat) (a0 : Int) (a1 : Int) (a2 : Int) (a3 : Int) (a4 : Int) (a5_0 : ByteArray) (A5_1 : Option Addr) (c5_1 : Nat) (l5_1 : List ByteArray) (a5_2 : Int) (a5_3 : Int) (r : Bool) (w : World) (hr5_1 : Kd.C Kd.string w A5_1 l5_1.length l5_1) (hc5_1 : l5_1.length ≤ c5_1) (h : serinettelaw24_BoundFrames.f k a0 a1 a2 a3 a4 a5_0 l5_1 a5_2 a5_3 = some r) :
    Calls Try.prog 4 #[.int .u16 a0, .int .u8 a1, .int .u8 a2, .int .u32 a3, .int .u8 a4, .agg #[.string a5_0, .slice A5_1 l5_1.length c5_1, .int .i64 a5_2, .int .i64 a5_3]] w fun e w' => e = .returned (.bool r) ∧ Below w.heap.size w w' := by
  have hu36 := Try.underlying36
  have hu34 := Try.underlying34
  have hu41 := Try.underlying41
  have hu44 := Try.underlying44
  have HR5_1 := Aside0.mk hr5_1
  have HC5_1 := Aside0.mk hc5_1
  clear hr5_1 hc5_1
  have HB := Aside0.mk (Below.refl w.heap.size w)
  have H : ((serinettelaw24_awake.f k).bind fun t410 => ((serinetteref18_CommentRight.f k a5_0 l5_1).bind fun t411 => ((serinetteref23_Few.f k 0 0 ([] : List (List Int)) 0 false 0 0 ([] : List Int) ([] : List Int) 0 false a5_0 l5_1 a5_2 a5_3).bind fun t412 => (if t411 = true then (if t412 = true then (if a5_2 < 0 then (serinettelaw24_BoundFrames.j0 k t410 (Int.tmod (wrap64 (a0)) 2001) (wrap64 (1 + (wrap64 (Int.tmod a1 100)))) (wrap64 (1 + (wrap64 (Int.tmod a2 8)))) (wrap64 (1 + (wrap64 (Int.tmod a3 1048575)))) (wrap64 (4 + (wrap64 (Int.tmod a4 29)))) true a5_0 l5_1 a5_2 a5_3) else (if a5_2 > 16777215 then (serinettelaw24_BoundFrames.j0 k t410 (Int.tmod (wrap64 (a0)) 2001) (wrap64 (1 + (wrap64 (Int.tmod a1 100)))) (wrap64 (1 + (wrap64 (Int.tmod a2 8)))) (wrap64 (1 + (wrap64 (Int.tmod a3 1048575)))) (wrap64 (4 + (wrap64 (Int.tmod a4 29)))) true a5_0 l5_1 a5_2 a5_3) else (if a5_3 < 0 then (serinettelaw24_BoundFrames.j0 k t410 (Int.tmod (wrap64 (a0)) 2001) (wrap64 (1 + (wrap64 (Int.tmod a1 100)))) (wrap64 (1 + (wrap64 (Int.tmod a2 8)))) (wrap64 (1 + (wrap64 (Int.tmod a3 1048575)))) (wrap64 (4 + (wrap64 (Int.tmod a4 29)))) true a5_0 l5_1 a5_2 a5_3) else (serinettelaw24_BoundFrames.j0 k t410 (Int.tmod (wrap64 (a0)) 2001) (wrap64 (1 + (wrap64 (Int.tmod a1 100)))) (wrap64 (1 + (wrap64 (Int.tmod a2 8)))) (wrap64 (1 + (wrap64 (Int.tmod a3 1048575)))) (wrap64 (4 + (wrap64 (Int.tmod a4 29)))) (decide (a5_3 > 300)) a5_0 l5_1 a5_2 a5_3)))) else (serinettelaw24_BoundFrames.j0 k t410 (Int.tmod (wrap64 (a0)) 2001) (wrap64 (1 + (wrap64 (Int.tmod a1 100)))) (wrap64 (1 + (wrap64 (Int.tmod a2 8)))) (wrap64 (1 + (wrap64 (Int.tmod a3 1048575)))) (wrap64 (4 + (wrap64 (Int.tmod a4 29)))) true a5_0 l5_1 a5_2 a5_3)) else (serinettelaw24_BoundFrames.j0 k t410 (Int.tmod (wrap64 (a0)) 2001) (wrap64 (1 + (wrap64 (Int.tmod a1 100)))) (wrap64 (1 + (wrap64 (Int.tmod a2 8)))) (wrap64 (1 + (wrap64 (Int.tmod a3 1048575)))) (wrap64 (4 + (wrap64 (Int.tmod a4 29)))) true a5_0 l5_1 a5_2 a5_3))))) = some r := h
  clear h
  replace H := Option.bind_eq_some_iff.mp H
  obtain ⟨t410, A70, H⟩ := H
  replace H : ((serinetteref18_CommentRight.f k a5_0 l5_1).bind fun t411 => ((serinetteref23_Few.f k 0 0 ([] : List (List Int)) 0 false 0 0 ([] : List Int) ([] : List Int) 0 false a5_0 l5_1 a5_2 a5_3).bind fun t412 => (if t411 = true then (if t412 = true then (if a5_2 < 0 then (serinettelaw24_BoundFrames.j0 k t410 (Int.tmod (wrap64 (a0)) 2001) (wrap64 (1 + (wrap64 (Int.tmod a1 100)))) (wrap64 (1 + (wrap64 (Int.tmod a2 8)))) (wrap64 (1 + (wrap64 (Int.tmod a3 1048575)))) (wrap64 (4 + (wrap64 (Int.tmod a4 29)))) true a5_0 l5_1 a5_2 a5_3) else (if a5_2 > 16777215 then (serinettelaw24_BoundFrames.j0 k t410 (Int.tmod (wrap64 (a0)) 2001) (wrap64 (1 + (wrap64 (Int.tmod a1 100)))) (wrap64 (1 + (wrap64 (Int.tmod a2 8)))) (wrap64 (1 + (wrap64 (Int.tmod a3 1048575)))) (wrap64 (4 + (wrap64 (Int.tmod a4 29)))) true a5_0 l5_1 a5_2 a5_3) else (if a5_3 < 0 then (serinettelaw24_BoundFrames.j0 k t410 (Int.tmod (wrap64 (a0)) 2001) (wrap64 (1 + (wrap64 (Int.tmod a1 100)))) (wrap64 (1 + (wrap64 (Int.tmod a2 8)))) (wrap64 (1 + (wrap64 (Int.tmod a3 1048575)))) (wrap64 (4 + (wrap64 (Int.tmod a4 29)))) true a5_0 l5_1 a5_2 a5_3) else (serinettelaw24_BoundFrames.j0 k t410 (Int.tmod (wrap64 (a0)) 2001) (wrap64 (1 + (wrap64 (Int.tmod a1 100)))) (wrap64 (1 + (wrap64 (Int.tmod a2 8)))) (wrap64 (1 + (wrap64 (Int.tmod a3 1048575)))) (wrap64 (4 + (wrap64 (Int.tmod a4 29)))) (decide (a5_3 > 300)) a5_0 l5_1 a5_2 a5_3)))) else (serinettelaw24_BoundFrames.j0 k t410 (Int.tmod (wrap64 (a0)) 2001) (wrap64 (1 + (wrap64 (Int.tmod a1 100)))) (wrap64 (1 + (wrap64 (Int.tmod a2 8)))) (wrap64 (1 + (wrap64 (Int.tmod a3 1048575)))) (wrap64 (4 + (wrap64 (Int.tmod a4 29)))) true a5_0 l5_1 a5_2 a5_3)) else (serinettelaw24_BoundFrames.j0 k t410 (Int.tmod (wrap64 (a0)) 2001) (wrap64 (1 + (wrap64 (Int.tmod a1 100)))) (wrap64 (1 + (wrap64 (Int.tmod a2 8)))) (wrap64 (1 + (wrap64 (Int.tmod a3 1048575)))) (wrap64 (4 + (wrap64 (Int.tmod a4 29)))) true a5_0 l5_1 a5_2 a5_3)))) = some r := H
  have A7 := Aside0.mk A70
  clear A70
  replace H := Option.bind_eq_some_iff.mp H
  obtain ⟨t411, A80, H⟩ := H
  replace H : ((serinetteref23_Few.f k 0 0 ([] : List (List Int)) 0 false 0 0 ([] : List Int) ([] : List Int) 0 false a5_0 l5_1 a5_2 a5_3).bind fun t412 => (if t411 = true then (if t412 = true then (if a5_2 < 0 then (serinettelaw24_BoundFrames.j0 k t410 (Int.tmod (wrap64 (a0)) 2001) (wrap64 (1 + (wrap64 (Int.tmod a1 100)))) (wrap64 (1 + (wrap64 (Int.tmod a2 8)))) (wrap64 (1 + (wrap64 (Int.tmod a3 1048575)))) (wrap64 (4 + (wrap64 (Int.tmod a4 29)))) true a5_0 l5_1 a5_2 a5_3) else (if a5_2 > 16777215 then (serinettelaw24_BoundFrames.j0 k t410 (Int.tmod (wrap64 (a0)) 2001) (wrap64 (1 + (wrap64 (Int.tmod a1 100)))) (wrap64 (1 + (wrap64 (Int.tmod a2 8)))) (wrap64 (1 + (wrap64 (Int.tmod a3 1048575)))) (wrap64 (4 + (wrap64 (Int.tmod a4 29)))) true a5_0 l5_1 a5_2 a5_3) else (if a5_3 < 0 then (serinettelaw24_BoundFrames.j0 k t410 (Int.tmod (wrap64 (a0)) 2001) (wrap64 (1 + (wrap64 (Int.tmod a1 100)))) (wrap64 (1 + (wrap64 (Int.tmod a2 8)))) (wrap64 (1 + (wrap64 (Int.tmod a3 1048575)))) (wrap64 (4 + (wrap64 (Int.tmod a4 29)))) true a5_0 l5_1 a5_2 a5_3) else (serinettelaw24_BoundFrames.j0 k t410 (Int.tmod (wrap64 (a0)) 2001) (wrap64 (1 + (wrap64 (Int.tmod a1 100)))) (wrap64 (1 + (wrap64 (Int.tmod a2 8)))) (wrap64 (1 + (wrap64 (Int.tmod a3 1048575)))) (wrap64 (4 + (wrap64 (Int.tmod a4 29)))) (decide (a5_3 > 300)) a5_0 l5_1 a5_2 a5_3)))) else (serinettelaw24_BoundFrames.j0 k t410 (Int.tmod (wrap64 (a0)) 2001) (wrap64 (1 + (wrap64 (Int.tmod a1 100)))) (wrap64 (1 + (wrap64 (Int.tmod a2 8)))) (wrap64 (1 + (wrap64 (Int.tmod a3 1048575)))) (wrap64 (4 + (wrap64 (Int.tmod a4 29)))) true a5_0 l5_1 a5_2 a5_3)) else (serinettelaw24_BoundFrames.j0 k t410 (Int.tmod (wrap64 (a0)) 2001) (wrap64 (1 + (wrap64 (Int.tmod a1 100)))) (wrap64 (1 + (wrap64 (Int.tmod a2 8)))) (wrap64 (1 + (wrap64 (Int.tmod a3 1048575)))) (wrap64 (4 + (wrap64 (Int.tmod a4 29)))) true a5_0 l5_1 a5_2 a5_3))) = some r := H
  have A8 := Aside0.mk A80
  clear A80
  replace H := Option.bind_eq_some_iff.mp H
  obtain ⟨t412, A90, H⟩ := H
  replace H : (if t411 = true then (if t412 = true then (if a5_2 < 0 then (serinettelaw24_BoundFrames.j0 k t410 (Int.tmod (wrap64 (a0)) 2001) (wrap64 (1 + (wrap64 (Int.tmod a1 100)))) (wrap64 (1 + (wrap64 (Int.tmod a2 8)))) (wrap64 (1 + (wrap64 (Int.tmod a3 1048575)))) (wrap64 (4 + (wrap64 (Int.tmod a4 29)))) true a5_0 l5_1 a5_2 a5_3) else (if a5_2 > 16777215 then (serinettelaw24_BoundFrames.j0 k t410 (Int.tmod (wrap64 (a0)) 2001) (wrap64 (1 + (wrap64 (Int.tmod a1 100)))) (wrap64 (1 + (wrap64 (Int.tmod a2 8)))) (wrap64 (1 + (wrap64 (Int.tmod a3 1048575)))) (wrap64 (4 + (wrap64 (Int.tmod a4 29)))) true a5_0 l5_1 a5_2 a5_3) else (if a5_3 < 0 then (serinettelaw24_BoundFrames.j0 k t410 (Int.tmod (wrap64 (a0)) 2001) (wrap64 (1 + (wrap64 (Int.tmod a1 100)))) (wrap64 (1 + (wrap64 (Int.tmod a2 8)))) (wrap64 (1 + (wrap64 (Int.tmod a3 1048575)))) (wrap64 (4 + (wrap64 (Int.tmod a4 29)))) true a5_0 l5_1 a5_2 a5_3) else (serinettelaw24_BoundFrames.j0 k t410 (Int.tmod (wrap64 (a0)) 2001) (wrap64 (1 + (wrap64 (Int.tmod a1 100)))) (wrap64 (1 + (wrap64 (Int.tmod a2 8)))) (wrap64 (1 + (wrap64 (Int.tmod a3 1048575)))) (wrap64 (4 + (wrap64 (Int.tmod a4 29)))) (decide (a5_3 > 300)) a5_0 l5_1 a5_2 a5_3)))) else (serinettelaw24_BoundFrames.j0 k t410 (Int.tmod (wrap64 (a0)) 2001) (wrap64 (1 + (wrap64 (Int.tmod a1 100)))) (wrap64 (1 + (wrap64 (Int.tmod a2 8)))) (wrap64 (1 + (wrap64 (Int.tmod a3 1048575)))) (wrap64 (4 + (wrap64 (Int.tmod a4 29)))) true a5_0 l5_1 a5_2 a5_3)) else (serinettelaw24_BoundFrames.j0 k t410 (Int.tmod (wrap64 (a0)) 2001) (wrap64 (1 + (wrap64 (Int.tmod a1 100)))) (wrap64 (1 + (wrap64 (Int.tmod a2 8)))) (wrap64 (1 + (wrap64 (Int.tmod a3 1048575)))) (wrap64 (4 + (wrap64 (Int.tmod a4 29)))) true a5_0 l5_1 a5_2 a5_3)) = some r := H
  have A9 := Aside0.mk A90
  clear A90
  have HC10 := Aside0.mk H
  clear H
  go_enter Try.func4, Try.ntmps4
  go_upto_region 9 with (first | ((with_reducible refine gate_dst (N := 11) rfl ?_); refine box_event ?hg (N := 11) ?hd (cs := #[.string a5_0, .slice A5_1 l5_1.length c5_1, .int .i64 a5_2, .int .i64 a5_3]) (t := 36) ?hr ?_; (case hd => rfl); (case hg => rfl); (case hr => first | (go_simp; done) | (go_simp; rfl)); intro gb409 hg w11 hbox hb; have n0_ := Aside0.mk (below_step (by repeat (first | (with_reducible first | exact HB.out | apply below_alloc | apply pw_below_drewN | apply below_drew1) | exact HB.out)) hb); have n1_ := Aside0.mk (hbox); have n2_ := Aside0.mk ((by rw [hg]; exact (below_size (by repeat (first | (with_reducible first | exact HB.out | apply below_alloc | apply pw_below_drewN | apply below_drew1) | exact HB.out))) : w.heap.size ≤ gb409)); have n3_ := Aside0.mk ((by rw [hg]; exact (below_size (by repeat (first | (with_reducible first | exact HB.out | apply below_alloc | apply pw_below_drewN | apply below_drew1) | exact HB.out))) : w.heap.size ≤ gb409)); clear HB; have HB := n0_; have BK409 := n1_; have GW409 := n2_; have GE409 := n3_; clear n0_ n1_ n2_ n3_; clear hb hbox hg) | ((with_reducible refine gate_callee (f := 8) rfl ?_); refine goesL_ (some 25) rfl rfl Try.func8 (by kernel_rfl) rfl #[] rfl (by (try simp only [List.map_toArray, List.map_cons, List.map_nil]); first | done | rfl | (simp only [List.length_drop, List.length_take]; rfl)) ?_; (with_reducible refine (serinettelaw24_awake.calls k  t410 _ A7.out).mono ?_); rintro e w12 ⟨rfl, hb⟩; refine ⟨_, rfl, ?_⟩; have n0_ := Aside0.mk (blk_below (g := gb409) (o := .cells #[.string a5_0, .slice A5_1 l5_1.length c5_1, .int .i64 a5_2, .int .i64 a5_3] 36 (0, 0)) (by (with_reducible repeat (first | refine blk_drewN ?_ _ | refine blk_drew ?_ | refine blk_alloc ?_ _)); exact BK409.out) hb); have n1_ := Aside0.mk (below_step (by repeat (first | (with_reducible first | exact HB.out | apply below_alloc | apply pw_below_drewN | apply below_drew1 | refine below_set ?_ GE409.out) | exact HB.out)) hb); clear BK409; clear HB; have BK409 := n0_; have HB := n1_; clear n0_ n1_; (try clear hb); (try clear hb2); (try clear hk); (try clear hi); have hcz13_0 : w12.cell? ⟨gb409, 0, none⟩ = some (.string a5_0) := (blk_cell BK409.out 0).trans rfl; have hcz13_1 : w12.cell? ⟨gb409, 1, none⟩ = some (.slice A5_1 l5_1.length c5_1) := (blk_cell BK409.out 1).trans rfl; have hcz13_2 : w12.cell? ⟨gb409, 2, none⟩ = some (.int .i64 a5_2) := (blk_cell BK409.out 2).trans rfl; have hcz13_3 : w12.cell? ⟨gb409, 3, none⟩ = some (.int .i64 a5_3) := (blk_cell BK409.out 3).trans rfl; have hfz13_0 := blk_frozen BK409.out 0; have hfz13_1 := blk_frozen BK409.out 1; have hfz13_2 := blk_frozen BK409.out 2; have hfz13_3 := blk_frozen BK409.out 3) | ((with_reducible refine gate_callee (f := 9) rfl ?_); refine goesL_ (some 47) rfl rfl Try.func9 (by kernel_rfl) rfl #[.agg #[.string a5_0, .slice A5_1 l5_1.length c5_1]] rfl (by (try simp only [List.map_toArray, List.map_cons, List.map_nil]); first | done | rfl | (simp only [List.length_drop, List.length_take]; rfl)) ?_; (with_reducible refine (serinetteref18_CommentRight.calls k a5_0 _ _ l5_1 t411 _ ?side1 ?side2 A8.out).mono ?_); (case side1 => repeat (first | exact (Kd.C_below HR5_1.out HB.out) | (with_reducible refine Kd.C_alloc ?_ _) | (with_reducible refine Kd.C_drewN ?_ _) | (with_reducible refine Kd.C_drew ?_))); (case side2 => exact HC5_1.out); rintro e w14 ⟨rfl, hb⟩; refine ⟨_, rfl, ?_⟩; have n0_ := Aside0.mk (blk_below (g := gb409) (o := .cells #[.string a5_0, .slice A5_1 l5_1.length c5_1, .int .i64 a5_2, .int .i64 a5_3] 36 (0, 0)) (by (with_reducible repeat (first | refine blk_drewN ?_ _ | refine blk_drew ?_ | refine blk_alloc ?_ _)); exact BK409.out) hb); have n1_ := Aside0.mk (below_step (by repeat (first | (with_reducible first | exact HB.out | apply below_alloc | apply pw_below_drewN | apply below_drew1 | refine below_set ?_ GE409.out) | exact HB.out)) hb); clear BK409; clear HB; have BK409 := n0_; have HB := n1_; clear n0_ n1_; (try clear hb); (try clear hb2); (try clear hk); (try clear hi); have hcz15_0 : w14.cell? ⟨gb409, 0, none⟩ = some (.string a5_0) := (blk_cell BK409.out 0).trans rfl; have hcz15_1 : w14.cell? ⟨gb409, 1, none⟩ = some (.slice A5_1 l5_1.length c5_1) := (blk_cell BK409.out 1).trans rfl; have hcz15_2 : w14.cell? ⟨gb409, 2, none⟩ = some (.int .i64 a5_2) := (blk_cell BK409.out 2).trans rfl; have hcz15_3 : w14.cell? ⟨gb409, 3, none⟩ = some (.int .i64 a5_3) := (blk_cell BK409.out 3).trans rfl; have hfz15_0 := blk_frozen BK409.out 0; have hfz15_1 := blk_frozen BK409.out 1; have hfz15_2 := blk_frozen BK409.out 2; have hfz15_3 := blk_frozen BK409.out 3) | ((with_reducible refine gate_callee (f := 10) rfl ?_); refine goesL_ (some 51) rfl rfl Try.func10 (by kernel_rfl) rfl #[.agg #[.int .i64 0, .int .i64 0, .slice none 0 0], .agg #[.int .i64 0, .bool false, .int .i64 0, .int .i64 0, .slice none 0 0, .slice none 0 0, .int .i64 0, .bool false], .agg #[.string a5_0, .slice A5_1 l5_1.length c5_1, .int .i64 a5_2, .int .i64 a5_3]] rfl (by (try simp only [List.map_toArray, List.map_cons, List.map_nil]); first | done | rfl | (simp only [List.length_drop, List.length_take]; rfl)) ?_; (refine (serinetteref23_Few.calls k 0 0 _ _ ([] : List (List Int)) 0 false 0 0 _ _ ([] : List Int) _ _ ([] : List Int) 0 false a5_0 _ _ l5_1 a5_2 a5_3 t412 _ ?side1 ?side2 ?side3 ?side4 ?side5 ?side6 ?side7 ?side8 A9.out).mono ?_); (case side1 => exact Kd.C_nil _ _); (case side2 => exact Nat.le_refl _); (case side3 => exact Kd.C_nil _ _); (case side4 => exact Nat.le_refl _); (case side5 => exact Kd.C_nil _ _); (case side6 => exact Nat.le_refl _); (case side7 => repeat (first | exact (Kd.C_below HR5_1.out HB.out) | (with_reducible refine Kd.C_alloc ?_ _) | (with_reducible refine Kd.C_drewN ?_ _) | (with_reducible refine Kd.C_drew ?_))); (case side8 => exact HC5_1.out); rintro e w16 ⟨rfl, hb⟩; refine ⟨_, rfl, ?_⟩; have n0_ := Aside0.mk (blk_below (g := gb409) (o := .cells #[.string a5_0, .slice A5_1 l5_1.length c5_1, .int .i64 a5_2, .int .i64 a5_3] 36 (0, 0)) (by (with_reducible repeat (first | refine blk_drewN ?_ _ | refine blk_drew ?_ | refine blk_alloc ?_ _)); exact BK409.out) hb); have n1_ := Aside0.mk (below_step (by repeat (first | (with_reducible first | exact HB.out | apply below_alloc | apply pw_below_drewN | apply below_drew1 | refine below_set ?_ GE409.out) | exact HB.out)) hb); clear BK409; clear HB; have BK409 := n0_; have HB := n1_; clear n0_ n1_; (try clear hb); (try clear hb2); (try clear hk); (try clear hi)))
  (try simp only [Act.put, List.setIfInBounds_toArray, List.set_cons_zero, List.set_cons_succ])
  go_cut [77] (fun v77 wc => ∃ (kq : Nat) (x77_9 : Bool), v77 = .bool x77_9 ∧ Aside0 (serinettelaw24_BoundFrames.j0 kq t410 (Int.tmod (wrap64 (a0)) 2001) (wrap64 (1 + (wrap64 (Int.tmod a1 100)))) (wrap64 (1 + (wrap64 (Int.tmod a2 8)))) (wrap64 (1 + (wrap64 (Int.tmod a3 1048575)))) (wrap64 (4 + (wrap64 (Int.tmod a4 29)))) x77_9 a5_0 l5_1 a5_2 a5_3 = some r) ∧ Aside0 (kq ≤ k) ∧ Aside0 (wc.heap[gb409]? = some (.cells #[.string a5_0, (.slice A5_1 l5_1.length c5_1), .int .i64 a5_2, .int .i64 a5_3] 36 (0, 0))) ∧ Aside0 (Below w.heap.size w wc))
  case first =>
    have H := HC10.out
    clear HC10
    by_cases c17 : t411 = true
    · subst c17
      have H1 : (if t412 = true then (if a5_2 < 0 then (serinettelaw24_BoundFrames.j0 k t410 (Int.tmod (wrap64 (a0)) 2001) (wrap64 (1 + (wrap64 (Int.tmod a1 100)))) (wrap64 (1 + (wrap64 (Int.tmod a2 8)))) (wrap64 (1 + (wrap64 (Int.tmod a3 1048575)))) (wrap64 (4 + (wrap64 (Int.tmod a4 29)))) true a5_0 l5_1 a5_2 a5_3) else (if a5_2 > 16777215 then (serinettelaw24_BoundFrames.j0 k t410 (Int.tmod (wrap64 (a0)) 2001) (wrap64 (1 + (wrap64 (Int.tmod a1 100)))) (wrap64 (1 + (wrap64 (Int.tmod a2 8)))) (wrap64 (1 + (wrap64 (Int.tmod a3 1048575)))) (wrap64 (4 + (wrap64 (Int.tmod a4 29)))) true a5_0 l5_1 a5_2 a5_3) else (if a5_3 < 0 then (serinettelaw24_BoundFrames.j0 k t410 (Int.tmod (wrap64 (a0)) 2001) (wrap64 (1 + (wrap64 (Int.tmod a1 100)))) (wrap64 (1 + (wrap64 (Int.tmod a2 8)))) (wrap64 (1 + (wrap64 (Int.tmod a3 1048575)))) (wrap64 (4 + (wrap64 (Int.tmod a4 29)))) true a5_0 l5_1 a5_2 a5_3) else (serinettelaw24_BoundFrames.j0 k t410 (Int.tmod (wrap64 (a0)) 2001) (wrap64 (1 + (wrap64 (Int.tmod a1 100)))) (wrap64 (1 + (wrap64 (Int.tmod a2 8)))) (wrap64 (1 + (wrap64 (Int.tmod a3 1048575)))) (wrap64 (4 + (wrap64 (Int.tmod a4 29)))) (decide (a5_3 > 300)) a5_0 l5_1 a5_2 a5_3)))) else (serinettelaw24_BoundFrames.j0 k t410 (Int.tmod (wrap64 (a0)) 2001) (wrap64 (1 + (wrap64 (Int.tmod a1 100)))) (wrap64 (1 + (wrap64 (Int.tmod a2 8)))) (wrap64 (1 + (wrap64 (Int.tmod a3 1048575)))) (wrap64 (4 + (wrap64 (Int.tmod a4 29)))) true a5_0 l5_1 a5_2 a5_3)) = some r := by rw [if_pos rfl] at H; exact H
      clear H
      have H := H1
      clear H1
      by_cases c18 : t412 = true
      · subst c18
        have H1 : (if a5_2 < 0 then (serinettelaw24_BoundFrames.j0 k t410 (Int.tmod (wrap64 (a0)) 2001) (wrap64 (1 + (wrap64 (Int.tmod a1 100)))) (wrap64 (1 + (wrap64 (Int.tmod a2 8)))) (wrap64 (1 + (wrap64 (Int.tmod a3 1048575)))) (wrap64 (4 + (wrap64 (Int.tmod a4 29)))) true a5_0 l5_1 a5_2 a5_3) else (if a5_2 > 16777215 then (serinettelaw24_BoundFrames.j0 k t410 (Int.tmod (wrap64 (a0)) 2001) (wrap64 (1 + (wrap64 (Int.tmod a1 100)))) (wrap64 (1 + (wrap64 (Int.tmod a2 8)))) (wrap64 (1 + (wrap64 (Int.tmod a3 1048575)))) (wrap64 (4 + (wrap64 (Int.tmod a4 29)))) true a5_0 l5_1 a5_2 a5_3) else (if a5_3 < 0 then (serinettelaw24_BoundFrames.j0 k t410 (Int.tmod (wrap64 (a0)) 2001) (wrap64 (1 + (wrap64 (Int.tmod a1 100)))) (wrap64 (1 + (wrap64 (Int.tmod a2 8)))) (wrap64 (1 + (wrap64 (Int.tmod a3 1048575)))) (wrap64 (4 + (wrap64 (Int.tmod a4 29)))) true a5_0 l5_1 a5_2 a5_3) else (serinettelaw24_BoundFrames.j0 k t410 (Int.tmod (wrap64 (a0)) 2001) (wrap64 (1 + (wrap64 (Int.tmod a1 100)))) (wrap64 (1 + (wrap64 (Int.tmod a2 8)))) (wrap64 (1 + (wrap64 (Int.tmod a3 1048575)))) (wrap64 (4 + (wrap64 (Int.tmod a4 29)))) (decide (a5_3 > 300)) a5_0 l5_1 a5_2 a5_3)))) = some r := by rw [if_pos rfl] at H; exact H
        clear H
        have H := H1
        clear H1
        by_cases c19 : a5_2 < 0
        · rw [if_pos c19] at H
          have c19b0 : decide (a5_2 < 0) = true := decide_eq_true c19
          clear c19
          (first | rw [c19b0] | (simp only [i64_w, i32_w]; rw [c19b0]) | skip)
          have H' := Aside0.mk H
          clear H
          have hcz20_0 : w16.cell? ⟨gb409, 0, none⟩ = some (.string a5_0) := (blk_cell BK409.out 0).trans rfl
          have hcz20_1 : w16.cell? ⟨gb409, 1, none⟩ = some (.slice A5_1 l5_1.length c5_1) := (blk_cell BK409.out 1).trans rfl
          have hcz20_2 : w16.cell? ⟨gb409, 2, none⟩ = some (.int .i64 a5_2) := (blk_cell BK409.out 2).trans rfl
          have hcz20_3 : w16.cell? ⟨gb409, 3, none⟩ = some (.int .i64 a5_3) := (blk_cell BK409.out 3).trans rfl
          have hfz20_0 := blk_frozen BK409.out 0
          have hfz20_1 := blk_frozen BK409.out 1
          have hfz20_2 := blk_frozen BK409.out 2
          have hfz20_3 := blk_frozen BK409.out 3
          go_wp2
          go_meet
          case rel => exact ⟨_, (true), (by first | rfl | (simp; done) | (simp [*]; done)), H', ⟨by first | omega | exact Nat.le_refl _⟩, ⟨by (with_reducible repeat (first | refine blk_drewN ?_ _ | refine blk_drew ?_ | refine blk_alloc ?_ _)); exact BK409.out⟩, ⟨by repeat (first | (with_reducible first | exact HB.out | apply below_alloc | apply pw_below_drewN | apply below_drew1 | refine below_set ?_ GE409.out) | exact HB.out)⟩⟩
        · rw [if_neg c19] at H
          have c19b0 : decide (a5_2 < 0) = false := decide_eq_false c19
          clear c19
          (first | rw [c19b0] | (simp only [i64_w, i32_w]; rw [c19b0]) | skip)
          by_cases c21 : a5_2 > 16777215
          · rw [if_pos c21] at H
            have c21b0 : decide (16777215 < a5_2) = true := decide_eq_true c21
            clear c21
            have H' := Aside0.mk H
            clear H
            have hcz22_0 : w16.cell? ⟨gb409, 0, none⟩ = some (.string a5_0) := (blk_cell BK409.out 0).trans rfl
            have hcz22_1 : w16.cell? ⟨gb409, 1, none⟩ = some (.slice A5_1 l5_1.length c5_1) := (blk_cell BK409.out 1).trans rfl
            have hcz22_2 : w16.cell? ⟨gb409, 2, none⟩ = some (.int .i64 a5_2) := (blk_cell BK409.out 2).trans rfl
            have hcz22_3 : w16.cell? ⟨gb409, 3, none⟩ = some (.int .i64 a5_3) := (blk_cell BK409.out 3).trans rfl
            have hfz22_0 := blk_frozen BK409.out 0
            have hfz22_1 := blk_frozen BK409.out 1
            have hfz22_2 := blk_frozen BK409.out 2
            have hfz22_3 := blk_frozen BK409.out 3
            go_wp2
            go_meet
            case rel => exact ⟨_, (true), (by first | rfl | (simp; done) | (simp [*]; done)), H', ⟨by first | omega | exact Nat.le_refl _⟩, ⟨by (with_reducible repeat (first | refine blk_drewN ?_ _ | refine blk_drew ?_ | refine blk_alloc ?_ _)); exact BK409.out⟩, ⟨by repeat (first | (with_reducible first | exact HB.out | apply below_alloc | apply pw_below_drewN | apply below_drew1 | refine below_set ?_ GE409.out) | exact HB.out)⟩⟩
          · rw [if_neg c21] at H
            have c21b0 : decide (16777215 < a5_2) = false := decide_eq_false c21
            clear c21
            by_cases c23 : a5_3 < 0
            · rw [if_pos c23] at H
              have c23b0 : decide (a5_3 < 0) = true := decide_eq_true c23
              clear c23
              have H' := Aside0.mk H
              clear H
              have hcz24_0 : w16.cell? ⟨gb409, 0, none⟩ = some (.string a5_0) := (blk_cell BK409.out 0).trans rfl
              have hcz24_1 : w16.cell? ⟨gb409, 1, none⟩ = some (.slice A5_1 l5_1.length c5_1) := (blk_cell BK409.out 1).trans rfl
              have hcz24_2 : w16.cell? ⟨gb409, 2, none⟩ = some (.int .i64 a5_2) := (blk_cell BK409.out 2).trans rfl
              have hcz24_3 : w16.cell? ⟨gb409, 3, none⟩ = some (.int .i64 a5_3) := (blk_cell BK409.out 3).trans rfl
              have hfz24_0 := blk_frozen BK409.out 0
              have hfz24_1 := blk_frozen BK409.out 1
              have hfz24_2 := blk_frozen BK409.out 2
              have hfz24_3 := blk_frozen BK409.out 3
              go_wp2
              go_meet
              case rel => exact ⟨_, (true), (by first | rfl | (simp; done) | (simp [*]; done)), H', ⟨by first | omega | exact Nat.le_refl _⟩, ⟨by (with_reducible repeat (first | refine blk_drewN ?_ _ | refine blk_drew ?_ | refine blk_alloc ?_ _)); exact BK409.out⟩, ⟨by repeat (first | (with_reducible first | exact HB.out | apply below_alloc | apply pw_below_drewN | apply below_drew1 | refine below_set ?_ GE409.out) | exact HB.out)⟩⟩
            · rw [if_neg c23] at H
              have c23b0 : decide (a5_3 < 0) = false := decide_eq_false c23
              clear c23
              have H' := Aside0.mk H
              clear H
              have hcz25_0 : w16.cell? ⟨gb409, 0, none⟩ = some (.string a5_0) := (blk_cell BK409.out 0).trans rfl
              have hcz25_1 : w16.cell? ⟨gb409, 1, none⟩ = some (.slice A5_1 l5_1.length c5_1) := (blk_cell BK409.out 1).trans rfl
              have hcz25_2 : w16.cell? ⟨gb409, 2, none⟩ = some (.int .i64 a5_2) := (blk_cell BK409.out 2).trans rfl
              have hcz25_3 : w16.cell? ⟨gb409, 3, none⟩ = some (.int .i64 a5_3) := (blk_cell BK409.out 3).trans rfl
              have hfz25_0 := blk_frozen BK409.out 0
              have hfz25_1 := blk_frozen BK409.out 1
              have hfz25_2 := blk_frozen BK409.out 2
              have hfz25_3 := blk_frozen BK409.out 3
              go_wp2
              go_meet
              case rel => exact ⟨_, (decide (a5_3 > 300)), (by first | rfl | (simp; done) | (simp [*]; done)), H', ⟨by first | omega | exact Nat.le_refl _⟩, ⟨by (with_reducible repeat (first | refine blk_drewN ?_ _ | refine blk_drew ?_ | refine blk_alloc ?_ _)); exact BK409.out⟩, ⟨by repeat (first | (with_reducible first | exact HB.out | apply below_alloc | apply pw_below_drewN | apply below_drew1 | refine below_set ?_ GE409.out) | exact HB.out)⟩⟩
      · replace c18 := Bool.eq_false_iff.mpr c18
        subst c18
        have H1 : (serinettelaw24_BoundFrames.j0 k t410 (Int.tmod (wrap64 (a0)) 2001) (wrap64 (1 + (wrap64 (Int.tmod a1 100)))) (wrap64 (1 + (wrap64 (Int.tmod a2 8)))) (wrap64 (1 + (wrap64 (Int.tmod a3 1048575)))) (wrap64 (4 + (wrap64 (Int.tmod a4 29)))) true a5_0 l5_1 a5_2 a5_3) = some r := by rw [if_neg (show ¬ (false = true) by decide)] at H; exact H
        clear H
        have H := H1
        clear H1
        have H' := Aside0.mk H
        clear H
        go_wp2
        go_meet
        case rel => exact ⟨_, (true), (by first | rfl | (simp; done) | (simp [*]; done)), H', ⟨by first | omega | exact Nat.le_refl _⟩, ⟨by (with_reducible repeat (first | refine blk_drewN ?_ _ | refine blk_drew ?_ | refine blk_alloc ?_ _)); exact BK409.out⟩, ⟨by repeat (first | (with_reducible first | exact HB.out | apply below_alloc | apply pw_below_drewN | apply below_drew1 | refine below_set ?_ GE409.out) | exact HB.out)⟩⟩
    · replace c17 := Bool.eq_false_iff.mpr c17
      subst c17
      have H1 : (serinettelaw24_BoundFrames.j0 k t410 (Int.tmod (wrap64 (a0)) 2001) (wrap64 (1 + (wrap64 (Int.tmod a1 100)))) (wrap64 (1 + (wrap64 (Int.tmod a2 8)))) (wrap64 (1 + (wrap64 (Int.tmod a3 1048575)))) (wrap64 (4 + (wrap64 (Int.tmod a4 29)))) true a5_0 l5_1 a5_2 a5_3) = some r := by rw [if_neg (show ¬ (false = true) by decide)] at H; exact H
      clear H
      have H := H1
      clear H1
      have H' := Aside0.mk H
      clear H
      go_wp2
      go_meet
      case rel => exact ⟨_, (true), (by first | rfl | (simp; done) | (simp [*]; done)), H', ⟨by first | omega | exact Nat.le_refl _⟩, ⟨by (with_reducible repeat (first | refine blk_drewN ?_ _ | refine blk_drew ?_ | refine blk_alloc ?_ _)); exact BK409.out⟩, ⟨by repeat (first | (with_reducible first | exact HB.out | apply below_alloc | apply pw_below_drewN | apply below_drew1 | refine below_set ?_ GE409.out) | exact HB.out)⟩⟩
  case rest =>
    clear HC10
    try clear c1
    try clear c2
    try clear p2
    try clear c4
    try clear c5
    try clear p6
    try clear c8
    try clear c9
    try clear c10
    try clear c17
    try clear c18
    try clear c19
    try clear c19b0
    try clear c21
    try clear c21b0
    try clear c23
    try clear c23b0
    try clear hcz13_0
    try clear hcz13_1
    try clear hcz13_2
    try clear hcz13_3
    try clear hcz15_0
    try clear hcz15_1
    try clear hcz15_2
    try clear hcz15_3
    try clear hcz20_0
    try clear hcz20_1
    try clear hcz20_2
    try clear hcz20_3
    try clear hcz22_0
    try clear hcz22_1
    try clear hcz22_2
    try clear hcz22_3
    try clear hcz24_0
    try clear hcz24_1
    try clear hcz24_2
    try clear hcz24_3
    try clear hcz25_0
    try clear hcz25_1
    try clear hcz25_2
    try clear hcz25_3
    try clear hfz13_0
    try clear hfz13_1
    try clear hfz13_2
    try clear hfz13_3
    try clear hfz15_0
    try clear hfz15_1
    try clear hfz15_2
    try clear hfz15_3
    try clear hfz20_0
    try clear hfz20_1
    try clear hfz20_2
    try clear hfz20_3
    try clear hfz22_0
    try clear hfz22_1
    try clear hfz22_2
    try clear hfz22_3
    try clear hfz24_0
    try clear hfz24_1
    try clear hfz24_2
    try clear hfz24_3
    try clear hfz25_0
    try clear hfz25_1
    try clear hfz25_2
    try clear hfz25_3
    obtain ⟨kq, x77_9, rfl, HA, HJ9, BK409, HB⟩ := hcut
    cases kq with
    | zero => exact absurd HA.out (by simp [serinettelaw24_BoundFrames.j0])
    | succ kj9 =>
      have H := HA.out
      clear HA
      simp only [serinettelaw24_BoundFrames.j0] at H
      by_cases c26 : x77_9 = true
      · subst c26
        have H1 : (some t410) = some r := by rw [if_pos rfl] at H; exact H
        clear H
        have H := H1
        clear H1
        obtain rfl := Option.some.inj H
        go_wp2
        go_ret
        exact ⟨by first | rfl | (simp [errW_none, errW_some] <;> rfl) | (simp [*, errW_none, errW_some] <;> rfl), by repeat (first | (with_reducible first | exact HB.out | apply below_alloc | apply pw_below_drewN | apply below_drew1 | refine below_set ?_ GE409.out) | exact HB.out)⟩
      · replace c26 := Bool.eq_false_iff.mpr c26
        subst c26
        have H1 : (serinettelaw24_BoundFrames.l0 kj9 t410 (Int.tmod (wrap64 (a0)) 2001) (wrap64 (1 + (wrap64 (Int.tmod a1 100)))) (wrap64 (1 + (wrap64 (Int.tmod a2 8)))) (wrap64 (1 + (wrap64 (Int.tmod a3 1048575)))) (wrap64 (4 + (wrap64 (Int.tmod a4 29)))) 0 0 a5_0 l5_1 a5_2 a5_3) = some r := by rw [if_neg (show ¬ (false = true) by decide)] at H; exact H
        clear H
        have H := H1
        clear H1
        have H' := Aside0.mk H
        clear H
        go_wp2
        go_loopg [21, 22] kj9 (fun kq v21 v22 w' => ∃ (x21_2 : Int) (x22_2 : Int), v21 = .int .i64 x21_2 ∧ v22 = .int .i64 x22_2 ∧ Aside0 (serinettelaw24_BoundFrames.l0 kq t410 (Int.tmod (wrap64 (a0)) 2001) (wrap64 (1 + (wrap64 (Int.tmod a1 100)))) (wrap64 (1 + (wrap64 (Int.tmod a2 8)))) (wrap64 (1 + (wrap64 (Int.tmod a3 1048575)))) (wrap64 (4 + (wrap64 (Int.tmod a4 29)))) x21_2 x22_2 a5_0 l5_1 a5_2 a5_3 = some r) ∧ Aside0 (kq ≤ kj9) ∧ Aside0 (w'.heap[gb409]? = some (.cells #[.string a5_0, (.slice A5_1 l5_1.length c5_1), .int .i64 a5_2, .int .i64 a5_3] 36 (0, 0))) ∧ Aside0 (Below w.heap.size w w'))
        case atStart => exact ⟨(0), (0), (by first | rfl | (simp; done) | (simp [*]; done)), (by first | rfl | (simp; done) | (simp [*]; done)), H', ⟨Nat.le_refl _⟩, ⟨by (with_reducible repeat (first | refine blk_drewN ?_ _ | refine blk_drew ?_ | refine blk_alloc ?_ _)); exact BK409.out⟩, ⟨by repeat (first | (with_reducible first | exact HB.out | apply below_alloc | apply pw_below_drewN | apply below_drew1 | refine below_set ?_ GE409.out) | exact HB.out)⟩⟩
        case round =>
          clear H'
          try clear c1
          try clear c2
          try clear p2
          try clear c4
          try clear c5
          try clear p6
          try clear c8
          try clear c9
          try clear c10
          try clear c17
          try clear c18
          try clear c19
          try clear c19b0
          try clear c21
          try clear c21b0
          try clear c23
          try clear c23b0
          try clear c26
          try clear hcz13_0
          try clear hcz13_1
          try clear hcz13_2
          try clear hcz13_3
          try clear hcz15_0
          try clear hcz15_1
          try clear hcz15_2
          try clear hcz15_3
          try clear hcz20_0
          try clear hcz20_1
          try clear hcz20_2
          try clear hcz20_3
          try clear hcz22_0
          try clear hcz22_1
          try clear hcz22_2
          try clear hcz22_3
          try clear hcz24_0
          try clear hcz24_1
          try clear hcz24_2
          try clear hcz24_3
          try clear hcz25_0
          try clear hcz25_1
          try clear hcz25_2
          try clear hcz25_3
          try clear hfz13_0
          try clear hfz13_1
          try clear hfz13_2
          try clear hfz13_3
          try clear hfz15_0
          try clear hfz15_1
          try clear hfz15_2
          try clear hfz15_3
          try clear hfz20_0
          try clear hfz20_1
          try clear hfz20_2
          try clear hfz20_3
          try clear hfz22_0
          try clear hfz22_1
          try clear hfz22_2
          try clear hfz22_3
          try clear hfz24_0
          try clear hfz24_1
          try clear hfz24_2
          try clear hfz24_3
          try clear hfz25_0
          try clear hfz25_1
          try clear hfz25_2
          try clear hfz25_3
          try clear p2
          try clear p6
          obtain ⟨x21_2, x22_2, rfl, rfl, HA, HK2, BK409, HB⟩ := hrel
          cases gk with
          | zero => exact absurd HA.out (by simp [serinettelaw24_BoundFrames.l0])
          | succ k2 =>
            have H := HA.out
            clear HA
            simp only [serinettelaw24_BoundFrames.l0] at H
            by_cases c27 : x22_2 < (Int.tmod (wrap64 (a0)) 2001)
            · rw [if_pos c27] at H
              have c27b0 : decide (x22_2 < (Int.tmod (wrap64 (a0)) 2001)) = true := decide_eq_true c27
              clear c27
              have H' := Aside0.mk H
              clear H
              go_wp2
              go_roundg k2
              case measure => have := HJ9.out; have := HK2.out; omega
              case rel => exact ⟨(wrap64 (x21_2 + 1)), (wrap64 (x22_2 + (wrap64 (1 + (wrap64 (Int.tmod a1 100)))))), (by first | rfl | (simp; done) | (simp [*]; done)), (by first | rfl | (simp; done) | (simp [*]; done)), H', ⟨by have := HJ9.out; have := HK2.out; omega⟩, ⟨by (with_reducible repeat (first | refine blk_drewN ?_ _ | refine blk_drew ?_ | refine blk_alloc ?_ _)); exact BK409.out⟩, ⟨by repeat (first | (with_reducible first | exact HB.out | apply below_alloc | apply pw_below_drewN | apply below_drew1 | refine below_set ?_ GE409.out) | exact HB.out)⟩⟩
            · rw [if_neg c27] at H
              have c27b0 : decide (x22_2 < (Int.tmod (wrap64 (a0)) 2001)) = false := decide_eq_false c27
              clear c27
              replace H := Option.bind_eq_some_iff.mp H
              obtain ⟨t413, A280, H⟩ := H
              replace H : ((serinetteref24_Frames.f k2 (Int.tmod (wrap64 (a0)) 2001) (wrap64 (1 + (wrap64 (Int.tmod a1 100)))) (wrap64 (1 + (wrap64 (Int.tmod a2 8)))) (wrap64 (1 + (wrap64 (Int.tmod a3 1048575)))) (wrap64 (4 + (wrap64 (Int.tmod a4 29))))).bind fun t414 => (if t410 = true then ((bound_Ahead.f k2 a5_0 l5_1 x21_2 a5_0 l5_1 a5_2 a5_3).bind fun t415 => (if t415 = t413 then ((bound_Frames.f k2 (Int.tmod (wrap64 (a0)) 2001) (wrap64 (1 + (wrap64 (Int.tmod a1 100)))) (wrap64 (1 + (wrap64 (Int.tmod a2 8)))) (wrap64 (1 + (wrap64 (Int.tmod a3 1048575)))) (wrap64 (4 + (wrap64 (Int.tmod a4 29))))).bind fun t416 => (if t416 = t414 then ((bound_Stream.f k2 (Int.tmod (wrap64 (a0)) 2001) (wrap64 (1 + (wrap64 (Int.tmod a1 100)))) (wrap64 (1 + (wrap64 (Int.tmod a2 8)))) (wrap64 (1 + (wrap64 (Int.tmod a3 1048575)))) (wrap64 (4 + (wrap64 (Int.tmod a4 29)))) a5_0 l5_1 a5_2 a5_3).bind fun t417 => (some (t417 == (wrap64 (t413 + t414))))) else (some false))) else (some false))) else (some false))) = some r := H
              have A28 := Aside0.mk A280
              clear A280
              replace H := Option.bind_eq_some_iff.mp H
              obtain ⟨t414, A290, H⟩ := H
              replace H : (if t410 = true then ((bound_Ahead.f k2 a5_0 l5_1 x21_2 a5_0 l5_1 a5_2 a5_3).bind fun t415 => (if t415 = t413 then ((bound_Frames.f k2 (Int.tmod (wrap64 (a0)) 2001) (wrap64 (1 + (wrap64 (Int.tmod a1 100)))) (wrap64 (1 + (wrap64 (Int.tmod a2 8)))) (wrap64 (1 + (wrap64 (Int.tmod a3 1048575)))) (wrap64 (4 + (wrap64 (Int.tmod a4 29))))).bind fun t416 => (if t416 = t414 then ((bound_Stream.f k2 (Int.tmod (wrap64 (a0)) 2001) (wrap64 (1 + (wrap64 (Int.tmod a1 100)))) (wrap64 (1 + (wrap64 (Int.tmod a2 8)))) (wrap64 (1 + (wrap64 (Int.tmod a3 1048575)))) (wrap64 (4 + (wrap64 (Int.tmod a4 29)))) a5_0 l5_1 a5_2 a5_3).bind fun t417 => (some (t417 == (wrap64 (t413 + t414))))) else (some false))) else (some false))) else (some false)) = some r := H
              have A29 := Aside0.mk A290
              clear A290
              by_cases c30 : t410 = true
              · subst c30
                have H1 : ((bound_Ahead.f k2 a5_0 l5_1 x21_2 a5_0 l5_1 a5_2 a5_3).bind fun t415 => (if t415 = t413 then ((bound_Frames.f k2 (Int.tmod (wrap64 (a0)) 2001) (wrap64 (1 + (wrap64 (Int.tmod a1 100)))) (wrap64 (1 + (wrap64 (Int.tmod a2 8)))) (wrap64 (1 + (wrap64 (Int.tmod a3 1048575)))) (wrap64 (4 + (wrap64 (Int.tmod a4 29))))).bind fun t416 => (if t416 = t414 then ((bound_Stream.f k2 (Int.tmod (wrap64 (a0)) 2001) (wrap64 (1 + (wrap64 (Int.tmod a1 100)))) (wrap64 (1 + (wrap64 (Int.tmod a2 8)))) (wrap64 (1 + (wrap64 (Int.tmod a3 1048575)))) (wrap64 (4 + (wrap64 (Int.tmod a4 29)))) a5_0 l5_1 a5_2 a5_3).bind fun t417 => (some (t417 == (wrap64 (t413 + t414))))) else (some false))) else (some false))) = some r := by rw [if_pos rfl] at H; exact H
                clear H
                have H := H1
                clear H1
                replace H := Option.bind_eq_some_iff.mp H
                obtain ⟨t415, A310, H⟩ := H
                replace H : (if t415 = t413 then ((bound_Frames.f k2 (Int.tmod (wrap64 (a0)) 2001) (wrap64 (1 + (wrap64 (Int.tmod a1 100)))) (wrap64 (1 + (wrap64 (Int.tmod a2 8)))) (wrap64 (1 + (wrap64 (Int.tmod a3 1048575)))) (wrap64 (4 + (wrap64 (Int.tmod a4 29))))).bind fun t416 => (if t416 = t414 then ((bound_Stream.f k2 (Int.tmod (wrap64 (a0)) 2001) (wrap64 (1 + (wrap64 (Int.tmod a1 100)))) (wrap64 (1 + (wrap64 (Int.tmod a2 8)))) (wrap64 (1 + (wrap64 (Int.tmod a3 1048575)))) (wrap64 (4 + (wrap64 (Int.tmod a4 29)))) a5_0 l5_1 a5_2 a5_3).bind fun t417 => (some (t417 == (wrap64 (t413 + t414))))) else (some false))) else (some false)) = some r := H
                have A31 := Aside0.mk A310
                clear A310
                by_cases c32 : t415 = t413
                · rw [if_pos c32] at H
                  have c32b0 : (t415 == t413) = true := beq_iff_eq.mpr c32
                  have c32b1 : (t415 != t413) = false := bne_eq_false_iff_eq.mpr c32
                  clear c32
                  replace H := Option.bind_eq_some_iff.mp H
                  obtain ⟨t416, A330, H⟩ := H
                  replace H : (if t416 = t414 then ((bound_Stream.f k2 (Int.tmod (wrap64 (a0)) 2001) (wrap64 (1 + (wrap64 (Int.tmod a1 100)))) (wrap64 (1 + (wrap64 (Int.tmod a2 8)))) (wrap64 (1 + (wrap64 (Int.tmod a3 1048575)))) (wrap64 (4 + (wrap64 (Int.tmod a4 29)))) a5_0 l5_1 a5_2 a5_3).bind fun t417 => (some (t417 == (wrap64 (t413 + t414))))) else (some false)) = some r := H
                  have A33 := Aside0.mk A330
                  clear A330
                  by_cases c34 : t416 = t414
                  · rw [if_pos c34] at H
                    have c34b0 : (t416 == t414) = true := beq_iff_eq.mpr c34
                    have c34b1 : (t416 != t414) = false := bne_eq_false_iff_eq.mpr c34
                    clear c34
                    replace H := Option.bind_eq_some_iff.mp H
                    obtain ⟨t417, A350, H⟩ := H
                    replace H : (some (t417 == (wrap64 (t413 + t414)))) = some r := H
                    have A35 := Aside0.mk A350
                    clear A350
                    obtain rfl := Option.some.inj H
                    have hcz36_0 : wr.cell? ⟨gb409, 0, none⟩ = some (.string a5_0) := (blk_cell BK409.out 0).trans rfl
                    have hcz36_1 : wr.cell? ⟨gb409, 1, none⟩ = some (.slice A5_1 l5_1.length c5_1) := (blk_cell BK409.out 1).trans rfl
                    have hcz36_2 : wr.cell? ⟨gb409, 2, none⟩ = some (.int .i64 a5_2) := (blk_cell BK409.out 2).trans rfl
                    have hcz36_3 : wr.cell? ⟨gb409, 3, none⟩ = some (.int .i64 a5_3) := (blk_cell BK409.out 3).trans rfl
                    have hfz36_0 := blk_frozen BK409.out 0
                    have hfz36_1 := blk_frozen BK409.out 1
                    have hfz36_2 := blk_frozen BK409.out 2
                    have hfz36_3 := blk_frozen BK409.out 3
                    go_wp2_with (first | ((with_reducible refine gate_callee (f := 11) rfl ?_); refine goesL_ (some 91) rfl rfl Try.func11 (by kernel_rfl) rfl #[.agg #[.string a5_0, .slice A5_1 l5_1.length c5_1], .int .i64 x21_2, .agg #[.string a5_0, .slice A5_1 l5_1.length c5_1, .int .i64 a5_2, .int .i64 a5_3]] rfl (by (try simp only [List.map_toArray, List.map_cons, List.map_nil]); first | done | rfl | (simp only [List.length_drop, List.length_take]; rfl)) ?_; (with_reducible refine (serinetteref24_Ahead.calls k2 a5_0 _ _ l5_1 x21_2 a5_0 _ _ l5_1 a5_2 a5_3 t413 _ ?side1 ?side2 ?side3 ?side4 A28.out).mono ?_); (case side1 => repeat (first | exact (Kd.C_below HR5_1.out HB.out) | (with_reducible refine Kd.C_alloc ?_ _) | (with_reducible refine Kd.C_drewN ?_ _) | (with_reducible refine Kd.C_drew ?_))); (case side2 => exact HC5_1.out); (case side3 => repeat (first | exact (Kd.C_below HR5_1.out HB.out) | (with_reducible refine Kd.C_alloc ?_ _) | (with_reducible refine Kd.C_drewN ?_ _) | (with_reducible refine Kd.C_drew ?_))); (case side4 => exact HC5_1.out); rintro e w37 ⟨rfl, hb⟩; refine ⟨_, rfl, ?_⟩; have n0_ := Aside0.mk (blk_below (g := gb409) (o := .cells #[.string a5_0, .slice A5_1 l5_1.length c5_1, .int .i64 a5_2, .int .i64 a5_3] 36 (0, 0)) (by (with_reducible repeat (first | refine blk_drewN ?_ _ | refine blk_drew ?_ | refine blk_alloc ?_ _)); exact BK409.out) hb); have n1_ := Aside0.mk (below_step (by repeat (first | (with_reducible first | exact HB.out | apply below_alloc | apply pw_below_drewN | apply below_drew1 | refine below_set ?_ GE409.out) | exact HB.out)) hb); clear BK409; clear HB; have BK409 := n0_; have HB := n1_; clear n0_ n1_; (try clear hb); (try clear hb2); (try clear hk); (try clear hi)) | ((with_reducible refine gate_callee (f := 12) rfl ?_); refine goesL_ (some 97) rfl rfl Try.func12 (by kernel_rfl) rfl #[.int .i64 (Int.tmod (wrap64 (a0)) 2001), .int .i64 (wrap64 (1 + (wrap64 (Int.tmod a1 100)))), .int .i64 (wrap64 (1 + (wrap64 (Int.tmod a2 8)))), .int .i64 (wrap64 (1 + (wrap64 (Int.tmod a3 1048575)))), .int .i64 (wrap64 (4 + (wrap64 (Int.tmod a4 29))))] rfl (by (try simp only [List.map_toArray, List.map_cons, List.map_nil]); first | done | rfl | (simp only [List.length_drop, List.length_take]; rfl)) ?_; (with_reducible refine (serinetteref24_Frames.calls k2 (Int.tmod (wrap64 (a0)) 2001) (wrap64 (1 + (wrap64 (Int.tmod a1 100)))) (wrap64 (1 + (wrap64 (Int.tmod a2 8)))) (wrap64 (1 + (wrap64 (Int.tmod a3 1048575)))) (wrap64 (4 + (wrap64 (Int.tmod a4 29)))) t414 _ A29.out).mono ?_); rintro e w38 ⟨rfl, hb⟩; refine ⟨_, rfl, ?_⟩; have n0_ := Aside0.mk (blk_below (g := gb409) (o := .cells #[.string a5_0, .slice A5_1 l5_1.length c5_1, .int .i64 a5_2, .int .i64 a5_3] 36 (0, 0)) (by (with_reducible repeat (first | refine blk_drewN ?_ _ | refine blk_drew ?_ | refine blk_alloc ?_ _)); exact BK409.out) hb); have n1_ := Aside0.mk (below_step (by repeat (first | (with_reducible first | exact HB.out | apply below_alloc | apply pw_below_drewN | apply below_drew1 | refine below_set ?_ GE409.out) | exact HB.out)) hb); clear BK409; clear HB; have BK409 := n0_; have HB := n1_; clear n0_ n1_; (try clear hb); (try clear hb2); (try clear hk); (try clear hi); have hcz39_0 : w38.cell? ⟨gb409, 0, none⟩ = some (.string a5_0) := (blk_cell BK409.out 0).trans rfl; have hcz39_1 : w38.cell? ⟨gb409, 1, none⟩ = some (.slice A5_1 l5_1.length c5_1) := (blk_cell BK409.out 1).trans rfl; have hcz39_2 : w38.cell? ⟨gb409, 2, none⟩ = some (.int .i64 a5_2) := (blk_cell BK409.out 2).trans rfl; have hcz39_3 : w38.cell? ⟨gb409, 3, none⟩ = some (.int .i64 a5_3) := (blk_cell BK409.out 3).trans rfl; have hfz39_0 := blk_frozen BK409.out 0; have hfz39_1 := blk_frozen BK409.out 1; have hfz39_2 := blk_frozen BK409.out 2; have hfz39_3 := blk_frozen BK409.out 3) | (go_at_call 13; (with_reducible refine (bound_Ahead.calls k2 a5_0 _ _ l5_1 x21_2 a5_0 _ _ l5_1 a5_2 a5_3 t415 _ ?side1 ?side2 ?side3 ?side4 A31.out).mono ?_); (case side1 => repeat (first | exact (Kd.C_below HR5_1.out HB.out) | (with_reducible refine Kd.C_alloc ?_ _) | (with_reducible refine Kd.C_drewN ?_ _) | (with_reducible refine Kd.C_drew ?_))); (case side2 => exact HC5_1.out); (case side3 => repeat (first | exact (Kd.C_below HR5_1.out HB.out) | (with_reducible refine Kd.C_alloc ?_ _) | (with_reducible refine Kd.C_drewN ?_ _) | (with_reducible refine Kd.C_drew ?_))); (case side4 => exact HC5_1.out); rintro e w40 ⟨rfl, hb⟩; have n0_ := Aside0.mk (blk_below (g := gb409) (o := .cells #[.string a5_0, .slice A5_1 l5_1.length c5_1, .int .i64 a5_2, .int .i64 a5_3] 36 (0, 0)) (by (with_reducible repeat (first | refine blk_drewN ?_ _ | refine blk_drew ?_ | refine blk_alloc ?_ _)); exact BK409.out) hb); have n1_ := Aside0.mk (below_step (by repeat (first | (with_reducible first | exact HB.out | apply below_alloc | apply pw_below_drewN | apply below_drew1 | refine below_set ?_ GE409.out) | exact HB.out)) hb); clear BK409; clear HB; have BK409 := n0_; have HB := n1_; clear n0_ n1_; (try clear hb); (try clear hb2); (try clear hk); (try clear hi)) | (go_at_call 14; (with_reducible refine (bound_Frames.calls k2 (Int.tmod (wrap64 (a0)) 2001) (wrap64 (1 + (wrap64 (Int.tmod a1 100)))) (wrap64 (1 + (wrap64 (Int.tmod a2 8)))) (wrap64 (1 + (wrap64 (Int.tmod a3 1048575)))) (wrap64 (4 + (wrap64 (Int.tmod a4 29)))) t416 _ A33.out).mono ?_); rintro e w41 ⟨rfl, hb⟩; have n0_ := Aside0.mk (blk_below (g := gb409) (o := .cells #[.string a5_0, .slice A5_1 l5_1.length c5_1, .int .i64 a5_2, .int .i64 a5_3] 36 (0, 0)) (by (with_reducible repeat (first | refine blk_drewN ?_ _ | refine blk_drew ?_ | refine blk_alloc ?_ _)); exact BK409.out) hb); have n1_ := Aside0.mk (below_step (by repeat (first | (with_reducible first | exact HB.out | apply below_alloc | apply pw_below_drewN | apply below_drew1 | refine below_set ?_ GE409.out) | exact HB.out)) hb); clear BK409; clear HB; have BK409 := n0_; have HB := n1_; clear n0_ n1_; (try clear hb); (try clear hb2); (try clear hk); (try clear hi); have hcz42_0 : w41.cell? ⟨gb409, 0, none⟩ = some (.string a5_0) := (blk_cell BK409.out 0).trans rfl; have hcz42_1 : w41.cell? ⟨gb409, 1, none⟩ = some (.slice A5_1 l5_1.length c5_1) := (blk_cell BK409.out 1).trans rfl; have hcz42_2 : w41.cell? ⟨gb409, 2, none⟩ = some (.int .i64 a5_2) := (blk_cell BK409.out 2).trans rfl; have hcz42_3 : w41.cell? ⟨gb409, 3, none⟩ = some (.int .i64 a5_3) := (blk_cell BK409.out 3).trans rfl; have hfz42_0 := blk_frozen BK409.out 0; have hfz42_1 := blk_frozen BK409.out 1; have hfz42_2 := blk_frozen BK409.out 2; have hfz42_3 := blk_frozen BK409.out 3) | (go_at_call 15; (with_reducible refine (bound_Stream.calls k2 (Int.tmod (wrap64 (a0)) 2001) (wrap64 (1 + (wrap64 (Int.tmod a1 100)))) (wrap64 (1 + (wrap64 (Int.tmod a2 8)))) (wrap64 (1 + (wrap64 (Int.tmod a3 1048575)))) (wrap64 (4 + (wrap64 (Int.tmod a4 29)))) a5_0 _ _ l5_1 a5_2 a5_3 t417 _ ?side1 ?side2 A35.out).mono ?_); (case side1 => repeat (first | exact (Kd.C_below HR5_1.out HB.out) | (with_reducible refine Kd.C_alloc ?_ _) | (with_reducible refine Kd.C_drewN ?_ _) | (with_reducible refine Kd.C_drew ?_))); (case side2 => exact HC5_1.out); rintro e w43 ⟨rfl, hb⟩; have n0_ := Aside0.mk (blk_below (g := gb409) (o := .cells #[.string a5_0, .slice A5_1 l5_1.length c5_1, .int .i64 a5_2, .int .i64 a5_3] 36 (0, 0)) (by (with_reducible repeat (first | refine blk_drewN ?_ _ | refine blk_drew ?_ | refine blk_alloc ?_ _)); exact BK409.out) hb); have n1_ := Aside0.mk (below_step (by repeat (first | (with_reducible first | exact HB.out | apply below_alloc | apply pw_below_drewN | apply below_drew1 | refine below_set ?_ GE409.out) | exact HB.out)) hb); clear BK409; clear HB; have BK409 := n0_; have HB := n1_; clear n0_ n1_; (try clear hb); (try clear hb2); (try clear hk); (try clear hi)))
                    go_ret
                    exact ⟨by first | rfl | (simp [errW_none, errW_some] <;> rfl) | (simp [*, errW_none, errW_some] <;> rfl), by repeat (first | (with_reducible first | exact HB.out | apply below_alloc | apply pw_below_drewN | apply below_drew1 | refine below_set ?_ GE409.out) | exact HB.out)⟩
                  · rw [if_neg c34] at H
                    have c34b0 : (t416 == t414) = false := beq_eq_false_iff_ne.mpr c34
                    have c34b1 : (t416 != t414) = true := bne_iff_ne.mpr c34
                    obtain rfl := Option.some.inj H
                    have hcz44_0 : wr.cell? ⟨gb409, 0, none⟩ = some (.string a5_0) := (blk_cell BK409.out 0).trans rfl
                    have hcz44_1 : wr.cell? ⟨gb409, 1, none⟩ = some (.slice A5_1 l5_1.length c5_1) := (blk_cell BK409.out 1).trans rfl
                    have hcz44_2 : wr.cell? ⟨gb409, 2, none⟩ = some (.int .i64 a5_2) := (blk_cell BK409.out 2).trans rfl
                    have hcz44_3 : wr.cell? ⟨gb409, 3, none⟩ = some (.int .i64 a5_3) := (blk_cell BK409.out 3).trans rfl
                    have hfz44_0 := blk_frozen BK409.out 0
                    have hfz44_1 := blk_frozen BK409.out 1
                    have hfz44_2 := blk_frozen BK409.out 2
                    have hfz44_3 := blk_frozen BK409.out 3
                    go_wp2_with (first | ((with_reducible refine gate_callee (f := 11) rfl ?_); refine goesL_ (some 91) rfl rfl Try.func11 (by kernel_rfl) rfl #[.agg #[.string a5_0, .slice A5_1 l5_1.length c5_1], .int .i64 x21_2, .agg #[.string a5_0, .slice A5_1 l5_1.length c5_1, .int .i64 a5_2, .int .i64 a5_3]] rfl (by (try simp only [List.map_toArray, List.map_cons, List.map_nil]); first | done | rfl | (simp only [List.length_drop, List.length_take]; rfl)) ?_; (with_reducible refine (serinetteref24_Ahead.calls k2 a5_0 _ _ l5_1 x21_2 a5_0 _ _ l5_1 a5_2 a5_3 t413 _ ?side1 ?side2 ?side3 ?side4 A28.out).mono ?_); (case side1 => repeat (first | exact (Kd.C_below HR5_1.out HB.out) | (with_reducible refine Kd.C_alloc ?_ _) | (with_reducible refine Kd.C_drewN ?_ _) | (with_reducible refine Kd.C_drew ?_))); (case side2 => exact HC5_1.out); (case side3 => repeat (first | exact (Kd.C_below HR5_1.out HB.out) | (with_reducible refine Kd.C_alloc ?_ _) | (with_reducible refine Kd.C_drewN ?_ _) | (with_reducible refine Kd.C_drew ?_))); (case side4 => exact HC5_1.out); rintro e w45 ⟨rfl, hb⟩; refine ⟨_, rfl, ?_⟩; have n0_ := Aside0.mk (blk_below (g := gb409) (o := .cells #[.string a5_0, .slice A5_1 l5_1.length c5_1, .int .i64 a5_2, .int .i64 a5_3] 36 (0, 0)) (by (with_reducible repeat (first | refine blk_drewN ?_ _ | refine blk_drew ?_ | refine blk_alloc ?_ _)); exact BK409.out) hb); have n1_ := Aside0.mk (below_step (by repeat (first | (with_reducible first | exact HB.out | apply below_alloc | apply pw_below_drewN | apply below_drew1 | refine below_set ?_ GE409.out) | exact HB.out)) hb); clear BK409; clear HB; have BK409 := n0_; have HB := n1_; clear n0_ n1_; (try clear hb); (try clear hb2); (try clear hk); (try clear hi)) | ((with_reducible refine gate_callee (f := 12) rfl ?_); refine goesL_ (some 97) rfl rfl Try.func12 (by kernel_rfl) rfl #[.int .i64 (Int.tmod (wrap64 (a0)) 2001), .int .i64 (wrap64 (1 + (wrap64 (Int.tmod a1 100)))), .int .i64 (wrap64 (1 + (wrap64 (Int.tmod a2 8)))), .int .i64 (wrap64 (1 + (wrap64 (Int.tmod a3 1048575)))), .int .i64 (wrap64 (4 + (wrap64 (Int.tmod a4 29))))] rfl (by (try simp only [List.map_toArray, List.map_cons, List.map_nil]); first | done | rfl | (simp only [List.length_drop, List.length_take]; rfl)) ?_; (with_reducible refine (serinetteref24_Frames.calls k2 (Int.tmod (wrap64 (a0)) 2001) (wrap64 (1 + (wrap64 (Int.tmod a1 100)))) (wrap64 (1 + (wrap64 (Int.tmod a2 8)))) (wrap64 (1 + (wrap64 (Int.tmod a3 1048575)))) (wrap64 (4 + (wrap64 (Int.tmod a4 29)))) t414 _ A29.out).mono ?_); rintro e w46 ⟨rfl, hb⟩; refine ⟨_, rfl, ?_⟩; have n0_ := Aside0.mk (blk_below (g := gb409) (o := .cells #[.string a5_0, .slice A5_1 l5_1.length c5_1, .int .i64 a5_2, .int .i64 a5_3] 36 (0, 0)) (by (with_reducible repeat (first | refine blk_drewN ?_ _ | refine blk_drew ?_ | refine blk_alloc ?_ _)); exact BK409.out) hb); have n1_ := Aside0.mk (below_step (by repeat (first | (with_reducible first | exact HB.out | apply below_alloc | apply pw_below_drewN | apply below_drew1 | refine below_set ?_ GE409.out) | exact HB.out)) hb); clear BK409; clear HB; have BK409 := n0_; have HB := n1_; clear n0_ n1_; (try clear hb); (try clear hb2); (try clear hk); (try clear hi); have hcz47_0 : w46.cell? ⟨gb409, 0, none⟩ = some (.string a5_0) := (blk_cell BK409.out 0).trans rfl; have hcz47_1 : w46.cell? ⟨gb409, 1, none⟩ = some (.slice A5_1 l5_1.length c5_1) := (blk_cell BK409.out 1).trans rfl; have hcz47_2 : w46.cell? ⟨gb409, 2, none⟩ = some (.int .i64 a5_2) := (blk_cell BK409.out 2).trans rfl; have hcz47_3 : w46.cell? ⟨gb409, 3, none⟩ = some (.int .i64 a5_3) := (blk_cell BK409.out 3).trans rfl; have hfz47_0 := blk_frozen BK409.out 0; have hfz47_1 := blk_frozen BK409.out 1; have hfz47_2 := blk_frozen BK409.out 2; have hfz47_3 := blk_frozen BK409.out 3) | (go_at_call 13; (with_reducible refine (bound_Ahead.calls k2 a5_0 _ _ l5_1 x21_2 a5_0 _ _ l5_1 a5_2 a5_3 t415 _ ?side1 ?side2 ?side3 ?side4 A31.out).mono ?_); (case side1 => repeat (first | exact (Kd.C_below HR5_1.out HB.out) | (with_reducible refine Kd.C_alloc ?_ _) | (with_reducible refine Kd.C_drewN ?_ _) | (with_reducible refine Kd.C_drew ?_))); (case side2 => exact HC5_1.out); (case side3 => repeat (first | exact (Kd.C_below HR5_1.out HB.out) | (with_reducible refine Kd.C_alloc ?_ _) | (with_reducible refine Kd.C_drewN ?_ _) | (with_reducible refine Kd.C_drew ?_))); (case side4 => exact HC5_1.out); rintro e w48 ⟨rfl, hb⟩; have n0_ := Aside0.mk (blk_below (g := gb409) (o := .cells #[.string a5_0, .slice A5_1 l5_1.length c5_1, .int .i64 a5_2, .int .i64 a5_3] 36 (0, 0)) (by (with_reducible repeat (first | refine blk_drewN ?_ _ | refine blk_drew ?_ | refine blk_alloc ?_ _)); exact BK409.out) hb); have n1_ := Aside0.mk (below_step (by repeat (first | (with_reducible first | exact HB.out | apply below_alloc | apply pw_below_drewN | apply below_drew1 | refine below_set ?_ GE409.out) | exact HB.out)) hb); clear BK409; clear HB; have BK409 := n0_; have HB := n1_; clear n0_ n1_; (try clear hb); (try clear hb2); (try clear hk); (try clear hi)) | (go_at_call 14; (with_reducible refine (bound_Frames.calls k2 (Int.tmod (wrap64 (a0)) 2001) (wrap64 (1 + (wrap64 (Int.tmod a1 100)))) (wrap64 (1 + (wrap64 (Int.tmod a2 8)))) (wrap64 (1 + (wrap64 (Int.tmod a3 1048575)))) (wrap64 (4 + (wrap64 (Int.tmod a4 29)))) t416 _ A33.out).mono ?_); rintro e w49 ⟨rfl, hb⟩; have n0_ := Aside0.mk (blk_below (g := gb409) (o := .cells #[.string a5_0, .slice A5_1 l5_1.length c5_1, .int .i64 a5_2, .int .i64 a5_3] 36 (0, 0)) (by (with_reducible repeat (first | refine blk_drewN ?_ _ | refine blk_drew ?_ | refine blk_alloc ?_ _)); exact BK409.out) hb); have n1_ := Aside0.mk (below_step (by repeat (first | (with_reducible first | exact HB.out | apply below_alloc | apply pw_below_drewN | apply below_drew1 | refine below_set ?_ GE409.out) | exact HB.out)) hb); clear BK409; clear HB; have BK409 := n0_; have HB := n1_; clear n0_ n1_; (try clear hb); (try clear hb2); (try clear hk); (try clear hi)))
                    go_ret
                    exact ⟨by first | rfl | (simp [errW_none, errW_some] <;> rfl) | (simp [*, errW_none, errW_some] <;> rfl), by repeat (first | (with_reducible first | exact HB.out | apply below_alloc | apply pw_below_drewN | apply below_drew1 | refine below_set ?_ GE409.out) | exact HB.out)⟩
                · rw [if_neg c32] at H
                  have c32b0 : (t415 == t413) = false := beq_eq_false_iff_ne.mpr c32
                  have c32b1 : (t415 != t413) = true := bne_iff_ne.mpr c32
                  obtain rfl := Option.some.inj H
                  have hcz50_0 : wr.cell? ⟨gb409, 0, none⟩ = some (.string a5_0) := (blk_cell BK409.out 0).trans rfl
                  have hcz50_1 : wr.cell? ⟨gb409, 1, none⟩ = some (.slice A5_1 l5_1.length c5_1) := (blk_cell BK409.out 1).trans rfl
                  have hcz50_2 : wr.cell? ⟨gb409, 2, none⟩ = some (.int .i64 a5_2) := (blk_cell BK409.out 2).trans rfl
                  have hcz50_3 : wr.cell? ⟨gb409, 3, none⟩ = some (.int .i64 a5_3) := (blk_cell BK409.out 3).trans rfl
                  have hfz50_0 := blk_frozen BK409.out 0
                  have hfz50_1 := blk_frozen BK409.out 1
                  have hfz50_2 := blk_frozen BK409.out 2
                  have hfz50_3 := blk_frozen BK409.out 3
                  go_wp2_with (first | ((with_reducible refine gate_callee (f := 11) rfl ?_); refine goesL_ (some 91) rfl rfl Try.func11 (by kernel_rfl) rfl #[.agg #[.string a5_0, .slice A5_1 l5_1.length c5_1], .int .i64 x21_2, .agg #[.string a5_0, .slice A5_1 l5_1.length c5_1, .int .i64 a5_2, .int .i64 a5_3]] rfl (by (try simp only [List.map_toArray, List.map_cons, List.map_nil]); first | done | rfl | (simp only [List.length_drop, List.length_take]; rfl)) ?_; (with_reducible refine (serinetteref24_Ahead.calls k2 a5_0 _ _ l5_1 x21_2 a5_0 _ _ l5_1 a5_2 a5_3 t413 _ ?side1 ?side2 ?side3 ?side4 A28.out).mono ?_); (case side1 => repeat (first | exact (Kd.C_below HR5_1.out HB.out) | (with_reducible refine Kd.C_alloc ?_ _) | (with_reducible refine Kd.C_drewN ?_ _) | (with_reducible refine Kd.C_drew ?_))); (case side2 => exact HC5_1.out); (case side3 => repeat (first | exact (Kd.C_below HR5_1.out HB.out) | (with_reducible refine Kd.C_alloc ?_ _) | (with_reducible refine Kd.C_drewN ?_ _) | (with_reducible refine Kd.C_drew ?_))); (case side4 => exact HC5_1.out); rintro e w51 ⟨rfl, hb⟩; refine ⟨_, rfl, ?_⟩; have n0_ := Aside0.mk (blk_below (g := gb409) (o := .cells #[.string a5_0, .slice A5_1 l5_1.length c5_1, .int .i64 a5_2, .int .i64 a5_3] 36 (0, 0)) (by (with_reducible repeat (first | refine blk_drewN ?_ _ | refine blk_drew ?_ | refine blk_alloc ?_ _)); exact BK409.out) hb); have n1_ := Aside0.mk (below_step (by repeat (first | (with_reducible first | exact HB.out | apply below_alloc | apply pw_below_drewN | apply below_drew1 | refine below_set ?_ GE409.out) | exact HB.out)) hb); clear BK409; clear HB; have BK409 := n0_; have HB := n1_; clear n0_ n1_; (try clear hb); (try clear hb2); (try clear hk); (try clear hi)) | ((with_reducible refine gate_callee (f := 12) rfl ?_); refine goesL_ (some 97) rfl rfl Try.func12 (by kernel_rfl) rfl #[.int .i64 (Int.tmod (wrap64 (a0)) 2001), .int .i64 (wrap64 (1 + (wrap64 (Int.tmod a1 100)))), .int .i64 (wrap64 (1 + (wrap64 (Int.tmod a2 8)))), .int .i64 (wrap64 (1 + (wrap64 (Int.tmod a3 1048575)))), .int .i64 (wrap64 (4 + (wrap64 (Int.tmod a4 29))))] rfl (by (try simp only [List.map_toArray, List.map_cons, List.map_nil]); first | done | rfl | (simp only [List.length_drop, List.length_take]; rfl)) ?_; (with_reducible refine (serinetteref24_Frames.calls k2 (Int.tmod (wrap64 (a0)) 2001) (wrap64 (1 + (wrap64 (Int.tmod a1 100)))) (wrap64 (1 + (wrap64 (Int.tmod a2 8)))) (wrap64 (1 + (wrap64 (Int.tmod a3 1048575)))) (wrap64 (4 + (wrap64 (Int.tmod a4 29)))) t414 _ A29.out).mono ?_); rintro e w52 ⟨rfl, hb⟩; refine ⟨_, rfl, ?_⟩; have n0_ := Aside0.mk (blk_below (g := gb409) (o := .cells #[.string a5_0, .slice A5_1 l5_1.length c5_1, .int .i64 a5_2, .int .i64 a5_3] 36 (0, 0)) (by (with_reducible repeat (first | refine blk_drewN ?_ _ | refine blk_drew ?_ | refine blk_alloc ?_ _)); exact BK409.out) hb); have n1_ := Aside0.mk (below_step (by repeat (first | (with_reducible first | exact HB.out | apply below_alloc | apply pw_below_drewN | apply below_drew1 | refine below_set ?_ GE409.out) | exact HB.out)) hb); clear BK409; clear HB; have BK409 := n0_; have HB := n1_; clear n0_ n1_; (try clear hb); (try clear hb2); (try clear hk); (try clear hi); have hcz53_0 : w52.cell? ⟨gb409, 0, none⟩ = some (.string a5_0) := (blk_cell BK409.out 0).trans rfl; have hcz53_1 : w52.cell? ⟨gb409, 1, none⟩ = some (.slice A5_1 l5_1.length c5_1) := (blk_cell BK409.out 1).trans rfl; have hcz53_2 : w52.cell? ⟨gb409, 2, none⟩ = some (.int .i64 a5_2) := (blk_cell BK409.out 2).trans rfl; have hcz53_3 : w52.cell? ⟨gb409, 3, none⟩ = some (.int .i64 a5_3) := (blk_cell BK409.out 3).trans rfl; have hfz53_0 := blk_frozen BK409.out 0; have hfz53_1 := blk_frozen BK409.out 1; have hfz53_2 := blk_frozen BK409.out 2; have hfz53_3 := blk_frozen BK409.out 3) | (go_at_call 13; (with_reducible refine (bound_Ahead.calls k2 a5_0 _ _ l5_1 x21_2 a5_0 _ _ l5_1 a5_2 a5_3 t415 _ ?side1 ?side2 ?side3 ?side4 A31.out).mono ?_); (case side1 => repeat (first | exact (Kd.C_below HR5_1.out HB.out) | (with_reducible refine Kd.C_alloc ?_ _) | (with_reducible refine Kd.C_drewN ?_ _) | (with_reducible refine Kd.C_drew ?_))); (case side2 => exact HC5_1.out); (case side3 => repeat (first | exact (Kd.C_below HR5_1.out HB.out) | (with_reducible refine Kd.C_alloc ?_ _) | (with_reducible refine Kd.C_drewN ?_ _) | (with_reducible refine Kd.C_drew ?_))); (case side4 => exact HC5_1.out); rintro e w54 ⟨rfl, hb⟩; have n0_ := Aside0.mk (blk_below (g := gb409) (o := .cells #[.string a5_0, .slice A5_1 l5_1.length c5_1, .int .i64 a5_2, .int .i64 a5_3] 36 (0, 0)) (by (with_reducible repeat (first | refine blk_drewN ?_ _ | refine blk_drew ?_ | refine blk_alloc ?_ _)); exact BK409.out) hb); have n1_ := Aside0.mk (below_step (by repeat (first | (with_reducible first | exact HB.out | apply below_alloc | apply pw_below_drewN | apply below_drew1 | refine below_set ?_ GE409.out) | exact HB.out)) hb); clear BK409; clear HB; have BK409 := n0_; have HB := n1_; clear n0_ n1_; (try clear hb); (try clear hb2); (try clear hk); (try clear hi)))
                  go_ret
                  exact ⟨by first | rfl | (simp [errW_none, errW_some] <;> rfl) | (simp [*, errW_none, errW_some] <;> rfl), by repeat (first | (with_reducible first | exact HB.out | apply below_alloc | apply pw_below_drewN | apply below_drew1 | refine below_set ?_ GE409.out) | exact HB.out)⟩
              · replace c30 := Bool.eq_false_iff.mpr c30
                subst c30
                have H1 : (some false) = some r := by rw [if_neg (show ¬ (false = true) by decide)] at H; exact H
                clear H
                have H := H1
                clear H1
                obtain rfl := Option.some.inj H
                have hcz55_0 : wr.cell? ⟨gb409, 0, none⟩ = some (.string a5_0) := (blk_cell BK409.out 0).trans rfl
                have hcz55_1 : wr.cell? ⟨gb409, 1, none⟩ = some (.slice A5_1 l5_1.length c5_1) := (blk_cell BK409.out 1).trans rfl
                have hcz55_2 : wr.cell? ⟨gb409, 2, none⟩ = some (.int .i64 a5_2) := (blk_cell BK409.out 2).trans rfl
                have hcz55_3 : wr.cell? ⟨gb409, 3, none⟩ = some (.int .i64 a5_3) := (blk_cell BK409.out 3).trans rfl
                have hfz55_0 := blk_frozen BK409.out 0
                have hfz55_1 := blk_frozen BK409.out 1
                have hfz55_2 := blk_frozen BK409.out 2
                have hfz55_3 := blk_frozen BK409.out 3
                go_wp2_with (first | ((with_reducible refine gate_callee (f := 11) rfl ?_); refine goesL_ (some 91) rfl rfl Try.func11 (by kernel_rfl) rfl #[.agg #[.string a5_0, .slice A5_1 l5_1.length c5_1], .int .i64 x21_2, .agg #[.string a5_0, .slice A5_1 l5_1.length c5_1, .int .i64 a5_2, .int .i64 a5_3]] rfl (by (try simp only [List.map_toArray, List.map_cons, List.map_nil]); first | done | rfl | (simp only [List.length_drop, List.length_take]; rfl)) ?_; (with_reducible refine (serinetteref24_Ahead.calls k2 a5_0 _ _ l5_1 x21_2 a5_0 _ _ l5_1 a5_2 a5_3 t413 _ ?side1 ?side2 ?side3 ?side4 A28.out).mono ?_); (case side1 => repeat (first | exact (Kd.C_below HR5_1.out HB.out) | (with_reducible refine Kd.C_alloc ?_ _) | (with_reducible refine Kd.C_drewN ?_ _) | (with_reducible refine Kd.C_drew ?_))); (case side2 => exact HC5_1.out); (case side3 => repeat (first | exact (Kd.C_below HR5_1.out HB.out) | (with_reducible refine Kd.C_alloc ?_ _) | (with_reducible refine Kd.C_drewN ?_ _) | (with_reducible refine Kd.C_drew ?_))); (case side4 => exact HC5_1.out); rintro e w56 ⟨rfl, hb⟩; refine ⟨_, rfl, ?_⟩; have n0_ := Aside0.mk (blk_below (g := gb409) (o := .cells #[.string a5_0, .slice A5_1 l5_1.length c5_1, .int .i64 a5_2, .int .i64 a5_3] 36 (0, 0)) (by (with_reducible repeat (first | refine blk_drewN ?_ _ | refine blk_drew ?_ | refine blk_alloc ?_ _)); exact BK409.out) hb); have n1_ := Aside0.mk (below_step (by repeat (first | (with_reducible first | exact HB.out | apply below_alloc | apply pw_below_drewN | apply below_drew1 | refine below_set ?_ GE409.out) | exact HB.out)) hb); clear BK409; clear HB; have BK409 := n0_; have HB := n1_; clear n0_ n1_; (try clear hb); (try clear hb2); (try clear hk); (try clear hi)) | ((with_reducible refine gate_callee (f := 12) rfl ?_); refine goesL_ (some 97) rfl rfl Try.func12 (by kernel_rfl) rfl #[.int .i64 (Int.tmod (wrap64 (a0)) 2001), .int .i64 (wrap64 (1 + (wrap64 (Int.tmod a1 100)))), .int .i64 (wrap64 (1 + (wrap64 (Int.tmod a2 8)))), .int .i64 (wrap64 (1 + (wrap64 (Int.tmod a3 1048575)))), .int .i64 (wrap64 (4 + (wrap64 (Int.tmod a4 29))))] rfl (by (try simp only [List.map_toArray, List.map_cons, List.map_nil]); first | done | rfl | (simp only [List.length_drop, List.length_take]; rfl)) ?_; (with_reducible refine (serinetteref24_Frames.calls k2 (Int.tmod (wrap64 (a0)) 2001) (wrap64 (1 + (wrap64 (Int.tmod a1 100)))) (wrap64 (1 + (wrap64 (Int.tmod a2 8)))) (wrap64 (1 + (wrap64 (Int.tmod a3 1048575)))) (wrap64 (4 + (wrap64 (Int.tmod a4 29)))) t414 _ A29.out).mono ?_); rintro e w57 ⟨rfl, hb⟩; refine ⟨_, rfl, ?_⟩; have n0_ := Aside0.mk (blk_below (g := gb409) (o := .cells #[.string a5_0, .slice A5_1 l5_1.length c5_1, .int .i64 a5_2, .int .i64 a5_3] 36 (0, 0)) (by (with_reducible repeat (first | refine blk_drewN ?_ _ | refine blk_drew ?_ | refine blk_alloc ?_ _)); exact BK409.out) hb); have n1_ := Aside0.mk (below_step (by repeat (first | (with_reducible first | exact HB.out | apply below_alloc | apply pw_below_drewN | apply below_drew1 | refine below_set ?_ GE409.out) | exact HB.out)) hb); clear BK409; clear HB; have BK409 := n0_; have HB := n1_; clear n0_ n1_; (try clear hb); (try clear hb2); (try clear hk); (try clear hi)))
                go_ret
                exact ⟨by first | rfl | (simp [errW_none, errW_some] <;> rfl) | (simp [*, errW_none, errW_some] <;> rfl), by repeat (first | (with_reducible first | exact HB.out | apply below_alloc | apply pw_below_drewN | apply below_drew1 | refine below_set ?_ GE409.out) | exact HB.out)⟩

/-- The one pure statement (lawrow.py). -/
def serinettelaw24_BoundFrames.Pure : Prop := ∀ (a0 : Int) (a1 : Int) (a2 : Int) (a3 : Int) (a4 : Int) (a5_0 : ByteArray) (l5_1 : List ByteArray) (a5_2 : Int) (a5_3 : Int), (Lit.int .u16 a0).wf = true → (Lit.int .u8 a1).wf = true → (Lit.int .u8 a2).wf = true → (Lit.int .u32 a3).wf = true → (Lit.int .u8 a4).wf = true → a5_0.size ≤ maxLen → l5_1.length ≤ maxLen → (∀ x ∈ l5_1, x.size ≤ maxLen) → (Lit.int .i64 a5_2).wf = true → (Lit.int .i64 a5_3).wf = true → ∃ k, serinettelaw24_BoundFrames.f k a0 a1 a2 a3 a4 a5_0 l5_1 a5_2 a5_3 = some true
theorem serinettelaw24_BoundFrames.walk (P : serinettelaw24_BoundFrames.Pure) (a0 : Int) (a1 : Int) (a2 : Int) (a3 : Int) (a4 : Int) (a5_0 : ByteArray) (l5_1 : List ByteArray) (a5_2 : Int) (a5_3 : Int) (w : World) (wa0 : (Lit.int .u16 a0).wf = true) (wa1 : (Lit.int .u8 a1).wf = true) (wa2 : (Lit.int .u8 a2).wf = true) (wa3 : (Lit.int .u32 a3).wf = true) (wa4 : (Lit.int .u8 a4).wf = true) (wa5_0 : a5_0.size ≤ maxLen) (A5_1 : Option Addr) (c5_1 : Nat) (hr5_1 : Kd.C Kd.string w A5_1 l5_1.length l5_1) (hc5_1 : l5_1.length ≤ c5_1) (hm5_1 : l5_1.length ≤ maxLen) (hw5_1 : ∀ x ∈ l5_1, x.size ≤ maxLen) (wa5_2 : (Lit.int .i64 a5_2).wf = true) (wa5_3 : (Lit.int .i64 a5_3).wf = true) :
    Calls Try.prog 4 #[.int .u16 a0, .int .u8 a1, .int .u8 a2, .int .u32 a3, .int .u8 a4, .agg #[.string a5_0, .slice A5_1 l5_1.length c5_1, .int .i64 a5_2, .int .i64 a5_3]] w fun e w' => e = .returned (.bool true) ∧ Below w.heap.size w w' := by
  obtain ⟨k, h⟩ := P a0 a1 a2 a3 a4 a5_0 l5_1 a5_2 a5_3 wa0 wa1 wa2 wa3 wa4 wa5_0 hm5_1 hw5_1 wa5_2 wa5_3
  refine (serinettelaw24_BoundFrames.calls k a0 a1 a2 a3 a4 a5_0 A5_1 c5_1 l5_1 a5_2 a5_3 true w hr5_1 hc5_1 h).mono ?_
  rintro e w' ⟨rfl, hd⟩
  exact ⟨rfl, hd⟩

end Go.Proofs.Ytdacblackoaphaa.PBoundFrames
