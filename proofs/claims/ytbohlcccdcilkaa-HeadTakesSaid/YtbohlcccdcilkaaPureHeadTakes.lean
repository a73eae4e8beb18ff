/- The statement HeadTakes: the header that any bytes begin with, how many bytes it has, or what is wrong, is as the document says; also if they are sealed with a right check. For up to thirty bytes. -/
import Derived.Test.YtbohlcccdcilkaaPHeadTakesx2
import Derived.Test.YtbohlcccdcilkaaPureHead
import Derived.Test.YtbohlcccdcilkaaPureTake
import Derived.Test.YtbohlcccdcilkaaPureRtake
import Derived.Test.YtbohlcccdcilkaaLEv
import Derived.Test.YtbohlcccdcilkaaLNum
import Derived.Test.YtbohlcccdcilkaaLEnc
import Derived.Test.YtbohlcccdcilkaaLBits
import Derived.Test.YtbohlcccdcilkaaLDec2
import Derived.Test.YtbohlcccdcilkaaLHead
import Derived.Test.YtbohlcccdcilkaaLTake
namespace Go.Proofs.Ytbohlcccdcilkaa.Pure
open Go.RowKit Go.Proofs.YtbohlcccdcilkaaW.PrintWords Go.Proofs.YtbohlcccdcilkaaW.PrintLast Go.Proofs.Ytbohlcccdcilkaa.PHeadTakes Go.Proofs.Ytbohlcccdcilkaa.H Go.Proofs.Ytbohlcccdcilkaa.L
set_option linter.unusedVariables false
set_option linter.unusedSimpArgs false
theorem awake17 : Ev (fun k => serinettelaw17_awake.f k) true := Ev.of (k := 40) serinettelaw17_awake.mono (by decide +kernel)
theorem takes_loop (l : List Int) (hr : ∀ x ∈ l, 0 ≤ x ∧ x ≤ 255) (hl : l.length ≤ 30) (d : Nat) : ∀ (i : Nat), l.length ≤ i + d → Ev (fun k => serinettelaw17_HeadTakes.l0 k l true i) true := by
  induction d with
  | zero =>
    intro i hi
    refine Ev.step (fun k => serinettelaw17_HeadTakes.l0.eq_2 ..) ?_
    exact evF (by omega) (Ev.now _)
  | succ d ih =>
    intro i hi
    refine Ev.step (fun k => serinettelaw17_HeadTakes.l0.eq_2 ..) ?_
    by_cases c : (i : Int) < (l.length : Int)
    case neg => exact evF c (Ev.now _)
    refine evT c ?_
    have ht : ((l.take (i : Int).toNat)).length ≤ 30 := by rw [List.length_take]; omega
    have hw : ∀ x ∈ [] ++ l.take (i : Int).toNat, 0 ≤ x ∧ x ≤ 255 := fun x h => hr x (List.mem_of_mem_take (by simpa using h))
    have hlen : ([] ++ l.take (i : Int).toNat : List Int).length ≤ 30 := by rw [List.nil_append]; exact ht
    have h8 : checks_Eight.f ([] ++ l.take (i : Int).toNat) = some (crc8 ([] ++ l.take (i : Int).toNat)) := by
      unfold checks_Eight.f
      rw [if_pos ⟨by omega, List.all_eq_true.mpr fun x h => by simpa using hw x h⟩, reg_crc8 _ hw]
    refine evC rfl ?_
    refine evT (by omega) ?_
    refine evT (by omega) ?_
    refine evT (by simp only [List.length_nil]; omega) ?_
    refine evC rfl ?_
    refine evC h8 ?_
    refine evT (by omega) ?_
    refine evC rfl ?_
    have hw2 : ∀ x ∈ ([] ++ l.take (i : Int).toNat) ++ [crc8 ([] ++ l.take (i : Int).toNat)], 0 ≤ x ∧ x ≤ 255 := by
      intro x hx
      rcases List.mem_append.mp hx with hx | hx
      · exact hw x hx
      · rw [List.mem_singleton.mp hx]; exact crc8_rng _
    have hl2 : (([] ++ l.take (i : Int).toNat) ++ [crc8 ([] ++ l.take (i : Int).toNat)]).length ≤ 1000000 := by
      rw [List.length_append, List.length_singleton]
      omega
    refine evB (htake_ev _ hw2 hl2) ?_
    refine evB (rtake_ev _ hw2 hl2) ?_
    refine evF (by simp) ?_
    refine evT rfl ?_
    refine evT rfl ?_
    rw [wr _ (by omega)]
    exact ih (i + 1) (by omega)
theorem HeadTakes : serinettelaw17_HeadTakes.Pure := by
  intro l0 hm _ hw
  have hr : ∀ x ∈ l0, 0 ≤ x ∧ x ≤ 255 := fun x hx => wf_u8 (hw x hx)
  refine Ev.rounds ?_
  unfold serinettelaw17_HeadTakes.f
  refine evB awake17 ?_
  by_cases c : (l0.length : Int) > 30
  · exact evT c (Ev.now _)
  refine evF c ?_
  refine evB (htake_ev l0 hr (by omega)) ?_
  refine evB (rtake_ev l0 hr (by omega)) ?_
  refine evF (by simp) ?_
  refine evT rfl ?_
  rw [bne_self_eq_false]
  refine Ev.step (fun k => serinettelaw17_HeadTakes.j0.eq_2 ..) ?_
  refine evF (by decide) ?_
  exact takes_loop l0 hr (by omega) l0.length 4 (by omega)
end Go.Proofs.Ytbohlcccdcilkaa.Pure
