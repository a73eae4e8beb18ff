/- Any comment of moderate size: whether it can be (meta.commentRight), and its bytes (meta.commentBody), with the proofs of the calls. For texts of up to a thousand bytes, up to a thousand fields. -/
import Derived.Test.YtpeejdmbnlhjmaaProg
import Derived.Below
import Derived.Deep.Draws
import Derived.Deep.AppendLies
import Derived.Maps.AppendAt
import Derived.OwnWalk
import Derived.Laws.BytesArg
import Derived.Laws.MakeOwn
import Derived.Laws.OwnMore
import Derived.Deep.OwnRows
import Derived.Tactics
import Derived.Lib.ConvBytes
import Derived.Laws.Slices
import Derived.WalkKit
import Derived.KernelRfl
import Derived.RowKit3
import Derived.Deep.LoopGhost
import Derived.Deep.QuietTactic
import Derived.BigQuiet
import Derived.WideLaws
import Derived.Deep.DeepCutAuto
import Derived.Deep.CutBlock
import Derived.Deep.RegionHeld3
import Derived.Laws.Rows
import Derived.Lib.AppendStr
import Derived.ArgAppend
import Derived.Laws.IdiomCopy
import Derived.OrdersHeld
import Derived.Laws.BitsLemmas
import Derived.RowKit
import Derived.Test.YtpeejdmbnlhjmaaWWords
import Derived.Test.YtpeejdmbnlhjmaaWLast
import Derived.Test.YtpeejdmbnlhjmaaWTab
import Derived.Test.YtpeejdmbnlhjmaaWFour
import Derived.Test.YtpeejdmbnlhjmaaWQPut
import Derived.Test.YtpeejdmbnlhjmaaWApart
import Derived.Test.YtpeejdmbnlhjmaaWArr
import Derived.Test.YtpeejdmbnlhjmaaWZeros
import Derived.Test.YtpeejdmbnlhjmaaWFoot
import Derived.Test.YtpeejdmbnlhjmaaWKept
import Derived.Test.YtpeejdmbnlhjmaaWShare
import Derived.Test.YtpeejdmbnlhjmaaWN
import Derived.Test.YtpeejdmbnlhjmaaWFootNe
import Derived.Test.YtpeejdmbnlhjmaaWAt
import Derived.Test.YtpeejdmbnlhjmaaWEqStruct
import Derived.Test.YtpeejdmbnlhjmaaWRepsOne
import Derived.Test.YtpeejdmbnlhjmaaWInv
import Derived.Test.YtpeejdmbnlhjmaaWInvWords
import Derived.Test.YtpeejdmbnlhjmaaWGuard
import Derived.Test.YtpeejdmbnlhjmaaWNEv
import Derived.Test.YtpeejdmbnlhjmaaWMore
import Derived.LoopN
import Derived.Outline
import Derived.Deep.RegionLaw
import Derived.Test.YtpeejdmbnlhjmaaMall
import Derived.Test.YtpeejdmbnlhjmaaWbody
namespace Go.Proofs.Ytpeejdmbnlhjmaa.H
open Go.RowKit Go.Proofs.YtpeejdmbnlhjmaaW.PrintWords Go.Proofs.YtpeejdmbnlhjmaaW.PrintLast Go.Proofs.YtpeejdmbnlhjmaaW.PrintMore
attribute [local go_sem] max2_int min2_int max_two min_two max_three min_three max_four min_four   -- for this text's walks alone
set_option linter.unusedVariables false
set_option linter.unusedSimpArgs false
def cSmall (M : ByteArray) (F : List ByteArray) : Prop := M.size ≤ 1000 ∧ F.length ≤ 1000 ∧ ∀ x ∈ F, x.size ≤ 1000
def badF (s : ByteArray) : Bool := !fieldP s
def rdB (F : List ByteArray) (i : Int) : ByteArray := rdOf ByteArray.empty F i
theorem rdB_at (F : List ByteArray) (k : Nat) (h : k < F.length) : rdB F (k : Int) = F[k] := by
  unfold rdB rdOf
  rw [Int.toNat_natCast, List.getD_eq_getElem?_getD, List.getElem?_eq_getElem h]
  rfl
def firstB : List ByteArray → Int → Int
  | [], _ => -1
  | x :: l, i => if badF x = true then i else firstB l (i + 1)
theorem firstB_any : ∀ (l : List ByteArray) (i : Int), 0 ≤ i → (decide (firstB l i ≥ 0) = l.any badF ∧ -1 ≤ firstB l i)
  | [], i, h => by simp [firstB]
  | x :: l, i, h => by
    unfold firstB
    by_cases c : badF x = true
    · rw [if_pos c]
      simp [c, h]
      omega
    · rw [if_neg c]
      have := firstB_any l (i + 1) (by omega)
      simp [c]
      simpa using this
theorem firstB_step {l : List ByteArray} {k : Nat} (h : k < l.length) : firstB (l.drop k) k = if badF l[k] = true then (k : Int) else firstB (l.drop (k + 1)) ((k + 1 : Nat) : Int) := by
  rw [List.drop_eq_getElem_cons h, firstB]
  split
  · rfl
  · congr 1
set_option maxHeartbeats 8000000 in
theorem closureB_calls (s : ByteArray) (w : World) (hs : s.size ≤ 1000) : Calls Try.prog 158 #[.string s] w (BoolTo w (badF s)) := by
  go_enter Try.func158, Try.ntmps158
  go_wp2_with (first | (go_at_call 24; (with_reducible refine (field_calls s _ (by omega)).mono ?_); rintro e w1 ⟨rfl, hb⟩; have HB := Aside0.mk hb; clear hb))
  go_ret
  exact ⟨rfl, HB.out⟩
set_option maxHeartbeats 8000000 in
set_option maxRecDepth 100000 in
theorem indexB_calls (w : World) (A : Option Addr) (F : List ByteArray) (c : Nat) (hr : Kd.C Kd.string w A F.length F) (hl : F.length ≤ 1000) (hs : ∀ x ∈ F, x.size ≤ 1000) : Calls Try.prog 182 #[.slice A F.length c, .func (.func 158) #[] #[]] w (IntTo w (firstB F 0)) := by
  have HR := Aside0.mk hr
  have HS := Aside0.mk hs
  have B0 := Aside0.mk (Below.refl w.heap.size w)
  clear hr hs
  go_enter Try.func182, Try.ntmps182
  go_wp2
  go_loopw [8] (fun i wr => ∃ k : Nat, k ≤ F.length ∧ i = .int .i64 k ∧ Aside0 (firstB F 0 = firstB (F.drop k) k) ∧ Aside0 (Below w.heap.size w wr)) (fun i _ => F.length - (intOf i).toNat)
  case atStart => exact ⟨0, Nat.zero_le _, rfl, ⟨rfl⟩, B0⟩
  case round =>
    clear B0
    obtain ⟨k, hk, rfl, hq, HB⟩ := hrel
    by_cases hlt : k < F.length
    · have c1 : decide ((k : Int) < (F.length : Int)) = true := decide_eq_true (by omega)
      have c2 : decide (k < F.length) = true := decide_eq_true (by omega)
      obtain ⟨ad, e1, hx⟩ := Kd.at_string (Kd.C_below HR.out HB.out) (k : Int) (by omega) (by omega)
      cases e1
      have hx' : wr.cell? (ad.add (k : Int).toNat) = some (.string (rdB F (k : Int))) := hx
      rw [rdB_at F k hlt, Int.toNat_natCast] at hx'
      clear hx
      have hs := HS.out F[k] (List.getElem_mem hlt)
      have hst := Aside0.mk (firstB_step hlt)
      generalize F[k] = x at hx' hs hst
      have HX := Aside0.mk hs
      clear hs
      by_cases hp : badF x = true
      · have hz := Aside0.mk (hq.out.trans (hst.out.trans (if_pos hp)))
        have HP := Aside0.mk hp
        clear hst hq hp
        go_wp2_with (first | (go_at_call 158; (with_reducible refine (closureB_calls x _ HX.out).mono ?_); rintro e w' ⟨rfl, hb⟩; rw [HP.out]; have HB2 := Aside0.mk (below_step HB.out hb); clear hb))
        go_ret
        exact ⟨by rw [hz.out]; rfl, HB2.out⟩
      · have hz := Aside0.mk (hq.out.trans (hst.out.trans (if_neg hp)))
        have HP := Aside0.mk (Bool.eq_false_iff.mpr hp)
        clear hst hq hp
        go_wp2_with (first | (go_at_call 158; (with_reducible refine (closureB_calls x _ HX.out).mono ?_); rintro e w' ⟨rfl, hb⟩; rw [HP.out]; have HB2 := Aside0.mk (below_step HB.out hb); clear hb))
        refine ⟨⟨k + 1, by omega, by go_num, hz, HB2⟩, by simp [intOf]; omega⟩
    · obtain rfl : k = F.length := by omega
      have c1 : decide ((F.length : Int) < (F.length : Int)) = false := decide_eq_false (by omega)
      have c2 : decide (F.length < F.length) = false := decide_eq_false (by omega)
      have hz := Aside0.mk (show firstB F 0 = -1 by rw [hq.out, List.drop_length]; rfl)
      clear hq
      go_wp2
      go_ret
      exact ⟨by rw [hz.out]; rfl, HB.out⟩
set_option maxHeartbeats 8000000 in
theorem containsB_calls (w : World) (A : Option Addr) (F : List ByteArray) (c : Nat) (hr : Kd.C Kd.string w A F.length F) (hl : F.length ≤ 1000) (hs : ∀ x ∈ F, x.size ≤ 1000) : Calls Try.prog 157 #[.slice A F.length c, .func (.func 158) #[] #[]] w (BoolTo w (F.any badF)) := by
  have HR := Aside0.mk hr
  have HS := Aside0.mk hs
  have hf := Aside0.mk (firstB_any F 0 (by omega)).1
  clear hr hs
  go_enter Try.func157, Try.ntmps157
  go_wp2_with (first | (go_at_call 182; (with_reducible refine (indexB_calls _ A F c HR.out hl HS.out).mono ?_); rintro e w1 ⟨rfl, hb⟩; have HB := Aside0.mk hb; clear hb))
  go_ret
  exact ⟨by rw [← hf.out]; rfl, HB.out⟩
def csize (M : ByteArray) (F : List ByteArray) : Int := F.foldl (fun s x => s + (4 + (x.size : Int))) (8 + (M.size : Int))
theorem csize_take (M : ByteArray) (F : List ByteArray) (k : Nat) (h : k < F.length) : csize M (F.take (k + 1)) = csize M (F.take k) + (4 + ((F[k]).size : Int)) := by
  unfold csize
  rw [List.take_succ_eq_append_getElem h, List.foldl_append]
  rfl
theorem csize_rng (M : ByteArray) (F : List ByteArray) (h : cSmall M F) (k : Nat) (hk : k ≤ F.length) : 0 ≤ csize M (F.take k) ∧ csize M (F.take k) ≤ 1008 + 1004 * (k : Int) := by
  induction k with
  | zero =>
    have := h.1
    show 0 ≤ 8 + (M.size : Int) ∧ 8 + (M.size : Int) ≤ _
    omega
  | succ k ih =>
    have := ih (by omega)
    rw [csize_take M F k (by omega)]
    have := h.2.2 F[k] (List.getElem_mem (by omega))
    omega
def crightP (M : ByteArray) (F : List ByteArray) : Bool := textP M && !(F.any badF)
set_option maxHeartbeats 8000000 in
set_option maxRecDepth 100000 in
theorem cright_calls (w : World) (M : ByteArray) (A : Option Addr) (F : List ByteArray) (c : Nat) (hr : Kd.C Kd.string w A F.length F) (h : cSmall M F) : Calls Try.prog 116 #[.agg #[.string M, .slice A F.length c]] w (BoolTo w (crightP M F)) := by
  have hb0 := blk_new w (.cells #[.string M, .slice A F.length c] 36)
  have HB0 := Aside0.mk hb0
  have B0 := Aside0.mk (below_alloc (Below.refl w.heap.size w) (.cells #[.string M, .slice A F.length c] 36))
  have HR := Aside0.mk (Kd.C_below hr B0.out)
  have H := Aside0.mk h
  have hM : M.size ≤ 1000 := h.1
  have hF : F.length ≤ 1000 := h.2.1
  have HS := Aside0.mk (show ∀ x ∈ F, x.size ≤ 1000 from h.2.2)
  have e0 : wrap64 (8 + (M.size : Int)) = 8 + (M.size : Int) := by unfold wrap64; omega
  clear hb0 hr h
  go_enter Try.func116, Try.ntmps116
  go_upto_region 1 with fail
  generalize w.alloc (.cells #[.string M, .slice A F.length c] 36) = W at *
  have x0 : W.cell? ⟨w.heap.size, 0, none⟩ = some (.string M) := (blk_cell HB0.out 0).trans rfl
  have x1 : W.cell? ⟨w.heap.size, 1, none⟩ = some (.slice A F.length c) := (blk_cell HB0.out 1).trans rfl
  go_wp2_with fail
  go_loop [3, 13] (fun s i => ∃ k : Nat, k ≤ F.length ∧ i = .int .i64 k ∧ s = .int .i64 (csize M (F.take k))) (fun s i => F.length - (intOf i).toNat)
  case atStart => exact ⟨0, Nat.zero_le _, rfl, rfl⟩
  case round =>
    obtain ⟨k, hk, rfl, rfl⟩ := hrel
    by_cases hlt : k < F.length
    · have c1 : decide ((k : Int) < (F.length : Int)) = true := decide_eq_true (by omega)
      have c2 : decide (k < F.length) = true := decide_eq_true (by omega)
      obtain ⟨ad, e1, hx⟩ := Kd.at_string HR.out (k : Int) (by omega) (by omega)
      cases e1
      have hx' : W.cell? (ad.add (k : Int).toNat) = some (.string (rdB F (k : Int))) := hx
      rw [rdB_at F k hlt, Int.toNat_natCast] at hx'
      clear hx
      have hs := H.out.2.2 F[k] (List.getElem_mem hlt)
      have hst := Aside0.mk (csize_take M F k hlt)
      have hg := csize_rng M F H.out k hk
      generalize F[k] = x at hx' hs hst
      generalize csize M (F.take k) = q at *
      have e1 : wrap64 (4 + (x.size : Int)) = 4 + (x.size : Int) := by unfold wrap64; omega
      have e2 : wrap64 (q + (4 + (x.size : Int))) = q + (4 + (x.size : Int)) := by unfold wrap64; omega
      clear hg
      go_wp2_with fail
      go_round
      case rel => exact ⟨k + 1, by omega, by go_num, by rw [hst.out, e2]⟩
      case measure => simp [intOf]; omega
    · obtain rfl : k = F.length := by omega
      have c1 : decide ((F.length : Int) < (F.length : Int)) = false := decide_eq_false (by omega)
      have c2 : decide (F.length < F.length) = false := decide_eq_false (by omega)
      have hg := csize_rng M F H.out F.length (Nat.le_refl _)
      rw [List.take_length] at *
      have d1 : decide (csize M F ≤ 16777215) = true := decide_eq_true (by omega)
      generalize csize M F = q at *
      clear hg
      have HT : ∃ b, textP M = b := ⟨_, rfl⟩
      obtain ⟨b, hb⟩ := HT
      have HBt := Aside0.mk hb
      clear hb
      cases b
      · go_wp2_with (first | (go_at_call 22; (with_reducible refine (text_calls M _ (by omega)).mono ?_); rintro e w1 ⟨rfl, hb⟩; rw [HBt.out]; have HB := Aside0.mk (below_step B0.out hb); clear hb))
        go_ret
        exact ⟨by unfold crightP; rw [HBt.out]; rfl, HB.out⟩
      · go_wp2_with (first
          | (go_at_call 22; (with_reducible refine (text_calls M _ (by omega)).mono ?_); rintro e w1 ⟨rfl, hb⟩; rw [HBt.out]; have HB := Aside0.mk (below_step B0.out hb); have HR1 := Aside0.mk (Kd.C_below HR.out hb); have y1 : w1.cell? ⟨w.heap.size, 1, none⟩ = some (.slice A F.length c) := (blk_cell (blk_below HB0.out hb) 1).trans rfl; clear hb)
          | (go_at_call 157; (with_reducible refine (containsB_calls _ A F c HR1.out hF HS.out).mono ?_); rintro e w2 ⟨rfl, hb⟩; have HB2 := Aside0.mk (below_step HB.out hb); clear hb))
        go_ret
        exact ⟨by unfold crightP; rw [HBt.out]; rfl, HB2.out⟩
def lit4 (n : Int) : List Int := [n % 256, n / 256 % 256, n / 65536 % 256, n / 16777216 % 256]
def cfieldP (f : ByteArray) : List Int := lit4 (f.size : Int) ++ bytesOf f
def cbodyT (M : ByteArray) (F : List ByteArray) (k : Nat) : List Int := (F.take k).foldl (fun l f => l ++ lit4 (f.size : Int) ++ bytesOf f) (lit4 (M.size : Int) ++ bytesOf M ++ lit4 (F.length : Int))
def cbodyP (M : ByteArray) (F : List ByteArray) : List Int := cbodyT M F F.length
theorem cbodyT_step (M : ByteArray) (F : List ByteArray) (k : Nat) (h : k < F.length) : cbodyT M F (k + 1) = cbodyT M F k ++ lit4 ((F[k]).size : Int) ++ bytesOf F[k] := by
  unfold cbodyT
  rw [List.take_succ_eq_append_getElem h, List.foldl_append]
  rfl
theorem bytes_size (s : ByteArray) : (bytesOf s).length = s.size := by
  first | (unfold bytesOf; simp) | simp [bytesOf]
theorem cbodyT_len (M : ByteArray) (F : List ByteArray) (h : cSmall M F) (k : Nat) (hk : k ≤ F.length) : (cbodyT M F k).length ≤ 1008 + 1004 * k := by
  induction k with
  | zero =>
    have := h.1
    unfold cbodyT
    rw [List.take_zero, List.foldl_nil, List.length_append, List.length_append, bytes_size]
    have : (lit4 (M.size : Int)).length = 4 := rfl
    have : (lit4 (F.length : Int)).length = 4 := rfl
    omega
  | succ k ih =>
    have := ih (by omega)
    have := h.2.2 F[k] (List.getElem_mem (by omega))
    have e : (lit4 ((F[k]).size : Int)).length = 4 := rfl
    rw [cbodyT_step M F k (by omega), List.length_append, List.length_append, bytes_size]
    omega
set_option maxHeartbeats 8000000 in
set_option maxRecDepth 100000 in
theorem cbody_calls (w : World) (M : ByteArray) (A : Option Addr) (F : List ByteArray) (c : Nat) (hr : Kd.C Kd.string w A F.length F) (h : cSmall M F) : Calls Try.prog 117 #[.agg #[.string M, .slice A F.length c]] w (RowTo w (cbodyP M F)) := by
  have hb0 := blk_new w (.cells #[.string M, .slice A F.length c] 36)
  have HB0 := Aside0.mk hb0
  have B0 := Aside0.mk (below_alloc (Below.refl w.heap.size w) (.cells #[.string M, .slice A F.length c] 36))
  have HR := Aside0.mk (Kd.C_below hr B0.out)
  have H := Aside0.mk h
  have hM : M.size ≤ 1000 := h.1
  have hF : F.length ≤ 1000 := h.2.1
  have HS := Aside0.mk (show ∀ x ∈ F, x.size ≤ 1000 from h.2.2)
  clear hb0 hr h
  go_enter Try.func117, Try.ntmps117
  go_upto_region 1 with fail
  generalize w.alloc (.cells #[.string M, .slice A F.length c] 36) = w1 at *
  have S0 := Aside0.mk B0.out.size
  have x0 : w1.cell? ⟨w.heap.size, 0, none⟩ = some (.string M) := (blk_cell HB0.out 0).trans rfl
  have x1 : w1.cell? ⟨w.heap.size, 1, none⟩ = some (.slice A F.length c) := (blk_cell HB0.out 1).trans rfl
  go_region_held3 (fun W => W.cell? ⟨w.heap.size, 0, none⟩ = some (.string M) ∧ Below w1.heap.size w1 W)
    (first | (go_keep; done) | (((try go_split_ands); (repeat' apply And.intro)) <;> first | assumption | exact cell_below ‹_› ‹_› | exact below_drew (Below.refl _ _) | exact below_drew ‹_› | exact below_alloc ‹_› _ | exact below_join ‹_› ‹_›))
    (first
      | (go_at_call 159; go_split_ands; (with_reducible refine (little_calls (M.size : Int) _ (by omega)).mono ?_); rintro e w2 ⟨v2, rfl, hr2, hb2⟩)
      | (refine R_append_str_step (w0 := w1) w1.heap.size (by rfl) (.tmp 9) (.tmp 11) 22 9 5 rfl Try.underlying22 Try.underlying9 infoU _ (lit4 (M.size : Int)) M rfl rfl (Kd.R_lower hr2 (Nat.le_refl _)) (below_join hb2 (below_drew1 (Below.refl _ _))) hb2.size (by show 4 + M.size ≤ _; omega) ?_; intro v3 w3 hr3 hb3 hg3; have hc3 := cell_below hb3 x0)
      | fail)
  have R3 := Aside0.mk hr3
  have HB3 := Aside0.mk hb3
  have y1 : w3.cell? ⟨w.heap.size, 1, none⟩ = some (.slice A F.length c) := cell_below hb3 x1
  have X1 := Aside0.mk x1
  clear hr3 hb3 hg3 hc3 hr2 hb2 x0 x1
  go_upto_block 0 with (first
    | (go_at_call 159; (with_reducible refine (little_calls (F.length : Int) _ (by omega)).mono ?_); rintro e w4 ⟨v4, rfl, hr4, hb4⟩; obtain ⟨A4, c4, rfl⟩ := Kd.R_slice hr4; have C4 := Aside0.mk (show Kd.C (Kd.int .u8) w4 A4 4 (lit4 (F.length : Int)) from (Kd.R_reads' hr4).2.2); have HB4 := Aside0.mk (below_join hb4 HB3.out); have R4 := Aside0.mk (Kd.R_below R3.out hb4); have y1' := cell_below HB4.out X1.out; clear hr4 hb4 y1)
    | ((with_reducible refine gate_builtin (b := .append) (xs := #[.tmp 13, .tmp 17]) rfl ?_); at_builtin; refine Kd.R_append_rows (Kd.int .u8) (w0 := w1) w1.heap.size rfl (.tmp 13) (.tmp 17) 22 5 (.int .u8 0) 1 rfl Try.underlying22 infoU rfl (by decide) (by decide) _ (lit4 (M.size : Int) ++ bytesOf M) (lit4 (F.length : Int)) _ _ _ (fun _ => True) (fun _ => False) rfl rfl R4.out C4.out (fun _ _ h => h) (fun _ h => h.elim) (fun _ _ => trivial) HB4.out HB4.out.size (by rw [List.length_append, bytes_size]; show (4 + M.size + 4) * 1 ≤ _; omega) ?_; intro v5 w5 hr5 hb5 hg hat; clear hg hat; have R5 := Aside0.mk hr5; have HB5 := Aside0.mk hb5; have y2 := cell_below hb5 X1.out; clear hr5 hb5 y1'))
  clear R4 R3 HB3 HB4
  go_wp2_with fail
  have R5' := Aside0.mk (show Kd.R (Kd.int .u8) 5 w5 w1.heap.size (fun _ => True) v5 (cbodyT M F 0) from R5.out)
  clear R5 y2
  go_loopw [3, 22] (fun v i wr => ∃ k : Nat, k ≤ F.length ∧ i = .int .i64 k ∧ Aside0 (Kd.R (Kd.int .u8) 5 wr w1.heap.size (fun _ => True) v (cbodyT M F k)) ∧ Aside0 (Below w1.heap.size w1 wr)) (fun v i _ => F.length - (intOf i).toNat)
  case atStart => exact ⟨0, Nat.zero_le _, rfl, R5', HB5⟩
  case round =>
    clear R5' HB5
    obtain ⟨k, hk, rfl, HV, HB⟩ := hrel
    by_cases hlt : k < F.length
    · have c1 : decide ((k : Int) < (F.length : Int)) = true := decide_eq_true (by omega)
      have c2 : decide (k < F.length) = true := decide_eq_true (by omega)
      obtain ⟨ad, e1, hx⟩ := Kd.at_string (Kd.C_below HR.out HB.out) (k : Int) (by omega) (by omega)
      cases e1
      have hx' : wr.cell? (ad.add (k : Int).toNat) = some (.string (rdB F (k : Int))) := hx
      rw [rdB_at F k hlt, Int.toNat_natCast] at hx'
      clear hx
      have hs := HS.out F[k] (List.getElem_mem hlt)
      have hst := Aside0.mk (cbodyT_step M F k hlt)
      have hlen := Aside0.mk (cbodyT_len M F H.out k hk)
      generalize F[k] = x at hx' hs hst
      generalize cbodyT M F k = q at *
      have HL := Aside0.mk (show q.length ≤ 2000000 by have := hlen.out; omega)
      have k1 : (0 : Int) ≤ (k : Int) := Int.natCast_nonneg _
      have k2 : (k : Int) < (F.length : Int) := by omega
      go_wp2_with (first
        | (go_at_call 159; (with_reducible refine (little_calls (x.size : Int) _ (by omega)).mono ?_); rintro e w6 ⟨v6, rfl, hr6, hb6⟩; obtain ⟨A6, c6, rfl⟩ := Kd.R_slice hr6; have C6 := Aside0.mk (show Kd.C (Kd.int .u8) w6 A6 4 (lit4 (x.size : Int)) from (Kd.R_reads' hr6).2.2); have HB6 := Aside0.mk (below_join hb6 HB.out); have R6 := Aside0.mk (Kd.R_below HV.out hb6); clear hr6 hb6)
        | ((with_reducible refine gate_builtin (b := .append) (xs := #[.tmp 26, .tmp 29]) rfl ?_); at_builtin; refine Kd.R_append_rows (Kd.int .u8) (w0 := w1) w1.heap.size rfl (.tmp 26) (.tmp 29) 22 5 (.int .u8 0) 1 rfl Try.underlying22 infoU rfl (by decide) (by decide) _ q (lit4 (x.size : Int)) _ _ _ (fun _ => True) (fun _ => False) rfl rfl R6.out C6.out (fun _ _ h => h) (fun _ h => h.elim) (fun _ _ => trivial) HB6.out HB6.out.size (by have := HL.out; show (q.length + 4) * 1 ≤ _; omega) ?_; intro v7 w7 hr7 hb7 hg hat; clear hg hat; have R7 := Aside0.mk hr7; have HB7 := Aside0.mk hb7; clear hr7 hb7)
        | ((with_reducible refine gate_builtin (b := .append) (xs := #[.tmp 31, .tmp 32]) rfl ?_); at_builtin; refine R_append_str (w0 := w1) w1.heap.size rfl (.tmp 31) (.tmp 32) 22 9 5 rfl Try.underlying22 Try.underlying9 infoU _ (q ++ lit4 (x.size : Int)) x rfl rfl R7.out HB7.out HB7.out.size (by have := HL.out; rw [List.length_append]; show q.length + 4 + x.size ≤ _; omega) ?_; intro v8 w8 hr8 hb8 hg8; clear hg8; have R8 := Aside0.mk hr8; have HB8 := Aside0.mk hb8; clear hr8 hb8))
      refine ⟨⟨k + 1, by omega, by go_num, ⟨by rw [hst.out]; exact R8.out⟩, HB8⟩, by simp [intOf]; omega⟩
    · obtain rfl : k = F.length := by omega
      have c1 : decide ((F.length : Int) < (F.length : Int)) = false := decide_eq_false (by omega)
      have c2 : decide (F.length < F.length) = false := decide_eq_false (by omega)
      go_wp2_with fail
      go_ret
      exact ⟨_, rfl, Kd.R_lower HV.out S0.out, below_join HB.out B0.out⟩
end Go.Proofs.Ytpeejdmbnlhjmaa.H
