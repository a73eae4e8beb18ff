/- The statement NumberRunes: a rune has the bytes that it has in a text; so the runes of a text are read one behind the other. For any text of up to fifty bytes. -/
import Derived.Test.YtdacblackoaphaaPNumberRunesx3
import Derived.Test.YtdacblackoaphaaLEv
import Derived.Test.YtdacblackoaphaaLNum
import Derived.Test.YtdacblackoaphaaLEnc
import Derived.Test.YtdacblackoaphaaLUtf
import Derived.Test.YtdacblackoaphaaLDec
import Derived.Test.YtdacblackoaphaaLDec2
import Derived.Test.YtdacblackoaphaaLRunes
import Derived.Test.YtdacblackoaphaaFNumberRunesSize
import Derived.Test.YtdacblackoaphaaFNumberRunesEncode
import Derived.Test.YtdacblackoaphaaFNumberRunesDecode
namespace Go.Proofs.Ytdacblackoaphaa.Pure
open Go.RowKit Go.Proofs.YtdacblackoaphaaW.PrintWords Go.Proofs.YtdacblackoaphaaW.PrintLast Go.Proofs.Ytdacblackoaphaa.PNumberRunes Go.Proofs.Ytdacblackoaphaa.H Go.Proofs.Ytdacblackoaphaa.L Go.Proofs.Ytdacblackoaphaa.FNumberRunes
set_option linter.unusedVariables false
set_option linter.unusedSimpArgs false
theorem awake03 : Ev (fun k => serinettelaw03_awake.f k) true := Ev.of (k := 40) serinettelaw03_awake.mono (by decide +kernel)
theorem runes_ev (t : ByteArray) (ht : t.size ≤ 50) : ∀ n p, p ≤ t.size → t.size < p + n → Ev (fun k => runesL k t n p) true
  | 0, p, h1, h2 => by omega
  | n + 1, p, h1, h2 => by
    rw [show (fun k => runesL k t (n + 1) p) = _ from funext fun k => runesL.eq_2 ..]
    by_cases hp : p < t.size
    · refine evT hp ?_
      have hr := decode_rune t p
      have hw := fun more => decode_width t p more
      generalize (Utf8.decode t p).2 = wd at *
      generalize (Utf8.decode t p).1 = c at *
      have hz := nsize_rng (c : Int)
      have hl := encBytes_length (c : Int)
      have he := encBytes_rng (c : Int) (by omega) (by omega)
      refine evB (enc_in (c : Int) (by omega) (by omega)) ?_
      refine evT ⟨rfl, by dsimp only; omega, by dsimp only; omega⟩ ?_
      dsimp only
      by_cases hc : p + (encBytes (c : Int)).length ≤ t.size ∧ (t.extract p (p + (encBytes (c : Int)).length)).toList = (strOfNums (encBytes (c : Int))).toList
      · refine evT hc ?_
        have hb := toList_bytes hc.2
        rw [bytesOf_str _ he, bytesOf_extract _ _ _ hc.1, show p + (encBytes (c : Int)).length - p = (encBytes (c : Int)).length by omega] at hb
        have hd : (bytesOf t).drop p = encBytes (c : Int) ++ ((bytesOf t).drop p).drop (encBytes (c : Int)).length := by
          conv => lhs; rw [← List.take_append_drop (encBytes (c : Int)).length ((bytesOf t).drop p)]
          rw [hb]
        have hx : bytesOf (t.extract p t.size) = (bytesOf t).drop p := by
          rw [bytesOf_extract _ _ _ (Nat.le_refl _), List.take_of_length_le]
          rw [List.length_drop, bytesOf_length]
          omega
        have hwd := hw _ hd
        refine evB (dec_ev (bytesOf (t.extract p t.size)) (bytesOf_rng _) (by rw [bytesOf_length, ByteArray.size_extract]; omega)) ?_
        rw [hx, hd, dec_enc (c : Int) (by omega) (by omega)]
        refine evT ⟨by rw [hl], bytes_toList ?_, by omega⟩ ?_
        · rw [utf_enc (c : Int) (by omega) (by omega) (by omega), bytesOf_str _ he]
        · exact runes_ev t ht n _ hc.1 (by omega)
      · exact evF hc (Ev.now _)
    · refine evF hp ?_
      exact evT (by omega) (Ev.now _)
theorem NumberRunes : serinettelaw03_NumberRunes.Pure := by
  intro t ht
  refine Ev.rounds ?_
  unfold serinettelaw03_NumberRunes.f
  refine evB awake03 ?_
  refine evT rfl ?_
  by_cases c : (t.size : Int) > 50
  · exact evT c (Ev.now _)
  · exact evF c (runes_ev t (by omega) 60 0 (by omega) (by omega))
end Go.Proofs.Ytdacblackoaphaa.Pure
