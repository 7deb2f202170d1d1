/- What BytesTell says of whole numbers, of any bytes, any number and any text. -/
import Derived.Test.YtncgbkmhigdflaaPureBytesNums
import Derived.Test.YtncgbkmhigdflaaBytesRef
import Derived.Test.YtncgbkmhigdflaaPx3
set_option linter.unusedVariables false
set_option linter.unusedSimpArgs false
namespace Go.Proofs.Ytncgbkmhigdflaa.Pure
open Go.RowKit Go.Proofs.Ytncgbkmhigdflaa.P Go.Proofs.YtncgbkmhigdflaaW.PrintWords Go.Proofs.YtncgbkmhigdflaaW.PrintLast Go.Proofs.Ytncgbkmhigdflaa.Base Go.Proofs.Ytncgbkmhigdflaa.BM
theorem bytes_of (s : ByteArray) : Bytes (bytesOf s) := bytesOf_range s
theorem BytesTell : topiaristlaw20_BytesTell.Pure := by
  intro l a1 s _ hsz hl w1 _
  have hb : Bytes l := fun c hc => by have := hl c hc; simp [Lit.wf, IntKind.min, IntKind.max, IntKind.bits, IntKind.signed] at this; omega
  refine ⟨5000, ?_⟩
  unfold topiaristlaw20_BytesTell.f
  have hj : topiaristlaw20_BytesTell.j0 5000 l a1 s true = some true := by
    rw [topiaristlaw20_BytesTell.j0, if_pos rfl, wakes_at _ (by omega)]
    rfl
  by_cases hbig : (l.length : Int) > 2000
  · rw [if_pos hbig, hj]
  · rw [if_neg hbig]
    by_cases hs : (s.size : Int) > 2000
    · rw [show decide ((s.size : Int) > 2000) = true from decide_eq_true hs, hj]
    · rw [show decide ((s.size : Int) > 2000) = false from decide_eq_false hs, topiaristlaw20_BytesTell.j0, if_neg (by simp), Option.bind_some, if_pos (by simp; omega), Option.bind_some, List.nil_append]
      have hc := cut_le a1
      have hc2 := cut_le (s.size : Int)
      have hl1 := enc_len 4 (cut a1)
      have hl2 := enc_len 4 (cut (s.size : Int))
      have ht1 : bytes_Text.f 4999 l s = some (l ++ enc 4 (cut (s.size : Int)) ++ bytesOf s) := by
        unfold bytes_Text.f
        rw [Num_is 4999 l _ (by omega) (by omega), Option.bind_some, if_pos (by simp; omega)]
      have ht2 : topiaristref20_Text.f 4999 l s = some (l ++ enc 4 (cut (s.size : Int)) ++ bytesOf s) := by
        unfold topiaristref20_Text.f
        rw [refNum_is 4999 l _ (by omega) (by omega), Option.bind_some, if_pos (by simp; omega)]
      have hself : ∀ x : List Int, topiaristkeep_Bytes.f x x = some true := fun x => by unfold topiaristkeep_Bytes.f; simp
      rw [ReadNum_is l hb, Option.bind_some, refReadNum_is 4999 l hb (by omega) (by omega), Option.bind_some, ReadText_is l hb (by omega), Option.bind_some, refReadText_is 4999 l hb (by omega) (by omega), Option.bind_some,
        Open_is 4999 l hb (by omega) (by omega), Option.bind_some, refOpen_is 4999 l hb (by omega) (by omega), Option.bind_some, Num_is 4999 l a1 (by omega) (by omega), Option.bind_some, refNum_is 4999 l a1 (by omega) (by omega), Option.bind_some, hself, Option.bind_some, if_pos rfl,
        ht1, Option.bind_some, ht2, Option.bind_some, hself, Option.bind_some, if_pos rfl, Sum_is 4999 l hb (by omega) (by omega), refSum_is 4999 l hb (by omega) (by omega), Seal_is 4999 l hb (by omega) (by omega), refSeal_is 4999 l hb (by omega) (by omega)]
      have hw : topiaristlaw20_wakes.f 4999 = some true := wakes_at 4999 (by omega)
      generalize texted l = x
      generalize opened l = y
      generalize dec 5 l 0 0 1 = z
      obtain ⟨x1, x2, x3⟩ := x
      cases z with
      | none => cases x3 <;> simp [got, hself, hw, topiaristlaw20_BytesTell.j1]
      | some q => cases x3 <;> simp [got, hself, hw, topiaristlaw20_BytesTell.j1]
end Go.Proofs.Ytncgbkmhigdflaa.Pure
