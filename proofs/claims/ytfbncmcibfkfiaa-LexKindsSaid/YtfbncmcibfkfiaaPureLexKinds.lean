/- LexKinds answers true at every text of any size: each token's text is of its kind. Conditions: none. -/
import Derived.Test.YtfbncmcibfkfiaaPx8
import Derived.Test.YtfbncmcibfkfiaaLexPure
import Derived.Test.YtfbncmcibfkfiaaLexList
namespace Go.Proofs.Ytfbncmcibfkfiaa.Pure
open Go.RowKit Go.Proofs.Ytfbncmcibfkfiaa.P Go.Proofs.YtfbncmcibfkfiaaW.PrintWords Go.Proofs.YtfbncmcibfkfiaaW.PrintLast Go.Proofs.Ytfbncmcibfkfiaa.Base

theorem kinds_loop (l : List S36) (hl : l.length ≤ 4000) (ho : ∀ t ∈ l, LexSpec.kindOk (t.f0, bytesOf t.f1, t.f2.toNat)) (hz : ∀ t ∈ l, t.f1.size ≤ 4000) (d : Nat) :
    ∀ (k : Nat) (i : Int), 0 ≤ i → i ≤ l.length → (l.length : Int) - i = d → d < k → topiaristlaw01_LexKinds.l0 k l i = some true := by
  induction d with
  | zero =>
    intro k i h0 h1 hd hk
    obtain ⟨k, rfl⟩ : ∃ m, k = m + 1 := ⟨k - 1, by omega⟩
    simp only [topiaristlaw01_LexKinds.l0]
    rw [if_neg (by omega), wakes_true]
    rfl
  | succ d ih =>
    intro k i h0 h1 hd hk
    obtain ⟨k, rfl⟩ : ∃ m, k = m + 1 := ⟨k - 1, by omega⟩
    have hlt : i < (l.length : Int) := by omega
    have hr := ih k (i + 1) (by omega) (by omega) (by omega) (by omega)
    have hw : wrap64 (i + 1) = i + 1 := by unfold wrap64; omega
    have hm : rd_T36 l i ∈ l := by
      unfold rd_T36
      rw [List.getD_eq_getElem?_getD, List.getElem?_eq_getElem (show i.toNat < l.length by omega)]
      exact List.getElem_mem _
    have hk' := ho _ hm
    have hz' := hz _ hm
    simp only [topiaristlaw01_LexKinds.l0]
    generalize rd_T36 l i = t at *
    rw [if_pos hlt, if_pos h0, hw, hr]
    unfold LexSpec.kindOk at hk'
    simp only at hk'
    have chars : ∀ c : UInt8, bytesOf t.f1 = [(c.toNat : Int)] → t.f1.toList = [c] := fun c hc => toList_of _ _ hc
    rcases hk' with ⟨e, h⟩ | ⟨e, h⟩ | ⟨e, h⟩ | ⟨e, h⟩ | ⟨e, h⟩
    · rw [if_pos e, lex_IsName.of _ (by omega), h]; rfl
    · rw [if_neg (by omega), if_pos e, lex_IsTerm.of _ (by omega), h]; rfl
    · rw [if_neg (by omega), if_neg (by omega), if_pos e, if_pos (chars 61 h)]
    · rw [if_neg (by omega), if_neg (by omega), if_neg (by omega), if_pos e, if_pos (chars 124 h)]
    · rw [if_neg (by omega), if_neg (by omega), if_neg (by omega), if_neg (by omega), if_pos e, if_pos (chars 59 h)]

theorem LexKinds : topiaristlaw01_LexKinds.Pure := by
  intro s hn
  by_cases hs : (s.size : Int) > 2000
  · exact ⟨0, by unfold topiaristlaw01_LexKinds.f; rw [if_pos hs, wakes_true]; rfl⟩
  · have hf : ∃ l r2 r3, lex_Tokens.f s = some (l, r2, r3) ∧ l.length ≤ 4000 ∧ (∀ t ∈ l, LexSpec.kindOk (t.f0, bytesOf t.f1, t.f2.toNat)) ∧ (∀ t ∈ l, t.f1.size ≤ 4000) := by
      have hr := LexSpec.tokens_all s
      unfold lex_Tokens.f
      rw [if_neg (by omega)]
      cases hto : LexSpec.tokens s with
      | error e => exact ⟨[], 11, _, rfl, by simp, by simp, by simp⟩
      | ok l =>
        rw [hto] at hr
        have hk := LexSpec.all_kinds _ _ _ hr.symm
        have hc := toks_count s _ _ _ hto
        refine ⟨l.map tok, 0, 0, rfl, by rw [List.length_map]; omega, ?_, ?_⟩
        · intro t ht
          obtain ⟨q, hq, rfl⟩ := List.mem_map.1 ht
          exact hk _ (List.mem_map.2 ⟨q, hq, rfl⟩)
        · intro t ht
          obtain ⟨q, hq, rfl⟩ := List.mem_map.1 ht
          have := toks_small s _ _ _ hto q hq
          show q.2.1.size ≤ 4000
          omega
    obtain ⟨l, r2, r3, hf, h1, h2, h3⟩ := hf
    refine ⟨l.length + 1, ?_⟩
    unfold topiaristlaw01_LexKinds.f
    rw [if_neg hs, hf]
    exact kinds_loop l h1 h2 h3 l.length _ 0 (by omega) (by omega) (by omega) (by omega)
end Go.Proofs.Ytfbncmcibfkfiaa.Pure
