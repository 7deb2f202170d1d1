/- A text's tokens from a byte on, between two tokens. No Go, no memory. -/
import Derived.Test.YtfbncmcibfkfiaaLexPure
import Derived.Test.YtfbncmcibfkfiaaLexList
set_option linter.unusedVariables false
set_option linter.unusedSimpArgs false
namespace Go.Proofs.Ytfbncmcibfkfiaa.Pure
open Go.RowKit Go.Proofs.Ytfbncmcibfkfiaa.P Go.Proofs.YtfbncmcibfkfiaaW.PrintWords Go.Proofs.YtfbncmcibfkfiaaW.PrintLast Go.Proofs.Ytfbncmcibfkfiaa.Base

theorem bt_get (s : ByteArray) (i : Nat) : bt s (i : Int) = (bytesOf s).getD i 0 := by
  rw [← rd_bytesOf]; rfl
theorem wrap_nat (i : Nat) (h : i ≤ 4000000) : wrap64 ((i : Int) + 1) = ((i + 1 : Nat) : Int) := by unfold wrap64; omega
theorem getD_drop (l : List Int) (i j : Nat) : (l.drop i).getD j 0 = l.getD (i + j) 0 := by
  rw [List.getD_eq_getElem?_getD, List.getElem?_drop, ← List.getD_eq_getElem?_getD]

/-! ### the tokens -/
theorem toks_fuel (s : ByteArray) (k k' i : Nat) (h : s.size - i < k) (h' : s.size - i < k') : LexSpec.toks s k i = LexSpec.toks s k' i := by
  induction k generalizing k' i with
  | zero => omega
  | succ k ih =>
    obtain ⟨k', rfl⟩ : ∃ m, k' = m + 1 := ⟨k' - 1, by omega⟩
    simp only [LexSpec.toks]
    by_cases hi : i < s.size
    · rw [if_pos hi, if_pos hi]
      cases ht : LexSpec.token ((bytesOf s).drop i) with
      | none => simp only
      | some q =>
        obtain ⟨kd, a, b, n⟩ := q
        have hn := LexSpec.token_some _ _ _ _ _ ht
        simp only
        rw [ih k' _ (by omega) (by omega)]
    · rw [if_neg hi, if_neg hi]
/-- The tokens from a byte on, between two tokens; true: within a note. -/
def after (s : ByteArray) (b : Bool) (i : Nat) := LexSpec.toks s (s.size + 1) (i + LexSpec.skip b ((bytesOf s).drop i))
theorem after_end (s : ByteArray) (b : Bool) : after s b s.size = .ok [] := by
  unfold after
  rw [List.drop_of_length_le (by rw [bytesOf_length]; omega)]
  cases b <;> simp [LexSpec.skip, LexSpec.toks]
theorem drop_at (s : ByteArray) (i : Nat) (hi : i < s.size) : (bytesOf s).drop i = (bytesOf s).getD i 0 :: (bytesOf s).drop (i + 1) := by
  rw [drop_cons s i hi, bytesOf_getD s i hi]
theorem after_blank (s : ByteArray) (i : Nat) (hi : i < s.size) (h : (bytesOf s).getD i 0 = 32 ∨ (bytesOf s).getD i 0 = 9 ∨ (bytesOf s).getD i 0 = 10) : after s false i = after s false (i + 1) := by
  unfold after
  have hk : LexSpec.skip false ((bytesOf s).drop i) = LexSpec.skip false ((bytesOf s).drop (i + 1)) + 1 := by
    rw [drop_at s i hi]
    rcases h with h | h | h <;> rw [h] <;> rfl
  rw [hk, show i + (LexSpec.skip false ((bytesOf s).drop (i + 1)) + 1) = i + 1 + LexSpec.skip false ((bytesOf s).drop (i + 1)) from by omega]
theorem after_hash (s : ByteArray) (i : Nat) (hi : i < s.size) (h : (bytesOf s).getD i 0 = 35) : after s false i = after s true (i + 1) := by
  unfold after
  have hk : LexSpec.skip false ((bytesOf s).drop i) = LexSpec.skip true ((bytesOf s).drop (i + 1)) + 1 := by
    rw [drop_at s i hi, h]; rfl
  rw [hk, show i + (LexSpec.skip true ((bytesOf s).drop (i + 1)) + 1) = i + 1 + LexSpec.skip true ((bytesOf s).drop (i + 1)) from by omega]
theorem after_note (s : ByteArray) (i : Nat) (hi : i < s.size) : after s true i = if (bytesOf s).getD i 0 = 10 then after s false i else after s true (i + 1) := by
  by_cases h : (bytesOf s).getD i 0 = 10
  · rw [if_pos h]
    unfold after
    rw [drop_at s i hi, h]
    rfl
  · rw [if_neg h]
    unfold after
    have hk : LexSpec.skip true ((bytesOf s).drop i) = LexSpec.skip true ((bytesOf s).drop (i + 1)) + 1 := by
      rw [drop_at s i hi, LexSpec.skip, if_neg (by simpa using h)]
    rw [hk, show i + (LexSpec.skip true ((bytesOf s).drop (i + 1)) + 1) = i + 1 + LexSpec.skip true ((bytesOf s).drop (i + 1)) from by omega]
def noBlank (c : Int) : Prop := ¬ c = 32 ∧ ¬ c = 9 ∧ ¬ c = 10 ∧ ¬ c = 35
theorem after_none (s : ByteArray) (i : Nat) (hi : i < s.size) (h : noBlank ((bytesOf s).getD i 0)) (ht : LexSpec.token ((bytesOf s).drop i) = none) : after s false i = .error i := by
  have hk : LexSpec.skip false ((bytesOf s).drop i) = 0 := by
    rw [drop_at s i hi]
    generalize (bytesOf s).getD i 0 = c at h
    obtain ⟨h1, h2, h3, h4⟩ := h
    simp [LexSpec.skip, h1, h2, h3, h4]
  unfold after
  rw [hk, Nat.add_zero i]
  simp only [LexSpec.toks, if_pos hi, ht]
theorem after_some (s : ByteArray) (i : Nat) (hi : i < s.size) (h : noBlank ((bytesOf s).getD i 0)) (kd : Int) (a b n : Nat) (ht : LexSpec.token ((bytesOf s).drop i) = some (kd, a, b, n)) :
    after s false i = LexSpec.joined [(kd, s.extract (i + a) (i + b), (i : Int))] (after s false (i + n)) := by
  have hk : LexSpec.skip false ((bytesOf s).drop i) = 0 := by
    rw [drop_at s i hi]
    generalize (bytesOf s).getD i 0 = c at h
    obtain ⟨h1, h2, h3, h4⟩ := h
    simp [LexSpec.skip, h1, h2, h3, h4]
  have hn := LexSpec.token_some _ _ _ _ _ ht
  unfold after
  rw [hk, Nat.add_zero i]
  rw [toks_fuel s (s.size + 1) (s.size + 2) (i + n + LexSpec.skip false ((bytesOf s).drop (i + n))) (by omega) (by omega), toks_fuel s (s.size + 1) (s.size + 3) i (by omega) (by omega)]
  have := LexSpec.joined_step s (s.size + 2) i [] kd a b n hi ht
  rw [List.nil_append] at this
  rw [← this]
  cases LexSpec.toks s (s.size + 2 + 1) i <;> simp [LexSpec.joined]
def fin (acc : List S36) : Except Nat (List (Int × ByteArray × Int)) → List S36 × Int × Int
  | .ok l => (acc ++ l.map tok, 0, 0)
  | .error e => ([], 11, (e : Int))
theorem fin_joined (acc : List S36) (q : Int × ByteArray × Int) (r : Except Nat (List (Int × ByteArray × Int))) : fin acc (LexSpec.joined [q] r) = fin (acc ++ [tok q]) r := by
  cases r <;> simp [fin, LexSpec.joined]

theorem tokens_some (s : ByteArray) : ∃ l r2 r3, lex_Tokens.f s = some (l, r2, r3) ∧ l.length ≤ 4000 := by
  unfold lex_Tokens.f
  by_cases hs : 2000 < s.size
  · exact ⟨[], 14, 0, by rw [if_pos hs], by simp⟩
  · rw [if_neg hs]
    cases hto : LexSpec.tokens s with
    | error e => exact ⟨[], 11, _, rfl, by simp⟩
    | ok l =>
      have hc := toks_count s _ _ _ hto
      exact ⟨l.map tok, 0, 0, rfl, by rw [List.length_map]; omega⟩


/-- More rounds than enough: true. -/
def Evt (f : Nat → Option Bool) : Prop := ∃ K, ∀ k, K ≤ k → f k = some true
theorem Evt.step {f g : Nat → Option Bool} (h : ∀ k, f (k + 1) = g k) (H : Evt g) : Evt f := by
  obtain ⟨K, H⟩ := H
  refine ⟨K + 1, fun k hk => ?_⟩
  obtain ⟨k, rfl⟩ : ∃ m, k = m + 1 := ⟨k - 1, by omega⟩
  rw [h k]; exact H k (by omega)
theorem Evt.now {f : Nat → Option Bool} (h : ∀ k, f (k + 1) = some true) : Evt f := by
  refine ⟨1, fun k hk => ?_⟩
  obtain ⟨k, rfl⟩ : ∃ m, k = m + 1 := ⟨k - 1, by omega⟩
  exact h k
theorem Evt.get {f : Nat → Option Bool} (H : Evt f) : ∃ k, f k = some true := by
  obtain ⟨K, H⟩ := H
  exact ⟨K, H K (Nat.le_refl _)⟩
theorem token_shape (l : List Int) (kd : Int) (a b n : Nat) (h : LexSpec.token l = some (kd, a, b, n)) : (kd = 2 ∧ a = 1 ∧ b + 1 = n ∧ 2 ≤ n ∧ l.getD 0 0 = 39 ∧ l.getD b 0 = 39) ∨ (kd ≠ 2 ∧ a = 0 ∧ b = n) := by
  cases l with
  | nil => cases h
  | cons c cs =>
    simp only [LexSpec.token] at h
    split at h
    · split at h
      · simp only [Option.some.injEq, Prod.mk.injEq] at h
        obtain ⟨rfl, rfl, rfl, rfl⟩ := h
        exact .inr ⟨by decide, rfl, rfl⟩
      · cases h
    · split at h
      · rename_i hq
        split at h
        · rename_i hc
          simp only [Option.some.injEq, Prod.mk.injEq] at h
          obtain ⟨rfl, rfl, rfl, rfl⟩ := h
          simp only [Bool.and_eq_true, decide_eq_true_eq, beq_iff_eq] at hc hq
          refine .inl ⟨rfl, rfl, rfl, by omega, by simpa using hq, ?_⟩
          have := hc.2.2
          simpa using this
        · cases h
      · split at h
        · rename_i hs
          simp only [Option.some.injEq, Prod.mk.injEq] at h
          obtain ⟨rfl, rfl, rfl, rfl⟩ := h
          refine .inr ⟨?_, rfl, rfl⟩
          unfold LexSpec.sign
          split
          · decide
          · split
            · decide
            · split <;> decide
        · cases h
theorem after_case (s : ByteArray) (i : Nat) (hi : i ≤ s.size) (R : List (Int × ByteArray × Int)) (h : after s false i = .ok R) :
    (i + LexSpec.skip false ((bytesOf s).drop i) = s.size ∧ R = []) ∨
    ∃ kd a b n R', i + LexSpec.skip false ((bytesOf s).drop i) < s.size ∧ LexSpec.token ((bytesOf s).drop (i + LexSpec.skip false ((bytesOf s).drop i))) = some (kd, a, b, n) ∧
      R = (kd, s.extract (i + LexSpec.skip false ((bytesOf s).drop i) + a) (i + LexSpec.skip false ((bytesOf s).drop i) + b), ((i + LexSpec.skip false ((bytesOf s).drop i) : Nat) : Int)) :: R' ∧ after s false (i + LexSpec.skip false ((bytesOf s).drop i) + n) = .ok R' := by
  have hsk := LexSpec.skip_le false ((bytesOf s).drop i)
  rw [List.length_drop, bytesOf_length] at hsk
  have hle : i + LexSpec.skip false ((bytesOf s).drop i) ≤ s.size := by omega
  unfold after at h
  clear hsk
  generalize i + LexSpec.skip false ((bytesOf s).drop i) = m at *
  by_cases hm : m < s.size
  · right
    simp only [LexSpec.toks, if_pos hm] at h
    cases ht : LexSpec.token ((bytesOf s).drop m) with
    | none => simp only [ht] at h; cases h
    | some q =>
      obtain ⟨kd, a, b, n⟩ := q
      have hn := LexSpec.token_some _ _ _ _ _ ht
      simp only [ht] at h
      cases hr : LexSpec.toks s s.size (m + n + LexSpec.skip false ((bytesOf s).drop (m + n))) with
      | error e => rw [hr] at h; cases h
      | ok R' =>
        rw [hr] at h
        simp only [Except.ok.injEq] at h
        refine ⟨kd, a, b, n, R', hm, rfl, h.symm, ?_⟩
        unfold after
        rw [toks_fuel s (s.size + 1) s.size _ (by omega) (by omega), hr]
  · left
    simp only [LexSpec.toks, if_neg hm, Except.ok.injEq] at h
    exact ⟨by omega, h.symm⟩
end Go.Proofs.Ytfbncmcibfkfiaa.Pure
