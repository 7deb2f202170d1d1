/- Plain facts of lex: the statements' own example; what tokens are. No Go, no memory. -/
import Derived.Test.YtfbncmcibfkfiaaPx9
set_option linter.unusedVariables false
set_option linter.unusedSimpArgs false
namespace Go.Proofs.Ytfbncmcibfkfiaa.Pure
open Go.RowKit Go.Proofs.Ytfbncmcibfkfiaa.P Go.Proofs.YtfbncmcibfkfiaaW.PrintWords Go.Proofs.YtfbncmcibfkfiaaW.PrintLast Go.Proofs.Ytfbncmcibfkfiaa.Base
set_option maxRecDepth 100000 in
theorem wakes_true : topiaristlaw01_wakes.f = some true := by decide +kernel
theorem toks_count (s : ByteArray) (k i : Nat) (l : List (Int × ByteArray × Int)) (h : LexSpec.toks s k i = .ok l) : l.length ≤ s.size - i := by
  induction k generalizing i l with
  | zero => simp only [LexSpec.toks, Except.ok.injEq] at h; subst h; simp
  | succ k ih =>
    simp only [LexSpec.toks] at h
    split at h
    · rename_i hlt
      cases ht : LexSpec.token ((bytesOf s).drop i) with
      | none => simp only [ht] at h; cases h
      | some q =>
        obtain ⟨kd, a, b, n⟩ := q
        have hn := LexSpec.token_some _ _ _ _ _ ht
        simp only [ht] at h
        cases hs : LexSpec.toks s k (i + n + LexSpec.skip false ((bytesOf s).drop (i + n))) with
        | error e => rw [hs] at h; cases h
        | ok l' =>
          rw [hs] at h
          simp only [Except.ok.injEq] at h
          subst h
          have := ih _ _ hs
          simp
          omega
    · simp only [Except.ok.injEq] at h; subst h; simp
theorem toks_small (s : ByteArray) (k i : Nat) (l : List (Int × ByteArray × Int)) (h : LexSpec.toks s k i = .ok l) : ∀ q ∈ l, q.2.1.size ≤ s.size := by
  induction k generalizing i l with
  | zero => simp only [LexSpec.toks, Except.ok.injEq] at h; subst h; simp
  | succ k ih =>
    simp only [LexSpec.toks] at h
    split at h
    · rename_i hlt
      cases ht : LexSpec.token ((bytesOf s).drop i) with
      | none => simp only [ht] at h; cases h
      | some q =>
        obtain ⟨kd, a, b, n⟩ := q
        simp only [ht] at h
        cases hs : LexSpec.toks s k (i + n + LexSpec.skip false ((bytesOf s).drop (i + n))) with
        | error e => rw [hs] at h; cases h
        | ok l' =>
          rw [hs] at h
          simp only [Except.ok.injEq] at h
          subst h
          intro q hq
          rcases List.mem_cons.1 hq with rfl | hq
          · show (s.extract (i + a) (i + b)).size ≤ s.size
            rw [← bytesOf_length, bytesOf_extract, List.length_take, List.length_drop, bytesOf_length]
            omega
          · exact ih _ _ hs q hq
    · simp only [Except.ok.injEq] at h; subst h; simp
end Go.Proofs.Ytfbncmcibfkfiaa.Pure
